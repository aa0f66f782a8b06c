/- CutRecovers: the walk. -/
import Derived.Test.YtjpknhhdkjhjfaaFront
import Derived.Test.YtjpknhhdkjhjfaaLogs
namespace Go.Proofs.Ytjpknhhdkjhjfaa
open Go.RowKit
set_option linter.unusedVariables false

theorem stamps_take {W : World} {S : Nat → Prop} {A : Option Addr} {l : List Stp} (h : Stamps W S A l) (k : Nat) : Stamps W S A (l.take k) := by
  refine ⟨by rw [List.length_take]; have := h.1; omega, fun hn => ?_⟩
  rw [List.length_take] at hn
  obtain ⟨b, off, e, hb, hc⟩ := h.2 (by omega)
  refine ⟨b, off, e, hb, fun j hj => ?_⟩
  rw [List.length_take] at hj
  have e2 : (l.take k).getD j nilS = l.getD j nilS := by simp only [List.getD, List.getElem?_take_of_lt (show j < k by omega)]
  rw [e2]
  exact hc j (by omega)

/-- The header of the lists that are left. -/
structure LeftTo (W : World) (gl : Nat) (S : Nat → Prop) (L : List (List Stp)) (x : List Int) (k : Nat) (xs : List Value) : Prop where
  blk : W.heap[gl]? = some (.cells xs.toArray 31 (0, 0))
  len : xs.length = L.length
  dn : ∀ i, i < k → ∃ A c, xs.getD i undef = .slice A ((L.getD i []).take (x.getD i 0).toNat).length c ∧ Stamps W S A (L.getD i [])
theorem LeftTo.cell {W : World} {gl : Nat} {S : Nat → Prop} {L : List (List Stp)} {x : List Int} {k : Nat} {xs : List Value} (h : LeftTo W gl S L x k xs) {i : Nat} (hi : i < L.length) : W.cell? ⟨gl, i, none⟩ = some (xs.getD i undef) := by
  have : i < xs.length := by rw [h.len]; exact hi
  simp only [World.cell?, h.blk]
  simp [this]
theorem LeftTo.frozen {W : World} {gl : Nat} {S : Nat → Prop} {L : List (List Stp)} {x : List Int} {k : Nat} {xs : List Value} (h : LeftTo W gl S L x k xs) (i : Nat) : W.frozen? ⟨gl, i, none⟩ = false := by simp [World.frozen?, h.blk]
theorem LeftTo.step {W W' : World} {gl : Nat} {S : Nat → Prop} {L : List (List Stp)} {x : List Int} {k : Nat} {xs : List Value} (h : LeftTo W gl S L x k xs) (hk : k < L.length) (hS : ∀ b, S b → b ≠ gl) {A : Option Addr} {n c : Nat} (hn : n = ((L.getD k []).take (x.getD k 0).toNat).length) (hst : Stamps W S A (L.getD k [])) (hW : W'.heap = W.heap) :
    LeftTo (W'.setCell ⟨gl, k, none⟩ (.slice A n c)) gl S L x (k + 1) (xs.set k (.slice A n c)) := by
  have hkx : k < xs.length := by rw [h.len]; exact hk
  have hs : Same S W (W'.setCell ⟨gl, k, none⟩ (.slice A n c)) := fun b hb => (Below.heap_setCell _ ⟨gl, k, none⟩ _ b (hS b hb)).trans (by rw [hW])
  refine ⟨?_, by simpa using h.len, fun i hi => ?_⟩
  · simp [World.setCell, Array.getElem?_modify, hW, h.blk]
  · rw [getD_setV _ _ _ _ hkx]
    by_cases e : i = k
    · rw [if_pos e, e]
      exact ⟨A, c, by rw [hn], hst.keep hs⟩
    · rw [if_neg e]
      obtain ⟨A', c', h1, h2⟩ := h.dn i (by omega)
      exact ⟨A', c', h1, h2.keep hs⟩
theorem LeftTo.logs {W : World} {gl : Nat} {S : Nat → Prop} {L : List (List Stp)} {x : List Int} {k : Nat} {xs : List Value} (h : LeftTo W gl S L x k xs) (hk : L.length ≤ k) (hL : L.length ≤ 17592186044416) : Logs W (fun b => S b ∨ b = gl) (some ⟨gl, 0, none⟩) (truncL L x) := by
  refine ⟨by rw [trunc_len]; exact hL, fun _ => ⟨gl, 0, rfl, .inr rfl, fun i hi => ?_⟩⟩
  rw [trunc_len] at hi
  obtain ⟨A, c, h1, h2⟩ := h.dn i (by omega)
  rw [trunc_getD hi, Nat.zero_add]
  exact ⟨A, c, (h.cell hi).trans (by rw [h1]), (stamps_take h2 _).more (fun b hb => .inl hb)⟩

set_option maxRecDepth 100000 in
set_option maxHeartbeats 4000000 in
theorem recovers_walk (a0 : Option Addr) (len0 cap0 : Nat) (z0 : List Int) (w : World) (w0 : IsRow .u8 w a0 len0 cap0 z0) :
    Calls Try.prog 5 #[.slice a0 len0 cap0] w fun e w' => e = .returned (.bool true) ∧ Below w.heap.size w w' := by
  go_enter Try.func5, Try.ntmps5
  go_wp2_with fail
  refine (new_any a0 len0 cap0 z0 90 w (by omega) w0).mono ?_
  rintro e w1 ⟨g, rfl, hg, hc1, hb1⟩
  have HB1 := Lib.hid hb1
  have HC1 := Lib.hid hc1
  have hgl := hc1.lt
  clear hb1 hc1 w0
  go_wp2_with fail
  refine (logs_any g w1 HC1.out).mono ?_
  rintro e w2 ⟨base, H, L, vs, rfl, hb0, hb1, hm1, hm4, hll, hval, hmem, hcs, hgr⟩
  have HS2 := Lib.hid (lst_of HB1.out hg hgl hb0 hb1 hm1 hm4 hll hval hmem hcs hgr)
  have HVAL := Lib.hid hval
  clear hll hval hmem hcs hgr HB1 HC1
  go_wp2_with fail
  refine (cut_l HS2.out).mono ?_
  rintro e w3 ⟨x, rfl, hh, hst, hgr⟩
  have HS3 := Lib.hid hst
  have HX3 := Lib.hid hh
  clear hh hst hgr HS2
  have hmk := run_make_logs L.length (by omega)
  have HS4 := Lib.hid (HS3.out.keep ((Below.refl _ _).alloc (Nat.le_refl _) (.cells (nilCells L.length) 31)))
  have HX4 := Lib.hid (HX3.out.keep ((Below.refl _ _).alloc (Nat.le_refl _) (.cells (nilCells L.length) 31)))
  have hgw3 := HS3.out.cs.lt
  go_wp2_with fail
  clear hmk
  go_loopw [28] (fun i W => ∃ (k : Nat) (xs : List Value), k ≤ L.length ∧ i = .int .i64 k ∧ LeftTo W w3.heap.size (fun b => g < b ∧ b < w3.heap.size) L x k xs ∧ Below w3.heap.size w3 W) (fun i _ => L.length - (intOf i).toNat)
  case atStart => exact ⟨0, List.replicate L.length (.slice none 0 0), Nat.zero_le _, rfl, ⟨heap_alloc_new _ _, by simp, fun i hi => absurd hi (by omega)⟩, (Below.refl _ _).alloc (Nat.le_refl _) _⟩
  case round =>
    obtain ⟨k, xs, hk, rfl, hleft, hbel⟩ := hrel
    have HLEFT := Lib.hid hleft
    have HBEL := Lib.hid hbel
    by_cases hkl : k < L.length
    · obtain ⟨A1, c1, h1, h2⟩ := HS3.out.caps k hkl
      have h1' : wr.cell? ⟨H, k, none⟩ = some (.slice A1 (L.getD k []).length c1) := (hbel.cell (p := ⟨H, k, none⟩) HS3.out.hH.2).trans h1
      obtain ⟨b3, o3, A', c', e3, hb3, c3, hs⟩ := (HS3.out.logs.keep (Same.of_below hbel (fun b hb => hb.2))).at_ hkl
      injection e3 with e3
      injection e3 with e3 e4
      subst e3 e4
      rw [Nat.zero_add, h1'] at c3
      injection c3 with c3
      injection c3 with c3 _ c4
      subst c3 c4
      obtain ⟨b5, o5, e5, hb5, c5⟩ := (HX3.out.2.keep (Same.of_below hbel (fun b hb => hb.2))).at_ (show k < x.length by rw [HX3.out.1.1]; exact hkl)
      injection e5 with e5
      injection e5 with e5 e6
      subst e5 e6
      rw [Nat.zero_add] at c5
      obtain ⟨hx0, hx1⟩ := HX3.out.1.2 k hkl
      have c6 := hleft.cell hkl
      have f6 := hleft.frozen k
      have HST := Lib.hid hs
      have hne1 : H ≠ w3.heap.size := by have := HS3.out.hH.2; omega
      have HLT := Lib.hid (show ((L.getD k []).take (x.getD k 0).toNat).length = (x.getD k 0).toNat by rw [List.length_take]; omega)
      clear hs hleft hbel h1
      generalize (L.getD k []).length = len at h1' h2 hx1
      generalize xs.getD k undef = ov at c6
      generalize hxk : x.getD k 0 = xk at c5 hx0 hx1
      have HXK := Lib.hid hxk
      clear hxk
      obtain ⟨q, rfl⟩ := Int.eq_ofNat_of_zero_le hx0
      have hqc : (q : Int) ≤ c1 := by omega
      go_wp2_with fail
      go_region
      go_wp2_with fail
      go_roundw
      case rel =>
        refine ⟨k + 1, xs.set k (.slice A1 q c1), by omega, by go_num, ?_, (HBEL.out.setCell (p := ⟨w3.heap.size, k, none⟩) (Nat.le_refl _) _).drew⟩
        refine LeftTo.step (W' := wr.drew) HLEFT.out hkl (fun b hb => by show b ≠ w3.heap.size; omega) ?_ HST.out rfl
        rw [HLT.out, HXK.out, Int.toNat_natCast]
      case measure => simp [intOf]; omega
    · have HLG := Lib.hid (HLEFT.out.logs (by omega) (by omega))
      have hgl3 := lt_of_heap HLEFT.out.blk
      have HSW := Lib.hid (HS3.out.keep hbel)
      have HXW := Lib.hid (HX3.out.keep hbel)
      have hzw := hbel.size
      have HERR := Lib.hid (show errOf base (truncL L x) = 0 from errOf_ok (by unfold BadArg; rw [trunc_len]; omega) (trunc_valid HVAL.out))
      have HTL := Lib.hid (trunc_len (L := L) (x := x))
      clear hleft hbel HLEFT HS3 HS4 HX3 HX4
      go_wp2_with fail
      have hw := Whole_any (some ⟨w3.heap.size, 0, none⟩) L.length (truncL L x) base _ wr HLG.out (fun b hb => by rcases hb with hb | hb <;> omega)
      rw [trunc_len] at hw
      refine hw.mono ?_
      clear hw
      rintro e w5 ⟨n, rfl, hn1, _, hb5⟩
      have HN := Lib.hid (hn1 HERR.out).1
      have HS5 := Lib.hid (HSW.out.keep hb5)
      have HX5 := Lib.hid (HXW.out.keep hb5)
      rw [HERR.out]
      clear hn1 hb5 HSW HXW HLG
      go_wp2_with fail
      refine (floor_l HS5.out HX5.out).mono ?_
      rintro e w6 ⟨m, rfl, hm, hb6⟩
      have HS6 := Lib.hid (HS5.out.keep hb6)
      obtain rfl : n = m := isLast_unique HN.out (trunc_last HVAL.out HX5.out.1 hm)
      clear hm hb6
      go_wp2_with fail
      refine (begun_any _).mono ?_
      rintro e w7 ⟨rfl, hb6⟩
      have HBZ := Lib.hid (HS6.out.keep hb6).bel
      clear hb6
      go_wp2_with fail
      go_ret
      exact ⟨rfl, HBZ.out⟩
end Go.Proofs.Ytjpknhhdkjhjfaa
