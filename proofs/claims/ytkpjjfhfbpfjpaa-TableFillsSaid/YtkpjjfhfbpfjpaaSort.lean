/- Contracts: slices.IndexFunc and slices.Clone over changes. -/
import Derived.Test.YtkpjjfhfbpfjpaaNetC
import Derived.Test.YtkpjjfhfbpfjpaaIns
namespace Go.Proofs.Ytkpjjfhfbpfjpaa
open Go.RowKit
set_option linter.unusedVariables false
set_option linter.unusedSimpArgs false

theorem encChg_plain (c : Chg) : (encChg c).Plain := by simp [encChg, encRow, Dat.Plain, Dat.PlainAll, Value.oneCell']
theorem infoC : (Try.prog.info? 53).map (fun i => (i.zero, i.size, i.bytes)) = some (some (.agg #[.int .i64 0, .slice none 0 0, .slice none 0 0]), 3, 56) := by kernel_rfl

set_option maxRecDepth 100000 in
set_option maxHeartbeats 1000000 in
theorem index_any (A0 : Option Addr) (c0' : Nat) (s : Sch) (m : Int) (gs gm : Nat) (A : Option Addr) (ca : Nat) (l : List Chg) (S : Nat → Prop) (w : World) (hc : CapS w s A0 c0' gs) (hm : w.cell? ⟨gm, 0, none⟩ = some (.int .i64 m)) (hgm : gm < w.heap.size) (hs : TabS w S A0 s.tabs) (hl : ChgS w S A l) (hS : ∀ b, S b → b < w.heap.size) :
    Calls Try.prog 73 #[.slice A l.length ca, .func (.func 74) #[] #[.pointer (some ⟨gs, 0, none⟩), .pointer (some ⟨gm, 0, none⟩)]] w (IntBel (badI s m l) w) := by
  have hll := hl.len
  have HC := Lib.hid hc
  have HM := Lib.hid hm
  have HS := Lib.hid hs
  have HL := Lib.hid hl
  have hgl := goodN_le s m l
  have HGV := Lib.hid (goodN_valid s m l)
  have HGS := Lib.hid (goodN_stop s m l)
  have HBI := Lib.hid (show badI s m l = if goodN s m l < l.length then (goodN s m l : Int) else -1 from rfl)
  generalize goodN s m l = gn at hgl HGV HGS HBI
  clear hc hm hs hl
  go_enter Try.func73, Try.ntmps73
  go_wp2_with fail
  go_loopw [8] (fun i wr => ∃ k : Nat, k ≤ gn ∧ i = .int .i64 k ∧ Below w.heap.size w wr) (fun i _ => l.length - (intOf i).toNat)
  case atStart => exact ⟨0, Nat.zero_le _, rfl, Below.refl _ _⟩
  case round =>
    obtain ⟨k, hk, rfl, hbel⟩ := hrel
    have HB := Lib.hid hbel
    have hsz := hbel.size
    clear hbel
    by_cases hkl : k < l.length
    · obtain ⟨b2, o2, rfl, hb2, d0, A1, c1, A2, c2, d1, e1, hR1, d2, e2, hR2⟩ := (HL.out.keep (Same.of_below HB.out hS)).at_ hkl
      have HCV := Lib.hid (show ChV wr S (l.getD k chg0) A1 c1 A2 c2 from ⟨hR1, e1, hR2, e2⟩)
      have HGVk := Lib.hid (HGV.out k)
      have HSTK := Lib.hid (show k = gn → validC s m (l.getD k chg0) = false from fun e => by have := HGS.out (by omega); rwa [← e] at this)
      have hl2 : b2 < wr.heap.size := by have := hS b2 hb2; omega
      have hn1 := hR1.len
      have hn2 := hR2.len
      clear hR1 hR2 e1 e2
      generalize l.getD k chg0 = ch at d0 d1 d2 HCV HGVk HSTK hn1 hn2
      obtain ⟨t, old, new⟩ := ch
      simp only at d0 d1 d2 hn1 hn2
      go_wp2_with fail
      refine (net1_any A0 c0' s m gs gm ⟨t, old, new⟩ A1 c1 A2 c2 S _ (HC.out.keep (HB.out.block gs HC.out.ls) hsz) ((HB.out.cell (p := ⟨gm, 0, none⟩) hgm).trans HM.out) (by omega) (HS.out.keep (Same.of_below HB.out hS)) HCV.out (fun b hb => by have := hS b hb; omega)).mono ?_
      rintro e w1 ⟨rfl, hb1⟩
      have HB1 := Lib.hid (HB.out.trans (hb1.mono hsz))
      clear hb1 d0 d1 d2
      by_cases hv : validC s m ⟨t, old, new⟩ = true
      · have hkg : k < gn := by
          rcases Nat.lt_or_eq_of_le hk with h | h
          · exact h
          · have := HSTK.out h; rw [hv] at this; cases this
        rw [hv]
        clear hv
        go_wp2_with fail
        go_roundw
        case rel => exact ⟨k + 1, by omega, by go_num, HB1.out⟩
        case measure => simp [intOf]; omega
      · have hv' : validC s m ⟨t, old, new⟩ = false := by simpa using hv
        have hkg : k = gn := by
          rcases Nat.lt_or_eq_of_le hk with h | h
          · have := HGVk.out h; rw [hv'] at this; cases this
          · exact h
        have HF := Lib.hid (show badI s m l = k by rw [HBI.out, if_pos (by omega), hkg])
        rw [hv']
        clear hv hv' hkg
        go_wp2_with fail
        go_ret
        exact ⟨by rw [HF.out]; rfl, HB1.out⟩
    · have HF := Lib.hid (show badI s m l = -1 by rw [HBI.out, if_neg (by omega)])
      go_wp2_with fail
      go_ret
      exact ⟨by rw [HF.out]; rfl, HB.out⟩

/-- New changes: a slice of the call's own; their rows where they were. -/
def NewC (S : Nat → Prop) (l : List Chg) (w : World) (e : Ending) (w' : World) : Prop := ∃ A c, e = .returned (.slice A l.length c) ∧ OwnD w' w.heap.size 53 3 S (.slice A l.length c) (l.map encChg) ∧ Below w.heap.size w w'
theorem ownsRow_base {w : World} {base base' size n : Nat} {e : TypeId} {v : Value} {xs : List Value} (h : w.ownsRow base e size v n xs) (hb : base' ≤ base) : w.ownsRow base' e size v n xs := by
  refine ⟨h.1, ?_⟩
  rcases h.2 with h0 | ⟨g, cap, cur, h1, h2, h3⟩
  · exact .inl h0
  · exact .inr ⟨g, cap, cur, h1, by omega, h3⟩
theorem own_of_row {w w' : World} {S : Nat → Prop} {l : List Chg} {vs : List Value} {base g n cap : Nat} (hv : Dat.ValsAll w S (l.map encChg) vs) (hk : Same S w w') (hS : ∀ b, S b → b < base ∧ b < w'.heap.size) (hown : w'.ownsRow base 53 3 (.slice (some ⟨g, 0, none⟩) n cap) n vs) (hn : n = l.length) : OwnD w' base 53 3 S (.slice (some ⟨g, 0, none⟩) n cap) (l.map encChg) := by
  subst hn
  refine ⟨vs, by rw [List.length_map]; exact hown, Dat.ValsAll.keep hk _ _ hv, fun b hb => ⟨(hS b hb).2, fun e => ?_⟩⟩
  have e' : b = g := by simpa [Value.ownBlock] using e
  have h1 : base ≤ g := own_base hown rfl
  have := (hS b hb).1
  omega

set_option maxRecDepth 100000 in
set_option maxHeartbeats 1000000 in
theorem cloneC_any (A : Option Addr) (ca : Nat) (l : List Chg) (S : Nat → Prop) (w : World) (hl : ChgS w S A l) (hS : ∀ b, S b → b < w.heap.size) :
    Calls Try.prog 75 #[.slice A l.length ca] w (NewC S l w) := by
  have hll := hl.len
  obtain ⟨i0, hi, hz0, hz1, hz2⟩ := info_parts infoC
  have hnil := fun (w : World) (a : Option Addr) (n c : Nat) => Lib.run_eql_slice_nil (P := Try.prog) w 48 53 a n c 0 0 Try.underlying48
  cases A with
  | none =>
    have h0 : l = [] := by
      cases l with
      | nil => rfl
      | cons c r => obtain ⟨b, off, e, _⟩ := hl.2 (by simp); cases e
    subst h0
    clear hl
    go_enter Try.func75, Try.ntmps75
    go_wp2_with fail
    go_ret
    exact ⟨none, 0, rfl, OwnD.nil_ hS, Below.refl _ _⟩
  | some ad =>
    rcases Nat.eq_zero_or_pos l.length with h0 | h0
    · have hr : l = [] := List.length_eq_zero_iff.1 h0
      subst hr
      clear hl
      go_enter Try.func75, Try.ntmps75
      go_wp2_with (at_builtin; refine wpList_append_none _ rfl (.tmp 5) (.tmp 6) 48 rfl 53 i0 Try.underlying48 hi _ 0 rfl _ ca rfl ?_)
      go_ret
      refine ⟨some ⟨w.heap.size, 0, none⟩, 0, rfl, ⟨[], ⟨rfl, .inr ⟨w.heap.size, 0, #[], rfl, Nat.le_refl _, heap_alloc_new w _, Nat.le_refl _, by unfold maxLen; omega, rfl, rfl⟩⟩, by simp only [List.map_nil]; unfold Dat.ValsAll; rfl, fun b hb => ⟨by have := hS b hb; simp; omega, fun e => ?_⟩⟩, (Below.refl _ _).alloc (Nat.le_refl _) _⟩
      have e' : b = w.heap.size := by simpa [Value.ownBlock] using e
      have := hS b hb
      omega
    · obtain ⟨vs, hvs, hvc⟩ := Sl.vals hl
      obtain ⟨b, off, e, hb, hc⟩ := hvc (by simpa using h0)
      injection e with e
      subst e
      have hvl : vs.length = l.length * 3 := by rw [Dat.ValsAll.len _ _ hvs, sizes_map encChg_size]
      have HVS := Lib.hid hvs
      have HVL := Lib.hid hvl
      have HONE := Lib.hid (Dat.ValsAll.one _ _ (plainAll_map encChg_plain l) hvs)
      have HCC := Lib.hid hc
      clear hl hvs hvc hvl hc
      go_enter Try.func75, Try.ntmps75
      have HNEWS := Lib.hid ((HCC.out.keep (w' := w.alloc (.cells #[] 53)) (Below.heap_alloc w _ b (hS b hb))).add)
      go_wp2_with (at_builtin; refine wpList_append_full _ rfl (.tmp 5) (.tmp 6) 48 rfl 53 i0 _ 3 56 Try.underlying48 hi hz0 hz1 hz2 rfl (by decide) (some ⟨w.heap.size, 0, none⟩) 0 [] rfl rfl (fun h => absurd h (by omega)) ⟨b, off, none⟩ l.length ca vs rfl HVL.out HNEWS.out h0 (by unfold maxLen; omega) (by omega) ?_; intro cap4 w4 hown4 hg4 hs4)
      rw [List.nil_append, Nat.zero_add] at hown4
      go_ret
      have hb4 : Below w.heap.size w w4 := ((Below.refl w.heap.size w).alloc (Nat.le_refl _) _).grown hg4 (by simp) (fun _ h => by cases h)
      have hs4' : w4.heap.size = w.heap.size + 1 + 1 := by rw [hs4, World.size_alloc]
      have h9 := own_of_row HVS.out (Same.of_below hb4 hS) (fun b hb => ⟨by have := hS b hb; simp; omega, by have := hS b hb; omega⟩) hown4 rfl
      rw [World.size_alloc] at h9
      obtain ⟨vals, q1, q2, q3⟩ := h9
      exact ⟨some ⟨w.heap.size + 1, 0, none⟩, cap4, rfl, ⟨vals, ownsRow_base q1 (by omega), q2, q3⟩, hb4⟩
end Go.Proofs.Ytkpjjfhfbpfjpaa
