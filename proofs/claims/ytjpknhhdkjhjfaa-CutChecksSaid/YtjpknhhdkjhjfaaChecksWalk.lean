/- CutChecks: the walk. -/
import Derived.Test.YtjpknhhdkjhjfaaMut
import Derived.Test.YtjpknhhdkjhjfaaLogs
import Derived.Test.YtjpknhhdkjhjfaaBegun
import Derived.Test.YtjpknhhdkjhjfaaRCheck
import Derived.Test.YtjpknhhdkjhjfaaRaw
import Derived.Test.YtjpknhhdkjhjfaaUntil2
namespace Go.Proofs.Ytjpknhhdkjhjfaa
open Go.RowKit
set_option linter.unusedVariables false
set_option linter.unusedSimpArgs false

theorem logs_keep {W W' : World} {A : Option Addr} {L : List (List Stp)} (h : Logs W (Lt W) A L) (hb : Below W.heap.size W W') : Logs W' (Lt W') A L := (h.keep (Same.of_below hb (fun b h => h))).more (fun b h => Nat.lt_of_lt_of_le h hb.size)
theorem len_set {L : List (List Stp)} {i m : Nat} {l : List Stp} (h : ∀ i, i < L.length → (L.getD i []).length ≤ m) (hi : i < L.length) (hl : l.length ≤ m) : ∀ a, a < (L.set i l).length → ((L.set i l).getD a []).length ≤ m := by
  intro a ha
  rw [List.length_set] at ha
  rw [getD_setL _ _ _ _ hi]
  by_cases e : a = i
  · rw [if_pos e]; exact hl
  · rw [if_neg e]; exact h a ha
theorem sh_len4 {base : Int} {L : List (List Stp)} {i k : Nat} (hv : Valid base L) (hi : i < L.length) (hk : k < (L.getD i []).length) : 0 < (stp L i k).2.length ∧ (stp L i k).2.length ≤ L.length := by
  have h := (hv.ok i hi).2 _ (stp_mem hk)
  refine ⟨?_, sh_len ⟨h.1, h.2.1⟩⟩
  rcases Nat.eq_zero_or_pos (stp L i k).2.length with e | e
  · have := h.2.2
    rw [List.length_eq_zero_iff] at e
    rw [e] at this
    simp at this
  · exact e

set_option maxRecDepth 100000 in
set_option maxHeartbeats 8000000 in
theorem checks_walk (rb : Int) (AR : Option Addr) (cr : Nat) (LR : List (List Stp)) (a2 : Option Addr) (len2 cap2 : Nat) (z2 : List Int) (at_ by_ : Int) (w : World)
    (hwf : (Lit.int .i64 rb).wf = true) (hLR : Logs w (Lt w) AR LR) (hcr : LR.length ≤ cr) (hcp : CapsOk w AR LR) (w2 : IsRow .u8 w a2 len2 cap2 z2) (hwf3 : (Lit.int .i64 at_).wf = true) (hwf4 : (Lit.int .i64 by_).wf = true) :
    Calls Try.prog 3 #[.int .i64 rb, .slice AR LR.length cr, .slice a2 len2 cap2, .int .i64 at_, .int .i64 by_] w fun e w' => e = .returned (.bool true) ∧ Below w.heap.size w w' := by
  have HLR := Lib.hid hLR
  clear hLR hwf hcp hwf3 hwf4
  go_enter Try.func3, Try.ntmps3
  go_wp2_with fail
  refine (new_any a2 len2 cap2 z2 80 w (by omega) w2).mono ?_
  rintro e w1 ⟨g, rfl, hg, hc1, hb1⟩
  have HB1 := Lib.hid hb1
  have HC1 := Lib.hid hc1
  have hgl := hc1.lt
  clear hb1 hc1 w2
  go_wp2_with fail
  refine (logs_any g w1 HC1.out).mono ?_
  rintro e w2 ⟨base, H, L, vs, rfl, hb0, hb1, hm1, hm4, hll, hval, hmem, hcs, hgr⟩
  obtain ⟨B, hB⟩ : ∃ B, B = w1.heap.size := ⟨_, rfl⟩
  rw [← hB] at hgl hmem
  have HM2 := Lib.hid (show MSt B g H w w2 L from ⟨⟨vs, hmem⟩, hcs, HB1.out.grown hgr HB1.out.size (fun k e => by injection e with e; omega), hg, hgl, hm1, hm4, fun i hi => by have := hll i hi; omega⟩)
  have HVAL := Lib.hid hval
  have HE := Lib.hid (show errOf base L = 0 from errOf_ok (by unfold BadArg; omega) hval)
  clear hmem hcs hgr HB1 HC1 hval hB
  go_wp2_with fail
  refine (check_any (some ⟨H, 0, none⟩) L.length L base (Lt w2) w2 HM2.out.logs (fun b hb => hb)).mono ?_
  rintro e w3 ⟨rfl, hb3⟩
  have HM3 := Lib.hid (HM2.out.keep hb3)
  rw [HE.out]
  clear hb3 HM2
  go_wp2_with fail
  refine (int_any g (L.length : Int) w3 (by omega) HM3.out.cs).mono ?_
  rintro e w4 ⟨t, rfl, ht0, ht1, _, hc4, hg4, hs4⟩
  have htL : t < (L.length : Int) := ht1 (by omega)
  obtain ⟨i, rfl⟩ := Int.eq_ofNat_of_zero_le ht0
  have hiL : i < L.length := by omega
  have HM4 := Lib.hid (HM3.out.keepG hc4 hg4)
  clear hc4 hg4 hs4 ht1 HM3
  obtain ⟨vs4, hmem⟩ := HM4.out.mem
  obtain ⟨Ai, ci, hvi, _, hnc⟩ := hmem.val hiL
  have hcell := hmem.cell hiL
  rw [hvi] at hcell
  have hlen9 := hll i hiL
  have HLL := Lib.hid hll
  clear hll
  generalize hn : (L.getD i []).length = n at hcell hvi hnc hlen9
  have HN := Lib.hid hn
  have HVI := Lib.hid hvi
  have HMEM := Lib.hid hmem
  clear hn hvi hmem
  go_upto_if 37 with fail
  go_cut [15] (fun _ W => ∃ L2, MSt B g H w W L2 ∧ L2.length = L.length)
  case first =>
    by_cases hn0 : 0 < n
    · have hmem := HMEM.out
      obtain ⟨xs, hrow, hst⟩ := hmem.row i hiL
      rw [HVI.out, HN.out] at hrow
      rw [HN.out] at hst
      obtain ⟨gi, rfl⟩ : ∃ gi, Ai = some ⟨gi, 0, none⟩ := by
        rcases hrow.2 with ⟨_, e⟩ | ⟨gi, cap, cur, e, _⟩
        · omega
        · injection e with e
          exact ⟨gi, e⟩
      have HROW := Lib.hid hrow
      have HST := Lib.hid hst
      have hHlt := lt_of_heap hmem.hd
      have hBH := hmem.hb
      have hgB := HM4.out.gB
      clear hrow hst HMEM
      go_wp2_with fail
      refine hideQ (fun c a d v w h => by cases d <;> exact h) (fun Q' HQ HP => ?_)
      refine regionT_until (fun w' => w'.cell? ⟨H, i, none⟩ = some (.slice (some ⟨gi, 0, none⟩) n ci)) 11 11 #[false, false, false, false, false, false, false, false, false, false, false] (by kernel_rfl) (by kernel_rfl) (by kernel_rfl) ?_
      refine anyT_take (i := 0) (oi := ⟨some 38, _, _, _, _, _⟩) (v := ?_) (L' := #[true, false, false, false, false, false, false, false, false, false, false]) rfl rfl (by kernel_rfl) (by kernel_rfl) (by kernel_rfl) (by kernel_rfl) (by kernel_rfl) HP.out (Or.inl ⟨by rfl, ?_⟩) hcell ?_
      rotate_left
      · intro w' hSw
        (try dsimp only at hSw)
        go_simp
        (try with_reducible rfl)
      simp only [List.setIfInBounds_toArray, List.set_cons_zero, List.set_cons_succ]
      refine anyT_take (i := 1) (oi := ⟨some 39, _, _, _, _, _⟩) (v := ?_) (L' := #[true, true, false, false, false, false, false, false, false, false, false]) rfl rfl (by kernel_rfl) (by kernel_rfl) (by kernel_rfl) (by kernel_rfl) (by kernel_rfl) HP.out (Or.inl ⟨by rfl, ?_⟩) hcell ?_
      rotate_left
      · intro w' hSw
        (try dsimp only at hSw)
        go_simp
        (try with_reducible rfl)
      simp only [List.setIfInBounds_toArray, List.set_cons_zero, List.set_cons_succ]
      refine anyT_take (i := 2) (oi := ⟨some 40, _, _, _, _, _⟩) (v := ?_) (L' := #[true, true, true, false, false, false, false, false, false, false, false]) rfl rfl (by kernel_rfl) (by kernel_rfl) (by kernel_rfl) (by kernel_rfl) (by kernel_rfl) HP.out (Or.inl ⟨by rfl, ?_⟩) hcell ?_
      rotate_left
      · intro w' hSw
        (try dsimp only at hSw)
        go_simp
        (try with_reducible rfl)
      simp only [List.setIfInBounds_toArray, List.set_cons_zero, List.set_cons_succ]
      refine anyT_take (i := 3) (oi := ⟨some 41, _, _, _, _, _⟩) (v := ?_) (L' := #[true, true, true, true, false, false, false, false, false, false, false]) rfl rfl (by kernel_rfl) (by kernel_rfl) (by kernel_rfl) (by kernel_rfl) (by kernel_rfl) HP.out (Or.inl ⟨by rfl, ?_⟩) hcell ?_
      rotate_left
      · intro w' hSw
        (try dsimp only at hSw)
        go_simp
        (try with_reducible rfl)
      simp only [List.setIfInBounds_toArray, List.set_cons_zero, List.set_cons_succ]
      refine anyT_take (i := 4) (oi := ⟨some 42, _, _, _, _, _⟩) (v := ?_) (L' := #[true, true, true, true, true, false, false, false, false, false, false]) rfl rfl (by kernel_rfl) (by kernel_rfl) (by kernel_rfl) (by kernel_rfl) (by kernel_rfl) HP.out (Or.inl ⟨by rfl, ?_⟩) hcell ?_
      rotate_left
      · intro w' hSw
        (try dsimp only at hSw)
        go_simp
        (try with_reducible rfl)
      simp only [List.setIfInBounds_toArray, List.set_cons_zero, List.set_cons_succ]
      refine anyT_take (i := 5) (oi := ⟨some 43, _, _, _, _, _⟩) (v := ?_) (L' := #[true, true, true, true, true, true, false, false, false, false, false]) rfl rfl (by kernel_rfl) (by kernel_rfl) (by kernel_rfl) (by kernel_rfl) (by kernel_rfl) HP.out (Or.inl ⟨by rfl, ?_⟩) hcell ?_
      rotate_left
      · intro w' hSw
        (try dsimp only at hSw)
        go_simp
        (try with_reducible rfl)
      simp only [List.setIfInBounds_toArray, List.set_cons_zero, List.set_cons_succ]
      refine anyT_take (i := 6) (oi := ⟨some 44, _, _, _, _, _⟩) (v := ?_) (L' := #[true, true, true, true, true, true, true, false, false, false, false]) rfl rfl (by kernel_rfl) (by kernel_rfl) (by kernel_rfl) (by kernel_rfl) (by kernel_rfl) HP.out (Or.inl ⟨by rfl, ?_⟩) hcell ?_
      rotate_left
      · intro w' hSw
        (try dsimp only at hSw)
        go_simp
        (try with_reducible rfl)
      simp only [List.setIfInBounds_toArray, List.set_cons_zero, List.set_cons_succ]
      refine anyT_take (i := 7) (oi := ⟨some 45, _, _, _, _, _⟩) (v := ?_) (L' := #[true, true, true, true, true, true, true, true, false, false, false]) rfl rfl (by kernel_rfl) (by kernel_rfl) (by kernel_rfl) (by kernel_rfl) (by kernel_rfl) HP.out (Or.inl ⟨by rfl, ?_⟩) hcell ?_
      rotate_left
      · intro w' hSw
        (try dsimp only at hSw)
        go_simp
        (try with_reducible rfl)
      simp only [List.setIfInBounds_toArray, List.set_cons_zero, List.set_cons_succ]
      refine anyT_one (i := 8) (o := ⟨some 46, _, _, _, _, _⟩) (L' := #[true, true, true, true, true, true, true, true, true, false, false]) rfl (by kernel_rfl) (by kernel_rfl) (fun K hK => ?_)
      have HK := Lib.hid hK
      clear hK
      go_simp
      refine (int_any g (n : Int) w4.drew (by omega) (HM4.out.keep (Below.refl _ _).drew).cs).mono ?_
      rintro e w5 ⟨t, rfl, ht0, ht1, _, hc5, hg5, hs5⟩
      have htn : t < (n : Int) := ht1 (by omega)
      obtain ⟨k, rfl⟩ := Int.eq_ofNat_of_zero_le ht0
      have hkn : k < n := by omega
      have hg5' : w4.grownBy w5 (some g) := only_trans (only_drewN (World.grownBy.refl w4 _) 1) hg5
      have HM5 := Lib.hid (HM4.out.keepG hc5 hg5')
      have hcell5 : w5.cell? ⟨H, i, none⟩ = some (.slice (some ⟨gi, 0, none⟩) n ci) := (World.cell?_of_block (w := w4) (hg5'.block H hHlt (fun e => by injection e with e; omega))).trans hcell
      have HMEM5 := Lib.hid (hmem.keep (fun b hb hl => hg5'.block b hl (fun e => by injection e with e; omega)))
      clear hc5 hg5 hs5 ht1 hcell hg5' hmem
      refine HK.out _ _ (fun _ => hcell5) ?_
      clear HK K
      try simp only [Act.put, List.setIfInBounds_toArray, List.set_cons_zero, List.set_cons_succ]
      refine anyT_take (i := 9) (oi := ⟨some 47, _, _, _, _, _⟩) (v := ?_) (L' := #[true, true, true, true, true, true, true, true, true, true, false]) rfl rfl (by kernel_rfl) (by kernel_rfl) (by kernel_rfl) (by kernel_rfl) (by kernel_rfl) HP.out (Or.inl ⟨by rfl, ?_⟩) hcell5 ?_
      rotate_left
      · intro w' hSw
        (try dsimp only at hSw)
        go_simp
        (try with_reducible rfl)
      simp only [List.setIfInBounds_toArray, List.set_cons_zero, List.set_cons_succ]
      refine anyT_take (i := 10) (oi := ⟨some 15, _, _, _, _, _⟩) (v := ?_) (L' := #[true, true, true, true, true, true, true, true, true, true, true]) rfl rfl (by kernel_rfl) (by kernel_rfl) (by kernel_rfl) (by kernel_rfl) (by kernel_rfl) HP.out (Or.inl ⟨by rfl, ?_⟩) hcell5 ?_
      rotate_left
      · intro w' hSw
        (try dsimp only at hSw)
        go_simp
        (try with_reducible rfl)
      simp only [List.setIfInBounds_toArray, List.set_cons_zero, List.set_cons_succ]
      refine anyU_done (by kernel_rfl) ?_
      rw [HQ.out]
      clear HQ HP Q'
      clear HM4 HROW HST hcell5
      go_wp2_with fail
      refine (int_any g 4 w5 (by omega) HM5.out.cs).mono ?_
      rintro e w6 ⟨r, rfl, hr0, hr1, _, hc6, hg6, hs6⟩
      have hr4 : r < 4 := hr1 (by omega)
      have HM6 := Lib.hid (HM5.out.keepG hc6 hg6)
      have hmem6 := HMEM5.out.keep (fun b hb hl => hg6.block b hl (fun e => by injection e with e; omega))
      obtain ⟨xs, hrow6, hst6⟩ := hmem6.row i hiL
      rw [HVI.out, HN.out] at hrow6
      rw [HN.out] at hst6
      have hcell6 := hmem6.cell hiL
      rw [HVI.out] at hcell6
      have hfr6 := hmem6.frozen i
      have hHl6 := lt_of_heap hmem6.hd
      obtain ⟨hBgi, curg, hhg⟩ := owns_block hrow6 (g := gi) rfl
      have hgil := lt_of_heap hhg
      have hfg : ∀ j, w6.frozen? ⟨gi, j, none⟩ = false := fun j => by simp [World.frozen?, hhg]
      have f0 := hfg (k * 2)
      have f1 := hfg (k * 2 + 1)
      obtain ⟨x0, gS, cS, x1, hBS, hoS, hlS⟩ := hst6 k hkn
      have hsl := sh_len4 HVAL.out hiL (show k < (L.getD i []).length by rw [HN.out]; exact hkn)
      have d0 := row_cells hrow6 _ _ x0
      have d1 := row_cells hrow6 _ _ x1
      have HST6 := Lib.hid hst6
      have HONE := Lib.hid (stamps_one hrow6.1 hst6)
      have HNEWS := Lib.hid (show ∀ j u, xs[j]? = some u → w6.cell? ((⟨gi, 0, none⟩ : Addr).add j) = some u from fun j u hu => by rw [add_none, Nat.zero_add]; exact row_cells hrow6 j u hu)
      have HXL := Lib.hid hrow6.1
      have HROW6 := Lib.hid hrow6
      have HMEM6 := Lib.hid hmem6
      have HSTP := Lib.hid (show stp L i k = stp L i k from rfl)
      generalize hcm : (stp L i k).1 = cm at x0 d0
      generalize hsh : (stp L i k).2 = sh at x1 hoS hlS hsl d1
      have HCM := Lib.hid hcm
      have HSH := Lib.hid hsh
      have HX0 := Lib.hid x0
      have HX1 := Lib.hid x1
      have HOS := Lib.hid hoS
      obtain ⟨hsh0, hshL⟩ := hsl
      have hgSl := hoS.lt
      have HNS := Lib.hid (show ∀ j u, (sh.map (Value.int .i64))[j]? = some u → w6.cell? ((⟨gS, 0, none⟩ : Addr).add j) = some u from fun j u hu => by
        obtain ⟨b, off, e, _, hc⟩ := HOS.out.ints.2 hsh0
        injection e with e
        injection e with e1 e2
        subst e1 e2
        rw [add_none]
        exact hc j u hu)
      clear hc6 hg6 hs6 hr1 HM5 HMEM5 hrow6 hst6 hmem6 hfg hhg hcm hsh x0 x1 hoS HSTP
      obtain ⟨i0, hi, hz0, hz1, hz2⟩ := info_parts info3
      obtain ⟨i6, hi6, hy0, hy1, hy2⟩ := info_parts info36
      have hr : r = 0 ∨ r = 1 ∨ r = 2 ∨ r = 3 := by omega
      rcases hr with rfl | rfl | rfl | rfl
      · go_wp2_with fail
        go_meet
        exact ⟨_, HM6.out.upd ⟨vs4, mem_commit HMEM6.out hiL HN.out hkn HVI.out by_⟩ (fun b hb => Below.heap_setCell _ ⟨gi, k * 2, none⟩ _ b (by show b ≠ gi; omega)) (by simp) ⟨rfl, rfl, rfl⟩ (by simp) (len_set HM6.out.ll hiL (by rw [List.length_set, HN.out]; omega)), by simp⟩
      · go_wp2_with (first
          | (at_builtin; refine wpList_append_lies _ rfl (.const (.slice none 0 0)) (.tmp 73) 34 rfl B 3 i0 _ 1 8 Try.underlying34 hi hz0 hz1 hz2 rfl (by decide) (.slice none 0 0) 0 [] rfl (World.ownsRow_nil _ _ _ _) ⟨gS, 0, none⟩ sh.length cS (sh.map (Value.int .i64)) rfl (by simp) HNS.out (int_one sh) hsh0 (by unfold maxLen; omega) (by omega) (by omega) w6.heap.size rfl ?_; intro gA cA wA hownA hgrow1 hatA hltA; rw [Nat.zero_add, List.nil_append] at hownA; have hgA : gA = w6.heap.size := (by rcases hatA with h | h; (simp [Value.ownBlock] at h); exact h); have hzA : w6.heap.size ≤ wA.heap.size := hgrow1.size; have HGR1 := Lib.hid hgrow1; have HOWNA := Lib.hid hownA; have HGA := Lib.hid hgA; clear hgrow1 hownA hatA hgA)
          | (at_builtin; refine wpList_append_lies _ rfl (.tmp 74) (.tmp 76) 34 rfl B 3 i0 _ 1 8 Try.underlying34 hi hz0 hz1 hz2 rfl (by decide) (.slice (some ⟨gA, 0, none⟩) sh.length cA) sh.length (sh.map (Value.int .i64)) rfl (HOWNA.out.alloc _) ⟨wA.heap.size, 0, none⟩ 1 1 [.int .i64 by_] rfl rfl (World.news_of_block (cs := #[.int .i64 by_]) (t := 3) (fr := (0, 0)) (heap_alloc_new _ _)) (by simp [Value.oneCell']) (by omega) (by unfold maxLen; omega) (by omega) (by simp; omega) (wA.heap.size + 1) (by simp) ?_; intro g2 c2 wB hownB hgrow2 hatB hltB; have hs9 : ∀ b, b < w6.heap.size → wB.heap[b]? = w6.heap[b]? := (fun b hb => (hgrow2.block b (by simp; omega) (by rw [HGA.out]; simp [Value.ownBlock]; omega)).trans ((Below.heap_alloc wA _ _ (by omega)).trans (HGR1.out.block b hb (by simp [Value.ownBlock])))); have hz9 : w6.heap.size ≤ wB.heap.size := (by have := hgrow2.size; simp at this; omega); have e1 : wB.cell? ⟨gi, k * 2 + 1, none⟩ = some (.slice (some ⟨gS, 0, none⟩) sh.length cS) := (World.cell?_of_block (w := w6) (hs9 gi hgil)).trans d1; have f9 : wB.frozen? ⟨gi, k * 2 + 1, none⟩ = false := (World.frozen?_of_block (w := w6) (hs9 gi hgil)).trans f1; have HS9 := Lib.hid hs9; have HOWNB := Lib.hid hownB; have HOS9 := Lib.hid (show wB.os = w6.os ∧ wB.tape = w6.tape ∧ wB.output = w6.output from ⟨hgrow2.os.trans HGR1.out.os, hgrow2.tape.trans HGR1.out.tape, hgrow2.output.trans HGR1.out.output⟩); clear hgrow2 hownB hs9 hatB))
        go_meet
        obtain ⟨_, g', c', e', hbg, hown⟩ := Own.of_owns (l := sh ++ [by_]) (by simpa using HOWNB.out) (by omega)
        injection e' with e1' e2' e3'
        injection e1' with e1'
        injection e1' with e1'
        subst e1' e3'
        have hm := mem_shards (c := c2) HMEM6.out HS9.out hiL HN.out hkn HVI.out hbg hown (by simp; omega)
        rw [List.length_append, List.length_singleton] at hm
        exact ⟨_, HM6.out.upd ⟨vs4, hm⟩ (fun b hb => (Below.heap_setCell _ ⟨gi, k * 2 + 1, none⟩ _ b (by show b ≠ gi; omega)).trans (HS9.out b (by omega))) (by simp; omega) HOS9.out (by simp) (len_set HM6.out.ll hiL (by rw [List.length_set, HN.out]; omega)), by simp⟩
      · have HNS2 := Lib.hid (show ∀ j u, (sh.map (Value.int .i64))[j]? = some u → (w6.alloc (.cells #[.int .i64 at_] 3)).cell? ((⟨gS, 0, none⟩ : Addr).add j) = some u from fun j u hu => by have := HNS.out j u hu; rw [add_none] at this ⊢; exact (World.cell?_of_block (w := w6) (Below.heap_alloc w6 _ _ hgSl)).trans this)
        have HLIT := Lib.hid (World.ownsRow_lit (base := B) (e := 3) (size := 1) w6 #[.int .i64 at_] 1 (by omega) (by unfold maxLen; omega) rfl)
        go_wp2_with (at_builtin; refine wpList_append_lies _ rfl (.tmp 84) (.tmp 88) 34 rfl B 3 i0 _ 1 8 Try.underlying34 hi hz0 hz1 hz2 rfl (by decide) (.slice (some ⟨w6.heap.size, 0, none⟩) 1 1) 1 [.int .i64 at_] rfl HLIT.out ⟨gS, 0, none⟩ sh.length cS (sh.map (Value.int .i64)) rfl (by simp) HNS2.out (int_one sh) hsh0 (by unfold maxLen; omega) (by omega) (by simp; omega) (w6.heap.size + 1) (by simp) ?_; intro g2 c2 wB hownB hgrow2 hatB hltB; have hs9 : ∀ b, b < w6.heap.size → wB.heap[b]? = w6.heap[b]? := (fun b hb => (hgrow2.block b (by simp; omega) (by simp [Value.ownBlock]; omega)).trans (Below.heap_alloc w6 _ _ hb)); have hz9 : w6.heap.size ≤ wB.heap.size := (by have := hgrow2.size; simp at this; omega); have e1 : wB.cell? ⟨gi, k * 2 + 1, none⟩ = some (.slice (some ⟨gS, 0, none⟩) sh.length cS) := (World.cell?_of_block (w := w6) (hs9 gi hgil)).trans d1; have f9 : wB.frozen? ⟨gi, k * 2 + 1, none⟩ = false := (World.frozen?_of_block (w := w6) (hs9 gi hgil)).trans f1; have HS9 := Lib.hid hs9; have HOWNB := Lib.hid hownB; have HOS9 := Lib.hid (show wB.os = w6.os ∧ wB.tape = w6.tape ∧ wB.output = w6.output from ⟨hgrow2.os, hgrow2.tape, hgrow2.output⟩); clear hgrow2 hownB hs9 hatB)
        go_meet
        obtain ⟨_, g', c', e', hbg, hown⟩ := Own.of_owns (l := at_ :: sh) (by simpa using HOWNB.out) (by omega)
        injection e' with e1' e2' e3'
        injection e1' with e1'
        injection e1' with e1'
        subst e1' e3'
        have hm := mem_shards (c := c2) HMEM6.out HS9.out hiL HN.out hkn HVI.out hbg hown (by simp; omega)
        rw [List.length_cons, Nat.add_comm sh.length 1] at hm
        exact ⟨_, HM6.out.upd ⟨vs4, hm⟩ (fun b hb => (Below.heap_setCell _ ⟨gi, k * 2 + 1, none⟩ _ b (by show b ≠ gi; omega)).trans (HS9.out b (by omega))) (by simp; omega) HOS9.out (by simp) (len_set HM6.out.ll hiL (by rw [List.length_set, HN.out]; omega)), by simp⟩
      · go_wp2_with fail
        refine hideQ (fun c a d v w h => by cases d <;> exact h) (fun Q' HQ HP => ?_)
        refine regionT_until (fun w' => (w'.cell? ⟨H, i, none⟩ = some (.slice (some ⟨gi, 0, none⟩) n ci) ∧ w'.frozen? ⟨H, i, none⟩ = false) ∧ w'.cell? ⟨gi, k * 2, none⟩ = some (.int .i64 cm) ∧ w'.cell? ⟨gi, k * 2 + 1, none⟩ = some (.slice (some ⟨gS, 0, none⟩) sh.length cS)) 11 12 #[false, false, false, false, false, false, false, false, false, false, false, false] (by kernel_rfl) (by kernel_rfl) (by kernel_rfl) ?_
        refine anyT_take (i := 0) (oi := ⟨some 50, _, _, _, _, _⟩) (v := ?_) (L' := #[true, false, false, false, false, false, false, false, false, false, false, false]) rfl rfl (by kernel_rfl) (by kernel_rfl) (by kernel_rfl) (by kernel_rfl) (by kernel_rfl) HP.out (Or.inl ⟨by rfl, ?_⟩) ⟨⟨hcell6, hfr6⟩, d0, d1⟩ ?_
        rotate_left
        · intro w' hSw
          (try dsimp only at hSw)
          go_simp
          (try with_reducible rfl)
        simp only [List.setIfInBounds_toArray, List.set_cons_zero, List.set_cons_succ]
        refine anyT_take (i := 1) (oi := ⟨some 51, _, _, _, _, _⟩) (v := ?_) (L' := #[true, true, false, false, false, false, false, false, false, false, false, false]) rfl rfl (by kernel_rfl) (by kernel_rfl) (by kernel_rfl) (by kernel_rfl) (by kernel_rfl) HP.out (Or.inl ⟨by rfl, ?_⟩) ⟨⟨hcell6, hfr6⟩, d0, d1⟩ ?_
        rotate_left
        · intro w' hSw
          (try dsimp only at hSw)
          go_simp
          (try with_reducible rfl)
        simp only [List.setIfInBounds_toArray, List.set_cons_zero, List.set_cons_succ]
        refine anyT_take (i := 2) (oi := ⟨some 52, _, _, _, _, _⟩) (v := ?_) (L' := #[true, true, true, false, false, false, false, false, false, false, false, false]) rfl rfl (by kernel_rfl) (by kernel_rfl) (by kernel_rfl) (by kernel_rfl) (by kernel_rfl) HP.out (Or.inl ⟨by rfl, ?_⟩) ⟨⟨hcell6, hfr6⟩, d0, d1⟩ ?_
        rotate_left
        · intro w' hSw
          (try dsimp only at hSw)
          go_simp
          (try with_reducible rfl)
        simp only [List.setIfInBounds_toArray, List.set_cons_zero, List.set_cons_succ]
        refine anyT_take (i := 3) (oi := ⟨some 53, _, _, _, _, _⟩) (v := ?_) (L' := #[true, true, true, true, false, false, false, false, false, false, false, false]) rfl rfl (by kernel_rfl) (by kernel_rfl) (by kernel_rfl) (by kernel_rfl) (by kernel_rfl) HP.out (Or.inl ⟨by rfl, ?_⟩) ⟨⟨hcell6, hfr6⟩, d0, d1⟩ ?_
        rotate_left
        · intro w' hSw
          (try dsimp only at hSw)
          go_simp
          (try with_reducible rfl)
        simp only [List.setIfInBounds_toArray, List.set_cons_zero, List.set_cons_succ]
        refine anyT_take (i := 5) (oi := ⟨some 55, _, _, _, _, _⟩) (v := ?_) (L' := #[true, true, true, true, false, true, false, false, false, false, false, false]) rfl rfl (by kernel_rfl) (by kernel_rfl) (by kernel_rfl) (by kernel_rfl) (by kernel_rfl) HP.out (Or.inl ⟨by rfl, ?_⟩) ⟨⟨hcell6, hfr6⟩, d0, d1⟩ ?_
        rotate_left
        · intro w' hSw
          (try dsimp only at hSw)
          go_simp
          (try with_reducible rfl)
        simp only [List.setIfInBounds_toArray, List.set_cons_zero, List.set_cons_succ]
        refine anyT_take (i := 6) (oi := ⟨some 56, _, _, _, _, _⟩) (v := ?_) (L' := #[true, true, true, true, false, true, true, false, false, false, false, false]) rfl rfl (by kernel_rfl) (by kernel_rfl) (by kernel_rfl) (by kernel_rfl) (by kernel_rfl) HP.out (Or.inl ⟨by rfl, ?_⟩) ⟨⟨hcell6, hfr6⟩, d0, d1⟩ ?_
        rotate_left
        · intro w' hSw
          (try dsimp only at hSw)
          go_simp
          (try with_reducible rfl)
        simp only [List.setIfInBounds_toArray, List.set_cons_zero, List.set_cons_succ]
        refine anyT_take (i := 7) (oi := ⟨some 57, _, _, _, _, _⟩) (v := ?_) (L' := #[true, true, true, true, false, true, true, true, false, false, false, false]) rfl rfl (by kernel_rfl) (by kernel_rfl) (by kernel_rfl) (by kernel_rfl) (by kernel_rfl) HP.out (Or.inl ⟨by rfl, ?_⟩) ⟨⟨hcell6, hfr6⟩, d0, d1⟩ ?_
        rotate_left
        · intro w' hSw
          (try dsimp only at hSw)
          go_simp
          (try with_reducible rfl)
        simp only [List.setIfInBounds_toArray, List.set_cons_zero, List.set_cons_succ]
        refine anyT_two (i := 4) (j := 8) (oi := ⟨some 54, _, _, _, _, _⟩) (oj := ⟨some 58, _, _, _, _, _⟩) (Li := #[true, true, true, true, true, true, true, true, false, false, false, false]) (Lj := #[true, true, true, true, false, true, true, true, true, false, false, false]) rfl rfl (by kernel_rfl) (by kernel_rfl) (by kernel_rfl) (fun K hK => ?_) (fun K hK => ?_)
        · refine step_append_lies _ (by rfl) (.const (.slice none 0 0)) (.tmp 53) _ (by rfl) B 36 i6 _ 2 32 Try.underlying31 hi6 hy0 hy1 hy2 rfl (by decide) (.slice none 0 0) 0 [] (by rfl) (World.ownsRow_nil _ _ _ _) ⟨gi, 0, none⟩ n ci xs (by rfl) HXL.out (by exact HNEWS.out) HONE.out (by omega) (by unfold maxLen; omega) (by omega) (by simp; omega) w6.heap.size (by simp) ?_
          intro gA cA wA hownA hgrow1 hatA hltA
          rw [Nat.zero_add, List.nil_append] at hownA
          have hgA : gA = w6.heap.size := by rcases hatA with h | h; (simp [Value.ownBlock] at h); exact h
          have hs7 : ∀ b, b < w6.heap.size → wA.heap[b]? = w6.heap[b]? := fun b hb => hgrow1.block b hb (by simp [Value.ownBlock])
          have hzA : w6.heap.size ≤ wA.heap.size := hgrow1.size
          have hc7 : wA.cell? ⟨H, i, none⟩ = some (.slice (some ⟨gi, 0, none⟩) n ci) := (World.cell?_of_block (w := w6) (hs7 H hHl6)).trans hcell6
          have hf7 : wA.frozen? ⟨H, i, none⟩ = false := (World.frozen?_of_block (w := w6) (hs7 H hHl6)).trans hfr6
          have e07 : wA.cell? ⟨gi, k * 2, none⟩ = some (.int .i64 cm) := (World.cell?_of_block (w := w6) (hs7 gi hgil)).trans d0
          have e17 : wA.cell? ⟨gi, k * 2 + 1, none⟩ = some (.slice (some ⟨gS, 0, none⟩) sh.length cS) := (World.cell?_of_block (w := w6) (hs7 gi hgil)).trans d1
          have HGR1 := Lib.hid hgrow1
          have HOWNA := Lib.hid hownA
          have HS7 := Lib.hid hs7
          have HGA := Lib.hid hgA
          clear hgrow1 hownA hatA hs7 hgA
          refine hK _ _ (fun _ => ⟨⟨hc7, hf7⟩, e07, e17⟩) ?_
          clear hK K
          simp only [Act.put, List.setIfInBounds_toArray, List.set_cons_zero, List.set_cons_succ]
          refine anyT_one (i := 8) (o := ⟨some 58, _, _, _, _, _⟩) (L' := #[true, true, true, true, true, true, true, true, true, false, false, false]) rfl (by kernel_rfl) (by kernel_rfl) (fun K hK => ?_)
          have HK := Lib.hid hK
          clear hK
          go_simp
          have hs8 : ∀ b, b < w6.heap.size → (wA.alloc (.cells #[.int .i64 cm, .slice (some ⟨gS, 0, none⟩) sh.length cS] 36)).heap[b]? = w6.heap[b]? := fun b hb => (Below.heap_alloc wA _ _ (by omega)).trans (HS7.out b hb)
          have hc8 : (wA.alloc (.cells #[.int .i64 cm, .slice (some ⟨gS, 0, none⟩) sh.length cS] 36)).cell? ⟨H, i, none⟩ = some (.slice (some ⟨gi, 0, none⟩) n ci) := (World.cell?_of_block (w := w6) (hs8 H hHl6)).trans hcell6
          have hf8 : (wA.alloc (.cells #[.int .i64 cm, .slice (some ⟨gS, 0, none⟩) sh.length cS] 36)).frozen? ⟨H, i, none⟩ = false := (World.frozen?_of_block (w := w6) (hs8 H hHl6)).trans hfr6
          have e08 : (wA.alloc (.cells #[.int .i64 cm, .slice (some ⟨gS, 0, none⟩) sh.length cS] 36)).cell? ⟨gi, k * 2, none⟩ = some (.int .i64 cm) := (World.cell?_of_block (w := w6) (hs8 gi hgil)).trans d0
          have e18 : (wA.alloc (.cells #[.int .i64 cm, .slice (some ⟨gS, 0, none⟩) sh.length cS] 36)).cell? ⟨gi, k * 2 + 1, none⟩ = some (.slice (some ⟨gS, 0, none⟩) sh.length cS) := (World.cell?_of_block (w := w6) (hs8 gi hgil)).trans d1
          have HS8 := Lib.hid hs8
          clear hs8
          refine HK.out _ _ (fun _ => ⟨⟨hc8, hf8⟩, e08, e18⟩) ?_
          clear HK K
          try simp only [Act.put, List.setIfInBounds_toArray, List.set_cons_zero, List.set_cons_succ]
          refine anyT_one (i := 9) (o := ⟨some 59, _, _, _, _, _⟩) (L' := #[true, true, true, true, true, true, true, true, true, true, false, false]) rfl (by kernel_rfl) (by kernel_rfl) (fun K hK => ?_)
          refine step_append_lies _ (by rfl) (.tmp 54) (.tmp 58) _ (by rfl) B 36 i6 _ 2 32 Try.underlying31 hi6 hy0 hy1 hy2 rfl (by decide) (.slice (some ⟨gA, 0, none⟩) n cA) n (xs) (by rfl) (HOWNA.out.alloc _) ⟨wA.heap.size, 0, none⟩ 1 1 [.int .i64 cm, .slice (some ⟨gS, 0, none⟩) sh.length cS] (by rfl) (by rfl) (World.news_of_block (cs := #[.int .i64 cm, .slice (some ⟨gS, 0, none⟩) sh.length cS]) (t := 36) (fr := (0, 0)) (heap_alloc_new wA _)) (by simp [Value.oneCell']) (by omega) (by unfold maxLen; omega) (by omega) (by simp; omega) (wA.heap.size + 1) (by simp) ?_
          intro g2 c2 wB hownB hgrow2 hatB hltB
          have hs9 : ∀ b, b < w6.heap.size → wB.heap[b]? = w6.heap[b]? := fun b hb => (hgrow2.block b (by simp; omega) (by rw [HGA.out]; simp [Value.ownBlock]; omega)).trans (HS8.out b hb)
          have hg2 : w6.heap.size ≤ g2 := by rcases hatB with h | h; (rw [HGA.out] at h; simp [Value.ownBlock] at h; omega); omega
          have hz9 : w6.heap.size ≤ wB.heap.size := by have := hgrow2.size; simp at this; omega
          have hos9 : wB.os = w6.os ∧ wB.tape = w6.tape ∧ wB.output = w6.output := ⟨hgrow2.os.trans HGR1.out.os, hgrow2.tape.trans HGR1.out.tape, hgrow2.output.trans HGR1.out.output⟩
          have hc9 : wB.cell? ⟨H, i, none⟩ = some (.slice (some ⟨gi, 0, none⟩) n ci) := (World.cell?_of_block (w := w6) (hs9 H hHl6)).trans hcell6
          have hf9 : wB.frozen? ⟨H, i, none⟩ = false := (World.frozen?_of_block (w := w6) (hs9 H hHl6)).trans hfr6
          have e09 : wB.cell? ⟨gi, k * 2, none⟩ = some (.int .i64 cm) := (World.cell?_of_block (w := w6) (hs9 gi hgil)).trans d0
          have e19 : wB.cell? ⟨gi, k * 2 + 1, none⟩ = some (.slice (some ⟨gS, 0, none⟩) sh.length cS) := (World.cell?_of_block (w := w6) (hs9 gi hgil)).trans d1
          have HOWNB := Lib.hid hownB
          have HS9 := Lib.hid hs9
          have HOS9 := Lib.hid hos9
          clear hgrow2 hownB hatB hs9 hos9
          refine hK _ _ (fun _ => ⟨⟨hc9, hf9⟩, e09, e19⟩) ?_
          clear hK K
          simp only [Act.put, List.setIfInBounds_toArray, List.set_cons_zero, List.set_cons_succ]
          refine anyT_take (i := 10) (oi := ⟨some 60, _, _, _, _, _⟩) (v := ?_) (L' := #[true, true, true, true, true, true, true, true, true, true, true, false]) rfl rfl (by kernel_rfl) (by kernel_rfl) (by kernel_rfl) (by kernel_rfl) (by kernel_rfl) HP.out (Or.inl ⟨by rfl, ?_⟩) ⟨⟨hc9, hf9⟩, e09, e19⟩ ?_
          rotate_left
          · intro w' hSw
            (try dsimp only at hSw)
            go_simp
            (try with_reducible rfl)
          simp only [List.setIfInBounds_toArray, List.set_cons_zero, List.set_cons_succ]
          refine anyT_one (i := 11) (o := ⟨none, _, _, _, _, _⟩) (L' := #[true, true, true, true, true, true, true, true, true, true, true, true]) rfl (by kernel_rfl) (by kernel_rfl) (fun K hK => ?_)
          have HK := Lib.hid hK
          clear hK
          go_simp
          refine HK.out _ _ (fun h => absurd rfl h) ?_
          clear HK K
          refine anyU_done (by kernel_rfl) ?_
          rw [HQ.out]
          clear HQ HP Q'
          go_wp2_with fail
          go_meet
          have hownB := HOWNB.out
          have hs9 := HS9.out
          have hos9 := HOS9.out
          try rw [Nat.zero_add, List.nil_append] at hownB
          obtain ⟨vs', hm'⟩ := mem_dup HMEM6.out hs9 hiL HN.out hkn HVI.out HROW6.out HST6.out HX0.out HX1.out hownB (by omega)
          exact ⟨_, HM6.out.upd ⟨vs', hm'⟩ (fun b hb => (Below.heap_setCell _ ⟨H, i, none⟩ _ b (by show b ≠ H; omega)).trans (hs9 b (by omega))) (by simp; omega) hos9 (by simp) (len_set HM6.out.ll hiL (by rw [List.length_append, List.length_singleton, HN.out]; omega)), by simp⟩
        · have HK := Lib.hid hK
          clear hK
          go_simp
          have hs7 : ∀ b, b < w6.heap.size → (w6.drew.alloc (.cells #[.int .i64 cm, .slice (some ⟨gS, 0, none⟩) sh.length cS] 36)).heap[b]? = w6.heap[b]? := fun b hb => Below.heap_alloc w6.drew _ _ hb
          have hc7 : (w6.drew.alloc (.cells #[.int .i64 cm, .slice (some ⟨gS, 0, none⟩) sh.length cS] 36)).cell? ⟨H, i, none⟩ = some (.slice (some ⟨gi, 0, none⟩) n ci) := (World.cell?_of_block (w := w6) (hs7 H hHl6)).trans hcell6
          have hf7 : (w6.drew.alloc (.cells #[.int .i64 cm, .slice (some ⟨gS, 0, none⟩) sh.length cS] 36)).frozen? ⟨H, i, none⟩ = false := (World.frozen?_of_block (w := w6) (hs7 H hHl6)).trans hfr6
          have e07 : (w6.drew.alloc (.cells #[.int .i64 cm, .slice (some ⟨gS, 0, none⟩) sh.length cS] 36)).cell? ⟨gi, k * 2, none⟩ = some (.int .i64 cm) := (World.cell?_of_block (w := w6) (hs7 gi hgil)).trans d0
          have e17 : (w6.drew.alloc (.cells #[.int .i64 cm, .slice (some ⟨gS, 0, none⟩) sh.length cS] 36)).cell? ⟨gi, k * 2 + 1, none⟩ = some (.slice (some ⟨gS, 0, none⟩) sh.length cS) := (World.cell?_of_block (w := w6) (hs7 gi hgil)).trans d1
          have HNEWS2 := Lib.hid (show ∀ j u, xs[j]? = some u → (w6.drew.alloc (.cells #[.int .i64 cm, .slice (some ⟨gS, 0, none⟩) sh.length cS] 36)).cell? ((⟨gi, 0, none⟩ : Addr).add j) = some u from fun j u hu => by have := HNEWS.out j u hu; rw [add_none] at this ⊢; exact (World.cell?_of_block (w := w6) (hs7 gi hgil)).trans this)
          have HS7 := Lib.hid hs7
          clear hs7
          refine HK.out _ _ (fun _ => ⟨⟨hc7, hf7⟩, e07, e17⟩) ?_
          clear HK K
          try simp only [Act.put, List.setIfInBounds_toArray, List.set_cons_zero, List.set_cons_succ]
          refine anyT_one (i := 4) (o := ⟨some 54, _, _, _, _, _⟩) (L' := #[true, true, true, true, true, true, true, true, true, false, false, false]) rfl (by kernel_rfl) (by kernel_rfl) (fun K hK => ?_)
          refine step_append_lies _ (by rfl) (.const (.slice none 0 0)) (.tmp 53) _ (by rfl) B 36 i6 _ 2 32 Try.underlying31 hi6 hy0 hy1 hy2 rfl (by decide) (.slice none 0 0) 0 [] (by rfl) (World.ownsRow_nil _ _ _ _) ⟨gi, 0, none⟩ n ci xs (by rfl) HXL.out (by exact HNEWS2.out) HONE.out (by omega) (by unfold maxLen; omega) (by omega) (by simp; omega) (w6.heap.size + 1) (by simp) ?_
          intro gA cA wA hownA hgrow1 hatA hltA
          have hgA : gA = w6.heap.size + 1 := by rcases hatA with h | h; (simp [Value.ownBlock] at h); exact h
          have hzA : w6.heap.size + 1 ≤ wA.heap.size := by have := hgrow1.size; simp at this; omega
          have hs8 : ∀ b, b < w6.heap.size → wA.heap[b]? = w6.heap[b]? := fun b hb => (hgrow1.block b (by simp; omega) (by simp [Value.ownBlock])).trans (HS7.out b hb)
          have hnew : wA.heap[w6.heap.size]? = some (.cells #[.int .i64 cm, .slice (some ⟨gS, 0, none⟩) sh.length cS] 36 (0, 0)) := (hgrow1.block w6.heap.size (by simp) (by simp [Value.ownBlock])).trans (heap_alloc_new w6.drew _)
          have hc8 : wA.cell? ⟨H, i, none⟩ = some (.slice (some ⟨gi, 0, none⟩) n ci) := (World.cell?_of_block (w := w6) (hs8 H hHl6)).trans hcell6
          have hf8 : wA.frozen? ⟨H, i, none⟩ = false := (World.frozen?_of_block (w := w6) (hs8 H hHl6)).trans hfr6
          have e08 : wA.cell? ⟨gi, k * 2, none⟩ = some (.int .i64 cm) := (World.cell?_of_block (w := w6) (hs8 gi hgil)).trans d0
          have e18 : wA.cell? ⟨gi, k * 2 + 1, none⟩ = some (.slice (some ⟨gS, 0, none⟩) sh.length cS) := (World.cell?_of_block (w := w6) (hs8 gi hgil)).trans d1
          have HGR1 := Lib.hid hgrow1
          have HOWNA := Lib.hid hownA
          have HS8 := Lib.hid hs8
          have HGA := Lib.hid hgA
          have HNEW := Lib.hid hnew
          clear hgrow1 hownA hatA hs8 hgA hnew
          refine hK _ _ (fun _ => ⟨⟨hc8, hf8⟩, e08, e18⟩) ?_
          clear hK K
          simp only [Act.put, List.setIfInBounds_toArray, List.set_cons_zero, List.set_cons_succ]
          refine anyT_one (i := 9) (o := ⟨some 59, _, _, _, _, _⟩) (L' := #[true, true, true, true, true, true, true, true, true, true, false, false]) rfl (by kernel_rfl) (by kernel_rfl) (fun K hK => ?_)
          refine step_append_lies _ (by rfl) (.tmp 54) (.tmp 58) _ (by rfl) B 36 i6 _ 2 32 Try.underlying31 hi6 hy0 hy1 hy2 rfl (by decide) (.slice (some ⟨gA, 0, none⟩) (0 + n) cA) (0 + n) ([] ++ xs) (by rfl) HOWNA.out ⟨w6.heap.size, 0, none⟩ 1 1 [.int .i64 cm, .slice (some ⟨gS, 0, none⟩) sh.length cS] (by rfl) (by rfl) (World.news_of_block (cs := #[.int .i64 cm, .slice (some ⟨gS, 0, none⟩) sh.length cS]) (t := 36) (fr := (0, 0)) HNEW.out) (by simp [Value.oneCell']) (by omega) (by unfold maxLen; omega) (by omega) (by omega) wA.heap.size (by simp) ?_
          intro g2 c2 wB hownB hgrow2 hatB hltB
          have hs9 : ∀ b, b < w6.heap.size → wB.heap[b]? = w6.heap[b]? := fun b hb => (hgrow2.block b (by omega) (by rw [HGA.out]; simp [Value.ownBlock]; omega)).trans (HS8.out b hb)
          have hg2 : w6.heap.size ≤ g2 := by rcases hatB with h | h; (rw [HGA.out] at h; simp [Value.ownBlock] at h; omega); omega
          have hz9 : w6.heap.size ≤ wB.heap.size := by have := hgrow2.size; omega
          have hos9 : wB.os = w6.os ∧ wB.tape = w6.tape ∧ wB.output = w6.output := ⟨hgrow2.os.trans HGR1.out.os, hgrow2.tape.trans HGR1.out.tape, hgrow2.output.trans HGR1.out.output⟩
          have hc9 : wB.cell? ⟨H, i, none⟩ = some (.slice (some ⟨gi, 0, none⟩) n ci) := (World.cell?_of_block (w := w6) (hs9 H hHl6)).trans hcell6
          have hf9 : wB.frozen? ⟨H, i, none⟩ = false := (World.frozen?_of_block (w := w6) (hs9 H hHl6)).trans hfr6
          have e09 : wB.cell? ⟨gi, k * 2, none⟩ = some (.int .i64 cm) := (World.cell?_of_block (w := w6) (hs9 gi hgil)).trans d0
          have e19 : wB.cell? ⟨gi, k * 2 + 1, none⟩ = some (.slice (some ⟨gS, 0, none⟩) sh.length cS) := (World.cell?_of_block (w := w6) (hs9 gi hgil)).trans d1
          have HOWNB := Lib.hid hownB
          have HS9 := Lib.hid hs9
          have HOS9 := Lib.hid hos9
          clear hgrow2 hownB hatB hs9 hos9
          refine hK _ _ (fun _ => ⟨⟨hc9, hf9⟩, e09, e19⟩) ?_
          clear hK K
          simp only [Act.put, List.setIfInBounds_toArray, List.set_cons_zero, List.set_cons_succ]
          refine anyT_take (i := 10) (oi := ⟨some 60, _, _, _, _, _⟩) (v := ?_) (L' := #[true, true, true, true, true, true, true, true, true, true, true, false]) rfl rfl (by kernel_rfl) (by kernel_rfl) (by kernel_rfl) (by kernel_rfl) (by kernel_rfl) HP.out (Or.inl ⟨by rfl, ?_⟩) ⟨⟨hc9, hf9⟩, e09, e19⟩ ?_
          rotate_left
          · intro w' hSw
            (try dsimp only at hSw)
            go_simp
            (try with_reducible rfl)
          simp only [List.setIfInBounds_toArray, List.set_cons_zero, List.set_cons_succ]
          refine anyT_one (i := 11) (o := ⟨none, _, _, _, _, _⟩) (L' := #[true, true, true, true, true, true, true, true, true, true, true, true]) rfl (by kernel_rfl) (by kernel_rfl) (fun K hK => ?_)
          have HK := Lib.hid hK
          clear hK
          go_simp
          refine HK.out _ _ (fun h => absurd rfl h) ?_
          clear HK K
          refine anyU_done (by kernel_rfl) ?_
          rw [HQ.out]
          clear HQ HP Q'
          go_wp2_with fail
          go_meet
          have hownB := HOWNB.out
          have hs9 := HS9.out
          have hos9 := HOS9.out
          try rw [Nat.zero_add, List.nil_append] at hownB
          obtain ⟨vs', hm'⟩ := mem_dup HMEM6.out hs9 hiL HN.out hkn HVI.out HROW6.out HST6.out HX0.out HX1.out hownB (by omega)
          exact ⟨_, HM6.out.upd ⟨vs', hm'⟩ (fun b hb => (Below.heap_setCell _ ⟨H, i, none⟩ _ b (by show b ≠ H; omega)).trans (hs9 b (by omega))) (by simp; omega) hos9 (by simp) (len_set HM6.out.ll hiL (by rw [List.length_append, List.length_singleton, HN.out]; omega)), by simp⟩
    · have hd : decide ((0 : Int) < (n : Int)) = false := by simp; omega
      go_wp2_with fail
      go_meet
      exact ⟨L, HM4.out, rfl⟩
  case rest =>
    obtain ⟨L2, hms, hl2⟩ := hcut
    have HM7 := Lib.hid hms
    have HL2 := Lib.hid hl2
    clear hms hl2 HM4 HMEM HVI HN hcell HLL
    go_wp2_with fail
    refine (bool_any g 6 wc (by omega) (by omega) HM7.out.cs).mono ?_
    rintro e w8 ⟨rb8, rfl, hc8, hg8, hs8⟩
    have HM8 := Lib.hid (HM7.out.keepG hc8 hg8)
    clear hc8 hg8 hs8 HM7
    go_upto_if 93 with fail
    go_cut [13] (fun v W => ∃ (A : Option Addr) (L3 : List (List Stp)) (c : Nat), v = .slice A L3.length c ∧ L3.length ≤ c ∧ Logs W (Lt W) A L3 ∧ Below w.heap.size w W)
    case first =>
      cases rb8
      · go_wp2_with fail
        go_meet
        exact ⟨_, L2, L.length, by rw [HL2.out], by rw [HL2.out]; omega, HM8.out.logs, HM8.out.bel⟩
      · obtain ⟨vs8, hmem8⟩ := HM8.out.mem
        have HH8 := Lib.hid (show w8.ownsRow B 31 1 (.slice (some ⟨H, 0, none⟩) L.length L.length) L.length vs8 from by rw [← HL2.out]; exact hmem8.header (by have := HM8.out.m4; omega))
        obtain ⟨i1, hi1, hy0, hy1, hy2⟩ := info_parts info31
        have hbz := HM8.out.bel.size
        have hBH8 := hmem8.hb
        have hHl8 := lt_of_heap hmem8.hd
        have HMEM8 := Lib.hid hmem8
        clear hmem8
        go_wp2_with (at_builtin; refine wpList_append_lies _ rfl (.tmp 94) (.tmp 95) 22 rfl B 31 i1 _ 1 24 Try.underlying22 hi1 hy0 hy1 hy2 rfl (by decide) (.slice (some ⟨H, 0, none⟩) L.length L.length) L.length vs8 rfl (HH8.out.alloc _) ⟨w8.heap.size, 0, none⟩ 4 4 [.slice none 0 0, .slice none 0 0, .slice none 0 0, .slice none 0 0] rfl rfl (World.news_of_block (cs := #[.slice none 0 0, .slice none 0 0, .slice none 0 0, .slice none 0 0]) (t := 31) (fr := (0, 0)) (heap_alloc_new _ _)) (by simp [Value.oneCell']) (by omega) (by unfold maxLen; omega) (by omega) (by simp; omega) (w8.heap.size + 1) (by simp) ?_; intro g2 c2 wB hownB hgrow2 hatB hltB; have HOWNB := Lib.hid hownB; have HGR2 := Lib.hid hgrow2; clear hownB hgrow2 hatB)
        go_meet
        have hgrow2 := HGR2.out
        have hsz : w8.heap.size ≤ wB.heap.size := by have := hgrow2.size; simp at this; omega
        have hown2 := HOWNB.out
        have hcap : L.length + 4 ≤ c2 := by
          rcases hown2.2 with ⟨e1, _⟩ | ⟨g', cap, cur, e1, hb, hh, h1, _⟩
          · cases e1
          · injection e1 with _ _ e3
            omega
        rw [← HL2.out] at hown2
        have hlg := logs_more (W' := wB) HMEM8.out (fun i hi => by have := HM8.out.ll i hi; omega) (fun b hb hne => (hgrow2.block b (by simp; omega) (by simp [Value.ownBlock]; omega)).trans (Below.heap_alloc w8 _ _ hb)) hsz (by have := HM8.out.m4; omega) hltB hown2
        refine ⟨_, _, c2, by rw [List.length_append, HL2.out]; rfl, by rw [List.length_append, HL2.out]; exact hcap, hlg, ?_⟩
        have hgw := HM8.out.gw
        have hgB := HM8.out.gB
        exact (HM8.out.bel.alloc HM8.out.bel.size _).grown hgrow2 (by simp; omega) (fun b e => by simp [Value.ownBlock] at e; omega)
    case rest =>
      obtain ⟨A3, L3, c3, rfl, hlc, hlg, hbel⟩ := hcut
      have HLG := Lib.hid hlg
      have HB9 := Lib.hid hbel
      clear hlg hbel HM8
      go_wp2_with fail
      refine (check_any A3 c3 L3 base (Lt wc) wc HLG.out (fun b hb => hb)).mono ?_
      rintro e w10 ⟨rfl, hb10⟩
      have HL10 := Lib.hid (logs_keep HLG.out hb10)
      have HB10 := Lib.hid (HB9.out.trans (hb10.mono HB9.out.size))
      clear hb10 HLG HB9
      go_wp2_with fail
      refine (rcheck_any A3 c3 L3 base (Lt w10) w10 HL10.out (fun b hb => hb) hlc).mono ?_
      rintro e w11 ⟨rfl, hb11⟩
      have HL11 := Lib.hid (logs_keep HL10.out hb11)
      have HB11 := Lib.hid (HB10.out.trans (hb11.mono HB10.out.size))
      have hz11 := HB11.out.size
      clear hb11 HL10 HB10
      generalize errOf base L3 = er1
      go_wp2_with fail
      refine (check_any AR cr LR rb (Lt w) w11 (HLR.out.keep (Same.of_below HB11.out (fun b h => h))) (fun b hb => Nat.lt_of_lt_of_le hb hz11)).mono ?_
      rintro e w12 ⟨rfl, hb12⟩
      have HL12 := Lib.hid (logs_keep HL11.out hb12)
      have HB12 := Lib.hid (HB11.out.trans (hb12.mono HB11.out.size))
      have hz12 := HB12.out.size
      clear hb12 HL11 HB11
      go_wp2_with fail
      refine (rcheck_any AR cr LR rb (Lt w) w12 (HLR.out.keep (Same.of_below HB12.out (fun b h => h))) (fun b hb => Nat.lt_of_lt_of_le hb hz12) hcr).mono ?_
      rintro e w13 ⟨rfl, hb13⟩
      have HL13 := Lib.hid (logs_keep HL12.out hb13)
      have HB13 := Lib.hid (HB12.out.trans (hb13.mono HB12.out.size))
      clear hb13 HL12 HB12
      generalize errOf rb LR = er2
      go_wp2_with fail
      refine (check_any A3 c3 L3 rb (Lt w13) w13 HL13.out (fun b hb => hb)).mono ?_
      rintro e w14 ⟨rfl, hb14⟩
      have HL14 := Lib.hid (logs_keep HL13.out hb14)
      have HB14 := Lib.hid (HB13.out.trans (hb14.mono HB13.out.size))
      clear hb14 HL13 HB13
      go_wp2_with fail
      refine (rcheck_any A3 c3 L3 rb (Lt w14) w14 HL14.out (fun b hb => hb) hlc).mono ?_
      rintro e w15 ⟨rfl, hb15⟩
      have HB15 := Lib.hid (HB14.out.trans (hb15.mono HB14.out.size))
      clear hb15 HL14 HB14
      generalize errOf rb L3 = er3
      go_wp2_with fail
      refine (begun_any _).mono ?_
      rintro e w16 ⟨rfl, hb16⟩
      have HB16 := Lib.hid (HB15.out.trans (hb16.mono HB15.out.size))
      clear hb16
      go_wp2_with fail
      go_ret
      exact ⟨rfl, HB16.out⟩
end Go.Proofs.Ytjpknhhdkjhjfaa
