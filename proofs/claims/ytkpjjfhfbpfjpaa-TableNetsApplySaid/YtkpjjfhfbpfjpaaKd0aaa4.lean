import Derived.Test.YtkpjjfhfbpfjpaaK6af900
import Derived.Test.YtkpjjfhfbpfjpaaKc63c6a
import Derived.Test.YtkpjjfhfbpfjpaaK485e93
import Derived.Test.YtkpjjfhfbpfjpaaK1188ff
import Derived.Test.YtkpjjfhfbpfjpaaK6ead6c
import Derived.Test.YtkpjjfhfbpfjpaaK7ecf46
import Derived.Test.YtkpjjfhfbpfjpaaKc1b90d
set_option linter.unusedVariables false
set_option linter.unusedSimpArgs false
set_option maxRecDepth 100000
namespace Go.Proofs.Ytkpjjfhfbpfjpaa
open Go.RowKit
def SchPost (w : World) (g : Nat) (e : Ending) (w' : World) : Prop := ∃ (s : Sch) (A : Option Addr) (c : Nat), e = .returned (sAgg s.version A s.tabs.length c) ∧ GenS s ∧ s.tabs.length ≤ c ∧ TabS w' (fun b => w.heap.size < b ∧ b < w'.heap.size) A s.tabs ∧ CaseOk w' g ∧ w.grownBy w' (some g)
theorem kinds_gen {v idk : Int} {R1 R2 R3 : List Rfr} {ck : List Pred} {n : Nat} (h2 : 2 ≤ n) (h4 : n ≤ 4) : kindsF (⟨v, (genTabs idk R1 R2 R3 ck).take n⟩ : Sch) 1 = [idk, 4, 5, 3] := by
 have hn : n = 2 ∨ n = 3 ∨ n = 4 := by omega
 rcases hn with rfl | rfl | rfl <;> rfl
set_option maxHeartbeats 8000000 in
theorem schema_any (g : Nat) (w : World) (hc : CaseOk w g) : Calls Try.prog 12 #[.pointer (some ⟨g, 0, none⟩)] w (SchPost w g) := by
 have hgl := hc.lt
 have HC0 := Lib.hid (hc.keep (w' := w.alloc (.cells #[.int .i64 0, .slice none 0 0] 25)) (fun b hb => Below.heap_alloc _ _ _ (by omega)))
 have hza : (w.alloc (.cells #[.int .i64 0, .slice none 0 0] 25)).heap.size = w.heap.size + 1 := by simp
 have HG0 := Lib.hid (World.grownBy_alloc w (.cells #[.int .i64 0, .slice none 0 0] 25) (some g))
 have HR0 := Lib.hid (heap_alloc_new w (.cells #[.int .i64 0, .slice none 0 0] 25))
 clear hc
 go_enter Try.func12, Try.ntmps12
 go_wp2_with fail
 refine (int_any g 3 _ (by omega) HC0.out).mono ?_
 rintro e w1 ⟨r, rfl, h0, h1, -, hc1, hg1, hs1⟩
 have hr := h1 (by omega)
 obtain ⟨n, hn⟩ : ∃ n : Nat, 2 + r = n := ⟨(2 + r).toNat, by omega⟩
 have hn2 : 2 ≤ n := by omega
 have hn4 : n ≤ 4 := by omega
 have HC := Lib.hid hc1
 have HG := Lib.hid (HG0.out.trans hg1)
 have HR := Lib.hid ((hg1.block w.heap.size (by omega) (by intro e; injection e with e; omega)).trans HR0.out)
 have hz1 : w1.heap.size = w.heap.size + 1 := by omega
 clear hc1 hg1 hs1 h1 HC0 HG0 HR0
 go_wp2_with fail
 refine (bool_any g 5 _ (by omega) (by omega) HC.out).mono ?_
 rintro e w2 ⟨bi, rfl, hcb, hgb, hsb⟩
 have HC := Lib.hid hcb
 have HR := Lib.hid ((hgb.block w.heap.size (by omega) (by intro e; injection e with e; omega)).trans HR.out)
 have HG := Lib.hid (HG.out.trans hgb)
 have hz2 : w2.heap.size = w.heap.size + 1 := by omega
 clear hcb hgb hsb
 go_upto_if 10 with fail
 go_cut [4] (fun v W => ∃ idk : Int, v = .int .i64 idk ∧ (idk = 4 ∨ idk = 5) ∧ W = w2)
 case first =>
  cases bi
  · go_wp2_with fail
    go_meet
    exact ⟨4, rfl, .inl rfl, rfl⟩
  · go_wp2_with fail
    go_meet
    exact ⟨5, rfl, .inr rfl, rfl⟩
 case rest =>
  obtain ⟨idk, rfl, hidk, rfl⟩ := hcut
  have HID := Lib.hid hidk
  clear hidk
  go_wp2_with fail
  refine (int_any g 3 _ (by omega) HC.out).mono ?_
  rintro e w3 ⟨v, rfl, v0', v1, -, hc1, hg1, hs1⟩
  have hv := v1 (by omega)
  have HC := Lib.hid hc1
  have HR := Lib.hid ((hg1.block w.heap.size (by omega) (by intro e; injection e with e; omega)).trans HR.out)
  have HG := Lib.hid (HG.out.trans hg1)
  have HZ3 := Lib.hid (show w3.heap.size = w.heap.size + 1 by omega)
  clear hc1 hg1 hs1 v1 hz1 hz2
  go_wp2_with (go_at_call 45; refine (column_any _ _ _).mono ?_; rintro e w' ⟨rfl, rfl⟩)
  change Calls Try.prog _ _ ((genOs v idk n w3.heap.size).foldl World.alloc w3) _
  obtain ⟨W, hW⟩ : ∃ W, (genOs v idk n w3.heap.size).foldl World.alloc w3 = W := ⟨_, rfl⟩
  obtain ⟨hsi, hzW⟩ := schI_start HZ3.out hgl hW HC.out HG.out HR.out
  rw [hW]
  have HI := Lib.hid hsi
  clear hW hsi HC HG HR hzW
  refine (bool_any g 2 _ (by omega) (by omega) HI.out.case).mono ?_
  rintro e wa ⟨bb, rfl, hcb, hgb, hsb⟩
  have HI := Lib.hid (HI.out.keep hgb hcb)
  clear hcb hgb hsb
  go_upto_if 40 with fail
  go_cut [5] (fun p W => ∃ TB bq, p = .pointer (some ⟨TB + 1, 0, none⟩) ∧ SchI w W g TB n v idk bq false false [])
  case first =>
   cases bb
   · go_wp2_with fail
     go_meet
     exact ⟨w3.heap.size + 13, false, rfl, HI.out⟩
   · obtain ⟨⟨x8, hx8⟩, hf8⟩ := HI.out.cell (k := 8) (by omega)
     have s1 : wa.cell? ⟨w3.heap.size + 1 + 1 + 1 + 1 + 1 + 1 + 1 + 1 + 1 + 1 + 1 + 1 + 1 + 1, 1, none⟩ = some (.slice (some ⟨w3.heap.size + 13, 0, none⟩) n 4) := cells_of_block HI.out.sb 1 _ rfl
     have hlT : w3.heap.size + 13 < wa.heap.size := by obtain ⟨_, q, _⟩ := HI.out.tb; exact lt_of_heap q
     have hlS : w3.heap.size + 1 + 1 + 1 + 1 + 1 + 1 + 1 + 1 + 1 + 1 + 1 + 1 + 1 + 1 < wa.heap.size := lt_of_heap HI.out.sb
     have hlT2 : w3.heap.size + 13 < wa.heap.size + 1 := by omega
     have hlS2 : w3.heap.size + 1 + 1 + 1 + 1 + 1 + 1 + 1 + 1 + 1 + 1 + 1 + 1 + 1 + 1 < wa.heap.size + 1 := by omega
     have hlo : w.heap.size < wa.heap.size := by have := HI.out.lo; omega
     go_wp2_with fail
     go_meet
     have hb : Below wa.heap.size wa ((wa.alloc (.cells #[.int .i64 1] 3)).alloc (.cells #[.slice (some ⟨wa.heap.size, 0, none⟩) 1 1, .int .i64 0] 96)) := ((Below.refl _ _).alloc (Nat.le_refl _) _).alloc (by simp) _
     have hfin := (HI.out.below hb).ref1 (Nat.le_refl _) (ref_new hlo hlS hgl)
     rw [World.setCell_alloc_past _ _ _ _ (by simp; omega), World.setCell_alloc_past _ _ _ _ (by omega)] at hfin
     exact ⟨w3.heap.size + 13, true, rfl, hfin⟩
  case rest =>
  obtain ⟨TB, b1, rfl, hi1⟩ := hcut
  have HI := Lib.hid hi1
  clear hi1
  obtain ⟨wp, hwp⟩ : ∃ wp, wc = wp := ⟨_, rfl⟩
  rw [hwp] at HI ⊢
  clear hwp
  go_upto_region 9 with fail
  go_cut [5, 53] (fun p b W => ∃ bb, p = .pointer (some ⟨TB + 1, 0, none⟩) ∧ b = .bool bb ∧ (bb = true → 2 < n) ∧ SchI w W g TB n v idk b1 false false [])
  case first =>
   by_cases hcn : 2 < n
   · have hcn' : ((2 : Nat) : Int) < (n : Int) := by omega
     go_wp2_with fail
     refine (bool_any g 3 _ (by omega) (by omega) HI.out.case).mono ?_
     rintro e wa ⟨bb, rfl, hcb, hgb, hsb⟩
     have HI := Lib.hid (HI.out.keep hgb hcb)
     clear hcb hgb hsb
     go_wp2_with fail
     go_meet
     exact ⟨bb, rfl, rfl, fun _ => hcn, HI.out⟩
   · have hcn' : decide ((2 : Int) < (n : Int)) = false := decide_eq_false (by omega)
     have hcn2 : decide (2 < n) = false := decide_eq_false hcn
     go_wp2_with fail
     go_meet
     exact ⟨false, rfl, rfl, (fun h => by cases h), HI.out⟩
  case rest =>
  obtain ⟨bb, rfl, rfl, hbn, hi1⟩ := hcut
  have HBN := Lib.hid hbn
  have HI := Lib.hid hi1
  clear hi1 hbn
  obtain ⟨wp, hwp⟩ : ∃ wp, wc = wp := ⟨_, rfl⟩
  rw [hwp] at HI ⊢
  clear hwp
  go_upto_if 53 with fail
  go_cut [5] (fun p W => ∃ bq, p = .pointer (some ⟨TB + 1, 0, none⟩) ∧ SchI w W g TB n v idk b1 bq false [])
  case first =>
   cases bb
   · go_wp2_with fail
     go_meet
     exact ⟨false, rfl, HI.out⟩
   · have hcn := HBN.out rfl
     obtain ⟨⟨x8, hx8⟩, hf8⟩ := HI.out.cell (k := 13) (by omega)
     have s1 : wp.cell? ⟨TB + 1, 1, none⟩ = some (.slice (some ⟨TB, 0, none⟩) n 4) := cells_of_block HI.out.sb 1 _ rfl
     have hlT : TB < wp.heap.size := by obtain ⟨_, q, _⟩ := HI.out.tb; exact lt_of_heap q
     have hlS : TB + 1 < wp.heap.size := lt_of_heap HI.out.sb
     have hlT2 : TB < wp.heap.size + 1 := by omega
     have hlS2 : TB + 1 < wp.heap.size + 1 := by omega
     have hlo : w.heap.size < wp.heap.size := by have := HI.out.lo; omega
     go_wp2_with fail
     go_meet
     have hb : Below wp.heap.size wp ((wp.alloc (.cells #[.int .i64 0] 3)).alloc (.cells #[.slice (some ⟨wp.heap.size, 0, none⟩) 1 1, .int .i64 0] 96)) := ((Below.refl _ _).alloc (Nat.le_refl _) _).alloc (by simp) _
     have hfin := (HI.out.below hb).ref2 (Nat.le_refl _) (ref_new hlo hlS hgl)
     rw [World.setCell_alloc_past _ _ _ _ (by simp; omega), World.setCell_alloc_past _ _ _ _ (by omega)] at hfin
     exact ⟨true, rfl, hfin⟩
  case rest =>
  obtain ⟨b2, rfl, hi1⟩ := hcut
  have HI := Lib.hid hi1
  clear hi1
  obtain ⟨wp, hwp⟩ : ∃ wp, wc = wp := ⟨_, rfl⟩
  rw [hwp] at HI ⊢
  clear hwp
  go_upto_region 11 with fail
  go_cut [5, 66] (fun p b W => ∃ bb, p = .pointer (some ⟨TB + 1, 0, none⟩) ∧ b = .bool bb ∧ (bb = true → 3 < n) ∧ SchI w W g TB n v idk b1 b2 false [])
  case first =>
   by_cases hcn : 3 < n
   · have hcn' : ((3 : Nat) : Int) < (n : Int) := by omega
     go_wp2_with fail
     refine (bool_any g 3 _ (by omega) (by omega) HI.out.case).mono ?_
     rintro e wa ⟨bb, rfl, hcb, hgb, hsb⟩
     have HI := Lib.hid (HI.out.keep hgb hcb)
     clear hcb hgb hsb
     go_wp2_with fail
     go_meet
     exact ⟨bb, rfl, rfl, fun _ => hcn, HI.out⟩
   · have hcn' : decide ((3 : Int) < (n : Int)) = false := decide_eq_false (by omega)
     have hcn2 : decide (3 < n) = false := decide_eq_false hcn
     go_wp2_with fail
     go_meet
     exact ⟨false, rfl, rfl, (fun h => by cases h), HI.out⟩
  case rest =>
  obtain ⟨bb, rfl, rfl, hbn, hi1⟩ := hcut
  have HBN := Lib.hid hbn
  have HI := Lib.hid hi1
  clear hi1 hbn
  obtain ⟨wp, hwp⟩ : ∃ wp, wc = wp := ⟨_, rfl⟩
  rw [hwp] at HI ⊢
  clear hwp
  go_upto_if 66 with fail
  go_cut [5] (fun p W => ∃ bq, p = .pointer (some ⟨TB + 1, 0, none⟩) ∧ SchI w W g TB n v idk b1 b2 bq [])
  case first =>
   cases bb
   · go_wp2_with fail
     go_meet
     exact ⟨false, rfl, HI.out⟩
   · have hcn := HBN.out rfl
     obtain ⟨⟨x8, hx8⟩, hf8⟩ := HI.out.cell (k := 18) (by omega)
     have s1 : wp.cell? ⟨TB + 1, 1, none⟩ = some (.slice (some ⟨TB, 0, none⟩) n 4) := cells_of_block HI.out.sb 1 _ rfl
     have hlT : TB < wp.heap.size := by obtain ⟨_, q, _⟩ := HI.out.tb; exact lt_of_heap q
     have hlS : TB + 1 < wp.heap.size := lt_of_heap HI.out.sb
     have hlT2 : TB < wp.heap.size + 1 := by omega
     have hlS2 : TB + 1 < wp.heap.size + 1 := by omega
     have hlo : w.heap.size < wp.heap.size := by have := HI.out.lo; omega
     go_wp2_with fail
     go_meet
     have hb : Below wp.heap.size wp ((wp.alloc (.cells #[.int .i64 0] 3)).alloc (.cells #[.slice (some ⟨wp.heap.size, 0, none⟩) 1 1, .int .i64 1] 96)) := ((Below.refl _ _).alloc (Nat.le_refl _) _).alloc (by simp) _
     have hfin := (HI.out.below hb).ref3 (Nat.le_refl _) (ref_new hlo hlS hgl)
     rw [World.setCell_alloc_past _ _ _ _ (by simp; omega), World.setCell_alloc_past _ _ _ _ (by omega)] at hfin
     exact ⟨true, rfl, hfin⟩
  case rest =>
  obtain ⟨b3, rfl, hi1⟩ := hcut
  have HI := Lib.hid hi1
  clear hi1
  obtain ⟨wp, hwp⟩ : ∃ wp, wc = wp := ⟨_, rfl⟩
  rw [hwp] at HI ⊢
  clear hwp
  go_wp2_with fail
  refine (bool_any g 3 _ (by omega) (by omega) HI.out.case).mono ?_
  rintro e wp ⟨bb, rfl, hcb, hgb, hsb⟩
  have HI := Lib.hid (HI.out.keep hgb hcb)
  clear hcb hgb hsb
  go_upto_if 75 with fail
  go_cut [5] (fun p W => ∃ chk, p = .pointer (some ⟨TB + 1, 0, none⟩) ∧ SchI w W g TB n v idk b1 b2 b3 chk ∧ chk.length ≤ 1 ∧ ∀ p ∈ chk, GenP [idk, 4, 5, 3] [] 4 2 p)
  case first =>
   cases bb
   · go_wp2_with fail
     go_meet
     exact ⟨[], rfl, HI.out, by simp, fun p hp => by simp at hp⟩
   · have s0 : wp.cell? ⟨TB + 1, 0, none⟩ = some (.int .i64 v) := cells_of_block HI.out.sb 0 _ rfl
     have s1 : wp.cell? ⟨TB + 1, 1, none⟩ = some (.slice (some ⟨TB, 0, none⟩) n 4) := cells_of_block HI.out.sb 1 _ rfl
     have hlT : TB < wp.heap.size := by obtain ⟨_, q, _⟩ := HI.out.tb; exact lt_of_heap q
     have hlS : TB + 1 < wp.heap.size := lt_of_heap HI.out.sb
     have hn1 : (1 : Int) < (n : Int) := by omega
     have hlo := HI.out.lo
     have hgwp : g < wp.heap.size := by omega
     have hlen : (Sch.tabs ⟨v, (genTabs idk (rf0 b1 1 0) (rf0 b2 0 0) (rf0 b3 0 1) []).take n⟩).length = n := by show (List.take n _).length = n; rw [List.length_take]; have : (genTabs idk (rf0 b1 1 0) (rf0 b2 0 0) (rf0 b3 0 1) []).length = 4 := rfl; omega
     have HKF := Lib.hid (show kindsF (⟨v, (genTabs idk (rf0 b1 1 0) (rf0 b2 0 0) (rf0 b3 0 1) []).take n⟩ : Sch) 1 = [idk, 4, 5, 3] from kinds_gen hn2 hn4)
     have hKI := rkinds_any (some ⟨TB, 0, none⟩) 4 ⟨v, (genTabs idk (rf0 b1 1 0) (rf0 b2 0 0) (rf0 b3 0 1) []).take n⟩ 1 (fun b => b < wp.heap.size) wp.drew (((HI.out.tabS hn4).more (fun b hb => hb.2.1)).keep (fun _ _ => rfl)) (fun b hb => hb)
     rw [hlen] at hKI
     have HKI := Lib.hid hKI
     clear hKI hlen
     go_wp2_with fail
     refine hideQ (fun c a d v w h => by cases d <;> exact h) (fun Q' HQ HP => ?_)
     refine regionT_until (fun w' => w'.cell? ⟨TB + 1, 0, none⟩ = some (.int .i64 v) ∧ w'.cell? ⟨TB + 1, 1, none⟩ = some (.slice (some ⟨TB, 0, none⟩) n 4)) 9 10 (bA 10 0) (by kernel_rfl) (by kernel_rfl) (by kernel_rfl) ?_
     refine tk 0 76 (bA 10 1) _ rfl (by kernel_rfl) (by kernel_rfl) HP.out (by rfl) (fun w' hSw => by (try dsimp only at hSw); go_simp; (try with_reducible rfl)) ⟨s0, s1⟩ ?_
     simp only [psA, psB, psC]
     refine tk 1 77 (bA 10 3) _ rfl (by kernel_rfl) (by kernel_rfl) HP.out (by rfl) (fun w' hSw => by (try dsimp only at hSw); go_simp; (try with_reducible rfl)) ⟨s0, s1⟩ ?_
     simp only [psA, psB, psC]
     refine tk 2 78 (bA 10 7) _ rfl (by kernel_rfl) (by kernel_rfl) HP.out (by rfl) (fun w' hSw => by (try dsimp only at hSw); go_simp; (try with_reducible rfl)) ⟨s0, s1⟩ ?_
     simp only [psA, psB, psC]
     refine tk 3 79 (bA 10 15) _ rfl (by kernel_rfl) (by kernel_rfl) HP.out (by rfl) (fun w' hSw => by (try dsimp only at hSw); go_simp; (try with_reducible rfl)) ⟨s0, s1⟩ ?_
     simp only [psA, psB, psC]
     refine anyT_one (i := 4) (o := ⟨some 80, _, _, _, _, _⟩) (L' := (bA 10 31)) rfl (by kernel_rfl) (by kernel_rfl) (fun K hK => ?_)
     have HK' := Lib.hid hK
     clear hK
     go_simp
     refine (show Calls _ _ _ _ _ from HKI.out).mono ?_
     rintro e wk ⟨A4, c4, rfl, h4, hc4, hn4', hb4⟩
     have hb4' : Below wp.heap.size wp wk := (Below.refl _ wp).drew.trans hb4
     have HI4 := Lib.hid (HI.out.below hb4')
     have H4 := Lib.hid h4
     have HB4 := Lib.hid hb4'
     have hz4 := hb4'.size
     have k0 := (hb4'.cell (p := ⟨TB + 1, 0, none⟩) hlS).trans s0
     have k1 := (hb4'.cell (p := ⟨TB + 1, 1, none⟩) hlS).trans s1
     clear hb4 hb4' h4 hc4 hn4'
     refine HK'.out _ _ (fun _ => ⟨k0, k1⟩) ?_
     clear HK' K
     try simp only [Act.put, psA, psB, psC]
     refine anyT_one (i := 5) (o := ⟨some 81, _, _, _, _, _⟩) (L' := (bA 10 63)) rfl (by kernel_rfl) (by kernel_rfl) (fun K hK => ?_)
     have HK' := Lib.hid hK
     clear hK
     go_simp
     refine (show Calls _ _ _ _ _ from predicate_any g A4 none c4 0 (kindsF (⟨v, (genTabs idk (rf0 b1 1 0) (rf0 b2 0 0) (rf0 b3 0 1) []).take n⟩ : Sch) 1) [] (by rw [HKF.out]; simp) (by simp) (by rw [HKF.out]; simp) (by rw [HKF.out]; rcases HID.out with rfl | rfl <;> rfl) rfl 1 (by omega) (fun b => wp.heap.size ≤ b ∧ b < wk.heap.size) wk (H4.out.more (fun b hb => hb)) IntS.nil_ (fun b hb => ⟨hb.2, by have := hb.1; omega⟩) HI4.out.case).mono ?_
     rintro e wt ⟨ao, ac, ⟨alk, ali, ⟨alvk, alvi, alvt⟩⟩, ⟨ark, ari, ⟨arvk, arvi, arvt⟩⟩, args, AA, ca, rfl, hgen, hps, hle, hlt, hrt, hct, hgt⟩
     simp only at hlt hrt
     rw [HKF.out] at hgen
     have HGEN := Lib.hid hgen
     have HPS := Lib.hid hps
     have HLE := Lib.hid hle
     have HLT := Lib.hid hlt
     have HRT := Lib.hid hrt
     have HI5 := Lib.hid (HI4.out.keep hgt hct)
     have hzt := hgt.size
     have m0 : wt.cell? ⟨TB + 1, 0, none⟩ = some (.int .i64 v) := cells_of_block HI5.out.sb 0 _ rfl
     have m1 : wt.cell? ⟨TB + 1, 1, none⟩ = some (.slice (some ⟨TB, 0, none⟩) n 4) := cells_of_block HI5.out.sb 1 _ rfl
     clear hgen hps hle hlt hrt hct hgt
     refine HK'.out _ _ (fun _ => ⟨m0, m1⟩) ?_
     clear HK' K
     try simp only [Act.put, psA, psB, psC]
     refine anyT_one (i := 6) (o := ⟨some 82, _, _, _, _, _⟩) (L' := (bA 10 127)) rfl (by kernel_rfl) (by kernel_rfl) (fun K hK => ?_)
     have HK' := Lib.hid hK
     clear hK
     go_simp
     have l0 : (wt.alloc (.cells #[.int .i64 ao, .int .i64 ac, .int .i64 alk, .int .i64 ali, .int .i64 alvk, .int .i64 alvi, .string alvt, .int .i64 ark, .int .i64 ari, .int .i64 arvk, .int .i64 arvi, .string arvt, .slice AA args.length ca] 100)).cell? ⟨TB + 1, 0, none⟩ = _ := (cell_old (by omega)).trans m0
     have l1 : (wt.alloc (.cells #[.int .i64 ao, .int .i64 ac, .int .i64 alk, .int .i64 ali, .int .i64 alvk, .int .i64 alvi, .string alvt, .int .i64 ark, .int .i64 ari, .int .i64 arvk, .int .i64 arvi, .string arvt, .slice AA args.length ca] 100)).cell? ⟨TB + 1, 1, none⟩ = _ := (cell_old (by omega)).trans m1
     refine HK'.out _ _ (fun _ => ⟨l0, l1⟩) ?_
     clear HK' K
     try simp only [Act.put, psA, psB, psC]
     refine anyT_one (i := 7) (o := ⟨some 83, _, _, _, _, _⟩) (L' := (bA 10 255)) rfl (by kernel_rfl) (by kernel_rfl) (fun K hK => ?_)
     have HK' := Lib.hid hK
     clear hK
     go_simp
     refine HK'.out _ _ (fun _ => ⟨l0, l1⟩) ?_
     clear HK' K
     try simp only [Act.put, psA, psB, psC]
     refine anyT_one (i := 8) (o := ⟨some 84, _, _, _, _, _⟩) (L' := (bA 10 511)) rfl (by kernel_rfl) (by kernel_rfl) (fun K hK => ?_)
     have HK' := Lib.hid hK
     clear hK
     go_simp
     refine HK'.out _ _ (fun _ => ⟨l0, l1⟩) ?_
     clear HK' K
     try simp only [Act.put, psA, psB, psC]
     obtain ⟨⟨x9, hx9⟩, hf9⟩ := HI5.out.cell (k := 9) (by omega)
     have hlT5 : TB < wt.heap.size := by omega
     refine anyT_one (i := 9) (o := ⟨none, _, _, _, _, _⟩) (L' := (bA 10 1023)) rfl (by kernel_rfl) (by kernel_rfl) (fun K hK => ?_)
     have HK' := Lib.hid hK
     clear hK
     go_simp
     refine HK'.out _ _ (fun h => absurd rfl h) ?_
     clear HK' K
     refine anyU_done (by kernel_rfl) ?_
     rw [HQ.out]
     clear HQ HP Q'
     have HI6 := Lib.hid (show SchI w ((wt.alloc (.cells #[.int .i64 ao, .int .i64 ac, .int .i64 alk, .int .i64 ali, .int .i64 alvk, .int .i64 alvi, .string alvt, .int .i64 ark, .int .i64 ari, .int .i64 arvk, .int .i64 arvi, .string arvt, .slice AA args.length ca] 100)).setCell ⟨TB, 9, none⟩ (.slice (some ⟨wt.heap.size, 0, none⟩) 1 1)) g TB n v idk b1 b2 b3 [(.mk ao ac ⟨alk, ali, ⟨alvk, alvi, alvt⟩⟩ ⟨ark, ari, ⟨arvk, arvi, arvt⟩⟩ args)] from (HI5.out.below ((Below.refl _ wt).alloc (Nat.le_refl _) _)).chk1 (Nat.le_refl _) (Sl.of_vals (by rw [bytesAll_map (n := 136) encPred_bytes]; simp) (valsAll_one (vals_pred HLE.out (by have := HLT.out; omega) (by have := HRT.out; omega) ((HPS.out.keep (fun b hb => Below.heap_alloc _ _ _ hb.2)).more (fun b hb => ⟨by have := hb.1; omega, by have := hb.2; simp; omega, by have := hb.1; omega, by have := hb.1; omega, by have := hb.1; omega⟩)))) (fun _ => ⟨wt.heap.size, 0, rfl, ⟨by omega, by simp, by omega, by omega, by omega⟩, cells_of_block (heap_alloc_new wt _)⟩)))
     go_wp2_with fail
     go_meet
     have hfin := HI6.out
     refine ⟨[(.mk ao ac ⟨alk, ali, ⟨alvk, alvi, alvt⟩⟩ ⟨ark, ari, ⟨arvk, arvi, arvt⟩⟩ args)], rfl, ?_, by simp, fun p hp => by rw [List.mem_singleton] at hp; rw [hp]; exact HGEN.out⟩
     first | exact hfin | (rw [World.setCell_alloc_past _ _ _ _ (by omega)] at hfin; exact hfin)
  case rest =>
  obtain ⟨chk, rfl, hi1, hc1, hcp⟩ := hcut
  have HI := Lib.hid hi1
  have HC1 := Lib.hid hc1
  have HCP := Lib.hid hcp
  have s0 : wc.cell? ⟨TB + 1, 0, none⟩ = some (.int .i64 v) := cells_of_block hi1.sb 0 _ rfl
  have s1 : wc.cell? ⟨TB + 1, 1, none⟩ = some (.slice (some ⟨TB, 0, none⟩) n 4) := cells_of_block hi1.sb 1 _ rfl
  have r0 : wc.cell? ⟨w.heap.size, 0, none⟩ = some (.int .i64 0) := cells_of_block hi1.rb 0 _ rfl
  have r1 : wc.cell? ⟨w.heap.size, 1, none⟩ = some (.slice none 0 0) := cells_of_block hi1.rb 1 _ rfl
  have rf : wc.frozen? ⟨w.heap.size, 0, none⟩ = false := by simp [World.frozen?, hi1.rb]
  have rf1 : wc.frozen? ⟨w.heap.size, 1, none⟩ = false := by simp [World.frozen?, hi1.rb]
  have hlS : TB + 1 < wc.heap.size := lt_of_heap hi1.sb
  have hlR : w.heap.size < wc.heap.size := by have := hi1.lo; omega
  clear hi1 hc1 hcp
  go_wp2_with fail
  have hr1 : wc.heap[w.heap.size]? = some (.cells [.int .i64 0, .slice none 0 0].toArray 25 (0, 0)) := HI.out.rb
  have hb2 := setCell_block (k := 1) (v := .slice (some ⟨TB, 0, none⟩) n 4) (setCell_block (k := 0) (v := .int .i64 v) hr1)
  have u0 := cells_of_block (cs := #[.int .i64 v, .slice (some ⟨TB, 0, none⟩) n 4]) hb2 0 _ rfl
  have u1 := cells_of_block (cs := #[.int .i64 v, .slice (some ⟨TB, 0, none⟩) n 4]) hb2 1 _ rfl
  have hlen : ((genTabs idk (rf0 b1 1 0) (rf0 b2 0 0) (rf0 b3 0 1) chk).take n).length = n := by rw [List.length_take]; have : (genTabs idk (rf0 b1 1 0) (rf0 b2 0 0) (rf0 b3 0 1) chk).length = 4 := rfl; omega
  have htab := (HI.out.tabS hn4).keep (w' := (wc.setCell ⟨w.heap.size, 0, none⟩ (.int .i64 v)).setCell ⟨w.heap.size, 1, none⟩ (.slice (some ⟨TB, 0, none⟩) n 4)) (fun b hb => (Below.heap_setCell _ ⟨w.heap.size, 1, none⟩ _ b (by have := hb.1; show b ≠ w.heap.size; omega)).trans (Below.heap_setCell _ ⟨w.heap.size, 0, none⟩ _ b (by have := hb.1; show b ≠ w.heap.size; omega)))
  exact bodyPost_ret (v := .agg #[.int .i64 v, .slice (some ⟨TB, 0, none⟩) n 4]) (by simp [results, Try.results12, go_sem, u0, u1]) rfl ⟨⟨v, (genTabs idk (rf0 b1 1 0) (rf0 b2 0 0) (rf0 b3 0 1) chk).take n⟩, some ⟨TB, 0, none⟩, 4, by show _ = Ending.returned (.agg #[.int .i64 v, .slice (some ⟨TB, 0, none⟩) (List.take n _).length 4]); rw [hlen], ⟨n, v, idk, b1, b2, b3, chk, ⟨rfl, hn2, hn4, v0', by omega, HID.out, HC1.out, HCP.out⟩⟩, by show (List.take n _).length ≤ 4; omega, htab.more (fun b hb => ⟨hb.1, by have := hb.2.1; simp; omega⟩), case_set (case_set HI.out.case hgl) hgl, grown_s (grown_s HI.out.gr (Nat.le_refl _)) (Nat.le_refl _)⟩
end Go.Proofs.Ytkpjjfhfbpfjpaa

namespace Go.Proofs.Ytkpjjfhfbpfjpaa
open Go.RowKit
abbrev Rng (g : Nat) (W : World) : Nat → Prop := fun b => g < b ∧ b < W.heap.size
section
variable {w W W' : World} {g n : Nat}
theorem below_grown (h : Below n w W) (hg : W.grownBy W' (some g)) (hn : n ≤ g) (hw : n ≤ W.heap.size) : Below n w W' :=
 h.trans ⟨hg.os, hg.tape, hg.output, hg.size, fun b hb => hg.block b (by omega) (fun e => by injection e with e; omega)⟩
theorem rng_grown (hg : W.grownBy W' (some g)) : Same (Rng g W) W W' := fun b hb => hg.block b hb.2 (fun e => by injection e with e; have := hb.1; omega)
theorem rng_more (hs : W.heap.size ≤ W'.heap.size) : ∀ b, Rng g W b → Rng g W' b := fun b hb => ⟨hb.1, Nat.lt_of_lt_of_le hb.2 hs⟩
theorem countF_le : ∀ (st : St) (k : Nat), (∀ j, (st.getD j []).length ≤ k) → countF st ≤ st.length * k
 | [], k, _ => by simp [countF]
 | l :: st, k, h => by
  have h0 := h 0
  have ih := countF_le st k (fun j => by have := h (j + 1); simpa using this)
  have h0' : l.length ≤ k := by simpa using h0
  simp only [countF, List.length_cons, Nat.succ_mul]
  omega
end
end Go.Proofs.Ytkpjjfhfbpfjpaa

namespace Go.Proofs.Ytkpjjfhfbpfjpaa
open Go.RowKit
set_option maxHeartbeats 8000000 in
theorem netsApply_walk (a : Option Addr) (len cap0 : Nat) (zs : List Int) (w : World) (hrow : IsRow .u8 w a len cap0 zs) :
  Calls Try.prog 8 #[.slice a len cap0] w (BoolBel true w) := by
 have HROW := Lib.hid hrow
 clear hrow
 go_enter Try.func8, Try.ntmps8
 go_wp2_with fail
 refine (new_any a len cap0 zs 160 _ (by omega) HROW.out).mono ?_
 rintro e w1 ⟨g, rfl, hg0, hc1, hb1⟩
 have hgl1 := hc1.lt
 have HC1 := Lib.hid hc1
 have HB1 := Lib.hid hb1
 have hz1 := hb1.size
 clear hc1 hb1
 go_wp2_with fail
 refine (schema_any g _ HC1.out).mono ?_
 rintro e w2 ⟨s, A0, c0', rfl, hgs, hcap, hts, hc2, hg2⟩
 have hz2 := hg2.size
 have hsl := hgs.len
 have HGS := Lib.hid hgs
 have HTS := Lib.hid (hts.more (S' := Rng g w2) (fun b hb => ⟨by have := hb.1; omega, hb.2⟩))
 have HC2 := Lib.hid hc2
 have HB2 := Lib.hid (below_grown HB1.out hg2 hg0 (by omega))
 clear hgs hts hc2 hg2 HC1 HB1
 obtain ⟨W2, hW2⟩ : ∃ W2, w2.alloc (.cells #[.int .i64 s.version, .slice A0 s.tabs.length c0'] 25) = W2 := ⟨_, rfl⟩
 obtain ⟨sb, hsb⟩ : ∃ sb, w2.heap.size = sb := ⟨_, rfl⟩
 have hbW2 : Below w2.heap.size w2 W2 := by rw [← hW2]; exact (Below.refl _ _).alloc (Nat.le_refl _) _
 have SB := Lib.hid (show W2.heap[sb]? = some (.cells #[.int .i64 s.version, .slice A0 s.tabs.length c0'] 25 (0, 0)) by rw [← hW2, ← hsb]; exact heap_alloc_new w2 _)
 have HTS := Lib.hid ((HTS.out.keep (Same.of_below hbW2 (fun b hb => hb.2))).more (rng_more hbW2.size))
 have HC2 := Lib.hid (HC2.out.keep (fun b hb => hbW2.block b (by omega)))
 have HB2 := Lib.hid (HB2.out.trans (hbW2.mono (by omega)))
 have hzW2 : W2.heap.size = sb + 1 := by rw [← hW2, ← hsb]; simp
 have hgs2 : g < sb := by omega
 go_wp2_with fail
 skip
 clear hW2 hbW2 hsb
 refine (int_any g 3 _ (by omega) HC2.out).mono ?_
 rintro e w3 ⟨r, rfl, r0, r1, -, hc3, hg3, hs3⟩
 have hr3 := r1 (by omega)
 obtain ⟨m, hm⟩ : ∃ m, 1 + r = m := ⟨_, rfl⟩
 have HMO := Lib.hid (show modeOk m = true by rw [← hm]; have : r = 0 ∨ r = 1 ∨ r = 2 := (by omega); rcases this with rfl | rfl | rfl <;> rfl)
 have HTS := Lib.hid ((HTS.out.keep (rng_grown hg3)).more (rng_more hg3.size))
 have SB := Lib.hid ((hg3.block sb (by omega) (fun e => by injection e with e; omega)).trans SB.out)
 have HC3 := Lib.hid hc3
 have HB3 := Lib.hid (below_grown HB2.out hg3 hg0 (by omega))
 have hz3 : w3.heap.size = sb + 1 := by omega
 have s0 : w3.cell? ⟨sb, 0, none⟩ = some (.int .i64 s.version) := cells_of_block SB.out 0 _ rfl
 have s1 : w3.cell? ⟨sb, 1, none⟩ = some (.slice A0 s.tabs.length c0') := cells_of_block SB.out 1 _ rfl
 clear hc3 hg3 hs3 r1 HC2 HB2
 go_wp2_with fail
 try rw [hm]
 refine (state_any g A0 c0' s m (Rng g w3) _ HTS.out (fun b hb => ⟨hb.2, by have := hb.1; omega⟩) HGS.out HMO.out HC3.out).mono ?_
 rintro e w4 ⟨gt, st, rfl, hso, hs4, hgt, hstc, hc4, hg4⟩
 have hz4 := hg4.size
 have HSO := Lib.hid hso
 have HS4 := Lib.hid (show countF st ≤ 16 by have h9 := countF_le st 4 hs4; have h8 := hso.1; have := hsl.2; rw [h8] at h9; omega)
 have HSTC := Lib.hid (hstc.slice (S' := Rng g w4) (by have h8 := hso.1; omega) (fun b hb => by rcases hb with hb | hb; { exact ⟨hb.1, by have := hb.2; omega⟩ }; exact ⟨by have := hb.1; omega, hb.2⟩) ⟨by omega, hstc.lt⟩)
 have HTS := Lib.hid ((HTS.out.keep (rng_grown hg4)).more (rng_more hg4.size))
 have SB := Lib.hid ((hg4.block sb (by omega) (fun e => by injection e with e; omega)).trans SB.out)
 have HC4 := Lib.hid hc4
 have HB4 := Lib.hid (below_grown HB3.out hg4 hg0 (by omega))
 have hstl : st.length ≤ 4 := by have h8 := hso.1; omega
 clear hso hs4 hstc hc4 hg4 HC3 HB3 s0 s1 hgt
 obtain ⟨W4, hW4⟩ : ∃ W4, w4.alloc (.cells #[.slice (some ⟨gt, 0, none⟩) st.length st.length] 56) = W4 := ⟨_, rfl⟩
 obtain ⟨tb, htb⟩ : ∃ tb, w4.heap.size = tb := ⟨_, rfl⟩
 have hbW4 : Below w4.heap.size w4 W4 := by rw [← hW4]; exact (Below.refl _ _).alloc (Nat.le_refl _) _
 have TB := Lib.hid (show W4.heap[tb]? = some (.cells #[.slice (some ⟨gt, 0, none⟩) st.length st.length] 56 (0, 0)) by rw [← hW4, ← htb]; exact heap_alloc_new w4 _)
 have SB := Lib.hid ((hbW4.block sb (by omega)).trans SB.out)
 have HTS := Lib.hid ((HTS.out.keep (Same.of_below hbW4 (fun b hb => hb.2))).more (rng_more hbW4.size))
 have HSTC := Lib.hid ((HSTC.out.keep (Same.of_below hbW4 (fun b hb => hb.2))).more (rng_more hbW4.size))
 have HC4 := Lib.hid (HC4.out.keep (fun b hb => hbW4.block b (by omega)))
 have HB4 := Lib.hid (HB4.out.trans (hbW4.mono (by omega)))
 have hzW4 : W4.heap.size = tb + 1 := by rw [← hW4, ← htb]; simp
 have hst' : sb < tb := by omega
 have s0 : W4.cell? ⟨sb, 0, none⟩ = some (.int .i64 s.version) := cells_of_block SB.out 0 _ rfl
 have s1 : W4.cell? ⟨sb, 1, none⟩ = some (.slice A0 s.tabs.length c0') := cells_of_block SB.out 1 _ rfl
 have t0' : W4.cell? ⟨tb, 0, none⟩ = some (.slice (some ⟨gt, 0, none⟩) st.length st.length) := cells_of_block TB.out 0 _ rfl
 clear hbW4
 go_wp2_with fail
 try rw [htb]
 clear htb hW4
 refine (changes_any g A0 c0' s m (some ⟨gt, 0, none⟩) st.length st 7 (Rng g W4) _ HTS.out HSTC.out (fun b hb => ⟨hb.2, by have := hb.1; omega⟩) HGS.out HMO.out HSO.out (by have := HS4.out; omega) (by omega) HC4.out).mono ?_
 rintro e w5 ⟨B0, gt2, cap, l, AL, cl, rfl, hcap2, hl6, hfit, hmk, hstc, hgt2, hgtB, hc5, hg5⟩
 have hz5 := hg5.size
 have HFIT := Lib.hid hfit
 have hl6' : l.length ≤ 7 := hl6
 have HLs := Lib.hid (((hmk.slice (by rw [bytesAll_map (n := 56) (fun _ => rfl)]; omega)).2.2).more (S' := Rng g w5) (fun b hb => hb.elim (fun h => h.elim) (fun hb => ⟨by have := hb.1; omega, hb.2⟩)))
 have HSTC2 := Lib.hid (hstc.slice (S' := Rng g w5) (by rw [after_len]; omega) (fun b hb => by
  have h9 := (hstc.mem b hb).1
  rcases hb with hb | hb | hb
  · exact ⟨hb.1, h9⟩
  · exact ⟨by have := hb.1; omega, h9⟩
  · exact ⟨by have := hb.1; omega, h9⟩) ⟨by omega, hstc.lt⟩)
 have HSTC := Lib.hid ((HSTC.out.keep (rng_grown hg5)).more (rng_more hg5.size))
 have HTS := Lib.hid ((HTS.out.keep (rng_grown hg5)).more (rng_more hg5.size))
 have SB := Lib.hid ((hg5.block sb (by omega) (fun e => by injection e with e; omega)).trans SB.out)
 have TB := Lib.hid ((hg5.block tb (by omega) (fun e => by injection e with e; omega)).trans TB.out)
 have HB5 := Lib.hid (below_grown HB4.out hg5 hg0 (by omega))
 clear hfit hmk hstc hc5 hg5 HC4 HB4 s0 s1 t0' hgt2 hgtB hl6
 obtain ⟨W6, hW6⟩ : ∃ W6, w5.alloc (.cells #[.slice (some ⟨gt2, 0, none⟩) st.length cap] 56) = W6 := ⟨_, rfl⟩
 obtain ⟨ab, hab⟩ : ∃ ab, w5.heap.size = ab := ⟨_, rfl⟩
 have hbW6 : Below w5.heap.size w5 W6 := by rw [← hW6]; exact (Below.refl _ _).alloc (Nat.le_refl _) _
 have AB := Lib.hid (show W6.heap[ab]? = some (.cells #[.slice (some ⟨gt2, 0, none⟩) st.length cap] 56 (0, 0)) by rw [← hW6, ← hab]; exact heap_alloc_new w5 _)
 have SB := Lib.hid ((hbW6.block sb (by omega)).trans SB.out)
 have TB := Lib.hid ((hbW6.block tb (by omega)).trans TB.out)
 have toW : ∀ b, Rng g w5 b → b < W6.heap.size := fun b hb => by have := hb.2; have := hbW6.size; omega
 have HTS := Lib.hid ((HTS.out.keep (Same.of_below hbW6 (fun b hb => hb.2))).more toW)
 have HSTC := Lib.hid ((HSTC.out.keep (Same.of_below hbW6 (fun b hb => hb.2))).more toW)
 have HSTC2 := Lib.hid ((HSTC2.out.keep (Same.of_below hbW6 (fun b hb => hb.2))).more toW)
 have HLs := Lib.hid (((show ChgS w5 (Rng g w5) AL l from HLs.out).keep (Same.of_below hbW6 (fun b hb => hb.2))).more (S' := fun b => b < W6.heap.size) toW)
 have HB6 := Lib.hid (HB5.out.trans (hbW6.mono (by omega)))
 have hzW6 : W6.heap.size = ab + 1 := by rw [← hW6, ← hab]; simp
 have hta : tb < ab := by omega
 have lsb : sb < W6.heap.size := by omega
 have ltb : tb < W6.heap.size := by omega
 have lab : ab < W6.heap.size := by omega
 have k0 : W6.cell? ⟨sb, 0, none⟩ = some (.int .i64 s.version) := cells_of_block SB.out 0 _ rfl
 have k1 : W6.cell? ⟨sb, 1, none⟩ = some (.slice A0 s.tabs.length c0') := cells_of_block SB.out 1 _ rfl
 have k2 : W6.cell? ⟨ab, 0, none⟩ = some (.slice (some ⟨gt2, 0, none⟩) st.length cap) := cells_of_block AB.out 0 _ rfl
 have k3 : W6.cell? ⟨tb, 0, none⟩ = some (.slice (some ⟨gt, 0, none⟩) st.length st.length) := cells_of_block TB.out 0 _ rfl
 have hwW : w.heap.size ≤ W6.heap.size := HB6.out.size
 clear hbW6 toW
 have HWD := Lib.hid HGS.out.wide
 have hfo := fit_ok HSO.out HFIT.out
 have HAO := Lib.hid hfo.1
 have HAC := Lib.hid (show countF (after s st l) ≤ 512 by have := hfo.2; have := HS4.out; omega)
 have hdf := diff_fit HGS.out.wide HSO.out hfo.1
 have hdl : (diffF s st (after s st l)).length ≤ 100 := by have h9 := diffS_len s st (after s st l) 0; have := HS4.out; have := hfo.2; show (diffS s 0 st (after s st l)).length ≤ 100; omega
 have HDF := Lib.hid hdf
 have HDL := Lib.hid hdl
 have HNE := Lib.hid (show netF (schF pcF s) s m l = (0, diffF s st (after s st l)) by rw [HGS.out.check]; exact net_diff HGS.out.wide HMO.out HSO.out HFIT.out)
 have HAE := Lib.hid (show applyF (schF pcF s) s m st (diffF s st (after s st l)) = (0, after s st l) by
  unfold applyF
  rw [HGS.out.check, HSO.out.check HMO.out (by have := HS4.out; omega)]
  simp only [ne_eq, not_true, if_false]
  rw [fit_apply HSO.out hdf.1 (by have := HS4.out; omega), hdf.2])
 have HDE := Lib.hid (show diffRF (schF pcF s) s m st (after s st l) = (0, diffF s st (after s st l)) by
  unfold diffRF
  rw [HGS.out.check, HSO.out.check HMO.out (by have := HS4.out; omega), hfo.1.check HMO.out HAC.out]
  simp only [ne_eq, not_true, if_false])
 clear hfo hdf hdl
 have HAL := Lib.hid (after_len l st (s := s))
 obtain ⟨D, hD⟩ : ∃ D, diffF s st (after s st l) = D := ⟨_, rfl⟩
 obtain ⟨af, haf⟩ : ∃ af, after s st l = af := ⟨_, rfl⟩
 rw [hD] at HNE HAE HDE HDL
 rw [haf] at HAE HDE HAL HAC HSTC2
 clear hD haf
 have HAL' := HAL.out
 go_wp2_with fail
 try rw [hab]
 try rw [hW6]
 clear hab hW6
 have hall : ∀ b, b < W6.heap.size → b < W6.heap.size := fun b h => h
 refine (net_any pcF A0 c0' s m AL cl l (fun b => b < W6.heap.size) W6 (HTS.out.more hall) (HLs.out.more hall) hall (sch_preds s) (by have := HGS.out.len.2; omega) (by omega)).mono ?_
 rw [HNE.out]
 rintro e w7 ⟨NA, nc, rfl, hncap, hnl, hb7⟩
 have HB7 := Lib.hid hb7
 have hz7 := hb7.size
 have HNL := Lib.hid (hnl.more (S' := fun b => b < w7.heap.size) (fun b hb => hb.2))
 have p0 := (hb7.cell (p := ⟨sb, 0, none⟩) (by show sb < W6.heap.size; omega)).trans k0
 have p1 := (hb7.cell (p := ⟨sb, 1, none⟩) (by show sb < W6.heap.size; omega)).trans k1
 have p2 := (hb7.cell (p := ⟨ab, 0, none⟩) (by show ab < W6.heap.size; omega)).trans k2
 have p3 := (hb7.cell (p := ⟨tb, 0, none⟩) (by show tb < W6.heap.size; omega)).trans k3
 clear hb7 hnl k0 k1 k2 k3
 go_wp2_with fail
 have hap := apply_any pcF A0 c0' s m (some ⟨gt, 0, none⟩) st.length st NA nc D (fun b => b < w7.heap.size) w7 ((HTS.out.keep (fun b hb => HB7.out.block b hb)).more (fun b hb => by have h9 : b < W6.heap.size := hb; show b < w7.heap.size; omega)) ((HSTC.out.keep (fun b hb => HB7.out.block b hb)).more (fun b hb => by have h9 : b < W6.heap.size := hb; show b < w7.heap.size; omega)) HNL.out (fun b hb => hb) (sch_preds s) (by have := HS4.out; omega)
 rw [HAE.out] at hap
 refine hap.mono ?_
 rintro e w8 ⟨XA, xc, rfl, hxcap, hxl, hb8⟩
 clear hap
 have HB8 := Lib.hid (HB7.out.trans (hb8.mono hz7))
 have hz8 := hb8.size
 have HXL := Lib.hid (hxl.more (S' := fun b => b < w8.heap.size) (fun b hb => hb.2))
 have HNL := Lib.hid ((HNL.out.keep (fun b hb => hb8.block b hb)).more (S' := fun b => b < w8.heap.size) (fun b hb => by have h9 : b < w7.heap.size := hb; show b < w8.heap.size; omega))
 have q0 := (hb8.cell (p := ⟨sb, 0, none⟩) (by show sb < w7.heap.size; omega)).trans p0
 have q1 := (hb8.cell (p := ⟨sb, 1, none⟩) (by show sb < w7.heap.size; omega)).trans p1
 have q2 := (hb8.cell (p := ⟨ab, 0, none⟩) (by show ab < w7.heap.size; omega)).trans p2
 have q3 := (hb8.cell (p := ⟨tb, 0, none⟩) (by show tb < w7.heap.size; omega)).trans p3
 clear hb8 hxl p0 p1 p2 p3
 obtain ⟨W9, hW9⟩ : ∃ W9, w8.alloc (.cells #[.slice XA st.length xc] 56) = W9 := ⟨_, rfl⟩
 have hb9 : Below w8.heap.size w8 W9 := by rw [← hW9]; exact (Below.refl _ _).alloc (Nat.le_refl _) _
 have hz9 : W9.heap.size = w8.heap.size + 1 := by rw [← hW9]; simp
 obtain ⟨xb, hxb⟩ : ∃ xb, w8.heap.size = xb := ⟨_, rfl⟩
 have XB := Lib.hid (show W9.heap[xb]? = some (.cells #[.slice XA st.length xc] 56 (0, 0)) by rw [← hW9, ← hxb]; exact heap_alloc_new w8 _)
 have HB9 := Lib.hid (HB8.out.trans (hb9.mono (by omega)))
 have r0 := (hb9.cell (p := ⟨sb, 0, none⟩) (by show sb < w8.heap.size; omega)).trans q0
 have r1 := (hb9.cell (p := ⟨sb, 1, none⟩) (by show sb < w8.heap.size; omega)).trans q1
 have r2 := (hb9.cell (p := ⟨ab, 0, none⟩) (by show ab < w8.heap.size; omega)).trans q2
 have r3 := (hb9.cell (p := ⟨tb, 0, none⟩) (by show tb < w8.heap.size; omega)).trans q3
 have HXL := Lib.hid (HXL.out.keep (fun b hb => hb9.block b hb))
 have HNL := Lib.hid (HNL.out.keep (fun b hb => hb9.block b hb))
 clear hb9 q0 q1 q2 q3
 go_wp2_with fail
 try rw [hxb]
 clear hxb
 have hlt8 : w8.heap.size < W9.heap.size := by omega
 have hdi := diff_any pcF A0 c0' s m (some ⟨gt, 0, none⟩) st.length st (some ⟨gt2, 0, none⟩) cap af (fun b => b < W6.heap.size) W9 ((HTS.out.keep (fun b hb => HB9.out.block b hb)).more hall) ((HSTC.out.keep (fun b hb => HB9.out.block b hb)).more hall) ((HSTC2.out.keep (fun b hb => HB9.out.block b hb)).more hall) (fun b hb => by have h9 : b < W6.heap.size := hb; omega) (sch_preds s) (by have := HS4.out; omega) (by have := HAC.out; omega)
 rw [HDE.out, HAL.out] at hdi
 try rw [hW9]
 clear hW9
 refine hdi.mono ?_
 rintro e wA ⟨DA, dc, rfl, hdcap, hdl, hbA⟩
 clear hdi
 have HBA := Lib.hid (HB9.out.trans (hbA.mono (by omega)))
 have hzA := hbA.size
 have HDLs := Lib.hid (hdl.more (S' := fun b => b < wA.heap.size) (fun b hb => hb.2))
 have HXL := Lib.hid ((HXL.out.keep (fun b hb => hbA.block b (by have h9 : b < w8.heap.size := hb; omega))).more (S' := fun b => b < wA.heap.size) (fun b hb => by have h9 : b < w8.heap.size := hb; show b < wA.heap.size; omega))
 have HNL := Lib.hid ((HNL.out.keep (fun b hb => hbA.block b (by have h9 : b < w8.heap.size := hb; omega))).more (S' := fun b => b < wA.heap.size) (fun b hb => by have h9 : b < w8.heap.size := hb; show b < wA.heap.size; omega))
 have XB := Lib.hid ((hbA.block xb (lt_of_heap XB.out)).trans XB.out)
 have t0 := (hbA.cell (p := ⟨sb, 0, none⟩) (by show sb < W9.heap.size; omega)).trans r0
 have t1 := (hbA.cell (p := ⟨sb, 1, none⟩) (by show sb < W9.heap.size; omega)).trans r1
 have t2 := (hbA.cell (p := ⟨ab, 0, none⟩) (by show ab < W9.heap.size; omega)).trans r2
 have t3 := (hbA.cell (p := ⟨tb, 0, none⟩) (by show tb < W9.heap.size; omega)).trans r3
 clear hbA hdl r0 r1 r2 r3
 go_wp2_with fail
 refine (begun8_any wA).mono ?_
 rintro e wB ⟨rfl, hbB⟩
 have HBB := Lib.hid (HBA.out.trans (hbB.mono (by omega)))
 have hzB := hbB.size
 have HCB := Lib.hid hbB
 have x0 : wB.cell? ⟨xb, 0, none⟩ = some (.slice XA st.length xc) := cells_of_block ((hbB.block xb (lt_of_heap XB.out)).trans XB.out) 0 _ rfl
 have x1 : wB.cell? ⟨ab, 0, none⟩ = some (.slice (some ⟨gt2, 0, none⟩) st.length cap) := (hbB.cell (p := ⟨ab, 0, none⟩) (by show ab < wA.heap.size; omega)).trans t2
 clear hbB t0 t1 t2 t3
 go_wp2_with fail
 have hsm := rsame_any XA (some ⟨gt2, 0, none⟩) xc cap af af (fun b => b < wA.heap.size) wB (HXL.out.keep (fun b hb => HCB.out.block b hb)) (((HSTC2.out.keep (fun b hb => HBA.out.block b hb)).more (fun b hb => by have h9 : b < W6.heap.size := hb; show b < wA.heap.size; omega)).keep (fun b hb => HCB.out.block b hb)) (fun b hb => by have h9 : b < wA.heap.size := hb; omega)
 rw [decide_eq_true (rfl : af = af)] at hsm
 rw [HAL.out] at hsm
 refine hsm.mono ?_
 rintro e wC ⟨rfl, hbC⟩
 clear hsm
 have HCC := Lib.hid (HCB.out.trans (hbC.mono hzB))
 have HBC := Lib.hid (HBB.out.trans (hbC.mono (by omega)))
 have hzC := HCC.out.size
 clear hbC
 go_wp2_with fail
 refine (rsameChanges_any NA DA nc dc D D (fun b => b < wA.heap.size) wC (HNL.out.keep (fun b hb => HCC.out.block b hb)) (HDLs.out.keep (fun b hb => HCC.out.block b hb)) (fun b hb => by have h9 : b < wA.heap.size := hb; omega)).mono ?_
 rintro e wD ⟨rfl, hbD⟩
 rw [decide_eq_true (rfl : D = D)]
 have HBD := Lib.hid (HB6.out.trans ((HBC.out.mono (by omega)).trans (hbD.mono (by omega))))
 clear hbD
 go_wp2_with fail
 go_ret
 exact ⟨rfl, HBD.out⟩
end Go.Proofs.Ytkpjjfhfbpfjpaa

