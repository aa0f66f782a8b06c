/- Contract: table.Check. -/
import Derived.Test.YtkpjjfhfbpfjpaaMode
namespace Go.Proofs.Ytkpjjfhfbpfjpaa
open Go.RowKit
set_option linter.unusedVariables false

set_option maxRecDepth 100000 in
set_option maxHeartbeats 4000000 in
theorem tcheck_any (pc : List Int → Pred → Int) (A0 : Option Addr) (c0' : Nat) (s : Sch) (m : Int) (A : Option Addr) (ca : Nat) (st : St) (S : Nat → Prop) (w : World) (hs : TabS w S A0 s.tabs) (hst : StS w S A st) (hS : ∀ b, S b → b < w.heap.size) (hpc : SchPreds pc s) (hc : countF st ≤ 4611686018427387904) :
    Calls Try.prog 19 #[sAgg s.version A0 s.tabs.length c0', .int .i64 m, stAgg A st.length ca] w (IntBel (checkF (schF pc s) s m st) w) := by
  obtain ⟨er, her⟩ : ∃ er, modeF (schF pc s) m = er := ⟨_, rfl⟩
  have HCF := Lib.hid (show checkF (schF pc s) s m st = if er ≠ 0 then er else if 512 < countF st then 2 else if st.length ≠ s.tabs.length then 80 else if stOk s m 0 st then 0 else 80 by rw [← her]; rfl)
  have HER := Lib.hid her
  clear her
  have HS := Lib.hid hs
  have HST := Lib.hid hst
  have HPC := Lib.hid hpc
  have HC := Lib.hid hc
  have hsl := hs.len
  have hstl := hst.len
  clear hs hpc hst hc
  have HB0 := Lib.hid (((Below.refl w.heap.size w).alloc (Nat.le_refl _) (.cells #[.int .i64 s.version, .slice A0 s.tabs.length c0'] 25)).alloc (by simp) (.cells #[.slice A st.length ca] 56))
  go_enter Try.func19, Try.ntmps19
  go_wp2_with fail
  refine (mode_any pc A0 c0' s m S _ (HS.out.keep (Same.of_below HB0.out hS)) (fun b hb => by have := hS b hb; simp; omega) HPC.out).mono ?_
  rintro e w1 ⟨rfl, hb1⟩
  rw [HER.out]
  clear HER
  have HB1 := Lib.hid (HB0.out.trans (hb1.mono (by simp; omega)))
  have x0 : w1.cell? ⟨w.heap.size, 0, none⟩ = some (.int .i64 s.version) := (hb1.cell (p := ⟨w.heap.size, 0, none⟩) (by simp <;> omega)).trans (by simp)
  have x1 : w1.cell? ⟨w.heap.size, 1, none⟩ = some (.slice A0 s.tabs.length c0') := (hb1.cell (p := ⟨w.heap.size, 1, none⟩) (by simp <;> omega)).trans (by simp)
  have x2 : w1.cell? ⟨w.heap.size + 1, 0, none⟩ = some (.slice A st.length ca) := (hb1.cell (p := ⟨w.heap.size + 1, 0, none⟩) (by simp <;> omega)).trans (by simp)
  have hw1 : w.heap.size + 1 < w1.heap.size := by have := hb1.size; simp at this; omega
  clear hb1 HB0
  by_cases he : er = 0
  · subst he
    go_wp2_with fail
    refine (count_any A ca st S _ (HST.out.keep (Same.of_below HB1.out hS)) (fun b hb => by have := hS b hb; omega) HC.out).mono ?_
    rintro e w2 ⟨rfl, hb2⟩
    have HB2 := Lib.hid (HB1.out.trans (hb2.mono (by omega)))
    have y0 : w2.cell? ⟨w.heap.size, 0, none⟩ = some (.int .i64 s.version) := (hb2.cell (p := ⟨w.heap.size, 0, none⟩) (by simp; omega)).trans x0
    have y1 : w2.cell? ⟨w.heap.size, 1, none⟩ = some (.slice A0 s.tabs.length c0') := (hb2.cell (p := ⟨w.heap.size, 1, none⟩) (by simp; omega)).trans x1
    have y2 : w2.cell? ⟨w.heap.size + 1, 0, none⟩ = some (.slice A st.length ca) := (hb2.cell (p := ⟨w.heap.size + 1, 0, none⟩) (by simp; omega)).trans x2
    have hw2 : w.heap.size + 1 < w2.heap.size := by have := hb2.size; omega
    clear hb2 HB1 x0 x1 x2 hw1
    by_cases h512 : 512 < countF st
    · have HF := Lib.hid (show checkF (schF pc s) s m st = 2 by rw [HCF.out, if_neg (by simp), if_pos h512])
      have hd1 : decide (512 < (countF st : Int)) = true := by simp; omega
      clear h512 HCF
      generalize countF st = cn at hd1
      go_wp2_with fail
      go_ret
      exact ⟨by rw [HF.out]; rfl, HB2.out⟩
    · have hd1 : decide (512 < (countF st : Int)) = false := by simp; omega
      have HCF2 := Lib.hid (show checkF (schF pc s) s m st = if st.length ≠ s.tabs.length then 80 else if stOk s m 0 st then 0 else 80 by rw [HCF.out, if_neg (by simp), if_neg h512])
      clear h512 HCF HC
      generalize countF st = cn at hd1
      by_cases hlen : st.length = s.tabs.length
      · have hd2 : ((st.length : Int) != s.tabs.length) = false := by simp [hlen]
        have HCF3 := Lib.hid (show checkF (schF pc s) s m st = if stOk s m 0 st then 0 else 80 by rw [HCF2.out, if_neg (by simpa using hlen)])
        clear HCF2
        have HLEN := Lib.hid hlen
        clear hlen
        go_wp2_with fail
        clear hd1 hd2
        go_loopw [31] (fun i wr => ∃ k : Nat, k ≤ st.length ∧ i = .int .i64 k ∧ stOk s m 0 st = stOk s m k (st.drop k) ∧ Below w.heap.size w wr ∧ wr.cell? ⟨w.heap.size, 0, none⟩ = some (.int .i64 s.version) ∧ wr.cell? ⟨w.heap.size, 1, none⟩ = some (.slice A0 s.tabs.length c0') ∧ w.heap.size + 1 < wr.heap.size) (fun i _ => st.length - (intOf i).toNat)
        case atStart => exact ⟨0, Nat.zero_le _, rfl, by simp, HB2.out, y0, y1, hw2⟩
        case round =>
          clear HB2 y0 y1 y2 hw2
          obtain ⟨k, hk, rfl, hch, hbel, x0, x1, hw1⟩ := hrel
          have HT := Lib.hid hch
          have HB := Lib.hid hbel
          clear hch hbel
          by_cases hkl : k < st.length
          · obtain ⟨b2, o2, rfl, hb2, A', c', d1, d2, d3⟩ := (HST.out.keep (Same.of_below HB.out hS)).at_ hkl
            have hl2 : b2 < wr.heap.size := by have := hS b2 hb2; omega
            have HSTEP := Lib.hid (stOk_drop s m st k hkl)
            have HRS := Lib.hid d3
            have hrl := d3.len
            have HD2 := Lib.hid d2
            clear d2 d3
            generalize st.getD k [] = rows at d1 HSTEP HRS HD2 hrl
            go_wp2_with fail
            clear d1
            go_loopw [38] (fun i wq => ∃ j : Nat, j ≤ rows.length ∧ i = .int .i64 j ∧ rowsOk s k m none rows = rowsOk s k m (before rows j) (rows.drop j) ∧ Below wr.heap.size wr wq) (fun i _ => rows.length - (intOf i).toNat)
            case atStart => exact ⟨0, Nat.zero_le _, rfl, by simp [before], Below.refl _ _⟩
            case round =>
              obtain ⟨j, hj, rfl, hch, hbq⟩ := hrel
              rename_i wa
              have HT2 := Lib.hid hch
              have HBQ := Lib.hid hbq
              have hsq := hbq.size
              have HBW := Lib.hid (HB.out.trans (hbq.mono (by omega)))
              have y0 : wr.cell? ⟨w.heap.size, 0, none⟩ = some (.int .i64 s.version) := (hbq.cell (p := ⟨w.heap.size, 0, none⟩) (by simp; omega)).trans x0
              have y1 : wr.cell? ⟨w.heap.size, 1, none⟩ = some (.slice A0 s.tabs.length c0') := (hbq.cell (p := ⟨w.heap.size, 1, none⟩) (by simp; omega)).trans x1
              clear hch hbq
              by_cases hjl : j < rows.length
              · have HRQ := Lib.hid (HRS.out.keep (w' := wr) (fun b hb => HBQ.out.block b (by have := hS b hb; omega)))
                obtain ⟨b5, o5, rfl, hb5, A5, c5, f1, f2, f3⟩ := HRQ.out.at_ hjl
                have hl5 : b5 < wr.heap.size := by have := hS b5 hb5; omega
                have HSTEP2 := Lib.hid (rowsOk_drop s k m rows j hjl)
                have HROW := Lib.hid f3
                have HC5 := Lib.hid f2
                have hrw := f3.len
                clear f2 f3
                by_cases hj0 : j = 0
                · have hd3 : decide ((0:Int) < (j : Int)) = false := by simp; omega
                  have HSTEP3 := Lib.hid (show rowsOk s k m none rows = (fitsF s k (rows.getD j []) m && rowsOk s k m (before rows (j + 1)) (rows.drop (j + 1))) by rw [HT2.out, HSTEP2.out]; subst hj0; simp [before])
                  have HJ0 := Lib.hid (show ¬ 0 < j by omega)
                  clear HSTEP2 HT2 hj0 hd3
                  generalize rows.getD j [] = row at f1 HSTEP3 HROW HC5 hrw
                  go_wp2_with fail
                  refine (fits_any A0 c0' s k m A5 c5 row S _ (HS.out.keep (Same.of_below HBW.out hS)) HROW.out (fun b hb => by have := hS b hb; omega)).mono ?_
                  rintro e w4 ⟨rfl, hb4⟩
                  have HB4 := Lib.hid (HBQ.out.trans (hb4.mono (by omega)))
                  clear hb4
                  by_cases hf : fitsF s k row m = true
                  · rw [hf] at HSTEP3 ⊢
                    clear hf
                    go_wp2_with fail
                    have hd4 := HJ0.out
                    go_quiet (fail)
                    go_wp2_with fail
                    go_roundw
                    case rel => exact ⟨j + 1, by omega, by go_num, by rw [HSTEP3.out]; simp, below_drewN HB4.out _⟩
                    case measure => simp [intOf]; omega
                  · have hf' : fitsF s k row m = false := by simpa using hf
                    rw [hf'] at HSTEP3 ⊢
                    clear hf hf'
                    have HF := Lib.hid (show checkF (schF pc s) s m st = 80 by rw [HCF3.out, HT.out, HSTEP.out, HSTEP3.out]; simp)
                    go_wp2_with fail
                    go_ret
                    exact ⟨by rw [HF.out]; rfl, HB.out.trans (HB4.out.mono (by omega))⟩
                · obtain ⟨i, rfl⟩ : ∃ i, j = i + 1 := ⟨j - 1, by omega⟩
                  obtain ⟨b6, o6, e6, hb6, A6, c6, g1, g2, g3⟩ := HRQ.out.at_ (show i < rows.length by omega)
                  injection e6 with e6
                  injection e6 with e61 e62
                  subst e61 e62
                  have HPREV := Lib.hid g3
                  have HC6 := Lib.hid g2
                  have hrw6 := g3.len
                  have HSTEP3 := Lib.hid (show rowsOk s k m none rows = (fitsF s k (rows.getD (i + 1) []) m && decide (cmpR (keyF s k (rows.getD i [])) (keyF s k (rows.getD (i + 1) [])) < 0) && rowsOk s k m (before rows (i + 1 + 1)) (rows.drop (i + 1 + 1))) by rw [HT2.out, HSTEP2.out]; rfl)
                  clear g2 g3 hj0 HSTEP2 HT2
                  generalize rows.getD (i + 1) [] = row at f1 HSTEP3 HROW HC5 hrw
                  generalize rows.getD i [] = prev at g1 HSTEP3 HPREV HC6 hrw6
                  have hd3 : decide ((0:Int) < ((i + 1 : Nat) : Int)) = true := by simp
                  go_wp2_with fail
                  refine (fits_any A0 c0' s k m A5 c5 row S _ (HS.out.keep (Same.of_below HBW.out hS)) HROW.out (fun b hb => by have := hS b hb; omega)).mono ?_
                  rintro e w4 ⟨rfl, hb4⟩
                  have HB4 := Lib.hid (HBQ.out.trans (hb4.mono (by omega)))
                  have HX4 := Lib.hid hb4
                  have HBW4 := Lib.hid (HBW.out.trans (hb4.mono (by omega)))
                  have z0 : w4.cell? ⟨w.heap.size, 0, none⟩ = some (.int .i64 s.version) := (hb4.cell (p := ⟨w.heap.size, 0, none⟩) (by simp; omega)).trans y0
                  have z1 : w4.cell? ⟨w.heap.size, 1, none⟩ = some (.slice A0 s.tabs.length c0') := (hb4.cell (p := ⟨w.heap.size, 1, none⟩) (by simp; omega)).trans y1
                  have z2 : w4.cell? ⟨b5, o5 + i, none⟩ = some (.slice A6 prev.length c6) := (hb4.cell (p := ⟨b5, o5 + i, none⟩) hl5).trans g1
                  have hs4 : wr.heap.size ≤ w4.heap.size := hb4.size
                  have hl6 : b5 < w4.heap.size := by omega
                  clear hb4 f1 g1 y0 y1
                  by_cases hf : fitsF s k row m = true
                  · rw [hf] at HSTEP3 ⊢
                    clear hf
                    go_wp2_with fail
                    have q1 : IntKind.i64.wrap ((i:Int) + 1 - 1) = i := by rw [show ((i:Int) + 1 - 1) = i by omega]; exact IntWalk.i64_in _ (by omega)
                    have q5 : IntKind.i64.wrap (i:Int) = i := IntWalk.i64_in _ (by omega)
                    have q2 : (0:Int) ≤ i := by omega
                    have q3 : (i:Int) < rows.length := by omega
                    have q4 : (i:Int) ≤ rows.length := by omega
                    have hS4 : ∀ b, S b → b < w4.heap.size := fun b hb => by have := hS b hb; omega
                    have HS4 := Lib.hid (HS.out.keep (Same.of_below HBW4.out hS))
                    have HROW4 := Lib.hid (HROW.out.keep (w' := w4) (Same.of_below HX4.out (fun b hb => by have := hS b hb; omega)))
                    have HPREV4 := Lib.hid (HPREV.out.keep (w' := w4) (Same.of_below HX4.out (fun b hb => by have := hS b hb; omega)))
                    go_region_held3 (fun w' => Below w4.heap.size w4 w' ∧ w'.cell? ⟨w.heap.size, 0, none⟩ = some (.int .i64 s.version) ∧ w'.cell? ⟨w.heap.size, 1, none⟩ = some (.slice A0 s.tabs.length c0') ∧ w'.cell? ⟨b5, o5 + i, none⟩ = some (.slice A6 prev.length c6))
                      (first | exact ⟨(Below.refl _ _).drew, z0, z1, z2⟩ | exact ⟨hv3, (hv3.cell (p := ⟨w.heap.size, 0, none⟩) (by simp; omega)).trans z0, (hv3.cell (p := ⟨w.heap.size, 1, none⟩) (by simp; omega)).trans z1, (hv3.cell (p := ⟨b5, o5 + i, none⟩) hl6).trans z2⟩ | exact ⟨hv2, (hv2.cell (p := ⟨w.heap.size, 0, none⟩) (by simp; omega)).trans z0, (hv2.cell (p := ⟨w.heap.size, 1, none⟩) (by simp; omega)).trans z1, (hv2.cell (p := ⟨b5, o5 + i, none⟩) hl6).trans z2⟩ | exact ⟨hv1, (hv1.cell (p := ⟨w.heap.size, 0, none⟩) (by simp; omega)).trans z0, (hv1.cell (p := ⟨w.heap.size, 1, none⟩) (by simp; omega)).trans z1, (hv1.cell (p := ⟨b5, o5 + i, none⟩) hl6).trans z2⟩)
                      (first
                        | (go_at_call 61; have hvx := hv1; clear hvx; refine (prefix_any A0 c0' s k A5 c5 row S _ (HS4.out.keep (Same.of_below hv1 hS4)) (HROW4.out.keep (Same.of_below hv1 hS4)) HC5.out (fun b hb => Nat.lt_of_lt_of_le (hS4 b hb) hv1.size)).mono ?_; rintro e w6 ⟨A8, c8, rfl, h8, hv2'⟩; have hv2 : Below w4.heap.size w4 w6 := hv1.trans (hv2'.mono hv1.size))
                        | (go_at_call 61; refine (prefix_any A0 c0' s k A6 c6 prev S w4.drew (HS4.out.keep (fun _ _ => rfl)) (HPREV4.out.keep (fun _ _ => rfl)) HC6.out hS4).mono ?_; rintro e w5 ⟨A7, c7, rfl, h7, hv1'⟩; have hv1 : Below w4.heap.size w4 w5 := (Below.refl _ w4).drew.trans hv1')
                        | (go_at_call 60; refine (compareRows_any A7 A8 c7 c8 (keyF s k prev) (keyF s k row) S _ ((HPREV4.out.keep (Same.of_below hv2 hS4)).key s k h7) ((HROW4.out.keep (Same.of_below hv2 hS4)).key s k h8) (fun b hb => Nat.lt_of_lt_of_le (hS4 b hb) hv2.size)).mono ?_; rintro e w7 ⟨rfl, hv3'⟩; have hv3 : Below w4.heap.size w4 w7 := hv2.trans (hv3'.mono hv2.size)))
                    have HB7 := Lib.hid (HB4.out.trans (hv3.mono (by omega)))
                    clear hv1 hv2 hv3 hv1' hv2' hv3' h7 h8 z0 z1 z2 q1 q5
                    by_cases hcmp : cmpR (keyF s k prev) (keyF s k row) < 0
                    · have hd6 : decide (0 ≤ cmpR (keyF s k prev) (keyF s k row)) = false := by simpa using hcmp
                      have HOK := Lib.hid (show rowsOk s k m none rows = rowsOk s k m (before rows (i + 1 + 1)) (rows.drop (i + 1 + 1)) by rw [HSTEP3.out]; simp [hcmp])
                      clear hcmp HSTEP3
                      generalize cmpR (keyF s k prev) (keyF s k row) = cv at hd6 ⊢
                      rw [hd6]
                      go_wp2_with fail
                      go_roundw
                      case rel => exact ⟨i + 1 + 1, by omega, by go_num, HOK.out, HB7.out⟩
                      case measure => simp [intOf]; omega
                    · have hd6 : decide (0 ≤ cmpR (keyF s k prev) (keyF s k row)) = true := by simpa using hcmp
                      have HOK := Lib.hid (show rowsOk s k m none rows = false by rw [HSTEP3.out]; simp [hcmp])
                      clear hcmp HSTEP3
                      generalize cmpR (keyF s k prev) (keyF s k row) = cv at hd6 ⊢
                      rw [hd6]
                      have HF := Lib.hid (show checkF (schF pc s) s m st = 80 by rw [HCF3.out, HT.out, HSTEP.out, HOK.out]; simp)
                      go_wp2_with fail
                      go_ret
                      exact ⟨by rw [HF.out]; rfl, HB.out.trans (HB7.out.mono (by omega))⟩
                  · have hf' : fitsF s k row m = false := by simpa using hf
                    rw [hf'] at HSTEP3 ⊢
                    clear hf hf'
                    have HF := Lib.hid (show checkF (schF pc s) s m st = 80 by rw [HCF3.out, HT.out, HSTEP.out, HSTEP3.out]; simp)
                    go_wp2_with fail
                    go_ret
                    exact ⟨by rw [HF.out]; rfl, HB.out.trans (HB4.out.mono (by omega))⟩
              · have HE := Lib.hid (show rowsOk s k m none rows = true by rw [HT2.out, show j = rows.length by omega, List.drop_length]; cases rows.length <;> rfl)
                go_wp2_with fail
                go_roundw
                case rel => exact ⟨k + 1, by omega, by go_num, by rw [HT.out, HSTEP.out, HE.out]; simp, HBW.out, y0, y1, by omega⟩
                case measure => simp [intOf]; omega
          · have HE := Lib.hid (show checkF (schF pc s) s m st = 0 by rw [HCF3.out, HT.out, show k = st.length by omega, List.drop_length]; rfl)
            go_wp2_with fail
            go_ret
            exact ⟨by rw [HE.out]; rfl, HB.out⟩
      · have hd2 : ((st.length : Int) != s.tabs.length) = true := by simp; omega
        have HF := Lib.hid (show checkF (schF pc s) s m st = 80 by rw [HCF2.out, if_pos hlen])
        clear HCF2 hlen
        go_wp2_with fail
        go_ret
        exact ⟨by rw [HF.out]; rfl, HB2.out⟩
  · have hd : (er != 0) = true := by simpa using he
    have HF := Lib.hid (show checkF (schF pc s) s m st = er by rw [HCF.out, if_pos he])
    clear he HCF
    go_wp2_with fail
    go_ret
    exact ⟨by rw [HF.out]; rfl, HB1.out⟩
end Go.Proofs.Ytkpjjfhfbpfjpaa
