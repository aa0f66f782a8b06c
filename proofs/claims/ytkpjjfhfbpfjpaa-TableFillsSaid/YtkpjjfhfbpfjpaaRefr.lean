/- Contract: schema.referring. -/
import Derived.Test.YtkpjjfhfbpfjpaaNamed
namespace Go.Proofs.Ytkpjjfhfbpfjpaa
open Go.RowKit
set_option linter.unusedVariables false

/-- The columns of a reference fit the columns that they refer to. -/
def rcolsFrom (tc : List Col) : List Col → List Int → Bool
  | c' :: cs, c :: r => decide (0 ≤ c) && decide (c < tc.length) && decide ((tc.getD c.toNat c0).kind = c'.kind) && rcolsFrom tc cs r
  | _, _ => true
def refOk (tabs : List Tab) (tc : List Col) (r : Rfr) : Bool :=
  hasN tabs.length r.table && decide ((r.cols.length : Int) = (tabs.getD r.table.toNat t0).key) && rcolsFrom tc (tabs.getD r.table.toNat t0).cols r.cols
def refsFrom (tabs : List Tab) (tc : List Col) : List Rfr → Bool
  | [] => true
  | r :: l => refOk tabs tc r && refsFrom tabs tc l
def referFrom (tabs : List Tab) : List Tab → Bool
  | [] => true
  | t :: l => refsFrom tabs t.cols t.refs && referFrom tabs l
theorem referFrom_drop (tabs l : List Tab) (k : Nat) (h : k < l.length) : referFrom tabs (l.drop k) = (refsFrom tabs (l.getD k t0).cols (l.getD k t0).refs && referFrom tabs (l.drop (k + 1))) := by
  rw [List.drop_eq_getElem_cons h]
  have e1 : l.getD k t0 = l[k] := by simp [List.getD, h]
  rw [e1]
  rfl
theorem refsFrom_drop (tabs : List Tab) (tc : List Col) (l : List Rfr) (k : Nat) (h : k < l.length) : refsFrom tabs tc (l.drop k) = (refOk tabs tc (l.getD k r0) && refsFrom tabs tc (l.drop (k + 1))) := by
  rw [List.drop_eq_getElem_cons h]
  have e1 : l.getD k r0 = l[k] := by simp [List.getD, h]
  rw [e1]
  rfl
theorem rcolsFrom_drop (tc cs : List Col) (l : List Int) (k : Nat) (h : k < l.length) (h' : k < cs.length) : rcolsFrom tc (cs.drop k) (l.drop k) = (decide (0 ≤ l.getD k 0) && decide (l.getD k 0 < tc.length) && decide ((tc.getD (l.getD k 0).toNat c0).kind = (cs.getD k c0).kind) && rcolsFrom tc (cs.drop (k + 1)) (l.drop (k + 1))) := by
  rw [List.drop_eq_getElem_cons h, List.drop_eq_getElem_cons h']
  have e1 : l.getD k 0 = l[k] := by simp [List.getD, h]
  have e2 : cs.getD k c0 = cs[k] := by simp [List.getD, h']
  rw [e1, e2]
  rfl

set_option maxRecDepth 100000 in
set_option maxHeartbeats 4000000 in
theorem referring_any (A0 : Option Addr) (c0' : Nat) (s : Sch) (S : Nat → Prop) (w : World) (hs : TabS w S A0 s.tabs) (hS : ∀ b, S b → b < w.heap.size) (hkc : ∀ t ∈ s.tabs, t.key ≤ t.cols.length) :
    Calls Try.prog 111 #[sAgg s.version A0 s.tabs.length c0'] w (BoolBel (referFrom s.tabs s.tabs) w) := by
  have hsl := hs.len
  have HS := Lib.hid hs
  have HKC := Lib.hid hkc
  clear hs hkc
  go_enter Try.func111, Try.ntmps111
  go_wp2_with fail
  go_loopw [13] (fun i wr => ∃ k : Nat, k ≤ s.tabs.length ∧ i = .int .i64 k ∧ referFrom s.tabs s.tabs = referFrom s.tabs (s.tabs.drop k) ∧ Below w.heap.size w wr ∧ wr.cell? ⟨w.heap.size, 1, none⟩ = some (.slice A0 s.tabs.length c0') ∧ w.heap.size < wr.heap.size) (fun i _ => s.tabs.length - (intOf i).toNat)
  case atStart => exact ⟨0, Nat.zero_le _, rfl, by simp, (Below.refl _ _).alloc (Nat.le_refl _) _, by simp [cell_of_row _ _ _ _ _ _ (heap_alloc_new w _)], by simp⟩
  case round =>
    obtain ⟨k, hk, rfl, hnf, hbel, x1, hw1⟩ := hrel
    have HT := Lib.hid hnf
    have HB := Lib.hid hbel
    clear hnf hbel
    by_cases hkl : k < s.tabs.length
    · obtain ⟨b2, o2, rfl, hb2, A1, A2, A3, c1, c2, c3, hta⟩ := (HS.out.keep (Same.of_below HB.out hS)).at_ hkl
      obtain ⟨k1, k2, k3, k4, k5, cS, rS, pS, -, -, -, -⟩ := hta
      have HCS := Lib.hid cS
      have HRS := Lib.hid rS
      have hcl := cS.len
      have hrl := rS.len
      have hl2 : b2 < w.heap.size := hS b2 hb2
      have HSTEP := Lib.hid (referFrom_drop s.tabs s.tabs k hkl)
      clear cS rS pS
      generalize s.tabs.getD k t0 = tb at k1 k2 k3 k4 k5 HCS HRS HSTEP hcl hrl
      obtain ⟨tn, tc, tk, tr, tp⟩ := tb
      simp only at k1 k2 k3 k4 k5 HCS HRS HSTEP hcl hrl
      obtain ⟨g1, hg1⟩ : ∃ g1, g1 = wr.heap.size := ⟨_, rfl⟩
      have HG1 := Lib.hid hg1
      clear hg1
      go_wp2_with fail
      go_loopw [20] (fun i wq => ∃ j : Nat, j ≤ tr.length ∧ i = .int .i64 j ∧ refsFrom s.tabs tc tr = refsFrom s.tabs tc (tr.drop j) ∧ Below w.heap.size w wq ∧ wq.cell? ⟨w.heap.size, 1, none⟩ = some (.slice (some ⟨b2, o2, none⟩) s.tabs.length c0') ∧ wq.cell? ⟨g1, 1, none⟩ = some (.slice A1 tc.length c1) ∧ w.heap.size < wq.heap.size ∧ g1 < wq.heap.size) (fun i _ => tr.length - (intOf i).toNat)
      case atStart => exact ⟨0, Nat.zero_le _, rfl, by simp, HB.out.alloc (by omega) _, by rw [World.cell?_of_block (Below.heap_alloc _ _ _ hw1)]; exact x1, by rw [HG1.out]; simp [cell_of_row _ _ _ _ _ _ (heap_alloc_new _ _)], by simp; omega, by rw [HG1.out]; simp⟩
      case round =>
        obtain ⟨j, hj, rfl, ht2, hbb, x1, x2, hw1, hw2⟩ := hrel
        have HT2 := Lib.hid ht2
        have HB2 := Lib.hid hbb
        have x2' := x2
        have hw2' := hw2
        rw [HG1.out] at x2' hw2'
        clear ht2 hbb
        by_cases hjl : j < tr.length
        · obtain ⟨b3, o3, rfl, hb3, ⟨A4, c4, f1, f1c, iS⟩, f2⟩ := (HRS.out.keep (fun b hb => (HB2.out.block b (hS b hb)).trans (HB.out.block b (hS b hb)).symm)).at_ hjl
          have hl3 : b3 < wr.heap.size := by have := hS b3 hb3; omega
          have HSTEP2 := Lib.hid (refsFrom_drop s.tabs tc tr j hjl)
          have HIS := Lib.hid iS
          have hil := iS.len
          clear iS
          generalize tr.getD j r0 = rr at f1 f1c f2 HIS HSTEP2 hil
          obtain ⟨rc, rt⟩ := rr
          simp only at f1 f1c f2 HIS HSTEP2 hil
          by_cases hh : hasN s.tabs.length rt = true
          · have hh0 : 0 ≤ rt ∧ rt < s.tabs.length := by simpa [hasN] using hh
            obtain ⟨tt, rfl⟩ := Int.eq_ofNat_of_zero_le hh0.1
            have htl : tt < s.tabs.length := by omega
            have hd1 : decide ((tt : Int) < 0) = false := by simp
            have hd2 : decide (s.tabs.length ≤ tt) = false := by simp; omega
            obtain ⟨b4, o4, eA0, hb4, B1, B2, B3, d1, d2, d3, hta⟩ := (HS.out.keep (Same.of_below HB2.out hS)).at_ htl
            obtain ⟨l1, l2, l3, l4, l5, uS, _, _, -, -, -, -⟩ := hta
            injection eA0 with eA0
            injection eA0 with e1 e2
            subst e1 e2
            have hl4 : b2 < wr.heap.size := by omega
            have HUS := Lib.hid uS
            have huk : (s.tabs.getD tt t0).key ≤ (s.tabs.getD tt t0).cols.length := HKC.out _ (by simp [List.getD, htl])
            have HOK' := Lib.hid (show refOk s.tabs tc ⟨rc, tt⟩ = (decide ((rc.length : Int) = (s.tabs.getD tt t0).key) && rcolsFrom tc (s.tabs.getD tt t0).cols rc) by unfold refOk; simp only [hh, Int.toNat_natCast, Bool.true_and])
            have hul := uS.len
            clear uS hh
            generalize s.tabs.getD tt t0 = ub at l1 l2 l3 l4 l5 HUS huk HOK' hul
            obtain ⟨un, uc, uk, ur, up⟩ := ub
            simp only at l1 l2 l3 l4 l5 HUS huk HOK' hul
            by_cases hk : (rc.length : Int) = uk
            · have hd3 : ((rc.length : Int) != uk) = false := by simp [hk]
              have HOK := Lib.hid (show refOk s.tabs tc ⟨rc, tt⟩ = rcolsFrom tc uc rc by rw [HOK'.out]; simp [hk])
              have HB2a := Lib.hid ((HB2.out.alloc (by omega) (.cells #[.slice A4 rc.length c4, .int .i64 tt] 96)).alloc (by simp; omega) (.cells #[.string un, .slice B1 uc.length d1, .int .i64 uk, .slice B2 ur.length d2, .slice B3 up.length d3] 39))
              obtain ⟨g7, hg7⟩ : ∃ g7, g7 = wr.heap.size + 1 := ⟨_, rfl⟩
              have HG7 := Lib.hid hg7
              clear hg7
              go_wp2_with fail
              go_loopw [50] (fun i wq => ∃ i3 : Nat, i3 ≤ rc.length ∧ i = .int .i64 i3 ∧ rcolsFrom tc uc rc = rcolsFrom tc (uc.drop i3) (rc.drop i3) ∧ Below w.heap.size w wq ∧ wq.cell? ⟨w.heap.size, 1, none⟩ = some (.slice (some ⟨b2, o2, none⟩) s.tabs.length c0') ∧ wq.cell? ⟨g1, 1, none⟩ = some (.slice A1 tc.length c1) ∧ wq.cell? ⟨g7, 1, none⟩ = some (.slice B1 uc.length d1) ∧ w.heap.size < wq.heap.size ∧ g1 < wq.heap.size ∧ g7 < wq.heap.size) (fun i _ => rc.length - (intOf i).toNat)
              case atStart =>
                refine ⟨0, Nat.zero_le _, rfl, by simp, HB2a.out, ?_, ?_, ?_, by simp; omega, by simp; omega, by rw [HG7.out]; simp⟩
                · rw [World.cell?_of_block (Below.heap_alloc _ _ _ (by simp; omega)), World.cell?_of_block (Below.heap_alloc _ _ _ (by omega))]; exact x1
                · rw [World.cell?_of_block (Below.heap_alloc _ _ _ (by simp; omega)), World.cell?_of_block (Below.heap_alloc _ _ _ (by omega))]; exact x2
                · rw [HG7.out]; simp
              case round =>
                obtain ⟨i3, hi3, rfl, ht3, hbb, y1, y2, y3, hw1, hw2, hw3⟩ := hrel
                have HT3 := Lib.hid ht3
                have HB3 := Lib.hid hbb
                have y2' := y2
                have hw2' := hw2
                have y3' := y3
                have hw3' := hw3
                rw [HG1.out] at y2' hw2'
                rw [HG7.out] at y3' hw3'
                clear ht3 hbb
                by_cases hil : i3 < rc.length
                · have HI := Lib.hid (HIS.out.keep (fun b hb => (HB3.out.block b (hS b hb)).trans (HB2.out.block b (hS b hb)).symm))
                  obtain ⟨b5, o5, rfl, hb5, p1⟩ := HI.out.at_ hil
                  have hl5 : b5 < wr.heap.size := by have := hS b5 hb5; omega
                  have HSTEP3 := Lib.hid (rcolsFrom_drop tc uc rc i3 hil (by omega))
                  obtain ⟨b7, o7, rfl, hb7, q1, q2⟩ := (HUS.out.keep (fun b hb => (HB3.out.block b (hS b hb)).trans (HB2.out.block b (hS b hb)).symm)).at_ (show i3 < uc.length by omega)
                  have hl7 : b7 < wr.heap.size := by have := hS b7 hb7; omega
                  have hiu : (i3 : Int) < uc.length := by omega
                  generalize rc.getD i3 0 = c at p1 HSTEP3
                  generalize uc.getD i3 c0 = ucl at q1 q2 HSTEP3
                  obtain ⟨ucn, uck⟩ := ucl
                  simp only at q1 q2 HSTEP3
                  by_cases h0 : c < 0
                  · have hd1 : decide (c < 0) = true := by simp [h0]
                    have HV := Lib.hid (show decide (0 ≤ c) = false by simpa using h0)
                    go_wp2_with fail
                    go_quiet (fail)
                    go_wp2_with fail
                    go_ret
                    exact ⟨by rw [HT.out, HSTEP.out, HT2.out, HSTEP2.out, HOK.out, HT3.out, HSTEP3.out]; simp [HV.out], below_drewN HB3.out _⟩
                  · have hd1 : decide (c < 0) = false := by simpa using h0
                    obtain ⟨cc, rfl⟩ := Int.eq_ofNat_of_zero_le (show 0 ≤ c by omega)
                    rw [Int.toNat_natCast] at HSTEP3
                    by_cases h1 : cc < tc.length
                    · have hd2 : decide ((tc.length : Int) ≤ (cc : Int)) = false := by simp; omega
                      have hd3 : decide (tc.length ≤ cc) = false := by simp; omega
                      obtain ⟨b6, o6, rfl, hb6, r1, r2⟩ := (HCS.out.keep (fun b hb => (HB3.out.block b (hS b hb)).trans (HB.out.block b (hS b hb)).symm)).at_ h1
                      have hl6 : b6 < wr.heap.size := by have := hS b6 hb6; omega
                      generalize tc.getD cc c0 = tcl at r1 r2 HSTEP3
                      obtain ⟨tcn, tck⟩ := tcl
                      simp only at r1 r2 HSTEP3
                      by_cases hq : tck = uck
                      · have hd4 : (tck != uck) = false := by simp [hq]
                        go_wp2_with fail
                        go_quiet (fail)
                        go_wp2_with fail
                        go_roundw
                        case rel => exact ⟨i3 + 1, by omega, by go_num, by rw [HT3.out, HSTEP3.out]; simp [hq, h1], below_drewN HB3.out _, y1, y2, y3, hw1, hw2, hw3⟩
                        case measure => simp [intOf]; omega
                      · have hd4 : (tck != uck) = true := by simp [hq]
                        have HV := Lib.hid hq
                        go_wp2_with fail
                        go_quiet (fail)
                        go_wp2_with fail
                        go_ret
                        exact ⟨by rw [HT.out, HSTEP.out, HT2.out, HSTEP2.out, HOK.out, HT3.out, HSTEP3.out]; simp [HV.out], below_drewN HB3.out _⟩
                    · have hd2 : decide ((tc.length : Int) ≤ (cc : Int)) = true := by simp; omega
                      have hd3 : decide (tc.length ≤ cc) = true := by simp; omega
                      have HV := Lib.hid h1
                      go_wp2_with fail
                      go_quiet (fail)
                      go_wp2_with fail
                      go_ret
                      exact ⟨by rw [HT.out, HSTEP.out, HT2.out, HSTEP2.out, HOK.out, HT3.out, HSTEP3.out]; simp [HV.out], below_drewN HB3.out _⟩
                · have HE := Lib.hid (show rcolsFrom tc uc rc = true by rw [HT3.out, show i3 = rc.length by omega, List.drop_length]; cases (uc.drop rc.length) <;> rfl)
                  go_wp2_with fail
                  go_roundw
                  case rel => exact ⟨j + 1, by omega, by go_num, by rw [HT2.out, HSTEP2.out, HOK.out, HE.out]; rfl, HB3.out, y1, y2, hw1, hw2⟩
                  case measure => simp [intOf]; omega
            · have hd3 : ((rc.length : Int) != uk) = true := by simp [hk]
              have HV := Lib.hid (show refOk s.tabs tc ⟨rc, tt⟩ = false by rw [HOK'.out]; simp [hk])
              go_wp2_with fail
              go_ret
              exact ⟨by rw [HT.out, HSTEP.out, HT2.out, HSTEP2.out, HV.out]; rfl, (HB2.out.alloc (by omega) _).alloc (by simp; omega) _⟩
          · have HV := Lib.hid (show refOk s.tabs tc ⟨rc, rt⟩ = false by unfold refOk; simp [hh])
            have hh' : rt < 0 ∨ (s.tabs.length : Int) ≤ rt := by
              have : hasN s.tabs.length rt = false := by simpa using hh
              simp [hasN] at this
              omega
            by_cases h0 : rt < 0
            · have hd1 : decide (rt < 0) = true := by simp [h0]
              go_wp2_with fail
              go_ret
              exact ⟨by rw [HT.out, HSTEP.out, HT2.out, HSTEP2.out, HV.out]; rfl, HB2.out.alloc (by omega) _⟩
            · have hd1 : decide (rt < 0) = false := by simpa using h0
              have hd2 : decide ((s.tabs.length : Int) ≤ rt) = true := by simp; omega
              go_wp2_with fail
              go_ret
              exact ⟨by rw [HT.out, HSTEP.out, HT2.out, HSTEP2.out, HV.out]; rfl, HB2.out.alloc (by omega) _⟩
        · have HE := Lib.hid (show refsFrom s.tabs tc tr = true by rw [HT2.out, show j = tr.length by omega, List.drop_length]; rfl)
          go_wp2_with fail
          go_roundw
          case rel => exact ⟨k + 1, by omega, by go_num, by rw [HT.out, HSTEP.out, HE.out]; rfl, HB2.out, x1, hw1⟩
          case measure => simp [intOf]; omega
    · have HKE := Lib.hid (show k = s.tabs.length by omega)
      go_wp2_with fail
      go_ret
      exact ⟨by rw [HT.out, HKE.out, List.drop_length]; rfl, HB.out⟩
end Go.Proofs.Ytkpjjfhfbpfjpaa
