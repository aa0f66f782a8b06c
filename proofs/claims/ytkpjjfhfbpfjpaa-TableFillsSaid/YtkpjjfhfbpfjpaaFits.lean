/- Contract: schema.Fits. -/
import Derived.Test.YtkpjjfhfbpfjpaaRow2
namespace Go.Proofs.Ytkpjjfhfbpfjpaa
open Go.RowKit
set_option linter.unusedVariables false

def modeOk (m : Int) : Bool := decide (m = 1) || decide (m = 2) || decide (m = 3)
/-- A cell fits a column. -/
def fitsV (m key kind : Int) (i : Nat) (v : V) : Bool :=
  validV v && (decide (v.k = kind) || (decide (v.k = 2) && decide (m ≠ 1) && decide (key ≤ i)) || (decide (v.k = 1) && decide (m = 3) && decide (key ≤ i)))
/-- The cells from i on fit. -/
def fitsFrom (m key : Int) : Nat → List Col → Row → Bool
  | i, c :: cs, v :: r => fitsV m key c.kind i v && fitsFrom m key (i + 1) cs r
  | _, _, _ => true
def fitsF (s : Sch) (t : Int) (r : Row) (m : Int) : Bool :=
  modeOk m && hasN s.tabs.length t && decide (r.length = (s.tabs.getD t.toNat t0).cols.length) && fitsFrom m (s.tabs.getD t.toNat t0).key 0 (s.tabs.getD t.toNat t0).cols r

theorem fitsFrom_drop {m key : Int} : ∀ (k i : Nat) (cs : List Col) (r : Row), k < r.length → r.length = cs.length → fitsFrom m key i (cs.drop k) (r.drop k) = (fitsV m key (cs.getD k c0).kind i (r.getD k v0) && fitsFrom m key (i + 1) (cs.drop (k + 1)) (r.drop (k + 1))) := by
  intro k i cs r h1 h2
  rw [List.drop_eq_getElem_cons h1, List.drop_eq_getElem_cons (show k < cs.length by omega)]
  have e1 : r.getD k v0 = r[k] := by simp [List.getD, h1]
  have e2 : cs.getD k c0 = cs[k] := by simp [List.getD, show k < cs.length by omega]
  rw [e1, e2]
  rfl

set_option maxRecDepth 100000 in
set_option maxHeartbeats 4000000 in
theorem fits_any (A0 : Option Addr) (c0' : Nat) (s : Sch) (t m : Int) (A : Option Addr) (ca : Nat) (r : Row) (S : Nat → Prop) (w : World) (hs : TabS w S A0 s.tabs) (hr : RowS w S A r) (hS : ∀ b, S b → b < w.heap.size) :
    Calls Try.prog 59 #[sAgg s.version A0 s.tabs.length c0', .int .i64 t, .slice A r.length ca, .int .i64 m] w (BoolBel (fitsF s t r m) w) := by
  have hsl := hs.len
  have hrl := hr.len
  have HOK := Lib.hid hr.ok
  have HS := Lib.hid hs
  have HR := Lib.hid hr
  clear hs hr
  have HB0 := Lib.hid ((Below.refl w.heap.size w).alloc (Nat.le_refl _) (.cells #[.int .i64 s.version, .slice A0 s.tabs.length c0'] 25))
  by_cases hm : modeOk m = true
  · have hm' : m = 1 ∨ m = 2 ∨ m = 3 := by simpa [modeOk, or_assoc] using hm
    by_cases hh : hasN s.tabs.length t = true
    · have hh0 : 0 ≤ t ∧ t < s.tabs.length := by simpa [hasN] using hh
      have HF := Lib.hid (show fitsF s t r m = (decide (r.length = (s.tabs.getD t.toNat t0).cols.length) && fitsFrom m (s.tabs.getD t.toNat t0).key 0 (s.tabs.getD t.toNat t0).cols r) by unfold fitsF; rw [hm, hh]; simp)
      have HH := Lib.hid hh
      clear hh hm
      obtain ⟨tt, rfl⟩ := Int.eq_ofNat_of_zero_le hh0.1
      rw [Int.toNat_natCast] at HF
      have htl : tt < s.tabs.length := by omega
      rcases hm' with rfl | rfl | rfl
      · go_enter Try.func59, Try.ntmps59
        go_wp2_with fail
        refine (has_any _ tt A0 s.tabs.length c0' _ hsl).mono ?_
        rintro e w1 ⟨rfl, hb1⟩
        rw [HH.out]
        have HB1 := Lib.hid (HB0.out.trans (hb1.mono (by simp)))
        have cb : w1.cell? ⟨w.heap.size, 1, none⟩ = some (.slice A0 s.tabs.length c0') := (hb1.cell (p := ⟨w.heap.size, 1, none⟩) (by simp)).trans (by simp [cell_of_row _ _ _ _ _ _ (heap_alloc_new w _)])
        have hz1 : w.heap.size < w1.heap.size := by have := hb1.size; simp at this; omega
        clear hb1
        obtain ⟨b2, o2, rfl, hb2, A1, A2, A3, c1, c2, c3, hta⟩ := (HS.out.keep (Same.of_below HB1.out hS)).at_ htl
        obtain ⟨k1, k2, k3, k4, k5, cS, rS, pS, -, -, -, -⟩ := hta
        have HCS := Lib.hid cS
        have hcl := cS.len
        have hl2 : b2 < w1.heap.size := by have := hS b2 hb2; omega
        clear cS rS pS
        generalize s.tabs.getD tt t0 = tb at k1 k2 k3 k4 k5 HCS hcl HF
        obtain ⟨tn, tc, tk, tr, tp⟩ := tb
        simp only at k1 k2 k3 k4 k5 HCS hcl HF
        by_cases hrc : r.length = tc.length
        · have hd : ((r.length : Int) != tc.length) = false := by simp; omega
          have HRC := Lib.hid (show decide (r.length = tc.length) = true by simp [hrc])
          go_wp2_with fail
          go_loopw [43] (fun i wr => ∃ k : Nat, k ≤ r.length ∧ i = .int .i64 k ∧ fitsFrom 1 tk 0 tc r = fitsFrom 1 tk k (tc.drop k) (r.drop k) ∧ Below w1.heap.size w1 wr ∧ wr.cell? ⟨w1.heap.size, 1, none⟩ = some (.slice A1 tc.length c1) ∧ wr.cell? ⟨w1.heap.size, 2, none⟩ = some (.int .i64 tk) ∧ w1.heap.size < wr.heap.size) (fun i _ => r.length - (intOf i).toNat)
          case atStart => exact ⟨0, Nat.zero_le _, rfl, by simp, (Below.refl _ _).alloc (Nat.le_refl _) _, by simp [cell_of_row _ _ _ _ _ _ (heap_alloc_new w1 _)], by simp [cell_of_row _ _ _ _ _ _ (heap_alloc_new w1 _)], by simp⟩
          case round =>
            obtain ⟨k, hk, rfl, hft, hbel, t1, t2, hw1⟩ := hrel
            have HT := Lib.hid hft
            have HBEL := Lib.hid hbel
            clear hft hbel k1 k2 k3 k4 k5 cb
            have HBW := Lib.hid (HB1.out.trans (HBEL.out.mono (by omega)))
            by_cases hkl : k < r.length
            · obtain ⟨b3, o3, rfl, hb3, d1, d2, d3⟩ := (HR.out.keep (Same.of_below HBW.out hS)).at_ hkl
              obtain ⟨b4, o4, rfl, hb4, f1, f2⟩ := (HCS.out.keep (fun b hb => (HBEL.out.block b (by have := hS b hb; omega)))).at_ (show k < tc.length by omega)
              have hl3 : b3 < wr.heap.size := by have := hS b3 hb3; omega
              have hl4 : b4 < wr.heap.size := by have := hS b4 hb4; omega
              have hkt : (k : Int) < tc.length := by omega
              have HSTEP := Lib.hid (fitsFrom_drop (m := 1) (key := tk) k k tc r hkl hrc)
              have HV := Lib.hid (HOK.out.at_ k)
              generalize r.getD k v0 = v at d1 d2 d3 HSTEP HV
              generalize tc.getD k c0 = cl at f1 f2 HSTEP
              obtain ⟨vk, vi, vt⟩ := v
              obtain ⟨cn, ck⟩ := cl
              simp only at d1 d2 d3 HSTEP HV f1 f2
              go_wp2_with fail
              refine (valid_any ⟨vk, vi, vt⟩ _ HV.out).mono ?_
              rintro e w2 ⟨rfl, hb2'⟩
              have hz2 : wr.heap.size < w2.heap.size := by have := hb2'.size; simp at this; omega
              have HB3 := Lib.hid ((HBEL.out.alloc (by omega) _).trans (hb2'.mono (by simp; omega)))
              have g1 : w2.cell? ⟨wr.heap.size, 0, none⟩ = some (.int .i64 vk) := (hb2'.cell (p := ⟨wr.heap.size, 0, none⟩) (by simp)).trans (by simp [cell_of_row _ _ _ _ _ _ (heap_alloc_new wr _)])
              replace t1 : w2.cell? ⟨w1.heap.size, 1, none⟩ = some (.slice (some ⟨b4, o4, none⟩) tc.length c1) := (hb2'.cell (p := ⟨w1.heap.size, 1, none⟩) (by simp; omega)).trans ((World.cell?_of_block (Below.heap_alloc _ _ _ hw1)).trans t1)
              replace t2 : w2.cell? ⟨w1.heap.size, 2, none⟩ = some (.int .i64 tk) := (hb2'.cell (p := ⟨w1.heap.size, 2, none⟩) (by simp; omega)).trans ((World.cell?_of_block (Below.heap_alloc _ _ _ hw1)).trans t2)
              replace f2 : w2.cell? ⟨b4, o4 + k * 2 + 1, none⟩ = some (.int .i64 ck) := (hb2'.cell (p := ⟨b4, o4 + k * 2 + 1, none⟩) (by simp; omega)).trans ((World.cell?_of_block (Below.heap_alloc _ _ _ hl4)).trans f2)
              clear hb2' d1 d2 d3 f1
              by_cases hval : validV ⟨vk, vi, vt⟩ = true
              · have HVT := Lib.hid hval
                rw [hval]
                clear hval
                by_cases hkc : vk = ck
                · subst hkc
                  by_cases h2 : vk = 2
                  · subst h2
                    have ek : ((2 : Int) != 2) = false := by simp
                    have HVV := Lib.hid (show fitsV 1 tk 2 k ⟨2, vi, vt⟩ = true by simp only [fitsV, HVT.out]; simp)
                    go_wp2_with fail
                    go_quiet (fail)
                    go_wp2_with fail
                    go_roundw
                    case rel => exact ⟨k + 1, by omega, by go_num, by rw [HT.out, HSTEP.out, HVV.out]; rfl, below_drewN HB3.out _, t1, t2, by show w1.heap.size < w2.heap.size; omega⟩
                    case measure => simp [intOf]; omega
                  · have e2 : (vk == 2) = false := beq_eq_false_iff_ne.2 h2
                    by_cases h1 : vk = 1
                    · subst h1
                      have ek : ((1 : Int) != 1) = false := by simp
                      have HVV := Lib.hid (show fitsV 1 tk 1 k ⟨1, vi, vt⟩ = true by simp only [fitsV, HVT.out]; simp)
                      go_wp2_with fail
                      go_quiet (fail)
                      go_wp2_with fail
                      go_roundw
                      case rel => exact ⟨k + 1, by omega, by go_num, by rw [HT.out, HSTEP.out, HVV.out]; rfl, below_drewN HB3.out _, t1, t2, by show w1.heap.size < w2.heap.size; omega⟩
                      case measure => simp [intOf]; omega
                    · have e1 : (vk == 1) = false := beq_eq_false_iff_ne.2 h1
                      have ek : (vk != vk) = false := by simp
                      have HVV := Lib.hid (show fitsV 1 tk vk k ⟨vk, vi, vt⟩ = true by simp only [fitsV, HVT.out]; simp)
                      go_wp2_with fail
                      go_quiet (fail)
                      go_wp2_with fail
                      go_roundw
                      case rel => exact ⟨k + 1, by omega, by go_num, by rw [HT.out, HSTEP.out, HVV.out]; rfl, below_drewN HB3.out _, t1, t2, by show w1.heap.size < w2.heap.size; omega⟩
                      case measure => simp [intOf]; omega
                · by_cases h2 : vk = 2
                  · subst h2
                    have ek : ((2 : Int) != ck) = true := by simp [hkc]
                    have HVV := Lib.hid (show fitsV 1 tk ck k ⟨2, vi, vt⟩ = false by simp only [fitsV, HVT.out]; simp [hkc])
                    go_wp2_with fail
                    go_quiet (fail)
                    go_wp2_with fail
                    go_ret
                    exact ⟨by rw [HF.out, HRC.out, HT.out, HSTEP.out, HVV.out]; rfl, HB1.out.trans ((below_drewN HB3.out _).mono (show w.heap.size ≤ w1.heap.size by omega))⟩
                  · have e2 : (vk == 2) = false := beq_eq_false_iff_ne.2 h2
                    by_cases h1 : vk = 1
                    · subst h1
                      have ek : ((1 : Int) != ck) = true := by simp [hkc]
                      have HVV := Lib.hid (show fitsV 1 tk ck k ⟨1, vi, vt⟩ = false by simp only [fitsV, HVT.out]; simp [hkc])
                      go_wp2_with fail
                      go_quiet (fail)
                      go_wp2_with fail
                      go_ret
                      exact ⟨by rw [HF.out, HRC.out, HT.out, HSTEP.out, HVV.out]; rfl, HB1.out.trans ((below_drewN HB3.out _).mono (show w.heap.size ≤ w1.heap.size by omega))⟩
                    · have e1 : (vk == 1) = false := beq_eq_false_iff_ne.2 h1
                      have ek : (vk != ck) = true := by simp [hkc]
                      have HVV := Lib.hid (show fitsV 1 tk ck k ⟨vk, vi, vt⟩ = false by simp only [fitsV, HVT.out]; simp [hkc, h1, h2])
                      go_wp2_with fail
                      go_quiet (fail)
                      go_wp2_with fail
                      go_ret
                      exact ⟨by rw [HF.out, HRC.out, HT.out, HSTEP.out, HVV.out]; rfl, HB1.out.trans ((below_drewN HB3.out _).mono (show w.heap.size ≤ w1.heap.size by omega))⟩
              · have hvf : validV ⟨vk, vi, vt⟩ = false := by simpa using hval
                have HVV := Lib.hid (show fitsV 1 tk ck k ⟨vk, vi, vt⟩ = false by simp [fitsV, hvf])
                rw [hvf]
                clear hval hvf
                go_wp2_with fail
                go_ret
                exact ⟨by rw [HF.out, HRC.out, HT.out, HSTEP.out, HVV.out]; rfl, HB1.out.trans (HB3.out.mono (by omega))⟩
            · have HKE := Lib.hid (show k = r.length by omega)
              go_wp2_with fail
              go_ret
              exact ⟨by rw [HF.out, HRC.out, HT.out, HKE.out, List.drop_length]; rw [show ∀ l, fitsFrom 1 tk r.length l [] = true from fun l => by cases l <;> rfl]; rfl, HBW.out⟩
        · have hd : ((r.length : Int) != tc.length) = true := by simp; omega
          have HRC := Lib.hid (show decide (r.length = tc.length) = false by simp [hrc])
          go_wp2_with fail
          go_ret
          exact ⟨by rw [HF.out, HRC.out]; rfl, HB1.out.alloc (by omega) _⟩
      · go_enter Try.func59, Try.ntmps59
        go_wp2_with fail
        refine (has_any _ tt A0 s.tabs.length c0' _ hsl).mono ?_
        rintro e w1 ⟨rfl, hb1⟩
        rw [HH.out]
        have HB1 := Lib.hid (HB0.out.trans (hb1.mono (by simp)))
        have cb : w1.cell? ⟨w.heap.size, 1, none⟩ = some (.slice A0 s.tabs.length c0') := (hb1.cell (p := ⟨w.heap.size, 1, none⟩) (by simp)).trans (by simp [cell_of_row _ _ _ _ _ _ (heap_alloc_new w _)])
        have hz1 : w.heap.size < w1.heap.size := by have := hb1.size; simp at this; omega
        clear hb1
        obtain ⟨b2, o2, rfl, hb2, A1, A2, A3, c1, c2, c3, hta⟩ := (HS.out.keep (Same.of_below HB1.out hS)).at_ htl
        obtain ⟨k1, k2, k3, k4, k5, cS, rS, pS, -, -, -, -⟩ := hta
        have HCS := Lib.hid cS
        have hcl := cS.len
        have hl2 : b2 < w1.heap.size := by have := hS b2 hb2; omega
        clear cS rS pS
        generalize s.tabs.getD tt t0 = tb at k1 k2 k3 k4 k5 HCS hcl HF
        obtain ⟨tn, tc, tk, tr, tp⟩ := tb
        simp only at k1 k2 k3 k4 k5 HCS hcl HF
        by_cases hrc : r.length = tc.length
        · have hd : ((r.length : Int) != tc.length) = false := by simp; omega
          have HRC := Lib.hid (show decide (r.length = tc.length) = true by simp [hrc])
          go_wp2_with fail
          go_loopw [43] (fun i wr => ∃ k : Nat, k ≤ r.length ∧ i = .int .i64 k ∧ fitsFrom 2 tk 0 tc r = fitsFrom 2 tk k (tc.drop k) (r.drop k) ∧ Below w1.heap.size w1 wr ∧ wr.cell? ⟨w1.heap.size, 1, none⟩ = some (.slice A1 tc.length c1) ∧ wr.cell? ⟨w1.heap.size, 2, none⟩ = some (.int .i64 tk) ∧ w1.heap.size < wr.heap.size) (fun i _ => r.length - (intOf i).toNat)
          case atStart => exact ⟨0, Nat.zero_le _, rfl, by simp, (Below.refl _ _).alloc (Nat.le_refl _) _, by simp [cell_of_row _ _ _ _ _ _ (heap_alloc_new w1 _)], by simp [cell_of_row _ _ _ _ _ _ (heap_alloc_new w1 _)], by simp⟩
          case round =>
            obtain ⟨k, hk, rfl, hft, hbel, t1, t2, hw1⟩ := hrel
            have HT := Lib.hid hft
            have HBEL := Lib.hid hbel
            clear hft hbel k1 k2 k3 k4 k5 cb
            have HBW := Lib.hid (HB1.out.trans (HBEL.out.mono (by omega)))
            by_cases hkl : k < r.length
            · obtain ⟨b3, o3, rfl, hb3, d1, d2, d3⟩ := (HR.out.keep (Same.of_below HBW.out hS)).at_ hkl
              obtain ⟨b4, o4, rfl, hb4, f1, f2⟩ := (HCS.out.keep (fun b hb => (HBEL.out.block b (by have := hS b hb; omega)))).at_ (show k < tc.length by omega)
              have hl3 : b3 < wr.heap.size := by have := hS b3 hb3; omega
              have hl4 : b4 < wr.heap.size := by have := hS b4 hb4; omega
              have hkt : (k : Int) < tc.length := by omega
              have HSTEP := Lib.hid (fitsFrom_drop (m := 2) (key := tk) k k tc r hkl hrc)
              have HV := Lib.hid (HOK.out.at_ k)
              generalize r.getD k v0 = v at d1 d2 d3 HSTEP HV
              generalize tc.getD k c0 = cl at f1 f2 HSTEP
              obtain ⟨vk, vi, vt⟩ := v
              obtain ⟨cn, ck⟩ := cl
              simp only at d1 d2 d3 HSTEP HV f1 f2
              go_wp2_with fail
              refine (valid_any ⟨vk, vi, vt⟩ _ HV.out).mono ?_
              rintro e w2 ⟨rfl, hb2'⟩
              have hz2 : wr.heap.size < w2.heap.size := by have := hb2'.size; simp at this; omega
              have HB3 := Lib.hid ((HBEL.out.alloc (by omega) _).trans (hb2'.mono (by simp; omega)))
              have g1 : w2.cell? ⟨wr.heap.size, 0, none⟩ = some (.int .i64 vk) := (hb2'.cell (p := ⟨wr.heap.size, 0, none⟩) (by simp)).trans (by simp [cell_of_row _ _ _ _ _ _ (heap_alloc_new wr _)])
              replace t1 : w2.cell? ⟨w1.heap.size, 1, none⟩ = some (.slice (some ⟨b4, o4, none⟩) tc.length c1) := (hb2'.cell (p := ⟨w1.heap.size, 1, none⟩) (by simp; omega)).trans ((World.cell?_of_block (Below.heap_alloc _ _ _ hw1)).trans t1)
              replace t2 : w2.cell? ⟨w1.heap.size, 2, none⟩ = some (.int .i64 tk) := (hb2'.cell (p := ⟨w1.heap.size, 2, none⟩) (by simp; omega)).trans ((World.cell?_of_block (Below.heap_alloc _ _ _ hw1)).trans t2)
              replace f2 : w2.cell? ⟨b4, o4 + k * 2 + 1, none⟩ = some (.int .i64 ck) := (hb2'.cell (p := ⟨b4, o4 + k * 2 + 1, none⟩) (by simp; omega)).trans ((World.cell?_of_block (Below.heap_alloc _ _ _ hl4)).trans f2)
              clear hb2' d1 d2 d3 f1
              by_cases hval : validV ⟨vk, vi, vt⟩ = true
              · have HVT := Lib.hid hval
                rw [hval]
                clear hval
                by_cases hkc : vk = ck
                · subst hkc
                  by_cases h2 : vk = 2
                  · subst h2
                    have ek : ((2 : Int) != 2) = false := by simp
                    have HVV := Lib.hid (show fitsV 2 tk 2 k ⟨2, vi, vt⟩ = true by simp only [fitsV, HVT.out]; simp)
                    go_wp2_with fail
                    go_quiet (fail)
                    go_wp2_with fail
                    go_roundw
                    case rel => exact ⟨k + 1, by omega, by go_num, by rw [HT.out, HSTEP.out, HVV.out]; rfl, below_drewN HB3.out _, t1, t2, by show w1.heap.size < w2.heap.size; omega⟩
                    case measure => simp [intOf]; omega
                  · have e2 : (vk == 2) = false := beq_eq_false_iff_ne.2 h2
                    by_cases h1 : vk = 1
                    · subst h1
                      have ek : ((1 : Int) != 1) = false := by simp
                      have HVV := Lib.hid (show fitsV 2 tk 1 k ⟨1, vi, vt⟩ = true by simp only [fitsV, HVT.out]; simp)
                      go_wp2_with fail
                      go_quiet (fail)
                      go_wp2_with fail
                      go_roundw
                      case rel => exact ⟨k + 1, by omega, by go_num, by rw [HT.out, HSTEP.out, HVV.out]; rfl, below_drewN HB3.out _, t1, t2, by show w1.heap.size < w2.heap.size; omega⟩
                      case measure => simp [intOf]; omega
                    · have e1 : (vk == 1) = false := beq_eq_false_iff_ne.2 h1
                      have ek : (vk != vk) = false := by simp
                      have HVV := Lib.hid (show fitsV 2 tk vk k ⟨vk, vi, vt⟩ = true by simp only [fitsV, HVT.out]; simp)
                      go_wp2_with fail
                      go_quiet (fail)
                      go_wp2_with fail
                      go_roundw
                      case rel => exact ⟨k + 1, by omega, by go_num, by rw [HT.out, HSTEP.out, HVV.out]; rfl, below_drewN HB3.out _, t1, t2, by show w1.heap.size < w2.heap.size; omega⟩
                      case measure => simp [intOf]; omega
                · by_cases h2 : vk = 2
                  · subst h2
                    by_cases hki : tk ≤ (k : Int)
                    · have ei : decide (tk ≤ (k : Int)) = true := by simp [hki]
                      have ek : ((2 : Int) != ck) = true := by simp [hkc]
                      have HVV := Lib.hid (show fitsV 2 tk ck k ⟨2, vi, vt⟩ = true by simp only [fitsV, HVT.out]; simp [hki])
                      go_wp2_with fail
                      go_quiet (fail)
                      go_wp2_with fail
                      go_roundw
                      case rel => exact ⟨k + 1, by omega, by go_num, by rw [HT.out, HSTEP.out, HVV.out]; rfl, below_drewN HB3.out _, t1, t2, by show w1.heap.size < w2.heap.size; omega⟩
                      case measure => simp [intOf]; omega
                    · have ei : decide (tk ≤ (k : Int)) = false := by simpa using hki
                      have ek : ((2 : Int) != ck) = true := by simp [hkc]
                      have HVV := Lib.hid (show fitsV 2 tk ck k ⟨2, vi, vt⟩ = false by simp only [fitsV, HVT.out]; simp [hkc, hki])
                      go_wp2_with fail
                      go_quiet (fail)
                      go_wp2_with fail
                      go_ret
                      exact ⟨by rw [HF.out, HRC.out, HT.out, HSTEP.out, HVV.out]; rfl, HB1.out.trans ((below_drewN HB3.out _).mono (show w.heap.size ≤ w1.heap.size by omega))⟩
                  · have e2 : (vk == 2) = false := beq_eq_false_iff_ne.2 h2
                    by_cases h1 : vk = 1
                    · subst h1
                      have ek : ((1 : Int) != ck) = true := by simp [hkc]
                      have HVV := Lib.hid (show fitsV 2 tk ck k ⟨1, vi, vt⟩ = false by simp only [fitsV, HVT.out]; simp [hkc])
                      go_wp2_with fail
                      go_quiet (fail)
                      go_wp2_with fail
                      go_ret
                      exact ⟨by rw [HF.out, HRC.out, HT.out, HSTEP.out, HVV.out]; rfl, HB1.out.trans ((below_drewN HB3.out _).mono (show w.heap.size ≤ w1.heap.size by omega))⟩
                    · have e1 : (vk == 1) = false := beq_eq_false_iff_ne.2 h1
                      have ek : (vk != ck) = true := by simp [hkc]
                      have HVV := Lib.hid (show fitsV 2 tk ck k ⟨vk, vi, vt⟩ = false by simp only [fitsV, HVT.out]; simp [hkc, h1, h2])
                      go_wp2_with fail
                      go_quiet (fail)
                      go_wp2_with fail
                      go_ret
                      exact ⟨by rw [HF.out, HRC.out, HT.out, HSTEP.out, HVV.out]; rfl, HB1.out.trans ((below_drewN HB3.out _).mono (show w.heap.size ≤ w1.heap.size by omega))⟩
              · have hvf : validV ⟨vk, vi, vt⟩ = false := by simpa using hval
                have HVV := Lib.hid (show fitsV 2 tk ck k ⟨vk, vi, vt⟩ = false by simp [fitsV, hvf])
                rw [hvf]
                clear hval hvf
                go_wp2_with fail
                go_ret
                exact ⟨by rw [HF.out, HRC.out, HT.out, HSTEP.out, HVV.out]; rfl, HB1.out.trans (HB3.out.mono (by omega))⟩
            · have HKE := Lib.hid (show k = r.length by omega)
              go_wp2_with fail
              go_ret
              exact ⟨by rw [HF.out, HRC.out, HT.out, HKE.out, List.drop_length]; rw [show ∀ l, fitsFrom 2 tk r.length l [] = true from fun l => by cases l <;> rfl]; rfl, HBW.out⟩
        · have hd : ((r.length : Int) != tc.length) = true := by simp; omega
          have HRC := Lib.hid (show decide (r.length = tc.length) = false by simp [hrc])
          go_wp2_with fail
          go_ret
          exact ⟨by rw [HF.out, HRC.out]; rfl, HB1.out.alloc (by omega) _⟩
      · go_enter Try.func59, Try.ntmps59
        go_wp2_with fail
        refine (has_any _ tt A0 s.tabs.length c0' _ hsl).mono ?_
        rintro e w1 ⟨rfl, hb1⟩
        rw [HH.out]
        have HB1 := Lib.hid (HB0.out.trans (hb1.mono (by simp)))
        have cb : w1.cell? ⟨w.heap.size, 1, none⟩ = some (.slice A0 s.tabs.length c0') := (hb1.cell (p := ⟨w.heap.size, 1, none⟩) (by simp)).trans (by simp [cell_of_row _ _ _ _ _ _ (heap_alloc_new w _)])
        have hz1 : w.heap.size < w1.heap.size := by have := hb1.size; simp at this; omega
        clear hb1
        obtain ⟨b2, o2, rfl, hb2, A1, A2, A3, c1, c2, c3, hta⟩ := (HS.out.keep (Same.of_below HB1.out hS)).at_ htl
        obtain ⟨k1, k2, k3, k4, k5, cS, rS, pS, -, -, -, -⟩ := hta
        have HCS := Lib.hid cS
        have hcl := cS.len
        have hl2 : b2 < w1.heap.size := by have := hS b2 hb2; omega
        clear cS rS pS
        generalize s.tabs.getD tt t0 = tb at k1 k2 k3 k4 k5 HCS hcl HF
        obtain ⟨tn, tc, tk, tr, tp⟩ := tb
        simp only at k1 k2 k3 k4 k5 HCS hcl HF
        by_cases hrc : r.length = tc.length
        · have hd : ((r.length : Int) != tc.length) = false := by simp; omega
          have HRC := Lib.hid (show decide (r.length = tc.length) = true by simp [hrc])
          go_wp2_with fail
          go_loopw [43] (fun i wr => ∃ k : Nat, k ≤ r.length ∧ i = .int .i64 k ∧ fitsFrom 3 tk 0 tc r = fitsFrom 3 tk k (tc.drop k) (r.drop k) ∧ Below w1.heap.size w1 wr ∧ wr.cell? ⟨w1.heap.size, 1, none⟩ = some (.slice A1 tc.length c1) ∧ wr.cell? ⟨w1.heap.size, 2, none⟩ = some (.int .i64 tk) ∧ w1.heap.size < wr.heap.size) (fun i _ => r.length - (intOf i).toNat)
          case atStart => exact ⟨0, Nat.zero_le _, rfl, by simp, (Below.refl _ _).alloc (Nat.le_refl _) _, by simp [cell_of_row _ _ _ _ _ _ (heap_alloc_new w1 _)], by simp [cell_of_row _ _ _ _ _ _ (heap_alloc_new w1 _)], by simp⟩
          case round =>
            obtain ⟨k, hk, rfl, hft, hbel, t1, t2, hw1⟩ := hrel
            have HT := Lib.hid hft
            have HBEL := Lib.hid hbel
            clear hft hbel k1 k2 k3 k4 k5 cb
            have HBW := Lib.hid (HB1.out.trans (HBEL.out.mono (by omega)))
            by_cases hkl : k < r.length
            · obtain ⟨b3, o3, rfl, hb3, d1, d2, d3⟩ := (HR.out.keep (Same.of_below HBW.out hS)).at_ hkl
              obtain ⟨b4, o4, rfl, hb4, f1, f2⟩ := (HCS.out.keep (fun b hb => (HBEL.out.block b (by have := hS b hb; omega)))).at_ (show k < tc.length by omega)
              have hl3 : b3 < wr.heap.size := by have := hS b3 hb3; omega
              have hl4 : b4 < wr.heap.size := by have := hS b4 hb4; omega
              have hkt : (k : Int) < tc.length := by omega
              have HSTEP := Lib.hid (fitsFrom_drop (m := 3) (key := tk) k k tc r hkl hrc)
              have HV := Lib.hid (HOK.out.at_ k)
              generalize r.getD k v0 = v at d1 d2 d3 HSTEP HV
              generalize tc.getD k c0 = cl at f1 f2 HSTEP
              obtain ⟨vk, vi, vt⟩ := v
              obtain ⟨cn, ck⟩ := cl
              simp only at d1 d2 d3 HSTEP HV f1 f2
              go_wp2_with fail
              refine (valid_any ⟨vk, vi, vt⟩ _ HV.out).mono ?_
              rintro e w2 ⟨rfl, hb2'⟩
              have hz2 : wr.heap.size < w2.heap.size := by have := hb2'.size; simp at this; omega
              have HB3 := Lib.hid ((HBEL.out.alloc (by omega) _).trans (hb2'.mono (by simp; omega)))
              have g1 : w2.cell? ⟨wr.heap.size, 0, none⟩ = some (.int .i64 vk) := (hb2'.cell (p := ⟨wr.heap.size, 0, none⟩) (by simp)).trans (by simp [cell_of_row _ _ _ _ _ _ (heap_alloc_new wr _)])
              replace t1 : w2.cell? ⟨w1.heap.size, 1, none⟩ = some (.slice (some ⟨b4, o4, none⟩) tc.length c1) := (hb2'.cell (p := ⟨w1.heap.size, 1, none⟩) (by simp; omega)).trans ((World.cell?_of_block (Below.heap_alloc _ _ _ hw1)).trans t1)
              replace t2 : w2.cell? ⟨w1.heap.size, 2, none⟩ = some (.int .i64 tk) := (hb2'.cell (p := ⟨w1.heap.size, 2, none⟩) (by simp; omega)).trans ((World.cell?_of_block (Below.heap_alloc _ _ _ hw1)).trans t2)
              replace f2 : w2.cell? ⟨b4, o4 + k * 2 + 1, none⟩ = some (.int .i64 ck) := (hb2'.cell (p := ⟨b4, o4 + k * 2 + 1, none⟩) (by simp; omega)).trans ((World.cell?_of_block (Below.heap_alloc _ _ _ hl4)).trans f2)
              clear hb2' d1 d2 d3 f1
              by_cases hval : validV ⟨vk, vi, vt⟩ = true
              · have HVT := Lib.hid hval
                rw [hval]
                clear hval
                by_cases hkc : vk = ck
                · subst hkc
                  by_cases h2 : vk = 2
                  · subst h2
                    have ek : ((2 : Int) != 2) = false := by simp
                    have HVV := Lib.hid (show fitsV 3 tk 2 k ⟨2, vi, vt⟩ = true by simp only [fitsV, HVT.out]; simp)
                    go_wp2_with fail
                    go_quiet (fail)
                    go_wp2_with fail
                    go_roundw
                    case rel => exact ⟨k + 1, by omega, by go_num, by rw [HT.out, HSTEP.out, HVV.out]; rfl, below_drewN HB3.out _, t1, t2, by show w1.heap.size < w2.heap.size; omega⟩
                    case measure => simp [intOf]; omega
                  · have e2 : (vk == 2) = false := beq_eq_false_iff_ne.2 h2
                    by_cases h1 : vk = 1
                    · subst h1
                      have ek : ((1 : Int) != 1) = false := by simp
                      have HVV := Lib.hid (show fitsV 3 tk 1 k ⟨1, vi, vt⟩ = true by simp only [fitsV, HVT.out]; simp)
                      go_wp2_with fail
                      go_quiet (fail)
                      go_wp2_with fail
                      go_roundw
                      case rel => exact ⟨k + 1, by omega, by go_num, by rw [HT.out, HSTEP.out, HVV.out]; rfl, below_drewN HB3.out _, t1, t2, by show w1.heap.size < w2.heap.size; omega⟩
                      case measure => simp [intOf]; omega
                    · have e1 : (vk == 1) = false := beq_eq_false_iff_ne.2 h1
                      have ek : (vk != vk) = false := by simp
                      have HVV := Lib.hid (show fitsV 3 tk vk k ⟨vk, vi, vt⟩ = true by simp only [fitsV, HVT.out]; simp)
                      go_wp2_with fail
                      go_quiet (fail)
                      go_wp2_with fail
                      go_roundw
                      case rel => exact ⟨k + 1, by omega, by go_num, by rw [HT.out, HSTEP.out, HVV.out]; rfl, below_drewN HB3.out _, t1, t2, by show w1.heap.size < w2.heap.size; omega⟩
                      case measure => simp [intOf]; omega
                · by_cases h2 : vk = 2
                  · subst h2
                    by_cases hki : tk ≤ (k : Int)
                    · have ei : decide (tk ≤ (k : Int)) = true := by simp [hki]
                      have ek : ((2 : Int) != ck) = true := by simp [hkc]
                      have HVV := Lib.hid (show fitsV 3 tk ck k ⟨2, vi, vt⟩ = true by simp only [fitsV, HVT.out]; simp [hki])
                      go_wp2_with fail
                      go_quiet (fail)
                      go_wp2_with fail
                      go_roundw
                      case rel => exact ⟨k + 1, by omega, by go_num, by rw [HT.out, HSTEP.out, HVV.out]; rfl, below_drewN HB3.out _, t1, t2, by show w1.heap.size < w2.heap.size; omega⟩
                      case measure => simp [intOf]; omega
                    · have ei : decide (tk ≤ (k : Int)) = false := by simpa using hki
                      have ek : ((2 : Int) != ck) = true := by simp [hkc]
                      have HVV := Lib.hid (show fitsV 3 tk ck k ⟨2, vi, vt⟩ = false by simp only [fitsV, HVT.out]; simp [hkc, hki])
                      go_wp2_with fail
                      go_quiet (fail)
                      go_wp2_with fail
                      go_ret
                      exact ⟨by rw [HF.out, HRC.out, HT.out, HSTEP.out, HVV.out]; rfl, HB1.out.trans ((below_drewN HB3.out _).mono (show w.heap.size ≤ w1.heap.size by omega))⟩
                  · have e2 : (vk == 2) = false := beq_eq_false_iff_ne.2 h2
                    by_cases h1 : vk = 1
                    · subst h1
                      by_cases hki : tk ≤ (k : Int)
                      · have ei : decide (tk ≤ (k : Int)) = true := by simp [hki]
                        have ek : ((1 : Int) != ck) = true := by simp [hkc]
                        have HVV := Lib.hid (show fitsV 3 tk ck k ⟨1, vi, vt⟩ = true by simp only [fitsV, HVT.out]; simp [hki])
                        go_wp2_with fail
                        go_quiet (fail)
                        go_wp2_with fail
                        go_roundw
                        case rel => exact ⟨k + 1, by omega, by go_num, by rw [HT.out, HSTEP.out, HVV.out]; rfl, below_drewN HB3.out _, t1, t2, by show w1.heap.size < w2.heap.size; omega⟩
                        case measure => simp [intOf]; omega
                      · have ei : decide (tk ≤ (k : Int)) = false := by simpa using hki
                        have ek : ((1 : Int) != ck) = true := by simp [hkc]
                        have HVV := Lib.hid (show fitsV 3 tk ck k ⟨1, vi, vt⟩ = false by simp only [fitsV, HVT.out]; simp [hkc, hki])
                        go_wp2_with fail
                        go_quiet (fail)
                        go_wp2_with fail
                        go_ret
                        exact ⟨by rw [HF.out, HRC.out, HT.out, HSTEP.out, HVV.out]; rfl, HB1.out.trans ((below_drewN HB3.out _).mono (show w.heap.size ≤ w1.heap.size by omega))⟩
                    · have e1 : (vk == 1) = false := beq_eq_false_iff_ne.2 h1
                      have ek : (vk != ck) = true := by simp [hkc]
                      have HVV := Lib.hid (show fitsV 3 tk ck k ⟨vk, vi, vt⟩ = false by simp only [fitsV, HVT.out]; simp [hkc, h1, h2])
                      go_wp2_with fail
                      go_quiet (fail)
                      go_wp2_with fail
                      go_ret
                      exact ⟨by rw [HF.out, HRC.out, HT.out, HSTEP.out, HVV.out]; rfl, HB1.out.trans ((below_drewN HB3.out _).mono (show w.heap.size ≤ w1.heap.size by omega))⟩
              · have hvf : validV ⟨vk, vi, vt⟩ = false := by simpa using hval
                have HVV := Lib.hid (show fitsV 3 tk ck k ⟨vk, vi, vt⟩ = false by simp [fitsV, hvf])
                rw [hvf]
                clear hval hvf
                go_wp2_with fail
                go_ret
                exact ⟨by rw [HF.out, HRC.out, HT.out, HSTEP.out, HVV.out]; rfl, HB1.out.trans (HB3.out.mono (by omega))⟩
            · have HKE := Lib.hid (show k = r.length by omega)
              go_wp2_with fail
              go_ret
              exact ⟨by rw [HF.out, HRC.out, HT.out, HKE.out, List.drop_length]; rw [show ∀ l, fitsFrom 3 tk r.length l [] = true from fun l => by cases l <;> rfl]; rfl, HBW.out⟩
        · have hd : ((r.length : Int) != tc.length) = true := by simp; omega
          have HRC := Lib.hid (show decide (r.length = tc.length) = false by simp [hrc])
          go_wp2_with fail
          go_ret
          exact ⟨by rw [HF.out, HRC.out]; rfl, HB1.out.alloc (by omega) _⟩
    · have hh' : hasN s.tabs.length t = false := by simpa using hh
      have HF := Lib.hid (show fitsF s t r m = false by unfold fitsF; rw [hm, hh']; simp)
      have HH := Lib.hid hh'
      clear hh hh' hm
      rcases hm' with rfl | rfl | rfl
      · go_enter Try.func59, Try.ntmps59
        go_wp2_with fail
        refine (has_any _ t A0 s.tabs.length c0' _ hsl).mono ?_
        rintro e w1 ⟨rfl, hb1⟩
        rw [HH.out]
        have HB1 := Lib.hid (HB0.out.trans (hb1.mono (by simp)))
        clear hb1
        go_wp2_with fail
        go_ret
        exact ⟨by rw [HF.out]; rfl, HB1.out⟩
      · go_enter Try.func59, Try.ntmps59
        go_wp2_with fail
        refine (has_any _ t A0 s.tabs.length c0' _ hsl).mono ?_
        rintro e w1 ⟨rfl, hb1⟩
        rw [HH.out]
        have HB1 := Lib.hid (HB0.out.trans (hb1.mono (by simp)))
        clear hb1
        go_wp2_with fail
        go_ret
        exact ⟨by rw [HF.out]; rfl, HB1.out⟩
      · go_enter Try.func59, Try.ntmps59
        go_wp2_with fail
        refine (has_any _ t A0 s.tabs.length c0' _ hsl).mono ?_
        rintro e w1 ⟨rfl, hb1⟩
        rw [HH.out]
        have HB1 := Lib.hid (HB0.out.trans (hb1.mono (by simp)))
        clear hb1
        go_wp2_with fail
        go_ret
        exact ⟨by rw [HF.out]; rfl, HB1.out⟩
  · have hm' : m ≠ 1 ∧ m ≠ 2 ∧ m ≠ 3 := by simpa [modeOk, and_assoc] using hm
    have HF := Lib.hid (show fitsF s t r m = false by unfold fitsF; rw [show modeOk m = false by simpa using hm]; simp)
    have e1 : (m != 1) = true := by simp [hm'.1]
    have e2 : (m != 2) = true := by simp [hm'.2.1]
    have e3 : (m != 3) = true := by simp [hm'.2.2]
    clear hm hm'
    go_enter Try.func59, Try.ntmps59
    go_wp2_with fail
    go_ret
    exact ⟨by rw [HF.out]; rfl, HB0.out⟩
end Go.Proofs.Ytkpjjfhfbpfjpaa
