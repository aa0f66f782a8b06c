/- Contracts: which values are valid. -/
import Derived.Test.YtkpjjfhfbpfjpaaRows1
namespace Go.Proofs.Ytkpjjfhfbpfjpaa
open Go.RowKit
set_option linter.unusedVariables false

def validV (v : V) : Bool :=
  if v.k = 1 ∨ v.k = 2 then decide (v.i = 0) && v.t.toList.isEmpty
  else if v.k = 3 then (decide (v.i = 0) || decide (v.i = 1)) && v.t.toList.isEmpty
  else if v.k = 4 then v.t.toList.isEmpty
  else if v.k = 5 then decide (v.i = 0) && decide ((v.t.size : Int) ≤ 64)
  else false
def realV (v : V) : Bool := validV v && decide (v.k ≠ 1) && decide (v.k ≠ 2)
theorem validV_kind {v : V} (h : validV v = true) : 1 ≤ v.k ∧ v.k ≤ 5 := by
  unfold validV at h
  by_cases h1 : v.k = 1 ∨ v.k = 2
  · omega
  · rw [if_neg h1] at h
    by_cases h3 : v.k = 3
    · omega
    · rw [if_neg h3] at h
      by_cases h4 : v.k = 4
      · omega
      · rw [if_neg h4] at h
        by_cases h5 : v.k = 5
        · omega
        · rw [if_neg h5] at h; cases h

set_option maxHeartbeats 1000000 in
theorem valid_any (v : V) (w : World) (hs : v.t.size ≤ 9223372036854775807) : Calls Try.prog 50 #[vAgg v] w (BoolBel (validV v) w) := by
  obtain ⟨k, i, t⟩ := v
  dsimp only at hs
  have HB := Lib.hid ((Below.refl w.heap.size w).alloc (Nat.le_refl _) (.cells #[.int .i64 k, .int .i64 i, .string t] 51))
  by_cases h1 : k = 1
  · subst h1
    by_cases hi : i = 0
    · subst hi
      have HF := Lib.hid (show validV ⟨1, 0, t⟩ = t.toList.isEmpty by simp [validV])
      go_enter Try.func50, Try.ntmps50
      go_wp2_with fail
      go_ret
      exact ⟨by rw [HF.out]; rfl, HB.out⟩
    · have hd : (i == 0) = false := beq_eq_false_iff_ne.2 hi
      have HF := Lib.hid (show validV ⟨1, i, t⟩ = false by simp [validV, hi])
      go_enter Try.func50, Try.ntmps50
      go_wp2_with fail
      go_ret
      exact ⟨by rw [HF.out]; rfl, HB.out⟩
  have e1 : (k == 1) = false := beq_eq_false_iff_ne.2 h1
  by_cases h2 : k = 2
  · subst h2
    by_cases hi : i = 0
    · subst hi
      have HF := Lib.hid (show validV ⟨2, 0, t⟩ = t.toList.isEmpty by simp [validV])
      go_enter Try.func50, Try.ntmps50
      go_wp2_with fail
      go_ret
      exact ⟨by rw [HF.out]; rfl, HB.out⟩
    · have hd : (i == 0) = false := beq_eq_false_iff_ne.2 hi
      have HF := Lib.hid (show validV ⟨2, i, t⟩ = false by simp [validV, hi])
      go_enter Try.func50, Try.ntmps50
      go_wp2_with fail
      go_ret
      exact ⟨by rw [HF.out]; rfl, HB.out⟩
  have e2 : (k == 2) = false := beq_eq_false_iff_ne.2 h2
  by_cases h3 : k = 3
  · subst h3
    by_cases hi : i = 0
    · subst hi
      have HF := Lib.hid (show validV ⟨3, 0, t⟩ = t.toList.isEmpty by simp [validV])
      go_enter Try.func50, Try.ntmps50
      go_wp2_with fail
      go_ret
      exact ⟨by rw [HF.out]; rfl, HB.out⟩
    · have hd : (i == 0) = false := beq_eq_false_iff_ne.2 hi
      by_cases hj : i = 1
      · subst hj
        have HF := Lib.hid (show validV ⟨3, 1, t⟩ = t.toList.isEmpty by simp [validV])
        go_enter Try.func50, Try.ntmps50
        go_wp2_with fail
        go_ret
        exact ⟨by rw [HF.out]; rfl, HB.out⟩
      · have hd2 : (i == 1) = false := beq_eq_false_iff_ne.2 hj
        have HF := Lib.hid (show validV ⟨3, i, t⟩ = false by simp [validV, hi, hj])
        go_enter Try.func50, Try.ntmps50
        go_wp2_with fail
        go_ret
        exact ⟨by rw [HF.out]; rfl, HB.out⟩
  have e3 : (k == 3) = false := beq_eq_false_iff_ne.2 h3
  by_cases h4 : k = 4
  · subst h4
    have HF := Lib.hid (show validV ⟨4, i, t⟩ = t.toList.isEmpty by simp [validV])
    go_enter Try.func50, Try.ntmps50
    go_wp2_with fail
    go_ret
    exact ⟨by rw [HF.out]; rfl, HB.out⟩
  have e4 : (k == 4) = false := beq_eq_false_iff_ne.2 h4
  by_cases h5 : k = 5
  · subst h5
    by_cases hi : i = 0
    · subst hi
      have HF := Lib.hid (show validV ⟨5, 0, t⟩ = decide ((t.size : Int) ≤ 64) by simp [validV])
      go_enter Try.func50, Try.ntmps50
      go_wp2_with fail
      go_ret
      exact ⟨by rw [HF.out]; rfl, HB.out⟩
    · have hd : (i == 0) = false := beq_eq_false_iff_ne.2 hi
      have HF := Lib.hid (show validV ⟨5, i, t⟩ = false by simp [validV, hi])
      go_enter Try.func50, Try.ntmps50
      go_wp2_with fail
      go_ret
      exact ⟨by rw [HF.out]; rfl, HB.out⟩
  have e5 : (k == 5) = false := beq_eq_false_iff_ne.2 h5
  have HF := Lib.hid (show validV ⟨k, i, t⟩ = false by simp [validV, h1, h2, h3, h4, h5])
  go_enter Try.func50, Try.ntmps50
  go_wp2_with fail
  go_ret
  exact ⟨by rw [HF.out]; rfl, HB.out⟩

set_option maxHeartbeats 1000000 in
theorem rvalid_any (v : V) (w : World) (hs : v.t.size ≤ 9223372036854775807) : Calls Try.prog 95 #[vAgg v] w (BoolBel (validV v) w) := by
  obtain ⟨k, i, t⟩ := v
  dsimp only at hs
  have HB := Lib.hid ((Below.refl w.heap.size w).alloc (Nat.le_refl _) (.cells #[.int .i64 k, .int .i64 i, .string t] 51))
  by_cases h1 : k = 1
  · subst h1
    by_cases hi : i = 0
    · subst hi
      have HF := Lib.hid (show validV ⟨1, 0, t⟩ = t.toList.isEmpty by simp [validV])
      go_enter Try.func95, Try.ntmps95
      go_wp2_with fail
      go_ret
      exact ⟨by rw [HF.out]; rfl, HB.out⟩
    · have hd : (i == 0) = false := beq_eq_false_iff_ne.2 hi
      have HF := Lib.hid (show validV ⟨1, i, t⟩ = false by simp [validV, hi])
      go_enter Try.func95, Try.ntmps95
      go_wp2_with fail
      go_ret
      exact ⟨by rw [HF.out]; rfl, HB.out⟩
  have e1 : (k == 1) = false := beq_eq_false_iff_ne.2 h1
  by_cases h2 : k = 2
  · subst h2
    by_cases hi : i = 0
    · subst hi
      have HF := Lib.hid (show validV ⟨2, 0, t⟩ = t.toList.isEmpty by simp [validV])
      go_enter Try.func95, Try.ntmps95
      go_wp2_with fail
      go_ret
      exact ⟨by rw [HF.out]; rfl, HB.out⟩
    · have hd : (i == 0) = false := beq_eq_false_iff_ne.2 hi
      have HF := Lib.hid (show validV ⟨2, i, t⟩ = false by simp [validV, hi])
      go_enter Try.func95, Try.ntmps95
      go_wp2_with fail
      go_ret
      exact ⟨by rw [HF.out]; rfl, HB.out⟩
  have e2 : (k == 2) = false := beq_eq_false_iff_ne.2 h2
  by_cases h3 : k = 3
  · subst h3
    by_cases hi : i = 0
    · subst hi
      have HF := Lib.hid (show validV ⟨3, 0, t⟩ = t.toList.isEmpty by simp [validV])
      go_enter Try.func95, Try.ntmps95
      go_wp2_with fail
      go_ret
      exact ⟨by rw [HF.out]; rfl, HB.out⟩
    · have hd : (i == 0) = false := beq_eq_false_iff_ne.2 hi
      by_cases hj : i = 1
      · subst hj
        have HF := Lib.hid (show validV ⟨3, 1, t⟩ = t.toList.isEmpty by simp [validV])
        go_enter Try.func95, Try.ntmps95
        go_wp2_with fail
        go_ret
        exact ⟨by rw [HF.out]; rfl, HB.out⟩
      · have hd2 : (i == 1) = false := beq_eq_false_iff_ne.2 hj
        have HF := Lib.hid (show validV ⟨3, i, t⟩ = false by simp [validV, hi, hj])
        go_enter Try.func95, Try.ntmps95
        go_wp2_with fail
        go_ret
        exact ⟨by rw [HF.out]; rfl, HB.out⟩
  have e3 : (k == 3) = false := beq_eq_false_iff_ne.2 h3
  by_cases h4 : k = 4
  · subst h4
    have HF := Lib.hid (show validV ⟨4, i, t⟩ = t.toList.isEmpty by simp [validV])
    go_enter Try.func95, Try.ntmps95
    go_wp2_with fail
    go_ret
    exact ⟨by rw [HF.out]; rfl, HB.out⟩
  have e4 : (k == 4) = false := beq_eq_false_iff_ne.2 h4
  by_cases h5 : k = 5
  · subst h5
    by_cases hi : i = 0
    · subst hi
      have HF := Lib.hid (show validV ⟨5, 0, t⟩ = decide ((t.size : Int) ≤ 64) by simp [validV])
      go_enter Try.func95, Try.ntmps95
      go_wp2_with fail
      go_ret
      exact ⟨by rw [HF.out]; rfl, HB.out⟩
    · have hd : (i == 0) = false := beq_eq_false_iff_ne.2 hi
      have HF := Lib.hid (show validV ⟨5, i, t⟩ = false by simp [validV, hi])
      go_enter Try.func95, Try.ntmps95
      go_wp2_with fail
      go_ret
      exact ⟨by rw [HF.out]; rfl, HB.out⟩
  have e5 : (k == 5) = false := beq_eq_false_iff_ne.2 h5
  have HF := Lib.hid (show validV ⟨k, i, t⟩ = false by simp [validV, h1, h2, h3, h4, h5])
  go_enter Try.func95, Try.ntmps95
  go_wp2_with fail
  go_ret
  exact ⟨by rw [HF.out]; rfl, HB.out⟩

set_option maxHeartbeats 400000 in
theorem real_any (v : V) (w : World) (hs : v.t.size ≤ 9223372036854775807) : Calls Try.prog 145 #[vAgg v] w (BoolBel (realV v) w) := by
  have hr : realV v = (validV v && decide (v.k ≠ 1) && decide (v.k ≠ 2)) := rfl
  obtain ⟨k, i, t⟩ := v
  dsimp only at hs hr
  go_enter Try.func145, Try.ntmps145
  go_wp2_with fail
  refine (valid_any ⟨k, i, t⟩ _ hs).mono ?_
  rintro e w1 ⟨rfl, hb1⟩
  have HB1 := Lib.hid (((Below.refl w.heap.size w).alloc (Nat.le_refl _) (.cells #[.int .i64 k, .int .i64 i, .string t] 51)).trans (hb1.mono (by simp)))
  have c0 : w1.cell? ⟨w.heap.size, 0, none⟩ = some (.int .i64 k) := (hb1.cell (p := ⟨w.heap.size, 0, none⟩) (by simp)).trans (by simp [cell_of_row _ _ _ _ _ _ (heap_alloc_new w _)])
  have HR := Lib.hid hr
  clear hb1 hr
  generalize validV ⟨k, i, t⟩ = vv at HR
  cases vv
  · go_wp2_with fail
    go_ret
    exact ⟨by rw [HR.out]; rfl, HB1.out⟩
  · by_cases h1 : k = 1
    · subst h1
      go_wp2_with fail
      go_ret
      exact ⟨by rw [HR.out]; rfl, HB1.out⟩
    · have hd : (k != 1) = true := by simp [h1]
      have H1 := Lib.hid h1
      by_cases h2 : k = 2
      · subst h2
        go_wp2_with fail
        go_ret
        exact ⟨by rw [HR.out]; rfl, HB1.out⟩
      · have hd2 : (k != 2) = true := by simp [h2]
        have H2 := Lib.hid h2
        clear h1 h2
        go_wp2_with fail
        go_ret
        exact ⟨by rw [HR.out]; simp [H1.out, H2.out], HB1.out⟩

set_option maxHeartbeats 400000 in
theorem rreal_any (v : V) (w : World) (hs : v.t.size ≤ 9223372036854775807) : Calls Try.prog 141 #[vAgg v] w (BoolBel (realV v) w) := by
  have hk := @validV_kind v
  have hr : realV v = (validV v && decide (v.k ≠ 1) && decide (v.k ≠ 2)) := rfl
  obtain ⟨k, i, t⟩ := v
  dsimp only at hs hr hk
  go_enter Try.func141, Try.ntmps141
  go_wp2_with fail
  refine (rvalid_any ⟨k, i, t⟩ _ hs).mono ?_
  rintro e w1 ⟨rfl, hb1⟩
  have HB1 := Lib.hid (((Below.refl w.heap.size w).alloc (Nat.le_refl _) (.cells #[.int .i64 k, .int .i64 i, .string t] 51)).trans (hb1.mono (by simp)))
  have c0 : w1.cell? ⟨w.heap.size, 0, none⟩ = some (.int .i64 k) := (hb1.cell (p := ⟨w.heap.size, 0, none⟩) (by simp)).trans (by simp [cell_of_row _ _ _ _ _ _ (heap_alloc_new w _)])
  have HR := Lib.hid hr
  clear hb1 hr
  generalize validV ⟨k, i, t⟩ = vv at HR hk
  cases vv
  · clear hk
    go_wp2_with fail
    go_ret
    exact ⟨by rw [HR.out]; rfl, HB1.out⟩
  · have hk' := hk rfl
    clear hk
    by_cases h1 : 3 ≤ k
    · have hd : decide (3 ≤ k) = true := by simp [h1]
      have HF := Lib.hid (show realV ⟨k, i, t⟩ = true by rw [HR.out]; simp; omega)
      go_wp2_with fail
      go_ret
      exact ⟨by rw [HF.out]; rfl, HB1.out⟩
    · have hd : decide (3 ≤ k) = false := by simpa using h1
      have HF := Lib.hid (show realV ⟨k, i, t⟩ = false by rw [HR.out]; simp; omega)
      go_wp2_with fail
      go_ret
      exact ⟨by rw [HF.out]; rfl, HB1.out⟩
end Go.Proofs.Ytkpjjfhfbpfjpaa
