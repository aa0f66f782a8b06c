/- Plain: a table takes 512 rows and not one more. -/
import Derived.Test.YtkpjjfhfbpfjpaaTabF
namespace Go.Proofs.Ytkpjjfhfbpfjpaa
set_option linter.unusedVariables false

def rowI (i : Nat) : Row := [⟨4, i, ⟨#[]⟩⟩]
def sF (t id : ByteArray) : Sch := ⟨0, [⟨t, [⟨id, 4⟩], 1, [], []⟩]⟩
def rowsF (k : Nat) : List Row := (List.range k).map rowI
def chF (i : Nat) : Chg := ⟨0, [], rowI i⟩
theorem keyF_f (t id : ByteArray) (i : Nat) : keyF (sF t id) 0 (rowI i) = rowI i := rfl
theorem cmp_rowI (i j : Nat) : cmpR (rowI i) (rowI j) = cmpI i j := by
  by_cases h : cmpI (i : Int) j = 0
  · simp [rowI, cmpR, cmpV, cmpI_is.self, h, cmpB, Lib.compareBytes]
  · simp [rowI, cmpR, cmpV, cmpI_is.self, h]
theorem cmp_lt {i j : Nat} (h : i < j) : cmpR (rowI i) (rowI j) < 0 := by rw [cmp_rowI]; unfold cmpI; rw [if_pos (by omega)]; omega
theorem fits_f (t id : ByteArray) (i : Nat) : fitsF (sF t id) 0 (rowI i) 1 = true := by simp [fitsF, sF, rowI, fitsFrom, fitsV, validV, modeOk, hasN]
theorem rowsF_len (k : Nat) : (rowsF k).length = k := by simp [rowsF]
theorem rowsF_getD (k i : Nat) (h : i < k) : (rowsF k).getD i [] = rowI i := by simp [rowsF, List.getD, h]
theorem rowsF_succ (k : Nat) : rowsF (k + 1) = rowsF k ++ [rowI k] := by simp [rowsF, List.range_succ]
theorem rowsF_take (k i : Nat) (h : i ≤ k) : (rowsF k).take i = rowsF i := by simp [rowsF, ← List.map_take, List.take_range, Nat.min_eq_left h]
theorem rowsOk_f (t id : ByteArray) : ∀ (n a : Nat) (p : Option Row), (p = none ∨ ∃ b, b < a ∧ p = some (rowI b)) → rowsOk (sF t id) 0 1 p ((List.range' a n).map rowI) = true
  | 0, _, _, _ => by simp [rowsOk]
  | n + 1, a, p, h => by
    have ih := rowsOk_f t id n (a + 1) (some (rowI a)) (.inr ⟨a, by omega, rfl⟩)
    rw [List.range'_succ, List.map_cons]
    rcases h with rfl | ⟨b, hb, rfl⟩
    · simp [rowsOk, ih, fits_f]
    · simp [rowsOk, ih, fits_f, keyF_f, cmp_lt hb]
theorem check_f (t id : ByteArray) (k : Nat) : checkF 0 (sF t id) 1 [rowsF k] = if 512 < k then 2 else 0 := by
  have h1 : rowsOk (sF t id) 0 1 none (rowsF k) = true := by
    have := rowsOk_f t id k 0 none (.inl rfl)
    rwa [← List.range_eq_range'] at this
  have h2 : stOk (sF t id) 1 0 [rowsF k] = true := by simp [stOk, h1]
  have h3 : countF [rowsF k] = k := by simp [countF, rowsF_len]
  unfold checkF
  rw [show modeF 0 1 = 0 from rfl, h2, h3]
  by_cases h : 512 < k
  · simp [h]
  · simp [h, sF]
theorem low_f (t id : ByteArray) (i : Nat) : ∀ (n a : Nat), a + n ≤ i → low (sF t id) 0 (rowI i) ((List.range' a n).map rowI) = n
  | 0, _, _ => by simp [low]
  | n + 1, a, h => by
    rw [List.range'_succ, List.map_cons, low, keyF_f, if_pos (cmp_lt (by omega)), low_f t id i n (a + 1) (by omega)]
theorem low_rows (t id : ByteArray) (i : Nat) : low (sF t id) (chF i).table (keyC (sF t id) (chF i)) (rowsF i) = i := by
  have := low_f t id i i 0 (by omega)
  rwa [← List.range_eq_range'] at this
theorem found_f (t id : ByteArray) (i : Nat) : foundF (sF t id) (chF i) (rowsF i) = false := by
  unfold foundF
  rw [low_rows, rowsF_len]
  simp
theorem put_f (t id : ByteArray) (i : Nat) : putC (sF t id) (chF i) (rowsF i) = rowsF (i + 1) := by
  unfold putC
  rw [low_rows, found_f]
  have e1 : (rowsF i).take i = rowsF i := List.take_of_length_le (by rw [rowsF_len]; exact Nat.le_refl _)
  have e2 : (rowsF i).drop i = [] := List.drop_of_length_le (by rw [rowsF_len]; exact Nat.le_refl _)
  rw [e1, rowsF_succ]
  simp [e2, chF, rowI]
theorem fitsC_f (t id : ByteArray) (i : Nat) : fitsC (sF t id) (chF i) (rowsF i) = true := by
  unfold fitsC
  rw [found_f]
  rfl
theorem apply_f (t id : ByteArray) : ∀ (n i : Nat), i ≤ 512 → applyL (sF t id) 1 i [rowsF i] ((List.range' i n).map chF) = if 512 < i + n then (2, []) else (0, [rowsF (i + n)])
  | 0, i, h => by simp [applyL, show ¬ 512 < i by omega]
  | n + 1, i, h => by
    rw [List.range'_succ, List.map_cons, applyL]
    have hv : validC (sF t id) 1 (chF i) = true := by simp [validC, chF, hasN, sF]; exact ⟨by simp [rowI], .inr (fits_f t id i)⟩
    have e0 : [rowsF i].getD (chF i).table.toNat [] = rowsF i := rfl
    have e1 : [rowsF i].set (chF i).table.toNat (rowsF (i + 1)) = [rowsF (i + 1)] := rfl
    have e2 : (i : Int) + (((i + 1 : Nat) : Int) - (i : Int)) = ((i + 1 : Nat) : Int) := by omega
    rw [hv, e0, fitsC_f, put_f, rowsF_len, rowsF_len, e2, e1]
    simp only [Bool.true_eq_false, if_false]
    by_cases h1 : i + 1 ≤ 512
    · rw [if_neg (by omega), apply_f t id n (i + 1) h1]
      rw [show i + 1 + n = i + (n + 1) by omega]
    · rw [if_pos (by omega), if_pos (by omega)]
theorem applyF_f (t id : ByteArray) (k : Nat) (h : k ≤ 504 + 10) (h' : 504 ≤ k) : applyF 0 (sF t id) 1 [rowsF 504] ((List.range' 504 (k - 504)).map chF) = if 512 < k then (2, []) else (0, [rowsF k]) := by
  unfold applyF
  rw [check_f]
  have := apply_f t id (k - 504) 504 (by omega)
  rw [show 504 + (k - 504) = k by omega] at this
  simp only [show ¬ 512 < 504 by omega, if_false, ne_eq, not_true]
  rw [show countF [rowsF 504] = 504 by simp [countF, rowsF_len]]
  exact this
end Go.Proofs.Ytkpjjfhfbpfjpaa
