/- Contracts: the orders of values and rows, of the program and of the reference. -/
import Derived.Test.YtkpjjfhfbpfjpaaDat
import Derived.Test.YtkpjjfhfbpfjpaaVal
import Derived.Lib.Strings
import Derived.Lib.Walk
import Derived.Deep.QuietTactic
import Derived.BigQuiet
import Derived.RegionTactic
import Derived.WalkLawsBesides
import Derived.WalkSpells
import Derived.Outline
namespace Go.Proofs.Ytkpjjfhfbpfjpaa
open Go.RowKit
set_option linter.unusedVariables false

def vCells (v : V) : Array Value := #[.int .i64 v.k, .int .i64 v.i, .string v.t]
abbrev vAgg (v : V) : Value := .agg #[.int .i64 v.k, .int .i64 v.i, .string v.t]
def IntBel (n : Int) (w : World) (e : Ending) (w' : World) : Prop := e = .returned (.int .i64 n) ∧ Below w.heap.size w w'
def BoolBel (b : Bool) (w : World) (e : Ending) (w' : World) : Prop := e = .returned (.bool b) ∧ Below w.heap.size w w'

set_option maxHeartbeats 400000 in
theorem cmpInt_any (a b : Int) (w : World) : Calls Try.prog 119 #[.int .i64 a, .int .i64 b] w fun e w' => e = .returned (.int .i64 (cmpI a b)) ∧ w = w' := by
  have hn : ∀ x : Int, ((x : Int) != x) = false := fun x => by simp
  by_cases h1 : a < b
  · have HF := Lib.hid (show cmpI a b = -1 by unfold cmpI; rw [if_pos h1])
    have hd : decide (a < b) = true := by simp [h1]
    go_enter Try.func119, Try.ntmps119
    go_wp2
    go_ret
    exact ⟨by rw [HF.out]; rfl, rfl⟩
  · have hd : decide (a < b) = false := by simpa using h1
    by_cases h2 : b < a
    · have HF := Lib.hid (show cmpI a b = 1 by unfold cmpI; rw [if_neg h1, if_pos h2])
      have hd2 : decide (b < a) = true := by simp [h2]
      go_enter Try.func119, Try.ntmps119
      go_wp2
      go_ret
      exact ⟨by rw [HF.out]; rfl, rfl⟩
    · have HF := Lib.hid (show cmpI a b = 0 by unfold cmpI; rw [if_neg h1, if_neg h2])
      have hd2 : decide (b < a) = false := by simpa using h2
      go_enter Try.func119, Try.ntmps119
      go_wp2
      go_ret
      exact ⟨by rw [HF.out]; rfl, rfl⟩

set_option maxHeartbeats 400000 in
theorem cmpInt64_any (a b : Int) (w : World) : Calls Try.prog 120 #[.int .i64 a, .int .i64 b] w fun e w' => e = .returned (.int .i64 (cmpI a b)) ∧ w = w' := by
  have hn : ∀ x : Int, ((x : Int) != x) = false := fun x => by simp
  by_cases h1 : a < b
  · have HF := Lib.hid (show cmpI a b = -1 by unfold cmpI; rw [if_pos h1])
    have hd : decide (a < b) = true := by simp [h1]
    go_enter Try.func120, Try.ntmps120
    go_wp2
    go_ret
    exact ⟨by rw [HF.out]; rfl, rfl⟩
  · have hd : decide (a < b) = false := by simpa using h1
    by_cases h2 : b < a
    · have HF := Lib.hid (show cmpI a b = 1 by unfold cmpI; rw [if_neg h1, if_pos h2])
      have hd2 : decide (b < a) = true := by simp [h2]
      go_enter Try.func120, Try.ntmps120
      go_wp2
      go_ret
      exact ⟨by rw [HF.out]; rfl, rfl⟩
    · have HF := Lib.hid (show cmpI a b = 0 by unfold cmpI; rw [if_neg h1, if_neg h2])
      have hd2 : decide (b < a) = false := by simpa using h2
      go_enter Try.func120, Try.ntmps120
      go_wp2
      go_ret
      exact ⟨by rw [HF.out]; rfl, rfl⟩

set_option maxHeartbeats 1000000 in
set_option maxRecDepth 100000 in
theorem cmpString_any (a b : ByteArray) (w : World) : Calls Try.prog 139 #[.string a, .string b] w fun e w' => e = .returned (.int .i64 (cmpB a b)) ∧ w = w' := by
  go_enter Try.func139, Try.ntmps139
  go_wp2
  rw [run_callFunc_extern Try.func143 (by kernel_rfl) (by kernel_rfl) (by kernel_rfl) (e := Extern.BytealgCompare.compare) (by kernel_rfl), Lib.run_compareString]
  simp only [Result.andThen]
  rw [Oper.upon_value]
  go_wp2
  go_ret
  exact ⟨rfl, rfl⟩
set_option maxHeartbeats 400000 in
theorem strCompare_any (a b : ByteArray) (w : World) : Calls Try.prog 121 #[.string a, .string b] w fun e w' => e = .returned (.int .i64 (cmpB a b)) ∧ w = w' := by
  go_enter Try.func121, Try.ntmps121
  go_wp2_with fail
  refine (cmpString_any a b w).mono ?_
  rintro e w' ⟨rfl, rfl⟩
  go_wp2_with fail
  go_ret
  exact ⟨rfl, rfl⟩

theorem cmpI_ne {a b : Int} (h : a ≠ b) : cmpI a b ≠ 0 := fun e => h ((cmpI_is.zero a b).1 e)
theorem cmpV_k {a b : V} (h : a.k ≠ b.k) : cmpV a b = cmpI a.k b.k := by unfold cmpV; rw [if_pos (cmpI_ne h)]
theorem cmpV_i {a b : V} (h0 : a.k = b.k) (h : a.i ≠ b.i) : cmpV a b = cmpI a.i b.i := by unfold cmpV; rw [if_neg (by simp [h0, cmpI_is.self]), if_pos (cmpI_ne h)]
theorem cmpV_t {a b : V} (h0 : a.k = b.k) (h : a.i = b.i) : cmpV a b = cmpB a.t b.t := by unfold cmpV; rw [if_neg (by simp [h0, cmpI_is.self]), if_neg (by simp [h, cmpI_is.self])]
theorem bytes_ne {s t : ByteArray} (h : s ≠ t) : (s.toList == t.toList) = false := by
  rw [beq_eq_false_iff_ne]
  intro e
  apply h
  have h1 : s.data.toList = t.data.toList := by simpa [ByteArray.toList_eq] using e
  cases s; cases t
  simpa using h1

set_option maxHeartbeats 400000 in
theorem compare_any (a b : V) (w : World) : Calls Try.prog 100 #[vAgg a, vAgg b] w (IntBel (cmpV a b) w) := by
  have hk := @cmpV_k a b
  have hi := @cmpV_i a b
  have ht := @cmpV_t a b
  obtain ⟨ak, ai, at_⟩ := a
  obtain ⟨bk, bi, bt⟩ := b
  dsimp only at hk hi ht
  generalize hcv : cmpV ⟨ak, ai, at_⟩ ⟨bk, bi, bt⟩ = cv at hk hi ht
  have HB := Lib.hid (((Below.refl w.heap.size w).alloc (Nat.le_refl _) (.cells #[.int .i64 ak, .int .i64 ai, .string at_] 51)).alloc (by simp) (.cells #[.int .i64 bk, .int .i64 bi, .string bt] 51))
  by_cases h1 : ak = bk
  · subst h1
    by_cases h2 : ai = bi
    · subst h2
      have HF := Lib.hid (ht rfl rfl)
      by_cases h3 : at_ = bt
      · subst h3
        clear hk hi ht hcv
        have HZ := Lib.hid (cmpB_is.self at_)
        go_enter Try.func100, Try.ntmps100
        go_wp2_with fail
        go_ret
        exact ⟨by rw [HF.out, HZ.out]; rfl, HB.out⟩
      · have hd := bytes_ne h3
        clear hk hi ht hcv h3
        have HZ := Lib.hid (cmpI_is.self ak)
        have HZ2 := Lib.hid (cmpI_is.self ai)
        go_enter Try.func100, Try.ntmps100
        go_wp2_with fail
        refine (cmpInt_any ak ak _).mono ?_
        rintro e w' ⟨rfl, rfl⟩
        rw [HZ.out]
        go_wp2_with fail
        refine (cmpInt64_any ai ai _).mono ?_
        rintro e w' ⟨rfl, rfl⟩
        rw [HZ2.out]
        go_wp2_with fail
        refine (strCompare_any at_ bt _).mono ?_
        rintro e w' ⟨rfl, rfl⟩
        go_wp2_with fail
        go_ret
        exact ⟨by rw [HF.out]; rfl, HB.out⟩
    · have HF := Lib.hid (hi rfl h2)
      have hd : (ai == bi) = false := beq_eq_false_iff_ne.2 h2
      have hne := cmpI_ne h2
      have HZ := Lib.hid (cmpI_is.self ak)
      clear hk hi ht hcv h2
      go_enter Try.func100, Try.ntmps100
      go_wp2_with fail
      refine (cmpInt_any ak ak _).mono ?_
      rintro e w' ⟨rfl, rfl⟩
      rw [HZ.out]
      go_wp2_with fail
      refine (cmpInt64_any ai bi _).mono ?_
      rintro e w' ⟨rfl, rfl⟩
      have hd2 : (cmpI ai bi != 0) = true := by simp [hne]
      generalize cmpI ai bi = c at hd2 hne HF
      go_wp2_with fail
      go_ret
      exact ⟨by rw [HF.out]; rfl, HB.out⟩
  · have HF := Lib.hid (hk h1)
    have hd : (ak == bk) = false := beq_eq_false_iff_ne.2 h1
    have hne := cmpI_ne h1
    clear hk hi ht hcv h1
    go_enter Try.func100, Try.ntmps100
    go_wp2_with fail
    refine (cmpInt_any ak bk _).mono ?_
    rintro e w' ⟨rfl, rfl⟩
    have hd2 : (cmpI ak bk != 0) = true := by simp [hne]
    generalize cmpI ak bk = c at hd2 hne HF
    go_wp2_with fail
    go_ret
    exact ⟨by rw [HF.out]; rfl, HB.out⟩
end Go.Proofs.Ytkpjjfhfbpfjpaa
