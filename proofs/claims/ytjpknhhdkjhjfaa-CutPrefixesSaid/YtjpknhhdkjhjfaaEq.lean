/- Contract of slices.Equal at ints; of paired and pair. -/
import Derived.Test.YtjpknhhdkjhjfaaMem
import Derived.Deep.QuietTactic
import Derived.BigQuiet
import Derived.RegionTactic
import Derived.Outline
namespace Go.Proofs.Ytjpknhhdkjhjfaa
open Go.RowKit
set_option linter.unusedVariables false

/-- Nothing but draws. -/
def Still (w w' : World) : Prop := ∃ k, w' = w.drewN k

theorem take_succ_eq (xs ys : List Int) (k : Nat) (hx : k < xs.length) (hy : k < ys.length) (h : xs.take k = ys.take k) (he : xs.getD k 0 = ys.getD k 0) : xs.take (k + 1) = ys.take (k + 1) := by
  rw [List.take_succ_eq_append_getElem hx, List.take_succ_eq_append_getElem hy, h]
  simp [List.getD, hx, hy] at he
  rw [he]

set_option maxHeartbeats 400000 in
theorem equal_any (A B : Option Addr) (ca cb : Nat) (xs ys : List Int) (S : Nat → Prop) (w : World) (ha : Ints w S A xs) (hb : Ints w S B ys) (hx : xs.length ≤ 9223372036854775807) (hy : ys.length ≤ 9223372036854775807) :
    Calls Try.prog 29 #[.slice A xs.length ca, .slice B ys.length cb] w fun e w' => e = .returned (.bool (decide (xs = ys))) ∧ ∃ k, w' = w.drewN k := by
  by_cases hl : xs.length = ys.length
  · have hd : ((xs.length : Int) != (ys.length : Int)) = false := by simp [hl]
    have HL := Lib.hid hl
    clear hl
    go_enter Try.func29, Try.ntmps29
    go_wp2
    go_loopw [13] (fun i wr => ∃ k n : Nat, k ≤ xs.length ∧ i = .int .i64 k ∧ xs.take k = ys.take k ∧ wr = w.drewN n) (fun i _ => xs.length - (intOf i).toNat)
    case atStart => exact ⟨0, 0, Nat.zero_le _, rfl, rfl, rfl⟩
    case round =>
      obtain ⟨k, n, hk, rfl, ht, rfl⟩ := hrel
      have HT := Lib.hid ht
      clear ht
      by_cases hlt : k < xs.length
      · have hlt' : k < ys.length := by have := HL.out; omega
        obtain ⟨b1, o1, rfl, _, hc1⟩ := ha.at_ hlt
        obtain ⟨b2, o2, rfl, _, hc2⟩ := hb.at_ hlt'
        have hcmp : xs.getD k 0 = ys.getD k 0 ∨ xs.getD k 0 ≠ ys.getD k 0 := by omega
        generalize hxk : xs.getD k 0 = x at hc1 hcmp
        generalize hyk : ys.getD k 0 = y at hc2 hcmp
        have HX := Lib.hid hxk
        have HY := Lib.hid hyk
        clear hxk hyk
        rcases hcmp with he | he
        · subst he
          go_wp2
          go_quiet (fail)
          go_wp2
          go_roundw
          case rel => exact ⟨k + 1, _, by omega, by go_num, take_succ_eq xs ys k hlt hlt' HT.out (by rw [HX.out, HY.out]), rfl⟩
          case measure => simp [intOf]; omega
        · have hd2 : (x != y) = true := by simp [he]
          go_wp2
          go_quiet (fail)
          go_wp2
          go_ret
          refine ⟨?_, _, World.drewN_drewN _ _ _⟩
          have : ¬ xs = ys := by rintro rfl; exact he (HX.out.symm.trans HY.out)
          simp [this]
      · go_wp2
        go_ret
        refine ⟨?_, _, rfl⟩
        have h1 := HT.out
        have h2 := HL.out
        rw [List.take_of_length_le (by omega), List.take_of_length_le (by omega)] at h1
        simp [h1]
  · have hd : ((xs.length : Int) != (ys.length : Int)) = true := by simp; omega
    go_enter Try.func29, Try.ntmps29
    go_wp2
    go_ret
    refine ⟨?_, 0, rfl⟩
    have : ¬ xs = ys := by rintro rfl; exact hl rfl
    simp [this]

/-- Two lists of one length with no number below 0. -/
def pairedB (xs ys : List Int) : Bool := decide (xs.length = ys.length) && xs.all (fun x => decide (0 ≤ x)) && ys.all (fun x => decide (0 ≤ x))

theorem all_take_succ (xs : List Int) (k : Nat) (hx : k < xs.length) (h : (xs.take k).all (fun x => decide (0 ≤ x)) = true) (he : 0 ≤ xs.getD k 0) : (xs.take (k + 1)).all (fun x => decide (0 ≤ x)) = true := by
  rw [List.take_succ_eq_append_getElem hx, List.all_append, h]
  simp [List.getD, hx] at he
  simp [he]
theorem all_false (xs : List Int) (k : Nat) (hx : k < xs.length) (he : xs.getD k 0 < 0) : xs.all (fun x => decide (0 ≤ x)) = false := by
  rw [List.all_eq_false]
  refine ⟨xs[k], List.getElem_mem _, ?_⟩
  simp [List.getD, hx] at he
  simp; omega

set_option maxHeartbeats 400000 in
theorem paired_any (A B : Option Addr) (ca cb : Nat) (xs ys : List Int) (S : Nat → Prop) (w : World) (ha : Ints w S A xs) (hb : Ints w S B ys) (hx : xs.length ≤ 9223372036854775807) (hy : ys.length ≤ 9223372036854775807) :
    Calls Try.prog 55 #[.slice A xs.length ca, .slice B ys.length cb] w fun e w' => e = .returned (.bool (pairedB xs ys)) ∧ w = w' := by
  by_cases hl : xs.length = ys.length
  · have hd : ((xs.length : Int) != (ys.length : Int)) = false := by simp [hl]
    have HL := Lib.hid hl
    clear hl
    go_enter Try.func55, Try.ntmps55
    go_wp2
    go_loop [13] (fun i => ∃ k : Nat, k ≤ xs.length ∧ i = .int .i64 k ∧ (xs.take k).all (fun x => decide (0 ≤ x)) = true ∧ (ys.take k).all (fun x => decide (0 ≤ x)) = true) (fun i => xs.length - (intOf i).toNat)
    case atStart => exact ⟨0, Nat.zero_le _, rfl, rfl, rfl⟩
    case round =>
      obtain ⟨k, hk, rfl, ht1, ht2⟩ := hrel
      have HT1 := Lib.hid ht1
      have HT2 := Lib.hid ht2
      clear ht1 ht2
      by_cases hlt : k < xs.length
      · have hlt' : k < ys.length := by have := HL.out; omega
        obtain ⟨b1, o1, rfl, _, hc1⟩ := ha.at_ hlt
        obtain ⟨b2, o2, rfl, _, hc2⟩ := hb.at_ hlt'
        generalize hxk : xs.getD k 0 = x at hc1
        generalize hyk : ys.getD k 0 = y at hc2
        have HX := Lib.hid hxk
        have HY := Lib.hid hyk
        clear hxk hyk
        by_cases hx0 : x < 0
        · have hd1 : decide (x < 0) = true := by simp [hx0]
          go_wp2
          go_ret
          refine ⟨?_, rfl⟩
          simp [pairedB, all_false xs k hlt (by rw [HX.out]; exact hx0)]
        · have hd1 : decide (x < 0) = false := by simp; omega
          by_cases hy0 : y < 0
          · have hd2 : decide (y < 0) = true := by simp [hy0]
            go_wp2
            go_ret
            refine ⟨?_, rfl⟩
            simp [pairedB, all_false ys k hlt' (by rw [HY.out]; exact hy0)]
          · have hd2 : decide (y < 0) = false := by simp; omega
            go_wp2
            go_round
            case rel => exact ⟨k + 1, by omega, by go_num, all_take_succ xs k hlt HT1.out (by rw [HX.out]; omega), all_take_succ ys k hlt' HT2.out (by rw [HY.out]; omega)⟩
            case measure => simp [intOf]; omega
      · go_wp2
        go_ret
        refine ⟨?_, rfl⟩
        have h1 := HT1.out
        have h3 := HT2.out
        have h2 := HL.out
        rw [List.take_of_length_le (by omega)] at h1 h3
        simp [pairedB, h1, h2, h3]
  · have hd : ((xs.length : Int) != (ys.length : Int)) = true := by simp; omega
    go_enter Try.func55, Try.ntmps55
    go_wp2
    go_ret
    refine ⟨?_, rfl⟩
    simp [pairedB, hl]
end Go.Proofs.Ytjpknhhdkjhjfaa
