/- Contracts of pair and of Compare, the program's and the reference's. -/
import Derived.Test.YtjpknhhdkjhjfaaEq
namespace Go.Proofs.Ytjpknhhdkjhjfaa
open Go.RowKit
set_option linter.unusedVariables false

def pairE (xs ys : List Int) : Int := if pairedB xs ys then 0 else 1
def lessB (xs ys : List Int) (k : Nat) : Bool := (List.range k).any fun j => decide (xs.getD j 0 < ys.getD j 0)
def cmpN (l g : Bool) : Int := match l, g with
  | true, true => 3
  | true, false => 1
  | false, true => 2
  | false, false => 0
def cmpC (xs ys : List Int) : Int := if pairedB xs ys then cmpN (lessB xs ys xs.length) (lessB ys xs xs.length) else 0

theorem lessB_zero (xs ys : List Int) : lessB xs ys 0 = false := rfl
theorem lessB_succ (xs ys : List Int) (k : Nat) : lessB xs ys (k + 1) = (lessB xs ys k || decide (xs.getD k 0 < ys.getD k 0)) := by
  simp [lessB, List.range_succ]
theorem pairE_01 (xs ys : List Int) : pairE xs ys = 0 ∨ pairE xs ys = 1 := by unfold pairE; split <;> simp
theorem len_of_paired {xs ys : List Int} (h : pairedB xs ys = true) : xs.length = ys.length := by
  simp [pairedB] at h; exact h.1.1
set_option maxHeartbeats 400000 in
theorem pair_any (A B : Option Addr) (ca cb : Nat) (xs ys : List Int) (S : Nat → Prop) (w : World) (ha : Ints w S A xs) (hb : Ints w S B ys) (hx : xs.length ≤ 9223372036854775807) (hy : ys.length ≤ 9223372036854775807) :
    Calls Try.prog 56 #[.slice A xs.length ca, .slice B ys.length cb] w fun e w' => e = .returned (.int .i64 (pairE xs ys)) ∧ w = w' := by
  by_cases hl : xs.length = ys.length
  · have hd : ((xs.length : Int) != (ys.length : Int)) = false := by simp [hl]
    have HL := Lib.hid hl
    clear hl
    go_enter Try.func56, Try.ntmps56
    go_wp2
    go_loop [13] (fun i => ∃ k : Nat, k ≤ xs.length ∧ i = .int .i64 k ∧ (xs.take k).all (fun x => decide (0 ≤ x)) = true ∧ (ys.take k).all (fun x => decide (0 ≤ x)) = true) (fun i => xs.length - (intOf i).toNat)
    case atStart => exact ⟨0, Nat.zero_le _, rfl, rfl, rfl⟩
    case round =>
      obtain ⟨k, hk, rfl, ht1, ht2⟩ := hrel
      have HT1 := Lib.hid ht1
      have HT2 := Lib.hid ht2
      clear ht1 ht2
      by_cases hlt : k < xs.length
      · have hlt' : k < ys.length := by have := HL.out; omega
        obtain ⟨b1, o1, rfl, _, hc1⟩ := ha.at_ hlt
        obtain ⟨b2, o2, rfl, _, hc2⟩ := hb.at_ hlt'
        generalize hxk : xs.getD k 0 = x at hc1
        generalize hyk : ys.getD k 0 = y at hc2
        have HX := Lib.hid hxk
        have HY := Lib.hid hyk
        clear hxk hyk
        by_cases hx0 : x < 0
        · have hd1 : decide (x < 0) = true := by simp [hx0]
          go_wp2
          go_ret
          refine ⟨?_, rfl⟩
          simp [pairE, pairedB, all_false xs k hlt (by rw [HX.out]; exact hx0)]
        · have hd1 : decide (x < 0) = false := by simp; omega
          by_cases hy0 : y < 0
          · have hd2 : decide (y < 0) = true := by simp [hy0]
            go_wp2
            go_ret
            refine ⟨?_, rfl⟩
            simp [pairE, pairedB, all_false ys k hlt' (by rw [HY.out]; exact hy0)]
          · have hd2 : decide (y < 0) = false := by simp; omega
            go_wp2
            go_round
            case rel => exact ⟨k + 1, by omega, by go_num, all_take_succ xs k hlt HT1.out (by rw [HX.out]; omega), all_take_succ ys k hlt' HT2.out (by rw [HY.out]; omega)⟩
            case measure => simp [intOf]; omega
      · go_wp2
        go_ret
        refine ⟨?_, rfl⟩
        have h1 := HT1.out
        have h3 := HT2.out
        have h2 := HL.out
        rw [List.take_of_length_le (by omega)] at h1 h3
        simp [pairE, pairedB, h1, h2, h3]
  · have hd : ((xs.length : Int) != (ys.length : Int)) = true := by simp; omega
    go_enter Try.func56, Try.ntmps56
    go_wp2
    go_ret
    refine ⟨?_, rfl⟩
    simp [pairE, pairedB, hl]

set_option maxHeartbeats 800000 in
theorem compare_any (A B : Option Addr) (ca cb : Nat) (xs ys : List Int) (S : Nat → Prop) (w : World) (ha : Ints w S A xs) (hb : Ints w S B ys) (hx : xs.length ≤ 9223372036854775807) (hy : ys.length ≤ 9223372036854775807) :
    Calls Try.prog 36 #[.slice A xs.length ca, .slice B ys.length cb] w fun e w' => e = .returned (.tuple #[.int .i64 (cmpC xs ys), .int .i64 (pairE xs ys)]) ∧ ∃ k, w' = w.drewN k := by
  by_cases hp : pairedB xs ys = true
  · have HP := Lib.hid hp
    have HPE := Lib.hid (show pairE xs ys = 0 by simp [pairE, hp])
    have HL := Lib.hid (len_of_paired hp)
    clear hp
    go_enter Try.func36, Try.ntmps36
    go_wp2_with fail
    refine (paired_any A B ca cb xs ys S w ha hb hx hy).mono ?_
    rintro e w' ⟨rfl, rfl⟩
    have hp' : pairedB xs ys = true := HP.out
    go_wp2
    clear hp'
    go_loopw [6, 7, 15] (fun l g i wr => ∃ k n : Nat, k ≤ xs.length ∧ i = .int .i64 k ∧ l = .bool (lessB xs ys k) ∧ g = .bool (lessB ys xs k) ∧ wr = w.drewN n) (fun _ _ i _ => xs.length - (intOf i).toNat)
    case atStart => exact ⟨0, 0, Nat.zero_le _, rfl, rfl, rfl, rfl⟩
    case round =>
      obtain ⟨k, n, hk, rfl, rfl, rfl, rfl⟩ := hrel
      by_cases hlt : k < xs.length
      · have hlt' : k < ys.length := by have := HL.out; omega
        obtain ⟨b1, o1, rfl, _, hc1⟩ := ha.at_ hlt
        obtain ⟨b2, o2, rfl, _, hc2⟩ := hb.at_ hlt'
        have HS1 := Lib.hid (lessB_succ xs ys k)
        have HS2 := Lib.hid (lessB_succ ys xs k)
        generalize xs.getD k 0 = x at hc1 HS1 HS2
        generalize ys.getD k 0 = y at hc2 HS1 HS2
        generalize lessB xs ys k = l at HS1 ⊢
        generalize lessB ys xs k = g at HS2 ⊢
        cases l <;> cases g
        all_goals
          go_wp2
          go_quiet (fail)
          go_wp2
          go_quiet (fail)
          go_wp2
          go_roundw
          case rel => exact ⟨k + 1, _, by omega, by go_num, by rw [HS1.out]; simp, by rw [HS2.out]; simp, rfl⟩
          case measure => simp [intOf]; omega
      · have HK := Lib.hid (show k = xs.length by omega)
        have HF := Lib.hid (show cmpC xs ys = cmpN (lessB xs ys k) (lessB ys xs k) by rw [cmpC, if_pos HP.out, HK.out])
        generalize lessB xs ys k = l at HF ⊢
        generalize lessB ys xs k = g at HF ⊢
        cases l <;> cases g
        all_goals
          go_wp2
          go_ret2
          refine ⟨?_, _, rfl⟩
          rw [HF.out, HPE.out]
          rfl
  · have HP := Lib.hid hp
    have HPE := Lib.hid (show pairE xs ys = 1 by simp [pairE, hp])
    have HC := Lib.hid (show cmpC xs ys = 0 by simp [cmpC, hp])
    have hp' : pairedB xs ys = false := by simpa using hp
    have HPF := Lib.hid hp'
    clear hp hp'
    go_enter Try.func36, Try.ntmps36
    go_wp2_with fail
    refine (paired_any A B ca cb xs ys S w ha hb hx hy).mono ?_
    rintro e w' ⟨rfl, rfl⟩
    have hp' : pairedB xs ys = false := HPF.out
    go_wp2
    go_ret2
    refine ⟨?_, 0, rfl⟩
    rw [HC.out, HPE.out]
    rfl

set_option maxHeartbeats 800000 in
theorem rcompare_any (A B : Option Addr) (ca cb : Nat) (xs ys : List Int) (S : Nat → Prop) (w : World) (ha : Ints w S A xs) (hb : Ints w S B ys) (hx : xs.length ≤ 9223372036854775807) (hy : ys.length ≤ 9223372036854775807) :
    Calls Try.prog 37 #[.slice A xs.length ca, .slice B ys.length cb] w fun e w' => e = .returned (.tuple #[.int .i64 (cmpC xs ys), .int .i64 (pairE xs ys)]) ∧ ∃ k, w' = w.drewN k := by
  by_cases hp : pairedB xs ys = true
  · have HP := Lib.hid hp
    have HPE := Lib.hid (show pairE xs ys = 0 by simp [pairE, hp])
    have HL := Lib.hid (len_of_paired hp)
    clear hp
    go_enter Try.func37, Try.ntmps37
    go_wp2_with fail
    refine (pair_any A B ca cb xs ys S w ha hb hx hy).mono ?_
    rintro e w' ⟨rfl, rfl⟩
    rw [HPE.out]
    skip
    go_wp2
    skip
    go_loopw [7, 8, 18] (fun l g i wr => ∃ k n : Nat, k ≤ xs.length ∧ i = .int .i64 k ∧ l = .bool (lessB xs ys k) ∧ g = .bool (lessB ys xs k) ∧ wr = w.drewN n) (fun _ _ i _ => xs.length - (intOf i).toNat)
    case atStart => exact ⟨0, 0, Nat.zero_le _, rfl, rfl, rfl, rfl⟩
    case round =>
      obtain ⟨k, n, hk, rfl, rfl, rfl, rfl⟩ := hrel
      by_cases hlt : k < xs.length
      · have hlt' : k < ys.length := by have := HL.out; omega
        obtain ⟨b1, o1, rfl, _, hc1⟩ := ha.at_ hlt
        obtain ⟨b2, o2, rfl, _, hc2⟩ := hb.at_ hlt'
        have HS1 := Lib.hid (lessB_succ xs ys k)
        have HS2 := Lib.hid (lessB_succ ys xs k)
        generalize xs.getD k 0 = x at hc1 HS1 HS2
        generalize ys.getD k 0 = y at hc2 HS1 HS2
        generalize lessB xs ys k = l at HS1 ⊢
        generalize lessB ys xs k = g at HS2 ⊢
        cases l <;> cases g
        all_goals
          go_wp2
          go_quiet (fail)
          go_wp2
          go_quiet (fail)
          go_wp2
          go_roundw
          case rel => exact ⟨k + 1, _, by omega, by go_num, by rw [HS1.out]; simp, by rw [HS2.out]; simp, rfl⟩
          case measure => simp [intOf]; omega
      · have HK := Lib.hid (show k = xs.length by omega)
        have HF := Lib.hid (show cmpC xs ys = cmpN (lessB xs ys k) (lessB ys xs k) by rw [cmpC, if_pos HP.out, HK.out])
        generalize lessB xs ys k = l at HF ⊢
        generalize lessB ys xs k = g at HF ⊢
        cases l <;> cases g
        all_goals
          go_wp2
          go_ret2
          refine ⟨?_, _, rfl⟩
          rw [HF.out, HPE.out]
          rfl
  · have HP := Lib.hid hp
    have HPE := Lib.hid (show pairE xs ys = 1 by simp [pairE, hp])
    have HC := Lib.hid (show cmpC xs ys = 0 by simp [cmpC, hp])
    have hp' : pairedB xs ys = false := by simpa using hp
    have HPF := Lib.hid hp'
    clear hp hp'
    go_enter Try.func37, Try.ntmps37
    go_wp2_with fail
    refine (pair_any A B ca cb xs ys S w ha hb hx hy).mono ?_
    rintro e w' ⟨rfl, rfl⟩
    rw [HPE.out]
    skip
    go_wp2
    go_ret2
    refine ⟨?_, 0, rfl⟩
    rw [HC.out, HPE.out]
    rfl
end Go.Proofs.Ytjpknhhdkjhjfaa
