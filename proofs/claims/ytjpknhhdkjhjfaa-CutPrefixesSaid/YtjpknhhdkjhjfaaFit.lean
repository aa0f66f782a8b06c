/- Contracts of slices.Index, slices.Contains, shardsFit, fits, Same. -/
import Derived.Test.YtjpknhhdkjhjfaaEq
import Derived.Test.YtjpknhhdkjhjfaaPlain
namespace Go.Proofs.Ytjpknhhdkjhjfaa
open Go.RowKit
set_option linter.unusedVariables false

def IndexPost (l : List Int) (x : Int) (w : World) (e : Ending) (w' : World) : Prop := ∃ r : Int, e = .returned (.int .i64 r) ∧ (0 ≤ r ↔ x ∈ l) ∧ w = w'

theorem mem_getD {l : List Int} {k : Nat} (hk : k < l.length) : l.getD k 0 ∈ l := by simp [List.getD, hk]
theorem notin_step {l : List Int} {k : Nat} {x : Int} (hk : k < l.length) (h : x ∉ l.take k) (he : l.getD k 0 ≠ x) : x ∉ l.take (k + 1) := by
  rw [take_snoc l k hk, List.mem_append]
  simp [List.getD, hk] at he
  rintro (h' | h')
  · exact h h'
  · exact he (List.mem_singleton.1 h').symm

set_option maxHeartbeats 400000 in
theorem index_any (A : Option Addr) (ca : Nat) (l : List Int) (x : Int) (S : Nat → Prop) (w : World) (ha : Ints w S A l) (hx : l.length ≤ 9223372036854775807) :
    Calls Try.prog 59 #[.slice A l.length ca, .int .i64 x] w (IndexPost l x w) := by
  go_enter Try.func59, Try.ntmps59
  go_wp2
  go_loop [8] (fun i => ∃ k : Nat, k ≤ l.length ∧ i = .int .i64 k ∧ x ∉ l.take k) (fun i => l.length - (intOf i).toNat)
  case atStart => exact ⟨0, Nat.zero_le _, rfl, by simp⟩
  case round =>
    obtain ⟨k, hk, rfl, ht⟩ := hrel
    have HT := Lib.hid ht
    clear ht
    by_cases hlt : k < l.length
    · obtain ⟨b1, o1, rfl, _, hc1⟩ := ha.at_ hlt
      have HM := Lib.hid (mem_getD hlt)
      generalize hy : l.getD k 0 = y at hc1 HM
      have HY := Lib.hid hy
      clear hy
      by_cases he : x = y
      · subst he
        have hd : (x == x) = true := by simp
        go_wp2
        go_ret
        exact ⟨k, rfl, by constructor <;> intro _ <;> first | exact HM.out | omega, rfl⟩
      · have hd : (x == y) = false := by simp [he]
        go_wp2
        go_round
        case rel => exact ⟨k + 1, by omega, by go_num, notin_step hlt HT.out (by rw [HY.out]; exact fun e => he e.symm)⟩
        case measure => simp [intOf]; omega
    · have HN := Lib.hid (show x ∉ l by have := HT.out; rwa [List.take_of_length_le (by omega)] at this)
      go_wp2
      go_ret
      exact ⟨-1, rfl, by constructor <;> intro h <;> first | exact absurd h HN.out | omega, rfl⟩

theorem contains_any (A : Option Addr) (ca : Nat) (l : List Int) (x : Int) (S : Nat → Prop) (w : World) (ha : Ints w S A l) (hx : l.length ≤ 9223372036854775807) :
    Calls Try.prog 57 #[.slice A l.length ca, .int .i64 x] w fun e w' => e = .returned (.bool (decide (x ∈ l))) ∧ w = w' := by
  go_enter Try.func57, Try.ntmps57
  go_wp2_with fail
  refine (index_any A ca l x S w ha hx).mono ?_
  rintro e w' ⟨r, rfl, hr, rfl⟩
  have HR := Lib.hid hr
  clear hr
  go_wp2
  go_ret
  refine ⟨?_, rfl⟩
  have := HR.out
  show Ending.returned (.bool (decide (0 ≤ r))) = _
  by_cases h : x ∈ l
  · simp [h, this.2 h]
  · have h0 : ¬ 0 ≤ r := fun hh => h (this.1 hh)
    simp [h, h0]

def FitRel (l : List Int) (m : Int) (k : Nat) (v : Int) : Prop := (l.take k).Pairwise (· < ·) ∧ (∀ y ∈ l.take k, 0 ≤ y ∧ y < m) ∧ LastOf (-1) (l.take k) v

set_option maxHeartbeats 400000 in
theorem shardsFit_any (A : Option Addr) (ca : Nat) (l : List Int) (own m : Int) (S : Nat → Prop) (w : World) (ha : Ints w S A l) (hx : l.length ≤ 9223372036854775807) :
    Calls Try.prog 40 #[.slice A l.length ca, .int .i64 own, .int .i64 m] w fun e w' => e = .returned (.bool (fitsB m own l)) ∧ w = w' := by
  go_enter Try.func40, Try.ntmps40
  go_wp2
  go_loop [7, 12] (fun t i => ∃ (k : Nat) (v : Int), k ≤ l.length ∧ i = .int .i64 k ∧ t = .int .i64 v ∧ FitRel l m k v) (fun _ i => l.length - (intOf i).toNat)
  case atStart => exact ⟨0, -1, Nat.zero_le _, rfl, rfl, by simp, by simp, by simpa using lastOf_nil (-1)⟩
  case round =>
    obtain ⟨k, v, hk, rfl, rfl, ht⟩ := hrel
    by_cases hlt : k < l.length
    · obtain ⟨b1, o1, rfl, _, hc1⟩ := ha.at_ hlt
      generalize hy : l.getD k 0 = y at hc1
      have HY := Lib.hid hy
      clear hy
      by_cases h1 : y ≤ v
      · have hd : decide (y ≤ v) = true := by simp [h1]
        go_wp2
        go_ret
        exact ⟨by rw [fits_fail hlt HY.out ht.2.2 (.inl h1)]; rfl, rfl⟩
      · have hd : decide (y ≤ v) = false := by simpa using h1
        by_cases h2 : m ≤ y
        · have hd2 : decide (m ≤ y) = true := by simp [h2]
          go_wp2
          go_ret
          exact ⟨by rw [fits_fail hlt HY.out ht.2.2 (.inr h2)]; rfl, rfl⟩
        · have hd2 : decide (m ≤ y) = false := by simpa using h2
          go_wp2
          go_round
          case rel => exact ⟨k + 1, y, by omega, by go_num, rfl, fits_step hlt HY.out ht.1 ht.2.1 ht.2.2 (by omega) (by omega)⟩
          case measure => simp [intOf]; omega
    · have HF := Lib.hid (fits_end (i := own) (by omega) ht.1 ht.2.1)
      go_wp2_with fail
      refine (contains_any A ca l own S w ha hx).mono ?_
      rintro e w' ⟨rfl, rfl⟩
      go_wp2
      go_ret
      exact ⟨by rw [HF.out]; rfl, rfl⟩

theorem fitRel_last {l : List Int} {m : Int} {k : Nat} (hk : k ≤ l.length) (h1 : (l.take k).Pairwise (· < ·)) (h2 : ∀ y ∈ l.take k, 0 ≤ y ∧ y < m) : LastOf (-1) (l.take k) (if k = 0 then -1 else l.getD (k - 1) 0) := by
  rcases Nat.eq_zero_or_pos k with rfl | h
  · simpa using lastOf_nil (-1)
  · obtain ⟨j, rfl⟩ : ∃ j, k = j + 1 := ⟨k - 1, by omega⟩
    rw [if_neg (by omega), Nat.add_sub_cancel]
    rw [take_snoc l j (by omega)] at h1 h2 ⊢
    have e : l.getD j 0 = l[j] := by simp [List.getD, show j < l.length by omega]
    rw [e]
    rw [List.pairwise_append] at h1
    refine ⟨fun x hx => ?_, ?_, .inr (List.mem_append.2 (.inr (List.mem_singleton.2 rfl)))⟩
    · rcases List.mem_append.1 hx with h | h
      · have := h1.2.2 x h l[j] (by simp); omega
      · have : x = l[j] := by simpa using h
        omega
    · have := h2 l[j] (List.mem_append.2 (.inr (List.mem_singleton.2 rfl))); omega

theorem mem_take_succ {l : List Int} {k : Nat} {x y : Int} (hk : k < l.length) (hy : l.getD k 0 = y) : decide (x ∈ l.take (k + 1)) = (decide (x ∈ l.take k) || (y == x)) := by
  have e : l[k] = y := by simpa [List.getD, hk] using hy
  rw [take_snoc l k hk, e, Bool.eq_iff_iff, Bool.or_eq_true, decide_eq_true_iff, decide_eq_true_iff, List.mem_append, List.mem_singleton, beq_iff_eq]
  constructor <;> rintro (h | h) <;> simp [h]

set_option maxHeartbeats 800000 in
theorem fits_any (A : Option Addr) (ca : Nat) (l : List Int) (own m : Int) (S : Nat → Prop) (w : World) (ha : Ints w S A l) (hx : l.length ≤ 9223372036854775807) :
    Calls Try.prog 41 #[.slice A l.length ca, .int .i64 m, .int .i64 own] w fun e w' => e = .returned (.bool (fitsB m own l)) ∧ w = w' := by
  go_enter Try.func41, Try.ntmps41
  go_wp2
  go_loop [7, 12] (fun t i => ∃ (k : Nat), k ≤ l.length ∧ i = .int .i64 k ∧ t = .bool (decide (own ∈ l.take k)) ∧ (l.take k).Pairwise (· < ·) ∧ (∀ y ∈ l.take k, 0 ≤ y ∧ y < m)) (fun _ i => l.length - (intOf i).toNat)
  case atStart => exact ⟨0, Nat.zero_le _, rfl, by simp, by simp, by simp⟩
  case round =>
    obtain ⟨k, hk, rfl, rfl, ht1, ht2⟩ := hrel
    have HL := Lib.hid (fitRel_last hk ht1 ht2)
    have HT1 := Lib.hid ht1
    have HT2 := Lib.hid ht2
    clear ht1 ht2
    by_cases hlt : k < l.length
    · obtain ⟨b1, o1, rfl, _, hc1⟩ := ha.at_ hlt
      have HMS := Lib.hid (fun y hy => mem_take_succ (x := own) (y := y) hlt hy)
      have hpv : 0 < k → w.cell? ⟨b1, o1 + (k - 1), none⟩ = some (.int .i64 (l.getD (k - 1) 0)) := fun h => by
        obtain ⟨b2, o2, e2, _, hc2⟩ := ha.at_ (show k - 1 < l.length by omega)
        injection e2 with e2
        injection e2 with e3 e4
        subst e3 e4
        exact hc2
      generalize hy : l.getD k 0 = y at hc1
      have HY := Lib.hid hy
      clear hy
      generalize decide (own ∈ l.take k) = found at HMS ⊢
      by_cases h1 : y < 0
      · have hd : decide (y < 0) = true := by simp [h1]
        clear hpv
        go_wp2
        go_ret
        exact ⟨by rw [fits_fail hlt HY.out HL.out (.inl (by have := HL.out.2.1; omega))]; rfl, rfl⟩
      · have hd : decide (y < 0) = false := by simpa using h1
        by_cases h2 : m ≤ y
        · have hd2 : decide (m ≤ y) = true := by simp [h2]
          clear hpv
          go_wp2
          go_ret
          exact ⟨by rw [fits_fail hlt HY.out HL.out (.inr h2)]; rfl, rfl⟩
        · have hd2 : decide (m ≤ y) = false := by simpa using h2
          rcases Nat.eq_zero_or_pos k with rfl | hpos
          · clear hpv
            simp only [Nat.add_zero] at hc1
            cases found
            all_goals
              go_wp2
              go_round
              case rel => exact ⟨1, by omega, by go_num, by rw [HMS.out y HY.out]; simp, (fits_step hlt HY.out HT1.out HT2.out HL.out (by simp; omega) (by omega)).1, (fits_step hlt HY.out HT1.out HT2.out HL.out (by simp; omega) (by omega)).2.1⟩
              case measure => simp [intOf]; omega
          · have hp := hpv hpos
            clear hpv
            have HL2 := Lib.hid (show LastOf (-1) (l.take k) (l.getD (k - 1) 0) by have := HL.out; rwa [if_neg (by omega)] at this)
            clear HL
            generalize l.getD (k - 1) 0 = v at hp HL2
            have hk1 : 1 ≤ (k : Int) := by omega
            have hkd : decide (0 < k) = true := by simpa using hpos
            by_cases h3 : y ≤ v
            · have hd3 : decide (y ≤ v) = true := by simp [h3]
              go_wp2
              go_ret
              exact ⟨by rw [fits_fail hlt HY.out HL2.out (.inl h3)]; rfl, rfl⟩
            · have hd3 : decide (y ≤ v) = false := by simpa using h3
              cases found
              all_goals
                go_wp2
                go_round
                case rel => exact ⟨k + 1, by omega, by go_num, by rw [HMS.out y HY.out]; simp, (fits_step hlt HY.out HT1.out HT2.out HL2.out (by omega) (by omega)).1, (fits_step hlt HY.out HT1.out HT2.out HL2.out (by omega) (by omega)).2.1⟩
                case measure => simp [intOf]; omega
    · have HF := Lib.hid (fits_end (i := own) (by omega) HT1.out HT2.out)
      have HK := Lib.hid (show l.take k = l from List.take_of_length_le (by omega))
      clear HT1 HT2 HL
      rw [HK.out]
      go_wp2
      go_ret
      exact ⟨by rw [HF.out]; rfl, rfl⟩

set_option maxHeartbeats 400000 in
theorem same_any (A B : Option Addr) (ca cb : Nat) (xs ys : List Int) (S : Nat → Prop) (w : World) (ha : Ints w S A xs) (hb : Ints w S B ys) (hx : xs.length ≤ 9223372036854775807) (hy : ys.length ≤ 9223372036854775807) :
    Calls Try.prog 43 #[.slice A xs.length ca, .slice B ys.length cb] w fun e w' => e = .returned (.bool (decide (xs = ys))) ∧ ∃ k, w' = w.drewN k := by
  by_cases hl : xs.length = ys.length
  · have hd : ((xs.length : Int) != (ys.length : Int)) = false := by simp [hl]
    have HL := Lib.hid hl
    clear hl
    go_enter Try.func43, Try.ntmps43
    go_wp2
    go_loopw [13] (fun i wr => ∃ k n : Nat, k ≤ xs.length ∧ i = .int .i64 k ∧ xs.take k = ys.take k ∧ wr = w.drewN n) (fun i _ => xs.length - (intOf i).toNat)
    case atStart => exact ⟨0, 0, Nat.zero_le _, rfl, rfl, rfl⟩
    case round =>
      obtain ⟨k, n, hk, rfl, ht, rfl⟩ := hrel
      have HT := Lib.hid ht
      clear ht
      by_cases hlt : k < xs.length
      · have hlt' : k < ys.length := by have := HL.out; omega
        obtain ⟨b1, o1, rfl, _, hc1⟩ := ha.at_ hlt
        obtain ⟨b2, o2, rfl, _, hc2⟩ := hb.at_ hlt'
        have hcmp : xs.getD k 0 = ys.getD k 0 ∨ xs.getD k 0 ≠ ys.getD k 0 := by omega
        generalize hxk : xs.getD k 0 = x at hc1 hcmp
        generalize hyk : ys.getD k 0 = y at hc2 hcmp
        have HX := Lib.hid hxk
        have HY := Lib.hid hyk
        clear hxk hyk
        rcases hcmp with he | he
        · subst he
          go_wp2
          go_quiet (fail)
          go_wp2
          go_roundw
          case rel => exact ⟨k + 1, _, by omega, by go_num, take_succ_eq xs ys k hlt hlt' HT.out (by rw [HX.out, HY.out]), rfl⟩
          case measure => simp [intOf]; omega
        · have hd2 : (x != y) = true := by simp [he]
          go_wp2
          go_quiet (fail)
          go_wp2
          go_ret
          refine ⟨?_, _, World.drewN_drewN _ _ _⟩
          have : ¬ xs = ys := by rintro rfl; exact he (HX.out.symm.trans HY.out)
          simp [this]
      · go_wp2
        go_ret
        refine ⟨?_, _, rfl⟩
        have h1 := HT.out
        have h2 := HL.out
        rw [List.take_of_length_le (by omega), List.take_of_length_le (by omega)] at h1
        simp [h1]
  · have hd : ((xs.length : Int) != (ys.length : Int)) = true := by simp; omega
    go_enter Try.func43, Try.ntmps43
    go_wp2
    go_ret
    refine ⟨?_, 0, rfl⟩
    have : ¬ xs = ys := by rintro rfl; exact hl rfl
    simp [this]

end Go.Proofs.Ytjpknhhdkjhjfaa
