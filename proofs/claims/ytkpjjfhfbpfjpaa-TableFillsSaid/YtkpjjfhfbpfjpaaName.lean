/- Contracts: isName, Name. -/
import Derived.Test.YtkpjjfhfbpfjpaaSet
import Derived.Lib.OthersKept
import Derived.Lib.DecodeN
import Derived.Laws.RangeString
import Derived.Laws.RangeAny
namespace Go.Proofs.Ytkpjjfhfbpfjpaa
open Go.RowKit
set_option linter.unusedVariables false

def byteAt (t : ByteArray) (i : Nat) : Nat := (t.get! i).toNat
def nameC (i c : Nat) : Bool := (decide (97 ≤ c) && decide (c ≤ 122)) || (decide (i ≠ 0) && (decide (c = 95) || (decide (48 ≤ c) && decide (c ≤ 57))))
def nameF (t : ByteArray) : Bool := decide (1 ≤ t.size) && decide (t.size ≤ 32) && (List.range t.size).all fun i => nameC i (byteAt t i)
theorem decode_low {t : ByteArray} {i : Nat} (h : i < t.size) (hb : byteAt t i < 128) : Utf8.decode t i = (byteAt t i, 1) := by
  rw [Lib.decode_at]
  show Lib.decodeN _ (byteAt t i) _ _ _ = _
  simp [Lib.decodeN, hb]
theorem decode_high {t : ByteArray} {i : Nat} (hb : 128 ≤ byteAt t i) : 128 ≤ (Utf8.decode t i).1 := by
  rw [Lib.decode_at]
  show 128 ≤ (Lib.decodeN _ (byteAt t i) _ _ _).1
  unfold Lib.decodeN
  repeat' split
  all_goals first | omega | (simp only; omega)
/-- What is known of the rune at a place. -/
theorem decode_name {t : ByteArray} {i : Nat} (h : i < t.size) : nameC i (byteAt t i) = nameC i (Utf8.decode t i).1 ∧ (nameC i (Utf8.decode t i).1 = true → (Utf8.decode t i).2 = 1) := by
  rcases Nat.lt_or_ge (byteAt t i) 128 with hb | hb
  · rw [decode_low h hb]
    exact ⟨rfl, fun _ => rfl⟩
  · have hc := decode_high hb
    have e1 : nameC i (byteAt t i) = false := by simp [nameC]; omega
    have e2 : nameC i (Utf8.decode t i).1 = false := by simp [nameC]; omega
    rw [e1, e2]
    exact ⟨rfl, fun h => by cases h⟩
theorem nameF_false {t : ByteArray} {i : Nat} (h : i < t.size) (hc : nameC i (byteAt t i) = false) : nameF t = false := by
  unfold nameF
  rw [Bool.and_eq_false_iff]
  right
  rw [List.all_eq_false]
  exact ⟨i, List.mem_range.2 h, by simp [hc]⟩
theorem nameF_true {t : ByteArray} (h1 : 1 ≤ t.size) (h2 : t.size ≤ 32) (hc : ∀ i, i < t.size → nameC i (byteAt t i) = true) : nameF t = true := by
  unfold nameF
  simp only [h1, h2, decide_true, Bool.true_and, List.all_eq_true]
  exact fun i hi => hc i (List.mem_range.1 hi)

set_option maxHeartbeats 1000000 in
theorem isName_any (s : ByteArray) (w : World) (hs : s.size ≤ 9223372036854775807) : Calls Try.prog 127 #[.string s] w (BoolBel (nameF s) w) := by
  by_cases h1 : s.size < 1
  · have HF := Lib.hid (show nameF s = false by simp [nameF]; omega)
    go_enter Try.func127, Try.ntmps127
    go_wp2_with fail
    go_ret
    exact ⟨by rw [HF.out]; rfl, Below.refl _ _⟩
  by_cases h2 : 32 < s.size
  · have HF := Lib.hid (show nameF s = false by simp [nameF]; omega)
    go_enter Try.func127, Try.ntmps127
    go_wp2_with fail
    go_ret
    exact ⟨by rw [HF.out]; rfl, Below.refl _ _⟩
  go_enter Try.func127, Try.ntmps127
  go_wp2_with fail
  go_loopw [] (fun wr => ∃ pos : Nat, pos ≤ s.size ∧ (∀ i, i < pos → nameC i (byteAt s i) = true) ∧ wr.heap[w.heap.size]? = some (.stringIter s pos) ∧ Below w.heap.size w wr) (fun wr => s.size - wr.iterPos w.heap.size)
  case atStart =>
    refine ⟨0, Nat.zero_le _, fun i hi => absurd hi (by omega), ?_, ?_⟩
    · have := World.iter_heap w s 0
      simpa using this
    · exact (Below.refl _ _).alloc (Nat.le_refl _) _
  case round =>
    obtain ⟨pos, hps, hall, hit, hbel⟩ := hrel
    have HA := Lib.hid hall
    have HI := Lib.hid hit
    have HB := Lib.hid hbel
    clear hall hbel
    by_cases hp : pos < s.size
    · have hnx : ∀ ty, (Instr.next (.pointer (some ⟨w.heap.size, 0, none⟩)) true ty).run Try.prog wr = _ := fun ty => Lib.run_next_any_at wr w.heap.size s pos ty hit hp
      have HN := Lib.hid (decode_name hp)
      have hcl := decode_le s pos
      obtain ⟨c, hc⟩ : ∃ c, (Utf8.decode s pos).1 = c := ⟨_, rfl⟩
      obtain ⟨d, hd⟩ : ∃ d, (Utf8.decode s pos).2 = d := ⟨_, rfl⟩
      rw [hc] at hcl HN
      rw [hd] at HN
      simp only [hc, hd] at hnx
      clear hc hd hit
      have HB2 := Lib.hid (Lib.below_iterAt HB.out (k := w.heap.size) (Nat.le_refl _) s (pos + d))
      have HI2 := Lib.hid (Lib.iterAt_heap wr w.heap.size s pos (pos + d) HI.out)
      have HM := Lib.hid (show d = 1 → s.size - (wr.iterAt w.heap.size s (pos + d)).iterPos w.heap.size < s.size - wr.iterPos w.heap.size by
        intro hd1
        simp only [World.iterPos, HI2.out, HI.out]
        omega)
      have HS := Lib.hid (show nameC pos c = true → ∃ p : Nat, p ≤ s.size ∧ (∀ i, i < p → nameC i (byteAt s i) = true) ∧ (wr.iterAt w.heap.size s (pos + d)).heap[w.heap.size]? = some (.stringIter s p) ∧ Below w.heap.size w (wr.iterAt w.heap.size s (pos + d)) by
        intro hc
        have hd1 := HN.out.2 hc
        refine ⟨pos + d, by omega, fun i hi => ?_, HI2.out, HB2.out⟩
        rcases Nat.lt_or_ge i pos with h | h
        · exact HA.out i h
        · have : i = pos := by omega
          subst this
          exact HN.out.1.trans hc)
      have HFF := Lib.hid (show nameC pos c = false → nameF s = false from fun hc => nameF_false hp (HN.out.1.trans hc))
      by_cases hl : 97 ≤ c ∧ c ≤ 122
      · have HC := Lib.hid (show nameC pos c = true by simp [nameC, hl])
        have hl1 := hl.1
        have hl2 := hl.2
        clear hl
        go_wp2_with fail
        go_roundw
        case rel => exact HS.out HC.out
        case measure => exact HM.out (HN.out.2 HC.out)
      · by_cases hl1 : c < 97
        · by_cases h0 : pos = 0
          · subst h0
            have HF := Lib.hid (HFF.out (by simp [nameC]; omega))
            have HB3 := Lib.hid (show Below w.heap.size w (wr.iterAt w.heap.size s d) by have := HB2.out; rwa [Nat.zero_add] at this)
            go_wp2_with fail
            go_ret
            exact ⟨by rw [HF.out]; rfl, HB3.out⟩
          · have e0 : ((pos : Int) == 0) = false := by simp; omega
            by_cases h95 : c = 95
            · subst h95
              have HC := Lib.hid (show nameC pos 95 = true by simp [nameC]; omega)
              go_wp2_with fail
              go_roundw
              case rel => exact HS.out HC.out
              case measure => exact HM.out (HN.out.2 HC.out)
            · have e95 : ((c : Int) != 95) = true := by simp; omega
              by_cases h48 : c < 48
              · have e48 : decide ((c : Int) < 48) = true := by simp; omega
                have HF := Lib.hid (HFF.out (by simp [nameC]; omega))
                go_wp2_with fail
                go_ret
                exact ⟨by rw [HF.out]; rfl, HB2.out⟩
              · have e48 : decide ((c : Int) < 48) = false := by simp; omega
                by_cases h57 : 57 < c
                · have e57 : decide ((57 : Int) < c) = true := by simp; omega
                  have HF := Lib.hid (HFF.out (by simp [nameC]; omega))
                  go_wp2_with fail
                  go_ret
                  exact ⟨by rw [HF.out]; rfl, HB2.out⟩
                · have e57 : decide ((57 : Int) < c) = false := by simp; omega
                  have HC := Lib.hid (show nameC pos c = true by simp [nameC]; omega)
                  go_wp2_with fail
                  go_roundw
                  case rel => exact HS.out HC.out
                  case measure => exact HM.out (HN.out.2 HC.out)
        · have hl2 : 122 < c := by omega
          have e97 : decide ((97 : Int) ≤ c) = true := by simp; omega
          have e122 : decide ((c : Int) ≤ 122) = false := by simp; omega
          by_cases h0 : pos = 0
          · subst h0
            have HF := Lib.hid (HFF.out (by simp [nameC]; omega))
            have HB3 := Lib.hid (show Below w.heap.size w (wr.iterAt w.heap.size s d) by have := HB2.out; rwa [Nat.zero_add] at this)
            go_wp2_with fail
            go_ret
            exact ⟨by rw [HF.out]; rfl, HB3.out⟩
          · have e0 : ((pos : Int) == 0) = false := by simp; omega
            have e95 : ((c : Int) != 95) = true := by simp; omega
            have e48 : decide ((c : Int) < 48) = false := by simp; omega
            have e57 : decide ((57 : Int) < c) = true := by simp; omega
            have HF := Lib.hid (HFF.out (by simp [nameC]; omega))
            go_wp2_with fail
            go_ret
            exact ⟨by rw [HF.out]; rfl, HB2.out⟩
    · have HF := Lib.hid (show nameF s = true from nameF_true (by omega) (by omega) (fun i hi => HA.out i (by omega)))
      have hnx : ∀ ty, (Instr.next (.pointer (some ⟨w.heap.size, 0, none⟩)) true ty).run Try.prog wr = _ := fun ty => Lib.run_next_end_at wr w.heap.size s pos ty hit hp
      go_wp2_with fail
      go_ret
      exact ⟨by rw [HF.out]; rfl, HB.out⟩
end Go.Proofs.Ytkpjjfhfbpfjpaa
