/- Contracts of Join and Meet, the program's and the reference's. -/
import Derived.Test.YtjpknhhdkjhjfaaCmp
import Derived.Laws.MakeOwn
namespace Go.Proofs.Ytjpknhhdkjhjfaa
open Go.RowKit
set_option linter.unusedVariables false

/-- The cells of a row of ints. -/
def intCells (l : List Int) : Array Value := (l.map (Value.int .i64)).toArray
theorem size_intCells (l : List Int) : (intCells l).size = l.length := by simp [intCells]
theorem intCells_get (l : List Int) (k : Nat) (h : k < l.length) : (intCells l)[k]? = some (.int .i64 (l.getD k 0)) := by
  simp [intCells, h]
theorem intCells_set (l : List Int) (k : Nat) (x : Int) : (intCells l).setIfInBounds k (.int .i64 x) = intCells (l.set k x) := by
  simp [intCells]
theorem made_ints (n : Nat) : madeCells (Value.int .i64 0).cells (n * 1) = intCells (List.replicate n 0) := by
  apply Array.ext
  · simp [size_madeCells, intCells]
  · intro i h1 h2
    simp [madeCells, intCells, Value.cells, Nat.mod_one]

theorem info3 : (Try.prog.info? 3).map (fun i => (i.zero, i.size, i.bytes)) = some (some (.int .i64 0), 1, 8) := by kernel_rfl
theorem run_make_ints (n : Nat) (hn : n ≤ 35184372088832) (w : World) :
    (Instr.makeSlice 34 (.int .i64 (n : Int)) (.int .i64 (n : Int))).run Try.prog w = .ok (.slice (some ⟨w.heap.size, 0, none⟩) n n) (w.alloc (.cells (intCells (List.replicate n 0)) 3)) := by
  obtain ⟨i0, hi, hz0, hz1, hz2⟩ := info_parts info3
  have hr := run_make (P := Try.prog) w 34 3 i0 _ Try.underlying34 hi hz0 .i64 .i64 n n (by omega) (by omega) (by rw [hz2]; omega) (by omega)
  rw [hr, hz1]
  simp only [Int.toNat_natCast, made_ints]

/-- A block that is a row of ints, not frozen. -/
def Row (w : World) (g : Nat) (l : List Int) : Prop := w.heap[g]? = some (.cells (intCells l) 3 (0, 0))
section
variable {w w' : World} {g : Nat} {l : List Int}
theorem Row.lt (h : Row w g l) : g < w.heap.size := by
  rcases Nat.lt_or_ge g w.heap.size with hlt | hge
  · exact hlt
  · unfold Row at h; rw [Array.getElem?_eq_none hge] at h; cases h
theorem Row.cell (h : Row w g l) {k : Nat} (hk : k < l.length) : w.cell? ⟨g, k, none⟩ = some (.int .i64 (l.getD k 0)) := by
  unfold Row at h
  simp only [World.cell?, h]
  exact intCells_get l k hk
theorem Row.frozen (h : Row w g l) (k : Nat) : w.frozen? ⟨g, k, none⟩ = false := by
  unfold Row at h
  simp [World.frozen?, h]
theorem Row.set_ (h : Row w g l) (k : Nat) (x : Int) : Row (w.setCell ⟨g, k, none⟩ (.int .i64 x)) g (l.set k x) := by
  unfold Row at h ⊢
  simp [World.setCell, Array.getElem?_modify, h, intCells_set]
theorem Row.keep (h : Row w g l) (hk : w'.heap[g]? = w.heap[g]?) : Row w' g l := hk.trans h
theorem Row.drewN (h : Row w g l) (n : Nat) : Row (w.drewN n) g l := h
theorem Row.new (w : World) (l : List Int) : Row (w.alloc (.cells (intCells l) 3)) w.heap.size l := heap_alloc_new w _
theorem Row.ints (h : Row w g l) : Ints w (fun b => b = g) (some ⟨g, 0, none⟩) l :=
  ⟨by simp, fun hn => ⟨g, 0, rfl, rfl, fun j u hu => by
    have hj : j < l.length := by
      have := (List.getElem?_eq_some_iff.1 hu).1
      simpa using this
    simp [hj] at hu
    rw [Nat.zero_add, h.cell hj, ← hu]
    simp [hj]⟩⟩
end

def joinL (xs ys : List Int) : List Int := if pairedB xs ys then List.zipWith max xs ys else []
def meetL (xs ys : List Int) : List Int := if pairedB xs ys then List.zipWith min xs ys else []

/-- What Join and Meet leave: a new list. -/
def NewInts (w : World) (l : List Int) (er : Int) (e : Ending) (w' : World) : Prop :=
  ∃ (A : Option Addr) (c : Nat), e = .returned (.tuple #[.slice A l.length c, .int .i64 er]) ∧ Ints w' (fun b => w.heap.size ≤ b ∧ b < w'.heap.size) A l ∧ Below w.heap.size w w'

theorem newInts_close {w wr : World} {l : List Int} (n : Nat) (er : Int) (hlen : l.length = n) (hrow : Row wr w.heap.size l) (hb : Below w.heap.size w wr) :
    NewInts w l er (.returned (.tuple #[.slice (some ⟨w.heap.size, 0, none⟩) n n, .int .i64 er])) wr := by
  subst hlen
  exact ⟨_, _, rfl, hrow.ints.more (fun b e => by subst e; exact ⟨Nat.le_refl _, hrow.lt⟩), hb⟩

theorem take_set_succ (l m : List Int) (k : Nat) (hk : k < l.length) (hm : k < m.length) (h : l.take k = m.take k) (x : Int) (hx : m.getD k 0 = x) : (l.set k x).take (k + 1) = m.take (k + 1) := by
  rw [List.take_succ_eq_append_getElem (by simpa using hk), List.take_succ_eq_append_getElem hm, List.take_set_of_le (Nat.le_refl _), h]
  simp [List.getD, hm] at hx
  simp [hx]

set_option maxHeartbeats 800000 in
theorem join_any (A B : Option Addr) (ca cb : Nat) (xs ys : List Int) (S : Nat → Prop) (w : World) (ha : Ints w S A xs) (hb : Ints w S B ys) (hS : ∀ b, S b → b < w.heap.size) (hx : xs.length ≤ 17592186044416) (hy : ys.length ≤ 17592186044416) :
    Calls Try.prog 32 #[.slice A xs.length ca, .slice B ys.length cb] w (NewInts w (joinL xs ys) (pairE xs ys)) := by
  have hx' : xs.length ≤ 9223372036854775807 := by omega
  have hy' : ys.length ≤ 9223372036854775807 := by omega
  by_cases hp : pairedB xs ys = true
  · have HP := Lib.hid hp
    have HPE := Lib.hid (show pairE xs ys = 0 by simp [pairE, hp])
    have HL := Lib.hid (len_of_paired hp)
    have HJ := Lib.hid (show joinL xs ys = List.zipWith max xs ys by simp [joinL, hp])
    clear hp
    have hmk := run_make_ints xs.length (by omega)
    go_enter Try.func32, Try.ntmps32
    go_wp2_with fail
    refine (paired_any A B ca cb xs ys S w ha hb hx' hy').mono ?_
    rintro e w' ⟨rfl, rfl⟩
    have hp' : pairedB xs ys = true := HP.out
    go_wp2
    clear hp'
    clear hmk
    go_loopw [17] (fun i wr => ∃ (k : Nat) (l : List Int), k ≤ xs.length ∧ i = .int .i64 k ∧ l.length = xs.length ∧ l.take k = (List.zipWith max xs ys).take k ∧ Row wr w.heap.size l ∧ Below w.heap.size w wr) (fun i _ => xs.length - (intOf i).toNat)
    case atStart => exact ⟨0, List.replicate xs.length 0, Nat.zero_le _, rfl, by simp, rfl, Row.new _ _, (Below.refl _ _).alloc (Nat.le_refl _) _⟩
    case round =>
      obtain ⟨k, l, hk, rfl, hl, ht, hrow, hbel⟩ := hrel
      have HT := Lib.hid ht
      have HLL := Lib.hid hl
      clear ht hl
      by_cases hlt : k < xs.length
      · have hlt' : k < ys.length := by have := HL.out; omega
        obtain ⟨b1, o1, rfl, hs1, hc1⟩ := ha.at_ hlt
        obtain ⟨b2, o2, rfl, hs2, hc2⟩ := hb.at_ hlt'
        rw [← hbel.cell (hS _ hs1)] at hc1
        rw [← hbel.cell (hS _ hs2)] at hc2
        have hne1 := hS _ hs1
        have hne2 := hS _ hs2
        have hkl : k < l.length := by have := HLL.out; omega
        have hc3 := hrow.cell hkl
        have hf3 := hrow.frozen k
        have HZ := Lib.hid (show (List.zipWith max xs ys).getD k 0 = max (xs.getD k 0) (ys.getD k 0) by simp [List.getD, List.getElem?_zipWith, hlt, hlt'])
        generalize xs.getD k 0 = x at hc1 HZ
        generalize ys.getD k 0 = y at hc2 HZ
        generalize l.getD k 0 = z at hc3
        have HB := Lib.hid hbel
        have HR := Lib.hid hrow
        clear hbel hrow ha hb
        go_wp2
        go_region
        go_wp2
        go_roundw
        case rel =>
          refine ⟨k + 1, l.set k (if x < y then y else x), by omega, by go_num, by simpa using HLL.out, take_set_succ l _ k hkl (by simp; omega) HT.out _ ?_, HR.out.set_ k _, (HB.out.setCell (Nat.le_refl _) _).drew⟩
          rw [HZ.out]
          split <;> omega
        case measure => simp [intOf]; omega
      · have hlf : l = List.zipWith max xs ys := by
          have h1 := HT.out
          have h2 := HLL.out
          have h3 := HL.out
          rwa [List.take_of_length_le (by omega), List.take_of_length_le (by simp; omega)] at h1
        subst hlf
        have HB := Lib.hid hbel
        have HR := Lib.hid hrow
        clear hbel hrow ha hb
        go_wp2
        go_ret2
        rw [HPE.out, HJ.out]
        exact newInts_close _ _ HLL.out HR.out HB.out
  · have HPE := Lib.hid (show pairE xs ys = 1 by simp [pairE, hp])
    have HJ := Lib.hid (show joinL xs ys = [] by simp [joinL, hp])
    have hp' : pairedB xs ys = false := by simpa using hp
    have HPF := Lib.hid hp'
    clear hp hp'
    go_enter Try.func32, Try.ntmps32
    go_wp2_with fail
    refine (paired_any A B ca cb xs ys S w ha hb hx' hy').mono ?_
    rintro e w' ⟨rfl, rfl⟩
    have hp' : pairedB xs ys = false := HPF.out
    go_wp2
    go_ret2
    rw [HJ.out, HPE.out]
    exact ⟨none, 0, rfl, Reads.none_, Below.refl _ _⟩

set_option maxHeartbeats 800000 in
theorem meet_any (A B : Option Addr) (ca cb : Nat) (xs ys : List Int) (S : Nat → Prop) (w : World) (ha : Ints w S A xs) (hb : Ints w S B ys) (hS : ∀ b, S b → b < w.heap.size) (hx : xs.length ≤ 17592186044416) (hy : ys.length ≤ 17592186044416) :
    Calls Try.prog 33 #[.slice A xs.length ca, .slice B ys.length cb] w (NewInts w (meetL xs ys) (pairE xs ys)) := by
  have hx' : xs.length ≤ 9223372036854775807 := by omega
  have hy' : ys.length ≤ 9223372036854775807 := by omega
  by_cases hp : pairedB xs ys = true
  · have HP := Lib.hid hp
    have HPE := Lib.hid (show pairE xs ys = 0 by simp [pairE, hp])
    have HL := Lib.hid (len_of_paired hp)
    have HJ := Lib.hid (show meetL xs ys = List.zipWith min xs ys by simp [meetL, hp])
    clear hp
    have hmk := run_make_ints xs.length (by omega)
    go_enter Try.func33, Try.ntmps33
    go_wp2_with fail
    refine (paired_any A B ca cb xs ys S w ha hb hx' hy').mono ?_
    rintro e w' ⟨rfl, rfl⟩
    have hp' : pairedB xs ys = true := HP.out
    go_wp2
    clear hp'
    clear hmk
    go_loopw [17] (fun i wr => ∃ (k : Nat) (l : List Int), k ≤ xs.length ∧ i = .int .i64 k ∧ l.length = xs.length ∧ l.take k = (List.zipWith min xs ys).take k ∧ Row wr w.heap.size l ∧ Below w.heap.size w wr) (fun i _ => xs.length - (intOf i).toNat)
    case atStart => exact ⟨0, List.replicate xs.length 0, Nat.zero_le _, rfl, by simp, rfl, Row.new _ _, (Below.refl _ _).alloc (Nat.le_refl _) _⟩
    case round =>
      obtain ⟨k, l, hk, rfl, hl, ht, hrow, hbel⟩ := hrel
      have HT := Lib.hid ht
      have HLL := Lib.hid hl
      clear ht hl
      by_cases hlt : k < xs.length
      · have hlt' : k < ys.length := by have := HL.out; omega
        obtain ⟨b1, o1, rfl, hs1, hc1⟩ := ha.at_ hlt
        obtain ⟨b2, o2, rfl, hs2, hc2⟩ := hb.at_ hlt'
        rw [← hbel.cell (hS _ hs1)] at hc1
        rw [← hbel.cell (hS _ hs2)] at hc2
        have hne1 := hS _ hs1
        have hne2 := hS _ hs2
        have hkl : k < l.length := by have := HLL.out; omega
        have hc3 := hrow.cell hkl
        have hf3 := hrow.frozen k
        have HZ := Lib.hid (show (List.zipWith min xs ys).getD k 0 = min (xs.getD k 0) (ys.getD k 0) by simp [List.getD, List.getElem?_zipWith, hlt, hlt'])
        generalize xs.getD k 0 = x at hc1 HZ
        generalize ys.getD k 0 = y at hc2 HZ
        generalize l.getD k 0 = z at hc3
        have HB := Lib.hid hbel
        have HR := Lib.hid hrow
        clear hbel hrow ha hb
        go_wp2
        go_region
        go_wp2
        go_roundw
        case rel =>
          refine ⟨k + 1, l.set k (if y < x then y else x), by omega, by go_num, by simpa using HLL.out, take_set_succ l _ k hkl (by simp; omega) HT.out _ ?_, HR.out.set_ k _, (HB.out.setCell (Nat.le_refl _) _).drew⟩
          rw [HZ.out]
          split <;> omega
        case measure => simp [intOf]; omega
      · have hlf : l = List.zipWith min xs ys := by
          have h1 := HT.out
          have h2 := HLL.out
          have h3 := HL.out
          rwa [List.take_of_length_le (by omega), List.take_of_length_le (by simp; omega)] at h1
        subst hlf
        have HB := Lib.hid hbel
        have HR := Lib.hid hrow
        clear hbel hrow ha hb
        go_wp2
        go_ret2
        rw [HPE.out, HJ.out]
        exact newInts_close _ _ HLL.out HR.out HB.out
  · have HPE := Lib.hid (show pairE xs ys = 1 by simp [pairE, hp])
    have HJ := Lib.hid (show meetL xs ys = [] by simp [meetL, hp])
    have hp' : pairedB xs ys = false := by simpa using hp
    have HPF := Lib.hid hp'
    clear hp hp'
    go_enter Try.func33, Try.ntmps33
    go_wp2_with fail
    refine (paired_any A B ca cb xs ys S w ha hb hx' hy').mono ?_
    rintro e w' ⟨rfl, rfl⟩
    have hp' : pairedB xs ys = false := HPF.out
    go_wp2
    go_ret2
    rw [HJ.out, HPE.out]
    exact ⟨none, 0, rfl, Reads.none_, Below.refl _ _⟩

set_option maxHeartbeats 800000 in
theorem rjoin_any (A B : Option Addr) (ca cb : Nat) (xs ys : List Int) (S : Nat → Prop) (w : World) (ha : Ints w S A xs) (hb : Ints w S B ys) (hS : ∀ b, S b → b < w.heap.size) (hx : xs.length ≤ 17592186044416) (hy : ys.length ≤ 17592186044416) :
    Calls Try.prog 38 #[.slice A xs.length ca, .slice B ys.length cb] w (NewInts w (joinL xs ys) (pairE xs ys)) := by
  have hx' : xs.length ≤ 9223372036854775807 := by omega
  have hy' : ys.length ≤ 9223372036854775807 := by omega
  by_cases hp : pairedB xs ys = true
  · have HP := Lib.hid hp
    have HPE := Lib.hid (show pairE xs ys = 0 by simp [pairE, hp])
    have HL := Lib.hid (len_of_paired hp)
    have HJ := Lib.hid (show joinL xs ys = List.zipWith max xs ys by simp [joinL, hp])
    clear hp
    have hmk := run_make_ints xs.length (by omega)
    go_enter Try.func38, Try.ntmps38
    go_wp2_with fail
    refine (pair_any A B ca cb xs ys S w ha hb hx' hy').mono ?_
    rintro e w' ⟨rfl, rfl⟩
    rw [HPE.out]
    skip
    go_wp2
    skip
    clear hmk
    go_loopw [20] (fun i wr => ∃ (k : Nat) (l : List Int), k ≤ xs.length ∧ i = .int .i64 k ∧ l.length = xs.length ∧ l.take k = (List.zipWith max xs ys).take k ∧ Row wr w.heap.size l ∧ Below w.heap.size w wr) (fun i _ => xs.length - (intOf i).toNat)
    case atStart => exact ⟨0, List.replicate xs.length 0, Nat.zero_le _, rfl, by simp, rfl, Row.new _ _, (Below.refl _ _).alloc (Nat.le_refl _) _⟩
    case round =>
      obtain ⟨k, l, hk, rfl, hl, ht, hrow, hbel⟩ := hrel
      have HT := Lib.hid ht
      have HLL := Lib.hid hl
      clear ht hl
      by_cases hlt : k < xs.length
      · have hlt' : k < ys.length := by have := HL.out; omega
        obtain ⟨b1, o1, rfl, hs1, hc1⟩ := ha.at_ hlt
        obtain ⟨b2, o2, rfl, hs2, hc2⟩ := hb.at_ hlt'
        rw [← hbel.cell (hS _ hs1)] at hc1
        rw [← hbel.cell (hS _ hs2)] at hc2
        have hne1 := hS _ hs1
        have hne2 := hS _ hs2
        have hkl : k < l.length := by have := HLL.out; omega
        have hc3 := hrow.cell hkl
        have hf3 := hrow.frozen k
        have HZ := Lib.hid (show (List.zipWith max xs ys).getD k 0 = max (xs.getD k 0) (ys.getD k 0) by simp [List.getD, List.getElem?_zipWith, hlt, hlt'])
        generalize xs.getD k 0 = x at hc1 HZ
        generalize ys.getD k 0 = y at hc2 HZ
        generalize l.getD k 0 = z at hc3
        have HB := Lib.hid hbel
        have HR := Lib.hid hrow
        clear hbel hrow ha hb
        go_wp2
        go_region
        go_wp2
        go_roundw
        case rel =>
          refine ⟨k + 1, l.set k (if x < y then y else x), by omega, by go_num, by simpa using HLL.out, take_set_succ l _ k hkl (by simp; omega) HT.out _ ?_, HR.out.set_ k _, (HB.out.setCell (Nat.le_refl _) _).drew⟩
          rw [HZ.out]
          split <;> omega
        case measure => simp [intOf]; omega
      · have hlf : l = List.zipWith max xs ys := by
          have h1 := HT.out
          have h2 := HLL.out
          have h3 := HL.out
          rwa [List.take_of_length_le (by omega), List.take_of_length_le (by simp; omega)] at h1
        subst hlf
        have HB := Lib.hid hbel
        have HR := Lib.hid hrow
        clear hbel hrow ha hb
        go_wp2
        go_ret2
        rw [HPE.out, HJ.out]
        exact newInts_close _ _ HLL.out HR.out HB.out
  · have HPE := Lib.hid (show pairE xs ys = 1 by simp [pairE, hp])
    have HJ := Lib.hid (show joinL xs ys = [] by simp [joinL, hp])
    have hp' : pairedB xs ys = false := by simpa using hp
    have HPF := Lib.hid hp'
    clear hp hp'
    go_enter Try.func38, Try.ntmps38
    go_wp2_with fail
    refine (pair_any A B ca cb xs ys S w ha hb hx' hy').mono ?_
    rintro e w' ⟨rfl, rfl⟩
    rw [HPE.out]
    skip
    go_wp2
    go_ret2
    rw [HJ.out, HPE.out]
    exact ⟨none, 0, rfl, Reads.none_, Below.refl _ _⟩

set_option maxHeartbeats 800000 in
theorem rmeet_any (A B : Option Addr) (ca cb : Nat) (xs ys : List Int) (S : Nat → Prop) (w : World) (ha : Ints w S A xs) (hb : Ints w S B ys) (hS : ∀ b, S b → b < w.heap.size) (hx : xs.length ≤ 17592186044416) (hy : ys.length ≤ 17592186044416) :
    Calls Try.prog 39 #[.slice A xs.length ca, .slice B ys.length cb] w (NewInts w (meetL xs ys) (pairE xs ys)) := by
  have hx' : xs.length ≤ 9223372036854775807 := by omega
  have hy' : ys.length ≤ 9223372036854775807 := by omega
  by_cases hp : pairedB xs ys = true
  · have HP := Lib.hid hp
    have HPE := Lib.hid (show pairE xs ys = 0 by simp [pairE, hp])
    have HL := Lib.hid (len_of_paired hp)
    have HJ := Lib.hid (show meetL xs ys = List.zipWith min xs ys by simp [meetL, hp])
    clear hp
    have hmk := run_make_ints xs.length (by omega)
    go_enter Try.func39, Try.ntmps39
    go_wp2_with fail
    refine (pair_any A B ca cb xs ys S w ha hb hx' hy').mono ?_
    rintro e w' ⟨rfl, rfl⟩
    rw [HPE.out]
    skip
    go_wp2
    skip
    clear hmk
    go_loopw [20] (fun i wr => ∃ (k : Nat) (l : List Int), k ≤ xs.length ∧ i = .int .i64 k ∧ l.length = xs.length ∧ l.take k = (List.zipWith min xs ys).take k ∧ Row wr w.heap.size l ∧ Below w.heap.size w wr) (fun i _ => xs.length - (intOf i).toNat)
    case atStart => exact ⟨0, List.replicate xs.length 0, Nat.zero_le _, rfl, by simp, rfl, Row.new _ _, (Below.refl _ _).alloc (Nat.le_refl _) _⟩
    case round =>
      obtain ⟨k, l, hk, rfl, hl, ht, hrow, hbel⟩ := hrel
      have HT := Lib.hid ht
      have HLL := Lib.hid hl
      clear ht hl
      by_cases hlt : k < xs.length
      · have hlt' : k < ys.length := by have := HL.out; omega
        obtain ⟨b1, o1, rfl, hs1, hc1⟩ := ha.at_ hlt
        obtain ⟨b2, o2, rfl, hs2, hc2⟩ := hb.at_ hlt'
        rw [← hbel.cell (hS _ hs1)] at hc1
        rw [← hbel.cell (hS _ hs2)] at hc2
        have hne1 := hS _ hs1
        have hne2 := hS _ hs2
        have hkl : k < l.length := by have := HLL.out; omega
        have hc3 := hrow.cell hkl
        have hf3 := hrow.frozen k
        have HZ := Lib.hid (show (List.zipWith min xs ys).getD k 0 = min (xs.getD k 0) (ys.getD k 0) by simp [List.getD, List.getElem?_zipWith, hlt, hlt'])
        generalize xs.getD k 0 = x at hc1 HZ
        generalize ys.getD k 0 = y at hc2 HZ
        generalize l.getD k 0 = z at hc3
        have HB := Lib.hid hbel
        have HR := Lib.hid hrow
        clear hbel hrow ha hb
        go_wp2
        go_region
        go_wp2
        go_roundw
        case rel =>
          refine ⟨k + 1, l.set k (if y < x then y else x), by omega, by go_num, by simpa using HLL.out, take_set_succ l _ k hkl (by simp; omega) HT.out _ ?_, HR.out.set_ k _, (HB.out.setCell (Nat.le_refl _) _).drew⟩
          rw [HZ.out]
          split <;> omega
        case measure => simp [intOf]; omega
      · have hlf : l = List.zipWith min xs ys := by
          have h1 := HT.out
          have h2 := HLL.out
          have h3 := HL.out
          rwa [List.take_of_length_le (by omega), List.take_of_length_le (by simp; omega)] at h1
        subst hlf
        have HB := Lib.hid hbel
        have HR := Lib.hid hrow
        clear hbel hrow ha hb
        go_wp2
        go_ret2
        rw [HPE.out, HJ.out]
        exact newInts_close _ _ HLL.out HR.out HB.out
  · have HPE := Lib.hid (show pairE xs ys = 1 by simp [pairE, hp])
    have HJ := Lib.hid (show meetL xs ys = [] by simp [meetL, hp])
    have hp' : pairedB xs ys = false := by simpa using hp
    have HPF := Lib.hid hp'
    clear hp hp'
    go_enter Try.func39, Try.ntmps39
    go_wp2_with fail
    refine (pair_any A B ca cb xs ys S w ha hb hx' hy').mono ?_
    rintro e w' ⟨rfl, rfl⟩
    rw [HPE.out]
    skip
    go_wp2
    go_ret2
    rw [HJ.out, HPE.out]
    exact ⟨none, 0, rfl, Reads.none_, Below.refl _ _⟩
end Go.Proofs.Ytjpknhhdkjhjfaa
