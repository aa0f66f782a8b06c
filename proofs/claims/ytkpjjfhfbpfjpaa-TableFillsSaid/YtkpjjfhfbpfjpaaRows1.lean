/- Words: rows in memory. Contracts: the orders of rows. -/
import Derived.Test.YtkpjjfhfbpfjpaaCmp
import Derived.Deep.RegionHeld3
import Derived.Deep.DrawnRows
namespace Go.Proofs.Ytkpjjfhfbpfjpaa
open Go.RowKit
set_option linter.unusedVariables false

abbrev v0 : V := ⟨0, 0, ⟨#[]⟩⟩
def encV (v : V) : Dat := .agg [.lit (.int .i64 v.k), .lit (.int .i64 v.i), .lit (.string v.t)]
theorem encV_size (v : V) : (encV v).size = 3 := rfl
/-- A slice of values. -/
def RowS (w : World) (S : Nat → Prop) (A : Option Addr) (r : Row) : Prop := Sl w S A (r.map encV)
theorem RowS.keep {w w' : World} {S : Nat → Prop} {A : Option Addr} {r : Row} (h : RowS w S A r) (hk : Same S w w') : RowS w' S A r := Sl.keep h hk
theorem RowS.more {w : World} {S S' : Nat → Prop} {A : Option Addr} {r : Row} (h : RowS w S A r) (hS : ∀ b, S b → S' b) : RowS w S' A r := Sl.more h hS
theorem RowS.nil_ {w : World} {S : Nat → Prop} {A : Option Addr} : RowS w S A [] := Sl.nil_
theorem held_encV {w : World} {S : Nat → Prop} {v : V} {b off : Nat} : Dat.Held w S (encV v) b off ↔ w.cell? ⟨b, off, none⟩ = some (.int .i64 v.k) ∧ w.cell? ⟨b, off + 1, none⟩ = some (.int .i64 v.i) ∧ w.cell? ⟨b, off + 2, none⟩ = some (.string v.t) ∧ v.t.size ≤ 9223372036854775807 := by
  simp [encV, Dat.Held, Dat.HeldAll, Dat.size]
theorem RowS.len {w : World} {S : Nat → Prop} {A : Option Addr} {r : Row} (h : RowS w S A r) : r.length ≤ 17592186044416 := by have := h.1; rw [bytesAll_map (n := 32) (fun _ => rfl)] at this; omega
theorem RowS.len' {w : World} {S : Nat → Prop} {A : Option Addr} {r : Row} (h : RowS w S A r) : r.length ≤ 4398046511104 := by have := h.1; rw [bytesAll_map (n := 32) (fun _ => rfl)] at this; omega
theorem RowS.at_ {w : World} {S : Nat → Prop} {A : Option Addr} {r : Row} {k : Nat} (h : RowS w S A r) (hk : k < r.length) :
    ∃ b off, A = some ⟨b, off, none⟩ ∧ S b ∧ w.cell? ⟨b, off + k * 3, none⟩ = some (.int .i64 (r.getD k v0).k) ∧ w.cell? ⟨b, off + k * 3 + 1, none⟩ = some (.int .i64 (r.getD k v0).i) ∧ w.cell? ⟨b, off + k * 3 + 2, none⟩ = some (.string (r.getD k v0).t) := by
  obtain ⟨b, off, e, hb, hc⟩ := h.2 (by simp; omega)
  have h1 := heldAll_at (n := 3) (fun d hd => by obtain ⟨v, _, rfl⟩ := List.mem_map.1 hd; rfl) hc k (by simpa using hk)
  rw [List.getElem_map, held_encV] at h1
  have e2 : r.getD k v0 = r[k] := by simp [List.getD, hk]
  rw [e2]
  exact ⟨b, off, e, hb, h1.1, h1.2.1, h1.2.2.1⟩
/-- A row that a row can be. -/
def RowOk (r : Row) : Prop := r.length ≤ 4398046511104 ∧ ∀ v ∈ r, v.t.size ≤ 9223372036854775807
theorem RowS.ok {w : World} {S : Nat → Prop} {A : Option Addr} {r : Row} (h : RowS w S A r) : RowOk r := ⟨h.len', fun v hv => by
  obtain ⟨k, hk, rfl⟩ := List.mem_iff_getElem.1 hv
  obtain ⟨b, off, e, hb, hc⟩ := h.2 (by simp; omega)
  have h1 := heldAll_at (n := 3) (fun d hd => by obtain ⟨v, _, rfl⟩ := List.mem_map.1 hd; rfl) hc k (by simpa using hk)
  rw [List.getElem_map, held_encV] at h1
  exact h1.2.2.2⟩
theorem RowOk.at_ {r : Row} (h : RowOk r) (k : Nat) : (r.getD k v0).t.size ≤ 9223372036854775807 := by
  by_cases hk : k < r.length
  · have : r.getD k v0 = r[k] := by simp [List.getD, hk]
    rw [this]
    exact h.2 _ (List.getElem_mem _)
  · have : r.getD k v0 = v0 := by simp [List.getD, List.getElem?_eq_none (Nat.le_of_not_lt hk)]
    rw [this]
    decide

/-- Where rows part: they agree below k. -/
theorem cmpR_take : ∀ (k : Nat) (a b : Row), k ≤ a.length → k ≤ b.length → a.take k = b.take k → cmpR a b = cmpR (a.drop k) (b.drop k)
  | 0, a, b, _, _, _ => by simp
  | k + 1, [], b, h, _, _ => by simp at h
  | k + 1, a :: x, [], _, h, _ => by simp at h
  | k + 1, a :: x, b :: y, h1, h2, h => by
    simp only [List.take_succ_cons, List.cons.injEq] at h
    have e := h.1
    subst e
    simp only [cmpR, cmpV_is.self, ne_eq, not_true, if_false, List.drop_succ_cons]
    exact cmpR_take k x y (by simpa using h1) (by simpa using h2) h.2
theorem cmpR_ne {a b : Row} {k : Nat} (ha : k < a.length) (hb : k < b.length) (h : a.take k = b.take k) (hc : cmpV (a.getD k v0) (b.getD k v0) ≠ 0) : cmpR a b = cmpV (a.getD k v0) (b.getD k v0) := by
  rw [cmpR_take k a b (by omega) (by omega) h, List.drop_eq_getElem_cons ha, List.drop_eq_getElem_cons hb]
  have e1 : a.getD k v0 = a[k] := by simp [List.getD, ha]
  have e2 : b.getD k v0 = b[k] := by simp [List.getD, hb]
  rw [e1, e2] at hc ⊢
  simp only [cmpR, ne_eq, hc, not_false_eq_true, if_true]
theorem take_eq_succ {a b : Row} {k : Nat} (ha : k < a.length) (hb : k < b.length) (h : a.take k = b.take k) (hc : cmpV (a.getD k v0) (b.getD k v0) = 0) : a.take (k + 1) = b.take (k + 1) := by
  have e1 : a.getD k v0 = a[k] := by simp [List.getD, ha]
  have e2 : b.getD k v0 = b[k] := by simp [List.getD, hb]
  rw [e1, e2, cmpV_is.zero] at hc
  rw [List.take_succ_eq_append_getElem ha, List.take_succ_eq_append_getElem hb, h, hc]
theorem cmpR_shortA {a b : Row} {k : Nat} (ha : a.length = k) (hb : k < b.length) (h : a.take k = b.take k) : cmpR a b = -1 := by
  rw [cmpR_take k a b (by omega) (by omega) h, List.drop_of_length_le (by omega), List.drop_eq_getElem_cons hb]
  rfl
theorem cmpR_shortB {a b : Row} {k : Nat} (ha : k < a.length) (hb : b.length = k) (h : a.take k = b.take k) : cmpR a b = 1 := by
  rw [cmpR_take k a b (by omega) (by omega) h, List.drop_of_length_le (l := b) (by omega), List.drop_eq_getElem_cons ha]
  rfl
theorem cmpR_both {a b : Row} {k : Nat} (ha : a.length = k) (hb : b.length = k) (h : a.take k = b.take k) : cmpR a b = 0 := by
  rw [List.take_of_length_le (by omega), List.take_of_length_le (by omega)] at h
  exact (cmpR_is.zero a b).2 h

set_option maxHeartbeats 600000 in
theorem cmpFunc_any (A B : Option Addr) (ca cb : Nat) (a b : Row) (S : Nat → Prop) (w : World) (ha : RowS w S A a) (hb : RowS w S B b) (hS : ∀ b, S b → b < w.heap.size) :
    Calls Try.prog 99 #[.slice A a.length ca, .slice B b.length cb, .func (.func 100) #[] #[]] w (IntBel (cmpR a b) w) := by
  have hla := ha.len
  have hlb := hb.len
  have HA := Lib.hid ha
  have HBB := Lib.hid hb
  clear ha hb
  go_enter Try.func99, Try.ntmps99
  go_wp2_with fail
  go_loopw [13] (fun i wr => ∃ k : Nat, k ≤ a.length ∧ k ≤ b.length ∧ i = .int .i64 k ∧ a.take k = b.take k ∧ Below w.heap.size w wr) (fun i _ => a.length - (intOf i).toNat)
  case atStart => exact ⟨0, Nat.zero_le _, Nat.zero_le _, rfl, by simp, Below.refl _ _⟩
  case round =>
    obtain ⟨k, hka, hkb, rfl, htk, hbel⟩ := hrel
    have HT := Lib.hid htk
    have HB := Lib.hid hbel
    have hsz := hbel.size
    clear htk hbel
    by_cases hlt : k < a.length
    · obtain ⟨b1, o1, rfl, hb1, c1, c2, c3⟩ := (HA.out.keep (Same.of_below HB.out hS)).at_ hlt
      have HBA := Lib.hid ((HB.out.alloc hsz (.cells #[.int .i64 (a.getD k v0).k, .int .i64 (a.getD k v0).i, .string (a.getD k v0).t] 51)))
      by_cases hlt2 : k < b.length
      · obtain ⟨b2, o2, rfl, hb2, d1, d2, d3⟩ := (HBB.out.keep (Same.of_below HB.out hS)).at_ hlt2
        have hki : (k : Int) < b.length := by omega
        have HC := Lib.hid (show ∀ h : cmpV (a.getD k v0) (b.getD k v0) ≠ 0, cmpR a b = cmpV (a.getD k v0) (b.getD k v0) from cmpR_ne hlt hlt2 HT.out)
        have HZ := Lib.hid (show cmpV (a.getD k v0) (b.getD k v0) = 0 → a.take (k + 1) = b.take (k + 1) from take_eq_succ hlt hlt2 HT.out)
        have hl2 : b2 < wr.heap.size := by have := hS b2 hb2; omega
        have hn2 : b2 ≠ wr.heap.size := by omega
        generalize a.getD k v0 = x at c1 c2 c3 HC HZ HBA
        generalize b.getD k v0 = y at d1 d2 d3 HC HZ
        obtain ⟨xk, xi, xt⟩ := x
        obtain ⟨yk, yi, yt⟩ := y
        simp only at c1 c2 c3 d1 d2 d3 HBA
        go_wp2_with fail
        refine (compare_any ⟨xk, xi, xt⟩ ⟨yk, yi, yt⟩ _).mono ?_
        rintro e w1 ⟨rfl, hb1⟩
        have HB1 := Lib.hid ((HBA.out.alloc (by simp; omega) _).trans (hb1.mono (by simp; omega)))
        clear hb1 HBA
        by_cases hc : cmpV ⟨xk, xi, xt⟩ ⟨yk, yi, yt⟩ = 0
        · have HTK := Lib.hid (HZ.out hc)
          rw [hc]
          clear hc
          go_wp2_with fail
          go_roundw
          case rel => exact ⟨k + 1, by omega, by omega, by go_num, HTK.out, HB1.out⟩
          case measure => simp [intOf]; omega
        · have HF := Lib.hid (HC.out hc)
          have hd : (cmpV ⟨xk, xi, xt⟩ ⟨yk, yi, yt⟩ != 0) = true := by simp [hc]
          generalize cmpV ⟨xk, xi, xt⟩ ⟨yk, yi, yt⟩ = cv at hd HF hc
          go_wp2_with fail
          go_ret
          exact ⟨by rw [HF.out]; rfl, HB1.out⟩
      · have HF := Lib.hid (cmpR_shortB hlt (show b.length = k by omega) HT.out)
        generalize a.getD k v0 = x at c1 c2 c3 HBA
        obtain ⟨xk, xi, xt⟩ := x
        simp only at c1 c2 c3 HBA
        go_wp2_with fail
        go_ret
        exact ⟨by rw [HF.out]; rfl, HBA.out⟩
    · have hka' : a.length = k := by omega
      by_cases hlt2 : k < b.length
      · have HF := Lib.hid (cmpR_shortA hka' hlt2 HT.out)
        have hd : decide (a.length < b.length) = true := by simp; omega
        clear hka'
        go_wp2_with fail
        go_ret
        exact ⟨by rw [HF.out]; rfl, HB.out⟩
      · have HF := Lib.hid (cmpR_both hka' (show b.length = k by omega) HT.out)
        have hd : decide (a.length < b.length) = false := by simp; omega
        clear hka'
        go_wp2_with fail
        go_ret
        exact ⟨by rw [HF.out]; rfl, HB.out⟩

set_option maxHeartbeats 400000 in
theorem compareRows_any (A B : Option Addr) (ca cb : Nat) (a b : Row) (S : Nat → Prop) (w : World) (ha : RowS w S A a) (hb : RowS w S B b) (hS : ∀ b, S b → b < w.heap.size) :
    Calls Try.prog 60 #[.slice A a.length ca, .slice B b.length cb] w (IntBel (cmpR a b) w) := by
  go_enter Try.func60, Try.ntmps60
  go_wp2_with fail
  refine (cmpFunc_any A B ca cb a b S w ha hb hS).mono ?_
  rintro e w1 ⟨rfl, hb1⟩
  have HB1 := Lib.hid hb1
  clear hb1
  go_wp2_with fail
  go_ret
  exact ⟨rfl, HB1.out⟩

theorem bytesLess_lt {s t : ByteArray} (h : cmpB s t = -1) : Op.bytesLess s.toList t.toList = true ∧ Op.bytesLess t.toList s.toList = false := by
  have key : ∀ a b : List UInt8, (Lib.compareBytes a b = -1 → Op.bytesLess a b = true ∧ Op.bytesLess b a = false) := by
    intro a
    induction a with
    | nil => intro b h; cases b <;> simp [Lib.compareBytes, Op.bytesLess] at h ⊢
    | cons x a ih => intro b h; cases b with
      | nil => simp [Lib.compareBytes] at h
      | cons y b =>
        simp only [Lib.compareBytes] at h
        simp only [Op.bytesLess]
        by_cases h1 : x < y
        · have h2 : ¬ y < x := by rw [UInt8.lt_iff_toNat_lt] at h1 ⊢; omega
          have h3 : ¬ y = x := fun e => by subst e; exact h2 h1
          simp [h1, h2, h3]
        · by_cases h2 : y < x
          · simp [h1, h2] at h
          · simp only [h1, h2, if_false] at h
            have e : x = y := by
              rw [UInt8.lt_iff_toNat_lt] at h1 h2
              exact UInt8.toNat_inj.1 (by omega)
            subst e
            simp [h1, ih b h]
  have := key s.data.toList t.data.toList h
  simpa [ByteArray.toList_eq] using this
theorem bytesLess_self (s : ByteArray) : Op.bytesLess s.toList s.toList = false := by
  have key : ∀ a : List UInt8, Op.bytesLess a a = false := by
    intro a
    induction a with
    | nil => rfl
    | cons x a ih => simp [Op.bytesLess, ih]
  exact key _

set_option maxHeartbeats 600000 in
theorem rcompare_any (a b : V) (w : World) : Calls Try.prog 72 #[vAgg a, vAgg b] w (IntBel (cmpV a b) w) := by
  have hk := @cmpV_k a b
  have hi := @cmpV_i a b
  have ht := @cmpV_t a b
  obtain ⟨ak, ai, at_⟩ := a
  obtain ⟨bk, bi, bt⟩ := b
  dsimp only at hk hi ht
  generalize hcv : cmpV ⟨ak, ai, at_⟩ ⟨bk, bi, bt⟩ = cv at hk hi ht
  have HB := Lib.hid (((Below.refl w.heap.size w).alloc (Nat.le_refl _) (.cells #[.int .i64 ak, .int .i64 ai, .string at_] 51)).alloc (by simp) (.cells #[.int .i64 bk, .int .i64 bi, .string bt] 51))
  rcases Int.lt_trichotomy ak bk with h1 | h1 | h1
  · have HF := Lib.hid (show cv = -1 by rw [hk (by omega)]; unfold cmpI; rw [if_pos h1])
    have hd : decide (ak < bk) = true := by simp [h1]
    clear hk hi ht hcv
    go_enter Try.func72, Try.ntmps72
    go_wp2_with fail
    go_ret
    exact ⟨by rw [HF.out]; rfl, HB.out⟩
  · subst h1
    have hd : decide (ak < ak) = false := by simp
    rcases Int.lt_trichotomy ai bi with h2 | h2 | h2
    · have HF := Lib.hid (show cv = -1 by rw [hi rfl (by omega)]; unfold cmpI; rw [if_pos h2])
      have hd : decide (ai < bi) = true := by simp [h2]
      clear hk hi ht hcv
      go_enter Try.func72, Try.ntmps72
      go_wp2_with fail
      go_ret
      exact ⟨by rw [HF.out]; rfl, HB.out⟩
    · subst h2
      have HF0 := Lib.hid (ht rfl rfl)
      clear hk hi ht hcv
      rcases cmpB_is.rng at_ bt with h3 | h3 | h3
      · obtain ⟨e1, e2⟩ := bytesLess_lt h3
        have H3 := Lib.hid h3
        clear h3
        go_enter Try.func72, Try.ntmps72
        go_wp2_with fail
        go_ret
        exact ⟨by rw [HF0.out, H3.out]; rfl, HB.out⟩
      · have e := (cmpB_is.zero at_ bt).1 h3
        subst e
        have e1 := bytesLess_self at_
        have H3 := Lib.hid h3
        clear h3
        go_enter Try.func72, Try.ntmps72
        go_wp2_with fail
        go_ret
        exact ⟨by rw [HF0.out, H3.out]; rfl, HB.out⟩
      · have h4 : cmpB bt at_ = -1 := by rw [cmpB_is.flip at_ bt, h3]
        obtain ⟨e1, e2⟩ := bytesLess_lt h4
        have e3 : (at_.toList == bt.toList) = false := bytes_ne (fun e => by subst e; rw [cmpB_is.self] at h3; cases h3)
        have H3 := Lib.hid h3
        clear h3 h4
        go_enter Try.func72, Try.ntmps72
        go_wp2_with fail
        go_ret
        exact ⟨by rw [HF0.out, H3.out]; rfl, HB.out⟩
    · have HF := Lib.hid (show cv = 1 by rw [hi rfl (by omega)]; unfold cmpI; rw [if_neg (by omega), if_pos h2])
      have hd : decide (ai < bi) = false := by simp; omega
      have hd2 : decide (bi < ai) = true := by simp [h2]
      clear hk hi ht hcv
      go_enter Try.func72, Try.ntmps72
      go_wp2_with fail
      go_ret
      exact ⟨by rw [HF.out]; rfl, HB.out⟩
  · have HF := Lib.hid (show cv = 1 by rw [hk (by omega)]; unfold cmpI; rw [if_neg (by omega), if_pos h1])
    have hd : decide (ak < bk) = false := by simp; omega
    have hd2 : decide (bk < ak) = true := by simp [h1]
    clear hk hi ht hcv
    go_enter Try.func72, Try.ntmps72
    go_wp2_with fail
    go_ret
    exact ⟨by rw [HF.out]; rfl, HB.out⟩

set_option maxHeartbeats 1000000 in
theorem rcompareRows_any (A B : Option Addr) (ca cb : Nat) (a b : Row) (S : Nat → Prop) (w : World) (ha : RowS w S A a) (hb : RowS w S B b) (hS : ∀ b, S b → b < w.heap.size) :
    Calls Try.prog 36 #[.slice A a.length ca, .slice B b.length cb] w (IntBel (cmpR a b) w) := by
  have hla := ha.len
  have hlb := hb.len
  have HA := Lib.hid ha
  have HBB := Lib.hid hb
  clear ha hb
  go_enter Try.func36, Try.ntmps36
  go_wp2_with fail
  go_loopw [5] (fun i wr => ∃ k : Nat, k ≤ a.length ∧ k ≤ b.length ∧ i = .int .i64 k ∧ a.take k = b.take k ∧ Below w.heap.size w wr) (fun i _ => a.length - (intOf i).toNat)
  case atStart => exact ⟨0, Nat.zero_le _, Nat.zero_le _, rfl, by simp, Below.refl _ _⟩
  case round =>
    obtain ⟨k, hka, hkb, rfl, htk, hbel⟩ := hrel
    have HT := Lib.hid htk
    have HB := Lib.hid hbel
    have hsz := hbel.size
    clear htk hbel
    by_cases hlt : k < a.length
    · have hdk : decide (k < a.length) = true := by simp [hlt]
      by_cases hlt2 : k < b.length
      · have hdk2 : decide (k < b.length) = true := by simp [hlt2]
        obtain ⟨b1, o1, rfl, hb1, c1, c2, c3⟩ := (HA.out.keep (Same.of_below HB.out hS)).at_ hlt
        obtain ⟨b2, o2, rfl, hb2, d1, d2, d3⟩ := (HBB.out.keep (Same.of_below HB.out hS)).at_ hlt2
        have hka0 : (0 : Int) ≤ (k : Int) := by omega
        have hkai : (k : Int) < a.length := by omega
        have hkbi : (k : Int) < b.length := by omega
        have HC := Lib.hid (show ∀ h : cmpV (a.getD k v0) (b.getD k v0) ≠ 0, cmpR a b = cmpV (a.getD k v0) (b.getD k v0) from cmpR_ne hlt hlt2 HT.out)
        have HZ := Lib.hid (show cmpV (a.getD k v0) (b.getD k v0) = 0 → a.take (k + 1) = b.take (k + 1) from take_eq_succ hlt hlt2 HT.out)
        generalize a.getD k v0 = x at c1 c2 c3 HC HZ
        generalize b.getD k v0 = y at d1 d2 d3 HC HZ
        obtain ⟨xk, xi, xt⟩ := x
        obtain ⟨yk, yi, yt⟩ := y
        simp only at c1 c2 c3 d1 d2 d3
        have hl1 : b1 < wr.heap.size := by have := hS b1 hb1; omega
        have hl2 : b2 < wr.heap.size := by have := hS b2 hb2; omega
        go_wp2_with fail
        go_region_held3 (fun w' => (w'.cell? ⟨b1, o1 + k * 3, none⟩ = some (.int .i64 xk) ∧ w'.cell? ⟨b1, o1 + k * 3 + 1, none⟩ = some (.int .i64 xi) ∧ w'.cell? ⟨b1, o1 + k * 3 + 2, none⟩ = some (.string xt)) ∧ w'.cell? ⟨b2, o2 + k * 3, none⟩ = some (.int .i64 yk) ∧ w'.cell? ⟨b2, o2 + k * 3 + 1, none⟩ = some (.int .i64 yi) ∧ w'.cell? ⟨b2, o2 + k * 3 + 2, none⟩ = some (.string yt)) (first | go_keep | (exact ⟨⟨(hbe.cell (p := ⟨b1, o1 + k * 3, none⟩) hl1).trans c1, (hbe.cell (p := ⟨b1, o1 + k * 3 + 1, none⟩) hl1).trans c2, (hbe.cell (p := ⟨b1, o1 + k * 3 + 2, none⟩) hl1).trans c3⟩, (hbe.cell (p := ⟨b2, o2 + k * 3, none⟩) hl2).trans d1, (hbe.cell (p := ⟨b2, o2 + k * 3 + 1, none⟩) hl2).trans d2, (hbe.cell (p := ⟨b2, o2 + k * 3 + 2, none⟩) hl2).trans d3⟩))
          ((go_at_call 72; refine (rcompare_any ⟨xk, xi, xt⟩ ⟨yk, yi, yt⟩ _).mono ?_; rintro e w1 ⟨rfl, hbe⟩))
        have HB1 := Lib.hid (HB.out.trans (((Below.refl wr.heap.size wr).drew.trans hbe).mono hsz))
        clear hbe
        by_cases hc : cmpV ⟨xk, xi, xt⟩ ⟨yk, yi, yt⟩ = 0
        · have HTK := Lib.hid (HZ.out hc)
          rw [hc]
          clear hc
          go_wp2_with fail
          go_roundw
          case rel => exact ⟨k + 1, by omega, by omega, by go_num, HTK.out, HB1.out⟩
          case measure => simp [intOf]; omega
        · have HF := Lib.hid (HC.out hc)
          have hd : (cmpV ⟨xk, xi, xt⟩ ⟨yk, yi, yt⟩ != 0) = true := by simp [hc]
          generalize cmpV ⟨xk, xi, xt⟩ ⟨yk, yi, yt⟩ = cv at hd HF hc
          go_wp2_with fail
          go_ret
          exact ⟨by rw [HF.out]; rfl, HB1.out⟩
      · have HF := Lib.hid (cmpR_shortB hlt (show b.length = k by omega) HT.out)
        have hdk2 : decide (k < b.length) = false := by simp; omega
        have hd : decide (a.length < b.length) = false := by simp; omega
        have hd2 : decide (b.length < a.length) = true := by simp; omega
        go_wp2_with fail
        go_ret
        exact ⟨by rw [HF.out]; rfl, HB.out⟩
    · have hka' : a.length = k := by omega
      have hdk : decide (k < a.length) = false := by simp; omega
      by_cases hlt2 : k < b.length
      · have HF := Lib.hid (cmpR_shortA hka' hlt2 HT.out)
        have hd : decide (a.length < b.length) = true := by simp; omega
        clear hka'
        go_wp2_with fail
        go_ret
        exact ⟨by rw [HF.out]; rfl, HB.out⟩
      · have HF := Lib.hid (cmpR_both hka' (show b.length = k by omega) HT.out)
        have hd : decide (a.length < b.length) = false := by simp; omega
        have hd2 : decide (b.length < a.length) = false := by simp; omega
        clear hka'
        go_wp2_with fail
        go_ret
        exact ⟨by rw [HF.out]; rfl, HB.out⟩
end Go.Proofs.Ytkpjjfhfbpfjpaa
