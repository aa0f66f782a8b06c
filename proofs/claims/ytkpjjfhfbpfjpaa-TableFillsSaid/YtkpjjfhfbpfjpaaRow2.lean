/- Contracts: copies of rows, keys of rows. -/
import Derived.Test.YtkpjjfhfbpfjpaaAcc
namespace Go.Proofs.Ytkpjjfhfbpfjpaa
open Go.RowKit
set_option linter.unusedVariables false

theorem add_none (b o k : Nat) : (⟨b, o, none⟩ : Addr).add k = ⟨b, o + k, none⟩ := by
  unfold Addr.add
  split
  · rename_i h; subst h; rfl
  · rfl
/-- The cells of a row. -/
def rowVals : Row → List Value
  | [] => []
  | v :: r => .int .i64 v.k :: .int .i64 v.i :: .string v.t :: rowVals r
theorem rowVals_len : ∀ r : Row, (rowVals r).length = r.length * 3
  | [] => rfl
  | v :: r => by simp [rowVals, rowVals_len r, Nat.succ_mul]
theorem rowVals_one : ∀ r : Row, ∀ u ∈ rowVals r, u.oneCell' = true
  | [], u, h => by simp [rowVals] at h
  | v :: r, u, h => by
    simp only [rowVals, List.mem_cons] at h
    rcases h with rfl | rfl | rfl | h
    · rfl
    · rfl
    · rfl
    · exact rowVals_one r u h
theorem held_vals {w : World} {S : Nat → Prop} : ∀ (r : Row) (b off : Nat), Dat.HeldAll w S (r.map encV) b off → ∀ j u, (rowVals r)[j]? = some u → w.cell? ⟨b, off + j, none⟩ = some u
  | [], _, _, _, j, u, hu => by simp [rowVals] at hu
  | v :: r, b, off, h, j, u, hu => by
    simp only [List.map_cons, Dat.HeldAll, held_encV, encV_size] at h
    obtain ⟨⟨h1, h2, h3, _⟩, h4⟩ := h
    match j, hu with
    | 0, hu => simp only [rowVals, List.getElem?_cons_zero, Option.some.injEq] at hu; subst hu; exact h1
    | 1, hu => simp only [rowVals, List.getElem?_cons_succ, List.getElem?_cons_zero, Option.some.injEq] at hu; subst hu; exact h2
    | 2, hu => simp only [rowVals, List.getElem?_cons_succ, List.getElem?_cons_zero, Option.some.injEq] at hu; subst hu; exact h3
    | j + 3, hu =>
      simp only [rowVals, List.getElem?_cons_succ] at hu
      have := held_vals r b (off + 3) h4 j u hu
      rw [show off + (j + 3) = off + 3 + j by omega]
      exact this
theorem held_of_vals {w : World} {S : Nat → Prop} : ∀ (r : Row) (b off : Nat), (∀ v ∈ r, v.t.size ≤ 9223372036854775807) → (∀ j u, (rowVals r)[j]? = some u → w.cell? ⟨b, off + j, none⟩ = some u) → Dat.HeldAll w S (r.map encV) b off
  | [], _, _, _, _ => by simp [Dat.HeldAll]
  | v :: r, b, off, ho, h => by
    simp only [List.map_cons, Dat.HeldAll, held_encV, encV_size]
    refine ⟨⟨h 0 _ rfl, h 1 _ rfl, h 2 _ rfl, ho v (by simp)⟩, held_of_vals r b (off + 3) (fun v hv => ho v (by simp [hv])) (fun j u hu => ?_)⟩
    have := h (j + 3) u (by simpa [rowVals] using hu)
    rw [show off + 3 + j = off + (j + 3) by omega]
    exact this
theorem RowS.vals {w : World} {S : Nat → Prop} {A : Option Addr} {r : Row} (h : RowS w S A r) (hr : 0 < r.length) : ∃ b off, A = some ⟨b, off, none⟩ ∧ S b ∧ ∀ j u, (rowVals r)[j]? = some u → w.cell? ((⟨b, off, none⟩ : Addr).add j) = some u := by
  obtain ⟨b, off, e, hb, hc⟩ := h.2 (by simpa using hr)
  exact ⟨b, off, e, hb, fun j u hu => by rw [add_none]; exact held_vals r b off hc j u hu⟩
theorem rows_of_owns {w : World} {base c : Nat} {A : Option Addr} {r : Row} (hll : RowOk r) (h : w.ownsRow base 51 3 (.slice A r.length c) r.length (rowVals r)) : RowS w (fun b => base ≤ b ∧ b < w.heap.size) A r := by
  refine ⟨by have := hll.1; rw [bytesAll_map (n := 32) (fun _ => rfl)]; omega, fun hn => ?_⟩
  obtain ⟨g, e, hb, hl, hc⟩ := row_cells h (by simpa using hn)
  exact ⟨g, 0, e, ⟨hb, hl⟩, held_of_vals r g 0 hll.2 (fun j u hu => by rw [Nat.zero_add]; exact hc j u hu)⟩

theorem infoV : (Try.prog.info? 51).map (fun i => (i.zero, i.size, i.bytes)) = some (some (.agg #[.int .i64 0, .int .i64 0, .string ⟨#[]⟩]), 3, 32) := by kernel_rfl

theorem run_append_empty {P : Program} {w : World} (base : Nat) (t ty e : TypeId) (i : TypeInfo) (size : Nat) (ht : P.underlying t = some (.slice e)) (hi : P.info? e = some i)
    (v : Value) (n : Nat) (xs : List Value) (hown : w.ownsRow base e size v n xs) (A : Option Addr) (c : Nat) :
    (Builtin.append_ #[t, t] ty #[v, .slice A 0 c]).run P w = .ok v w := by
  rcases hown.2 with ⟨rfl, rfl⟩ | ⟨g, cap, cur, rfl, _, _, hnc, _⟩
  · cases A <;> simp [Builtin.append_, run_underlying ht, sizeOf, typeInfo, hi, Builtin.lenOf, Builtin.firstCells, loadCells, loadCellsFrom]
  · cases A <;> simp [Builtin.append_, run_underlying ht, sizeOf, typeInfo, hi, Builtin.lenOf, Builtin.firstCells, hnc, storeCells, loadCells, loadCellsFrom]
theorem wpList_append_empty {P : Program} (w : World) {ops : Array Oper} {rest : List Oper} {o : Oper} {a : Act} {Q : Exit → Act → World → Prop} (hgd : o.guard = none) (s x : Operand) (t : TypeId)
    (ho : o.op = .call { callee := .builtin .append, args := #[s, x], argTypes := #[t, t] })
    (base : Nat) (e : TypeId) (i : TypeInfo) (size : Nat) (ht : P.underlying t = some (.slice e)) (hi : P.info? e = some i)
    (v : Value) (n : Nat) (xs : List Value) (hs : a.eval s = v) (hown : w.ownsRow base e size v n xs) (A : Option Addr) (c : Nat) (hx : a.eval x = .slice A 0 c)
    (h : wpList P ops Q rest (a.put o.dst v) w) : wpList P ops Q (o :: rest) a w := by
  refine wpList_plain hgd fun K hK => ?_
  have hrun := run_append_empty (P := P) (w := w) base t o.type e i size ht hi v n xs hown A c
  unfold Oper.wp
  simp [execOp, ho, resolve, invoke, builtin, hs, hx, hrun, Result.andThen]
  exact hK _ _ h

/-- A new row. -/
def NewR (r : Row) (w : World) (e : Ending) (w' : World) : Prop := ∃ A c, e = .returned (.slice A r.length c) ∧ w'.ownsRow w.heap.size 51 3 (.slice A r.length c) r.length (rowVals r) ∧ Below w.heap.size w w'
theorem NewR.row {r : Row} {w w' : World} {A : Option Addr} {c : Nat} (h : w'.ownsRow w.heap.size 51 3 (.slice A r.length c) r.length (rowVals r)) (hl : RowOk r) : RowS w' (New w w') A r := rows_of_owns hl h

set_option maxHeartbeats 400000 in
theorem clone_any (A : Option Addr) (ca : Nat) (r : Row) (S : Nat → Prop) (w : World) (h : RowS w S A r) :
    Calls Try.prog 55 #[.slice A r.length ca] w (NewR r w) := by
  have hl := h.len'
  have HR := Lib.hid h
  clear h
  obtain ⟨i0, hi, hz0, hz1, hz2⟩ := info_parts infoV
  rcases Nat.eq_zero_or_pos r.length with h0 | h0
  · have hr : r = [] := List.length_eq_zero_iff.1 h0
    subst hr
    go_enter Try.func55, Try.ntmps55
    go_wp2_with (at_builtin; refine wpList_append_empty _ rfl (.const (.slice none 0 0)) (.tmp 3) 27 rfl w.heap.size 51 i0 3 Try.underlying27 hi (.slice none 0 0) 0 [] rfl (World.ownsRow_nil _ _ _ _) A ca rfl ?_)
    go_ret
    exact ⟨none, 0, rfl, World.ownsRow_nil _ _ _ _, Below.refl _ _⟩
  · obtain ⟨b, off, rfl, hb, hc⟩ := HR.out.vals h0
    have HC := Lib.hid hc
    clear hc
    go_enter Try.func55, Try.ntmps55
    go_wp2_with (at_builtin; refine wpList_append_slice _ rfl (.const (.slice none 0 0)) (.tmp 3) 27 rfl w.heap.size 51 i0 _ 3 32 Try.underlying27 hi hz0 hz1 hz2 rfl (by decide) (.slice none 0 0) 0 [] rfl (World.ownsRow_nil _ _ _ _) ⟨b, off, none⟩ r.length ca (rowVals r) rfl (rowVals_len r) HC.out (rowVals_one r) (by unfold maxLen; omega) (by omega) (Nat.le_refl _) ?_; intro A1 c1 w1 hown1 hg1)
    rw [List.nil_append] at hown1
    rw [Nat.zero_add] at hown1
    go_ret
    exact ⟨A1, c1, rfl, hown1, (Below.refl _ _).grown hg1 (Nat.le_refl _) (by simp [Value.ownBlock])⟩

set_option maxHeartbeats 400000 in
theorem rcopy_any (A : Option Addr) (ca : Nat) (r : Row) (S : Nat → Prop) (w : World) (h : RowS w S A r) :
    Calls Try.prog 67 #[.slice A r.length ca] w (NewR r w) := by
  have hl := h.len'
  have HR := Lib.hid h
  clear h
  obtain ⟨i0, hi, hz0, hz1, hz2⟩ := info_parts infoV
  rcases Nat.eq_zero_or_pos r.length with h0 | h0
  · have hr : r = [] := List.length_eq_zero_iff.1 h0
    subst hr
    go_enter Try.func67, Try.ntmps67
    go_wp2_with (at_builtin; refine wpList_append_empty _ rfl (.const (.slice none 0 0)) (.tmp 3) 27 rfl w.heap.size 51 i0 3 Try.underlying27 hi (.slice none 0 0) 0 [] rfl (World.ownsRow_nil _ _ _ _) A ca rfl ?_)
    go_ret
    exact ⟨none, 0, rfl, World.ownsRow_nil _ _ _ _, Below.refl _ _⟩
  · obtain ⟨b, off, rfl, hb, hc⟩ := HR.out.vals h0
    have HC := Lib.hid hc
    clear hc
    go_enter Try.func67, Try.ntmps67
    go_wp2_with (at_builtin; refine wpList_append_slice _ rfl (.const (.slice none 0 0)) (.tmp 3) 27 rfl w.heap.size 51 i0 _ 3 32 Try.underlying27 hi hz0 hz1 hz2 rfl (by decide) (.slice none 0 0) 0 [] rfl (World.ownsRow_nil _ _ _ _) ⟨b, off, none⟩ r.length ca (rowVals r) rfl (rowVals_len r) HC.out (rowVals_one r) (by unfold maxLen; omega) (by omega) (Nat.le_refl _) ?_; intro A1 c1 w1 hown1 hg1)
    rw [List.nil_append] at hown1
    rw [Nat.zero_add] at hown1
    go_ret
    exact ⟨A1, c1, rfl, hown1, (Below.refl _ _).grown hg1 (Nat.le_refl _) (by simp [Value.ownBlock])⟩

set_option maxHeartbeats 400000 in
theorem equal_any (A B : Option Addr) (ca cb : Nat) (a b : Row) (S : Nat → Prop) (w : World) (ha : RowS w S A a) (hb : RowS w S B b) (hS : ∀ b, S b → b < w.heap.size) :
    Calls Try.prog 77 #[.slice A a.length ca, .slice B b.length cb] w (BoolBel (cmpR a b == 0) w) := by
  go_enter Try.func77, Try.ntmps77
  go_wp2_with fail
  refine (compareRows_any A B ca cb a b S w ha hb hS).mono ?_
  rintro e w1 ⟨rfl, hb1⟩
  obtain ⟨cv, hcv⟩ : ∃ cv, cmpR a b = cv := ⟨_, rfl⟩
  have HF := Lib.hid hcv
  rw [hcv]
  clear hcv
  go_wp2_with fail
  go_ret
  exact ⟨by rw [HF.out]; rfl, hb1⟩

/-- The key of a row of a table. -/
def keyN (k : Int) (r : Row) : Nat := (max 0 (min k r.length)).toNat
def keyF (s : Sch) (t : Int) (r : Row) : Row := if hasN s.tabs.length t then r.take (keyN (s.tabs.getD t.toNat t0).key r) else []
/-- A part of the row's own memory. -/
def Sub (A : Option Addr) (r : Row) (w : World) (e : Ending) (w' : World) : Prop := ∃ A' c, e = .returned (.slice A' r.length c) ∧ (0 < r.length → A' = A) ∧ Below w.heap.size w w'
theorem RowS.take {w : World} {S : Nat → Prop} {A : Option Addr} {r : Row} (h : RowS w S A r) (k : Nat) {A' : Option Addr} (e : 0 < (r.take k).length → A' = A) : RowS w S A' (r.take k) := by
  refine ⟨?_, fun hn => ?_⟩
  · have := h.1
    rw [bytesAll_map (n := 32) (fun _ => rfl)] at this ⊢
    simp only [List.length_take]
    omega
  · have hn' : 0 < (r.take k).length := by simpa using hn
    obtain ⟨b, off, e1, hb, hc⟩ := h.vals (by simp at hn'; omega)
    refine ⟨b, off, (e hn').trans e1, hb, held_of_vals _ b off (fun v hv => h.ok.2 v (List.mem_of_mem_take hv)) (fun j u hu => ?_)⟩
    have hv : ∀ (r : Row) (k j : Nat) (u : Value), (rowVals (r.take k))[j]? = some u → (rowVals r)[j]? = some u := by
      intro r
      induction r with
      | nil => intro k j u hu; simpa using hu
      | cons v r ih =>
        intro k j u hu
        cases k with
        | zero => simp [rowVals] at hu
        | succ k =>
          rw [List.take_succ_cons] at hu
          match j, hu with
          | 0, hu => exact hu
          | 1, hu => exact hu
          | 2, hu => exact hu
          | j + 3, hu =>
            simp only [rowVals, List.getElem?_cons_succ] at hu ⊢
            exact ih k j u hu
    have := hc j u (hv r k j u hu)
    rw [add_none] at this
    exact this
theorem RowS.key {w : World} {S : Nat → Prop} {A : Option Addr} {r : Row} (h : RowS w S A r) (s : Sch) (t : Int) {A' : Option Addr} (e : 0 < (keyF s t r).length → A' = A) : RowS w S A' (keyF s t r) := by
  unfold keyF at e ⊢
  split
  · rename_i hh
    rw [if_pos hh] at e
    exact h.take _ e
  · exact RowS.nil_

set_option maxHeartbeats 600000 in
theorem prefix_any (A0 : Option Addr) (c0' : Nat) (s : Sch) (t : Int) (A : Option Addr) (ca : Nat) (r : Row) (S : Nat → Prop) (w : World) (hs : TabS w S A0 s.tabs) (hr : RowS w S A r) (hca : r.length ≤ ca) (hS : ∀ b, S b → b < w.heap.size) :
    Calls Try.prog 61 #[sAgg s.version A0 s.tabs.length c0', .int .i64 t, .slice A r.length ca] w (Sub A (keyF s t r) w) := by
  have hsl := hs.len
  have hrl := hr.len
  have HS := Lib.hid hs
  have HR := Lib.hid hr
  clear hs hr
  have HB1 := Lib.hid ((Below.refl w.heap.size w).alloc (Nat.le_refl _) (.cells #[.int .i64 s.version, .slice A0 s.tabs.length c0'] 25))
  by_cases hh : hasN s.tabs.length t = true
  · have HKF := Lib.hid (show keyF s t r = r.take (keyN (s.tabs.getD t.toNat t0).key r) by unfold keyF; rw [if_pos hh])
    have hh0 : 0 ≤ t ∧ t < s.tabs.length := by simpa [hasN] using hh
    clear hh
    obtain ⟨tt, rfl⟩ := Int.eq_ofNat_of_zero_le hh0.1
    rw [Int.toNat_natCast] at HKF
    have htl : tt < s.tabs.length := by omega
    obtain ⟨b2, o2, rfl, hb2, A1, A2, A3, c1, c2, c3, hta⟩ := HS.out.at_ htl
    have k1 := hta.key
    have hl2 : b2 < w.heap.size := hS b2 hb2
    clear hta
    generalize s.tabs.getD tt t0 = tb at k1 HKF
    obtain ⟨tn, tc, tk, tr, tp⟩ := tb
    simp only at k1 HKF
    have hd1 : decide ((tt : Int) < 0) = false := by simp
    have hd2 : decide (s.tabs.length ≤ tt) = false := by simp; omega
    have HL := Lib.hid (show keyN tk r ≤ r.length by unfold keyN; omega)
    go_enter Try.func61, Try.ntmps61
    go_wp2_with fail
    go_ret
    rw [HKF.out]
    exact ⟨A, ca, by rw [List.length_take, Nat.min_eq_left HL.out]; rfl, fun h => rfl, HB1.out⟩
  · have HKF := Lib.hid (show keyF s t r = [] by unfold keyF; rw [if_neg hh])
    have hh' : t < 0 ∨ (s.tabs.length : Int) ≤ t := by
      have : hasN s.tabs.length t = false := by simpa using hh
      simp [hasN] at this
      omega
    clear hh
    by_cases h0 : t < 0
    · have hd1 : decide (t < 0) = true := by simp [h0]
      go_enter Try.func61, Try.ntmps61
      go_wp2_with fail
      go_ret
      rw [HKF.out]
      exact ⟨none, 0, rfl, fun h => absurd h (by simp), HB1.out⟩
    · have hd1 : decide (t < 0) = false := by simpa using h0
      have hd2 : decide ((s.tabs.length : Int) ≤ t) = true := by simp; omega
      go_enter Try.func61, Try.ntmps61
      go_wp2_with fail
      go_ret
      rw [HKF.out]
      exact ⟨none, 0, rfl, fun h => absurd h (by simp), HB1.out⟩
end Go.Proofs.Ytkpjjfhfbpfjpaa
