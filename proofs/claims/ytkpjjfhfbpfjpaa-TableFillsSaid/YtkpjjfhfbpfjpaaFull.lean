/- append onto a slice that is full: a new block. Lists of rows as lists of slice values. -/
import Derived.Test.YtkpjjfhfbpfjpaaBin
namespace Go.Proofs.Ytkpjjfhfbpfjpaa
open Go.RowKit
set_option linter.unusedVariables false

theorem run_append_full {P : Program} (w : World) (t ty e : TypeId) (i : TypeInfo) (z : Value) (size bytes : Nat) (ht : P.underlying t = some (.slice e)) (hi : P.info? e = some i) (hz : i.zero = some z)
    (hsize : i.size = size) (hby : i.bytes = bytes) (hzs : z.cells.size = size) (hsz : 0 < size)
    (A : Option Addr) (n : Nat) (olds : List Value) (hlo : olds.length = n * size) (hA : 0 < n → ∃ b, A = some b ∧ ∀ j u, olds[j]? = some u → w.cell? (b.add j) = some u)
    (ad : Addr) (m c : Nat) (news : List Value) (hl : news.length = m * size) (hnews : ∀ j u, news[j]? = some u → w.cell? (ad.add j) = some u)
    (hm : 0 < m) (h63 : n + m ≤ maxLen) (hbytes : (n + m) * bytes ≤ 140737488355328) :
    ∃ cap w', (Builtin.append_ #[t, t] ty #[.slice A n n, .slice (some ad) m c]).run P w = .ok (.slice (some ⟨w.heap.size, 0, none⟩) (n + m) cap) w' ∧
      w'.ownsRow w.heap.size e size (.slice (some ⟨w.heap.size, 0, none⟩) (n + m) cap) (n + m) (olds ++ news) ∧ w.grownBy w' none ∧ w'.heap.size = w.heap.size + 1 := by
  subst hsize
  subst hby
  have hsmall : n + m ≤ 9223372036854775807 := by simp only [maxLen] at h63; omega
  have hlen : (olds ++ news).length = (n + m) * i.size := by rw [List.length_append, hlo, hl, Nat.add_mul]
  have hge := grownCap_ge w (n + m) n e
  have hcm : grownCap w (n + m) n e ≤ maxLen := grownCap_le_maxLen w (n + m) n e h63
  have hrun : (Builtin.append_ #[t, t] ty #[.slice A n n, .slice (some ad) m c]).run P w = .ok (.slice (some ⟨w.heap.size, 0, none⟩) (n + m) (grownCap w (n + m) n e)) (w.drew.alloc (.cells (olds.toArray ++ news.toArray ++ Builtin.zeroCells z.cells (grownCap w (n + m) n e - (n + m))) e)) := by
    cases A with
    | none =>
      have hn : n = 0 := by
        rcases Nat.eq_zero_or_pos n with h | h
        · exact h
        · obtain ⟨b, h1, _⟩ := hA h; cases h1
      subst hn
      have ho : olds = [] := List.eq_nil_of_length_eq_zero (by simpa using hlo)
      subst ho
      have hr := run_append_nil (P := P) w t ty e i z ht hi hz ad m c news hl hnews (by omega) (by omega) (by have hb := hbytes; simp only [Nat.zero_add] at hb; omega)
      simpa using hr
    | some b =>
      refine run_append_grow (P := P) w t ty e i z ht hi hz b n n olds hlo ?_ ad m c news hl hnews (by omega) (by omega) (growslice_fits (by omega) hbytes)
      intro j u hu
      rcases Nat.eq_zero_or_pos n with h | h
      · subst h
        have ho : olds = [] := List.eq_nil_of_length_eq_zero (by simpa using hlo)
        subst ho
        simp at hu
      · obtain ⟨b', h1, h2⟩ := hA h
        injection h1 with h1
        subst h1
        exact h2 j u hu
  refine ⟨_, _, hrun, ⟨hlen, .inr ⟨w.heap.size, _, _, rfl, Nat.le_refl _, heap_alloc_new w.drew _, hge, hcm, ?_, ?_⟩⟩, ⟨rfl, rfl, rfl, by simp, fun k hk _ => Below.heap_alloc w.drew _ _ hk⟩, by simp⟩
  · simp only [Array.size_append, List.size_toArray, size_zeroCells, hzs, hlo, hl, ← Nat.add_mul]
    congr 1
    omega
  · simp only [Array.toList_append, List.append_assoc]
    rw [← List.append_assoc, ← hlen]
    exact List.take_left
theorem wpList_append_full {P : Program} (w : World) {ops : Array Oper} {rest : List Oper} {o : Oper} {a : Act} {Q : Exit → Act → World → Prop} (hgd : o.guard = none) (s x : Operand) (t : TypeId)
    (ho : o.op = .call { callee := .builtin .append, args := #[s, x], argTypes := #[t, t] })
    (e : TypeId) (i : TypeInfo) (z : Value) (size bytes : Nat) (ht : P.underlying t = some (.slice e)) (hi : P.info? e = some i) (hz : i.zero = some z)
    (hsize : i.size = size) (hby : i.bytes = bytes) (hzs : z.cells.size = size) (hsz : 0 < size)
    (A : Option Addr) (n : Nat) (olds : List Value) (hs : a.eval s = .slice A n n) (hlo : olds.length = n * size) (hA : 0 < n → ∃ b, A = some b ∧ ∀ j u, olds[j]? = some u → w.cell? (b.add j) = some u)
    (ad : Addr) (m c : Nat) (news : List Value) (hx : a.eval x = .slice (some ad) m c) (hl : news.length = m * size) (hnews : ∀ j u, news[j]? = some u → w.cell? (ad.add j) = some u)
    (hm : 0 < m) (h63 : n + m ≤ maxLen) (hbytes : (n + m) * bytes ≤ 140737488355328)
    (h : ∀ cap w', w'.ownsRow w.heap.size e size (.slice (some ⟨w.heap.size, 0, none⟩) (n + m) cap) (n + m) (olds ++ news) → w.grownBy w' none → w'.heap.size = w.heap.size + 1 → wpList P ops Q rest (a.put o.dst (.slice (some ⟨w.heap.size, 0, none⟩) (n + m) cap)) w') : wpList P ops Q (o :: rest) a w := by
  refine wpList_plain hgd fun K hK => ?_
  obtain ⟨cap, w', hr, h2, h3, h4⟩ := run_append_full (P := P) w t o.type e i z size bytes ht hi hz hsize hby hzs hsz A n olds hlo hA ad m c news hl hnews hm h63 hbytes
  unfold Oper.wp execOp
  simp only [ho, resolve, invoke, builtin, Sem.run_bind, Sem.run_pure, Result.andThen_ok, List.map_toArray, List.map_cons, List.map_nil, hs, hx, hr]
  exact hK _ _ (h cap w' h2 h3 h4)
/-- append of nothing onto any slice with room for it. -/
theorem run_append_none {P : Program} {w : World} (t ty e : TypeId) (i : TypeInfo) (ht : P.underlying t = some (.slice e)) (hi : P.info? e = some i)
    (A : Option Addr) (n : Nat) (B : Option Addr) (c : Nat) :
    (Builtin.append_ #[t, t] ty #[.slice A n n, .slice B 0 c]).run P w = .ok (.slice A n n) w := by
  cases A <;> cases B <;> simp [Builtin.append_, run_underlying ht, sizeOf, typeInfo, hi, Builtin.lenOf, Builtin.firstCells, storeCells, loadCells, loadCellsFrom]
theorem wpList_append_none {P : Program} (w : World) {ops : Array Oper} {rest : List Oper} {o : Oper} {a : Act} {Q : Exit → Act → World → Prop} (hgd : o.guard = none) (s x : Operand) (t : TypeId)
    (ho : o.op = .call { callee := .builtin .append, args := #[s, x], argTypes := #[t, t] })
    (e : TypeId) (i : TypeInfo) (ht : P.underlying t = some (.slice e)) (hi : P.info? e = some i)
    (A : Option Addr) (n : Nat) (hs : a.eval s = .slice A n n) (B : Option Addr) (c : Nat) (hx : a.eval x = .slice B 0 c)
    (h : wpList P ops Q rest (a.put o.dst (.slice A n n)) w) : wpList P ops Q (o :: rest) a w := by
  refine wpList_plain hgd fun K hK => ?_
  have hrun := run_append_none (P := P) (w := w) t o.type e i ht hi A n B c
  unfold Oper.wp
  simp [execOp, ho, resolve, invoke, builtin, hs, hx, hrun, Result.andThen]
  exact hK _ _ h

/-! ### Rows as values -/
def RV (w : World) (S : Nat → Prop) (v : Value) (r : Row) : Prop := ∃ A c, v = .slice A r.length c ∧ r.length ≤ c ∧ RowS w S A r
def RVs (w : World) (S : Nat → Prop) : List Value → List Row → Prop
  | [], [] => True
  | v :: vs, r :: rs => RV w S v r ∧ RVs w S vs rs
  | _, _ => False
section
variable {w w' : World} {S S' : Nat → Prop}
theorem RV.keep {v : Value} {r : Row} (h : RV w S v r) (hk : Same S w w') : RV w' S v r := by
  obtain ⟨A, c, h1, h2, h3⟩ := h
  exact ⟨A, c, h1, h2, h3.keep hk⟩
theorem RV.more {v : Value} {r : Row} (h : RV w S v r) (hS : ∀ b, S b → S' b) : RV w S' v r := by
  obtain ⟨A, c, h1, h2, h3⟩ := h
  exact ⟨A, c, h1, h2, h3.more hS⟩
theorem RVs.len : ∀ {vs : List Value} {rs : List Row}, RVs w S vs rs → vs.length = rs.length
  | [], [], _ => rfl
  | _ :: vs, _ :: rs, h => by simp [RVs.len h.2]
  | [], _ :: _, h => h.elim
  | _ :: _, [], h => h.elim
theorem RVs.keep : ∀ {vs : List Value} {rs : List Row}, RVs w S vs rs → Same S w w' → RVs w' S vs rs
  | [], [], _, _ => trivial
  | _ :: vs, _ :: rs, h, hk => ⟨h.1.keep hk, RVs.keep h.2 hk⟩
  | [], _ :: _, h, _ => h.elim
  | _ :: _, [], h, _ => h.elim
theorem RVs.more : ∀ {vs : List Value} {rs : List Row}, RVs w S vs rs → (∀ b, S b → S' b) → RVs w S' vs rs
  | [], [], _, _ => trivial
  | _ :: vs, _ :: rs, h, hk => ⟨h.1.more hk, RVs.more h.2 hk⟩
  | [], _ :: _, h, _ => h.elim
  | _ :: _, [], h, _ => h.elim
theorem RVs.append : ∀ {vs : List Value} {rs : List Row} {vs' : List Value} {rs' : List Row}, RVs w S vs rs → RVs w S vs' rs' → RVs w S (vs ++ vs') (rs ++ rs')
  | [], [], _, _, _, h => h
  | _ :: vs, _ :: rs, _, _, h, h' => ⟨h.1, RVs.append h.2 h'⟩
  | [], _ :: _, _, _, h, _ => h.elim
  | _ :: _, [], _, _, h, _ => h.elim
theorem RVs.take : ∀ {vs : List Value} {rs : List Row} (k : Nat), RVs w S vs rs → RVs w S (vs.take k) (rs.take k)
  | _, _, 0, _ => by simp [RVs]
  | [], [], k + 1, _ => by simp [RVs]
  | _ :: vs, _ :: rs, k + 1, h => ⟨h.1, RVs.take k h.2⟩
  | [], _ :: _, _ + 1, h => h.elim
  | _ :: _, [], _ + 1, h => h.elim
theorem RVs.drop : ∀ {vs : List Value} {rs : List Row} (k : Nat), RVs w S vs rs → RVs w S (vs.drop k) (rs.drop k)
  | _, _, 0, h => by simpa using h
  | [], [], k + 1, _ => by simp [RVs]
  | _ :: vs, _ :: rs, k + 1, h => RVs.drop k h.2
  | [], _ :: _, _ + 1, h => h.elim
  | _ :: _, [], _ + 1, h => h.elim
theorem RVs.one : ∀ {vs : List Value} {rs : List Row}, RVs w S vs rs → ∀ u ∈ vs, u.oneCell' = true
  | [], [], _, u, hu => by simp at hu
  | v :: vs, _ :: rs, h, u, hu => by
    rcases List.mem_cons.1 hu with rfl | hu
    · obtain ⟨A, c, rfl, _⟩ := h.1; rfl
    · exact RVs.one h.2 u hu
  | [], _ :: _, h, _, _ => h.elim
  | _ :: _, [], h, _, _ => h.elim
theorem heldAll_rows : ∀ (rs : List Row) (b off : Nat), Dat.HeldAll w S (rs.map encRow) b off → ∃ vs, RVs w S vs rs ∧ ∀ j u, vs[j]? = some u → w.cell? ⟨b, off + j, none⟩ = some u
  | [], _, _, _ => ⟨[], trivial, fun j u hu => by simp at hu⟩
  | r :: rs, b, off, h => by
    simp only [List.map_cons, Dat.HeldAll, encRow, Dat.Held, List.length_map, Dat.size] at h
    obtain ⟨⟨A', c, h2, h3, h4, h5⟩, h6⟩ := h
    obtain ⟨vs, h7, h8⟩ := heldAll_rows rs b (off + 1) h6
    refine ⟨.slice A' r.length c :: vs, ⟨⟨A', c, rfl, h3, ⟨by simpa using h4, by simpa using h5⟩⟩, h7⟩, fun j u hu => ?_⟩
    cases j with
    | zero => simp only [List.getElem?_cons_zero, Option.some.injEq] at hu; subst hu; exact h2
    | succ j =>
      rw [show off + (j + 1) = off + 1 + j by omega]
      exact h8 j u (by simpa using hu)
theorem heldAll_of_rvs : ∀ (vs : List Value) (rs : List Row) (b off : Nat), RVs w S vs rs → (∀ j u, vs[j]? = some u → w.cell? ⟨b, off + j, none⟩ = some u) → Dat.HeldAll w S (rs.map encRow) b off
  | [], [], _, _, _, _ => by simp [Dat.HeldAll]
  | v :: vs, r :: rs, b, off, h, hc => by
    obtain ⟨⟨A', c, e, h3, h4⟩, h7⟩ := h
    have h2 := hc 0 v rfl
    subst e
    simp only [List.map_cons, Dat.HeldAll, encRow, Dat.Held, List.length_map, Dat.size]
    refine ⟨⟨A', c, h2, h3, by simpa using h4.1, by simpa using h4.2⟩, heldAll_of_rvs vs rs b (off + 1) h7 (fun j u hu => ?_)⟩
    rw [show off + 1 + j = off + (j + 1) by omega]
    exact hc (j + 1) u (by simpa using hu)
  | [], _ :: _, _, _, h, _ => h.elim
  | _ :: _, [], _, _, h, _ => h.elim
theorem RowsS.vals {A : Option Addr} {rs : List Row} (h : RowsS w S A rs) : ∃ vs, RVs w S vs rs ∧ (0 < rs.length → ∃ b off, A = some ⟨b, off, none⟩ ∧ S b ∧ ∀ j u, vs[j]? = some u → w.cell? ⟨b, off + j, none⟩ = some u) := by
  rcases Nat.eq_zero_or_pos rs.length with h0 | h0
  · have : rs = [] := List.eq_nil_of_length_eq_zero h0
    subst this
    exact ⟨[], trivial, fun h => by simp at h⟩
  · obtain ⟨b, off, e, hb, hc⟩ := h.2 (by simpa using h0)
    obtain ⟨vs, h1, h2⟩ := heldAll_rows rs b off hc
    exact ⟨vs, h1, fun _ => ⟨b, off, e, hb, h2⟩⟩
theorem RowsS.of_vals {A : Option Addr} {rs : List Row} {vs : List Value} (hl : rs.length ≤ 5864062014805) (h : RVs w S vs rs) (hc : 0 < rs.length → ∃ b off, A = some ⟨b, off, none⟩ ∧ S b ∧ ∀ j u, vs[j]? = some u → w.cell? ⟨b, off + j, none⟩ = some u) : RowsS w S A rs := by
  refine ⟨by rw [bytesAll_map (n := 24) (fun _ => rfl)]; omega, fun hn => ?_⟩
  obtain ⟨b, off, e, hb, h1⟩ := hc (by simpa using hn)
  exact ⟨b, off, e, hb, heldAll_of_rvs vs rs b off h h1⟩
end
end Go.Proofs.Ytkpjjfhfbpfjpaa
