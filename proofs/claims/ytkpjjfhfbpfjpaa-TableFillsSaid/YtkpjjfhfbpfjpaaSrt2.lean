/- Contracts: insertion sort of changes in place; slices.SortStableFunc of few changes. -/
import Derived.Test.YtkpjjfhfbpfjpaaSort
namespace Go.Proofs.Ytkpjjfhfbpfjpaa
open Go.RowKit
set_option linter.unusedVariables false
set_option linter.unusedSimpArgs false

section
variable {w : World} {base n c g : Nat} {S : Nat → Prop}
theorem OwnD.chgs {v : Value} {A : Option Addr} {l : List Chg} (h : OwnD w base 53 3 S (.slice A n c) (l.map encChg)) (hl : l.length ≤ 2513169434916) : n = l.length ∧ n ≤ c ∧ ChgS w (fun b => S b ∨ some b = (Value.slice A n c).ownBlock) A l := by
  have := h.slice (S' := fun b => S b ∨ some b = (Value.slice A n c).ownBlock) (by rw [bytesAll_map (n := 56) (fun _ => rfl)]; omega) (fun b hb => .inl hb) (fun g _ _ e => .inr e.symm)
  rw [List.length_map] at this
  exact this
theorem vals3 {ch : Chg} {vs : List Value} (h : Dat.Vals w S (encChg ch) vs) : ∃ x y z, vs = [x, y, z] := by
  have := Dat.Vals.len _ _ h
  rw [encChg_size] at this
  match vs, this with
  | [x, y, z], _ => exact ⟨x, y, z, rfl⟩
theorem set6 (p q : List Value) (x0 x1 x2 y0 y1 y2 : Value) :
    ((((((p ++ x0 :: x1 :: x2 :: y0 :: y1 :: y2 :: q).set (p.length + 3) x0).set (p.length + 3 + 1) x1).set (p.length + 3 + 2) x2).set p.length y0).set (p.length + 1) y1).set (p.length + 2) y2 = p ++ y0 :: y1 :: y2 :: x0 :: x1 :: x2 :: q := by
  induction p with
  | nil => rfl
  | cons a p ih =>
    rw [List.length_cons, show p.length + 1 + 3 = p.length + 3 + 1 by omega, show p.length + 3 + 1 + 1 = (p.length + 3 + 1) + 1 by omega, show p.length + 3 + 1 + 2 = (p.length + 3 + 2) + 1 by omega, show p.length + 1 + 1 = (p.length + 1) + 1 by omega, show p.length + 1 + 2 = (p.length + 2) + 1 by omega]
    simp only [List.cons_append, List.set_cons_succ]
    rw [ih]
theorem OwnD.swap {p q : List Chg} {a b : Chg} {x0 x1 x2 y0 y1 y2 : Value} (h : OwnD w base 53 3 S (.slice (some ⟨g, 0, none⟩) n c) ((p ++ a :: b :: q).map encChg)) (hn : n = (p ++ a :: b :: q).length)
    (hx0 : w.cell? ⟨g, p.length * 3, none⟩ = some x0) (hx1 : w.cell? ⟨g, p.length * 3 + 1, none⟩ = some x1) (hx2 : w.cell? ⟨g, p.length * 3 + 2, none⟩ = some x2)
    (hy0 : w.cell? ⟨g, (p.length + 1) * 3, none⟩ = some y0) (hy1 : w.cell? ⟨g, (p.length + 1) * 3 + 1, none⟩ = some y1) (hy2 : w.cell? ⟨g, (p.length + 1) * 3 + 2, none⟩ = some y2) :
    OwnD ((((((w.setCell ⟨g, (p.length + 1) * 3, none⟩ x0).setCell ⟨g, (p.length + 1) * 3 + 1, none⟩ x1).setCell ⟨g, (p.length + 1) * 3 + 2, none⟩ x2).setCell ⟨g, p.length * 3, none⟩ y0).setCell ⟨g, p.length * 3 + 1, none⟩ y1).setCell ⟨g, p.length * 3 + 2, none⟩ y2)
      base 53 3 S (.slice (some ⟨g, 0, none⟩) n c) ((p ++ b :: a :: q).map encChg) := by
  rw [show (p.length + 1) * 3 = p.length * 3 + 3 by omega] at *
  obtain ⟨vals, h1, h2, h3⟩ := h
  rw [List.length_map, ← hn] at h1
  have hl : (p ++ b :: a :: q).length = n := by rw [hn]; simp
  rw [List.map_append, List.map_cons, List.map_cons] at h2
  obtain ⟨vp, v', e1, h4, h5⟩ := valsAll_split h2
  unfold Dat.ValsAll at h5
  obtain ⟨va, v'', e2, h6, h7⟩ := h5
  unfold Dat.ValsAll at h7
  obtain ⟨vb, vq, e3, h8, h9⟩ := h7
  obtain ⟨z0, z1, z2, e4⟩ := vals3 h6
  obtain ⟨u0, u1, u2, e5⟩ := vals3 h8
  subst e4 e5 e3 e2 e1
  have hpl : vp.length = p.length * 3 := by rw [Dat.ValsAll.len _ _ h4, sizes_map encChg_size]
  have hbnd : p.length * 3 + 6 ≤ n * 3 := by rw [hn]; simp; omega
  have hc : ∀ i, i < 6 → w.cell? ⟨g, p.length * 3 + i, none⟩ = ([z0, z1, z2, u0, u1, u2] ++ vq)[i]? := fun i hi => by
    rw [h1.cellAt _ (by omega), List.getElem?_append_right (by omega)]
    simp [hpl]
  have e0 : z0 = x0 := by have := (hc 0 (by omega)).symm.trans hx0; simpa using this
  have e1 : z1 = x1 := by have := (hc 1 (by omega)).symm.trans hx1; simpa using this
  have e2 : z2 = x2 := by have := (hc 2 (by omega)).symm.trans hx2; simpa using this
  have e3 : u0 = y0 := by have := (hc 3 (by omega)).symm.trans hy0; simpa using this
  have e4 : u1 = y1 := by have := (hc 4 (by omega)).symm.trans hy1; simpa using this
  have e5 : u2 = y2 := by have := (hc 5 (by omega)).symm.trans hy2; simpa using this
  subst e0 e1 e2 e3 e4 e5
  have hst := ((((((h1.stored (p.length * 3 + 3) z0).1.stored (p.length * 3 + 3 + 1) z1).1.stored (p.length * 3 + 3 + 2) z2).1.stored (p.length * 3) u0).1.stored (p.length * 3 + 1) u1).1.stored (p.length * 3 + 2) u2).1
  have hk : Same S w ((((((w.setCell ⟨g, p.length * 3 + 3, none⟩ z0).setCell ⟨g, p.length * 3 + 3 + 1, none⟩ z1).setCell ⟨g, p.length * 3 + 3 + 2, none⟩ z2).setCell ⟨g, p.length * 3, none⟩ u0).setCell ⟨g, p.length * 3 + 1, none⟩ u1).setCell ⟨g, p.length * 3 + 2, none⟩ u2) := fun b hb => by
    have hne : b ≠ g := fun e => (h3 b hb).2 (by subst e; rfl)
    iterate 6 rw [Below.heap_setCell _ _ _ b hne]
  rw [← hpl] at hst
  simp only [List.cons_append, List.nil_append] at hst
  rw [set6] at hst
  rw [hpl] at hst
  refine ⟨_, by rw [List.length_map, hl]; exact hst, ?_, fun b hb => ⟨by simpa using (h3 b hb).1, (h3 b hb).2⟩⟩
  rw [List.map_append, List.map_cons, List.map_cons]
  refine valsAll_append (Dat.ValsAll.keep hk _ _ h4) ?_
  unfold Dat.ValsAll
  refine ⟨[u0, u1, u2], z0 :: z1 :: z2 :: vq, rfl, Dat.Vals.keep hk _ _ h8, ?_⟩
  unfold Dat.ValsAll
  exact ⟨[z0, z1, z2], vq, rfl, Dat.Vals.keep hk _ _ h6, Dat.ValsAll.keep hk _ _ h9⟩
end
end Go.Proofs.Ytkpjjfhfbpfjpaa
