/- The example of the chapter, in memory; and what is computed of it. -/
import Derived.Test.YtkpjjfhfbpfjpaaWith
namespace Go.Proofs.Ytkpjjfhfbpfjpaa
open Go.RowKit
set_option linter.unusedVariables false
set_option linter.unusedSimpArgs false

theorem allocs_at : ∀ (os : List Obj) (w : World) (k : Nat), k < os.length → (os.foldl World.alloc w).heap[w.heap.size + k]? = os[k]?
  | [], _, k, h => by simp at h
  | o :: os, w, 0, _ => by
    have h2 : ∀ (os : List Obj) (w : World) (b : Nat), b < w.heap.size → (os.foldl World.alloc w).heap[b]? = w.heap[b]? := by
      intro os
      induction os with
      | nil => intro w b hb; rfl
      | cons o os ih => intro w b hb; rw [List.foldl_cons, ih _ _ (by simp; omega)]; exact Below.heap_alloc w o b hb
    rw [List.foldl_cons, h2 os _ _ (by simp)]
    exact heap_alloc_new w o
  | o :: os, w, k + 1, h => by
    have := allocs_at os (w.alloc o) k (by simpa using h)
    rw [World.size_alloc, show w.heap.size + 1 + k = w.heap.size + (k + 1) by omega] at this
    exact this
theorem allocs_below : ∀ (os : List Obj) (w : World), Below w.heap.size w (os.foldl World.alloc w) ∧ (os.foldl World.alloc w).heap.size = w.heap.size + os.length
  | [], w => ⟨Below.refl _ _, rfl⟩
  | o :: os, w => by
    obtain ⟨h1, h2⟩ := allocs_below os (w.alloc o)
    refine ⟨((Below.refl _ w).alloc (Nat.le_refl _) o).trans (h1.mono (by simp)), ?_⟩
    rw [List.foldl_cons, h2, World.size_alloc, List.length_cons]
    omega
def rowN (i : Int) (t : ByteArray) : Row := [⟨4, i, ⟨#[]⟩⟩, ⟨5, 0, t⟩]
def rowCells (i : Int) (t : ByteArray) : Array Value := #[.int .i64 4, .int .i64 i, .string ⟨#[]⟩, .int .i64 5, .int .i64 0, .string t]
abbrev tA : ByteArray := ⟨#[97]⟩
abbrev tB : ByteArray := ⟨#[98]⟩
abbrev tC : ByteArray := ⟨#[99]⟩
def colsB : List Col := [⟨⟨#[105, 100]⟩, 4⟩, ⟨⟨#[110, 97, 109, 101]⟩, 5⟩]
def sB : Sch := ⟨0, [⟨⟨#[116]⟩, colsB, 1, [], []⟩]⟩
def stB : St := [[rowN 1 tA]]
def bothC : List Chg := [⟨0, [], rowN 2 tB⟩, ⟨0, rowN 2 tB, []⟩]
def oneC : List Chg := [⟨0, [], rowN 1 tC⟩]
def begOs (n : Nat) : List Obj := [
  .cells #[.string ⟨#[105, 100]⟩, .int .i64 4, .string ⟨#[110, 97, 109, 101]⟩, .int .i64 5] 34 (0, 0),
  .cells #[.string ⟨#[116]⟩, .slice (some ⟨n, 0, none⟩) 2 2, .int .i64 1, .slice none 0 0, .slice none 0 0] 39 (0, 0),
  .cells #[.int .i64 0, .slice (some ⟨n + 1, 0, none⟩) 1 1] 25 (0, 0),
  .cells (rowCells 1 tA) 51 (0, 0),
  .cells #[.slice (some ⟨n + 3, 0, none⟩) 2 2] 27 (0, 0),
  .cells #[.slice (some ⟨n + 4, 0, none⟩) 1 1] 49 (0, 0),
  .cells #[.slice (some ⟨n + 5, 0, none⟩) 1 1] 56 (0, 0),
  .cells (rowCells 2 tB) 51 (0, 0),
  .cells (rowCells 2 tB) 51 (0, 0),
  .cells #[.int .i64 0, .slice none 0 0, .slice (some ⟨n + 7, 0, none⟩) 2 2, .int .i64 0, .slice (some ⟨n + 8, 0, none⟩) 2 2, .slice none 0 0] 53 (0, 0)]
section
variable {w : World} {S : Nat → Prop}
theorem cells_of_block {b : Nat} {cs : Array Value} {t : TypeId} (h : w.heap[b]? = some (.cells cs t (0, 0))) : CellsAt w b 0 cs.toList := fun j u hu => by
  rw [Nat.zero_add]
  simp only [World.cell?, h]
  simpa using hu
theorem row_block {b : Nat} {i : Int} {t : ByteArray} (h : w.heap[b]? = some (.cells (rowCells i t) 51 (0, 0))) (hS : S b) (ht : t.size ≤ 64) : RowS w S (some ⟨b, 0, none⟩) (rowN i t) := by
  refine ⟨by rw [bytesAll_map (n := 32) (fun _ => rfl)]; simp [rowN], fun _ => ⟨b, 0, rfl, hS, held_of_vals _ b 0 (fun v hv => ?_) (fun j u hu => cells_of_block h j u hu)⟩⟩
  simp only [rowN, List.mem_cons, List.not_mem_nil, or_false] at hv
  rcases hv with rfl | rfl
  · show (⟨#[]⟩ : ByteArray).size ≤ _; decide
  · show t.size ≤ _; omega
theorem rows_block {b : Nat} {A : Option Addr} {c : Nat} {r : Row} (h : w.heap[b]? = some (.cells #[.slice A r.length c] 27 (0, 0))) (hS : S b) (hc : r.length ≤ c) (hr : RowS w S A r) : RowsS w S (some ⟨b, 0, none⟩) [r] :=
  Sl.of_vals (vs := [.slice A r.length c]) (by rw [bytesAll_map (n := 24) (fun _ => rfl)]; simp) (valsAll_one (vals_row hc hr)) (fun _ => ⟨b, 0, rfl, hS, cells_of_block h⟩)
theorem st_block {b : Nat} {A : Option Addr} {c : Nat} {l : List Row} (h : w.heap[b]? = some (.cells #[.slice A l.length c] 49 (0, 0))) (hS : S b) (hc : l.length ≤ c) (hr : RowsS w S A l) : StS w S (some ⟨b, 0, none⟩) [l] := by
  refine Sl.of_vals (vs := [.slice A l.length c]) (by rw [bytesAll_map (n := 24) (fun _ => rfl)]; simp) (valsAll_one ?_) (fun _ => ⟨b, 0, rfl, hS, cells_of_block h⟩)
  unfold encRows Dat.Vals
  exact ⟨A, c, by simp, by simpa using hc, hr⟩
theorem col_block {b : Nat} (h : w.heap[b]? = some (.cells #[.string ⟨#[105, 100]⟩, .int .i64 4, .string ⟨#[110, 97, 109, 101]⟩, .int .i64 5] 34 (0, 0))) (hS : S b) : ColS w S (some ⟨b, 0, none⟩) colsB := by
  have hc := cells_of_block h
  refine ⟨by rw [bytesAll_map (n := 24) (fun _ => rfl)]; simp [colsB], fun _ => ⟨b, 0, rfl, hS, ?_⟩⟩
  simp only [colsB, List.map_cons, List.map_nil, encCol, Dat.HeldAll, Dat.Held, Dat.size, Dat.sizes, and_true, litOk_int, litOk_string]
  exact ⟨⟨⟨hc 0 _ rfl, by decide⟩, hc 1 _ rfl⟩, ⟨hc 2 _ rfl, by decide⟩, hc 3 _ rfl⟩
theorem tab_block {b : Nat} {A : Option Addr} {cols : List Col} {key : Int} {name : ByteArray} {n c : Nat} (h : w.heap[b]? = some (.cells #[.string name, .slice A n c, .int .i64 key, .slice none 0 0, .slice none 0 0] 39 (0, 0))) (hn : n = cols.length) (hnm : name.size ≤ 64) (hS : S b) (hc : cols.length ≤ c) (hr : ColS w S A cols) : TabS w S (some ⟨b, 0, none⟩) [⟨name, cols, key, [], []⟩] := by
  subst hn
  have hh := cells_of_block h
  refine ⟨by rw [bytesAll_map (n := 96) (fun _ => rfl)]; simp, fun _ => ⟨b, 0, rfl, hS, ?_⟩⟩
  simp only [List.map_cons, List.map_nil, encTab, Dat.HeldAll, Dat.Held, Dat.size, Dat.sizes, and_true, litOk_int, litOk_string, List.length_map, List.length_nil]
  refine ⟨⟨hh 0 _ rfl, by omega⟩, ⟨A, c, hh 1 _ rfl, hc, hr.1, fun h0 => hr.2 (by simpa using h0)⟩, hh 2 _ rfl, ⟨none, 0, hh 3 _ rfl, by omega, by simp [Dat.bytesAll], fun h => by omega⟩, ⟨none, 0, hh 4 _ rfl, by omega, by simp [Dat.bytesAll], fun h => by omega⟩⟩
end
def pc0 : List Int → Pred → Int := fun _ _ => 0
theorem preds_sB : SchPreds pc0 sB := by
  intro t ht p hp
  simp only [sB, List.mem_singleton] at ht
  subst ht
  simp at hp
theorem sch_sB : schF pc0 sB = 0 := by decide
theorem apply_both : applyF (schF pc0 sB) sB 1 stB bothC = (0, stB) := by kernel_rfl
theorem apply_one : applyF (schF pc0 sB) sB 1 stB oneC = (81, []) := by kernel_rfl
theorem net_both : netF (schF pc0 sB) sB 1 bothC = (0, []) := by kernel_rfl
theorem inside_sB : Inside sB stB stB := by
  intro t ht k hk
  have ht0 : t = 0 := by simp [stB] at ht; omega
  subst ht0
  have hk0 : k = 0 := by simp [stB] at hk; omega
  subst hk0
  exact ⟨by decide, by decide, rfl⟩
end Go.Proofs.Ytkpjjfhfbpfjpaa
