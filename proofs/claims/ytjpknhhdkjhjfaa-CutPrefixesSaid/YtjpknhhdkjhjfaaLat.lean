/- Lists of one length in memory: Join, Meet, Equal, under; the lattice's plain laws. -/
import Derived.Test.YtjpknhhdkjhjfaaBegun
import Derived.Test.YtjpknhhdkjhjfaaNew
namespace Go.Proofs.Ytjpknhhdkjhjfaa
open Go.RowKit
set_option linter.unusedVariables false

/-- A list of n numbers, none below 0, in memory. -/
def Has (W : World) (n : Nat) (A : Option Addr) (x : List Int) : Prop := x.length = n ∧ (∀ y ∈ x, 0 ≤ y) ∧ Ints W (fun b => b < W.heap.size) A x
theorem Has.keep {W W' : World} {n : Nat} {A : Option Addr} {x : List Int} (h : Has W n A x) (hb : Below W.heap.size W W') : Has W' n A x :=
  ⟨h.1, h.2.1, (h.2.2.keep (fun b hb' => hb.block b hb')).more (fun b hb' => Nat.lt_of_lt_of_le hb' hb.size)⟩
theorem Has.paired {W : World} {n : Nat} {A B : Option Addr} {x y : List Int} (hx : Has W n A x) (hy : Has W n B y) : pairedB x y = true := by
  simp only [pairedB, Bool.and_eq_true, decide_eq_true_eq, List.all_eq_true]
  exact ⟨⟨hx.1.trans hy.1.symm, hx.2.1⟩, hy.2.1⟩
def leB (x y : List Int) : Bool := !lessB y x x.length
theorem leB_iff {x y : List Int} : leB x y = true ↔ ∀ i, i < x.length → x.getD i 0 ≤ y.getD i 0 := by
  unfold leB lessB
  simp
theorem zip_getD (f : Int → Int → Int) {x y : List Int} {i : Nat} (hx : i < x.length) (hy : i < y.length) : (List.zipWith f x y).getD i 0 = f (x.getD i 0) (y.getD i 0) := by
  simp [List.getD, List.getElem?_zipWith, hx, hy]
theorem zip_len (f : Int → Int → Int) {x y : List Int} {n : Nat} (hx : x.length = n) (hy : y.length = n) : (List.zipWith f x y).length = n := by simp [hx, hy]
theorem zip_pos (f : Int → Int → Int) (hf : ∀ a b, f a b = a ∨ f a b = b) {x y : List Int} (hx : ∀ z ∈ x, 0 ≤ z) (hy : ∀ z ∈ y, 0 ≤ z) : ∀ z ∈ List.zipWith f x y, 0 ≤ z := by
  intro z hz
  obtain ⟨i, hi, rfl⟩ := List.mem_iff_getElem.1 hz
  simp at hi
  rw [List.getElem_zipWith]
  rcases hf x[i] y[i] with h | h <;> rw [h]
  · exact hx _ (List.getElem_mem _)
  · exact hy _ (List.getElem_mem _)
theorem max_or (a b : Int) : max a b = a ∨ max a b = b := by omega
theorem min_or (a b : Int) : min a b = a ∨ min a b = b := by omega

def ZipPost (f : Int → Int → Int) (n : Nat) (x y : List Int) (W : World) (e : Ending) (W' : World) : Prop :=
  ∃ A c, e = .returned (.tuple #[.slice A n c, .int .i64 0]) ∧ Has W' n A (List.zipWith f x y) ∧ Below W.heap.size W W'
theorem zip_post {f : Int → Int → Int} {n : Nat} {x y : List Int} {A B : Option Addr} {W : World} (hf : ∀ a b, f a b = a ∨ f a b = b) (hx : Has W n A x) (hy : Has W n B y) {e : Ending} {W' : World} (h : NewInts W (List.zipWith f x y) (pairE x y) e W') : ZipPost f n x y W e W' := by
  obtain ⟨A', c, rfl, hi, hb⟩ := h
  have hl := zip_len f hx.1 hy.1
  rw [hl, show pairE x y = 0 by simp [pairE, hx.paired hy]]
  exact ⟨A', c, rfl, ⟨hl, zip_pos f hf hx.2.1 hy.2.1, hi.more (fun b hb => hb.2)⟩, hb⟩
theorem join_has {n : Nat} {x y : List Int} {A B : Option Addr} {ca cb : Nat} {W : World} (hn : n ≤ 1000) (hx : Has W n A x) (hy : Has W n B y) : Calls Try.prog 32 #[.slice A n ca, .slice B n cb] W (ZipPost max n x y W) := by
  have h := join_any A B ca cb x y (fun b => b < W.heap.size) W hx.2.2 hy.2.2 (fun b hb => hb) (by rw [hx.1]; omega) (by rw [hy.1]; omega)
  rw [hx.1, hy.1, show joinL x y = List.zipWith max x y by simp [joinL, hx.paired hy]] at h
  exact h.mono fun e W' he => zip_post max_or hx hy he
theorem meet_has {n : Nat} {x y : List Int} {A B : Option Addr} {ca cb : Nat} {W : World} (hn : n ≤ 1000) (hx : Has W n A x) (hy : Has W n B y) : Calls Try.prog 33 #[.slice A n ca, .slice B n cb] W (ZipPost min n x y W) := by
  have h := meet_any A B ca cb x y (fun b => b < W.heap.size) W hx.2.2 hy.2.2 (fun b hb => hb) (by rw [hx.1]; omega) (by rw [hy.1]; omega)
  rw [hx.1, hy.1, show meetL x y = List.zipWith min x y by simp [meetL, hx.paired hy]] at h
  exact h.mono fun e W' he => zip_post min_or hx hy he
def BoolStill (b : Bool) (W : World) (e : Ending) (W' : World) : Prop := e = .returned (.bool b) ∧ Below W.heap.size W W'
theorem equal_has {n : Nat} {x y : List Int} {A B : Option Addr} {ca cb : Nat} {W : World} (b : Bool) (hn : n ≤ 1000) (hx : Has W n A x) (hy : Has W n B y) (hb : decide (x = y) = b) : Calls Try.prog 29 #[.slice A n ca, .slice B n cb] W (BoolStill b W) := by
  have h := equal_any A B ca cb x y (fun b => b < W.heap.size) W hx.2.2 hy.2.2 (by rw [hx.1]; omega) (by rw [hy.1]; omega)
  rw [hx.1, hy.1, hb] at h
  exact h.mono fun e W' ⟨he, k, hk⟩ => ⟨he, by rw [hk]; exact below_drewN (Below.refl _ _) k⟩
theorem under_has {n : Nat} {x y : List Int} {A B : Option Addr} {ca cb : Nat} {W : World} (b : Bool) (hn : n ≤ 1000) (hx : Has W n A x) (hy : Has W n B y) (hb : leB x y = b) : Calls Try.prog 34 #[.slice A n ca, .slice B n cb] W (BoolStill b W) := by
  have h := under_any A B ca cb x y (fun b => b < W.heap.size) W hx.2.2 hy.2.2 (by rw [hx.1]; omega) (by rw [hy.1]; omega)
  rw [hx.1, hy.1, show underB x y = b by unfold underB; rw [hx.paired hy, Bool.true_and]; exact hb] at h
  exact h.mono fun e W' ⟨he, k, hk⟩ => ⟨he, by rw [hk]; exact below_drewN (Below.refl _ _) k⟩

section
variable {p q r : List Int} {n : Nat}
theorem lat_comm (f : Int → Int → Int) (hf : ∀ a b, f a b = f b a) (hp : p.length = n) (hq : q.length = n) : List.zipWith f p q = List.zipWith f q p := by
  refine ext_getD (by simp; omega) fun i hi => ?_
  simp at hi
  rw [zip_getD f (by omega) (by omega), zip_getD f (by omega) (by omega), hf]
theorem lat_abs1 (hp : p.length = n) (hq : q.length = n) : List.zipWith max p (List.zipWith min p q) = p := by
  refine ext_getD (by simp; omega) fun i hi => ?_
  simp at hi
  rw [zip_getD max (by omega) (by simp; omega), zip_getD min (by omega) (by omega)]
  omega
theorem lat_abs2 (hp : p.length = n) (hq : q.length = n) : List.zipWith min p (List.zipWith max p q) = p := by
  refine ext_getD (by simp; omega) fun i hi => ?_
  simp at hi
  rw [zip_getD min (by omega) (by simp; omega), zip_getD max (by omega) (by omega)]
  omega
theorem lat_le1 (hp : p.length = n) (hq : q.length = n) : leB p (List.zipWith max p q) = true := leB_iff.2 fun i hi => by rw [zip_getD max hi (by omega)]; omega
theorem lat_le2 (hp : p.length = n) (hq : q.length = n) : leB q (List.zipWith max p q) = true := leB_iff.2 fun i hi => by rw [zip_getD max (by omega) hi]; omega
theorem lat_le3 (hp : p.length = n) (hq : q.length = n) : leB (List.zipWith min p q) p = true := leB_iff.2 fun i hi => by simp at hi; rw [zip_getD min (by omega) (by omega)]; omega
theorem lat_le4 (hp : p.length = n) (hq : q.length = n) : leB (List.zipWith min p q) q = true := leB_iff.2 fun i hi => by simp at hi; rw [zip_getD min (by omega) (by omega)]; omega
theorem lat_lub (hp : p.length = n) (hq : q.length = n) : leB (List.zipWith max p q) r = (leB p r && leB q r) := by
  rw [Bool.eq_iff_iff, Bool.and_eq_true, leB_iff, leB_iff, leB_iff, zip_len max hp hq, hp, hq]
  constructor
  · intro h
    refine ⟨fun i hi => ?_, fun i hi => ?_⟩ <;> (have := h i hi; rw [zip_getD max (by omega) (by omega)] at this; omega)
  · rintro ⟨h1, h2⟩ i hi
    rw [zip_getD max (by omega) (by omega)]
    have := h1 i hi
    have := h2 i hi
    omega
theorem lat_glb (hp : p.length = n) (hq : q.length = n) (hr : r.length = n) : leB r (List.zipWith min p q) = (leB r p && leB r q) := by
  rw [Bool.eq_iff_iff, Bool.and_eq_true, leB_iff, leB_iff, leB_iff, hr]
  constructor
  · intro h
    refine ⟨fun i hi => ?_, fun i hi => ?_⟩ <;> (have := h i hi; rw [zip_getD min (by omega) (by omega)] at this; omega)
  · rintro ⟨h1, h2⟩ i hi
    rw [zip_getD min (by omega) (by omega)]
    have := h1 i hi
    have := h2 i hi
    omega
theorem lat_join (hp : p.length = n) (hq : q.length = n) : leB p q = decide (List.zipWith max p q = q) := by
  rw [Bool.eq_iff_iff, leB_iff, decide_eq_true_iff]
  constructor
  · intro h
    refine ext_getD (by simp; omega) fun i hi => ?_
    simp at hi
    rw [zip_getD max (by omega) (by omega)]
    have := h i (by omega)
    omega
  · intro h i hi
    have this : (List.zipWith max p q).getD i 0 = q.getD i 0 := by rw [h]
    rw [zip_getD max hi (by omega)] at this
    omega
end
end Go.Proofs.Ytjpknhhdkjhjfaa
