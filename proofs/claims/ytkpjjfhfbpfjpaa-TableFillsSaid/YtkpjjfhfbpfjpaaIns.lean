/- Plain: insertion from the right; the first changes that are valid; net changes. -/
import Derived.Test.YtkpjjfhfbpfjpaaTabF
namespace Go.Proofs.Ytkpjjfhfbpfjpaa
set_option linter.unusedVariables false

section
variable {α : Type} (f : α → α → Int)
def insRev (x : α) : List α → List α
  | [] => [x]
  | y :: r => if f x y < 0 then y :: insRev x r else x :: y :: r
/-- x behind the last element that is not greater. -/
def ins (x : α) (p : List α) : List α := (insRev f x p.reverse).reverse
def isort (l : List α) : List α := l.foldl (fun p x => ins f x p) []
theorem insRev_app (x : α) : ∀ (r s : List α), (∀ y ∈ r, f x y < 0) → insRev f x (r ++ s) = r ++ insRev f x s
  | [], s, _ => rfl
  | y :: r, s, h => by
    rw [List.cons_append, insRev, if_pos (h y (by simp)), insRev_app x r s (fun z hz => h z (by simp [hz]))]
    rfl
theorem ins_at (x : α) (p q : List α) (hq : ∀ y ∈ q, f x y < 0) (hp : ∀ y, p.getLast? = some y → 0 ≤ f x y) : ins f x (p ++ q) = p ++ x :: q := by
  unfold ins
  rw [List.reverse_append, insRev_app f x _ _ (fun y hy => hq y (by simpa using hy))]
  have : insRev f x p.reverse = x :: p.reverse := by
    cases hr : p.reverse with
    | nil => rfl
    | cons y r =>
      have h1 : p.getLast? = some y := by rw [List.getLast?_eq_head?_reverse, hr]; rfl
      have := hp y h1
      rw [insRev, if_neg (by omega)]
  rw [this]
  simp
theorem insRev_len (x : α) : ∀ r : List α, (insRev f x r).length = r.length + 1
  | [] => rfl
  | y :: r => by unfold insRev; split <;> simp [insRev_len x r]
theorem ins_len (x : α) (p : List α) : (ins f x p).length = p.length + 1 := by simp [ins, insRev_len]
theorem isort_snoc (l : List α) (x : α) : isort f (l ++ [x]) = ins f x (isort f l) := by simp [isort]
theorem isort_len (l : List α) : (isort f l).length = l.length := by
  have key : ∀ (l p : List α), (l.foldl (fun p x => ins f x p) p).length = p.length + l.length := by
    intro l
    induction l with
    | nil => intro p; simp
    | cons x l ih => intro p; rw [List.foldl_cons, ih, ins_len, List.length_cons]; omega
  simpa [isort] using key l []
theorem insRev_mem (x : α) : ∀ (r : List α) (y : α), y ∈ insRev f x r ↔ y = x ∨ y ∈ r
  | [], y => by simp [insRev]
  | z :: r, y => by
    unfold insRev
    split
    · simp only [List.mem_cons, insRev_mem x r y]
      constructor
      · rintro (h | h | h)
        · exact .inr (.inl h)
        · exact .inl h
        · exact .inr (.inr h)
      · rintro (h | h | h)
        · exact .inr (.inl h)
        · exact .inl h
        · exact .inr (.inr h)
    · simp
theorem ins_mem (x : α) (p : List α) (y : α) : y ∈ ins f x p ↔ y = x ∨ y ∈ p := by simp [ins, insRev_mem]
theorem isort_mem (l : List α) (y : α) : y ∈ isort f l ↔ y ∈ l := by
  have key : ∀ (l p : List α), y ∈ l.foldl (fun p x => ins f x p) p ↔ y ∈ p ∨ y ∈ l := by
    intro l
    induction l with
    | nil => intro p; simp
    | cons x l ih =>
      intro p
      rw [List.foldl_cons, ih, ins_mem, List.mem_cons]
      constructor
      · rintro ((h | h) | h)
        · exact .inr (.inl h)
        · exact .inl h
        · exact .inr (.inr h)
      · rintro (h | h | h)
        · exact .inl (.inr h)
        · exact .inl (.inl h)
        · exact .inr h
  simpa [isort] using key l []
end

/-- How many changes are valid, up to the first that is not. -/
def goodN (s : Sch) (m : Int) : List Chg → Nat
  | [] => 0
  | c :: l => if validC s m c then goodN s m l + 1 else 0
theorem goodN_le (s : Sch) (m : Int) : ∀ l : List Chg, goodN s m l ≤ l.length
  | [] => Nat.le_refl _
  | c :: l => by unfold goodN; have := goodN_le s m l; split <;> simp <;> omega
theorem goodN_valid (s : Sch) (m : Int) : ∀ (l : List Chg) (k : Nat), k < goodN s m l → validC s m (l.getD k chg0) = true
  | [], k, h => by simp [goodN] at h
  | c :: l, k, h => by
    unfold goodN at h
    split at h
    · rename_i hc
      cases k with
      | zero => exact hc
      | succ k => exact goodN_valid s m l k (by omega)
    · omega
theorem goodN_stop (s : Sch) (m : Int) : ∀ (l : List Chg), goodN s m l < l.length → validC s m (l.getD (goodN s m l) chg0) = false
  | [], h => by simp at h
  | c :: l, h => by
    by_cases hc : validC s m c = true
    · have e : goodN s m (c :: l) = goodN s m l + 1 := by rw [goodN, if_pos hc]
      rw [e] at h ⊢
      exact goodN_stop s m l (by simpa using h)
    · have e : goodN s m (c :: l) = 0 := by rw [goodN, if_neg hc]
      rw [e]
      simpa using hc
def badI (s : Sch) (m : Int) (l : List Chg) : Int := if goodN s m l < l.length then goodN s m l else -1
end Go.Proofs.Ytkpjjfhfbpfjpaa
