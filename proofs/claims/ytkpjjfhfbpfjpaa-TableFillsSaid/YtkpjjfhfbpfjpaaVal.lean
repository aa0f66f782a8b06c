/- Plain: values, rows and their order. Nothing of the program. -/
import Derived.Lib.Bytealg
namespace Go.Proofs.Ytkpjjfhfbpfjpaa

/-- A value: its kind, its number, its text. -/
structure V where
  k : Int
  i : Int
  t : ByteArray
  deriving DecidableEq
abbrev Row := List V

/-- An order by a number: 0 is equality, it turns with its arguments, it is transitive. -/
structure IsCmp {α : Type} (f : α → α → Int) : Prop where
  rng : ∀ a b, f a b = -1 ∨ f a b = 0 ∨ f a b = 1
  zero : ∀ a b, f a b = 0 ↔ a = b
  flip : ∀ a b, f b a = - f a b
  trans : ∀ a b c, f a b ≤ 0 → f b c ≤ 0 → f a c ≤ 0

section
variable {α β : Type} {f : α → α → Int} {g : β → β → Int}
theorem IsCmp.self (h : IsCmp f) (a : α) : f a a = 0 := (h.zero a a).2 rfl
theorem IsCmp.lt_trans (h : IsCmp f) {a b c : α} (h1 : f a b < 0) (h2 : f b c < 0) : f a c < 0 := by
  have h3 := h.trans a b c (by omega) (by omega)
  rcases Int.lt_or_eq_of_le h3 with h4 | h4
  · exact h4
  · have e := (h.zero a c).1 h4
    subst e
    have := h.flip a b
    omega
theorem IsCmp.lt_le_trans (h : IsCmp f) {a b c : α} (h1 : f a b < 0) (h2 : f b c ≤ 0) : f a c < 0 := by
  rcases Int.lt_or_eq_of_le h2 with h3 | h3
  · exact h.lt_trans h1 h3
  · have e := (h.zero b c).1 h3
    subst e; exact h1
theorem IsCmp.le_lt_trans (h : IsCmp f) {a b c : α} (h1 : f a b ≤ 0) (h2 : f b c < 0) : f a c < 0 := by
  rcases Int.lt_or_eq_of_le h1 with h3 | h3
  · exact h.lt_trans h3 h2
  · have e := (h.zero a b).1 h3
    subst e; exact h2
end

def cmpI (a b : Int) : Int := if a < b then -1 else if b < a then 1 else 0
theorem cmpI_is : IsCmp cmpI := by
  refine ⟨fun a b => ?_, fun a b => ?_, fun a b => ?_, fun a b c => ?_⟩
  · unfold cmpI; repeat' split
    all_goals simp
  · unfold cmpI; split <;> (try split) <;> simp <;> omega
  · unfold cmpI; repeat' split
    all_goals omega
  · unfold cmpI; repeat' split
    all_goals omega

abbrev cmpL : List UInt8 → List UInt8 → Int := Lib.compareBytes
theorem cmpL_is : IsCmp cmpL := by
  have rng : ∀ a b, cmpL a b = -1 ∨ cmpL a b = 0 ∨ cmpL a b = 1 := by
    intro a
    induction a with
    | nil => intro b; cases b <;> simp [cmpL, Lib.compareBytes]
    | cons x a ih => intro b; cases b with
      | nil => simp [cmpL, Lib.compareBytes]
      | cons y b =>
        simp only [cmpL, Lib.compareBytes]
        split
        · simp
        · split
          · simp
          · exact ih b
  have zero : ∀ a b, cmpL a b = 0 ↔ a = b := by
    intro a
    induction a with
    | nil => intro b; cases b <;> simp [cmpL, Lib.compareBytes]
    | cons x a ih => intro b; cases b with
      | nil => simp [cmpL, Lib.compareBytes]
      | cons y b =>
        simp only [cmpL, Lib.compareBytes]
        by_cases h1 : x < y
        · have : x ≠ y := fun e => by subst e; simp at h1
          simp [h1, this]
        · by_cases h2 : y < x
          · have : x ≠ y := fun e => by subst e; simp at h2
            simp [h1, h2, this]
          · have e : x = y := by
              rw [UInt8.lt_iff_toNat_lt] at h1 h2
              exact UInt8.toNat_inj.1 (by omega)
            subst e
            simp only [h1, if_false]
            rw [ih b]
            simp
  have flip : ∀ a b, cmpL b a = - cmpL a b := by
    intro a
    induction a with
    | nil => intro b; cases b <;> simp [cmpL, Lib.compareBytes]
    | cons x a ih => intro b; cases b with
      | nil => simp [cmpL, Lib.compareBytes]
      | cons y b =>
        simp only [cmpL, Lib.compareBytes]
        by_cases h1 : x < y
        · have h2 : ¬ y < x := by rw [UInt8.lt_iff_toNat_lt] at h1 ⊢; omega
          simp [h1, h2]
        · by_cases h2 : y < x
          · simp [h1, h2]
          · simp only [h1, h2, if_false]
            exact ih b
  refine ⟨rng, zero, flip, ?_⟩
  intro a
  induction a with
  | nil => intro b c _ _; cases c <;> simp [cmpL, Lib.compareBytes]
  | cons x a ih =>
    intro b c
    cases b with
    | nil => intro h; simp [cmpL, Lib.compareBytes] at h
    | cons y b =>
      cases c with
      | nil => intro _ h; simp [cmpL, Lib.compareBytes] at h
      | cons z c =>
        simp only [cmpL, Lib.compareBytes, UInt8.lt_iff_toNat_lt]
        intro h1 h2
        by_cases hxy : x.toNat < y.toNat
        · by_cases hyz : y.toNat < z.toNat
          · simp [show x.toNat < z.toNat by omega]
          · by_cases hzy : z.toNat < y.toNat
            · simp [hyz, hzy] at h2
            · simp [show x.toNat < z.toNat by omega]
        · by_cases hyx : y.toNat < x.toNat
          · simp [hxy, hyx] at h1
          · simp only [hxy, hyx, if_false] at h1
            by_cases hyz : y.toNat < z.toNat
            · simp [show x.toNat < z.toNat by omega]
            · by_cases hzy : z.toNat < y.toNat
              · simp [hyz, hzy] at h2
              · simp only [hyz, hzy, if_false] at h2
                simp only [show ¬ x.toNat < z.toNat by omega, show ¬ z.toNat < x.toNat by omega, if_false]
                exact ih b c h1 h2
abbrev cmpB (a b : ByteArray) : Int := Lib.compareBytes a.data.toList b.data.toList
theorem cmpB_is : IsCmp cmpB :=
  ⟨fun a b => cmpL_is.rng _ _, fun a b => (cmpL_is.zero _ _).trans ⟨fun h => by cases a; cases b; simpa using h, fun h => by rw [h]⟩, fun a b => cmpL_is.flip _ _, fun a b c => cmpL_is.trans _ _ _⟩

def cmpV (a b : V) : Int := if cmpI a.k b.k ≠ 0 then cmpI a.k b.k else if cmpI a.i b.i ≠ 0 then cmpI a.i b.i else cmpB a.t b.t
def lex {α β : Type} (f : α → α → Int) (g : β → β → Int) (a b : α × β) : Int := if f a.1 b.1 ≠ 0 then f a.1 b.1 else g a.2 b.2
theorem lex_is {α β : Type} {f : α → α → Int} {g : β → β → Int} (hf : IsCmp f) (hg : IsCmp g) : IsCmp (lex f g) := by
  refine ⟨fun a b => ?_, fun a b => ?_, fun a b => ?_, fun a b c h1 h2 => ?_⟩
  · unfold lex
    split
    · exact hf.rng _ _
    · exact hg.rng _ _
  · obtain ⟨a1, a2⟩ := a
    obtain ⟨b1, b2⟩ := b
    unfold lex
    simp only [Prod.mk.injEq]
    by_cases h : f a1 b1 = 0
    · simp only [h, ne_eq, not_true, if_false]
      rw [hg.zero]
      simp [(hf.zero a1 b1).1 h]
    · simp only [h, ne_eq, not_false_eq_true, if_true, false_iff]
      exact fun h' => h ((hf.zero a1 b1).2 h'.1)
  · unfold lex
    rw [hf.flip a.1 b.1, hg.flip a.2 b.2]
    by_cases h : f a.1 b.1 = 0 <;> simp [h]
  · obtain ⟨a1, a2⟩ := a
    obtain ⟨b1, b2⟩ := b
    obtain ⟨c1, c2⟩ := c
    unfold lex at h1 h2 ⊢
    dsimp only at h1 h2 ⊢
    by_cases x1 : f a1 b1 = 0
    · have e := (hf.zero a1 b1).1 x1
      subst e
      by_cases y1 : f a1 c1 = 0
      · simp only [x1, y1, ne_eq, not_true, if_false] at h1 h2 ⊢
        exact hg.trans _ _ _ h1 h2
      · simp only [y1, ne_eq, not_false_eq_true, if_true] at h2 ⊢
        exact h2
    · by_cases y1 : f b1 c1 = 0
      · have e := (hf.zero b1 c1).1 y1
        subst e
        simp only [x1, ne_eq, not_false_eq_true, if_true] at h1 ⊢
        exact h1
      · simp only [x1, y1, ne_eq, not_false_eq_true, if_true] at h1 h2
        have h3 : f a1 c1 < 0 := hf.lt_trans (show f a1 b1 < 0 by omega) (show f b1 c1 < 0 by omega)
        simp only [show f a1 c1 ≠ 0 by omega, ne_eq, not_false_eq_true, if_true]
        omega
theorem cmpV_lex (a b : V) : cmpV a b = lex cmpI (lex cmpI cmpB) (a.k, a.i, a.t) (b.k, b.i, b.t) := rfl
theorem cmpV_is : IsCmp cmpV := by
  have h := lex_is cmpI_is (lex_is cmpI_is cmpB_is)
  refine ⟨fun a b => by rw [cmpV_lex]; exact h.rng _ _, fun a b => ⟨fun e => ?_, fun e => by rw [e, cmpV_lex]; exact h.self _⟩, fun a b => by rw [cmpV_lex, cmpV_lex]; exact h.flip _ _, fun a b c => by rw [cmpV_lex, cmpV_lex, cmpV_lex]; exact h.trans _ _ _⟩
  rw [cmpV_lex, h.zero] at e
  obtain ⟨ak, ai, at_⟩ := a
  obtain ⟨bk, bi, bt⟩ := b
  simp only [Prod.mk.injEq] at e
  simp [e]

def cmpR : Row → Row → Int
  | [], [] => 0
  | [], _ :: _ => -1
  | _ :: _, [] => 1
  | a :: x, b :: y => if cmpV a b ≠ 0 then cmpV a b else cmpR x y
theorem cmpR_is : IsCmp cmpR := by
  refine ⟨?_, ?_, ?_, ?_⟩
  · intro a
    induction a with
    | nil => intro b; cases b <;> simp [cmpR]
    | cons x a ih => intro b; cases b with
      | nil => simp [cmpR]
      | cons y b =>
        simp only [cmpR]
        split
        · exact cmpV_is.rng _ _
        · exact ih b
  · intro a
    induction a with
    | nil => intro b; cases b <;> simp [cmpR]
    | cons x a ih => intro b; cases b with
      | nil => simp [cmpR]
      | cons y b =>
        simp only [cmpR, List.cons.injEq]
        split
        · rename_i h
          constructor
          · intro h'; exact absurd h' h
          · intro h'; exact absurd ((cmpV_is.zero x y).2 h'.1) h
        · rename_i h
          rw [ih b]
          have := (cmpV_is.zero x y).1 (by simpa using h)
          simp [this]
  · intro a
    induction a with
    | nil => intro b; cases b <;> simp [cmpR]
    | cons x a ih => intro b; cases b with
      | nil => simp [cmpR]
      | cons y b =>
        simp only [cmpR]
        rw [cmpV_is.flip x y, ih b]
        by_cases h : cmpV x y = 0 <;> simp [h]
  · intro a
    induction a with
    | nil => intro b c _ _; cases c <;> simp [cmpR]
    | cons x a ih =>
      intro b c
      cases b with
      | nil => intro h; simp [cmpR] at h
      | cons y b =>
        cases c with
        | nil => intro _ h; simp [cmpR] at h
        | cons z c =>
          simp only [cmpR]
          intro h1 h2
          by_cases a1 : cmpV x y = 0
          · have e := (cmpV_is.zero x y).1 a1
            subst e
            by_cases b1 : cmpV x z = 0
            · simp only [a1, b1, ne_eq, not_true, if_false] at h1 h2 ⊢
              exact ih b c h1 h2
            · simp only [b1, ne_eq, not_false_eq_true, if_true] at h2 ⊢
              exact h2
          · by_cases b1 : cmpV y z = 0
            · have e := (cmpV_is.zero y z).1 b1
              subst e
              simp only [a1, ne_eq, not_false_eq_true, if_true] at h1 ⊢
              exact h1
            · simp only [a1, b1, ne_eq, not_false_eq_true, if_true] at h1 h2
              have h3 : cmpV x z < 0 := cmpV_is.lt_trans (show cmpV x y < 0 by omega) (show cmpV y z < 0 by omega)
              simp only [show cmpV x z ≠ 0 by omega, ne_eq, not_false_eq_true, if_true]
              omega
end Go.Proofs.Ytkpjjfhfbpfjpaa
