/- A region that draws its order: an operation may be taken first where a condition on the world holds until the last operation. -/
import Derived.OrdersHeld
import Derived.RegionTactic
import Derived.Lib.Hide
import Derived.WalkKit
namespace Go.Proofs.Ytkpjjfhfbpfjpaa
open Go Go.RowKit
section
variable {P : Program} {ops : Array Oper} {Q : Exit → Act → World → Prop} {md : Region.Mode} {S : World → Prop} {d : Nat}

/-- Whatever order is picked, and S holds behind every operation but number d. -/
def AnyU (P : Program) (md : Region.Mode) (ops : Array Oper) (Q : Exit → Act → World → Prop) (S : World → Prop) (d : Nat) : Nat → Array Bool → Act → World → Prop
  | 0, listed, a, w => Region.ready md ops listed = [] ∧ Q .normal a w
  | n + 1, listed, a, w => (Region.ready md ops listed = [] → Q .normal a w) ∧
    ∀ i ∈ Region.ready md ops listed, wpOp P ops Q i (fun a' w' => (i ≠ d → S w') ∧ AnyU P md ops Q S d n (listed.setIfInBounds i true) a' w') a w

theorem anyU_any : ∀ (n : Nat) (listed : Array Bool) (a : Act) (w : World), AnyU P md ops Q S d n listed a w → wpAny P md ops Q n listed a w
  | 0, _, _, _, h => h
  | n + 1, _, _, _, h => ⟨h.1, fun i hi => wpOp_mono (fun a' w' h' => anyU_any n _ a' w' h'.2) (h.2 i hi)⟩

/-- Operation d waits for operation i. -/
def Waits (md : Region.Mode) (ops : Array Oper) (d i : Nat) : Prop := ∀ od, ops[d]? = some od → ∃ e ∈ od.after, Region.binds md e = true ∧ e.on = i

theorem ready_waits {i j : Nat} {listed : Array Bool} (hi : i ∈ Region.ready md ops listed) (hj : j ∈ Region.ready md ops listed) : ∀ oj, ops[j]? = some oj → ∀ e ∈ oj.after, Region.binds md e = true → e.on ≠ i := by
  intro oj hoj e he hb heq
  obtain ⟨_, oj', hoj', hall⟩ := mem_ready.1 hj
  rw [hoj] at hoj'
  injection hoj' with hoj'
  subst hoj'
  have h1 := hall e he hb
  have h0 := (mem_ready.1 hi).1
  rw [heq] at h1
  rcases Nat.lt_or_ge i listed.size with h' | h'
  · simp [h'] at h0 h1
    rw [h0] at h1
    cases h1
  · simp [Array.getElem?_eq_none h'] at h1

theorem anyU_first {i : Nat} {oi : Oper} {v : Value} (hi : ops[i]? = some oi) (hsel : ∀ (j : Nat) (o : Oper) cs b, ops[j]? = some o → o.op ≠ .select cs b) (hd : Waits md ops d i)
    (hQ : ∀ c a w, Q (.panic c) (a.put oi.dst v) w → Q (.panic c) a w) :
    ∀ (n : Nat) (listed : Array Bool) (a : Act) (w : World),
      (∀ j oj, ops[j]? = some oj → j ≠ i → listed.getD j true = false → (∀ e ∈ oj.after, Region.binds md e = true → e.on ≠ i) → oi.apart ops oj = true) →
      i ∈ Region.ready md ops listed → YieldsIf P ops S oi v a → S w →
      AnyU P md ops Q S d n (listed.setIfInBounds i true) (a.put oi.dst v) w → AnyU P md ops Q S d (n + 1) listed a w := by
  intro n
  induction n with
  | zero =>
    intro listed a w _ hr hy hS H
    refine ⟨fun h => (by rw [h] at hr; cases hr), fun j hj => ?_⟩
    by_cases e : j = i
    · subst e; exact hy.wpOp hi hS ⟨fun _ => hS, H⟩
    · have hm := ready_mono hj e
      rw [H.1] at hm
      cases hm
  | succ n ih =>
    intro listed a w hfree hr hy hS H
    refine ⟨fun h => (by rw [h] at hr; cases hr), fun j hj => ?_⟩
    by_cases e : j = i
    · subst e; exact hy.wpOp hi hS ⟨fun _ => hS, H⟩
    · have h1 := H.2 j (ready_mono hj e)
      obtain ⟨hun, oj, hoj, _⟩ := mem_ready.1 hj
      have hnot := ready_waits hr hj oj hoj
      have hjd : j ≠ d := fun ejd => by
        subst ejd
        obtain ⟨x, hx, hb, hon⟩ := hd oj hoj
        exact hnot x hx hb hon
      have h2 := wpOp_putIf hoj (hfree j oj hoj e hun hnot) (fun cs b => hsel i oi cs b hi) (fun cs b => hsel j oj cs b hoj) hQ hy h1
      refine wpOp_mono (fun a' w' h3 => ⟨fun _ => h3.2.1 hjd, ih (listed.setIfInBounds j true) a' w' (fun k ok hk hki hku hno => ?_) (ready_mono hr (Ne.symm e)) h3.1 (h3.2.1 hjd) ?_⟩) h2
      · refine hfree k ok hk hki ?_ hno
        by_cases ejk : j = k
        · subst ejk; exact hun
        · rw [getD_set_ne true ejk] at hku; exact hku
      · rw [Array.setIfInBounds_comm _ _ e]
        exact h3.2.2

def waitsB (md : Region.Mode) (ops : Array Oper) (d i : Nat) : Bool := match ops[d]? with
  | some od => od.after.any fun e => Region.binds md e && e.on == i
  | none => true
theorem waits_of {i : Nat} (h : waitsB md ops d i = true) : Waits md ops d i := by
  intro od hod
  unfold waitsB at h
  rw [hod] at h
  obtain ⟨e, he, hb⟩ := Array.any_eq_true'.1 h
  simp only [Bool.and_eq_true, beq_iff_eq] at hb
  exact ⟨e, he, hb.1, hb.2⟩

theorem anyU_take {i : Nat} {oi : Oper} {v : Value} {n : Nat} {listed : Array Bool} {a : Act} {w : World} (hi : ops[i]? = some oi) (hs : Region.noSelect ops = true) (hf : Region.free md ops listed i = true)
    (hr : (Region.ready md ops listed).contains i = true) (hd : waitsB md ops d i = true) (hQ : ∀ c a w, Q (.panic c) (a.put oi.dst v) w → Q (.panic c) a w) (hy : YieldsIf P ops S oi v a) (hS : S w)
    (h : AnyU P md ops Q S d n (listed.setIfInBounds i true) (a.put oi.dst v) w) : AnyU P md ops Q S d (n + 1) listed a w :=
  anyU_first hi (Region.noSelect_spec hs) (waits_of hd) hQ n listed a w (Region.free_spec hi hf) (by simpa using hr) hy hS h
theorem anyU_one {i : Nat} {o : Oper} {n : Nat} {listed : Array Bool} {a : Act} {w : World} (hi : ops[i]? = some o) (hr : Region.ready md ops listed = [i])
    (h : ∀ K : Act → World → Prop, (∀ a' w', (i ≠ d → S w') → AnyU P md ops Q S d n (listed.setIfInBounds i true) a' w' → K a' w') → if Region.wanted o (yielded ops a.tmps) = true then Oper.wp P o a w K Q else K (a.put o.dst undef) w) :
    AnyU P md ops Q S d (n + 1) listed a w := by
  refine ⟨(fun h0 => by rw [hr] at h0; cases h0), fun j hj => ?_⟩
  rw [hr] at hj
  have ej := List.mem_singleton.1 hj
  subst ej
  exact wpOp_step hi (fun K hK => h K fun a' w' h1 h2 => hK a' w' ⟨h1, h2⟩)
theorem anyU_done {listed : Array Bool} {a : Act} {w : World} (hr : Region.ready md ops listed = []) (h : Q .normal a w) : AnyU P md ops Q S d 0 listed a w := ⟨hr, h⟩
/-- The beginning: from the world behind the draw. -/
theorem region_until {id : Nat} {a : Act} {w : World} (S : World → Prop) (d : Nat) (hm : P.follows .mixedOrders = true)
    (h : AnyU P .any ops Q S d ops.size (Array.replicate ops.size false) a w.drew) : (Code.region id ops true).wp P Q a w :=
  wp_region_any hm (anyU_any _ _ _ _ h)
end
theorem hideQ {P : Program} {c : Code} {Q : Exit → Act → World → Prop} {a : Act} {w : World} (hp : ∀ c a d v w, Q (.panic c) (Act.put a d v) w → Q (.panic c) a w) (h : ∀ Q', Hid (Q' = Q) → Hid (∀ c a d v w, Q' (.panic c) (Act.put a d v) w → Q' (.panic c) a w) → c.wp P Q' a w) : c.wp P Q a w := h Q (Lib.hid rfl) (Lib.hid hp)
theorem anyT_take {P : Program} {ops : Array Oper} {Q : Exit → Act → World → Prop} {md : Region.Mode} {S : World → Prop} {d i : Nat} {oi : Oper} {v : Value} {n : Nat} {listed L' : Array Bool} {a : Act} {w : World} {t : Tmp} (hi : ops[i]? = some oi) (ht : oi.dst = some t) (hL : listed.setIfInBounds i true = L') (hs : Region.noSelect ops = true) (hf : Region.free md ops listed i = true)
    (hr : (Region.ready md ops listed).contains i = true) (hd : waitsB md ops d i = true) (hQ : ∀ c a d v w, Q (.panic c) (Act.put a d v) w → Q (.panic c) a w) (hy : YieldsIf P ops S oi v a) (hS : S w)
    (h : AnyU P md ops Q S d n L' ⟨a.tmps.setIfInBounds t v, a.defers⟩ w) : AnyU P md ops Q S d (n + 1) listed a w :=
  anyU_take hi hs hf hr hd (fun c a w h => hQ c a _ _ w h) hy hS (by rw [hL, ht]; exact h)
theorem anyT_one {P : Program} {ops : Array Oper} {Q : Exit → Act → World → Prop} {md : Region.Mode} {S : World → Prop} {d i : Nat} {o : Oper} {n : Nat} {listed L' : Array Bool} {a : Act} {w : World} (hi : ops[i]? = some o) (hL : listed.setIfInBounds i true = L') (hr : Region.ready md ops listed = [i])
    (h : ∀ K : Act → World → Prop, (∀ a' w', (i ≠ d → S w') → AnyU P md ops Q S d n L' a' w' → K a' w') → if Region.wanted o (yielded ops a.tmps) = true then Oper.wp P o a w K Q else K (a.put o.dst undef) w) :
    AnyU P md ops Q S d (n + 1) listed a w :=
  anyU_one hi hr (by rw [hL]; exact h)
theorem regionT_until {P : Program} {ops : Array Oper} {Q : Exit → Act → World → Prop} {id : Nat} {a : Act} {w : World} (S : World → Prop) (d n : Nat) (L : Array Bool) (hm : P.follows .mixedOrders = true) (hn : ops.size = n) (hL : Array.replicate ops.size false = L)
    (h : AnyU P .any ops Q S d n L a w.drew) : (Code.region id ops true).wp P Q a w :=
  region_until S d hm (by rw [hL, hn]; exact h)
theorem anyT_two {P : Program} {ops : Array Oper} {Q : Exit → Act → World → Prop} {md : Region.Mode} {S : World → Prop} {d i j : Nat} {oi oj : Oper} {n : Nat} {listed Li Lj : Array Bool} {a : Act} {w : World} (hi : ops[i]? = some oi) (hj : ops[j]? = some oj) (hLi : listed.setIfInBounds i true = Li) (hLj : listed.setIfInBounds j true = Lj) (hr : Region.ready md ops listed = [i, j])
    (h1 : ∀ K : Act → World → Prop, (∀ a' w', (i ≠ d → S w') → AnyU P md ops Q S d n Li a' w' → K a' w') → if Region.wanted oi (yielded ops a.tmps) = true then Oper.wp P oi a w K Q else K (a.put oi.dst undef) w)
    (h2 : ∀ K : Act → World → Prop, (∀ a' w', (j ≠ d → S w') → AnyU P md ops Q S d n Lj a' w' → K a' w') → if Region.wanted oj (yielded ops a.tmps) = true then Oper.wp P oj a w K Q else K (a.put oj.dst undef) w) :
    AnyU P md ops Q S d (n + 1) listed a w := by
  refine ⟨(fun h0 => by rw [hr] at h0; cases h0), fun k hk => ?_⟩
  rw [hr] at hk
  rcases List.mem_cons.1 hk with e | e
  · subst e
    rw [hLi]
    exact wpOp_step hi (fun K hK => h1 K fun a' w' g1 g2 => hK a' w' ⟨g1, g2⟩)
  · have e := List.mem_singleton.1 e
    subst e
    rw [hLj]
    exact wpOp_step hj (fun K hK => h2 K fun a' w' g1 g2 => hK a' w' ⟨g1, g2⟩)
end Go.Proofs.Ytkpjjfhfbpfjpaa
