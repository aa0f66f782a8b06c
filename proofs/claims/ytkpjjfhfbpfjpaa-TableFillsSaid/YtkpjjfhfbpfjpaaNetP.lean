/- Plain: net changes. -/
import Derived.Test.YtkpjjfhfbpfjpaaIns
namespace Go.Proofs.Ytkpjjfhfbpfjpaa
set_option linter.unusedVariables false

/-- The order of changes. -/
def cmpC (s : Sch) (a b : Chg) : Int := if a.table ≠ b.table then a.table - b.table else cmpR (keyC s a) (keyC s b)
def sameC (s : Sch) (a b : Chg) : Bool := (a.table == b.table) && (cmpR (keyC s a) (keyC s b) == 0)
/-- The net change of a first and a last one. -/
def netOut (f la : Chg) : List Chg := if cmpR f.old la.new = 0 then [] else [⟨f.table, f.old, la.new⟩]
/-- Changes in order, one after another: none if they do not fit. -/
def netGo (s : Sch) : Option (Chg × Chg) → List Chg → Option (List Chg)
  | none, [] => some []
  | none, x :: r => netGo s (some (x, x)) r
  | some (f, la), [] => some (netOut f la)
  | some (f, la), x :: r => if sameC s f x then (if cmpR la.new x.old = 0 then netGo s (some (f, x)) r else none) else (netGo s (some (x, x)) r).map (netOut f la ++ ·)
def netF (e : Int) (s : Sch) (m : Int) (l : List Chg) : Int × List Chg :=
  if modeF e m ≠ 0 then (modeF e m, []) else match netGo s none (isort (cmpC s) (l.take (goodN s m l))) with
    | none => (81, [])
    | some o => if goodN s m l < l.length then (71, []) else (0, o)
theorem net_first (s : Sch) {l : List Chg} {k : Nat} (h : k < l.length) : netGo s none (l.drop k) = netGo s (some (l.getD k chg0, l.getD k chg0)) (l.drop (k + 1)) := by
  have e : l.getD k chg0 = l[k] := by simp [List.getD, h]
  rw [List.drop_eq_getElem_cons h, netGo, e]
theorem net_next (s : Sch) (f la : Chg) {l : List Chg} {k : Nat} (h : k < l.length) : netGo s (some (f, la)) (l.drop k) = if sameC s f (l.getD k chg0) then (if cmpR la.new (l.getD k chg0).old = 0 then netGo s (some (f, l.getD k chg0)) (l.drop (k + 1)) else none) else (netGo s none (l.drop k)).map (netOut f la ++ ·) := by
  have e : l.getD k chg0 = l[k] := by simp [List.getD, h]
  rw [List.drop_eq_getElem_cons h, netGo, e, netGo]
theorem net_end (s : Sch) (f la : Chg) {l : List Chg} {k : Nat} (h : l.length ≤ k) : netGo s (some (f, la)) (l.drop k) = (netGo s none (l.drop k)).map (netOut f la ++ ·) := by
  rw [List.drop_eq_nil_of_le h, netGo, netGo]
  simp
theorem map_map_app (o p : List Chg) (x : Option (List Chg)) : (x.map (p ++ ·)).map (o ++ ·) = x.map ((o ++ p) ++ ·) := by cases x <;> simp
theorem netF_bad {e : Int} {s : Sch} {m : Int} {l : List Chg} (h : modeF e m ≠ 0) : netF e s m l = (modeF e m, []) := by unfold netF; rw [if_pos h]
theorem netF_conflict {e : Int} {s : Sch} {m : Int} {l : List Chg} (h : modeF e m = 0) (h2 : netGo s none (isort (cmpC s) (l.take (goodN s m l))) = none) : netF e s m l = (81, []) := by unfold netF; rw [if_neg (by omega), h2]
theorem netF_row {e : Int} {s : Sch} {m : Int} {l o : List Chg} (h : modeF e m = 0) (h2 : netGo s none (isort (cmpC s) (l.take (goodN s m l))) = some o) (h3 : goodN s m l < l.length) : netF e s m l = (71, []) := by
  unfold netF; rw [if_neg (by omega), h2]; simp [h3]
theorem netF_ok {e : Int} {s : Sch} {m : Int} {l o : List Chg} (h : modeF e m = 0) (h2 : netGo s none (isort (cmpC s) (l.take (goodN s m l))) = some o) (h3 : ¬ goodN s m l < l.length) : netF e s m l = (0, o) := by
  unfold netF; rw [if_neg (by omega), h2]; simp [h3]
end Go.Proofs.Ytkpjjfhfbpfjpaa
