/- The contract of New, and of Numbers. -/
import Derived.Test.YtjpknhhdkjhjfaaInt
import Derived.Test.YtjpknhhdkjhjfaaOwn
import Derived.Laws.AppendOwnNone
import Derived.OpenShut
namespace Go.Proofs.Ytjpknhhdkjhjfaa
open Go.RowKit
set_option linter.unusedVariables false

theorem owns_slice {w : World} {base : Nat} {e : TypeId} {size : Nat} {v : Value} {n : Nat} {xs : List Value} (h : w.ownsRow base e size v n xs) : ∃ A c, v = .slice A n c := by
  rcases h.2 with ⟨rfl, rfl⟩ | ⟨g, cap, cur, rfl, _⟩
  · exact ⟨none, 0, rfl⟩
  · exact ⟨_, _, rfl⟩
/-- append onto a row of the call's own: the value's shape written out. -/
theorem wpList_append_slice {P : Program} (w : World) {ops : Array Oper} {rest : List Oper} {o : Oper} {a : Act} {Q : Exit → Act → World → Prop} (hgd : o.guard = none) (s x : Operand) (t : TypeId)
    (ho : o.op = .call { callee := .builtin .append, args := #[s, x], argTypes := #[t, t] })
    (base : Nat) (e : TypeId) (i : TypeInfo) (z : Value) (size bytes : Nat) (ht : P.underlying t = some (.slice e)) (hi : P.info? e = some i) (hz : i.zero = some z)
    (hsize : i.size = size) (hby : i.bytes = bytes) (hzs : z.cells.size = size) (hsz : 0 < size)
    (v : Value) (n : Nat) (xs : List Value) (hs : a.eval s = v) (hown : w.ownsRow base e size v n xs)
    (ad : Addr) (m c : Nat) (news : List Value) (hx : a.eval x = .slice (some ad) m c) (hl : news.length = m * size) (hnews : ∀ j u, news[j]? = some u → w.cell? (ad.add j) = some u) (h1 : ∀ u ∈ news, u.oneCell' = true)
    (h63 : n + m ≤ maxLen) (hbytes : (n + m) * bytes ≤ 140737488355328) (hbase : base ≤ w.heap.size)
    (h : ∀ A c' w', w'.ownsRow base e size (.slice A (n + m) c') (n + m) (xs ++ news) → w.grownBy w' v.ownBlock → wpList P ops Q rest (a.put o.dst (.slice A (n + m) c')) w') : wpList P ops Q (o :: rest) a w :=
  wpList_append_own w hgd s x t ho base e i z size bytes ht hi hz hsize hby hzs hsz v n xs hs hown ad m c news hx hl hnews h1 h63 hbytes hbase (fun v' w' h2 h3 _ => by
    obtain ⟨A, c', rfl⟩ := owns_slice h2
    exact h A c' w' h2 h3)

/-- What the walk is told of a slice of integers that came in. -/
def IsRow (k : IntKind) (w : World) (a : Option Addr) (len cap : Nat) (zs : List Int) : Prop :=
  (a = none ∧ len = 0 ∧ cap = 0 ∧ zs = []) ∨
  ∃ x, a = some x ∧ len ≤ cap ∧ cap ≤ maxLen ∧ zs.length = cap ∧ (∀ i, i < zs.length → w.cell? (x.add i) = some (.int k (zs.getD i 0))) ∧ ∀ n ∈ zs, (Lit.int k n).wf = true

def NewPost (w : World) (e : Ending) (w' : World) : Prop := ∃ g, e = .returned (.pointer (some ⟨g, 0, none⟩)) ∧ w.heap.size ≤ g ∧ CaseOk w' g ∧ Below w.heap.size w w'

theorem info5 : (Try.prog.info? 5).map (fun i => (i.zero, i.size, i.bytes)) = some (some (.int .u8 0), 1, 1) := by kernel_rfl

theorem caseOk_new {w w1 : World} {A : Option Addr} {m c : Nat} {zs : List Int} (hm : m ≤ 1000) (hz : zs.length = m) (hw : ∀ z ∈ zs, 0 ≤ z ∧ z ≤ 255) (h : w1.ownsRow w.heap.size 5 1 (.slice A m c) m (zs.map (Value.int .u8))) :
    CaseOk (w1.alloc (.cells #[.slice A m c, .int .i64 0] 61)) w1.heap.size := by
  rcases h.2 with ⟨hv, rfl⟩ | ⟨g, cap, cur, hv, hb, hh, hnc, _, hs, ht⟩
  · injection hv with e1 e2 e3
    subst e1 e3
    exact ⟨none, 0, 0, 0, [], heap_alloc_new _ _, by omega, by omega, rfl, by simp, fun h => by omega⟩
  · have hg : g < w1.heap.size := by
      rcases Nat.lt_or_ge g w1.heap.size with hlt | hge
      · exact hlt
      · rw [Array.getElem?_eq_none hge] at hh; cases hh
    injection hv with e1 e2 e3
    subst e1 e3
    refine ⟨_, m, c, 0, zs, heap_alloc_new _ _, by omega, hm, hz, hw, fun hl => ⟨g, rfl, hg, fun j hj => ?_⟩⟩
    have e1 : (w1.alloc (.cells #[.slice (some ⟨g, 0, none⟩) m c, .int .i64 0] 61)).cell? ⟨g, j, none⟩ = w1.cell? ⟨g, j, none⟩ := World.cell?_of_block (Below.heap_alloc _ _ _ hg)
    rw [e1]
    have : (cur.toList.take (m * 1))[j]? = some (.int .u8 (zs.getD j 0)) := by rw [ht]; simp [show j < zs.length by omega]
    rw [List.getElem?_take_of_lt (by omega)] at this
    simp only [World.cell?, hh]
    simpa using this

theorem u8_bounds {z : Int} (h : (Lit.int .u8 z).wf = true) : 0 ≤ z ∧ z ≤ 255 := by
  have := bounds_u8 h
  omega

set_option maxHeartbeats 600000 in
theorem new_any (a : Option Addr) (len cap : Nat) (zs : List Int) (most : Nat) (w : World) (hm : most ≤ 1000) (h : IsRow .u8 w a len cap zs) :
    Calls Try.prog 13 #[.slice a len cap, .int .i64 most] w (NewPost w) := by
  rcases h with ⟨rfl, rfl, rfl, rfl⟩ | ⟨x, rfl, hlc, hcm, hz, hcell, hwf⟩
  · have hmm : decide ((most : Int) < 0) = false := by simp
    go_enter Try.func13, Try.ntmps13
    go_wp2
    go_ret
    exact ⟨w.heap.size, rfl, Nat.le_refl _, ⟨none, 0, 0, 0, [], heap_alloc_new _ _, by omega, by omega, rfl, by simp, fun h => by omega⟩, (Below.refl _ _).alloc (Nat.le_refl _) _⟩
  · obtain ⟨i0, hi, hz0, hz1, hz2⟩ := info_parts info5
    have HZ := Lib.hid hz
    have key : ∀ m : Nat, m ≤ cap → ∀ j u, ((zs.take m).map (Value.int .u8))[j]? = some u → w.cell? (x.add j) = some u := fun m hmc j u hu => by
      have hj : j < m := by
        have := (List.getElem?_eq_some_iff.1 hu).1
        simp at this
        omega
      have hjz : j < zs.length := by omega
      rw [hcell j hjz]
      rw [← hu]
      simp [List.getElem?_take_of_lt hj, hjz]
    have one : ∀ m : Nat, ∀ u ∈ (zs.take m).map (Value.int .u8), u.oneCell' = true := fun m u hu => by
      obtain ⟨z, _, rfl⟩ := List.mem_map.1 hu
      rfl
    have bds : ∀ m : Nat, ∀ z ∈ zs.take m, 0 ≤ z ∧ z ≤ 255 := fun m z hz => u8_bounds (hwf z (List.mem_of_mem_take hz))
    have HK := Lib.hid key
    have HO := Lib.hid one
    have HBD := Lib.hid bds
    unfold maxLen at hcm
    clear hz hcell hwf key one bds
    by_cases hle : len ≤ most
    · have hd : decide ((most : Int) < (len : Int)) = false := by simp; omega
      have hd2 : decide ((most : Int) < len) = false := hd
      have hl0 : (len : Int) ≤ cap := by omega
      go_enter Try.func13, Try.ntmps13
      go_wp2_with (at_builtin; refine wpList_append_slice _ rfl (.const (.slice none 0 0)) (.tmp 10) 23 rfl w.heap.size 5 i0 _ 1 1 Try.underlying23 hi hz0 hz1 hz2 rfl (by decide) (.slice none 0 0) 0 [] rfl (World.ownsRow_nil _ _ _ _) x len cap ((zs.take len).map (Value.int .u8)) rfl (by simp; have := HZ.out; omega) (HK.out len hlc) (HO.out len) (by unfold maxLen; omega) (by omega) (Nat.le_refl _) ?_; intro A c w1 hown1 hg1)
      rw [List.nil_append] at hown1
      rw [Nat.zero_add] at hown1
      have hcase := caseOk_new (by omega) (by simp; have := HZ.out; omega) (HBD.out len) hown1
      go_ret
      exact ⟨w1.heap.size, rfl, hg1.size, hcase, ((Below.refl _ _).grown hg1 (Nat.le_refl _) (by simp [Value.ownBlock])).alloc hg1.size _⟩
    · have hd : decide ((most : Int) < (len : Int)) = true := by simp; omega
      have hd2 : decide ((most : Int) < len) = true := hd
      have hl0 : (most : Int) ≤ cap := by omega
      have hmc : most ≤ cap := by omega
      go_enter Try.func13, Try.ntmps13
      go_wp2_with (at_builtin; refine wpList_append_slice _ rfl (.const (.slice none 0 0)) (.tmp 10) 23 rfl w.heap.size 5 i0 _ 1 1 Try.underlying23 hi hz0 hz1 hz2 rfl (by decide) (.slice none 0 0) 0 [] rfl (World.ownsRow_nil _ _ _ _) x most cap ((zs.take most).map (Value.int .u8)) rfl (by simp; have := HZ.out; omega) (HK.out most hmc) (HO.out most) (by unfold maxLen; omega) (by omega) (Nat.le_refl _) ?_; intro A c w1 hown1 hg1)
      rw [List.nil_append] at hown1
      rw [Nat.zero_add] at hown1
      have hcase := caseOk_new (by omega) (by simp; have := HZ.out; omega) (HBD.out most) hown1
      go_ret
      exact ⟨w1.heap.size, rfl, hg1.size, hcase, ((Below.refl _ _).grown hg1 (Nat.le_refl _) (by simp [Value.ownBlock])).alloc hg1.size _⟩

/-- What Numbers returns: n numbers, none below 0. -/
def NumbersPost (n : Nat) (w : World) (g : Nat) (e : Ending) (w' : World) : Prop :=
  ∃ l : List Int, e = .returned (.slice (some ⟨w.heap.size, 0, none⟩) n n) ∧ l.length = n ∧ (∀ x ∈ l, 0 ≤ x) ∧ Row w' w.heap.size l ∧ CaseOk w' g ∧ w.grownBy w' (some g)

theorem mem_set_pos {l : List Int} {k : Nat} {x : Int} (h : ∀ y ∈ l, 0 ≤ y) (hx : 0 ≤ x) : ∀ y ∈ l.set k x, 0 ≤ y := by
  intro y hy
  rcases List.mem_or_eq_of_mem_set hy with h' | h'
  · exact h y h'
  · omega
theorem only_alloc {a w : World} {row : Option Nat} (h : a.grownBy w row) (o : Obj) : a.grownBy (w.alloc o) row :=
  ⟨h.os, h.tape, h.output, Nat.le_trans h.size (by simp), fun i hi hne => (Below.heap_alloc w o i (Nat.lt_of_lt_of_le hi h.size)).trans (h.block i hi hne)⟩
theorem only_setCell {a w : World} {g : Nat} (h : a.grownBy w (some g)) {p : Addr} (hp : p.block = g ∨ a.heap.size ≤ p.block) (u : Value) : a.grownBy (w.setCell p u) (some g) :=
  ⟨h.os, h.tape, h.output, by simpa [World.setCell] using h.size, fun i hi hne => (Below.heap_setCell w p u i (by
    rintro rfl
    rcases hp with hp | hp
    · exact hne (by rw [hp])
    · omega)).trans (h.block i hi hne)⟩
theorem only_trans {a b c : World} {row : Option Nat} (h : a.grownBy b row) (k : b.grownBy c row) : a.grownBy c row :=
  ⟨k.os.trans h.os, k.tape.trans h.tape, k.output.trans h.output, Nat.le_trans h.size k.size, fun i hi hne => (k.block i (Nat.lt_of_lt_of_le hi h.size) hne).trans (h.block i hi hne)⟩
theorem only_of_below {a w : World} (h : Below a.heap.size a w) (row : Option Nat) : a.grownBy w row := ⟨h.os, h.tape, h.output, h.size, fun i hi _ => h.block i hi⟩

set_option maxHeartbeats 600000 in
theorem numbers_any (g n : Nat) (w : World) (hn : n ≤ 1000) (hc : CaseOk w g) : Calls Try.prog 35 #[.pointer (some ⟨g, 0, none⟩), .int .i64 n] w (NumbersPost n w g) := by
  have hmk := run_make_ints n (by omega)
  have hg := hc.lt
  have HC := Lib.hid hc
  clear hc
  go_enter Try.func35, Try.ntmps35
  go_wp2_with fail
  clear hmk
  go_loopw [11] (fun i wr => ∃ (k : Nat) (l : List Int), k ≤ n ∧ i = .int .i64 k ∧ l.length = n ∧ (∀ x ∈ l, 0 ≤ x) ∧ Row wr w.heap.size l ∧ CaseOk wr g ∧ w.grownBy wr (some g)) (fun i _ => n - (intOf i).toNat)
  case atStart => exact ⟨0, List.replicate n 0, Nat.zero_le _, rfl, by simp, fun x hx => by rw [List.eq_of_mem_replicate hx]; exact Int.le_refl _, Row.new _ _, HC.out.keep (fun b hb => Below.heap_alloc _ _ _ (by omega)), only_alloc (World.grownBy.refl w _) _⟩
  case round =>
    obtain ⟨k, l, hk, rfl, hl, hpos, hrow, hcase, hgr⟩ := hrel
    have HL := Lib.hid hl
    have HP := Lib.hid hpos
    have HR := Lib.hid hrow
    have HCA := Lib.hid hcase
    have HG := Lib.hid hgr
    have hlt' := hrow.lt
    by_cases hkl : k < n
    · clear hl hpos hrow hcase hgr
      go_wp2_with fail
      refine (int_any g 5 wr (by omega) HCA.out).mono ?_
      rintro e w1 ⟨r, rfl, hr0, _, _, hc1, hg1, hs1⟩
      have HR1 := Lib.hid (HR.out.keep (w' := w1) (hg1.block _ hlt' (by simp; omega)))
      have HC1 := Lib.hid hc1
      have HG1 := Lib.hid (only_trans HG.out hg1)
      clear hc1 hg1 hs1
      have c1 := HR1.out.cell (show k < l.length by rw [HL.out]; exact hkl)
      have f1 := HR1.out.frozen k
      generalize l.getD k 0 = x at c1
      go_wp2_with fail
      go_roundw
      case rel => exact ⟨k + 1, l.set k r, by omega, by go_num, by simpa using HL.out, mem_set_pos HP.out hr0, HR1.out.set_ k r, HC1.out.keep (fun b hb => Below.heap_setCell _ ⟨w.heap.size, k, none⟩ _ b (by show b ≠ w.heap.size; omega)), only_setCell HG1.out (p := ⟨w.heap.size, k, none⟩) (.inr (Nat.le_refl _)) _⟩
      case measure => simp [intOf]; omega
    · clear hl hpos hrow hcase hgr
      go_wp2_with fail
      go_ret
      exact ⟨l, rfl, HL.out, HP.out, HR.out, HCA.out, HG.out⟩
end Go.Proofs.Ytjpknhhdkjhjfaa
