/- Words for the contract of Logs: what its loops keep, and the push of one stamp. -/
import Derived.Test.YtjpknhhdkjhjfaaGen
import Derived.Test.YtjpknhhdkjhjfaaPlain6
import Derived.Test.YtjpknhhdkjhjfaaNew
import Derived.Deep.LoopGhost
import Derived.Deep.RegionHeld3
import Derived.Deep.DeepCutAuto
import Derived.Deep.RegionLaw
import Derived.Deep.DrawnRows
import Derived.Laws.ShiftsVarLaws
import Derived.WalkLawsBesides
namespace Go.Proofs.Ytjpknhhdkjhjfaa
open Go.RowKit
set_option linter.unusedVariables false

theorem info36 : (Try.prog.info? 36).map (fun i => (i.zero, i.size, i.bytes)) = some (some (.agg #[.int .i64 0, .slice none 0 0]), 2, 32) := by kernel_rfl
theorem info31 : (Try.prog.info? 31).map (fun i => (i.zero, i.size, i.bytes)) = some (some (.slice none 0 0), 1, 24) := by kernel_rfl
def nilCells (n : Nat) : Array Value := (List.replicate n (Value.slice none 0 0)).toArray
theorem run_make_logs (n : Nat) (hn : n ≤ 1000) (w : World) :
    (Instr.makeSlice 22 (.int .i64 (n : Int)) (.int .i64 (n : Int))).run Try.prog w = .ok (.slice (some ⟨w.heap.size, 0, none⟩) n n) (w.alloc (.cells (nilCells n) 31)) := by
  obtain ⟨i0, hi, hz0, hz1, hz2⟩ := info_parts info31
  have hr := run_make (P := Try.prog) w 22 31 i0 _ Try.underlying22 hi hz0 .i64 .i64 n n (by omega) (by omega) (by rw [hz2]; omega) (by omega)
  rw [hr, hz1]
  simp only [Int.toNat_natCast]
  congr 3
  apply Array.ext
  · simp [size_madeCells, nilCells]
  · intro i h1 h2
    simp [madeCells, nilCells, Value.cells, Nat.mod_one]

def LogsPost (w : World) (g : Nat) (e : Ending) (w' : World) : Prop :=
  ∃ (base : Int) (H : Nat) (L : List (List Stp)) (vs : List Value), e = .returned (.tuple #[.int .i64 base, .slice (some ⟨H, 0, none⟩) L.length L.length]) ∧ 0 ≤ base ∧ base ≤ 1073741824 ∧ 1 ≤ L.length ∧ L.length ≤ 4 ∧ (∀ i, i < L.length → (L.getD i []).length ≤ 8) ∧
    Valid base L ∧ LogsMem w.heap.size H w' L vs ∧ CaseOk w' g ∧ w.grownBy w' (some g)

theorem shl_bd (m0 : Nat) (h : m0 < 4) : 1 ≤ wrap64 (wrap64 (2 ^ (1 + m0)) - 1) ∧ wrap64 (wrap64 (2 ^ (1 + m0)) - 1) ≤ 15 := by
  have : m0 = 0 ∨ m0 = 1 ∨ m0 = 2 ∨ m0 = 3 := by omega
  unfold wrap64
  rcases this with rfl | rfl | rfl | rfl <;> simp

/-- What the loops of Logs keep. -/
structure GenW (g H : Nat) (w W : World) (L : List (List Stp)) (vs : List Value) : Prop where
  mem : LogsMem w.heap.size H W L vs
  cs : CaseOk W g
  gr : w.grownBy W (some g)
theorem GenW.keep {g H : Nat} {w W W' : World} {L : List (List Stp)} {vs : List Value} (h : GenW g H w W L vs) (hg : g < w.heap.size) (hc : CaseOk W' g) (hk : W.grownBy W' (some g)) : GenW g H w W' L vs :=
  ⟨h.mem.keep (fun b hb hl => hk.block b hl (by intro e; injection e with e; omega)), hc, only_trans h.gr hk⟩
theorem GenW.below {g H : Nat} {w W W' : World} {L : List (List Stp)} {vs : List Value} (h : GenW g H w W L vs) (hk : Below W.heap.size W W') : GenW g H w W' L vs :=
  ⟨h.mem.keep (fun b hb hl => hk.block b hl), h.cs.keep (fun b hb => hk.block b (by have := h.cs.lt; omega)), only_trans h.gr (only_of_below hk _)⟩
/-- The slice of the shards. -/
def ShIn (W : World) (B : Nat) (A : Option Addr) (sh : List Int) : Prop := 0 < sh.length → ∃ gs, A = some ⟨gs, 0, none⟩ ∧ B ≤ gs ∧ Own W gs sh
theorem replicate_getD (m i : Nat) (h : i < m) : (List.replicate m (Value.slice none 0 0)).getD i undef = .slice none 0 0 := by simp [List.getD, h]
theorem genW_start {g : Nat} {w W : World} {m : Nat} (hs : W.heap.size = w.heap.size) (hg : g < w.heap.size) (hc : CaseOk W g) (hgr : w.grownBy W (some g)) : GenW g W.heap.size w (W.alloc (.cells (nilCells m) 31)) (List.replicate m []) (List.replicate m (.slice none 0 0)) := by
  refine ⟨⟨by omega, heap_alloc_new _ _, by simp, fun i hi => ?_, fun i j hi _ _ b hb => ?_⟩, hc.keep (fun b hb => Below.heap_alloc _ _ _ (by omega)), only_alloc hgr _⟩
  · rw [List.length_replicate] at hi
    rw [replicate_getD m i hi]
    have e : (List.replicate m ([] : List Stp)).getD i [] = [] := by simp [List.getD, hi]
    refine ⟨[], ?_, fun k hk => ?_⟩
    · rw [e]; exact World.ownsRow_nil _ _ _ _
    · rw [e] at hk; simp at hk
  · rw [List.length_replicate] at hi
    rw [replicate_getD m i hi] at hb
    simp [Value.ownBlock] at hb

theorem stampCells_keep {W W' : World} {B : Nat} {xs xs' : List Value} {k : Nat} {s : Stp} (h : StampCells W B xs k s) (hx : ∀ (j : Nat) (u : Value), xs[j]? = some u → xs'[j]? = some u) (hk : ∀ g l, B ≤ g → Own W g l → Own W' g l) : StampCells W' B xs' k s := by
  obtain ⟨h1, g, c, h2, h3, h4, h5⟩ := h
  exact ⟨hx _ _ h1, g, c, hx _ _ h2, h3, hk g _ h3 h4, h5⟩

/-- One stamp more at the end of list q. -/
theorem genW_push {g H q : Nat} {w w8 wA wB : World} {L : List (List Stp)} {vs : List Value} {l : List Stp} {Ai : Option Addr} {ci : Nat} {xs : List Value} {sh : List Int} {cm x : Int} {gA cA g2 c2 gs : Nat}
    (h : GenW g H w w8 L vs) (hg : g < w.heap.size) (hq : q < L.length) (hl : L.getD q [] = l) (hv : vs.getD q undef = .slice Ai l.length ci)
    (hrow : w8.ownsRow w.heap.size 36 2 (.slice Ai l.length ci) l.length xs) (hst : ∀ k, k < l.length → StampCells w8 w.heap.size xs k (stp L q k)) (hsh : sh.length ≤ 4) (hx : x = cm) (hsh0 : 0 < sh.length)
    (hownA : wA.ownsRow w.heap.size 3 1 (.slice (some ⟨gA, 0, none⟩) (0 + sh.length) cA) (0 + sh.length) ([] ++ sh.map (Value.int .i64))) (hgr1 : ∀ b, b < w8.heap.size → wA.heap[b]? = w8.heap[b]?) (hs1 : w8.heap.size ≤ wA.heap.size) (ho1 : wA.os = w8.os ∧ wA.tape = w8.tape ∧ wA.output = w8.output)
    (hatA : w8.heap.size ≤ gA) (hX : ∃ X : Obj, (∀ b, b < wA.heap.size → some b ≠ (Value.slice Ai l.length ci).ownBlock → wB.heap[b]? = wA.heap[b]?) ∧ wA.heap.size ≤ wB.heap.size ∧ (wB.os = wA.os ∧ wB.tape = wA.tape ∧ wB.output = wA.output))
    (hownB : wB.ownsRow w.heap.size 36 2 (.slice (some ⟨g2, 0, none⟩) (l.length + 1) c2) (l.length + 1) (xs ++ [.int .i64 x, .slice (some ⟨gA, 0, none⟩) sh.length cA]))
    (hatB : (Value.slice Ai l.length ci).ownBlock = some g2 ∨ g2 = wA.heap.size + 1) (hOsh : Own w8 gs sh) :
    ∃ vs', GenW g H w (wB.setCell ⟨H, q, none⟩ (.slice (some ⟨g2, 0, none⟩) (l.length + 1) c2)) (L.set q (l ++ [(cm, sh)])) vs' ∧ Own (wB.setCell ⟨H, q, none⟩ (.slice (some ⟨g2, 0, none⟩) (l.length + 1) c2)) gs sh := by
  subst hx
  obtain ⟨_, hgr2, hs2, ho2⟩ := hX
  rw [Nat.zero_add, List.nil_append] at hownA
  have hH := lt_of_heap h.mem.hd
  obtain ⟨_, ga, capa, ea, hba, hOA⟩ := Own.of_owns hownA (by simpa using hsh0)
  injection ea with ea
  injection ea with ea
  injection ea with ea _ _
  subst ea
  have hne3 : ∀ b c l', w8.heap[b]? = some (.cells c 3 l') → some b ≠ (Value.slice Ai l.length ci).ownBlock := fun b c l' hb e => by
    obtain ⟨_, cur, hh⟩ := owns_block hrow e.symm
    exact ne_of_type hb hh (by decide) rfl
  have hOAB : Own wB gA sh := hOA.keep (hgr2 gA hOA.lt (fun e => by
    obtain ⟨_, cur, hh⟩ := owns_block hrow e.symm
    have := lt_of_heap hh
    omega))
  have old : ∀ b l', w.heap.size ≤ b → Own w8 b l' → Own wB b l' := fun b l' _ ho => by
    obtain ⟨cur, hh, ht⟩ := ho
    have hbl := lt_of_heap hh
    exact Own.keep ⟨cur, hh, ht⟩ ((hgr2 b (by omega) (hne3 b cur _ hh)).trans (hgr1 b hbl))
  have hput := h.mem.put (i := q) (W' := wB) (v' := .slice (some ⟨g2, 0, none⟩) (l.length + 1) c2) (l' := l ++ [(x, sh)]) (xs' := xs ++ [.int .i64 x, .slice (some ⟨gA, 0, none⟩) sh.length cA]) hq
    (fun b hb hne => by rw [hv] at hne; exact (hgr2 b (by omega) hne).trans (hgr1 b hb))
    (by simpa using hownB)
    (fun k hk => by
      rw [List.length_append, List.length_singleton] at hk
      have hxl := hrow.1
      by_cases hkl : k < l.length
      · have e : (l ++ [(x, sh)]).getD k (0, []) = stp L q k := by
          unfold stp
          rw [hl]
          simp [List.getD, List.getElem?_append_left hkl]
        rw [e]
        exact stampCells_keep (hst k hkl) (fun j u hu => by
          have := (List.getElem?_eq_some_iff.1 hu).1
          rw [List.getElem?_append_left this]; exact hu) old
      · have ek : k = l.length := by omega
        subst ek
        have e : (l ++ [(x, sh)]).getD l.length (0, []) = (x, sh) := by simp [List.getD]
        rw [e]
        refine ⟨?_, gA, cA, ?_, by omega, hOAB, by show sh.length ≤ 17592186044416; omega⟩
        · rw [List.getElem?_append_right (by omega), hxl, Nat.sub_self]; rfl
        · rw [List.getElem?_append_right (by omega), hxl, Nat.add_sub_cancel_left]; rfl)
    (by
      rcases hatB with hb | hb
      · exact .inr (.inl (by rw [hv, hb]; rfl))
      · exact .inr (.inr ⟨g2, rfl, by omega⟩))
  have hgc : g ≠ H := by have := h.mem.hb; omega
  refine ⟨_, ⟨hput, h.cs.keep (fun b hb => ?_), ?_⟩, ?_⟩
  · have hgl := h.cs.lt
    rw [Below.heap_setCell _ ⟨H, q, none⟩ _ b (by show b ≠ H; have := h.mem.hb; omega)]
    refine (hgr2 b (by omega) (fun e => ?_)).trans (hgr1 b (by omega))
    have := (owns_block hrow e.symm).1
    omega
  · have hsz := h.gr.size
    refine only_setCell ⟨ho2.1.trans (ho1.1.trans h.gr.os), ho2.2.1.trans (ho1.2.1.trans h.gr.tape), ho2.2.2.trans (ho1.2.2.trans h.gr.output), by omega, fun b hb hne => ?_⟩ (.inr h.mem.hb) _
    refine ((hgr2 b (by omega) (fun e => ?_)).trans (hgr1 b (by omega))).trans (h.gr.block b hb hne)
    have := (owns_block hrow e.symm).1
    omega
  · obtain ⟨cur, hh, ht⟩ := hOsh
    have hbl := lt_of_heap hh
    have e1 := (hgr2 gs (by omega) (hne3 gs cur _ hh)).trans (hgr1 gs hbl)
    refine Own.keep ⟨cur, hh, ht⟩ ((Below.heap_setCell _ ⟨H, q, none⟩ _ gs ?_).trans e1)
    exact ne_of_type hh h.mem.hd (by decide)

end Go.Proofs.Ytjpknhhdkjhjfaa
