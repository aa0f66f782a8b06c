/- The contract of Cut: a cut of logs. -/
import Derived.Test.YtjpknhhdkjhjfaaNew
namespace Go.Proofs.Ytjpknhhdkjhjfaa
open Go.RowKit
set_option linter.unusedVariables false

def CutPost (L : List (List Stp)) (w : World) (g : Nat) (e : Ending) (w' : World) : Prop :=
  ∃ l : List Int, e = .returned (.slice (some ⟨w.heap.size, 0, none⟩) L.length L.length) ∧ IsCut L l ∧ Row w' w.heap.size l ∧ CaseOk w' g ∧ w.grownBy w' (some g)
theorem cutTo_set {L : List (List Stp)} {l : List Int} {k : Nat} {x : Int} (hk : k < L.length) (hl : l.length = L.length) (h : CutTo L l k) (h0 : 0 ≤ x) (h1 : x ≤ (L.getD k []).length) : CutTo L (l.set k x) (k + 1) := by
  intro i hi
  rw [getD_set' l k i x (by omega)]
  by_cases e : i = k
  · rw [if_pos e, e]; exact ⟨h0, h1⟩
  · rw [if_neg e]; exact h i (by omega)
where
  getD_set' (l : List Int) (k i : Nat) (x : Int) (hk : k < l.length) : (l.set k x).getD i 0 = if i = k then x else l.getD i 0 := by
    simp only [List.getD, List.getElem?_set]
    by_cases h : k = i
    · subst h; simp [hk]
    · have : ¬ i = k := fun e => h e.symm
      simp [h, this]

set_option maxHeartbeats 600000 in
theorem cut_any (g : Nat) (AL : Option Addr) (cl : Nat) (L : List (List Stp)) (S : Nat → Prop) (w : World) (hc : CaseOk w g) (hL : Logs w S AL L) (hS : ∀ b, S b → b < w.heap.size ∧ b ≠ g) (hm : L.length ≤ 1000) (hll : ∀ i, i < L.length → (L.getD i []).length ≤ 1000) :
    Calls Try.prog 20 #[.pointer (some ⟨g, 0, none⟩), .slice AL L.length cl] w (CutPost L w g) := by
  have hmk := run_make_ints L.length (by omega)
  have hg := hc.lt
  have HC := Lib.hid hc
  have HL := Lib.hid hL
  have HLL := Lib.hid hll
  clear hc hL hll
  go_enter Try.func20, Try.ntmps20
  go_wp2_with fail
  clear hmk
  go_loopw [12] (fun i wr => ∃ (k : Nat) (l : List Int), k ≤ L.length ∧ i = .int .i64 k ∧ l.length = L.length ∧ CutTo L l k ∧ Row wr w.heap.size l ∧ CaseOk wr g ∧ w.grownBy wr (some g)) (fun i _ => L.length - (intOf i).toNat)
  case atStart => exact ⟨0, List.replicate L.length 0, Nat.zero_le _, rfl, by simp, fun i hi => absurd hi (by omega), Row.new _ _, HC.out.keep (fun b hb => Below.heap_alloc _ _ _ (by omega)), only_alloc (World.grownBy.refl w _) _⟩
  case round =>
    obtain ⟨k, l, hk, rfl, hl, hpos, hrow, hcase, hgr⟩ := hrel
    have HLN := Lib.hid hl
    have HP := Lib.hid hpos
    have HR := Lib.hid hrow
    have HCA := Lib.hid hcase
    have HG := Lib.hid hgr
    have hlt' := hrow.lt
    by_cases hkl : k < L.length
    · obtain ⟨b3, o3, A', c', rfl, hb3, c3, hs⟩ := (HL.out.keep (Same.of_grown hgr (fun b hb => ⟨(hS b hb).1, fun e => by injection e with e; exact (hS b hb).2 e⟩))).at_ hkl
      have hlk := HLL.out k hkl
      have HST := Lib.hid (fun x h0 h1 => cutTo_set (x := x) hkl hl hpos h0 h1)
      clear hs hl hpos hrow hcase hgr
      generalize (L.getD k []).length = len at c3 hlk HST
      go_wp2_with fail
      refine (int_any g _ wr (by omega) HCA.out).mono ?_
      rintro e w1 ⟨r, rfl, hr0, hr1, _, hc1, hg1, hs1⟩
      have hrl : r ≤ (len : Int) := by have := hr1 (by omega); omega
      have HR1 := Lib.hid (HR.out.keep (w' := w1) (hg1.block _ hlt' (by simp; omega)))
      have HC1 := Lib.hid hc1
      have HG1 := Lib.hid (only_trans HG.out hg1)
      clear hc1 hg1 hs1 hr1
      have c1 := HR1.out.cell (show k < l.length by rw [HLN.out]; exact hkl)
      have f1 := HR1.out.frozen k
      generalize l.getD k 0 = x at c1
      go_wp2_with fail
      go_roundw
      case rel => exact ⟨k + 1, l.set k r, by omega, by go_num, by simpa using HLN.out, HST.out r hr0 hrl, HR1.out.set_ k r, HC1.out.keep (fun b hb => Below.heap_setCell _ ⟨w.heap.size, k, none⟩ _ b (by show b ≠ w.heap.size; omega)), only_setCell HG1.out (p := ⟨w.heap.size, k, none⟩) (.inr (Nat.le_refl _)) _⟩
      case measure => simp [intOf]; omega
    · clear hl hpos hrow hcase hgr
      go_wp2_with fail
      go_ret
      exact ⟨l, rfl, ⟨HLN.out, fun i hi => HP.out i (by omega)⟩, HR.out, HCA.out, HG.out⟩
end Go.Proofs.Ytjpknhhdkjhjfaa
