/- Rows of ints that the call owns; the contracts of slices.Clone and checkCut. -/
import Derived.Test.YtjpknhhdkjhjfaaCheck
import Derived.Test.YtjpknhhdkjhjfaaJoin
import Derived.Test.YtjpknhhdkjhjfaaPlain3
import Derived.WalkSpells
import Derived.OwnWalk
namespace Go.Proofs.Ytjpknhhdkjhjfaa
open Go.RowKit
set_option linter.unusedVariables false

/-- Block g begins with the ints l and is not frozen. -/
def Own (w : World) (g : Nat) (l : List Int) : Prop := ∃ cur : Array Value, w.heap[g]? = some (.cells cur 3 (0, 0)) ∧ cur.toList.take l.length = l.map (Value.int .i64)
section
variable {w w' : World} {g : Nat} {l : List Int}
theorem Own.lt (h : Own w g l) : g < w.heap.size := by
  obtain ⟨cur, h, _⟩ := h
  rcases Nat.lt_or_ge g w.heap.size with hlt | hge
  · exact hlt
  · rw [Array.getElem?_eq_none hge] at h; cases h
theorem Own.cell (h : Own w g l) {k : Nat} (hk : k < l.length) : w.cell? ⟨g, k, none⟩ = some (.int .i64 (l.getD k 0)) := by
  obtain ⟨cur, h, ht⟩ := h
  have : (cur.toList.take l.length)[k]? = some (.int .i64 (l.getD k 0)) := by rw [ht]; simp [hk]
  rw [List.getElem?_take_of_lt hk] at this
  simp only [World.cell?, h]
  simpa using this
theorem Own.frozen (h : Own w g l) (k : Nat) : w.frozen? ⟨g, k, none⟩ = false := by
  obtain ⟨cur, h, _⟩ := h
  simp [World.frozen?, h]
theorem Own.set_ (h : Own w g l) (k : Nat) (x : Int) : Own (w.setCell ⟨g, k, none⟩ (.int .i64 x)) g (l.set k x) := by
  obtain ⟨cur, h, ht⟩ := h
  refine ⟨cur.setIfInBounds k (.int .i64 x), by simp [World.setCell, Array.getElem?_modify, h], ?_⟩
  rw [Array.toList_setIfInBounds, List.length_set, List.take_set, ht, List.map_set]
theorem Own.keep (h : Own w g l) (hk : w'.heap[g]? = w.heap[g]?) : Own w' g l := by
  obtain ⟨cur, h, ht⟩ := h
  exact ⟨cur, hk.trans h, ht⟩
theorem Own.drewN (h : Own w g l) (n : Nat) : Own (w.drewN n) g l := h
theorem Own.of_row (h : Row w g l) : Own w g l := ⟨intCells l, h, by simp only [intCells]; rw [List.take_of_length_le (by simp)]⟩
theorem Own.ints (h : Own w g l) : Ints w (fun b => b = g) (some ⟨g, 0, none⟩) l :=
  ⟨by simp, fun hn => ⟨g, 0, rfl, rfl, fun j u hu => by
    have hj : j < l.length := by
      have := (List.getElem?_eq_some_iff.1 hu).1
      simpa using this
    simp [hj] at hu
    rw [Nat.zero_add, h.cell hj, ← hu]
    simp [hj]⟩⟩
theorem Own.of_owns {base : Nat} {v : Value} {n : Nat} (h : w.ownsRow base 3 1 v n (l.map (Value.int .i64))) (hn : 0 < n) : n = l.length ∧ ∃ g cap, v = .slice (some ⟨g, 0, none⟩) n cap ∧ base ≤ g ∧ Own w g l := by
  have hl : n = l.length := by have := h.1; simpa using this.symm
  rcases h.2 with ⟨_, h0⟩ | ⟨g, cap, cur, hv, hb, hh, _, _, _, ht⟩
  · omega
  · exact ⟨hl, g, cap, hv, hb, cur, hh, by rw [← hl, ← ht]; simp⟩
end

theorem add_none (b off j : Nat) : (⟨b, off, none⟩ : Addr).add j = ⟨b, off + j, none⟩ := by
  unfold Addr.add
  split
  · rename_i h; subst h; rfl
  · rfl
def ClonePost (l : List Int) (w : World) (e : Ending) (w' : World) : Prop := ∃ g cap, e = .returned (.slice (some ⟨g, 0, none⟩) l.length cap) ∧ w.heap.size ≤ g ∧ Own w' g l ∧ Below w.heap.size w w'

theorem int_one (l : List Int) : ∀ u ∈ l.map (Value.int .i64), u.oneCell' = true := by
  intro u hu
  obtain ⟨x, _, rfl⟩ := List.mem_map.1 hu
  rfl

set_option maxHeartbeats 400000 in
theorem clone_any (A : Option Addr) (ca : Nat) (l : List Int) (S : Nat → Prop) (w : World) (ha : Ints w S A l) (hS : ∀ b, S b → b < w.heap.size) (h0 : 0 < l.length) (hl : l.length ≤ 17592186044416) :
    Calls Try.prog 50 #[.slice A l.length ca] w (ClonePost l w) := by
  obtain ⟨b, off, rfl, hb, hc⟩ := ha.2 h0
  have hlt := hS b hb
  obtain ⟨i0, hi, hz0, hz1, hz2⟩ := info_parts info3
  have hnil := fun W => Lib.run_eql_slice_nil (P := Try.prog) W 34 3 (some ⟨b, off, none⟩) l.length ca 0 0 Try.underlying34
  have hn1 : Below w.heap.size w (w.alloc (.cells #[] 3)) := (Below.refl _ _).alloc (Nat.le_refl _) _
  have HNEWS := Lib.hid (show ∀ j u, (l.map (Value.int .i64))[j]? = some u → (w.alloc (.cells #[] 3)).cell? ((⟨b, off, none⟩ : Addr).add j) = some u from fun j u hu => by
    rw [add_none]; exact (hn1.cell (p := ⟨b, off + j, none⟩) hlt).trans (hc j u hu))
  have HOWN := Lib.hid (show (w.alloc (.cells #[] 3)).ownsRow w.heap.size 3 1 (.slice (some ⟨w.heap.size, 0, none⟩) 0 0) 0 [] from ⟨rfl, .inr ⟨w.heap.size, 0, #[], rfl, Nat.le_refl _, heap_alloc_new w _, Nat.le_refl _, by unfold maxLen; omega, rfl, rfl⟩⟩)
  have HB := Lib.hid hn1
  clear hc ha hn1
  go_enter Try.func50, Try.ntmps50
  go_wp2_with (at_builtin; refine wpList_append_own _ rfl (.tmp 5) (.tmp 6) 34 rfl w.heap.size 3 i0 _ 1 8 Try.underlying34 hi hz0 hz1 hz2 rfl (by decide) (.slice (some ⟨w.heap.size, 0, none⟩) 0 0) 0 [] rfl HOWN.out ⟨b, off, none⟩ l.length ca (l.map (Value.int .i64)) rfl (by simp) HNEWS.out (int_one l) (by unfold maxLen; omega) (by omega) (by simp) ?_; intro v1 w1 hown1 hg1 hnil1)
  go_ret
  rw [List.nil_append, Nat.zero_add] at hown1
  obtain ⟨_, g, cap, rfl, hbg, hown⟩ := Own.of_owns hown1 h0
  exact ⟨g, cap, rfl, hbg, hown, HB.out.grown hg1 (by simp) (fun k e => by simp [Value.ownBlock] at e; omega)⟩

open Classical in
/-- The error of a cut. -/
noncomputable def cutErr (base : Int) (L : List (List Stp)) (c : List Int) : Int := if errOf base L = 0 then (if IsCut L c then 0 else 1) else errOf base L
theorem cutErr_err {base : Int} {L : List (List Stp)} {c : List Int} (h : errOf base L ≠ 0) : cutErr base L c = errOf base L := by unfold cutErr; rw [if_neg h]
theorem cutErr_ok {base : Int} {L : List (List Stp)} {c : List Int} (h : errOf base L = 0) (hc : IsCut L c) : cutErr base L c = 0 := by unfold cutErr; rw [if_pos h, if_pos hc]
theorem cutErr_bad {base : Int} {L : List (List Stp)} {c : List Int} (h : errOf base L = 0) (hc : ¬ IsCut L c) : cutErr base L c = 1 := by unfold cutErr; rw [if_pos h, if_neg hc]
theorem cutErr_cases (base : Int) (L : List (List Stp)) (c : List Int) : (cutErr base L c = 0 ∧ ¬ BadArg base L ∧ Valid base L ∧ IsCut L c) ∨ cutErr base L c ≠ 0 := by
  rcases errOf_cases base L with ⟨h, h1, h2⟩ | h
  · by_cases hc : IsCut L c
    · exact .inl ⟨cutErr_ok h hc, h1, h2, hc⟩
    · exact .inr (by rw [cutErr_bad h hc]; decide)
  · have : errOf base L ≠ 0 := by omega
    exact .inr (by rw [cutErr_err this]; exact this)

def CutTo (L : List (List Stp)) (c : List Int) (k : Nat) : Prop := ∀ i, i < k → 0 ≤ c.getD i 0 ∧ c.getD i 0 ≤ (L.getD i []).length
theorem cutTo_step {L : List (List Stp)} {c : List Int} {k : Nat} (h : CutTo L c k) (h1 : 0 ≤ c.getD k 0) (h2 : c.getD k 0 ≤ (L.getD k []).length) : CutTo L c (k + 1) := by
  intro i hi
  rcases Nat.lt_succ_iff_lt_or_eq.1 hi with h' | h'
  · exact h i h'
  · subst h'; exact ⟨h1, h2⟩

set_option maxHeartbeats 600000 in
theorem checkCut_any (AL AC : Option Addr) (cl cc : Nat) (L : List (List Stp)) (c : List Int) (base : Int) (S : Nat → Prop) (w : World) (hL : Logs w S AL L) (hC : Ints w S AC c) (hS : ∀ b, S b → b < w.heap.size) (hcl : c.length ≤ 17592186044416) :
    Calls Try.prog 44 #[.int .i64 base, .slice AL L.length cl, .slice AC c.length cc] w (ErrPost (cutErr base L c) w) := by
  have hbd := hL.1
  go_enter Try.func44, Try.ntmps44
  go_wp2_with fail
  refine (check_any AL cl L base S w hL hS).mono ?_
  rintro e w1 ⟨rfl, hb1⟩
  rcases Classical.em (errOf base L = 0) with he | he
  · have HE := Lib.hid he
    rw [he]
    clear he
    by_cases hlen : c.length = L.length
    · have hd : ((c.length : Int) != (L.length : Int)) = false := by simp [hlen]
      have HLN := Lib.hid hlen
      have HB1 := Lib.hid hb1
      have hc1 := hC.keep (Same.of_below hb1 hS)
      have hL1 := hL.keep (Same.of_below hb1 hS)
      clear hlen hb1 hC hL
      go_wp2
      go_loop [23] (fun i => ∃ k : Nat, k ≤ c.length ∧ i = .int .i64 k ∧ CutTo L c k) (fun i => c.length - (intOf i).toNat)
      case atStart => exact ⟨0, Nat.zero_le _, rfl, fun i hi => absurd hi (by omega)⟩
      case round =>
        obtain ⟨k, hk, rfl, ht⟩ := hrel
        have HT := Lib.hid ht
        clear ht
        by_cases hlt : k < c.length
        · have hlt' : k < L.length := by have := HLN.out; omega
          obtain ⟨b1, o1, rfl, _, c1⟩ := hc1.at_ hlt
          obtain ⟨b3, o3, A', c', rfl, hb3, c3, hs⟩ := hL1.at_ hlt'
          have hls := hs.1
          clear hs hc1 hL1
          have HX := Lib.hid (show CutTo L c k → 0 ≤ c.getD k 0 → c.getD k 0 ≤ (L.getD k []).length → CutTo L c (k + 1) from cutTo_step)
          have HY := Lib.hid (show IsCut L c → 0 ≤ c.getD k 0 ∧ c.getD k 0 ≤ (L.getD k []).length from fun h => h.2 k hlt')
          generalize c.getD k 0 = x at c1 HX HY
          generalize L.getD k [] = l at c3 hls HX HY
          by_cases h1 : x < 0
          · have hd1 : decide (x < 0) = true := by simp [h1]
            have HF := Lib.hid (cutErr_bad HE.out (fun h => by have := (HY.out h).1; omega))
            go_wp2
            go_ret
            exact ⟨by rw [HF.out]; rfl, HB1.out⟩
          · have hd1 : decide (x < 0) = false := by simpa using h1
            by_cases h2 : (l.length : Int) < x
            · have hd2 : decide ((l.length : Int) < x) = true := by simp [h2]
              have HF := Lib.hid (cutErr_bad HE.out (fun h => by have := (HY.out h).2; omega))
              go_wp2
              go_ret
              exact ⟨by rw [HF.out]; rfl, HB1.out⟩
            · have hd2 : decide ((l.length : Int) < x) = false := by simpa using h2
              go_wp2
              go_round
              case rel => exact ⟨k + 1, by omega, by go_num, HX.out HT.out (by omega) (by omega)⟩
              case measure => simp [intOf]; omega
        · have HF := Lib.hid (cutErr_ok HE.out ⟨HLN.out, fun i hi => HT.out i (by have := HLN.out; omega)⟩)
          go_wp2
          go_ret
          exact ⟨by rw [HF.out]; rfl, HB1.out⟩
    · have hd : ((c.length : Int) != (L.length : Int)) = true := by simp; omega
      have HF := Lib.hid (cutErr_bad HE.out (fun h => hlen h.1))
      have HB1 := Lib.hid hb1
      clear hb1 hlen
      go_wp2
      go_ret
      exact ⟨by rw [HF.out]; rfl, HB1.out⟩
  · have HF := Lib.hid (cutErr_err (c := c) he)
    have hd : (errOf base L != 0) = true := by simp [he]
    have HB1 := Lib.hid hb1
    clear hb1 he
    generalize errOf base L = er at *
    go_wp2
    go_ret
    exact ⟨by rw [HF.out]; rfl, HB1.out⟩
end Go.Proofs.Ytjpknhhdkjhjfaa
