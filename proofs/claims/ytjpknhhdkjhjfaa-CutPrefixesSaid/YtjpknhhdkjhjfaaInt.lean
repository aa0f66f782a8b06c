/- Contracts of the reader of codes: Int, Bool. -/
import Derived.Test.YtjpknhhdkjhjfaaMem
import Derived.Deep.QuietTactic
import Derived.BigQuiet
import Derived.RegionTactic
import Derived.Outline
import Derived.OneCell
namespace Go.Proofs.Ytjpknhhdkjhjfaa
open Go.RowKit

def IntPost (w : World) (g : Nat) (n : Int) (e : Ending) (w' : World) : Prop :=
  ∃ r : Int, e = .returned (.int .i64 r) ∧ 0 ≤ r ∧ (1 ≤ n → r < n) ∧ (n < 1 → r = 0) ∧ CaseOk w' g ∧ w.grownBy w' (some g) ∧ w'.heap.size = w.heap.size

theorem getD_mem (zs : List Int) (p : Nat) (h : p < zs.length) : zs.getD p 0 ∈ zs := by
  simp [List.getD, h]

theorem only_drewN {a w : World} {row : Option Nat} (h : a.grownBy w row) (n : Nat) : a.grownBy (w.drewN n) row := ⟨h.os, h.tape, h.output, h.size, h.block⟩

theorem intPost_zero (w : World) (g : Nat) (n : Int) (k : Nat) (hc : CaseOk w g) : IntPost w g n (.returned (.int .i64 0)) (w.drewN k) :=
  ⟨0, rfl, by omega, fun h => by omega, fun _ => rfl, hc, only_drewN (World.grownBy.refl w _) k, rfl⟩

theorem intPost_next (w : World) (g : Nat) (n z : Int) (A : Option Addr) (len cap p : Nat) (zs : List Int) (hb : w.heap[g]? = some (.cells #[.slice A len cap, .int .i64 p] 61 (0, 0))) (hp : p < len) (h2 : len ≤ 1000)
    (h3 : zs.length = len) (h4 : ∀ z ∈ zs, 0 ≤ z ∧ z ≤ 255)
    (h5 : 0 < len → ∃ b, A = some ⟨b, 0, none⟩ ∧ b < g ∧ ∀ j, j < len → w.cell? ⟨b, j, none⟩ = some (.int .u8 (zs.getD j 0))) (hn : 1 ≤ n) (i k : Nat) :
    IntPost w g n (.returned (.int .i64 (z % n))) (((w.drewN i).setCell ⟨g, 1, none⟩ (.int .i64 (p + 1))).drewN k) := by
  refine ⟨z % n, rfl, Int.emod_nonneg _ (by omega), fun _ => Int.emod_lt_of_pos _ (by omega), fun h => by omega, ?_, ?_, by simp⟩
  · refine ⟨A, len, cap, p + 1, zs, ?_, by omega, h2, h3, h4, fun hl => ?_⟩
    · have : ((w.drewN i).setCell ⟨g, 1, none⟩ (.int .i64 (p + 1))).heap[g]? = some (.cells #[.slice A len cap, .int .i64 (p + 1)] 61 (0, 0)) := by
        simp [World.setCell, Array.getElem?_modify, hb]
      exact_mod_cast this
    · obtain ⟨b, e, hbg, hc⟩ := h5 hl
      refine ⟨b, e, hbg, fun j hj => ?_⟩
      rw [← hc j hj]
      exact World.cell?_of_block (w := w) (Below.heap_setCell (w.drewN i) ⟨g, 1, none⟩ _ b (by show b ≠ g; omega))
  · exact ⟨rfl, rfl, rfl, by simp, fun k hk hne => Below.heap_setCell (w.drewN i) ⟨g, 1, none⟩ _ k (fun e => hne (by rw [e]))⟩

set_option maxHeartbeats 400000 in
theorem int_any (g : Nat) (n : Int) (w : World) (hn : n ≤ 1000000) (hc : CaseOk w g) :
    Calls Try.prog 16 #[.pointer (some ⟨g, 0, none⟩), .int .i64 n] w (IntPost w g n) := by
  have HC := Lib.hid hc
  obtain ⟨A, len, cap, p, zs, hb, h1, h2, h3, h4, h5⟩ := hc
  have HB := Lib.hid hb
  have hc0 : w.cell? ⟨g, 0, none⟩ = some (.slice A len cap) := by simp [World.cell?, hb]
  have hc1 : w.cell? ⟨g, 0 + 1, none⟩ = some (.int .i64 p) := by simp [World.cell?, hb]
  have hf1 : w.frozen? ⟨g, 0 + 1, none⟩ = false := by simp [World.frozen?, hb]
  have H3 := Lib.hid h3
  clear hb h3
  by_cases hp : p < len
  · have hd : decide ((len : Int) ≤ (p : Int)) = false := by simp; omega
    by_cases h1n : n < 1
    · clear h5
      go_enter Try.func16, Try.ntmps16
      go_wp2
      go_quiet (fail)
      go_wp2
      go_ret
      exact intPost_zero w g n _ HC.out
    · obtain ⟨b, rfl, hbg, hcell⟩ := h5 (by omega)
      have hz := hcell p hp
      have hzb := h4 (zs.getD p 0) (getD_mem zs p (by have := H3.out; omega))
      have H4 := Lib.hid h4
      have H5 := Lib.hid h5
      clear hcell h4 h5
      generalize zs.getD p 0 = z at hz hzb
      obtain ⟨hz0, hz1⟩ := hzb
      go_enter Try.func16, Try.ntmps16
      go_wp2
      go_quiet (fail)
      go_wp2
      go_quiet (fail)
      go_wp2
      go_ret
      exact intPost_next w g n z _ len cap p zs HB.out hp h2 H3.out H4.out H5.out h1n _ _
  · have hd : decide ((len : Int) ≤ (p : Int)) = true := by simp; omega
    clear h5
    go_enter Try.func16, Try.ntmps16
    go_wp2
    go_quiet (fail)
    go_wp2
    go_ret
    exact intPost_zero w g n _ HC.out

def BoolPost (w : World) (g : Nat) (e : Ending) (w' : World) : Prop :=
  ∃ r : Bool, e = .returned (.bool r) ∧ CaseOk w' g ∧ w.grownBy w' (some g) ∧ w'.heap.size = w.heap.size

theorem bool_any (g : Nat) (n : Int) (w : World) (hn : n ≤ 1000000) (hn0 : 1 ≤ n) (hc : CaseOk w g) :
    Calls Try.prog 17 #[.pointer (some ⟨g, 0, none⟩), .int .i64 n] w (BoolPost w g) := by
  go_enter Try.func17, Try.ntmps17
  go_wp2_with fail
  refine (int_any g n w hn hc).mono ?_
  rintro e w' ⟨r, rfl, hr0, hr1, hr2, hc', hg, hs⟩
  have HS := Lib.hid hs
  clear hs hr1 hr2
  go_wp2
  go_ret
  exact ⟨_, rfl, hc', hg, HS.out⟩
end Go.Proofs.Ytjpknhhdkjhjfaa
