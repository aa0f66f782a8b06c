/- Contract: slices.SortStableFunc of fewer than twenty changes. -/
import Derived.Test.YtkpjjfhfbpfjpaaSrt3
namespace Go.Proofs.Ytkpjjfhfbpfjpaa
open Go.RowKit
set_option linter.unusedVariables false
set_option linter.unusedSimpArgs false

set_option maxRecDepth 100000 in
set_option maxHeartbeats 1000000 in
theorem stable_any (A0 : Option Addr) (c0' : Nat) (s : Sch) (gs : Nat) (A : Option Addr) (c : Nat) (l : List Chg) (base : Nat) (S : Nat → Prop) (w : World) (hc : CapS w s A0 c0' gs) (hs : TabS w S A0 s.tabs) (ho : OwnD w base 53 3 S (.slice A l.length c) (l.map encChg)) (hg : some gs ≠ (Value.slice A l.length c).ownBlock) (ht : ∀ x ∈ l, 0 ≤ x.table ∧ x.table ≤ 1000000) (hl : l.length ≤ 19) :
    Calls Try.prog 102 #[.slice A l.length c, .int .i64 l.length, .func (.func 80) #[] #[.pointer (some ⟨gs, 0, none⟩)]] w (SortPost base S (.slice A l.length c) (isort (cmpC s) l) w) := by
  have HX := Lib.hid (insertion_any A0 c0' s gs A c l base S w hc hs ho hg ht (by omega))
  clear hc hs ho hg ht
  have hd1 : decide ((20 : Int) ≤ (l.length : Int)) = false := decide_eq_false (by omega)
  have hd2 : decide ((20 : Int) < (l.length : Int)) = false := decide_eq_false (by omega)
  go_enter Try.func102, Try.ntmps102
  go_wp2_with fail
  go_loopw [7, 8] (fun a b wr => a = .int .i64 0 ∧ b = .int .i64 20 ∧ wr = w) (fun _ _ _ => 0)
  case atStart => exact ⟨rfl, rfl, rfl⟩
  case round =>
    obtain ⟨rfl, rfl, rfl⟩ := hrel
    go_wp2_with fail
    refine HX.out.mono ?_
    rintro e w1 ⟨⟨u, rfl⟩, h1, h2⟩
    have H1 := Lib.hid h1
    have H2 := Lib.hid h2
    clear h1 h2
    go_wp2_with fail
    go_loopw [6] (fun a wq => a = .int .i64 20 ∧ wq = w1) (fun _ _ => 0)
    case atStart => exact ⟨rfl, rfl⟩
    case round =>
      obtain ⟨rfl, rfl⟩ := hrel
      go_wp2_with fail
      go_end0
      exact ⟨⟨_, rfl⟩, H1.out, H2.out⟩
set_option maxRecDepth 100000 in
set_option maxHeartbeats 1000000 in
theorem sortStable_any (A0 : Option Addr) (c0' : Nat) (s : Sch) (gs : Nat) (A : Option Addr) (c : Nat) (l : List Chg) (base : Nat) (S : Nat → Prop) (w : World) (hc : CapS w s A0 c0' gs) (hs : TabS w S A0 s.tabs) (ho : OwnD w base 53 3 S (.slice A l.length c) (l.map encChg)) (hg : some gs ≠ (Value.slice A l.length c).ownBlock) (ht : ∀ x ∈ l, 0 ≤ x.table ∧ x.table ≤ 1000000) (hl : l.length ≤ 19) :
    Calls Try.prog 79 #[.slice A l.length c, .func (.func 80) #[] #[.pointer (some ⟨gs, 0, none⟩)]] w (SortPost base S (.slice A l.length c) (isort (cmpC s) l) w) := by
  have HX := Lib.hid (stable_any A0 c0' s gs A c l base S w hc hs ho hg ht hl)
  clear hc hs ho hg ht
  go_enter Try.func79, Try.ntmps79
  go_wp2_with fail
  refine HX.out.mono ?_
  rintro e w1 ⟨⟨u, rfl⟩, h1, h2⟩
  have H1 := Lib.hid h1
  have H2 := Lib.hid h2
  clear h1 h2
  go_wp2_with fail
  go_end0
  exact ⟨⟨_, rfl⟩, H1.out, H2.out⟩
end Go.Proofs.Ytkpjjfhfbpfjpaa
