/- Contract: table.checkMode. -/
import Derived.Test.YtkpjjfhfbpfjpaaSchC
namespace Go.Proofs.Ytkpjjfhfbpfjpaa
open Go.RowKit
set_option linter.unusedVariables false

/-- predicate.Check answers for every check of the schema. -/
def SchPreds (pc : List Int → Pred → Int) (s : Sch) : Prop := ∀ t ∈ s.tabs, ∀ p ∈ t.checks, PredCalls pc (t.cols.map (·.kind)) p

set_option maxRecDepth 100000 in
set_option maxHeartbeats 1000000 in
theorem mode_any (pc : List Int → Pred → Int) (A0 : Option Addr) (c0' : Nat) (s : Sch) (m : Int) (S : Nat → Prop) (w : World) (hs : TabS w S A0 s.tabs) (hS : ∀ b, S b → b < w.heap.size) (hpc : SchPreds pc s) :
    Calls Try.prog 58 #[sAgg s.version A0 s.tabs.length c0', .int .i64 m] w (IntBel (modeF (schF pc s) m) w) := by
  obtain ⟨er, her⟩ : ∃ er, schF pc s = er := ⟨_, rfl⟩
  rw [her]
  have HER := Lib.hid her
  clear her
  have HS := Lib.hid hs
  have HPC := Lib.hid hpc
  have hsl := hs.len
  clear hs hpc
  have HB0 := Lib.hid ((Below.refl w.heap.size w).alloc (Nat.le_refl _) (.cells #[.int .i64 s.version, .slice A0 s.tabs.length c0'] 25))
  go_enter Try.func58, Try.ntmps58
  go_wp2_with fail
  refine (schCheck_any pc A0 c0' s S _ (HS.out.keep (Same.of_below HB0.out hS)) (fun b hb => by have := hS b hb; simp; omega) HPC.out).mono ?_
  rintro e w1 ⟨rfl, hb1⟩
  have HB1 := Lib.hid (HB0.out.trans (hb1.mono (by simp)))
  clear hb1 HB0
  rw [HER.out]
  clear HER
  by_cases he : er = 0
  · subst he
    by_cases h1 : m = 1
    · subst h1
      go_wp2_with fail
      go_ret
      exact ⟨rfl, HB1.out⟩
    · by_cases h2 : m = 2
      · subst h2
        go_wp2_with fail
        go_ret
        exact ⟨rfl, HB1.out⟩
      · by_cases h3 : m = 3
        · subst h3
          go_wp2_with fail
          go_ret
          exact ⟨rfl, HB1.out⟩
        · have HF := Lib.hid (show modeF 0 m = 1 by simp [modeF, modeOk, h1, h2, h3])
          have hd1 : (m != 1) = true := by simpa using h1
          have hd2 : (m != 2) = true := by simpa using h2
          have hd3 : (m != 3) = true := by simpa using h3
          clear h1 h2 h3
          go_wp2_with fail
          go_ret
          exact ⟨by rw [HF.out]; rfl, HB1.out⟩
  · have HF := Lib.hid (show modeF er m = er by simp [modeF, he])
    have hd1 : (er != 0) = true := by simpa using he
    clear he
    go_wp2_with fail
    go_ret
    exact ⟨by rw [HF.out]; rfl, HB1.out⟩
end Go.Proofs.Ytkpjjfhfbpfjpaa
