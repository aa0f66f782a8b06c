/- CutOfs: the walk. -/
import Derived.Test.YtjpknhhdkjhjfaaFront
import Derived.Test.YtjpknhhdkjhjfaaLogs
import Derived.Test.YtjpknhhdkjhjfaaOf
import Derived.Test.YtjpknhhdkjhjfaaRaw
import Derived.Test.YtjpknhhdkjhjfaaWholesWalk
namespace Go.Proofs.Ytjpknhhdkjhjfaa
open Go.RowKit
set_option linter.unusedVariables false

/-- A row of numbers. -/
def NS (W : World) (G m : Nat) : Prop := G < W.heap.size ∧ ∀ k, k < m → ∃ x : Int, W.cell? ⟨G, k, none⟩ = some (.int .i64 x)
theorem NS.keep {W W' : World} {G m : Nat} (h : NS W G m) (hb : Below W.heap.size W W') : NS W' G m :=
  ⟨Nat.lt_of_lt_of_le h.1 hb.size, fun k hk => by obtain ⟨x, hx⟩ := h.2 k hk; exact ⟨x, (hb.cell (p := ⟨G, k, none⟩) h.1).trans hx⟩⟩
theorem ofL_len {base : Int} {L : List (List Stp)} {n : Int} (hL : L.length ≤ 17592186044416) : (ofL base L n).length ≤ 17592186044416 := by
  by_cases h : ofErr base L n = 0
  · rw [ofL_ok h, uptoL_len]; exact hL
  · rw [ofL_no h]; simp

set_option maxRecDepth 100000 in
set_option maxHeartbeats 4000000 in
theorem ofs_walk (rb : Int) (AR : Option Addr) (cr : Nat) (LR : List (List Stp)) (n : Int) (a3 : Option Addr) (len3 cap3 : Nat) (z3 : List Int) (w : World)
    (hwf : (Lit.int .i64 rb).wf = true) (hLR : Logs w (Lt w) AR LR) (hcr : LR.length ≤ cr) (hcp : CapsOk w AR LR) (hwf2 : (Lit.int .i64 n).wf = true) (w3 : IsRow .u8 w a3 len3 cap3 z3) :
    Calls Try.prog 7 #[.int .i64 rb, .slice AR LR.length cr, .int .i64 n, .slice a3 len3 cap3] w fun e w' => e = .returned (.bool true) ∧ Below w.heap.size w w' := by
  have HLR := Lib.hid hLR
  have hLRl := hLR.1
  clear hLR hcp hwf hwf2
  go_enter Try.func7, Try.ntmps7
  go_wp2_with fail
  refine (new_any a3 len3 cap3 z3 80 w (by omega) w3).mono ?_
  rintro e w1 ⟨g, rfl, hg, hc1, hb1⟩
  have HB1 := Lib.hid hb1
  have HC1 := Lib.hid hc1
  have hgl := hc1.lt
  clear hb1 hc1 w3
  go_wp2_with fail
  refine (logs_any g w1 HC1.out).mono ?_
  rintro e w2 ⟨base, H, L, vs, rfl, hb0, hb1, hm1, hm4, hll, hval, hmem, hcs, hgr⟩
  have HS2 := Lib.hid (lst_of HB1.out hg hgl hb0 hb1 hm1 hm4 hll hval hmem hcs hgr)
  clear hll hval hmem hcs hgr HB1 HC1
  go_wp2_with fail
  have HNS := Lib.hid (show NS (w2.alloc (.cells #[.int .i64 n, .int .i64 (base - 1), .int .i64 base, .int .i64 (base + 1), .int .i64 (base + 3), .int .i64 (base + 9), .int .i64 1073741824] 3)) w2.heap.size 7 from ⟨by simp, fun k hk => by
    have hk' : k = 0 ∨ k = 1 ∨ k = 2 ∨ k = 3 ∨ k = 4 ∨ k = 5 ∨ k = 6 := by omega
    rcases hk' with rfl | rfl | rfl | rfl | rfl | rfl | rfl <;> exact ⟨_, new_cell _ _ _ _⟩⟩)
  have HS3 := Lib.hid (HS2.out.keep (W' := w2.alloc (.cells #[.int .i64 n, .int .i64 (base - 1), .int .i64 base, .int .i64 (base + 1), .int .i64 (base + 3), .int .i64 (base + 9), .int .i64 1073741824] 3)) ((Below.refl _ _).alloc (Nat.le_refl _) _))
  clear HS2
  go_loopw [39] (fun i W => ∃ k : Nat, k ≤ 7 ∧ i = .int .i64 k ∧ NS W w2.heap.size 7 ∧ LSt w W g H base L) (fun i _ => 7 - (intOf i).toNat)
  case atStart => exact ⟨0, by omega, rfl, HNS.out, HS3.out⟩
  case round =>
    clear HNS HS3
    obtain ⟨k, hk, rfl, hns, hst⟩ := hrel
    have HNS := Lib.hid hns
    have HST := Lib.hid hst
    clear hns hst
    by_cases hkl : k < 7
    · obtain ⟨x, c0⟩ := HNS.out.2 k hkl
      have hki : (k : Int) < 7 := by omega
      go_wp2_with fail
      refine (of_any (some ⟨H, 0, none⟩) L.length L base x (Lt wr) wr HST.out.lT (fun b hb => hb)).mono ?_
      rintro e w6 ⟨A1, c1, rfl, hi6, hb6⟩
      have HS6 := Lib.hid (HST.out.keep hb6)
      have HN6 := Lib.hid (HNS.out.keep hb6)
      have HI6 := Lib.hid (show Ints w6 (Lt w6) A1 (ofL base L x) from hi6.more (fun b hb => hb.2))
      clear hb6 hi6 HST HNS c0
      go_wp2_with fail
      refine (rof_any (some ⟨H, 0, none⟩) L.length L base x (Lt w6) w6 HS6.out.lT (fun b hb => hb) (Nat.le_refl _)).mono ?_
      rintro e w7 ⟨A2, c2, rfl, hi7, hb7⟩
      have HS7 := Lib.hid (HS6.out.keep hb7)
      have HN7 := Lib.hid (HN6.out.keep hb7)
      have HI7 := Lib.hid (ints_lt HI6.out hb7)
      have HJ7 := Lib.hid (show Ints w7 (Lt w7) A2 (ofL base L x) from hi7.more (fun b hb => hb.2))
      have hol := ofL_len (base := base) (L := L) (n := x) (by omega)
      clear hb7 hi7 HS6 HN6 HI6
      generalize ofErr base L x = er
      generalize ofL base L x = y at HI7 HJ7 hol
      go_wp2_with fail
      refine (equal_any A1 A2 c1 c2 y y (Lt w7) w7 HI7.out HJ7.out (by omega) (by omega)).mono ?_
      rintro e w10 ⟨rfl, kq, rfl⟩
      rw [decide_eq_true (rfl : y = y)]
      have hbq : Below w7.heap.size w7 (w7.drewN kq) := below_drewN (Below.refl _ _) kq
      have HS10 := Lib.hid (HS7.out.keep hbq)
      have HN10 := Lib.hid (HN7.out.keep hbq)
      clear hbq
      go_wp2_with fail
      go_roundw
      case rel => exact ⟨k + 1, by omega, by go_num, HN10.out, HS10.out⟩
      case measure => simp [intOf]; omega
    · have HB5 := Lib.hid HST.out.bel
      have hz5 := HB5.out.size
      clear HNS HST
      go_wp2_with fail
      refine (of_any AR cr LR rb n (Lt w) wr (HLR.out.keep (Same.of_below HB5.out (fun b h => h))) (fun b hb => Nat.lt_of_lt_of_le hb hz5)).mono ?_
      rintro e w6 ⟨A1, c1, rfl, hi6, hb6⟩
      have HB6 := Lib.hid (HB5.out.trans (hb6.mono hz5))
      have hz6 := HB6.out.size
      have HI6 := Lib.hid (show Ints w6 (Lt w6) A1 (ofL rb LR n) from hi6.more (fun b hb => hb.2))
      clear hb6 hi6 HB5
      go_wp2_with fail
      refine (rof_any AR cr LR rb n (Lt w) w6 (HLR.out.keep (Same.of_below HB6.out (fun b h => h))) (fun b hb => Nat.lt_of_lt_of_le hb hz6) hcr).mono ?_
      rintro e w7 ⟨A2, c2, rfl, hi7, hb7⟩
      have HB7 := Lib.hid (HB6.out.trans (hb7.mono hz6))
      have HI7 := Lib.hid (ints_lt HI6.out hb7)
      have HJ7 := Lib.hid (show Ints w7 (Lt w7) A2 (ofL rb LR n) from hi7.more (fun b hb => hb.2))
      have hol := ofL_len (base := rb) (L := LR) (n := n) hLRl
      clear hb7 hi7 HB6 HI6
      generalize ofErr rb LR n = er
      generalize ofL rb LR n = y at HI7 HJ7 hol
      go_wp2_with fail
      refine (equal_any A1 A2 c1 c2 y y (Lt w7) w7 HI7.out HJ7.out (by omega) (by omega)).mono ?_
      rintro e w10 ⟨rfl, kq, rfl⟩
      rw [decide_eq_true (rfl : y = y)]
      have HB10 := Lib.hid (below_drewN HB7.out kq)
      go_wp2_with fail
      refine (begun_any _).mono ?_
      rintro e w12 ⟨rfl, hb12⟩
      have HB12 := Lib.hid (HB10.out.trans (hb12.mono HB10.out.size))
      clear hb12
      go_wp2_with fail
      go_ret
      exact ⟨rfl, HB12.out⟩
end Go.Proofs.Ytjpknhhdkjhjfaa
