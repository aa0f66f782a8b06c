/- CutPrefixes: the walk. -/
import Derived.Test.YtjpknhhdkjhjfaaFront
import Derived.Test.YtjpknhhdkjhjfaaLogs
import Derived.Test.YtjpknhhdkjhjfaaOf
import Derived.Test.YtjpknhhdkjhjfaaPlain11
namespace Go.Proofs.Ytjpknhhdkjhjfaa
open Go.RowKit
set_option linter.unusedVariables false

section
variable {w W W' : World} {g H : Nat} {base : Int} {L : List (List Stp)}
theorem of_l {cl : Nat} {n : Int} (h : LSt w W g H base L) (h0 : base ≤ n) (h1 : n ≤ 1073741824) : Calls Try.prog 30 #[.int .i64 base, .slice (some ⟨H, 0, none⟩) L.length cl, .int .i64 n] W
    fun e W' => ∃ A' c, e = .returned (.tuple #[.slice A' L.length c, .int .i64 0]) ∧ HasC W' g L A' (uptoL L n) ∧ Below W.heap.size W W' := by
  have hf : ofErr base L n = 0 := ofErr_ok h.err (by omega)
  have h2 := of_any (some ⟨H, 0, none⟩) cl L base n (fun b => b < W.heap.size) W h.lT (fun b hb => hb)
  rw [ofL_ok hf, hf] at h2
  refine h2.mono ?_
  rintro e W' ⟨A', c, rfl, hi, hb⟩
  rw [uptoL_len]
  exact ⟨A', c, rfl, ⟨upto_cut, hi.more (fun b hb => ⟨by have := h.cs.lt; omega, hb.2⟩)⟩, hb⟩
theorem whole_l {cl : Nat} (h : LSt w W g H base L) : Calls Try.prog 23 #[.int .i64 base, .slice (some ⟨H, 0, none⟩) L.length cl] W
    fun e W' => ∃ n : Int, e = .returned (.tuple #[.int .i64 n, .int .i64 0]) ∧ IsLast base L n ∧ n ≤ 1073741824 ∧ Below W.heap.size W W' := by
  refine (Whole_any (some ⟨H, 0, none⟩) cl L base (fun b => b < W.heap.size) W h.lT (fun b hb => hb)).mono ?_
  rintro e W' ⟨n, rfl, h1, _, hb⟩
  rw [h.err]
  exact ⟨n, rfl, (h1 h.err).1, (h1 h.err).2, hb⟩
theorem before_l {ca cb : Nat} {A B : Option Addr} {x y : List Int} (h : LSt w W g H base L) (hx : HasC W g L A x) (hy : HasC W g L B y) (h1 : ∀ i, i < L.length → x.getD i 0 ≤ y.getD i 0) (h2 : ∃ i, i < L.length ∧ x.getD i 0 < y.getD i 0) :
    Calls Try.prog 36 #[.slice A L.length ca, .slice B L.length cb] W fun e W' => e = .returned (.tuple #[.int .i64 1, .int .i64 0]) ∧ Below W.heap.size W W' := by
  have hp := hx.has.paired hy.has
  have hc := compare_any A B ca cb x y (fun b => b < W.heap.size) W (hx.2.more (fun b hb => hb.2)) (hy.2.more (fun b hb => hb.2)) (by rw [hx.1.1]; have := h.m4; omega) (by rw [hy.1.1]; have := h.m4; omega)
  have hl : lessB x y x.length = true := by
    unfold lessB
    obtain ⟨i, hi, hlt⟩ := h2
    exact List.any_eq_true.2 ⟨i, List.mem_range.2 (by rw [hx.1.1]; exact hi), by simpa using hlt⟩
  have hg : lessB y x x.length = false := by
    unfold lessB
    rw [List.any_eq_false]
    intro i hi
    have := h1 i (by rw [← hx.1.1]; exact List.mem_range.1 hi)
    simp
    simpa [List.getD] using this
  rw [hx.1.1, hy.1.1, show cmpC x y = 1 by simp [cmpC, hp, hl, hg, cmpN], show pairE x y = 0 by simp [pairE, hp]] at hc
  exact hc.mono fun e W' ⟨he, k, hk⟩ => ⟨he, by rw [hk]; exact below_drewN (Below.refl _ _) k⟩
end

/-- The cut before: of n - 1. -/
def Bef (W : World) (g : Nat) (L : List (List Stp)) (base n : Int) (v : Value) : Prop := base < n → ∃ A c, v = .slice A L.length c ∧ HasC W g L A (uptoL L (n - 1))

set_option maxRecDepth 100000 in
set_option maxHeartbeats 4000000 in
theorem prefixes_walk (a0 : Option Addr) (len0 cap0 : Nat) (z0 : List Int) (w : World) (w0 : IsRow .u8 w a0 len0 cap0 z0) :
    Calls Try.prog 12 #[.slice a0 len0 cap0] w fun e w' => e = .returned (.bool true) ∧ Below w.heap.size w w' := by
  go_enter Try.func12, Try.ntmps12
  go_wp2_with fail
  refine (new_any a0 len0 cap0 z0 90 w (by omega) w0).mono ?_
  rintro e w1 ⟨g, rfl, hg, hc1, hb1⟩
  have HB1 := Lib.hid hb1
  have HC1 := Lib.hid hc1
  have hgl := hc1.lt
  clear hb1 hc1 w0
  go_wp2_with fail
  refine (logs_any g w1 HC1.out).mono ?_
  rintro e w2 ⟨base, H, L, vs, rfl, hb0, hb1, hm1, hm4, hll, hval, hmem, hcs, hgr⟩
  have HS2 := Lib.hid (lst_of HB1.out hg hgl hb0 hb1 hm1 hm4 hll hval hmem hcs hgr)
  have HVAL := Lib.hid hval
  have HLL := Lib.hid hll
  clear hll hval hmem hcs hgr HB1 HC1
  go_wp2_with fail
  refine (cut_l HS2.out).mono ?_
  rintro e w3 ⟨x, rfl, hh, hst, hgr⟩
  have HS3 := Lib.hid hst
  have HX3 := Lib.hid hh
  clear hh hst hgr HS2
  go_wp2_with fail
  refine (whole_l HS3.out).mono ?_
  rintro e w4 ⟨m, rfl, hm, hm2, hb4⟩
  have HM := Lib.hid hm
  have hmb := hm.1
  have hm60 := last_bound hm4 HLL.out hm
  have HS4 := Lib.hid (HS3.out.keep hb4)
  have HX4 := Lib.hid (HX3.out.keep hb4)
  clear hb4 hm HS3 HX3
  go_wp2_with fail
  refine (floor_l HS4.out HX4.out).mono ?_
  rintro e w5 ⟨f, rfl, hf, hb5⟩
  have HF := Lib.hid hf
  have HS5 := Lib.hid (HS4.out.keep hb5)
  have HX5 := Lib.hid (HX4.out.keep hb5)
  clear hb5 hf HS4 HX4
  have hd1 : decide (m < base) = false := by simp; omega
  have hd2 : decide (base + 60 < m) = false := by simp; omega
  go_wp2_with fail
  go_loopw [11, 12] (fun v i W => ∃ n : Int, base ≤ n ∧ n ≤ m + 1 ∧ i = .int .i64 n ∧ Bef W g L base n v ∧ LSt w W g H base L ∧ HasC W g L (some ⟨w2.heap.size, 0, none⟩) x) (fun _ i _ => (m + 1 - intOf i).toNat)
  case atStart => exact ⟨base, Int.le_refl _, by omega, rfl, fun h => absurd h (by omega), HS5.out, HX5.out⟩
  case round =>
    clear HS5 HX5
    obtain ⟨n, hn0, hn1, rfl, hbf, hst, hhx⟩ := hrel
    have HBF := Lib.hid hbf
    have HST := Lib.hid hst
    have HX := Lib.hid hhx
    clear hbf hst hhx
    by_cases hnm : n ≤ m
    · have hd3 : decide (n ≤ m) = true := by simp [hnm]
      go_wp2_with fail
      refine (of_l HST.out hn0 (by omega)).mono ?_
      rintro e w6 ⟨A1, c1, rfl, hp, hb6⟩
      have HP6 := Lib.hid hp
      have HS6 := Lib.hid (HST.out.keep hb6)
      have HX6 := Lib.hid (HX.out.keep hb6)
      have HBF6 := Lib.hid (show Bef w6 g L base n u11 from fun h => by obtain ⟨A, c, h1, h2⟩ := HBF.out h; exact ⟨A, c, h1, h2.keep hb6⟩)
      clear hb6 hp HST HX HBF
      go_wp2_with fail
      refine (closed_l true HS6.out HP6.out ⟨fun _ => upto_closed HVAL.out HM.out hnm, fun _ => rfl⟩).mono ?_
      rintro e w7 ⟨rfl, hb7⟩
      have HP7 := Lib.hid (HP6.out.keep hb7)
      have HS7 := Lib.hid (HS6.out.keep hb7)
      have HX7 := Lib.hid (HX6.out.keep hb7)
      have HBF7 := Lib.hid (show Bef w7 g L base n u11 from fun h => by obtain ⟨A, c, h1, h2⟩ := HBF6.out h; exact ⟨A, c, h1, h2.keep hb7⟩)
      clear hb7 HS6 HX6 HBF6 HP6
      go_wp2_with fail
      refine (floor_l HS7.out HP7.out).mono ?_
      rintro e w8 ⟨q, rfl, hq, hb8⟩
      obtain rfl : n = q := isFloor_unique (upto_floor HVAL.out HM.out hn0 hnm) hq
      have HP8 := Lib.hid (HP7.out.keep hb8)
      have HS8 := Lib.hid (HS7.out.keep hb8)
      have HX8 := Lib.hid (HX7.out.keep hb8)
      have HBF8 := Lib.hid (show Bef w8 g L base n u11 from fun h => by obtain ⟨A, c, h1, h2⟩ := HBF7.out h; exact ⟨A, c, h1, h2.keep hb8⟩)
      clear hb8 hq HS7 HX7 HBF7 HP7
      have hlow : leB (uptoL L n) x = true ↔ n ≤ f := by rw [leB_iff, ← low_iff HVAL.out HX8.out.1, low_floor HM.out HF.out hnm]
      have HLE := Lib.hid (show leB (uptoL L n) x = decide (n ≤ f) by rw [Bool.eq_iff_iff, hlow]; simp)
      clear hlow
      go_wp2_with fail
      refine (under_l (decide (n ≤ f)) HS8.out HP8.out HX8.out HLE.out).mono ?_
      rintro e w9 ⟨rfl, hb9⟩
      have HP9 := Lib.hid (HP8.out.keep hb9)
      have HS9 := Lib.hid (HS8.out.keep hb9)
      have HX9 := Lib.hid (HX8.out.keep hb9)
      have HBF9 := Lib.hid (show Bef w9 g L base n u11 from fun h => by obtain ⟨A, c, h1, h2⟩ := HBF8.out h; exact ⟨A, c, h1, h2.keep hb9⟩)
      clear hb9 HS8 HX8 HBF8 HP8 HLE
      by_cases hbn : base < n
      · have hd4 : decide (base < n) = true := by simp [hbn]
        obtain ⟨A, c, rfl, hbc⟩ := HBF9.out hbn
        have HBC := Lib.hid hbc
        obtain ⟨ha1, ha2⟩ := upto_asc HVAL.out HM.out hbn hnm
        have HA1 := Lib.hid ha1
        have HA2 := Lib.hid ha2
        clear hbc ha1 ha2
        go_wp2_with fail
        refine (before_l HS9.out HBC.out HP9.out HA1.out HA2.out).mono ?_
        rintro e w10 ⟨rfl, hb10⟩
        have HP10 := Lib.hid (HP9.out.keep hb10)
        have HS10 := Lib.hid (HS9.out.keep hb10)
        have HX10 := Lib.hid (HX9.out.keep hb10)
        clear hb10 HS9 HX9 HBF9 HP9
        go_wp2_with fail
        go_roundw
        case rel => exact ⟨n + 1, by omega, by omega, rfl, fun _ => ⟨A1, c1, rfl, by rw [Int.add_sub_cancel]; exact HP10.out⟩, HS10.out, HX10.out⟩
        case measure => simp [intOf]; omega
      · have hd4 : decide (base < n) = false := by simpa using hbn
        go_wp2_with fail
        go_roundw
        case rel => exact ⟨n + 1, by omega, by omega, rfl, fun _ => ⟨A1, c1, rfl, by rw [Int.add_sub_cancel]; exact HP9.out⟩, HS9.out, HX9.out⟩
        case measure => simp [intOf]; omega
    · have hd3 : decide (n ≤ m) = false := by simpa using hnm
      go_wp2_with fail
      refine (begun_any _).mono ?_
      rintro e w12 ⟨rfl, hb12⟩
      have HB12 := Lib.hid (HST.out.keep hb12).bel
      clear hb12
      go_wp2_with fail
      go_ret
      exact ⟨rfl, HB12.out⟩
end Go.Proofs.Ytjpknhhdkjhjfaa
