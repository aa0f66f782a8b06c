/- CutWholes: the walk. -/
import Derived.Test.YtjpknhhdkjhjfaaFront
import Derived.Test.YtjpknhhdkjhjfaaLogs
import Derived.Test.YtjpknhhdkjhjfaaRWhole
import Derived.Test.YtjpknhhdkjhjfaaRaw
namespace Go.Proofs.Ytjpknhhdkjhjfaa
open Go.RowKit
set_option linter.unusedVariables false

/-- A row of lists of numbers. -/
def XS (W : World) (G n : Nat) : Prop := G < W.heap.size ∧ ∀ k, k < n → ∃ (A : Option Addr) (l : List Int) (cap : Nat), W.cell? ⟨G, k, none⟩ = some (.slice A l.length cap) ∧ Ints W (Lt W) A l ∧ l.length ≤ 17592186044416
theorem ints_lt {W W' : World} {A : Option Addr} {l : List Int} (h : Ints W (Lt W) A l) (hb : Below W.heap.size W W') : Ints W' (Lt W') A l := (h.keep (Same.of_below hb (fun b h => h))).more (fun b h => Nat.lt_of_lt_of_le h hb.size)
theorem logs_lt {W W' : World} {A : Option Addr} {L : List (List Stp)} (h : Logs W (Lt W) A L) (hb : Below W.heap.size W W') : Logs W' (Lt W') A L := (h.keep (Same.of_below hb (fun b h => h))).more (fun b h => Nat.lt_of_lt_of_le h hb.size)
theorem XS.keep {W W' : World} {G n : Nat} (h : XS W G n) (hb : Below W.heap.size W W') : XS W' G n := by
  refine ⟨Nat.lt_of_lt_of_le h.1 hb.size, fun k hk => ?_⟩
  obtain ⟨A, l, cap, h1, h2, h3⟩ := h.2 k hk
  exact ⟨A, l, cap, (hb.cell (p := ⟨G, k, none⟩) h.1).trans h1, ints_lt h2 hb, h3⟩
theorem new_cell (w : World) (cs : Array Value) (t : TypeId) (k : Nat) : (w.alloc (.cells cs t)).cell? ⟨w.heap.size, k, none⟩ = cs[k]? := cell_of_row _ _ _ _ _ _ (heap_alloc_new w _)
theorem floor_eq {E : Int} {base : Int} {L : List (List Stp)} {c : List Int} {n m : Int} (h1 : E = 0 → IsFloor base L c n) (h2 : E ≠ 0 → n = 0) (g1 : E = 0 → IsFloor base L c m) (g2 : E ≠ 0 → m = 0) : n = m := by
  by_cases h : E = 0
  · exact isFloor_unique (h1 h) (g1 h)
  · rw [h2 h, g2 h]
theorem last_eq {E : Int} {base : Int} {L : List (List Stp)} {n m : Int} (h1 : E = 0 → IsLast base L n ∧ n ≤ 1073741824) (h2 : E ≠ 0 → n = 0) (g1 : E = 0 → IsLast base L m ∧ m ≤ 1073741824) (g2 : E ≠ 0 → m = 0) : n = m := by
  by_cases h : E = 0
  · exact isLast_unique (h1 h).1 (g1 h).1
  · rw [h2 h, g2 h]
theorem has_l {W : World} {g : Nat} {L : List (List Stp)} {A : Option Addr} {x : List Int} (h : HasC W g L A x) : Ints W (Lt W) A x := h.2.more (fun b hb => hb.2)

set_option maxRecDepth 100000 in
set_option maxHeartbeats 4000000 in
theorem wholes_walk (rb : Int) (AR : Option Addr) (cr : Nat) (LR : List (List Stp)) (AA : Option Addr) (ca : Nat) (la : List Int) (a3 : Option Addr) (len3 cap3 : Nat) (z3 : List Int) (w : World)
    (hwf : (Lit.int .i64 rb).wf = true) (hLR : Logs w (Lt w) AR LR) (hcr : LR.length ≤ cr) (hcp : CapsOk w AR LR) (hAA : Ints w (Lt w) AA la) (hla : la.length ≤ 17592186044416) (w3 : IsRow .u8 w a3 len3 cap3 z3) :
    Calls Try.prog 4 #[.int .i64 rb, .slice AR LR.length cr, .slice AA la.length ca, .slice a3 len3 cap3] w fun e w' => e = .returned (.bool true) ∧ Below w.heap.size w w' := by
  have HLR := Lib.hid hLR
  have HAA := Lib.hid hAA
  clear hLR hAA hwf hcp
  go_enter Try.func4, Try.ntmps4
  go_wp2_with fail
  refine (new_any a3 len3 cap3 z3 90 w (by omega) w3).mono ?_
  rintro e w1 ⟨g, rfl, hg, hc1, hb1⟩
  have HB1 := Lib.hid hb1
  have HC1 := Lib.hid hc1
  have hgl := hc1.lt
  clear hb1 hc1 w3
  go_wp2_with fail
  refine (logs_any g w1 HC1.out).mono ?_
  rintro e w2 ⟨base, H, L, vs, rfl, hb0, hb1, hm1, hm4, hll, hval, hmem, hcs, hgr⟩
  have HS2 := Lib.hid (lst_of HB1.out hg hgl hb0 hb1 hm1 hm4 hll hval hmem hcs hgr)
  clear hll hval hmem hcs hgr HB1 HC1
  go_wp2_with fail
  refine (cut_l HS2.out).mono ?_
  rintro e w3 ⟨x1, rfl, hh, hst, hgr⟩
  have HS3 := Lib.hid hst
  have HX3 := Lib.hid hh
  clear hh hst hgr HS2
  go_wp2_with fail
  refine (cut_l HS3.out).mono ?_
  rintro e w4 ⟨x2, rfl, hh, hst, hgr⟩
  have HS4 := Lib.hid hst
  have HX4 := Lib.hid hh
  have HX34 := Lib.hid (HX3.out.keepG hgr)
  clear hh hst hgr HS3 HX3
  have HXS := Lib.hid (show XS (w4.alloc (.cells #[.slice (some ⟨w2.heap.size, 0, none⟩) L.length L.length, .slice (some ⟨w3.heap.size, 0, none⟩) L.length L.length, .slice AA la.length ca] 34)) w4.heap.size 3 from by
    have hb : Below w4.heap.size w4 (w4.alloc (.cells #[.slice (some ⟨w2.heap.size, 0, none⟩) L.length L.length, .slice (some ⟨w3.heap.size, 0, none⟩) L.length L.length, .slice AA la.length ca] 34)) := (Below.refl _ _).alloc (Nat.le_refl _) _
    refine ⟨by simp, fun k hk => ?_⟩
    have hk' : k = 0 ∨ k = 1 ∨ k = 2 := by omega
    have h1 := ints_lt (has_l HX34.out) hb
    have h2 := ints_lt (has_l HX4.out) hb
    have h3 := ints_lt ((HAA.out.keep (Same.of_below HS4.out.bel (fun b h => h))).more (fun b h => Nat.lt_of_lt_of_le h HS4.out.bel.size)) hb
    rcases hk' with rfl | rfl | rfl
    · exact ⟨_, x1, L.length, by rw [HX34.out.1.1]; exact new_cell _ _ _ 0, h1, by rw [HX34.out.1.1]; omega⟩
    · exact ⟨_, x2, L.length, by rw [HX4.out.1.1]; exact new_cell _ _ _ 1, h2, by rw [HX4.out.1.1]; omega⟩
    · exact ⟨_, la, ca, new_cell _ _ _ 2, h3, hla⟩)
  have HS5 := Lib.hid (HS4.out.keep (W' := w4.alloc (.cells #[.slice (some ⟨w2.heap.size, 0, none⟩) L.length L.length, .slice (some ⟨w3.heap.size, 0, none⟩) L.length L.length, .slice AA la.length ca] 34)) ((Below.refl _ _).alloc (Nat.le_refl _) _))
  clear HX4 HX34 HS4
  go_wp2_with fail
  go_loopw [46] (fun i W => ∃ k : Nat, k ≤ 3 ∧ i = .int .i64 k ∧ XS W w4.heap.size 3 ∧ LSt w W g H base L) (fun i _ => 3 - (intOf i).toNat)
  case atStart => exact ⟨0, by omega, rfl, HXS.out, HS5.out⟩
  case round =>
    clear HXS HS5
    obtain ⟨k, hk, rfl, hxs, hst⟩ := hrel
    have HXS := Lib.hid hxs
    have HST := Lib.hid hst
    clear hxs hst
    by_cases hkl : k < 3
    · obtain ⟨A, l, cap, c0, hi, hl⟩ := HXS.out.2 k hkl
      have HI := Lib.hid hi
      clear hi
      have hki : (k : Int) < 3 := by omega
      go_wp2_with fail
      refine (floor_any (some ⟨H, 0, none⟩) A L.length cap L l base (Lt wr) wr HST.out.lT HI.out (fun b hb => hb) hl).mono ?_
      rintro e w6 ⟨n, rfl, hn1, hn2, hb6⟩
      have HN1 := Lib.hid hn1
      have HN2 := Lib.hid hn2
      have HS6 := Lib.hid (HST.out.keep hb6)
      have HX6 := Lib.hid (HXS.out.keep hb6)
      have HI6 := Lib.hid (ints_lt HI.out hb6)
      clear hn1 hn2 hb6 HST HXS HI c0
      go_wp2_with fail
      refine (rfloor_any (some ⟨H, 0, none⟩) A L.length cap L l base (Lt w6) w6 HS6.out.lT HI6.out (fun b hb => hb) hl (Nat.le_refl _)).mono ?_
      rintro e w7 ⟨m, rfl, hm1, hm2, hb7⟩
      obtain rfl : n = m := floor_eq HN1.out HN2.out hm1 hm2
      have HS7 := Lib.hid (HS6.out.keep hb7)
      have HX7 := Lib.hid (HX6.out.keep hb7)
      clear hm1 hm2 hb7 HS6 HX6 HI6 HN1 HN2
      generalize cutErr base L l = er
      go_wp2_with fail
      go_roundw
      case rel => exact ⟨k + 1, by omega, by go_num, HX7.out, HS7.out⟩
      case measure => simp [intOf]; omega
    · clear HXS
      go_wp2_with fail
      refine (Whole_any (some ⟨H, 0, none⟩) L.length L base (Lt wr) wr HST.out.lT (fun b hb => hb)).mono ?_
      rintro e w6 ⟨n, rfl, hn1, hn2, hb6⟩
      have HN1 := Lib.hid hn1
      have HN2 := Lib.hid hn2
      have HS6 := Lib.hid (HST.out.keep hb6)
      clear hn1 hn2 hb6 HST
      go_wp2_with fail
      refine (rWhole_any (some ⟨H, 0, none⟩) L.length L base (Lt w6) w6 HS6.out.lT (fun b hb => hb) (Nat.le_refl _)).mono ?_
      rintro e w7 ⟨m, rfl, hm1, hm2, hb7⟩
      obtain rfl : n = m := last_eq HN1.out HN2.out hm1 hm2
      have HB7 := Lib.hid (HS6.out.keep hb7).bel
      clear hm1 hm2 hb7 HS6 HN1 HN2
      generalize errOf base L = er1
      have hz7 := HB7.out.size
      go_wp2_with fail
      refine (floor_any AR AA cr ca LR la rb (Lt w) w7 (HLR.out.keep (Same.of_below HB7.out (fun b h => h))) (HAA.out.keep (Same.of_below HB7.out (fun b h => h))) (fun b hb => Nat.lt_of_lt_of_le hb hz7) hla).mono ?_
      rintro e w8 ⟨p, rfl, hn1, hn2, hb8⟩
      have HN1 := Lib.hid hn1
      have HN2 := Lib.hid hn2
      have HB8 := Lib.hid (HB7.out.trans (hb8.mono hz7))
      have hz8 := HB8.out.size
      clear hn1 hn2 hb8 HB7
      go_wp2_with fail
      refine (rfloor_any AR AA cr ca LR la rb (Lt w) w8 (HLR.out.keep (Same.of_below HB8.out (fun b h => h))) (HAA.out.keep (Same.of_below HB8.out (fun b h => h))) (fun b hb => Nat.lt_of_lt_of_le hb hz8) hla hcr).mono ?_
      rintro e w9 ⟨q, rfl, hm1, hm2, hb9⟩
      obtain rfl : p = q := floor_eq HN1.out HN2.out hm1 hm2
      have HB9 := Lib.hid (HB8.out.trans (hb9.mono hz8))
      have hz9 := HB9.out.size
      clear hm1 hm2 hb9 HB8 HN1 HN2
      generalize cutErr rb LR la = er2
      go_wp2_with fail
      refine (Whole_any AR cr LR rb (Lt w) w9 (HLR.out.keep (Same.of_below HB9.out (fun b h => h))) (fun b hb => Nat.lt_of_lt_of_le hb hz9)).mono ?_
      rintro e w10 ⟨r, rfl, hn1, hn2, hb10⟩
      have HN1 := Lib.hid hn1
      have HN2 := Lib.hid hn2
      have HB10 := Lib.hid (HB9.out.trans (hb10.mono hz9))
      have hz10 := HB10.out.size
      clear hn1 hn2 hb10 HB9
      go_wp2_with fail
      refine (rWhole_any AR cr LR rb (Lt w) w10 (HLR.out.keep (Same.of_below HB10.out (fun b h => h))) (fun b hb => Nat.lt_of_lt_of_le hb hz10) hcr).mono ?_
      rintro e w11 ⟨s, rfl, hm1, hm2, hb11⟩
      obtain rfl : r = s := last_eq HN1.out HN2.out hm1 hm2
      have HB11 := Lib.hid (HB10.out.trans (hb11.mono hz10))
      clear hm1 hm2 hb11 HB10 HN1 HN2
      generalize errOf rb LR = er3
      go_wp2_with fail
      refine (begun_any _).mono ?_
      rintro e w12 ⟨rfl, hb12⟩
      have HB12 := Lib.hid (HB11.out.trans (hb12.mono HB11.out.size))
      clear hb12
      go_wp2_with fail
      go_ret
      exact ⟨rfl, HB12.out⟩
end Go.Proofs.Ytjpknhhdkjhjfaa
