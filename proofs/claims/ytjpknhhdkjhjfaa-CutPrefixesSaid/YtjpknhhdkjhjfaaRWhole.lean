/- The contracts of the reference's whole, last, Whole, upto and Floor. -/
import Derived.Test.YtjpknhhdkjhjfaaRClose
import Derived.Test.YtjpknhhdkjhjfaaWhole
import Derived.Test.YtjpknhhdkjhjfaaBegun
import Derived.Test.YtjpknhhdkjhjfaaLat
import Derived.Test.YtjpknhhdkjhjfaaPlain10
namespace Go.Proofs.Ytjpknhhdkjhjfaa
open Go.RowKit
set_option linter.unusedVariables false

def RwPost (L : List (List Stp)) (n : Int) (w : World) (e : Ending) (w' : World) : Prop := ∃ b : Bool, e = .returned (.bool b) ∧ (b = true ↔ WholeC L n) ∧ Below w.heap.size w w'

set_option maxHeartbeats 1000000 in
theorem rwhole_any (AL : Option Addr) (cl : Nat) (L : List (List Stp)) (n base : Int) (S : Nat → Prop) (w : World) (hL : Logs w S AL L) (hS : ∀ b, S b → b < w.heap.size) (hv : Valid base L) :
    Calls Try.prog 58 #[.slice AL L.length cl, .int .i64 n] w (RwPost L n w) := by
  have hbd := hL.1
  have HL := Lib.hid hL
  have HV := Lib.hid hv
  clear hL hv
  go_enter Try.func58, Try.ntmps58
  go_wp2
  go_loopw [5, 13] (fun f i wr => ∃ (k : Nat) (b : Bool), k ≤ L.length ∧ f = .bool b ∧ i = .int .i64 k ∧ WhTo L n k b ∧ Below w.heap.size w wr) (fun _ i _ => L.length - (intOf i).toNat)
  case atStart => exact ⟨0, false, Nat.zero_le _, rfl, rfl, whTo_zero, Below.refl _ _⟩
  case round =>
    obtain ⟨k, b, hk, rfl, rfl, hto, hbel⟩ := hrel
    obtain ⟨wo, rfl⟩ : ∃ wo : World, wo = wr := ⟨_, rfl⟩
    have HB := Lib.hid hbel
    have HTO := Lib.hid hto
    have hszo := hbel.size
    by_cases hkl : k < L.length
    · obtain ⟨b3, o3, A', c', rfl, hb3, c3, hs⟩ := (HL.out.keep (Same.of_below hbel hS)).at_ hkl
      have hlb := hs.1
      have HS := Lib.hid hs
      have HSTP := Lib.hid (show ∀ p, stp L k p = (L.getD k []).getD p nilS from fun _ => rfl)
      clear hbel hto hs
      generalize hgl : L.getD k [] = l at c3 hlb HS HSTP
      have HGL := Lib.hid hgl
      clear hgl
      go_wp2_with fail
      refine (find_any A' c' l n S wo HS.out (fun b hb => by have := hS b hb; omega)).mono ?_
      rintro e w1 ⟨r, rfl, hfind, hb1⟩
      have HB1 := Lib.hid (HB.out.trans (hb1.mono hszo))
      have HS1 := Lib.hid (HS.out.keep (Same.of_below (hb1.mono hszo) hS))
      have hsz1 := HB1.out.size
      clear hb1 HS
      rcases hfind with ⟨p, hp, rfl, hpc⟩ | ⟨rfl, hnone⟩
      · have hd1 : decide ((0 : Int) ≤ (p : Int)) = true := by simp
        obtain ⟨b9, o9, rfl, hb9, d5, A9, cc9, d6, hi9, hl9⟩ := HS1.out.at_ hp
        have HP := Lib.hid (show p < (L.getD k []).length by rw [HGL.out]; exact hp)
        generalize hg9 : l.getD p nilS = s9 at d5 d6 hi9 hl9 hpc
        have HG9 := Lib.hid (show stp L k p = s9 by rw [HSTP.out]; exact hg9)
        obtain ⟨cm, sh⟩ := s9
        simp only at d5 d6 hi9 hl9 hpc
        have HPC := Lib.hid hpc
        have HI9 := Lib.hid hi9
        have hpi : (p : Int) < l.length := by omega
        have HRG := Lib.hid (show ∀ t ∈ sh, 0 ≤ t ∧ t < L.length from fun t ht => HV.out.range hkl HP.out (by rw [HG9.out]; exact ht))
        clear hg9 hpc hi9
        go_wp2_with fail
        go_loopw [28] (fun i wr => ∃ j : Nat, j ≤ sh.length ∧ i = .int .i64 j ∧ WhAt L n sh j ∧ Ints wr S A9 sh ∧ Below w.heap.size w wr) (fun i _ => sh.length - (intOf i).toNat)
        case atStart => exact ⟨0, Nat.zero_le _, rfl, whAt_zero, HI9.out, HB1.out⟩
        case round =>
          clear HI9
          obtain ⟨j, hj, rfl, hat, hi7, hbel⟩ := hrel
          have HAT := Lib.hid hat
          have HI7 := Lib.hid hi7
          have HBE := Lib.hid hbel
          have hsz2 := hbel.size
          clear hat hi7 hbel
          by_cases hjl : j < sh.length
          · obtain ⟨b7, o7, rfl, hb7, c7⟩ := HI7.out.at_ hjl
            have htm := getD_in sh j 0 hjl
            generalize hgt : sh.getD j 0 = t at c7 htm
            have HGT := Lib.hid hgt
            obtain ⟨ht0, ht1⟩ := HRG.out t htm
            have HTM := Lib.hid htm
            clear hgt htm
            obtain ⟨tt, rfl⟩ := Int.eq_ofNat_of_zero_le ht0
            have htl : tt < L.length := by omega
            obtain ⟨b8, o8, A8, c8, e7, _, d8, hs8⟩ := (HL.out.keep (Same.of_below HBE.out hS)).at_ htl
            injection e7 with e7
            injection e7 with e7 e8
            subst e7 e8
            have hlb8 := hs8.1
            have HS8 := Lib.hid hs8
            have HHN := Lib.hid (show ∀ q, q < (L.getD tt []).length → ((L.getD tt []).getD q nilS).1 = n → HasN L tt n from fun q h1 h2 => ⟨q, h1, h2⟩)
            have HFL := Lib.hid (show (∀ u ∈ L.getD tt [], u.1 ≠ n) → ¬ WholeC L n from fun h => wh_fail hkl HP.out HG9.out HPC.out HTM.out (by rw [Int.toNat_natCast]; exact h))
            clear hs8
            generalize L.getD tt [] = l8 at d8 hlb8 HS8 HHN HFL
            go_wp2_with fail
            refine (find_any A8 c8 l8 n S wr HS8.out (fun b hb => by have := hS b hb; omega)).mono ?_
            rintro e w2 ⟨r2, rfl, hfind, hb2⟩
            have HBE2 := Lib.hid (HBE.out.trans (hb2.mono hsz2))
            have HI8 := Lib.hid (HI7.out.keep (Same.of_below (hb2.mono hsz2) hS))
            clear hb2
            rcases hfind with ⟨q, hq, rfl, hqc⟩ | ⟨rfl, hnone⟩
            · have hd2 : decide ((q : Int) < 0) = false := by simp
              have HAT2 := Lib.hid (whAt_step (L := L) (n := n) hjl HGT.out HAT.out (by rw [Int.toNat_natCast]; exact HHN.out q hq hqc))
              clear hqc
              go_wp2_with fail
              go_roundw
              case rel => exact ⟨j + 1, by omega, by go_num, HAT2.out, HI8.out, HBE2.out⟩
              case measure => simp [intOf]; omega
            · have HF := Lib.hid (HFL.out hnone)
              clear hnone
              go_wp2_with fail
              go_ret
              exact ⟨false, rfl, ⟨fun h => (by cases h), fun h => absurd h HF.out⟩, HBE2.out⟩
          · have HTO2 := Lib.hid (whTo_some HV.out hkl HTO.out HP.out HG9.out HPC.out (show sh.length ≤ j by omega) HAT.out)
            go_wp2_with fail
            go_roundw
            case rel => exact ⟨k + 1, true, by omega, rfl, by go_num, HTO2.out, HBE.out⟩
            case measure => simp [intOf]; omega
      · have HTO2 := Lib.hid (whTo_none HTO.out (by rw [HGL.out]; exact hnone))
        clear hnone
        go_wp2_with fail
        go_roundw
        case rel => exact ⟨k + 1, b, by omega, rfl, by go_num, HTO2.out, HB1.out⟩
        case measure => simp [intOf]; omega
    · have HF := Lib.hid (whTo_end (by omega) hto)
      clear hbel hto
      go_wp2_with fail
      go_ret
      exact ⟨b, rfl, HF.out, HB.out⟩

set_option maxHeartbeats 400000 in
theorem rlast_any (AL : Option Addr) (cl : Nat) (L : List (List Stp)) (base : Int) (S : Nat → Prop) (w : World) (hL : Logs w S AL L) (hS : ∀ b, S b → b < w.heap.size) (hb0 : 0 ≤ base) (hb1 : base ≤ 1073741824) (hv : Valid base L) :
    Calls Try.prog 47 #[.int .i64 base, .slice AL L.length cl] w (WhPost base L w) := by
  have HL := Lib.hid hL
  have HV := Lib.hid hv
  clear hL hv
  go_enter Try.func47, Try.ntmps47
  go_wp2_with fail
  go_loopw [5] (fun i wr => ∃ n : Int, base ≤ n ∧ n ≤ 1073741824 ∧ i = .int .i64 n ∧ LastTo base L n ∧ Below w.heap.size w wr) (fun i _ => (1073741824 - intOf i).toNat)
  case atStart => exact ⟨base, Int.le_refl _, hb1, rfl, lastTo_start, Below.refl _ _⟩
  case round =>
    obtain ⟨n, hn0, hn1, rfl, hto, hbel⟩ := hrel
    have HTO := Lib.hid hto
    have HB := Lib.hid hbel
    have hsz := hbel.size
    clear hto hbel
    by_cases hlt : n < 1073741824
    · have hd : decide (n < 1073741824) = true := by simp [hlt]
      go_wp2_with fail
      refine (rwhole_any AL cl L (n + 1) base S wr (HL.out.keep (Same.of_below HB.out hS)) (fun b hb => by have := hS b hb; omega) HV.out).mono ?_
      rintro e w1 ⟨b, rfl, hb, hbw⟩
      have HB1 := Lib.hid (HB.out.trans (hbw.mono hsz))
      clear hbw
      cases b
      · have HF := Lib.hid (lastTo_end HTO.out (fun h => (by have := hb.2 h; cases this)))
        clear hb
        go_wp2_with fail
        go_ret
        exact ⟨n, rfl, HF.out, hn1, HB1.out⟩
      · have HT2 := Lib.hid (lastTo_step HTO.out (hb.1 rfl))
        clear hb
        go_wp2_with fail
        go_roundw
        case rel => exact ⟨n + 1, by omega, by omega, rfl, HT2.out, HB1.out⟩
        case measure => simp [intOf]; omega
    · have hd : decide (n < 1073741824) = false := by simpa using hlt
      have HF := Lib.hid (lastTo_end HTO.out (lastTo_top HV.out (by omega)))
      go_wp2_with fail
      go_ret
      exact ⟨n, rfl, HF.out, hn1, HB.out⟩

set_option maxHeartbeats 400000 in
theorem rWhole_any (AL : Option Addr) (cl : Nat) (L : List (List Stp)) (base : Int) (S : Nat → Prop) (w : World) (hL : Logs w S AL L) (hS : ∀ b, S b → b < w.heap.size) (hcap : L.length ≤ cl) :
    Calls Try.prog 24 #[.int .i64 base, .slice AL L.length cl] w (WholePost base L w) := by
  go_enter Try.func24, Try.ntmps24
  go_wp2_with fail
  refine (rcheck_any AL cl L base S w hL hS hcap).mono ?_
  rintro e w1 ⟨rfl, hb1⟩
  have HB1 := Lib.hid hb1
  have hz := hb1.size
  have HL1 := Lib.hid (hL.keep (Same.of_below hb1 hS))
  clear hb1
  by_cases he : errOf base L = 0
  · have HE := Lib.hid he
    obtain ⟨hv, hb0, hb1, _, _⟩ := errOf_zero he
    have HV := Lib.hid hv
    rw [he]
    clear he hv
    go_wp2_with fail
    refine (rlast_any AL cl L base S w1 HL1.out (fun b hb => by have := hS b hb; omega) hb0 hb1 HV.out).mono ?_
    rintro e w2 ⟨n, rfl, hn, hn1, hb2⟩
    have HN := Lib.hid hn
    have HB2 := Lib.hid (HB1.out.trans (hb2.mono hz))
    clear hn hb2
    go_wp2_with fail
    go_ret2
    exact ⟨n, by rw [HE.out]; rfl, fun _ => ⟨HN.out, hn1⟩, fun h => absurd HE.out h, HB2.out⟩
  · have hd : (errOf base L != 0) = true := by simp [he]
    have HE := Lib.hid he
    clear he
    generalize hce : errOf base L = er at hd HE ⊢
    have HCE := Lib.hid hce
    clear hce
    go_wp2_with fail
    go_ret2
    exact ⟨0, by rw [HCE.out]; rfl, fun h => absurd (HCE.out.symm.trans h) HE.out, fun _ => rfl, HB1.out⟩

def UptoPost (L : List (List Stp)) (n : Int) (w : World) (e : Ending) (w' : World) : Prop := e = .returned (.slice (some ⟨w.heap.size, 0, none⟩) L.length L.length) ∧ Row w' w.heap.size (uptoL L n) ∧ Below w.heap.size w w'

set_option maxHeartbeats 1000000 in
theorem upto_any (AL : Option Addr) (cl : Nat) (L : List (List Stp)) (n : Int) (S : Nat → Prop) (w : World) (hL : Logs w S AL L) (hS : ∀ b, S b → b < w.heap.size) :
    Calls Try.prog 48 #[.slice AL L.length cl, .int .i64 n] w (UptoPost L n w) := by
  have hbd := hL.1
  have HL := Lib.hid hL
  clear hL
  have hmk := run_make_ints L.length (by omega)
  go_enter Try.func48, Try.ntmps48
  go_wp2_with fail
  clear hmk
  go_loopw [15] (fun i wr => ∃ k : Nat, k ≤ L.length ∧ i = .int .i64 k ∧ Row wr w.heap.size (upTo L n k 0) ∧ Below w.heap.size w wr) (fun i _ => L.length - (intOf i).toNat)
  case atStart => exact ⟨0, Nat.zero_le _, rfl, (by rw [← upTo_zero]; exact Row.new _ _), (Below.refl _ _).alloc (Nat.le_refl _) _⟩
  case round =>
    obtain ⟨k, hk, rfl, hrow, hbel⟩ := hrel
    obtain ⟨wo, rfl⟩ : ∃ wo : World, wo = wr := ⟨_, rfl⟩
    have HB := Lib.hid hbel
    have HR := Lib.hid hrow
    by_cases hkl : k < L.length
    · obtain ⟨b3, o3, A', c', rfl, hb3, c3, hs⟩ := (HL.out.keep (Same.of_below hbel hS)).at_ hkl
      have hb3l := hS b3 hb3
      have hlb := hs.1
      have HS := Lib.hid hs
      clear hbel hrow hs
      generalize hgl : L.getD k [] = l at c3 hlb HS
      have HGL := Lib.hid hgl
      clear hgl
      go_wp2_with fail
      go_loopw [22] (fun i wr => ∃ j : Nat, j ≤ l.length ∧ i = .int .i64 j ∧ Row wr w.heap.size (upTo L n k j) ∧ Below w.heap.size w wr ∧ Below w.heap.size wo wr) (fun i _ => l.length - (intOf i).toNat)
      case atStart => exact ⟨0, Nat.zero_le _, rfl, HR.out, HB.out, Below.refl _ _⟩
      case round =>
        clear HR
        obtain ⟨j, hj, rfl, hrow, hbel, hbo⟩ := hrel
        obtain ⟨wi, rfl⟩ : ∃ wi : World, wi = wr := ⟨_, rfl⟩
        have HR := Lib.hid hrow
        have HBE := Lib.hid hbel
        have HBO := Lib.hid hbo
        have hsz := hbel.size
        have hgl := hrow.lt
        by_cases hjl : j < l.length
        · obtain ⟨b4, o4, rfl, hb4, hst⟩ := (HS.out.keep (Same.of_below hbo hS)).at_ hjl
          have HJ := Lib.hid (show j < (L.getD k []).length by rw [HGL.out]; exact hjl)
          have HSJ := Lib.hid (show (L.getD k []).getD j (0, []) = l.getD j nilS by rw [HGL.out])
          generalize hgs : l.getD j nilS = s at hst HSJ
          obtain ⟨cm, sh⟩ := s
          obtain ⟨c5, A6, c6, c7, hi6, hl6⟩ := hst
          simp only at c5 c7 hi6 hl6
          have c8 := hrow.cell (show k < (upTo L n k j).length by rw [upTo_len]; exact hkl)
          have f8 := hrow.frozen k
          have hx1 : 0 ≤ (upTo L n k j).getD k 0 ∧ (upTo L n k j).getD k 0 ≤ 17592186044416 := by
            rw [upTo_at hkl]
            have h1 := cnt_le (n := n) ((L.getD k []).take j)
            have h2 : ((L.getD k []).take j).length ≤ l.length := by rw [HGL.out, List.length_take]; omega
            omega
          generalize hgx : (upTo L n k j).getD k 0 = x at c8 hx1
          have HGX := Lib.hid hgx
          obtain ⟨hx0, hx2⟩ := hx1
          clear hgs hrow hbel hbo hi6 hgx
          by_cases hcm : cm ≤ n
          · have hd : decide (cm ≤ n) = true := by simp [hcm]
            have HU := Lib.hid (upTo_inc hkl HJ.out HSJ.out hcm HGX.out)
            go_wp2_with fail
            go_roundw
            case rel =>
              refine ⟨j + 1, by omega, by go_num, ?_, ?_, ?_⟩
              · rw [← HU.out]
                exact (HR.out.set_ k (x + 1)).keep (Below.heap_alloc _ _ _ (by simp; omega))
              · exact (HBE.out.setCell (p := ⟨w.heap.size, k, none⟩) (Nat.le_refl _) _).alloc (by simp; omega) _
              · exact (HBO.out.setCell (p := ⟨w.heap.size, k, none⟩) (Nat.le_refl _) _).alloc (by simp; omega) _
            case measure => simp [intOf]; omega
          · have hd : decide (cm ≤ n) = false := by simpa using hcm
            have HU := Lib.hid (upTo_skip hkl HJ.out HSJ.out hcm)
            go_wp2_with fail
            go_roundw
            case rel => exact ⟨j + 1, by omega, by go_num, (by rw [← HU.out]; exact HR.out.keep (Below.heap_alloc _ _ _ hgl)), HBE.out.alloc hsz _, HBO.out.alloc hsz _⟩
            case measure => simp [intOf]; omega
        · have HU := Lib.hid (upTo_next (L := L) (n := n) (k := k) (j := j) (by rw [HGL.out]; omega))
          clear hrow hbel hbo
          go_wp2_with fail
          go_roundw
          case rel => exact ⟨k + 1, by omega, by go_num, (by rw [← HU.out]; exact HR.out), HBE.out⟩
          case measure => simp [intOf]; omega
    · have HU := Lib.hid (upTo_end (L := L) (n := n) (k := k) (by omega))
      clear hrow hbel
      go_wp2_with fail
      go_ret
      exact ⟨rfl, by rw [← HU.out]; exact HR.out, HB.out⟩

theorem cmpN_le (l g : Bool) : ((cmpN l g == 0) || (cmpN l g == 1)) = !g := by cases l <;> cases g <;> rfl

set_option maxHeartbeats 1000000 in
theorem rfloor_any (AL AC : Option Addr) (cl cc : Nat) (L : List (List Stp)) (c : List Int) (base : Int) (S : Nat → Prop) (w : World) (hL : Logs w S AL L) (hC : Ints w S AC c) (hS : ∀ b, S b → b < w.heap.size) (hcl : c.length ≤ 17592186044416) (hcap : L.length ≤ cl) :
    Calls Try.prog 22 #[.int .i64 base, .slice AL L.length cl, .slice AC c.length cc] w (FloorPost base L c w) := by
  go_enter Try.func22, Try.ntmps22
  go_wp2_with fail
  refine (rplace_any AL AC cl cc L c base S w hL hC hS hcl hcap).mono ?_
  rintro e w1 ⟨rfl, hb1⟩
  have HB1 := Lib.hid hb1
  have hz := hb1.size
  have HL := Lib.hid hL
  have HC := Lib.hid hC
  clear hb1 hL hC
  by_cases he : cutErr base L c = 0
  · have HE := Lib.hid he
    obtain ⟨hcut, hv, hn0, hn4⟩ := cutErr_zero he
    have hbb : 0 ≤ base ∧ base ≤ 1073741824 := by
      rcases cutErr_cases base L c with ⟨_, h1, _⟩ | h'
      · unfold BadArg at h1; omega
      · exact absurd he h'
    obtain ⟨hb0, hb1⟩ := hbb
    have HV := Lib.hid hv
    have HCU := Lib.hid hcut
    rw [he]
    clear he hv hcut
    go_wp2_with fail
    refine (rlast_any AL cl L base S w1 (HL.out.keep (Same.of_below HB1.out hS)) (fun b hb => by have := hS b hb; omega) hb0 hb1 HV.out).mono ?_
    rintro e w2 ⟨m, rfl, hm, hm1, hb2⟩
    have HM := Lib.hid hm
    have HB2 := Lib.hid (HB1.out.trans (hb2.mono hz))
    have hmb := hm.1
    clear hm hb2
    go_wp2_with fail
    go_loopw [9] (fun i wr => ∃ n : Int, base ≤ n ∧ n ≤ m ∧ i = .int .i64 n ∧ FlTo L c n m ∧ Below w.heap.size w wr) (fun i _ => (intOf i - base).toNat)
    case atStart => exact ⟨m, hmb, Int.le_refl _, rfl, flTo_start, HB2.out⟩
    case round =>
      obtain ⟨n, hn, hnm, rfl, hfl, hbel⟩ := hrel
      have HFL := Lib.hid hfl
      have HB := Lib.hid hbel
      have hsz := hbel.size
      clear hfl hbel
      by_cases hlt : base < n
      · have hd : decide (base < n) = true := by simp [hlt]
        go_wp2_with fail
        refine (upto_any AL cl L n S wr (HL.out.keep (Same.of_below HB.out hS)) (fun b hb => by have := hS b hb; omega)).mono ?_
        rintro e w3 ⟨rfl, hrow, hb3⟩
        have HB3 := Lib.hid (HB.out.trans (hb3.mono hsz))
        have hsz3 := HB3.out.size
        have hrl := hrow.lt
        have HR := Lib.hid hrow
        have hlow := low_iff (n := n) HV.out HCU.out
        have hcmp := rcompare_any (some ⟨wr.heap.size, 0, none⟩) AC L.length cc (uptoL L n) c (fun b => b < w3.heap.size) w3 (hrow.ints.more (fun b e => by subst e; exact hrl)) ((HC.out.keep (Same.of_below HB3.out hS)).more (fun b hb => by have := hS b hb; omega)) (by rw [uptoL_len]; omega) (by omega)
        have hpair : pairedB (uptoL L n) c = true := by
          unfold pairedB
          simp only [Bool.and_eq_true, decide_eq_true_eq, List.all_eq_true]
          refine ⟨⟨by rw [uptoL_len]; exact HCU.out.1.symm, fun x hx => ?_⟩, fun x hx => ?_⟩
          · simp only [uptoL, List.mem_map] at hx
            obtain ⟨l, _, rfl⟩ := hx
            omega
          · obtain ⟨i, hi, rfl⟩ := List.mem_iff_getElem.1 hx
            have := (HCU.out.2 i (by rw [← HCU.out.1]; exact hi)).1
            rwa [getD_get _ _ _ hi] at this
        have hle : leB (uptoL L n) c = true ↔ Low L c n := by rw [leB_iff, hlow]
        unfold leB at hle
        rw [uptoL_len, show cmpC (uptoL L n) c = cmpN (lessB (uptoL L n) c (uptoL L n).length) (lessB c (uptoL L n) (uptoL L n).length) by simp [cmpC, hpair], show pairE (uptoL L n) c = 0 by simp [pairE, hpair]] at hcmp
        clear hb3 hrow hlow hpair
        generalize hgl : lessB (uptoL L n) c (uptoL L n).length = lb at hcmp
        generalize hgg : lessB c (uptoL L n) (uptoL L n).length = gb at hcmp hle
        have HLE := Lib.hid hle
        clear hle hgl hgg
        go_wp2_with fail
        refine hcmp.mono ?_
        clear hcmp
        rintro e w4 ⟨rfl, kq, rfl⟩
        cases gb
        · have HLOW := Lib.hid (HLE.out.1 rfl)
          have HF := Lib.hid (flTo_end HM.out hn HFL.out HLOW.out)
          cases lb
          all_goals
            simp only [cmpN]
            go_wp2_with fail
            go_ret2
            exact ⟨n, by rw [HE.out]; rfl, fun _ => HF.out, fun h => absurd HE.out h, below_drewN HB3.out _⟩
        · have HFL2 := Lib.hid (flTo_step HFL.out (fun h => by have := HLE.out.2 h; cases this))
          cases lb
          all_goals
            simp only [cmpN]
            go_wp2_with fail
            go_roundw
            case rel => exact ⟨n - 1, by omega, by omega, rfl, HFL2.out, below_drewN HB3.out _⟩
            case measure => simp [intOf]; omega
      · have hd : decide (base < n) = false := by simpa using hlt
        have en : n = base := by omega
        have HF := Lib.hid (flTo_end HM.out (Int.le_refl _) (by have := HFL.out; rwa [en] at this) (low_base HV.out HCU.out))
        clear en
        go_wp2_with fail
        go_ret2
        exact ⟨base, by rw [HE.out]; rfl, fun _ => HF.out, fun h => absurd HE.out h, HB.out⟩
  · have hd : (cutErr base L c != 0) = true := by simp [he]
    have HE := Lib.hid he
    clear he
    generalize hce : cutErr base L c = er at hd HE ⊢
    have HCE := Lib.hid hce
    clear hce
    go_wp2_with fail
    go_ret2
    exact ⟨0, by rw [HCE.out]; rfl, fun h => absurd (HCE.out.symm.trans h) HE.out, fun _ => rfl, HB1.out⟩
end Go.Proofs.Ytjpknhhdkjhjfaa
