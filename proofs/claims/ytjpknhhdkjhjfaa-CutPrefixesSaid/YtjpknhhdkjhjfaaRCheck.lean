/- The contract of the reference's Check. -/
import Derived.Test.YtjpknhhdkjhjfaaClose
import Derived.Test.YtjpknhhdkjhjfaaPlain8
import Derived.Deep.LoopGhost
namespace Go.Proofs.Ytjpknhhdkjhjfaa
open Go.RowKit
set_option linter.unusedVariables false

set_option maxRecDepth 100000 in
set_option maxHeartbeats 400000 in
theorem rcheck_arg (AL : Option Addr) (cl : Nat) (L : List (List Stp)) (base : Int) (S : Nat → Prop) (w : World) (hL : Logs w S AL L) (h : BadArg base L) :
    Calls Try.prog 18 #[.int .i64 base, .slice AL L.length cl] w (ErrPost 1 w) := by
  have hbd := hL.1
  clear hL
  by_cases h1 : base < 0
  · have hd : decide (base < 0) = true := by simp [h1]
    go_enter Try.func18, Try.ntmps18
    go_wp2
    go_ret
    exact ⟨rfl, Below.refl _ _⟩
  · have hd1 : decide (base < 0) = false := by simpa using h1
    by_cases h2 : 1073741824 < base
    · have hd2 : decide (1073741824 < base) = true := by simp [h2]
      go_enter Try.func18, Try.ntmps18
      go_wp2
      go_ret
      exact ⟨rfl, Below.refl _ _⟩
    · have hd2 : decide (1073741824 < base) = false := by simpa using h2
      by_cases h3 : L.length = 0
      · have hd3 : decide ((L.length : Int) < 1) = true := by simp [h3]
        have H3 := Lib.hid h3
        clear h3 h
        generalize L.length = n at *
        have hn1 : (n : Int) < 1 := by have := H3.out; omega
        go_enter Try.func18, Try.ntmps18
        go_wp2
        go_ret
        exact ⟨rfl, Below.refl _ _⟩
      · have hd3 : decide ((L.length : Int) < 1) = false := by simp; omega
        have h4 : 4 < L.length := by
          rcases h with h | h | h | h
          · omega
          · omega
          · exact absurd h h3
          · exact h
        have hd4 : decide (4 < (L.length : Int)) = true := by simp; omega
        clear h
        generalize L.length = n at *
        go_enter Try.func18, Try.ntmps18
        go_wp2
        go_ret
        exact ⟨rfl, Below.refl _ _⟩


theorem same_b (b : Bool) (A B : Option Addr) (ca cb : Nat) (xs ys : List Int) (S : Nat → Prop) (w : World) (ha : Ints w S A xs) (hb : Ints w S B ys) (hx : xs.length ≤ 9223372036854775807) (hy : ys.length ≤ 9223372036854775807) (he : decide (xs = ys) = b) :
    Calls Try.prog 43 #[.slice A xs.length ca, .slice B ys.length cb] w fun e w' => e = .returned (.bool b) ∧ ∃ k, w' = w.drewN k := by
  subst he
  exact same_any A B ca cb xs ys S w ha hb hx hy
theorem Cell2.below {w w' : World} {g : Nat} {x y : Value} (h : Cell2 w g x y) (hb : Below w.heap.size w w') : Cell2 w' g x y := h.keep (hb.block g h.lt)

set_option maxRecDepth 100000 in
set_option maxHeartbeats 2000000 in
theorem rcheck_go (AL : Option Addr) (cl : Nat) (L : List (List Stp)) (base : Int) (S : Nat → Prop) (w : World) (hL : Logs w S AL L) (hS : ∀ b, S b → b < w.heap.size) (hcl : L.length ≤ cl) (h : ¬ BadArg base L) :
    Calls Try.prog 18 #[.int .i64 base, .slice AL L.length cl] w (ErrPost (errOf base L) w) := by
  have hbd := hL.1
  have hb0 : 0 ≤ base := by unfold BadArg at h; omega
  have hb1 : base ≤ 1073741824 := by unfold BadArg at h; omega
  have hn0 : 0 < L.length := by unfold BadArg at h; omega
  have hn4 : L.length ≤ 4 := by unfold BadArg at h; omega
  have HNB := Lib.hid h
  clear h
  have hd3 : decide ((L.length : Int) < 1) = false := by simp; omega
  have HLS := Lib.hid hL
  clear hL
  go_enter Try.func18, Try.ntmps18
  go_wp2
  go_loopw [35] (fun i wr => ∃ k : Nat, k ≤ L.length ∧ i = .int .i64 k ∧ OkTo base L k ∧ Below w.heap.size w wr) (fun i _ => L.length - (intOf i).toNat)
  case atStart => exact ⟨0, Nat.zero_le _, rfl, okTo_zero, Below.refl _ _⟩
  case round =>
    obtain ⟨k, hk, rfl, hchk, hbel⟩ := hrel
    obtain ⟨wo, rfl⟩ : ∃ wo : World, wo = wr := ⟨_, rfl⟩
    have HB := Lib.hid hbel
    have HCT := Lib.hid hchk
    by_cases hlt : k < L.length
    · obtain ⟨b3, o3, A', c', rfl, hb3, c3, hs⟩ := (HLS.out.keep (Same.of_below hbel hS)).at_ hlt
      have hlb := hs.1
      have HS := Lib.hid hs
      clear hbel hchk hs
      generalize hgl : L.getD k [] = l at c3 hlb HS
      have HGL := Lib.hid hgl
      clear hgl
      go_wp2
      go_loopw [7, 43] (fun t i wr => ∃ (j : Nat) (last : Int), j ≤ l.length ∧ i = .int .i64 j ∧ t = .int .i64 last ∧ OkIn base L k j last ∧ Below w.heap.size w wr ∧ Below w.heap.size wo wr) (fun _ i _ => l.length - (intOf i).toNat)
      case atStart => exact ⟨0, base, Nat.zero_le _, rfl, rfl, okIn_zero, HB.out, Below.refl _ _⟩
      case round =>
        obtain ⟨j, last, hj, rfl, rfl, hin, hbel, hbo⟩ := hrel
        obtain ⟨wi, rfl⟩ : ∃ wi : World, wi = wr := ⟨_, rfl⟩
        have HIN := Lib.hid hin
        have hlast : base ≤ last := hin.2.2.1
        have hsz := hbel.size
        by_cases hjl : j < l.length
        · obtain ⟨b4, o4, rfl, hb4, hst⟩ := (HS.out.keep (Same.of_below hbo hS)).at_ hjl
          generalize hgs : l.getD j nilS = s at hst
          have HGS := Lib.hid hgs
          clear hgs
          obtain ⟨cm, sh⟩ := s
          obtain ⟨c5, A6, c6, c7, hi6, hl6⟩ := hst
          simp only at c5 c7 hi6 hl6
          have HJ := Lib.hid (show j < (L.getD k []).length by rw [HGL.out]; exact hjl)
          have HST := Lib.hid (show (L.getD k []).getD j (0, []) = (cm, sh) by rw [HGL.out]; exact HGS.out)
          have HI6 := Lib.hid hi6
          have HBE := Lib.hid hbel
          have HBO := Lib.hid hbo
          clear hin hbel hbo hi6
          have HAL := Lib.hid (fun X : Obj => (Same.of_below ((Below.refl w.heap.size wi).alloc hsz X) hS))
          by_cases f1 : cm ≤ last
          · have hd : decide (cm ≤ last) = true := by simp [f1]
            have HF := Lib.hid (errOf_bad HNB.out (okIn_fail hlt HJ.out HST.out HIN.out (.inl f1)))
            go_wp2
            go_ret
            exact ⟨by rw [HF.out]; rfl, HBE.out.alloc hsz _⟩
          · have hd : decide (cm ≤ last) = false := by simpa using f1
            by_cases f2 : 1073741824 < cm
            · have hd2 : decide (1073741824 < cm) = true := by simp [f2]
              have HF := Lib.hid (errOf_bad HNB.out (okIn_fail hlt HJ.out HST.out HIN.out (.inr f2)))
              go_wp2
              go_ret
              exact ⟨by rw [HF.out]; rfl, HBE.out.alloc hsz _⟩
            · have hd2 : decide (1073741824 < cm) = false := by simpa using f2
              go_wp2_with fail
              refine (fits_any A6 c6 sh k L.length S _ (HI6.out.keep (HAL.out _)) (by omega)).mono ?_
              rintro e w' ⟨rfl, rfl⟩
              by_cases f3 : fitsB L.length k sh = true
              · have HF3 := Lib.hid f3
                rw [f3]
                clear f3
                have HIN2 := Lib.hid (okIn_step HJ.out HST.out HIN.out (by omega) (by omega) HF3.out)
                go_wp2_with fail
                go_roundw
                case rel => exact ⟨j + 1, cm, by omega, by go_num, rfl, HIN2.out, HBE.out.alloc hsz _, HBO.out.alloc hsz _⟩
                case measure => simp [intOf]; omega
              · have f3' : fitsB L.length k sh = false := by simpa using f3
                have HF := Lib.hid (errOf_bad HNB.out (chk_fail2 (base := base) hlt HJ.out HST.out f3'))
                rw [f3']
                clear f3 f3'
                go_wp2_with fail
                go_ret
                exact ⟨by rw [HF.out]; rfl, HBE.out.alloc hsz _⟩
        · have HCT2 := Lib.hid (okIn_out HCT.out hin (by rw [HGL.out]; omega))
          have HBE := Lib.hid hbel
          clear hin hbel hbo
          go_wp2_with fail
          go_roundw
          case rel => exact ⟨k + 1, by omega, by go_num, HCT2.out, HBE.out⟩
          case measure => simp [intOf]; omega
    · have HOK := Lib.hid (show OkTo base L L.length by have := HCT.out; rwa [show k = L.length by omega] at this)
      clear hchk hbel HCT
      go_wp2_with fail
      go_loopw [71] (fun i wr => ∃ m : Nat, m ≤ L.length ∧ i = .int .i64 m ∧ AgTo L m ∧ Below w.heap.size w wr) (fun i _ => L.length - (intOf i).toNat)
      case atStart => exact ⟨0, Nat.zero_le _, rfl, agTo_zero, HB.out⟩
      case round =>
        clear HB
        obtain ⟨m, hm, rfl, hag, hbel⟩ := hrel
        obtain ⟨wp, rfl⟩ : ∃ wp : World, wp = wr := ⟨_, rfl⟩
        have HB := Lib.hid hbel
        have HAG := Lib.hid hag
        by_cases hmt : m < L.length
        · obtain ⟨b3, o3, A', c', rfl, hb3, c3, hs⟩ := (HLS.out.keep (Same.of_below hbel hS)).at_ hmt
          have hlb := hs.1
          have HS := Lib.hid hs
          clear hbel hag hs
          generalize hgl : L.getD m [] = l at c3 hlb HS
          have HGL := Lib.hid hgl
          clear hgl
          go_wp2_with fail
          go_loopw [78] (fun i wr => ∃ a : Nat, a ≤ l.length ∧ i = .int .i64 a ∧ AgIn L m a ∧ Below w.heap.size w wr ∧ Below w.heap.size wp wr) (fun i _ => l.length - (intOf i).toNat)
          case atStart => exact ⟨0, Nat.zero_le _, rfl, agIn_zero, HB.out, Below.refl _ _⟩
          case round =>
            obtain ⟨a, ha, rfl, hin, hbel, hbo⟩ := hrel
            obtain ⟨wi, rfl⟩ : ∃ wi : World, wi = wr := ⟨_, rfl⟩
            have HIN := Lib.hid hin
            have hsz := hbel.size
            by_cases hal : a < l.length
            · obtain ⟨b4, o4, rfl, hb4, hst⟩ := (HS.out.keep (Same.of_below hbo hS)).at_ hal
              generalize hgs : l.getD a nilS = s at hst
              have HGS := Lib.hid hgs
              clear hgs
              obtain ⟨cm, sh⟩ := s
              obtain ⟨c5, A6, c6, c7, hi6, hl6⟩ := hst
              simp only at c5 c7 hi6 hl6
              have HJ := Lib.hid (show a < (L.getD m []).length by rw [HGL.out]; exact hal)
              have HST := Lib.hid (show (L.getD m []).getD a (0, []) = (cm, sh) by rw [HGL.out]; exact HGS.out)
              have HI6 := Lib.hid hi6
              have HBE := Lib.hid hbel
              have HBO := Lib.hid hbo
              clear hin hbel hbo hi6
              have HAL := Lib.hid (fun X : Obj => (Same.of_below ((Below.refl w.heap.size wi).alloc hsz X) hS))
              have HCB := Lib.hid (Cell2.alloc wi (.int .i64 cm) (.slice A6 sh.length c6))
              by_cases hce : cl = m + 1
              · subst hce
                go_wp2_with fail
                go_loopw [87] (fun i wr => ∃ q : Nat, q ≤ L.length - (m + 1) ∧ i = .int .i64 q ∧ AgAt L m (cm, sh) (m + 1 + q) ∧ Cell2 wr wi.heap.size (.int .i64 cm) (.slice A6 sh.length c6) ∧ Below w.heap.size w wr ∧ Below w.heap.size wp wr ∧ Below w.heap.size wi wr) (fun i _ => L.length - (m + 1) - (intOf i).toNat)
                case atStart => exact ⟨0, Nat.zero_le _, rfl, agAt_zero, HCB.out, HBE.out.alloc hsz _, HBO.out.alloc hsz _, (Below.refl _ _).alloc hsz _⟩
                case round =>
                  obtain ⟨q, hq, rfl, hat, hcb, hbel, hbo, hbw⟩ := hrel
                  have HBW := Lib.hid hbw
                  clear hbw
                  have HAT := Lib.hid hat
                  have HC2 := Lib.hid hcb
                  have HBE2 := Lib.hid hbel
                  have HBO2 := Lib.hid hbo
                  have hsz2 := hbel.size
                  clear hat hcb hbel hbo HCB HBE HBO HAL
                  by_cases hql : q < L.length - (m + 1)
                  · exfalso
                    omega
                  · have HIN2 := Lib.hid (agIn_step HJ.out HST.out HIN.out (show L.length ≤ m + 1 + q by omega) HAT.out)
                    go_wp2_with fail
                    go_roundw
                    case rel => exact ⟨a + 1, by omega, by go_num, HIN2.out, HBE2.out, HBO2.out⟩
                    case measure => simp [intOf]; omega
              · go_wp2_with fail
                go_loopw [87] (fun i wr => ∃ q : Nat, q ≤ L.length - (m + 1) ∧ i = .int .i64 q ∧ AgAt L m (cm, sh) (m + 1 + q) ∧ Cell2 wr wi.heap.size (.int .i64 cm) (.slice A6 sh.length c6) ∧ Below w.heap.size w wr ∧ Below w.heap.size wp wr ∧ Below w.heap.size wi wr) (fun i _ => L.length - (m + 1) - (intOf i).toNat)
                case atStart => exact ⟨0, Nat.zero_le _, rfl, agAt_zero, HCB.out, HBE.out.alloc hsz _, HBO.out.alloc hsz _, (Below.refl _ _).alloc hsz _⟩
                case round =>
                  obtain ⟨q, hq, rfl, hat, hcb, hbel, hbo, hbw⟩ := hrel
                  have HBW := Lib.hid hbw
                  clear hbw
                  have HAT := Lib.hid hat
                  have HC2 := Lib.hid hcb
                  have HBE2 := Lib.hid hbel
                  have HBO2 := Lib.hid hbo
                  have hsz2 := hbel.size
                  clear hat hcb hbel hbo HCB HBE HBO HAL
                  by_cases hql : q < L.length - (m + 1)
                  · obtain ⟨b7, o7, A7, c8, e7, _, c9, hs7⟩ := (HLS.out.keep (Same.of_below HBE2.out hS)).at_ (show m + 1 + q < L.length by omega)
                    injection e7 with e7
                    injection e7 with e7 e8
                    subst e7 e8
                    rw [show o3 + (m + 1 + q) = o3 + (m + 1) + q by omega] at c9
                    have d0 := HC2.out.c0
                    have d1 := HC2.out.c1
                    have hlb7 := hs7.1
                    have HS7 := Lib.hid hs7
                    clear hs7
                    generalize hg7 : L.getD (m + 1 + q) [] = l7 at c9 hlb7 HS7
                    have HG7 := Lib.hid hg7
                    clear hg7
                    have hqi : (q : Int) < ((L.length - (m + 1) : Nat) : Int) := by omega
                    have hgb := HC2.out.lt
                    go_wp2_with fail
                    refine (find_any A7 c8 l7 cm S wr HS7.out (fun b hb => by have := hS b hb; omega)).mono ?_
                    rintro e w1 ⟨r, rfl, hfind, hb1⟩
                    have HC3 := Lib.hid (HC2.out.below hb1)
                    have HBE3 := Lib.hid (HBE2.out.trans (hb1.mono hsz2))
                    have HBO3 := Lib.hid (HBO2.out.trans (hb1.mono hsz2))
                    have HBW3 := Lib.hid (HBW.out.trans (hb1.mono hsz2))
                    have HS8 := Lib.hid (HS7.out.keep (Same.of_below (hb1.mono hsz2) hS))
                    have HI8 := Lib.hid (HI6.out.keep (Same.of_below (HBW.out.trans (hb1.mono hsz2)) hS))
                    have d2 := HC3.out.c0
                    have d3 := HC3.out.c1
                    clear hb1 d0 d1 HC2 HS7
                    rcases hfind with ⟨p, hp, rfl, hpc⟩ | ⟨rfl, hnone⟩
                    · have hpm : l7.getD p nilS ∈ l7 := getD_in _ _ _ hp
                      obtain ⟨b9, o9, rfl, hb9, d5, A9, cc9, d6, hi9, hl9⟩ := HS8.out.at_ hp
                      generalize hg9 : l7.getD p nilS = s9 at d5 d6 hi9 hl9 hpm hpc
                      obtain ⟨cm9, sh9⟩ := s9
                      simp only at d5 d6 hi9 hl9 hpc
                      have HM9 := Lib.hid (show (cm9, sh9) ∈ L.getD (m + 1 + q) [] by rw [HG7.out]; exact hpm)
                      have HP9 := Lib.hid hpc
                      have HI9 := Lib.hid hi9
                      clear hpm hpc hi9 hg9
                      have hpi : (p : Int) < l7.length := by omega
                      have hp0 : decide ((0 : Int) ≤ (p : Int)) = true := by simp
                      by_cases f5 : sh = sh9
                      · have HAT2 := Lib.hid (agAt_found HOK.out (show m + 1 + q < L.length by omega) HAT.out HM9.out HP9.out f5)
                        have HSM := Lib.hid (fun w' h1 h2 => same_b true A6 A9 c6 cc9 sh sh9 S w' h1 h2 (by omega) (by omega) (decide_eq_true f5))
                        clear f5
                        go_wp2_with fail
                        go_quiet ((go_at_call 43; refine Calls.quiet_of (HSM.out _ (HI8.out.keep (fun _ _ => rfl)) (HI9.out.keep (fun _ _ => rfl)))))
                        go_wp2_with fail
                        go_roundw
                        case rel => exact ⟨q + 1, by omega, by go_num, HAT2.out, HC3.out, below_drewN HBE3.out _, below_drewN HBO3.out _, below_drewN HBW3.out _⟩
                        case measure => simp [intOf]; omega
                      · have HF := Lib.hid (errOf_bad HNB.out (ag_fail (base := base) hmt (show m + 1 + q < L.length by omega) (mem_at HJ.out HST.out) HM9.out HP9.out f5))
                        have HSM := Lib.hid (fun w' h1 h2 => same_b false A6 A9 c6 cc9 sh sh9 S w' h1 h2 (by omega) (by omega) (decide_eq_false f5))
                        clear f5
                        go_wp2_with fail
                        go_quiet ((go_at_call 43; refine Calls.quiet_of (HSM.out _ (HI8.out.keep (fun _ _ => rfl)) (HI9.out.keep (fun _ _ => rfl)))))
                        go_wp2_with fail
                        go_ret
                        exact ⟨by rw [HF.out]; rfl, below_drewN HBE3.out _⟩
                    · have HAT2 := Lib.hid (agAt_none HAT.out (by rw [HG7.out]; exact hnone))
                      clear hnone
                      go_wp2_with fail
                      go_quiet (fail)
                      go_wp2_with fail
                      go_roundw
                      case rel => exact ⟨q + 1, by omega, by go_num, HAT2.out, HC3.out, below_drewN HBE3.out _, below_drewN HBO3.out _, below_drewN HBW3.out _⟩
                      case measure => simp [intOf]; omega
                  · have HIN2 := Lib.hid (agIn_step HJ.out HST.out HIN.out (show L.length ≤ m + 1 + q by omega) HAT.out)
                    go_wp2_with fail
                    go_roundw
                    case rel => exact ⟨a + 1, by omega, by go_num, HIN2.out, HBE2.out, HBO2.out⟩
                    case measure => simp [intOf]; omega
            · have HAG2 := Lib.hid (agIn_out HAG.out hin (by rw [HGL.out]; omega))
              have HBE := Lib.hid hbel
              clear hin hbel hbo
              go_wp2_with fail
              go_roundw
              case rel => exact ⟨m + 1, by omega, by go_num, HAG2.out, HBE.out⟩
              case measure => simp [intOf]; omega
        · have HF := Lib.hid (errOf_ok HNB.out (ag_valid HOK.out (show AgTo L L.length by rwa [show m = L.length by omega] at hag)))
          clear hag hbel
          go_wp2_with fail
          go_ret
          exact ⟨by rw [HF.out]; rfl, HB.out⟩

theorem rcheck_any (AL : Option Addr) (cl : Nat) (L : List (List Stp)) (base : Int) (S : Nat → Prop) (w : World) (hL : Logs w S AL L) (hS : ∀ b, S b → b < w.heap.size) (hcl : L.length ≤ cl) :
    Calls Try.prog 18 #[.int .i64 base, .slice AL L.length cl] w (ErrPost (errOf base L) w) := by
  by_cases h : BadArg base L
  · rw [errOf_arg h]
    exact rcheck_arg AL cl L base S w hL h
  · exact rcheck_go AL cl L base S w hL hS hcl h
end Go.Proofs.Ytjpknhhdkjhjfaa
