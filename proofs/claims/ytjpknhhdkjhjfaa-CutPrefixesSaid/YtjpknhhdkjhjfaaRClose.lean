/- The contracts of the reference's place, lacking, Closed and Close. -/
import Derived.Test.YtjpknhhdkjhjfaaRCheck
import Derived.Test.YtjpknhhdkjhjfaaPlain9
import Derived.Test.YtjpknhhdkjhjfaaUntil
namespace Go.Proofs.Ytjpknhhdkjhjfaa
open Go.RowKit
set_option linter.unusedVariables false
set_option linter.unusedSimpArgs false

/-- The capacities of the lists of logs. -/
def CapsOk (w : World) (A : Option Addr) (L : List (List Stp)) : Prop := ∀ b off, A = some ⟨b, off, none⟩ → ∀ k, k < L.length → ∀ A' n c, w.cell? ⟨b, off + k, none⟩ = some (.slice A' n c) → n ≤ c
theorem CapsOk.keep {w w' : World} {S : Nat → Prop} {A : Option Addr} {L : List (List Stp)} (h : CapsOk w A L) (hL : Logs w S A L) (hk : Same S w w') : CapsOk w' A L := by
  intro b off e k hk' A' n c hc
  obtain ⟨b', off', e', hb, _⟩ := hL.2 (by omega)
  rw [e'] at e
  injection e with e
  injection e with e1 e2
  subst e1 e2
  exact h b' off' e' k hk' A' n c ((hk.cell hb).symm.trans hc)

set_option maxHeartbeats 600000 in
theorem rplace_any (AL AC : Option Addr) (cl cc : Nat) (L : List (List Stp)) (c : List Int) (base : Int) (S : Nat → Prop) (w : World) (hL : Logs w S AL L) (hC : Ints w S AC c) (hS : ∀ b, S b → b < w.heap.size) (hcl : c.length ≤ 17592186044416) (hcap : L.length ≤ cl) :
    Calls Try.prog 46 #[.int .i64 base, .slice AL L.length cl, .slice AC c.length cc] w (ErrPost (cutErr base L c) w) := by
  have hbd := hL.1
  go_enter Try.func46, Try.ntmps46
  go_wp2_with fail
  refine (rcheck_any AL cl L base S w hL hS hcap).mono ?_
  rintro e w1 ⟨rfl, hb1⟩
  rcases Classical.em (errOf base L = 0) with he | he
  · have HE := Lib.hid he
    rw [he]
    clear he
    by_cases hlen : c.length = L.length
    · have hd : ((c.length : Int) != (L.length : Int)) = false := by simp [hlen]
      have HLN := Lib.hid hlen
      have HB1 := Lib.hid hb1
      have hc1 := hC.keep (Same.of_below hb1 hS)
      have hL1 := hL.keep (Same.of_below hb1 hS)
      clear hlen hb1 hC hL
      go_wp2
      go_loop [23] (fun i => ∃ k : Nat, k ≤ c.length ∧ i = .int .i64 k ∧ CutTo L c k) (fun i => c.length - (intOf i).toNat)
      case atStart => exact ⟨0, Nat.zero_le _, rfl, fun i hi => absurd hi (by omega)⟩
      case round =>
        obtain ⟨k, hk, rfl, ht⟩ := hrel
        have HT := Lib.hid ht
        clear ht
        by_cases hlt : k < c.length
        · have hlt' : k < L.length := by have := HLN.out; omega
          obtain ⟨b1, o1, rfl, _, c1⟩ := hc1.at_ hlt
          obtain ⟨b3, o3, A', c', rfl, hb3, c3, hs⟩ := hL1.at_ hlt'
          have hls := hs.1
          clear hs hc1 hL1
          have HX := Lib.hid (show CutTo L c k → 0 ≤ c.getD k 0 → c.getD k 0 ≤ (L.getD k []).length → CutTo L c (k + 1) from cutTo_step)
          have HY := Lib.hid (show IsCut L c → 0 ≤ c.getD k 0 ∧ c.getD k 0 ≤ (L.getD k []).length from fun h => h.2 k hlt')
          generalize c.getD k 0 = x at c1 HX HY
          generalize L.getD k [] = l at c3 hls HX HY
          by_cases h1 : x < 0
          · have hd1 : decide (x < 0) = true := by simp [h1]
            have HF := Lib.hid (cutErr_bad HE.out (fun h => by have := (HY.out h).1; omega))
            go_wp2
            go_ret
            exact ⟨by rw [HF.out]; rfl, HB1.out⟩
          · have hd1 : decide (x < 0) = false := by simpa using h1
            by_cases h2 : (l.length : Int) < x
            · have hd2 : decide ((l.length : Int) < x) = true := by simp [h2]
              have HF := Lib.hid (cutErr_bad HE.out (fun h => by have := (HY.out h).2; omega))
              go_wp2
              go_ret
              exact ⟨by rw [HF.out]; rfl, HB1.out⟩
            · have hd2 : decide ((l.length : Int) < x) = false := by simpa using h2
              go_wp2
              go_round
              case rel => exact ⟨k + 1, by omega, by go_num, HX.out HT.out (by omega) (by omega)⟩
              case measure => simp [intOf]; omega
        · have HF := Lib.hid (cutErr_ok HE.out ⟨HLN.out, fun i hi => HT.out i (by have := HLN.out; omega)⟩)
          go_wp2
          go_ret
          exact ⟨by rw [HF.out]; rfl, HB1.out⟩
    · have hd : ((c.length : Int) != (L.length : Int)) = true := by simp; omega
      have HF := Lib.hid (cutErr_bad HE.out (fun h => hlen h.1))
      have HB1 := Lib.hid hb1
      clear hb1 hlen
      go_wp2
      go_ret
      exact ⟨by rw [HF.out]; rfl, HB1.out⟩
  · have HF := Lib.hid (cutErr_err (c := c) he)
    have hd : (errOf base L != 0) = true := by simp [he]
    have HB1 := Lib.hid hb1
    clear hb1 he
    generalize errOf base L = er at *
    go_wp2
    go_ret
    exact ⟨by rw [HF.out]; rfl, HB1.out⟩

def LackPost (L : List (List Stp)) (c : List Int) (w : World) (e : Ending) (w' : World) : Prop :=
  Below w.heap.size w w' ∧ ((∃ i k : Nat, e = .returned (.tuple #[.int .i64 i, .int .i64 k, .bool true]) ∧ Lacks L c i k) ∨ (e = .returned (.tuple #[.int .i64 0, .int .i64 0, .bool false]) ∧ ClosedC L c))

set_option maxRecDepth 100000 in
set_option maxHeartbeats 2000000 in
theorem lacking_any (AL AC : Option Addr) (cl cc : Nat) (L : List (List Stp)) (c : List Int) (base : Int) (S : Nat → Prop) (w : World) (hL : Logs w S AL L) (hcp : CapsOk w AL L) (hC : Ints w S AC c) (hS : ∀ b, S b → b < w.heap.size) (hcut : IsCut L c) (hv : Valid base L) :
    Calls Try.prog 49 #[.slice AL L.length cl, .slice AC c.length cc] w (LackPost L c w) := by
  have hbd := hL.1
  have hbc : c.length ≤ 17592186044416 := by rw [hcut.1]; exact hbd
  have HL := Lib.hid hL
  have HCP := Lib.hid hcp
  have HC := Lib.hid hC
  have HCUT := Lib.hid hcut
  have HV := Lib.hid hv
  clear hL hcp hC hcut hv
  go_enter Try.func49, Try.ntmps49
  go_wp2
  go_loopw [16] (fun i wr => ∃ k : Nat, k ≤ L.length ∧ i = .int .i64 k ∧ LkTo L c k ∧ Below w.heap.size w wr) (fun i _ => L.length - (intOf i).toNat)
  case atStart => exact ⟨0, Nat.zero_le _, rfl, lkTo_zero, Below.refl _ _⟩
  case round =>
    obtain ⟨i, hi, rfl, hto, hbel⟩ := hrel
    obtain ⟨wo, rfl⟩ : ∃ wo : World, wo = wr := ⟨_, rfl⟩
    have HB := Lib.hid hbel
    have HTO := Lib.hid hto
    by_cases hil : i < L.length
    · obtain ⟨b3, o3, A', c', rfl, hb3, c3w, hsw⟩ := HL.out.at_ hil
      have hb3l0 := hS b3 hb3
      have hcap := HCP.out b3 o3 rfl i hil A' _ c' c3w
      have c3 := ((Same.of_below hbel hS).cell (o := o3 + i) hb3).trans c3w
      have hic : i < c.length := by rw [HCUT.out.1]; exact hil
      obtain ⟨b1, o1, rfl, hb1, c1w⟩ := HC.out.at_ hic
      have c1 := ((Same.of_below hbel hS).cell (o := o1 + i) hb1).trans c1w
      obtain ⟨hx0, hx1⟩ := HCUT.out.2 i hil
      have hlb := hsw.1
      have HS := Lib.hid hsw
      have HSTP := Lib.hid (show ∀ k, stp L i k = (L.getD i []).getD k nilS from fun _ => rfl)
      clear hbel hto hsw c3w c1w
      generalize hgl : L.getD i [] = l at c3 hlb HS hcap hx1 HSTP
      have HGL := Lib.hid hgl
      generalize hgx : c.getD i 0 = x at c1 hx0 hx1
      have HGX := Lib.hid hgx
      clear hgl hgx
      obtain ⟨q, rfl⟩ := Int.eq_ofNat_of_zero_le hx0
      have hql : q ≤ l.length := by omega
      have hqc : (q : Int) ≤ c' := by omega
      have hici : (i : Int) < c.length := by omega
      go_wp2_with fail
      go_loopw [28] (fun i' wr => ∃ k : Nat, k ≤ q ∧ i' = .int .i64 k ∧ LkIn L c i k ∧ Below w.heap.size w wr) (fun i _ => q - (intOf i).toNat)
      case atStart => exact ⟨0, Nat.zero_le _, rfl, lkIn_zero, HB.out⟩
      case round =>
        obtain ⟨k, hk, rfl, hin, hbel⟩ := hrel
        obtain ⟨wi, rfl⟩ : ∃ wi : World, wi = wr := ⟨_, rfl⟩
        have HIN := Lib.hid hin
        have hsz := hbel.size
        by_cases hkq : k < q
        · have hkl : k < l.length := by omega
          obtain ⟨b4, o4, rfl, hb4, hst⟩ := (HS.out.keep (Same.of_below hbel hS)).at_ hkl
          generalize hgs : l.getD k nilS = s at hst
          have HGS := Lib.hid (show stp L i k = s by rw [HSTP.out]; exact hgs)
          clear hgs
          obtain ⟨cm, sh⟩ := s
          obtain ⟨c5, A6, c6, c7, hi6, hl6⟩ := hst
          simp only at c5 c7 hi6 hl6
          have HRG := Lib.hid (show ∀ t ∈ sh, 0 ≤ t ∧ t < L.length from fun t ht => HV.out.range hil (show k < (L.getD i []).length by rw [HGL.out]; exact hkl) (by rw [HGS.out]; exact ht))
          have HI6 := Lib.hid (hi6.keep (w' := wi.alloc (.cells #[.int .i64 cm, .slice A6 sh.length c6] 36)) (Same.of_below ((Below.refl w.heap.size wi).alloc hsz _) hS))
          have HCB := Lib.hid (Cell2.alloc wi (.int .i64 cm) (.slice A6 sh.length c6))
          have HBE := Lib.hid hbel
          clear hin hbel hi6
          go_wp2_with fail
          go_loopw [36] (fun i' wr => ∃ j : Nat, j ≤ sh.length ∧ i' = .int .i64 j ∧ LkAt L c (cm, sh) j ∧ Cell2 wr wi.heap.size (.int .i64 cm) (.slice A6 sh.length c6) ∧ Ints wr S A6 sh ∧ Below w.heap.size w wr) (fun i _ => sh.length - (intOf i).toNat)
          case atStart => exact ⟨0, Nat.zero_le _, rfl, lkAt_zero, HCB.out, HI6.out, HBE.out.alloc hsz _⟩
          case round =>
            obtain ⟨j, hj, rfl, hat, hcb, hi7, hbel⟩ := hrel
            have HAT := Lib.hid hat
            have HC2 := Lib.hid hcb
            have HI7 := Lib.hid hi7
            have HBE2 := Lib.hid hbel
            have hsz2 := hbel.size
            clear hat hcb hi7 hbel HCB HBE HI6
            by_cases hjl : j < sh.length
            · obtain ⟨b9, o9, rfl, hb9, c9⟩ := HI7.out.at_ hjl
              have htm := getD_in sh j 0 hjl
              generalize hgt : sh.getD j 0 = t at c9 htm
              have HGT := Lib.hid hgt
              obtain ⟨ht0, ht1⟩ := HRG.out t htm
              have HTM := Lib.hid htm
              clear hgt htm
              obtain ⟨tt, rfl⟩ := Int.eq_ofNat_of_zero_le ht0
              have htl : tt < L.length := by omega
              obtain ⟨b7, o7, A8, c8, e7, _, d8, hs8⟩ := (HL.out.keep (Same.of_below HBE2.out hS)).at_ htl
              injection e7 with e7
              injection e7 with e7 e8
              subst e7 e8
              have d0 := HC2.out.c0
              have hgb := HC2.out.lt
              have hb3l : b3 < wr.heap.size := by omega
              have hlb8 := hs8.1
              have HS8 := Lib.hid hs8
              have HST8 := Lib.hid (show ∀ p, stp L tt p = (L.getD tt []).getD p nilS from fun _ => rfl)
              have htc : tt < c.length := by rw [HCUT.out.1]; exact htl
              obtain ⟨b2, o2, e2, _, c2⟩ := (HC.out.keep (Same.of_below HBE2.out hS)).at_ htc
              injection e2 with e2
              injection e2 with e2 e3
              subst e2 e3
              clear hs8
              have HN8 := Lib.hid (show (∀ s ∈ L.getD tt [], s.1 ≠ cm) → ¬ InCut L c tt cm from incut_none)
              have HA8 := Lib.hid (show ∀ p, p < (L.getD tt []).length → ((L.getD tt []).getD p nilS).1 = cm → c.getD tt 0 ≤ p → ¬ InCut L c tt cm from fun p h1 h2 h3 => incut_above HV.out htl h1 h2 h3)
              have HF8 := Lib.hid (show ∀ p : Nat, p < (L.getD tt []).length → ((L.getD tt []).getD p nilS).1 = cm → (p : Int) < c.getD tt 0 → InCut L c tt cm from fun p h1 h2 h3 => incut_found h1 h2 h3)
              generalize hg8 : L.getD tt [] = l8 at d8 hlb8 HS8 HST8 HN8 HA8 HF8
              generalize hgy : c.getD tt 0 = y at c2 HA8 HF8
              clear hg8 hgy
              have htci : (tt : Int) < c.length := by omega
              have hb1l := hS b1 hb1
              go_wp2_with fail
              refine hideQ (fun c a d v w h => by cases d <;> exact h) (fun Q' HQ HP => ?_)
              refine regionT_until (fun w' => w'.cell? ⟨b3, o3 + tt, none⟩ = some (.slice A8 l8.length c8) ∧ w'.cell? ⟨wi.heap.size, 0, none⟩ = some (.int .i64 cm)) 8 8 #[false, false, false, false, false, false, false, false] (by kernel_rfl) (by kernel_rfl) (by kernel_rfl) ?_
              refine anyT_take (i := 0) (oi := ⟨some 40, _, _, _, _, _⟩) (v := ?_) (L' := #[true, false, false, false, false, false, false, false]) rfl rfl (by kernel_rfl) (by kernel_rfl) (by kernel_rfl) (by kernel_rfl) (by kernel_rfl) HP.out (Or.inl ⟨by rfl, ?_⟩) ⟨d8, d0⟩ ?_
              rotate_left
              · intro w' hSw
                (try dsimp only at hSw)
                go_simp
                (try with_reducible rfl)
              simp only [List.setIfInBounds_toArray, List.set_cons_zero, List.set_cons_succ]
              refine anyT_take (i := 1) (oi := ⟨some 41, _, _, _, _, _⟩) (v := ?_) (L' := #[true, true, false, false, false, false, false, false]) rfl rfl (by kernel_rfl) (by kernel_rfl) (by kernel_rfl) (by kernel_rfl) (by kernel_rfl) HP.out (Or.inl ⟨by rfl, ?_⟩) ⟨d8, d0⟩ ?_
              rotate_left
              · intro w' hSw
                (try dsimp only at hSw)
                go_simp
                (try with_reducible rfl)
              simp only [List.setIfInBounds_toArray, List.set_cons_zero, List.set_cons_succ]
              refine anyT_take (i := 2) (oi := ⟨some 42, _, _, _, _, _⟩) (v := ?_) (L' := #[true, true, true, false, false, false, false, false]) rfl rfl (by kernel_rfl) (by kernel_rfl) (by kernel_rfl) (by kernel_rfl) (by kernel_rfl) HP.out (Or.inl ⟨by rfl, ?_⟩) ⟨d8, d0⟩ ?_
              rotate_left
              · intro w' hSw
                (try dsimp only at hSw)
                go_simp
                (try with_reducible rfl)
              simp only [List.setIfInBounds_toArray, List.set_cons_zero, List.set_cons_succ]
              refine anyT_take (i := 3) (oi := ⟨some 43, _, _, _, _, _⟩) (v := ?_) (L' := #[true, true, true, true, false, false, false, false]) rfl rfl (by kernel_rfl) (by kernel_rfl) (by kernel_rfl) (by kernel_rfl) (by kernel_rfl) HP.out (Or.inl ⟨by rfl, ?_⟩) ⟨d8, d0⟩ ?_
              rotate_left
              · intro w' hSw
                (try dsimp only at hSw)
                go_simp
                (try with_reducible rfl)
              simp only [List.setIfInBounds_toArray, List.set_cons_zero, List.set_cons_succ]
              refine anyT_take (i := 4) (oi := ⟨some 44, _, _, _, _, _⟩) (v := ?_) (L' := #[true, true, true, true, true, false, false, false]) rfl rfl (by kernel_rfl) (by kernel_rfl) (by kernel_rfl) (by kernel_rfl) (by kernel_rfl) HP.out (Or.inl ⟨by rfl, ?_⟩) ⟨d8, d0⟩ ?_
              rotate_left
              · intro w' hSw
                (try dsimp only at hSw)
                go_simp
                (try with_reducible rfl)
              simp only [List.setIfInBounds_toArray, List.set_cons_zero, List.set_cons_succ]
              refine anyT_take (i := 5) (oi := ⟨some 45, _, _, _, _, _⟩) (v := ?_) (L' := #[true, true, true, true, true, true, false, false]) rfl rfl (by kernel_rfl) (by kernel_rfl) (by kernel_rfl) (by kernel_rfl) (by kernel_rfl) HP.out (Or.inl ⟨by rfl, ?_⟩) ⟨d8, d0⟩ ?_
              rotate_left
              · intro w' hSw
                (try dsimp only at hSw)
                go_simp
                (try with_reducible rfl)
              simp only [List.setIfInBounds_toArray, List.set_cons_zero, List.set_cons_succ]
              refine anyT_one (i := 6) (o := ⟨some 46, _, _, _, _, _⟩) (L' := #[true, true, true, true, true, true, true, false]) rfl (by kernel_rfl) (by kernel_rfl) (fun K hK => ?_)
              have HK := Lib.hid hK
              clear hK
              go_simp
              refine (find_any A8 c8 l8 cm S wr.drew (HS8.out.keep (fun _ _ => rfl)) (fun b hb => by have := hS b hb; show b < wr.heap.size; omega)).mono ?_
              rintro e w1 ⟨r, rfl, hfind, hb1⟩
              have hb1' : Below wr.heap.size wr w1 := (Below.refl wr.heap.size wr).drew.trans hb1
              have d8' := (hb1'.cell (p := ⟨b3, o3 + tt, none⟩) hb3l).trans d8
              have d0' := (hb1'.cell (p := ⟨wi.heap.size, 0, none⟩) hgb).trans d0
              have HC3 := Lib.hid (HC2.out.below hb1')
              have HBE3 := Lib.hid (HBE2.out.trans (hb1'.mono hsz2))
              have HFI := Lib.hid hfind
              clear hb1 hb1' d8 d0 HC2 HS8 hfind
              refine HK.out _ _ (fun _ => ⟨d8', d0'⟩) ?_
              clear HK K
              try simp only [Act.put, List.setIfInBounds_toArray, List.set_cons_zero, List.set_cons_succ]
              refine anyT_take (i := 7) (oi := ⟨some 13, _, _, _, _, _⟩) (v := ?_) (L' := #[true, true, true, true, true, true, true, true]) rfl rfl (by kernel_rfl) (by kernel_rfl) (by kernel_rfl) (by kernel_rfl) (by kernel_rfl) HP.out (Or.inl ⟨by rfl, ?_⟩) ⟨d8', d0'⟩ ?_
              rotate_left
              · intro w' hSw
                (try dsimp only at hSw)
                go_simp
                (try with_reducible rfl)
              simp only [List.setIfInBounds_toArray, List.set_cons_zero, List.set_cons_succ]
              refine anyU_done (by kernel_rfl) ?_
              rw [HQ.out]
              clear HQ HP Q'
              have c2' : w1.cell? ⟨b1, o1 + tt, none⟩ = some (.int .i64 y) := ((Same.of_below HBE3.out hS).cell hb1).trans (((Same.of_below HBE2.out hS).cell hb1).symm.trans c2)
              have HI8 := Lib.hid (HI7.out.keep (w' := w1) (fun b hb => (HBE3.out.block b (hS b hb)).trans (HBE2.out.block b (hS b hb)).symm))
              clear c2
              rcases HFI.out with ⟨p, hp, rfl, hpc⟩ | ⟨rfl, hnone⟩
              · have hd1 : decide ((p : Int) < 0) = false := by simp
                by_cases hpy : y ≤ (p : Int)
                · have hd2 : decide (y ≤ (p : Int)) = true := by simp [hpy]
                  have HLK := Lib.hid (show Lacks L c i k from ⟨hil, by rw [HGX.out]; omega, (tt : Int), by rw [HGS.out]; exact HTM.out, by rw [HGS.out, Int.toNat_natCast]; exact HA8.out p hp hpc hpy⟩)
                  clear hp hpc
                  go_wp2_with fail
                  go_ret3
                  exact ⟨HBE3.out, .inl ⟨i, k, rfl, HLK.out⟩⟩
                · have hd2 : decide (y ≤ (p : Int)) = false := by simpa using hpy
                  have HAT2 := Lib.hid (lkAt_step (L := L) (c := c) (s := (cm, sh)) hjl HGT.out HAT.out (by rw [Int.toNat_natCast]; exact HF8.out p hp hpc (by omega)))
                  clear hp hpc
                  go_wp2_with fail
                  go_roundw
                  case rel => exact ⟨j + 1, by omega, by go_num, HAT2.out, HC3.out, HI8.out, HBE3.out⟩
                  case measure => simp [intOf]; omega
              · have HLK := Lib.hid (show Lacks L c i k from ⟨hil, by rw [HGX.out]; omega, (tt : Int), by rw [HGS.out]; exact HTM.out, by rw [HGS.out, Int.toNat_natCast]; exact HN8.out hnone⟩)
                clear hnone
                go_wp2_with fail
                go_ret3
                exact ⟨HBE3.out, .inl ⟨i, k, rfl, HLK.out⟩⟩
            · have HIN2 := Lib.hid (lkIn_step HGS.out HIN.out (show sh.length ≤ j by omega) HAT.out)
              go_wp2_with fail
              go_roundw
              case rel => exact ⟨k + 1, by omega, by go_num, HIN2.out, HBE2.out⟩
              case measure => simp [intOf]; omega
        · have HTO2 := Lib.hid (lkTo_step HGX.out HTO.out (show q ≤ k by omega) HIN.out)
          have HBE := Lib.hid hbel
          clear hin hbel
          go_wp2_with fail
          go_roundw
          case rel => exact ⟨i + 1, by omega, by go_num, HTO2.out, HBE.out⟩
          case measure => simp [intOf]; omega
    · have HF := Lib.hid (lkTo_end (by omega) hto)
      clear hbel hto
      go_wp2_with fail
      go_ret3
      exact ⟨HB.out, .inr ⟨rfl, HF.out⟩⟩

theorem cutErr_zero {base : Int} {L : List (List Stp)} {c : List Int} (h : cutErr base L c = 0) : IsCut L c ∧ Valid base L ∧ 0 < L.length ∧ L.length ≤ 4 := by
  rcases cutErr_cases base L c with ⟨_, h1, h2, h3⟩ | h'
  · exact ⟨h3, h2, by unfold BadArg at h1; omega, by unfold BadArg at h1; omega⟩
  · exact absurd h h'

set_option maxHeartbeats 400000 in
theorem rclosed_any (AL AC : Option Addr) (cl cc : Nat) (L : List (List Stp)) (c : List Int) (base : Int) (S : Nat → Prop) (w : World) (hL : Logs w S AL L) (hcp : CapsOk w AL L) (hC : Ints w S AC c) (hS : ∀ b, S b → b < w.heap.size) (hcl : c.length ≤ 17592186044416) (hcap : L.length ≤ cl) :
    Calls Try.prog 26 #[.int .i64 base, .slice AL L.length cl, .slice AC c.length cc] w (ClosedPost base L c w) := by
  go_enter Try.func26, Try.ntmps26
  go_wp2_with fail
  refine (rplace_any AL AC cl cc L c base S w hL hC hS hcl hcap).mono ?_
  rintro e w1 ⟨rfl, hb⟩
  have HB := Lib.hid hb
  have HL1 := Lib.hid (hL.keep (Same.of_below hb hS))
  have HCP1 := Lib.hid (hcp.keep hL (Same.of_below hb hS))
  have HC1 := Lib.hid (hC.keep (Same.of_below hb hS))
  have hz := hb.size
  clear hb
  by_cases he : cutErr base L c = 0
  · have HE := Lib.hid he
    have HCU := Lib.hid (cutErr_zero he)
    rw [he]
    clear he
    go_wp2_with fail
    refine (lacking_any AL AC cl cc L c base S w1 HL1.out HCP1.out HC1.out (fun b hb => by have := hS b hb; omega) HCU.out.1 HCU.out.2.1).mono ?_
    rintro e w2 ⟨hb2, ⟨i, k, rfl, hlk⟩ | ⟨rfl, hcl2⟩⟩
    · have HN := Lib.hid (lacks_closed HCU.out.1 hlk)
      have HB2 := Lib.hid (HB.out.trans (hb2.mono hz))
      clear hb2 hlk
      go_wp2_with fail
      go_ret2
      exact ⟨false, by rw [HE.out]; rfl, fun _ => ⟨fun h => (by cases h), fun h => absurd h HN.out⟩, fun h => rfl, HB2.out⟩
    · have HN := Lib.hid hcl2
      have HB2 := Lib.hid (HB.out.trans (hb2.mono hz))
      clear hb2 hcl2
      go_wp2_with fail
      go_ret2
      exact ⟨true, by rw [HE.out]; rfl, fun _ => ⟨fun _ => HN.out, fun _ => rfl⟩, fun h => absurd HE.out h, HB2.out⟩
  · have hd : (cutErr base L c != 0) = true := by simp [he]
    have HE := Lib.hid he
    clear he
    generalize hce : cutErr base L c = er at hd HE ⊢
    have HCE := Lib.hid hce
    clear hce
    go_wp2
    go_ret2
    exact ⟨false, by rw [HCE.out]; rfl, fun h => absurd (HCE.out.symm.trans h) HE.out, fun _ => rfl, HB.out⟩

set_option maxHeartbeats 800000 in
theorem rclose_any (AL AC : Option Addr) (cl cc : Nat) (L : List (List Stp)) (c : List Int) (base : Int) (S : Nat → Prop) (w : World) (hL : Logs w S AL L) (hcp : CapsOk w AL L) (hC : Ints w S AC c) (hS : ∀ b, S b → b < w.heap.size) (hcl : c.length ≤ 17592186044416) (hcap : L.length ≤ cl) :
    Calls Try.prog 28 #[.int .i64 base, .slice AL L.length cl, .slice AC c.length cc] w (ClosePost base L c w) := by
  go_enter Try.func28, Try.ntmps28
  go_wp2_with fail
  refine (rplace_any AL AC cl cc L c base S w hL hC hS hcl hcap).mono ?_
  rintro e w1 ⟨rfl, hb⟩
  have HB := Lib.hid hb
  have hc1 := hC.keep (Same.of_below hb hS)
  have hz := hb.size
  have HL := Lib.hid hL
  have HCP := Lib.hid hcp
  clear hb hL hcp hC
  by_cases he : cutErr base L c = 0
  · have HE := Lib.hid he
    have HCU := Lib.hid (cutErr_zero he)
    have hc0 : 0 < c.length := by rw [HCU.out.1.1]; exact HCU.out.2.2.1
    have hL4 := HCU.out.2.2.2
    rw [he]
    clear he
    obtain ⟨b, off, rfl, hb, hc⟩ := hc1.2 hc0
    have hlt := hS b hb
    obtain ⟨i0, hi, hz0, hz1, hz2⟩ := info_parts info3
    have hn1 : Below w1.heap.size w1 (w1.alloc (.cells #[] 3)) := (Below.refl _ _).alloc (Nat.le_refl _) _
    have HNEWS := Lib.hid (show ∀ j u, (c.map (Value.int .i64))[j]? = some u → (w1.alloc (.cells #[] 3)).cell? ((⟨b, off, none⟩ : Addr).add j) = some u from fun j u hu => by
      rw [add_none]; exact (hn1.cell (p := ⟨b, off + j, none⟩) (by show b < w1.heap.size; omega)).trans (hc j u hu))
    have HOWN := Lib.hid (show (w1.alloc (.cells #[] 3)).ownsRow w1.heap.size 3 1 (.slice (some ⟨w1.heap.size, 0, none⟩) 0 0) 0 [] from ⟨rfl, .inr ⟨w1.heap.size, 0, #[], rfl, Nat.le_refl _, heap_alloc_new w1 _, Nat.le_refl _, by unfold maxLen; omega, rfl, rfl⟩⟩)
    have HN1 := Lib.hid hn1
    clear hc hc1 hn1
    go_wp2_with (at_builtin; refine wpList_append_lies _ rfl (.tmp 20) (.tmp 21) 34 rfl w1.heap.size 3 i0 _ 1 8 Try.underlying34 hi hz0 hz1 hz2 rfl (by decide) (.slice (some ⟨w1.heap.size, 0, none⟩) 0 0) 0 [] rfl HOWN.out ⟨b, off, none⟩ c.length cc (c.map (Value.int .i64)) rfl (by simp) HNEWS.out (int_one c) hc0 (by unfold maxLen; omega) (by omega) (by simp) (w1.heap.size + 1) (by simp) ?_; intro g cap w2 hown hgrow hat hltg)
    rw [List.nil_append, Nat.zero_add] at hown
    obtain ⟨_, g', cap', e', hbg, hown'⟩ := Own.of_owns hown hc0
    injection e' with e1 e2 e3
    injection e1 with e1
    injection e1 with e1
    subst e1 e3
    have HO := Lib.hid hown'
    have HB2 := Lib.hid ((HN1.out.grown hgrow (by simp) (fun k e => by simp [Value.ownBlock] at e; omega)))
    have HB3 := Lib.hid (HB.out.trans (HB2.out.mono hz))
    clear hown hown' hgrow hat HNEWS HOWN HN1
    have hgw : w.heap.size ≤ g := by omega
    go_loopg [] (total c) (fun gk W => ∃ o : List Int, gk = total o ∧ RCl L c o ∧ Own W g o ∧ o.length = c.length ∧ Below w.heap.size w W)
    case atStart => exact ⟨c, rfl, rcl_start HCU.out.1, HO.out, rfl, HB3.out⟩
    case round =>
      clear HO HB2 HB3
      obtain ⟨o, hgk, hrc, hown, holen, hbel⟩ := hrel
      have HGK := Lib.hid hgk
      have HRC := Lib.hid hrc
      have HO := Lib.hid hown
      have HOL := Lib.hid holen
      have HBE := Lib.hid hbel
      have hsz := hbel.size
      have hgl := hown.lt
      clear hgk hrc hown holen hbel
      go_wp2_with fail
      have hlk := lacking_any AL (some ⟨g, 0, none⟩) cl cap L o base (fun b => b < wr.heap.size) wr ((HL.out.keep (Same.of_below HBE.out hS)).more (fun b hb => by have := hS b hb; omega)) (HCP.out.keep HL.out (Same.of_below HBE.out hS)) (HO.out.ints.more (fun b e => by subst e; exact hgl)) (fun b hb => hb) HRC.out.1 HCU.out.2.1
      rw [HOL.out] at hlk
      refine hlk.mono ?_
      clear hlk
      rintro e w3 ⟨hb3, ⟨i, k, rfl, hlk⟩ | ⟨rfl, hclo⟩⟩
      · have HBE3 := Lib.hid (HBE.out.trans (hb3.mono hsz))
        have hO3 := HO.out.keep (hb3.block g hgl)
        have hio : i < o.length := by rw [HRC.out.1.1]; exact hlk.1
        have c0 := hO3.cell hio
        have f0 := hO3.frozen i
        have HO3 := Lib.hid hO3
        have hii : (i : Int) < c.length := by rw [← HOL.out]; omega
        have HRC2 := Lib.hid (rcl_step HRC.out hlk)
        have HTT := Lib.hid (rcl_total HRC.out hlk)
        clear hb3 hO3 hlk
        generalize o.getD i 0 = oi at c0
        go_wp2_with fail
        go_roundg (total (o.set i (k : Int)))
        case measure => rw [HGK.out]; exact HTT.out
        case rel => exact ⟨_, rfl, HRC2.out, HO3.out.set_ i k, by rw [List.length_set]; exact HOL.out, HBE3.out.setCell (p := ⟨g, i, none⟩) hgw _⟩
      · have HBE3 := Lib.hid (HBE.out.trans (hb3.mono hsz))
        have HO3 := Lib.hid (HO.out.keep (hb3.block g hgl))
        have HCL := Lib.hid (rcl_end HRC.out hclo)
        clear hb3 hclo
        go_wp2_with fail
        go_ret2
        refine ⟨some ⟨g, 0, none⟩, cap, o, by rw [HE.out, HOL.out]; rfl, fun _ => HCL.out, fun h => absurd HE.out h, HO3.out.ints.more (fun b e => by subst e; exact ⟨hgw, HO3.out.lt⟩), HBE3.out⟩
  · have hd : (cutErr base L c != 0) = true := by simp [he]
    have HE := Lib.hid he
    clear he hc1
    generalize hce : cutErr base L c = er at hd HE ⊢
    have HCE := Lib.hid hce
    clear hce
    go_wp2_with fail
    go_ret2
    exact ⟨none, 0, [], by rw [HCE.out]; rfl, fun h => absurd (HCE.out.symm.trans h) HE.out, fun _ => rfl, Reads.none_, HB.out⟩
end Go.Proofs.Ytjpknhhdkjhjfaa
