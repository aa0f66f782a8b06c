/- CutLattice: the walk. For every input the law returns true and writes nothing that was there. -/
import Derived.Test.YtjpknhhdkjhjfaaLat
namespace Go.Proofs.Ytjpknhhdkjhjfaa
open Go.RowKit
set_option linter.unusedVariables false

set_option maxRecDepth 100000 in
set_option maxHeartbeats 4000000 in
theorem lattice_walk (a0 : Option Addr) (len0 cap0 : Nat) (z0 : List Int) (w : World) (w0 : IsRow .u8 w a0 len0 cap0 z0) :
    Calls Try.prog 11 #[.slice a0 len0 cap0] w fun e w' => e = .returned (.bool true) ∧ Below w.heap.size w w' := by
  go_enter Try.func11, Try.ntmps11
  go_wp2_with fail
  refine (new_any a0 len0 cap0 z0 30 w (by omega) w0).mono ?_
  rintro e w1 ⟨g, rfl, hg, hc1, hb1⟩
  have HB1 := Lib.hid hb1
  have HC1 := Lib.hid hc1
  clear hb1 hc1 w0
  go_wp2_with fail
  refine (int_any g 5 w1 (by omega) HC1.out).mono ?_
  rintro e w2 ⟨r, rfl, hr0, hr1, _, hc2, hg2, hs2⟩
  have hr4 : r < 5 := hr1 (by omega)
  obtain ⟨n, rfl⟩ := Int.eq_ofNat_of_zero_le hr0
  have hn : n ≤ 1000 := by omega
  have HC2 := Lib.hid hc2
  have HB2 := Lib.hid (HB1.out.grown hg2 HB1.out.size (fun k e => by injection e with e; omega))
  have hgw2 := hc2.lt
  clear hr1 hc2 hg2 hs2 HC1 HB1
  go_wp2_with fail
  refine (numbers_any g n w2 hn HC2.out).mono ?_
  rintro e w3 ⟨p, rfl, hpl, hpp, hrow3, hc3, hg3⟩
  have HB3 := Lib.hid (HB2.out.grown hg3 HB2.out.size (fun k e => by injection e with e; omega))
  have HC3 := Lib.hid hc3
  have hz3 := hrow3.lt
  have HP := Lib.hid (show Has w3 n (some ⟨w2.heap.size, 0, none⟩) p from ⟨hpl, hpp, hrow3.ints.more (fun b e => by subst e; exact hrow3.lt)⟩)
  have HR3 := Lib.hid hrow3
  have HPL := Lib.hid hpl
  have HPP := Lib.hid hpp
  clear hpl hpp hrow3 hc3 hg3 HC2 HB2
  go_wp2_with fail
  refine (numbers_any g n w3 hn HC3.out).mono ?_
  rintro e w4 ⟨q, rfl, hql, hqp, hrow4, hc4, hg4⟩
  have HB4 := Lib.hid (HB3.out.grown hg4 HB3.out.size (fun k e => by injection e with e; omega))
  have HC4 := Lib.hid hc4
  have hz4 := hrow4.lt
  have HR3b := Lib.hid (HR3.out.keep (w' := w4) (hg4.block _ hz3 (by simp; omega)))
  have HR4 := Lib.hid hrow4
  have HQL := Lib.hid hql
  have HQP := Lib.hid hqp
  clear hql hqp hrow4 hc4 hg4 HC3 HB3 HR3 HP
  go_wp2_with fail
  refine (numbers_any g n w4 hn HC4.out).mono ?_
  rintro e w5 ⟨r, rfl, hrl, hrp, hrow5, hc5, hg5⟩
  have HB5 := Lib.hid (HB4.out.grown hg5 HB4.out.size (fun k e => by injection e with e; omega))
  have hz5 := hrow5.lt
  have h3 := HR3b.out.keep (w' := w5) (hg5.block _ (by omega) (by simp; omega))
  have h4 := HR4.out.keep (w' := w5) (hg5.block _ (by omega) (by simp; omega))
  have HP := Lib.hid (show Has w5 n (some ⟨w2.heap.size, 0, none⟩) p from ⟨HPL.out, HPP.out, h3.ints.more (fun b e => by subst e; exact h3.lt)⟩)
  have HQ := Lib.hid (show Has w5 n (some ⟨w3.heap.size, 0, none⟩) q from ⟨HQL.out, HQP.out, h4.ints.more (fun b e => by subst e; exact h4.lt)⟩)
  have HR := Lib.hid (show Has w5 n (some ⟨w4.heap.size, 0, none⟩) r from ⟨hrl, hrp, hrow5.ints.more (fun b e => by subst e; exact hrow5.lt)⟩)
  have HRL := Lib.hid hrl
  clear h3 h4 hrl hrp hrow5 hc5 hg5 HC4 HB4 HR3b HR4 HPP HQP
  go_wp2_with fail
  refine (join_has hn HP.out HQ.out).mono ?_
  rintro e w6 ⟨AJ, cj, rfl, hj, hb6⟩
  have HB6 := Lib.hid (HB5.out.trans (hb6.mono HB5.out.size))
  have HP6 := Lib.hid (HP.out.keep hb6)
  have HQ6 := Lib.hid (HQ.out.keep hb6)
  have HR6 := Lib.hid (HR.out.keep hb6)
  have HJ6 := Lib.hid hj
  clear hj hb6 HP HQ HR HB5
  go_wp2_with fail
  refine (join_has hn HQ6.out HP6.out).mono ?_
  rintro e w7 ⟨AK, ck, rfl, hj, hb6⟩
  have HB7 := Lib.hid (HB6.out.trans (hb6.mono HB6.out.size))
  have HP7 := Lib.hid (HP6.out.keep hb6)
  have HQ7 := Lib.hid (HQ6.out.keep hb6)
  have HR7 := Lib.hid (HR6.out.keep hb6)
  have HJ7 := Lib.hid (HJ6.out.keep hb6)
  have HK7 := Lib.hid hj
  clear hj hb6 HP6 HQ6 HR6 HJ6 HB6
  go_wp2_with fail
  refine (meet_has hn HP7.out HQ7.out).mono ?_
  rintro e w8 ⟨AM, cm, rfl, hj, hb6⟩
  have HB8 := Lib.hid (HB7.out.trans (hb6.mono HB7.out.size))
  have HP8 := Lib.hid (HP7.out.keep hb6)
  have HQ8 := Lib.hid (HQ7.out.keep hb6)
  have HR8 := Lib.hid (HR7.out.keep hb6)
  have HJ8 := Lib.hid (HJ7.out.keep hb6)
  have HK8 := Lib.hid (HK7.out.keep hb6)
  have HM8 := Lib.hid hj
  clear hj hb6 HP7 HQ7 HR7 HJ7 HK7 HB7
  go_wp2_with fail
  refine (meet_has hn HQ8.out HP8.out).mono ?_
  rintro e w9 ⟨AL, cl, rfl, hj, hb6⟩
  have HB9 := Lib.hid (HB8.out.trans (hb6.mono HB8.out.size))
  have HP9 := Lib.hid (HP8.out.keep hb6)
  have HQ9 := Lib.hid (HQ8.out.keep hb6)
  have HR9 := Lib.hid (HR8.out.keep hb6)
  have HJ9 := Lib.hid (HJ8.out.keep hb6)
  have HK9 := Lib.hid (HK8.out.keep hb6)
  have HM9 := Lib.hid (HM8.out.keep hb6)
  have HL9 := Lib.hid hj
  clear hj hb6 HP8 HQ8 HR8 HJ8 HK8 HM8 HB8
  go_wp2_with fail
  refine (equal_has true hn HJ9.out HK9.out (decide_eq_true (lat_comm max (fun a b => by omega) HPL.out HQL.out))).mono ?_
  rintro e w10 ⟨rfl, hb6⟩
  have HB10 := Lib.hid (HB9.out.trans (hb6.mono HB9.out.size))
  have HP10 := Lib.hid (HP9.out.keep hb6)
  have HQ10 := Lib.hid (HQ9.out.keep hb6)
  have HR10 := Lib.hid (HR9.out.keep hb6)
  have HJ10 := Lib.hid (HJ9.out.keep hb6)
  have HK10 := Lib.hid (HK9.out.keep hb6)
  have HM10 := Lib.hid (HM9.out.keep hb6)
  have HL10 := Lib.hid (HL9.out.keep hb6)
  clear hb6 HB9 HP9 HQ9 HR9 HJ9 HK9 HM9 HL9
  go_wp2_with fail
  refine (equal_has true hn HM10.out HL10.out (decide_eq_true (lat_comm min (fun a b => by omega) HPL.out HQL.out))).mono ?_
  rintro e w11 ⟨rfl, hb6⟩
  have HB11 := Lib.hid (HB10.out.trans (hb6.mono HB10.out.size))
  have HP11 := Lib.hid (HP10.out.keep hb6)
  have HQ11 := Lib.hid (HQ10.out.keep hb6)
  have HR11 := Lib.hid (HR10.out.keep hb6)
  have HJ11 := Lib.hid (HJ10.out.keep hb6)
  have HK11 := Lib.hid (HK10.out.keep hb6)
  have HM11 := Lib.hid (HM10.out.keep hb6)
  have HL11 := Lib.hid (HL10.out.keep hb6)
  clear hb6 HB10 HP10 HQ10 HR10 HJ10 HK10 HM10 HL10
  go_wp2_with fail
  refine (join_has hn HP11.out HM11.out).mono ?_
  rintro e w12 ⟨AA, cAA, rfl, hj, hb6⟩
  have HB12 := Lib.hid (HB11.out.trans (hb6.mono HB11.out.size))
  have HP12 := Lib.hid (HP11.out.keep hb6)
  have HQ12 := Lib.hid (HQ11.out.keep hb6)
  have HR12 := Lib.hid (HR11.out.keep hb6)
  have HJ12 := Lib.hid (HJ11.out.keep hb6)
  have HK12 := Lib.hid (HK11.out.keep hb6)
  have HM12 := Lib.hid (HM11.out.keep hb6)
  have HL12 := Lib.hid (HL11.out.keep hb6)
  have HA12 := Lib.hid hj
  clear hj hb6 HB11 HP11 HQ11 HR11 HJ11 HK11 HM11 HL11
  go_wp2_with fail
  refine (meet_has hn HP12.out HJ12.out).mono ?_
  rintro e w13 ⟨AB, cAB, rfl, hj, hb6⟩
  have HB13 := Lib.hid (HB12.out.trans (hb6.mono HB12.out.size))
  have HP13 := Lib.hid (HP12.out.keep hb6)
  have HQ13 := Lib.hid (HQ12.out.keep hb6)
  have HR13 := Lib.hid (HR12.out.keep hb6)
  have HJ13 := Lib.hid (HJ12.out.keep hb6)
  have HK13 := Lib.hid (HK12.out.keep hb6)
  have HM13 := Lib.hid (HM12.out.keep hb6)
  have HL13 := Lib.hid (HL12.out.keep hb6)
  have HA13 := Lib.hid (HA12.out.keep hb6)
  have HBb13 := Lib.hid hj
  clear hj hb6 HB12 HP12 HQ12 HR12 HJ12 HK12 HM12 HL12 HA12
  go_wp2_with fail
  refine (equal_has true hn HA13.out HP13.out (decide_eq_true (lat_abs1 HPL.out HQL.out))).mono ?_
  rintro e w14 ⟨rfl, hb6⟩
  have HB14 := Lib.hid (HB13.out.trans (hb6.mono HB13.out.size))
  have HP14 := Lib.hid (HP13.out.keep hb6)
  have HQ14 := Lib.hid (HQ13.out.keep hb6)
  have HR14 := Lib.hid (HR13.out.keep hb6)
  have HJ14 := Lib.hid (HJ13.out.keep hb6)
  have HK14 := Lib.hid (HK13.out.keep hb6)
  have HM14 := Lib.hid (HM13.out.keep hb6)
  have HL14 := Lib.hid (HL13.out.keep hb6)
  have HA14 := Lib.hid (HA13.out.keep hb6)
  have HBb14 := Lib.hid (HBb13.out.keep hb6)
  clear hb6 HB13 HP13 HQ13 HR13 HJ13 HK13 HM13 HL13 HA13 HBb13
  go_wp2_with fail
  refine (equal_has true hn HBb14.out HP14.out (decide_eq_true (lat_abs2 HPL.out HQL.out))).mono ?_
  rintro e w15 ⟨rfl, hb6⟩
  have HB15 := Lib.hid (HB14.out.trans (hb6.mono HB14.out.size))
  have HP15 := Lib.hid (HP14.out.keep hb6)
  have HQ15 := Lib.hid (HQ14.out.keep hb6)
  have HR15 := Lib.hid (HR14.out.keep hb6)
  have HJ15 := Lib.hid (HJ14.out.keep hb6)
  have HK15 := Lib.hid (HK14.out.keep hb6)
  have HM15 := Lib.hid (HM14.out.keep hb6)
  have HL15 := Lib.hid (HL14.out.keep hb6)
  have HA15 := Lib.hid (HA14.out.keep hb6)
  have HBb15 := Lib.hid (HBb14.out.keep hb6)
  clear hb6 HB14 HP14 HQ14 HR14 HJ14 HK14 HM14 HL14 HA14 HBb14
  go_wp2_with fail
  refine (under_has true hn HP15.out HJ15.out (lat_le1 HPL.out HQL.out)).mono ?_
  rintro e w16 ⟨rfl, hb6⟩
  have HB16 := Lib.hid (HB15.out.trans (hb6.mono HB15.out.size))
  have HP16 := Lib.hid (HP15.out.keep hb6)
  have HQ16 := Lib.hid (HQ15.out.keep hb6)
  have HR16 := Lib.hid (HR15.out.keep hb6)
  have HJ16 := Lib.hid (HJ15.out.keep hb6)
  have HK16 := Lib.hid (HK15.out.keep hb6)
  have HM16 := Lib.hid (HM15.out.keep hb6)
  have HL16 := Lib.hid (HL15.out.keep hb6)
  have HA16 := Lib.hid (HA15.out.keep hb6)
  have HBb16 := Lib.hid (HBb15.out.keep hb6)
  clear hb6 HB15 HP15 HQ15 HR15 HJ15 HK15 HM15 HL15 HA15 HBb15
  go_wp2_with fail
  refine (under_has true hn HQ16.out HJ16.out (lat_le2 HPL.out HQL.out)).mono ?_
  rintro e w17 ⟨rfl, hb6⟩
  have HB17 := Lib.hid (HB16.out.trans (hb6.mono HB16.out.size))
  have HP17 := Lib.hid (HP16.out.keep hb6)
  have HQ17 := Lib.hid (HQ16.out.keep hb6)
  have HR17 := Lib.hid (HR16.out.keep hb6)
  have HJ17 := Lib.hid (HJ16.out.keep hb6)
  have HK17 := Lib.hid (HK16.out.keep hb6)
  have HM17 := Lib.hid (HM16.out.keep hb6)
  have HL17 := Lib.hid (HL16.out.keep hb6)
  have HA17 := Lib.hid (HA16.out.keep hb6)
  have HBb17 := Lib.hid (HBb16.out.keep hb6)
  clear hb6 HB16 HP16 HQ16 HR16 HJ16 HK16 HM16 HL16 HA16 HBb16
  go_wp2_with fail
  refine (under_has true hn HM17.out HP17.out (lat_le3 HPL.out HQL.out)).mono ?_
  rintro e w18 ⟨rfl, hb6⟩
  have HB18 := Lib.hid (HB17.out.trans (hb6.mono HB17.out.size))
  have HP18 := Lib.hid (HP17.out.keep hb6)
  have HQ18 := Lib.hid (HQ17.out.keep hb6)
  have HR18 := Lib.hid (HR17.out.keep hb6)
  have HJ18 := Lib.hid (HJ17.out.keep hb6)
  have HK18 := Lib.hid (HK17.out.keep hb6)
  have HM18 := Lib.hid (HM17.out.keep hb6)
  have HL18 := Lib.hid (HL17.out.keep hb6)
  have HA18 := Lib.hid (HA17.out.keep hb6)
  have HBb18 := Lib.hid (HBb17.out.keep hb6)
  clear hb6 HB17 HP17 HQ17 HR17 HJ17 HK17 HM17 HL17 HA17 HBb17
  go_wp2_with fail
  refine (under_has true hn HM18.out HQ18.out (lat_le4 HPL.out HQL.out)).mono ?_
  rintro e w19 ⟨rfl, hb6⟩
  have HB19 := Lib.hid (HB18.out.trans (hb6.mono HB18.out.size))
  have HP19 := Lib.hid (HP18.out.keep hb6)
  have HQ19 := Lib.hid (HQ18.out.keep hb6)
  have HR19 := Lib.hid (HR18.out.keep hb6)
  have HJ19 := Lib.hid (HJ18.out.keep hb6)
  have HK19 := Lib.hid (HK18.out.keep hb6)
  have HM19 := Lib.hid (HM18.out.keep hb6)
  have HL19 := Lib.hid (HL18.out.keep hb6)
  have HA19 := Lib.hid (HA18.out.keep hb6)
  have HBb19 := Lib.hid (HBb18.out.keep hb6)
  clear hb6 HB18 HP18 HQ18 HR18 HJ18 HK18 HM18 HL18 HA18 HBb18
  have HLUB := Lib.hid (lat_lub (r := r) HPL.out HQL.out)
  have HGLB := Lib.hid (lat_glb (r := r) HPL.out HQL.out HRL.out)
  have HJN := Lib.hid (lat_join HPL.out HQL.out)
  generalize hx1 : leB p r = x1 at HLUB
  generalize hx2 : leB q r = x2 at HLUB
  have HX1 := Lib.hid hx1
  have HX2 := Lib.hid hx2
  generalize hy1 : leB r p = y1 at HGLB
  generalize hy2 : leB r q = y2 at HGLB
  have HY1 := Lib.hid hy1
  have HY2 := Lib.hid hy2
  generalize hz1 : leB p q = z1 at HJN
  have HZ1 := Lib.hid hz1
  clear hx1 hx2 hy1 hy2 hz1
  cases x1
  · go_wp2_with fail
    refine (under_has false hn HJ19.out HR19.out (HLUB.out)).mono ?_
    rintro e w20 ⟨rfl, hb6⟩
    have HB20 := Lib.hid (HB19.out.trans (hb6.mono HB19.out.size))
    have HP20 := Lib.hid (HP19.out.keep hb6)
    have HQ20 := Lib.hid (HQ19.out.keep hb6)
    have HR20 := Lib.hid (HR19.out.keep hb6)
    have HJ20 := Lib.hid (HJ19.out.keep hb6)
    have HK20 := Lib.hid (HK19.out.keep hb6)
    have HM20 := Lib.hid (HM19.out.keep hb6)
    have HL20 := Lib.hid (HL19.out.keep hb6)
    have HA20 := Lib.hid (HA19.out.keep hb6)
    have HBb20 := Lib.hid (HBb19.out.keep hb6)
    clear hb6 HB19 HP19 HQ19 HR19 HJ19 HK19 HM19 HL19 HA19 HBb19
    go_wp2_with fail
    refine (under_has false hn HP20.out HR20.out (HX1.out)).mono ?_
    rintro e w21 ⟨rfl, hb6⟩
    have HB21 := Lib.hid (HB20.out.trans (hb6.mono HB20.out.size))
    have HP21 := Lib.hid (HP20.out.keep hb6)
    have HQ21 := Lib.hid (HQ20.out.keep hb6)
    have HR21 := Lib.hid (HR20.out.keep hb6)
    have HJ21 := Lib.hid (HJ20.out.keep hb6)
    have HK21 := Lib.hid (HK20.out.keep hb6)
    have HM21 := Lib.hid (HM20.out.keep hb6)
    have HL21 := Lib.hid (HL20.out.keep hb6)
    have HA21 := Lib.hid (HA20.out.keep hb6)
    have HBb21 := Lib.hid (HBb20.out.keep hb6)
    clear hb6 HB20 HP20 HQ20 HR20 HJ20 HK20 HM20 HL20 HA20 HBb20
    go_wp2_with fail
    cases y1
    · skip
      refine (under_has false hn HR21.out HM21.out (HGLB.out)).mono ?_
      rintro e w22 ⟨rfl, hb6⟩
      have HB22 := Lib.hid (HB21.out.trans (hb6.mono HB21.out.size))
      have HP22 := Lib.hid (HP21.out.keep hb6)
      have HQ22 := Lib.hid (HQ21.out.keep hb6)
      have HR22 := Lib.hid (HR21.out.keep hb6)
      have HJ22 := Lib.hid (HJ21.out.keep hb6)
      have HK22 := Lib.hid (HK21.out.keep hb6)
      have HM22 := Lib.hid (HM21.out.keep hb6)
      have HL22 := Lib.hid (HL21.out.keep hb6)
      have HA22 := Lib.hid (HA21.out.keep hb6)
      have HBb22 := Lib.hid (HBb21.out.keep hb6)
      clear hb6 HB21 HP21 HQ21 HR21 HJ21 HK21 HM21 HL21 HA21 HBb21
      go_wp2_with fail
      refine (under_has false hn HR22.out HP22.out (HY1.out)).mono ?_
      rintro e w23 ⟨rfl, hb6⟩
      have HB23 := Lib.hid (HB22.out.trans (hb6.mono HB22.out.size))
      have HP23 := Lib.hid (HP22.out.keep hb6)
      have HQ23 := Lib.hid (HQ22.out.keep hb6)
      have HR23 := Lib.hid (HR22.out.keep hb6)
      have HJ23 := Lib.hid (HJ22.out.keep hb6)
      have HK23 := Lib.hid (HK22.out.keep hb6)
      have HM23 := Lib.hid (HM22.out.keep hb6)
      have HL23 := Lib.hid (HL22.out.keep hb6)
      have HA23 := Lib.hid (HA22.out.keep hb6)
      have HBb23 := Lib.hid (HBb22.out.keep hb6)
      clear hb6 HB22 HP22 HQ22 HR22 HJ22 HK22 HM22 HL22 HA22 HBb22
      go_wp2_with fail
      refine (under_has z1 hn HP23.out HQ23.out (HZ1.out)).mono ?_
      rintro e w24 ⟨rfl, hb6⟩
      have HB24 := Lib.hid (HB23.out.trans (hb6.mono HB23.out.size))
      have HP24 := Lib.hid (HP23.out.keep hb6)
      have HQ24 := Lib.hid (HQ23.out.keep hb6)
      have HR24 := Lib.hid (HR23.out.keep hb6)
      have HJ24 := Lib.hid (HJ23.out.keep hb6)
      have HK24 := Lib.hid (HK23.out.keep hb6)
      have HM24 := Lib.hid (HM23.out.keep hb6)
      have HL24 := Lib.hid (HL23.out.keep hb6)
      have HA24 := Lib.hid (HA23.out.keep hb6)
      have HBb24 := Lib.hid (HBb23.out.keep hb6)
      clear hb6 HB23 HP23 HQ23 HR23 HJ23 HK23 HM23 HL23 HA23 HBb23
      go_wp2_with fail
      refine (equal_has z1 hn HJ24.out HQ24.out (HJN.out.symm)).mono ?_
      rintro e w25 ⟨rfl, hb6⟩
      have HB25 := Lib.hid (HB24.out.trans (hb6.mono HB24.out.size))
      have HP25 := Lib.hid (HP24.out.keep hb6)
      have HQ25 := Lib.hid (HQ24.out.keep hb6)
      have HR25 := Lib.hid (HR24.out.keep hb6)
      have HJ25 := Lib.hid (HJ24.out.keep hb6)
      have HK25 := Lib.hid (HK24.out.keep hb6)
      have HM25 := Lib.hid (HM24.out.keep hb6)
      have HL25 := Lib.hid (HL24.out.keep hb6)
      have HA25 := Lib.hid (HA24.out.keep hb6)
      have HBb25 := Lib.hid (HBb24.out.keep hb6)
      clear hb6 HB24 HP24 HQ24 HR24 HJ24 HK24 HM24 HL24 HA24 HBb24
      go_wp2_with fail
      refine (begun_any _).mono ?_
      rintro e w26 ⟨rfl, hb6⟩
      have HB26 := Lib.hid (HB25.out.trans (hb6.mono HB25.out.size))
      clear hb6
      go_wp2_with fail
      go_ret
      exact ⟨rfl, HB26.out⟩
    · skip
      refine (under_has y2 hn HR21.out HM21.out (HGLB.out)).mono ?_
      rintro e w22 ⟨rfl, hb6⟩
      have HB22 := Lib.hid (HB21.out.trans (hb6.mono HB21.out.size))
      have HP22 := Lib.hid (HP21.out.keep hb6)
      have HQ22 := Lib.hid (HQ21.out.keep hb6)
      have HR22 := Lib.hid (HR21.out.keep hb6)
      have HJ22 := Lib.hid (HJ21.out.keep hb6)
      have HK22 := Lib.hid (HK21.out.keep hb6)
      have HM22 := Lib.hid (HM21.out.keep hb6)
      have HL22 := Lib.hid (HL21.out.keep hb6)
      have HA22 := Lib.hid (HA21.out.keep hb6)
      have HBb22 := Lib.hid (HBb21.out.keep hb6)
      clear hb6 HB21 HP21 HQ21 HR21 HJ21 HK21 HM21 HL21 HA21 HBb21
      go_wp2_with fail
      refine (under_has true hn HR22.out HP22.out (HY1.out)).mono ?_
      rintro e w23 ⟨rfl, hb6⟩
      have HB23 := Lib.hid (HB22.out.trans (hb6.mono HB22.out.size))
      have HP23 := Lib.hid (HP22.out.keep hb6)
      have HQ23 := Lib.hid (HQ22.out.keep hb6)
      have HR23 := Lib.hid (HR22.out.keep hb6)
      have HJ23 := Lib.hid (HJ22.out.keep hb6)
      have HK23 := Lib.hid (HK22.out.keep hb6)
      have HM23 := Lib.hid (HM22.out.keep hb6)
      have HL23 := Lib.hid (HL22.out.keep hb6)
      have HA23 := Lib.hid (HA22.out.keep hb6)
      have HBb23 := Lib.hid (HBb22.out.keep hb6)
      clear hb6 HB22 HP22 HQ22 HR22 HJ22 HK22 HM22 HL22 HA22 HBb22
      go_wp2_with fail
      refine (under_has y2 hn HR23.out HQ23.out (HY2.out)).mono ?_
      rintro e w24 ⟨rfl, hb6⟩
      have HB24 := Lib.hid (HB23.out.trans (hb6.mono HB23.out.size))
      have HP24 := Lib.hid (HP23.out.keep hb6)
      have HQ24 := Lib.hid (HQ23.out.keep hb6)
      have HR24 := Lib.hid (HR23.out.keep hb6)
      have HJ24 := Lib.hid (HJ23.out.keep hb6)
      have HK24 := Lib.hid (HK23.out.keep hb6)
      have HM24 := Lib.hid (HM23.out.keep hb6)
      have HL24 := Lib.hid (HL23.out.keep hb6)
      have HA24 := Lib.hid (HA23.out.keep hb6)
      have HBb24 := Lib.hid (HBb23.out.keep hb6)
      clear hb6 HB23 HP23 HQ23 HR23 HJ23 HK23 HM23 HL23 HA23 HBb23
      go_wp2_with fail
      refine (under_has z1 hn HP24.out HQ24.out (HZ1.out)).mono ?_
      rintro e w25 ⟨rfl, hb6⟩
      have HB25 := Lib.hid (HB24.out.trans (hb6.mono HB24.out.size))
      have HP25 := Lib.hid (HP24.out.keep hb6)
      have HQ25 := Lib.hid (HQ24.out.keep hb6)
      have HR25 := Lib.hid (HR24.out.keep hb6)
      have HJ25 := Lib.hid (HJ24.out.keep hb6)
      have HK25 := Lib.hid (HK24.out.keep hb6)
      have HM25 := Lib.hid (HM24.out.keep hb6)
      have HL25 := Lib.hid (HL24.out.keep hb6)
      have HA25 := Lib.hid (HA24.out.keep hb6)
      have HBb25 := Lib.hid (HBb24.out.keep hb6)
      clear hb6 HB24 HP24 HQ24 HR24 HJ24 HK24 HM24 HL24 HA24 HBb24
      go_wp2_with fail
      refine (equal_has z1 hn HJ25.out HQ25.out (HJN.out.symm)).mono ?_
      rintro e w26 ⟨rfl, hb6⟩
      have HB26 := Lib.hid (HB25.out.trans (hb6.mono HB25.out.size))
      have HP26 := Lib.hid (HP25.out.keep hb6)
      have HQ26 := Lib.hid (HQ25.out.keep hb6)
      have HR26 := Lib.hid (HR25.out.keep hb6)
      have HJ26 := Lib.hid (HJ25.out.keep hb6)
      have HK26 := Lib.hid (HK25.out.keep hb6)
      have HM26 := Lib.hid (HM25.out.keep hb6)
      have HL26 := Lib.hid (HL25.out.keep hb6)
      have HA26 := Lib.hid (HA25.out.keep hb6)
      have HBb26 := Lib.hid (HBb25.out.keep hb6)
      clear hb6 HB25 HP25 HQ25 HR25 HJ25 HK25 HM25 HL25 HA25 HBb25
      go_wp2_with fail
      refine (begun_any _).mono ?_
      rintro e w27 ⟨rfl, hb6⟩
      have HB27 := Lib.hid (HB26.out.trans (hb6.mono HB26.out.size))
      clear hb6
      go_wp2_with fail
      go_ret
      exact ⟨rfl, HB27.out⟩
  · go_wp2_with fail
    refine (under_has x2 hn HJ19.out HR19.out (HLUB.out)).mono ?_
    rintro e w20 ⟨rfl, hb6⟩
    have HB20 := Lib.hid (HB19.out.trans (hb6.mono HB19.out.size))
    have HP20 := Lib.hid (HP19.out.keep hb6)
    have HQ20 := Lib.hid (HQ19.out.keep hb6)
    have HR20 := Lib.hid (HR19.out.keep hb6)
    have HJ20 := Lib.hid (HJ19.out.keep hb6)
    have HK20 := Lib.hid (HK19.out.keep hb6)
    have HM20 := Lib.hid (HM19.out.keep hb6)
    have HL20 := Lib.hid (HL19.out.keep hb6)
    have HA20 := Lib.hid (HA19.out.keep hb6)
    have HBb20 := Lib.hid (HBb19.out.keep hb6)
    clear hb6 HB19 HP19 HQ19 HR19 HJ19 HK19 HM19 HL19 HA19 HBb19
    go_wp2_with fail
    refine (under_has true hn HP20.out HR20.out (HX1.out)).mono ?_
    rintro e w21 ⟨rfl, hb6⟩
    have HB21 := Lib.hid (HB20.out.trans (hb6.mono HB20.out.size))
    have HP21 := Lib.hid (HP20.out.keep hb6)
    have HQ21 := Lib.hid (HQ20.out.keep hb6)
    have HR21 := Lib.hid (HR20.out.keep hb6)
    have HJ21 := Lib.hid (HJ20.out.keep hb6)
    have HK21 := Lib.hid (HK20.out.keep hb6)
    have HM21 := Lib.hid (HM20.out.keep hb6)
    have HL21 := Lib.hid (HL20.out.keep hb6)
    have HA21 := Lib.hid (HA20.out.keep hb6)
    have HBb21 := Lib.hid (HBb20.out.keep hb6)
    clear hb6 HB20 HP20 HQ20 HR20 HJ20 HK20 HM20 HL20 HA20 HBb20
    go_wp2_with fail
    refine (under_has x2 hn HQ21.out HR21.out (HX2.out)).mono ?_
    rintro e w22 ⟨rfl, hb6⟩
    have HB22 := Lib.hid (HB21.out.trans (hb6.mono HB21.out.size))
    have HP22 := Lib.hid (HP21.out.keep hb6)
    have HQ22 := Lib.hid (HQ21.out.keep hb6)
    have HR22 := Lib.hid (HR21.out.keep hb6)
    have HJ22 := Lib.hid (HJ21.out.keep hb6)
    have HK22 := Lib.hid (HK21.out.keep hb6)
    have HM22 := Lib.hid (HM21.out.keep hb6)
    have HL22 := Lib.hid (HL21.out.keep hb6)
    have HA22 := Lib.hid (HA21.out.keep hb6)
    have HBb22 := Lib.hid (HBb21.out.keep hb6)
    clear hb6 HB21 HP21 HQ21 HR21 HJ21 HK21 HM21 HL21 HA21 HBb21
    go_wp2_with fail
    cases y1
    · skip
      refine (under_has false hn HR22.out HM22.out (HGLB.out)).mono ?_
      rintro e w23 ⟨rfl, hb6⟩
      have HB23 := Lib.hid (HB22.out.trans (hb6.mono HB22.out.size))
      have HP23 := Lib.hid (HP22.out.keep hb6)
      have HQ23 := Lib.hid (HQ22.out.keep hb6)
      have HR23 := Lib.hid (HR22.out.keep hb6)
      have HJ23 := Lib.hid (HJ22.out.keep hb6)
      have HK23 := Lib.hid (HK22.out.keep hb6)
      have HM23 := Lib.hid (HM22.out.keep hb6)
      have HL23 := Lib.hid (HL22.out.keep hb6)
      have HA23 := Lib.hid (HA22.out.keep hb6)
      have HBb23 := Lib.hid (HBb22.out.keep hb6)
      clear hb6 HB22 HP22 HQ22 HR22 HJ22 HK22 HM22 HL22 HA22 HBb22
      go_wp2_with fail
      refine (under_has false hn HR23.out HP23.out (HY1.out)).mono ?_
      rintro e w24 ⟨rfl, hb6⟩
      have HB24 := Lib.hid (HB23.out.trans (hb6.mono HB23.out.size))
      have HP24 := Lib.hid (HP23.out.keep hb6)
      have HQ24 := Lib.hid (HQ23.out.keep hb6)
      have HR24 := Lib.hid (HR23.out.keep hb6)
      have HJ24 := Lib.hid (HJ23.out.keep hb6)
      have HK24 := Lib.hid (HK23.out.keep hb6)
      have HM24 := Lib.hid (HM23.out.keep hb6)
      have HL24 := Lib.hid (HL23.out.keep hb6)
      have HA24 := Lib.hid (HA23.out.keep hb6)
      have HBb24 := Lib.hid (HBb23.out.keep hb6)
      clear hb6 HB23 HP23 HQ23 HR23 HJ23 HK23 HM23 HL23 HA23 HBb23
      go_wp2_with fail
      refine (under_has z1 hn HP24.out HQ24.out (HZ1.out)).mono ?_
      rintro e w25 ⟨rfl, hb6⟩
      have HB25 := Lib.hid (HB24.out.trans (hb6.mono HB24.out.size))
      have HP25 := Lib.hid (HP24.out.keep hb6)
      have HQ25 := Lib.hid (HQ24.out.keep hb6)
      have HR25 := Lib.hid (HR24.out.keep hb6)
      have HJ25 := Lib.hid (HJ24.out.keep hb6)
      have HK25 := Lib.hid (HK24.out.keep hb6)
      have HM25 := Lib.hid (HM24.out.keep hb6)
      have HL25 := Lib.hid (HL24.out.keep hb6)
      have HA25 := Lib.hid (HA24.out.keep hb6)
      have HBb25 := Lib.hid (HBb24.out.keep hb6)
      clear hb6 HB24 HP24 HQ24 HR24 HJ24 HK24 HM24 HL24 HA24 HBb24
      go_wp2_with fail
      refine (equal_has z1 hn HJ25.out HQ25.out (HJN.out.symm)).mono ?_
      rintro e w26 ⟨rfl, hb6⟩
      have HB26 := Lib.hid (HB25.out.trans (hb6.mono HB25.out.size))
      have HP26 := Lib.hid (HP25.out.keep hb6)
      have HQ26 := Lib.hid (HQ25.out.keep hb6)
      have HR26 := Lib.hid (HR25.out.keep hb6)
      have HJ26 := Lib.hid (HJ25.out.keep hb6)
      have HK26 := Lib.hid (HK25.out.keep hb6)
      have HM26 := Lib.hid (HM25.out.keep hb6)
      have HL26 := Lib.hid (HL25.out.keep hb6)
      have HA26 := Lib.hid (HA25.out.keep hb6)
      have HBb26 := Lib.hid (HBb25.out.keep hb6)
      clear hb6 HB25 HP25 HQ25 HR25 HJ25 HK25 HM25 HL25 HA25 HBb25
      go_wp2_with fail
      refine (begun_any _).mono ?_
      rintro e w27 ⟨rfl, hb6⟩
      have HB27 := Lib.hid (HB26.out.trans (hb6.mono HB26.out.size))
      clear hb6
      go_wp2_with fail
      go_ret
      exact ⟨rfl, HB27.out⟩
    · skip
      refine (under_has y2 hn HR22.out HM22.out (HGLB.out)).mono ?_
      rintro e w23 ⟨rfl, hb6⟩
      have HB23 := Lib.hid (HB22.out.trans (hb6.mono HB22.out.size))
      have HP23 := Lib.hid (HP22.out.keep hb6)
      have HQ23 := Lib.hid (HQ22.out.keep hb6)
      have HR23 := Lib.hid (HR22.out.keep hb6)
      have HJ23 := Lib.hid (HJ22.out.keep hb6)
      have HK23 := Lib.hid (HK22.out.keep hb6)
      have HM23 := Lib.hid (HM22.out.keep hb6)
      have HL23 := Lib.hid (HL22.out.keep hb6)
      have HA23 := Lib.hid (HA22.out.keep hb6)
      have HBb23 := Lib.hid (HBb22.out.keep hb6)
      clear hb6 HB22 HP22 HQ22 HR22 HJ22 HK22 HM22 HL22 HA22 HBb22
      go_wp2_with fail
      refine (under_has true hn HR23.out HP23.out (HY1.out)).mono ?_
      rintro e w24 ⟨rfl, hb6⟩
      have HB24 := Lib.hid (HB23.out.trans (hb6.mono HB23.out.size))
      have HP24 := Lib.hid (HP23.out.keep hb6)
      have HQ24 := Lib.hid (HQ23.out.keep hb6)
      have HR24 := Lib.hid (HR23.out.keep hb6)
      have HJ24 := Lib.hid (HJ23.out.keep hb6)
      have HK24 := Lib.hid (HK23.out.keep hb6)
      have HM24 := Lib.hid (HM23.out.keep hb6)
      have HL24 := Lib.hid (HL23.out.keep hb6)
      have HA24 := Lib.hid (HA23.out.keep hb6)
      have HBb24 := Lib.hid (HBb23.out.keep hb6)
      clear hb6 HB23 HP23 HQ23 HR23 HJ23 HK23 HM23 HL23 HA23 HBb23
      go_wp2_with fail
      refine (under_has y2 hn HR24.out HQ24.out (HY2.out)).mono ?_
      rintro e w25 ⟨rfl, hb6⟩
      have HB25 := Lib.hid (HB24.out.trans (hb6.mono HB24.out.size))
      have HP25 := Lib.hid (HP24.out.keep hb6)
      have HQ25 := Lib.hid (HQ24.out.keep hb6)
      have HR25 := Lib.hid (HR24.out.keep hb6)
      have HJ25 := Lib.hid (HJ24.out.keep hb6)
      have HK25 := Lib.hid (HK24.out.keep hb6)
      have HM25 := Lib.hid (HM24.out.keep hb6)
      have HL25 := Lib.hid (HL24.out.keep hb6)
      have HA25 := Lib.hid (HA24.out.keep hb6)
      have HBb25 := Lib.hid (HBb24.out.keep hb6)
      clear hb6 HB24 HP24 HQ24 HR24 HJ24 HK24 HM24 HL24 HA24 HBb24
      go_wp2_with fail
      refine (under_has z1 hn HP25.out HQ25.out (HZ1.out)).mono ?_
      rintro e w26 ⟨rfl, hb6⟩
      have HB26 := Lib.hid (HB25.out.trans (hb6.mono HB25.out.size))
      have HP26 := Lib.hid (HP25.out.keep hb6)
      have HQ26 := Lib.hid (HQ25.out.keep hb6)
      have HR26 := Lib.hid (HR25.out.keep hb6)
      have HJ26 := Lib.hid (HJ25.out.keep hb6)
      have HK26 := Lib.hid (HK25.out.keep hb6)
      have HM26 := Lib.hid (HM25.out.keep hb6)
      have HL26 := Lib.hid (HL25.out.keep hb6)
      have HA26 := Lib.hid (HA25.out.keep hb6)
      have HBb26 := Lib.hid (HBb25.out.keep hb6)
      clear hb6 HB25 HP25 HQ25 HR25 HJ25 HK25 HM25 HL25 HA25 HBb25
      go_wp2_with fail
      refine (equal_has z1 hn HJ26.out HQ26.out (HJN.out.symm)).mono ?_
      rintro e w27 ⟨rfl, hb6⟩
      have HB27 := Lib.hid (HB26.out.trans (hb6.mono HB26.out.size))
      have HP27 := Lib.hid (HP26.out.keep hb6)
      have HQ27 := Lib.hid (HQ26.out.keep hb6)
      have HR27 := Lib.hid (HR26.out.keep hb6)
      have HJ27 := Lib.hid (HJ26.out.keep hb6)
      have HK27 := Lib.hid (HK26.out.keep hb6)
      have HM27 := Lib.hid (HM26.out.keep hb6)
      have HL27 := Lib.hid (HL26.out.keep hb6)
      have HA27 := Lib.hid (HA26.out.keep hb6)
      have HBb27 := Lib.hid (HBb26.out.keep hb6)
      clear hb6 HB26 HP26 HQ26 HR26 HJ26 HK26 HM26 HL26 HA26 HBb26
      go_wp2_with fail
      refine (begun_any _).mono ?_
      rintro e w28 ⟨rfl, hb6⟩
      have HB28 := Lib.hid (HB27.out.trans (hb6.mono HB27.out.size))
      clear hb6
      go_wp2_with fail
      go_ret
      exact ⟨rfl, HB28.out⟩
end Go.Proofs.Ytjpknhhdkjhjfaa
