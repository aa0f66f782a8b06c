/- CutJoins: the walk. -/
import Derived.Test.YtjpknhhdkjhjfaaFront
import Derived.Test.YtjpknhhdkjhjfaaLogs
namespace Go.Proofs.Ytjpknhhdkjhjfaa
open Go.RowKit
set_option linter.unusedVariables false

set_option maxRecDepth 100000 in
set_option maxHeartbeats 4000000 in
theorem joins_walk (a0 : Option Addr) (len0 cap0 : Nat) (z0 : List Int) (w : World) (w0 : IsRow .u8 w a0 len0 cap0 z0) :
    Calls Try.prog 8 #[.slice a0 len0 cap0] w fun e w' => e = .returned (.bool true) ∧ Below w.heap.size w w' := by
  go_enter Try.func8, Try.ntmps8
  go_wp2_with fail
  refine (new_any a0 len0 cap0 z0 90 w (by omega) w0).mono ?_
  rintro e w1 ⟨g, rfl, hg, hc1, hb1⟩
  have HB1 := Lib.hid hb1
  have HC1 := Lib.hid hc1
  have hgl := hc1.lt
  clear hb1 hc1 w0
  go_wp2_with fail
  refine (logs_any g w1 HC1.out).mono ?_
  rintro e w2 ⟨base, H, L, vs, rfl, hb0, hb1, hm1, hm4, hll, hval, hmem, hcs, hgr⟩
  have HS2 := Lib.hid (lst_of HB1.out hg hgl hb0 hb1 hm1 hm4 hll hval hmem hcs hgr)
  have HVAL := Lib.hid hval
  clear hll hval hmem hcs hgr HB1 HC1
  go_wp2_with fail
  refine (cut_l HS2.out).mono ?_
  rintro e w3 ⟨xX, rfl, hh, hst, hgr⟩
  have HS3 := Lib.hid hst
  have HX3 := Lib.hid hh
  clear hh hst hgr HS2 
  go_wp2_with fail
  refine (close_l HS3.out HX3.out).mono ?_
  rintro e w4 ⟨AP, cP, xP, rfl, hcl, hh, hb6⟩
  have HCLP := Lib.hid hcl
  have HS4 := Lib.hid (HS3.out.keep hb6)
  have HX4 := Lib.hid (HX3.out.keep hb6)
  have HP4 := Lib.hid hh
  clear hh hcl
  clear hb6 HS3 HX3
  go_wp2_with fail
  refine (cut_l HS4.out).mono ?_
  rintro e w5 ⟨xY, rfl, hh, hst, hgr⟩
  have HS5 := Lib.hid hst
  have HX5 := Lib.hid (HX4.out.keepG hgr)
  have HP5 := Lib.hid (HP4.out.keepG hgr)
  have HY5 := Lib.hid hh
  clear hh hst hgr HS4 HX4 HP4
  go_wp2_with fail
  refine (close_l HS5.out HY5.out).mono ?_
  rintro e w6 ⟨AQ, cQ, xQ, rfl, hcl, hh, hb6⟩
  have HCLQ := Lib.hid hcl
  have HS6 := Lib.hid (HS5.out.keep hb6)
  have HX6 := Lib.hid (HX5.out.keep hb6)
  have HP6 := Lib.hid (HP5.out.keep hb6)
  have HY6 := Lib.hid (HY5.out.keep hb6)
  have HQ6 := Lib.hid hh
  clear hh hcl
  clear hb6 HS5 HX5 HP5 HY5
  go_wp2_with fail
  refine (join_l HS6.out HP6.out HQ6.out).mono ?_
  rintro e w7 ⟨AJ, cJ, rfl, hh, hb6⟩
  have HS7 := Lib.hid (HS6.out.keep hb6)
  have HX7 := Lib.hid (HX6.out.keep hb6)
  have HP7 := Lib.hid (HP6.out.keep hb6)
  have HY7 := Lib.hid (HY6.out.keep hb6)
  have HQ7 := Lib.hid (HQ6.out.keep hb6)
  have HJ7 := Lib.hid hh
  clear hh
  clear hb6 HS6 HX6 HP6 HY6 HQ6
  go_wp2_with fail
  refine (meet_l HS7.out HP7.out HQ7.out).mono ?_
  rintro e w8 ⟨AM, cM, rfl, hh, hb6⟩
  have HS8 := Lib.hid (HS7.out.keep hb6)
  have HX8 := Lib.hid (HX7.out.keep hb6)
  have HP8 := Lib.hid (HP7.out.keep hb6)
  have HY8 := Lib.hid (HY7.out.keep hb6)
  have HQ8 := Lib.hid (HQ7.out.keep hb6)
  have HJ8 := Lib.hid (HJ7.out.keep hb6)
  have HM8 := Lib.hid hh
  clear hh
  clear hb6 HS7 HX7 HP7 HY7 HQ7 HJ7
  go_wp2_with fail
  refine (closed_l true HS8.out HJ8.out (by simp only [true_iff]; exact closed_max HVAL.out HCLP.out.1 HCLQ.out.1 HCLP.out.2.2.1 HCLQ.out.2.2.1)).mono ?_
  rintro e w9 ⟨rfl, hb6⟩
  have HS9 := Lib.hid (HS8.out.keep hb6)
  have HX9 := Lib.hid (HX8.out.keep hb6)
  have HP9 := Lib.hid (HP8.out.keep hb6)
  have HY9 := Lib.hid (HY8.out.keep hb6)
  have HQ9 := Lib.hid (HQ8.out.keep hb6)
  have HJ9 := Lib.hid (HJ8.out.keep hb6)
  have HM9 := Lib.hid (HM8.out.keep hb6)
  clear hb6 HS8 HX8 HP8 HY8 HQ8 HJ8 HM8
  go_wp2_with fail
  refine (closed_l true HS9.out HM9.out (by simp only [true_iff]; exact closed_min HVAL.out HCLP.out.1 HCLQ.out.1 HCLP.out.2.2.1 HCLQ.out.2.2.1)).mono ?_
  rintro e w10 ⟨rfl, hb6⟩
  have HS10 := Lib.hid (HS9.out.keep hb6)
  have HX10 := Lib.hid (HX9.out.keep hb6)
  have HP10 := Lib.hid (HP9.out.keep hb6)
  have HY10 := Lib.hid (HY9.out.keep hb6)
  have HQ10 := Lib.hid (HQ9.out.keep hb6)
  have HJ10 := Lib.hid (HJ9.out.keep hb6)
  have HM10 := Lib.hid (HM9.out.keep hb6)
  clear hb6 HS9 HX9 HP9 HY9 HQ9 HJ9 HM9
  go_wp2_with fail
  refine (begun_any _).mono ?_
  rintro e w11 ⟨rfl, hb6⟩
  have HBZ := Lib.hid (HS10.out.keep hb6).bel
  clear hb6
  go_wp2_with fail
  go_ret
  exact ⟨rfl, HBZ.out⟩
end Go.Proofs.Ytjpknhhdkjhjfaa
