/- CutGreatest: the walk. -/
import Derived.Test.YtjpknhhdkjhjfaaFront
import Derived.Test.YtjpknhhdkjhjfaaLogs
namespace Go.Proofs.Ytjpknhhdkjhjfaa
open Go.RowKit
set_option linter.unusedVariables false

set_option maxRecDepth 100000 in
set_option maxHeartbeats 4000000 in
theorem greatest_walk (a0 : Option Addr) (len0 cap0 : Nat) (z0 : List Int) (w : World) (w0 : IsRow .u8 w a0 len0 cap0 z0) :
    Calls Try.prog 9 #[.slice a0 len0 cap0] w fun e w' => e = .returned (.bool true) ∧ Below w.heap.size w w' := by
  go_enter Try.func9, Try.ntmps9
  go_wp2_with fail
  refine (new_any a0 len0 cap0 z0 90 w (by omega) w0).mono ?_
  rintro e w1 ⟨g, rfl, hg, hc1, hb1⟩
  have HB1 := Lib.hid hb1
  have HC1 := Lib.hid hc1
  have hgl := hc1.lt
  clear hb1 hc1 w0
  go_wp2_with fail
  refine (logs_any g w1 HC1.out).mono ?_
  rintro e w2 ⟨base, H, L, vs, rfl, hb0, hb1, hm1, hm4, hll, hval, hmem, hcs, hgr⟩
  have HS2 := Lib.hid (lst_of HB1.out hg hgl hb0 hb1 hm1 hm4 hll hval hmem hcs hgr)
  have HVAL := Lib.hid hval
  clear hll hval hmem hcs hgr HB1 HC1
  go_wp2_with fail
  refine (cut_l HS2.out).mono ?_
  rintro e w3 ⟨xX, rfl, hh, hst, hgr⟩
  have HS3 := Lib.hid hst
  have HX3 := Lib.hid hh
  clear hh hst hgr HS2 
  go_wp2_with fail
  refine (cut_l HS3.out).mono ?_
  rintro e w4 ⟨xY, rfl, hh, hst, hgr⟩
  have HS4 := Lib.hid hst
  have HX4 := Lib.hid (HX3.out.keepG hgr)
  have HY4 := Lib.hid hh
  clear hh hst hgr HS3 HX3
  go_wp2_with fail
  refine (meet_l HS4.out HX4.out HY4.out).mono ?_
  rintro e w5 ⟨AZ, cZ, rfl, hh, hb6⟩
  have HS5 := Lib.hid (HS4.out.keep hb6)
  have HX5 := Lib.hid (HX4.out.keep hb6)
  have HY5 := Lib.hid (HY4.out.keep hb6)
  have HZ5 := Lib.hid hh
  clear hh
  clear hb6 HS4 HX4 HY4
  go_wp2_with fail
  refine (close_l HS5.out HX5.out).mono ?_
  rintro e w6 ⟨AP, cP, xP, rfl, hcl, hh, hb6⟩
  have HCLP := Lib.hid hcl
  have HS6 := Lib.hid (HS5.out.keep hb6)
  have HX6 := Lib.hid (HX5.out.keep hb6)
  have HY6 := Lib.hid (HY5.out.keep hb6)
  have HZ6 := Lib.hid (HZ5.out.keep hb6)
  have HP6 := Lib.hid hh
  clear hh hcl
  clear hb6 HS5 HX5 HY5 HZ5
  go_wp2_with fail
  refine (close_l HS6.out HZ6.out).mono ?_
  rintro e w7 ⟨AQ, cQ, xQ, rfl, hcl, hh, hb6⟩
  have HCLQ := Lib.hid hcl
  have HS7 := Lib.hid (HS6.out.keep hb6)
  have HX7 := Lib.hid (HX6.out.keep hb6)
  have HY7 := Lib.hid (HY6.out.keep hb6)
  have HZ7 := Lib.hid (HZ6.out.keep hb6)
  have HP7 := Lib.hid (HP6.out.keep hb6)
  have HQ7 := Lib.hid hh
  clear hh hcl
  clear hb6 HS6 HX6 HY6 HZ6 HP6
  obtain ⟨bs, hbs⟩ : ∃ b : Bool, decide (xP = xX) = b := ⟨_, rfl⟩
  have HBS := Lib.hid hbs
  have HSELF := Lib.hid (isClose_self HX7.out.1 HCLP.out)
  have HZL := Lib.hid (show LeC L.length (List.zipWith min xX xY) xX from fun i hi => by
    have h1 := HX7.out.1.1
    have h2 := HY7.out.1.1
    rw [zipGet min (by omega) (by omega)]; omega)
  have HQP := Lib.hid (show LeC L.length xQ xP from HCLP.out.2.2.2 xQ HCLQ.out.1 (fun i hi => Int.le_trans (HCLQ.out.2.1 i hi) (HZL.out i hi)) HCLQ.out.2.2.1)
  clear hbs
  go_wp2_with fail
  refine (closed_l bs HS7.out HX7.out (by rw [← HBS.out, decide_eq_true_iff]; exact HSELF.out.symm)).mono ?_
  rintro e w8 ⟨rfl, hb6⟩
  have HS8 := Lib.hid (HS7.out.keep hb6)
  have HX8 := Lib.hid (HX7.out.keep hb6)
  have HY8 := Lib.hid (HY7.out.keep hb6)
  have HZ8 := Lib.hid (HZ7.out.keep hb6)
  have HP8 := Lib.hid (HP7.out.keep hb6)
  have HQ8 := Lib.hid (HQ7.out.keep hb6)
  clear hb6 HS7 HX7 HY7 HZ7 HP7 HQ7
  go_wp2_with fail
  refine (closed_l true HS8.out HP8.out (by simp only [true_iff]; exact HCLP.out.2.2.1)).mono ?_
  rintro e w9 ⟨rfl, hb6⟩
  have HS9 := Lib.hid (HS8.out.keep hb6)
  have HX9 := Lib.hid (HX8.out.keep hb6)
  have HY9 := Lib.hid (HY8.out.keep hb6)
  have HZ9 := Lib.hid (HZ8.out.keep hb6)
  have HP9 := Lib.hid (HP8.out.keep hb6)
  have HQ9 := Lib.hid (HQ8.out.keep hb6)
  clear hb6 HS8 HX8 HY8 HZ8 HP8 HQ8
  by_cases hlow : ClosedC L (List.zipWith min xX xY)
  · skip
    go_wp2_with fail
    refine (closed_l true HS9.out HZ9.out (by simp only [true_iff]; exact hlow)).mono ?_
    rintro e w10 ⟨rfl, hb6⟩
    have HS10 := Lib.hid (HS9.out.keep hb6)
    have HX10 := Lib.hid (HX9.out.keep hb6)
    have HY10 := Lib.hid (HY9.out.keep hb6)
    have HZ10 := Lib.hid (HZ9.out.keep hb6)
    have HP10 := Lib.hid (HP9.out.keep hb6)
    have HQ10 := Lib.hid (HQ9.out.keep hb6)
    clear hb6 HS9 HX9 HY9 HZ9 HP9 HQ9
    go_wp2_with fail
    refine (under_l true HS10.out HP10.out HX10.out (leB_of HCLP.out.1.1 HCLP.out.2.1)).mono ?_
    rintro e w11 ⟨rfl, hb6⟩
    have HS11 := Lib.hid (HS10.out.keep hb6)
    have HX11 := Lib.hid (HX10.out.keep hb6)
    have HY11 := Lib.hid (HY10.out.keep hb6)
    have HZ11 := Lib.hid (HZ10.out.keep hb6)
    have HP11 := Lib.hid (HP10.out.keep hb6)
    have HQ11 := Lib.hid (HQ10.out.keep hb6)
    clear hb6 HS10 HX10 HY10 HZ10 HP10 HQ10
    go_wp2_with fail
    refine (equal_l bs HS11.out HP11.out HX11.out (HBS.out)).mono ?_
    rintro e w12 ⟨rfl, hb6⟩
    have HS12 := Lib.hid (HS11.out.keep hb6)
    have HX12 := Lib.hid (HX11.out.keep hb6)
    have HY12 := Lib.hid (HY11.out.keep hb6)
    have HZ12 := Lib.hid (HZ11.out.keep hb6)
    have HP12 := Lib.hid (HP11.out.keep hb6)
    have HQ12 := Lib.hid (HQ11.out.keep hb6)
    clear hb6 HS11 HX11 HY11 HZ11 HP11 HQ11
    go_wp2_with fail
    refine (under_l true HS12.out HQ12.out HP12.out (leB_of HCLQ.out.1.1 HQP.out)).mono ?_
    rintro e w13 ⟨rfl, hb6⟩
    have HS13 := Lib.hid (HS12.out.keep hb6)
    have HX13 := Lib.hid (HX12.out.keep hb6)
    have HY13 := Lib.hid (HY12.out.keep hb6)
    have HZ13 := Lib.hid (HZ12.out.keep hb6)
    have HP13 := Lib.hid (HP12.out.keep hb6)
    have HQ13 := Lib.hid (HQ12.out.keep hb6)
    clear hb6 HS12 HX12 HY12 HZ12 HP12 HQ12
    go_wp2_with fail
    refine (under_l true HS13.out HZ13.out HP13.out (leB_of HZ13.out.1.1 (HCLP.out.2.2.2 _ HZ13.out.1 HZL.out hlow))).mono ?_
    rintro e w14 ⟨rfl, hb6⟩
    have HS14 := Lib.hid (HS13.out.keep hb6)
    have HX14 := Lib.hid (HX13.out.keep hb6)
    have HY14 := Lib.hid (HY13.out.keep hb6)
    have HZ14 := Lib.hid (HZ13.out.keep hb6)
    have HP14 := Lib.hid (HP13.out.keep hb6)
    have HQ14 := Lib.hid (HQ13.out.keep hb6)
    clear hb6 HS13 HX13 HY13 HZ13 HP13 HQ13
    go_wp2_with fail
    refine (begun_any _).mono ?_
    rintro e w15 ⟨rfl, hb6⟩
    have HBZ := Lib.hid (HS14.out.keep hb6).bel
    clear hb6
    go_wp2_with fail
    go_ret
    exact ⟨rfl, HBZ.out⟩
  · skip
    go_wp2_with fail
    refine (closed_l false HS9.out HZ9.out (by constructor; (intro h; cases h); (intro h; exact absurd h hlow))).mono ?_
    rintro e w10 ⟨rfl, hb6⟩
    have HS10 := Lib.hid (HS9.out.keep hb6)
    have HX10 := Lib.hid (HX9.out.keep hb6)
    have HY10 := Lib.hid (HY9.out.keep hb6)
    have HZ10 := Lib.hid (HZ9.out.keep hb6)
    have HP10 := Lib.hid (HP9.out.keep hb6)
    have HQ10 := Lib.hid (HQ9.out.keep hb6)
    clear hb6 HS9 HX9 HY9 HZ9 HP9 HQ9
    go_wp2_with fail
    refine (under_l true HS10.out HP10.out HX10.out (leB_of HCLP.out.1.1 HCLP.out.2.1)).mono ?_
    rintro e w11 ⟨rfl, hb6⟩
    have HS11 := Lib.hid (HS10.out.keep hb6)
    have HX11 := Lib.hid (HX10.out.keep hb6)
    have HY11 := Lib.hid (HY10.out.keep hb6)
    have HZ11 := Lib.hid (HZ10.out.keep hb6)
    have HP11 := Lib.hid (HP10.out.keep hb6)
    have HQ11 := Lib.hid (HQ10.out.keep hb6)
    clear hb6 HS10 HX10 HY10 HZ10 HP10 HQ10
    go_wp2_with fail
    refine (equal_l bs HS11.out HP11.out HX11.out (HBS.out)).mono ?_
    rintro e w12 ⟨rfl, hb6⟩
    have HS12 := Lib.hid (HS11.out.keep hb6)
    have HX12 := Lib.hid (HX11.out.keep hb6)
    have HY12 := Lib.hid (HY11.out.keep hb6)
    have HZ12 := Lib.hid (HZ11.out.keep hb6)
    have HP12 := Lib.hid (HP11.out.keep hb6)
    have HQ12 := Lib.hid (HQ11.out.keep hb6)
    clear hb6 HS11 HX11 HY11 HZ11 HP11 HQ11
    go_wp2_with fail
    refine (under_l true HS12.out HQ12.out HP12.out (leB_of HCLQ.out.1.1 HQP.out)).mono ?_
    rintro e w13 ⟨rfl, hb6⟩
    have HS13 := Lib.hid (HS12.out.keep hb6)
    have HX13 := Lib.hid (HX12.out.keep hb6)
    have HY13 := Lib.hid (HY12.out.keep hb6)
    have HZ13 := Lib.hid (HZ12.out.keep hb6)
    have HP13 := Lib.hid (HP12.out.keep hb6)
    have HQ13 := Lib.hid (HQ12.out.keep hb6)
    clear hb6 HS12 HX12 HY12 HZ12 HP12 HQ12
    go_wp2_with fail
    refine (begun_any _).mono ?_
    rintro e w14 ⟨rfl, hb6⟩
    have HBZ := Lib.hid (HS13.out.keep hb6).bel
    clear hb6
    go_wp2_with fail
    go_ret
    exact ⟨rfl, HBZ.out⟩
end Go.Proofs.Ytjpknhhdkjhjfaa
