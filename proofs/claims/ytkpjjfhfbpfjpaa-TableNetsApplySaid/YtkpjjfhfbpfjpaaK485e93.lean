import Derived.Test.YtkpjjfhfbpfjpaaK093f24
import Derived.Deep.Cut
import Derived.Deep.CutRange
import Derived.Deep.DeepCutAuto
set_option linter.unusedVariables false
set_option linter.unusedSimpArgs false
set_option maxRecDepth 100000
namespace Go.Proofs.Ytkpjjfhfbpfjpaa
open Go.RowKit
def ChPost (S : Nat → Prop) (s : Sch) (m : Int) (st : St) (most : Nat) (w : World) (g : Nat) (e : Ending) (w' : World) : Prop :=
 ∃ (B0 gt cap : Nat) (l : List Chg) (A : Option Addr) (c : Nat), e = .returned (.tuple #[.slice A l.length c, stAgg (some ⟨gt, 0, none⟩) st.length cap]) ∧ st.length ≤ cap ∧ l.length ≤ most ∧ Fit s m st l ∧ Mk w' B0 (fun _ => False) 53 3 (.slice A l.length c) (l.map encChg) ∧ StC w' (fun b => S b ∨ (w.heap.size ≤ b ∧ b < B0 ∧ b ≠ gt) ∨ Beh B0 w' (.slice A l.length c) b) gt (after s st l) ∧ w.heap.size ≤ gt ∧ gt < B0 ∧ CaseOk w' g ∧ w.grownBy w' (some g)
set_option maxHeartbeats 8000000 in
theorem changes_any (g : Nat) (A0 : Option Addr) (c0' : Nat) (s : Sch) (m : Int) (AS : Option Addr) (ca : Nat) (st : St) (most : Nat) (S : Nat → Prop) (w : World) (hs : TabS w S A0 s.tabs) (hst : StS w S AS st) (hS : ∀ b, S b → b < w.heap.size ∧ b ≠ g) (hgs : GenS s) (hm : modeOk m = true) (hok : StOk s m st) (hcnt : countF st ≤ 1000) (hmost : most ≤ 100) (hc : CaseOk w g) :
  Calls Try.prog 23 #[.pointer (some ⟨g, 0, none⟩), sAgg s.version A0 s.tabs.length c0', .int .i64 m, stAgg AS st.length ca, .int .i64 (most : Int)] w (ChPost S s m st most w g) := by
 obtain ⟨i0, hi, hz0, hz1, hz2⟩ := info_parts infoC
 have hgl := hc.lt
 have hsl := hgs.len
 have hstl : st.length = s.tabs.length := hok.1
 have HS := Lib.hid hs
 have HST := Lib.hid hst
 have HSG := Lib.hid hS
 have HGS := Lib.hid hgs
 have HC := Lib.hid hc
 have HM := Lib.hid hm
 have HOK := Lib.hid hok
 have HB0 := Lib.hid ((((Below.refl w.heap.size w).alloc (Nat.le_refl _) (.cells #[.int .i64 s.version, .slice A0 s.tabs.length c0'] 25)).alloc (by simp) (.cells #[.slice AS st.length ca] 56)).alloc (by simp <;> omega) (.cells #[.slice none 0 0] 56))
 clear hs hst hgs hc hm hok
 go_enter Try.func23, Try.ntmps23
 go_wp2_with fail
 obtain ⟨W0, hW0⟩ : ∃ W0, ((w.alloc (.cells #[.int .i64 s.version, .slice A0 s.tabs.length c0'] 25)).alloc (.cells #[.slice AS st.length ca] 56)).alloc (.cells #[.slice none 0 0] 56) = W0 := ⟨_, rfl⟩
 have hz0' : W0.heap.size = w.heap.size + 3 := by rw [← hW0]; simp
 have b0 : W0.cell? ⟨w.heap.size, 0, none⟩ = some (.int .i64 s.version) := by rw [← hW0]; exact (cell_old (by simp <;> omega)).trans ((cell_old (by simp)).trans (cell_new rfl rfl))
 have b1 : W0.cell? ⟨w.heap.size, 1, none⟩ = some (.slice A0 s.tabs.length c0') := by rw [← hW0]; exact (cell_old (by simp <;> omega)).trans ((cell_old (by simp)).trans (cell_new rfl rfl))
 have s0 : W0.cell? ⟨w.heap.size + 1, 0, none⟩ = some (.slice AS st.length ca) := by rw [← hW0]; exact (cell_old (by simp)).trans (cell_new (by simp) rfl)
 have sf : W0.frozen? ⟨w.heap.size + 1, 0, none⟩ = false := by rw [← hW0]; exact (frozen_old (by simp)).trans (frozen_new (by simp))
 have r0 : W0.cell? ⟨w.heap.size + 2, 0, none⟩ = some (.slice none 0 0) := by rw [← hW0]; exact cell_new (by simp) rfl
 have rf : W0.frozen? ⟨w.heap.size + 2, 0, none⟩ = false := by rw [← hW0]; exact frozen_new (by simp)
 have hW0' := hW0
 rw [hstl] at hW0'
 rw [hW0'] at ⊢
 rw [hW0] at HB0
 clear hW0 hW0'
 have hcop := rcopySt_any AS ca st S W0 (HST.out.keep (Same.of_below HB0.out (fun b hb => (HSG.out b hb).1))) (fun b hb => by have := (HSG.out b hb).1; omega)
 rw [hstl] at hcop
 refine hcop.mono ?_
 rintro e wc ⟨AC, cc, rfl, hmk, hbc⟩
 obtain ⟨gt, rfl, hgt, -, hcc, hstc⟩ := StC.of_own hmk.own (by omega)
 have HSTC := Lib.hid hstc
 have HBC := Lib.hid hbc
 have hgtl := hstc.lt
 have hzc := hbc.size
 have b0' := (hbc.cell (p := ⟨w.heap.size, 0, none⟩) (by show w.heap.size < W0.heap.size; omega)).trans b0
 have b1' := (hbc.cell (p := ⟨w.heap.size, 1, none⟩) (by show w.heap.size < W0.heap.size; omega)).trans b1
 have s0' := (hbc.cell (p := ⟨w.heap.size + 1, 0, none⟩) (by show w.heap.size + 1 < W0.heap.size; omega)).trans s0
 have sf' := (hbc.frozen (p := ⟨w.heap.size + 1, 0, none⟩) (by show w.heap.size + 1 < W0.heap.size; omega)).trans sf
 have r0' := (hbc.cell (p := ⟨w.heap.size + 2, 0, none⟩) (by show w.heap.size + 2 < W0.heap.size; omega)).trans r0
 have rf' := (hbc.frozen (p := ⟨w.heap.size + 2, 0, none⟩) (by show w.heap.size + 2 < W0.heap.size; omega)).trans rf
 have HCAP := Lib.hid hcc
 have HI0 := Lib.hid (show ChI w (wc.setCell ⟨w.heap.size + 1, 0, none⟩ (.slice (some ⟨gt, 0, none⟩) s.tabs.length cc)) wc.heap.size gt cc g S s A0 c0' st [] none 0 from by
  have hne : ∀ b, b ≠ w.heap.size + 1 → (wc.setCell ⟨w.heap.size + 1, 0, none⟩ (.slice (some ⟨gt, 0, none⟩) s.tabs.length cc)).heap[b]? = wc.heap[b]? := fun b hb => Below.heap_setCell wc ⟨w.heap.size + 1, 0, none⟩ _ b hb
  have hbw := HB0.out.trans (hbc.mono (by omega))
  refine ⟨(hstc.keep (by simp) (fun b hb => hne b ?_) (hne gt (by omega))).more (fun b hb => .inr (.inl ?_)) (fun b hb => ?_), Mk.start (fun b hb => hb.elim) (by simp) _ _, (World.cell?_of_block (hne w.heap.size (by omega))).trans b0', (World.cell?_of_block (hne w.heap.size (by omega))).trans b1', World.cell?_setCell_same _ _ _ s0', by rw [World.frozen?_setCell]; exact sf', (World.cell?_of_block (hne (w.heap.size + 2) (by omega))).trans r0', (World.frozen?_of_block (hne (w.heap.size + 2) (by omega))).trans rf', case_set (HC.out.keep (fun b hb => hbw.block b (by omega))) (by omega), grown_s (Fr.of_below (X := fun b => b = g) hbw).grown (by omega), by omega, hgtl⟩
  · rcases hb with hb | hb
    · exact hb.elim
    · have := hb.1; omega
  · rcases hb with hb | hb
    · exact hb.elim
    · exact ⟨by have := hb.1; omega, hb.2.1, fun e => hb.2.2 (by rw [e]; rfl)⟩
  · rcases hb with hb | hb | hb
    · have := HSG.out b hb; simp; omega
    · exact ⟨by have := hb.2.1; simp; omega, hb.2.2⟩
    · exact ⟨hb.2.1, by have := hb.1; omega⟩)
 clear hmk hbc hstc HC b0 b1 s0 sf r0 rf hcop
 go_wp2_with fail
 obtain ⟨W1, hW1⟩ : ∃ W1, wc.setCell ⟨w.heap.size + 1, 0, none⟩ (.slice (some ⟨gt, 0, none⟩) s.tabs.length cc) = W1 := ⟨_, rfl⟩
 obtain ⟨B0, hB0⟩ : ∃ B0, wc.heap.size = B0 := ⟨_, rfl⟩
 rw [hW1] at HI0 ⊢
 rw [hB0] at HI0
 clear hW1 hB0 b0' b1' s0' sf' r0' rf' HSTC HBC hgtl hzc hz0' hgt
 refine (int_any g ((most : Int) + 1) _ (by omega) HI0.out.case).mono ?_
 rintro e w1 ⟨r, rfl, r0, r1, -, hcr, hgr, hsr⟩
 have hr5 := r1 (by omega)
 obtain ⟨nn, rfl⟩ := Int.eq_ofNat_of_zero_le r0
 have HI1 := Lib.hid (HI0.out.keep (fr_of hgr) hcr hgl HSG.out)
 clear hcr hgr hsr r1 HI0
 go_wp2_with fail
 rw [show w.heap.size + 1 + 1 = w.heap.size + 2 from rfl]
 go_loopw [12, 13] (fun out i wr => ∃ (nn : Nat) (l : List Chg) (A : Option Addr) (c : Nat) (cur : St), l.length + nn ≤ most ∧ out = .slice A l.length c ∧ i = .int .i64 nn ∧ ChI w wr B0 gt cc g S s A0 c0' cur l A c ∧ StOk s m cur ∧ Fit s m st l ∧ cur = after s st l) (fun _ i _ => (intOf i).toNat)
 case atStart => exact ⟨nn, [], none, 0, st, by simp; omega, rfl, rfl, HI1.out, HOK.out, trivial, rfl⟩
 case round =>
  clear HI1
  obtain ⟨nn, l, A, c, cur, hle, rfl, rfl, hci, hco, hfi, haf⟩ := hrel
  have HI := Lib.hid hci
  have HCO := Lib.hid hco
  have HFI := Lib.hid hfi
  have HAF := Lib.hid haf
  have hsz := hci.sz
  have hlo := hci.lo
  have hhi := hci.hi
  clear hci hco hfi haf
  rcases Nat.eq_zero_or_pos nn with hn0 | hn0
  · subst hn0
    have s0 := HI.out.s0
    have r0 := HI.out.r0
    have rf := HI.out.rf
    go_wp2_with fail
    refine hideQ (fun c a d v w h => by cases d <;> exact h) (fun Q' HQ HP => ?_)
    refine regionT_until (fun w' => w'.cell? ⟨w.heap.size + 1, 0, none⟩ = some (.slice (some ⟨gt, 0, none⟩) s.tabs.length cc)) 3 4 (bA 4 0) (by kernel_rfl) (by kernel_rfl) (by kernel_rfl) ?_
    refine tk 0 120 (bA 4 1) _ rfl (by kernel_rfl) (by kernel_rfl) HP.out (by rfl) (fun w' hSw => by (try dsimp only at hSw); go_simp; (try with_reducible rfl)) s0 ?_
    simp only [psA, psB, psC]
    refine tk 2 10 (bA 4 5) _ rfl (by kernel_rfl) (by kernel_rfl) HP.out (by rfl) (fun w' hSw => by (try dsimp only at hSw); go_simp; (try with_reducible rfl)) s0 ?_
    simp only [psA, psB, psC]
    refine tk 1 121 (bA 4 7) _ rfl (by kernel_rfl) (by kernel_rfl) HP.out (by rfl) (fun w' hSw => by (try dsimp only at hSw); go_simp; (try with_reducible rfl)) s0 ?_
    simp only [psA, psB, psC]
    refine anyT_one (i := 3) (o := ⟨none, _, _, _, _, _⟩) (L' := (bA 4 15)) rfl (by kernel_rfl) (by kernel_rfl) (fun K hK => ?_)
    have HK := Lib.hid hK
    clear hK
    go_simp
    refine HK.out _ _ (fun h => absurd rfl h) ?_
    clear HK K
    refine anyU_done (by kernel_rfl) ?_
    rw [HQ.out]
    clear HQ HP Q'
    have hcl := HCO.out.1
    have x0 : (wr.setCell ⟨w.heap.size + 2, 0, none⟩ (.slice (some ⟨gt, 0, none⟩) s.tabs.length cc)).cell? ⟨w.heap.size + 2, 0, none⟩ = some (.slice (some ⟨gt, 0, none⟩) s.tabs.length cc) := World.cell?_setCell_same _ _ _ r0
    go_wp2_with fail
    obtain ⟨wz, hwz⟩ : ∃ wz, (wr.setCell ⟨w.heap.size + 2, 0, none⟩ (.slice (some ⟨gt, 0, none⟩) s.tabs.length cc)).drew = wz := ⟨_, rfl⟩
    have x1 : wz.cell? ⟨w.heap.size + 2, 0, none⟩ = some (.slice (some ⟨gt, 0, none⟩) s.tabs.length cc) := by rw [← hwz]; exact x0
    have hfz : Fr (fun b => b = w.heap.size + 2) wr wz := by rw [← hwz]; exact ((Fr.refl (fun b => b = w.heap.size + 2) wr).setCell (g := w.heap.size + 2) (o := 0) _ (fun _ => rfl)).drew
    rw [hwz]
    clear hwz x0
    obtain ⟨z1, z2, z3, z4⟩ := HI.out.done hgl HSG.out hfz
    rw [HAF.out] at z2
    exact bodyPost_ret (v := .tuple #[.slice A l.length c, stAgg (some ⟨gt, 0, none⟩) s.tabs.length cc]) (by simp [results, Try.results23, go_sem, x1]) rfl ⟨B0, gt, cc, l, A, c, by rw [hstl], HCAP.out, by omega, HFI.out, z1, z2, by omega, hhi, z3, z4⟩
  · obtain ⟨n1, rfl⟩ : ∃ n1, nn = n1 + 1 := ⟨nn - 1, by omega⟩
    have b1 := HI.out.b1
    have hnp : (0 : Int) < ((n1 + 1 : Nat) : Int) := by omega
    have htp : (0 : Int) < (s.tabs.length : Int) := by omega
    go_wp2_with fail
    refine (int_any g (s.tabs.length : Int) _ (by omega) HI.out.case).mono ?_
    rintro e w2 ⟨tt, rfl, t0', t1', -, hcr, hgr, hsr⟩
    have htl' := t1' (by omega)
    obtain ⟨t, rfl⟩ := Int.eq_ofNat_of_zero_le t0'
    have htl : t < s.tabs.length := by omega
    have HI2 := Lib.hid (HI.out.keep (fr_of hgr) hcr hgl HSG.out)
    obtain ⟨xb, hxb⟩ : ∃ xb, w2.heap.size = xb := ⟨_, rfl⟩
    have HM2 := Lib.hid (show Mid w2 (w2.alloc (.cells #[.int .i64 (t : Int), .slice none 0 0, .slice none 0 0] 53)) g xb [.int .i64 (t : Int), .slice none 0 0, .slice none 0 0] from ⟨Fr.of_below ((Below.refl _ _).alloc (Nat.le_refl _) _), hcr.keep (fun b hb => Below.heap_alloc _ _ _ (by omega)), by rw [← hxb]; exact heap_alloc_new _ _⟩)
    have hxz : w2.heap.size ≤ xb := by omega
    have hxw : wr.heap.size = xb := by omega
    have hsz2 := HI2.out.sz
    clear hcr hgr t1' b1 hnp htp HI hsr hsz
    go_wp2_with fail
    obtain ⟨wx, hwx⟩ : ∃ wx, w2.alloc (.cells #[.int .i64 (t : Int), .slice none 0 0, .slice none 0 0] 53) = wx := ⟨_, rfl⟩
    have hzx : wx.heap.size = xb + 1 := by rw [← hwx, ← hxb]; simp
    rw [hwx] at HM2 ⊢
    clear hwx hxw hxb
    have hgx' : g < xb := by omega
    have HX := Lib.hid (HI2.out.keep HM2.out.fr HM2.out.case hgl HSG.out)
    have hSw : ∀ b, S b → b < w.heap.size := fun b hb => (HSG.out b hb).1
    have hsame : Same S w wx := fun b hb => HX.out.gr.block b (hSw b hb) (fun e => (HSG.out b hb).2 (by injection e))
    have HTW := Lib.hid (HS.out.keep hsame)
    have hSr : ∀ b, S b → b < wx.heap.size := fun b hb => by have := hSw b hb; omega
    obtain ⟨bT, oT, rfl, hbT, T1, T2, T3, k1, k2, k3, hta⟩ := HTW.out.at_ htl
    have lT : bT < wx.heap.size := hSr bT hbT
    have l0 : w.heap.size < wx.heap.size := by omega
    have lx : xb < wx.heap.size := by omega
    have hg0 : ¬ w.heap.size = g := by omega
    have hgT : ¬ bT = g := (HSG.out bT hbT).2
    have hgx : ¬ xb = g := by omega
    have u0 := HX.out.b0
    have u1 := HX.out.b1
    have u2 := hta.key
    have u3 : wx.cell? ⟨xb, 0, none⟩ = some (.int .i64 (t : Int)) := cells_of_block HM2.out.xc 0 _ rfl
    have hkl : (kindsF s t).length ≤ 1000000 := by have := (HGS.out.kinds htl).2; omega
    have HFT := Lib.hid (fun (r : Row) (h : RowGen (s.tabs.getD t t0).key m (kindsF s t) r) => rowGen_fits HGS.out HM.out htl h)
    clear hta hsame
    generalize (s.tabs.getD t t0).key = ky at u2 HFT
    go_wp2_with fail
    refine hideQ (fun c a d v w h => by cases d <;> exact h) (fun Q' HQ HP => ?_)
    refine regionT_until (fun w' => w'.cell? ⟨w.heap.size, 0, none⟩ = some (.int .i64 s.version) ∧ w'.cell? ⟨w.heap.size, 1, none⟩ = some (.slice (some ⟨bT, oT, none⟩) s.tabs.length c0') ∧ w'.cell? ⟨bT, oT + t * 5 + 2, none⟩ = some (.int .i64 ky) ∧ w'.cell? ⟨xb, 0, none⟩ = some (.int .i64 (t : Int))) 15 15 (bA 15 0) (by kernel_rfl) (by kernel_rfl) (by kernel_rfl) ?_
    refine tk 0 41 (bA 15 1) _ rfl (by kernel_rfl) (by kernel_rfl) HP.out (by rfl) (fun w' hSw => by (try dsimp only at hSw); go_simp; (try with_reducible rfl)) ⟨u0, u1, u2, u3⟩ ?_
    simp only [psA, psB, psC]
    refine tk 1 42 (bA 15 3) _ rfl (by kernel_rfl) (by kernel_rfl) HP.out (by rfl) (fun w' hSw => by (try dsimp only at hSw); go_simp; (try with_reducible rfl)) ⟨u0, u1, u2, u3⟩ ?_
    simp only [psA, psB, psC]
    refine tk 2 43 (bA 15 7) _ rfl (by kernel_rfl) (by kernel_rfl) HP.out (by rfl) (fun w' hSw => by (try dsimp only at hSw); go_simp; (try with_reducible rfl)) ⟨u0, u1, u2, u3⟩ ?_
    simp only [psA, psB, psC]
    refine tk 3 44 (bA 15 15) _ rfl (by kernel_rfl) (by kernel_rfl) HP.out (by rfl) (fun w' hSw => by (try dsimp only at hSw); go_simp; (try with_reducible rfl)) ⟨u0, u1, u2, u3⟩ ?_
    simp only [psA, psB, psC]
    refine tk 5 46 (bA 15 47) _ rfl (by kernel_rfl) (by kernel_rfl) HP.out (by rfl) (fun w' hSw => by (try dsimp only at hSw); go_simp; (try with_reducible rfl)) ⟨u0, u1, u2, u3⟩ ?_
    simp only [psA, psB, psC]
    refine tk 6 47 (bA 15 111) _ rfl (by kernel_rfl) (by kernel_rfl) HP.out (by rfl) (fun w' hSw => by (try dsimp only at hSw); go_simp; (try with_reducible rfl)) ⟨u0, u1, u2, u3⟩ ?_
    simp only [psA, psB, psC]
    refine tk 7 48 (bA 15 239) _ rfl (by kernel_rfl) (by kernel_rfl) HP.out (by rfl) (fun w' hSw => by (try dsimp only at hSw); go_simp; (try with_reducible rfl)) ⟨u0, u1, u2, u3⟩ ?_
    simp only [psA, psB, psC]
    refine tk 8 49 (bA 15 495) _ rfl (by kernel_rfl) (by kernel_rfl) HP.out (by rfl) (fun w' hSw => by (try dsimp only at hSw); go_simp; (try with_reducible rfl)) ⟨u0, u1, u2, u3⟩ ?_
    simp only [psA, psB, psC]
    refine tk 9 50 (bA 15 1007) _ rfl (by kernel_rfl) (by kernel_rfl) HP.out (by rfl) (fun w' hSw => by (try dsimp only at hSw); go_simp; (try with_reducible rfl)) ⟨u0, u1, u2, u3⟩ ?_
    simp only [psA, psB, psC]
    refine tk 10 51 (bA 15 2031) _ rfl (by kernel_rfl) (by kernel_rfl) HP.out (by rfl) (fun w' hSw => by (try dsimp only at hSw); go_simp; (try with_reducible rfl)) ⟨u0, u1, u2, u3⟩ ?_
    simp only [psA, psB, psC]
    refine tk 11 52 (bA 15 4079) _ rfl (by kernel_rfl) (by kernel_rfl) HP.out (by rfl) (fun w' hSw => by (try dsimp only at hSw); go_simp; (try with_reducible rfl)) ⟨u0, u1, u2, u3⟩ ?_
    simp only [psA, psB, psC]
    refine tk 12 53 (bA 15 8175) _ rfl (by kernel_rfl) (by kernel_rfl) HP.out (by rfl) (fun w' hSw => by (try dsimp only at hSw); go_simp; (try with_reducible rfl)) ⟨u0, u1, u2, u3⟩ ?_
    simp only [psA, psB, psC]
    refine anyT_one (i := 4) (o := ⟨some 45, _, _, _, _, _⟩) (L' := (bA 15 8191)) rfl (by kernel_rfl) (by kernel_rfl) (fun K hK => ?_)
    have HK := Lib.hid hK
    clear hK
    go_simp
    refine (rkinds_any (some ⟨bT, oT, none⟩) c0' s t S wx.drew (HTW.out.keep (fun _ _ => rfl)) hSr).mono ?_
    rintro e wk ⟨KA, kc, rfl, hks, hkc, -, hbk0⟩
    have hbk : Below wx.heap.size wx wk := (Below.refl _ wx).drew.trans hbk0
    have hzk := hbk.size
    have HKS := Lib.hid hks
    clear hks hbk0
    have p0 := (hbk.cell (p := ⟨w.heap.size, 0, none⟩) l0).trans u0
    have p1 := (hbk.cell (p := ⟨w.heap.size, 1, none⟩) l0).trans u1
    have p2 := (hbk.cell (p := ⟨bT, oT + t * 5 + 2, none⟩) lT).trans u2
    have p3 := (hbk.cell (p := ⟨xb, 0, none⟩) lx).trans u3
    refine HK.out _ _ (fun _ => ⟨p0, p1, p2, p3⟩) ?_
    clear HK K
    try simp only [Act.put, psA, psB, psC]
    refine anyT_one (i := 13) (o := ⟨some 54, _, _, _, _, _⟩) (L' := (bA 15 16383)) rfl (by kernel_rfl) (by kernel_rfl) (fun K hK => ?_)
    have HK := Lib.hid hK
    clear hK
    go_simp
    refine (row_any g KA kc (kindsF s t) ky m (New wx.drew wk) wk HKS.out (fun b hb => ⟨hb.2, by have h9 : wx.heap.size ≤ b := hb.1; omega⟩) hkl (HX.out.case.keep (fun b hb => hbk.block b (by omega)))).mono ?_
    rintro e wq ⟨row, RA, rc, rfl, hgen, hrow, hcq, hgq⟩
    have hzq := hgq.size
    have HFQ := Lib.hid (show Fr (fun b => b = g) wx wq from (Fr.of_below hbk).trans (fr_of hgq) (fun _ _ e => e))
    have HIQ := Lib.hid (HX.out.keep HFQ.out hcq hgl HSG.out)
    have HFIT := Lib.hid (HFT.out row hgen)
    have HROK := Lib.hid (rowGen_ok hgen hkl)
    have HROW := Lib.hid (ownsRow_low hrow hzk)
    clear hgen hrow hcq
    have q0 := (HFQ.out.cell (b := w.heap.size) l0 hg0).trans u0
    have q1 := (HFQ.out.cell (b := w.heap.size) l0 hg0).trans u1
    have q2 := (HFQ.out.cell (b := bT) lT hgT).trans u2
    have q3 := (HFQ.out.cell (b := xb) lx hgx).trans u3
    clear hgq
    refine HK.out _ _ (fun _ => ⟨q0, q1, q2, q3⟩) ?_
    clear HK K
    try simp only [Act.put, psA, psB, psC]
    refine tk 14 15 (bA 15 32767) _ rfl (by kernel_rfl) (by kernel_rfl) HP.out (by rfl) (fun w' hSw => by (try dsimp only at hSw); go_simp; (try with_reducible rfl)) ⟨q0, q1, q2, q3⟩ ?_
    simp only [psA, psB, psC]
    refine anyU_done (by kernel_rfl) ?_
    rw [HQ.out]
    clear HQ HP Q'
    have HMQ := Lib.hid (HM2.out.calls HFQ.out HIQ.out.case hgx')
    have HRTQ := Lib.hid (show RowT wq xb RA rc row from ⟨(new_row HROW.out HROK.out (Nat.le_refl _)).1, (new_row HROW.out HROK.out (Nat.le_refl _)).2.more (fun b hb => ⟨by have h9 : wx.heap.size ≤ b := hb.1; omega, hb.2⟩)⟩)
    have hwid := HGS.out.wide t htl
    have hrwl : 0 < row.length := by have h9 := fits_len HFIT.out; rw [Int.toNat_natCast] at h9; rw [h9]; exact hwid
    have hzq' : wx.heap.size ≤ wq.heap.size := HFQ.out.size
    have HCT := Lib.hid (show countF cur ≤ 1100 by rw [HAF.out]; have := (fit_ok HOK.out HFI.out).2; omega)
    have HCL := Lib.hid HCO.out.1
    have htc : t < cur.length := by rw [HCL.out]; exact htl
    obtain ⟨hfzq, AT, ct, d1, d2, d3⟩ := HIQ.out.stc.at_ (k := t) htc
    have s0 := HIQ.out.s0
    have lgt : gt < wq.heap.size := by have := HIQ.out.sz; omega
    have HRS := Lib.hid d3
    have hrl := d3.len
    have HRW := Lib.hid (show ∀ r ∈ cur.getD t [], fitsF s t r m = true from (HCO.out.2 t htc).1)
    clear p0 p1 p2 p3 u0 u1 u2 u3 q0 q1 q2 d2 d3 hfzq hzk hbk hzq hwid lT l0 lx hg0 hgT hgx
    have hrc : (cur.getD t []).length ≤ 1100 := by have := getD_le_count cur t; have := HCT.out; omega
    generalize cur.getD t [] = rows at d1 HRS hrl HRW hrc
    by_cases hr0 : rows.length = 0
    · have hd0 : decide (0 < rows.length) = false := decide_eq_false (by omega)
      have hd1 : decide ((0 : Int) < (rows.length : Int)) = false := decide_eq_false (by omega)
      clear hr0
      obtain ⟨rw_, rfl⟩ : ∃ rw_, rw_ = row := ⟨_, rfl⟩
      obtain ⟨wy, rfl⟩ : ∃ wy : World, wy = wq := ⟨_, rfl⟩
      have HMY := HMQ
      have HRT := HRTQ
      have HRK := HROK
      have HFR := HFIT
      have HIY := Lib.hid (HI2.out.keep HMY.out.fr HMY.out.case hgl HSG.out)
      have y0 := HIY.out.b0
      have y1 := HIY.out.b1
      have y2 : wy.cell? ⟨xb, 0, none⟩ = some (.int .i64 (t : Int)) := cells_of_block HMY.out.xc 0 _ rfl
      have hzy : xb < wy.heap.size := lt_of_heap HMY.out.xc
      go_wp2_with fail
      clear s0 d1
      refine (rkey_any (some ⟨bT, oT, none⟩) c0' s t RA rc rw_ (fun b => b < wy.heap.size) _ ((HS.out.keep (show Same S w wy from fun b hb => (HIY.out).gr.block b (hSw b hb) (fun e => (HSG.out b hb).2 (by injection e)))).more (fun b hb => by have := hSw b hb; show b < wy.heap.size; omega)) (HRT.out.2.more (fun b hb => hb.2)) HRT.out.1 (fun b hb => hb)).mono ?_
      rintro e wk ⟨KA, kc, rfl, hkey, hbk⟩
      have HKY := Lib.hid (show RowT wk xb KA kc (keyF s (t : Int) rw_) from ⟨(new_row hkey (rowOk_key HRK.out) (Nat.le_refl _)).1, (new_row hkey (rowOk_key HRK.out) (Nat.le_refl _)).2.more (fun b hb => ⟨by have h9 : wy.heap.size ≤ b := hb.1; omega, hb.2⟩)⟩)
      have HMK0 := Lib.hid (HMY.out.below hbk hgx')
      have HRTK := Lib.hid (HRT.out.step (xb := xb) (Fr.or_g (g := g) (Fr.of_below hbk)) hgx')
      have hzk0 := hbk.size
      clear hkey hbk y0 y1 y2
      obtain ⟨key, hkeq⟩ : ∃ key, keyF s (t : Int) rw_ = key := ⟨_, rfl⟩
      rw [hkeq] at HKY ⊢
      have HKQ := Lib.hid hkeq
      clear hkeq
      have HIK := Lib.hid (HI2.out.keep HMK0.out.fr HMK0.out.case hgl HSG.out)
      have y0 := HIK.out.b0
      have y1 := HIK.out.b1
      have y3 := HIK.out.s0
      have y2 : wk.cell? ⟨xb, 0, none⟩ = some (.int .i64 (t : Int)) := cells_of_block HMK0.out.xc 0 _ rfl
      go_wp2_with fail
      have hget := rget_any (some ⟨bT, oT, none⟩) c0' s (some ⟨gt, 0, none⟩) cc cur t KA kc key (fun b => b < wk.heap.size) wk ((HS.out.keep (show Same S w wk from fun b hb => (HIK.out).gr.block b (hSw b hb) (fun e => (HSG.out b hb).2 (by injection e)))).more (fun b hb => by have := hSw b hb; show b < wk.heap.size; omega)) (HIK.out.stc.slice (by have := HCL.out; omega) (fun b hb => (HIK.out.stc.mem b hb).1) (by show gt < wk.heap.size; omega)) (HKY.out.2.more (fun b hb => hb.2)) (fun b hb => hb)
      rw [HCL.out] at hget
      refine hget.mono ?_
      rintro e wg ⟨OA, oc, rfl, hold, hbg⟩
      rw [getS_look htl htc key] at hold ⊢
      obtain ⟨old, hoq⟩ : ∃ old, look s cur t key = old := ⟨_, rfl⟩
      have HOFT := Lib.hid (show old = [] ∨ fitsF s t old m = true by
       by_cases h0 : 0 < old.length
       · exact .inr (look_fits HCO.out htc hoq h0)
       · exact .inl (List.eq_nil_of_length_eq_zero (by omega)))
      rw [hoq] at hold ⊢
      have HOQ := Lib.hid hoq
      have HOL := Lib.hid (show RowT wg xb OA oc old from ⟨(new_row hold (rowOk_fits HGS.out htl HOFT.out) (Nat.le_refl _)).1, (new_row hold (rowOk_fits HGS.out htl HOFT.out) (Nat.le_refl _)).2.more (fun b hb => ⟨by have h9 : wk.heap.size ≤ b := hb.1; omega, hb.2⟩)⟩)
      have HMG := Lib.hid (HMK0.out.below hbg hgx')
      have HRTG := Lib.hid (HRTK.out.step (xb := xb) (Fr.or_g (g := g) (Fr.of_below hbg)) hgx')
      have HKYG := Lib.hid (HKY.out.step (xb := xb) (Fr.or_g (g := g) (Fr.of_below hbg)) hgx')
      have hzg := hbg.size
      clear hoq hold hbg hget y0 y1 y2 y3
      have c0 : wg.cell? ⟨xb, 0, none⟩ = some (.int .i64 (t : Int)) := cells_of_block HMG.out.xc 0 _ rfl
      have c1 : wg.cell? ⟨xb, 1, none⟩ = some (.slice none 0 0) := cells_of_block HMG.out.xc 1 _ rfl
      have c2 : wg.cell? ⟨xb, 2, none⟩ = some (.slice none 0 0) := cells_of_block HMG.out.xc 2 _ rfl
      have f1 : wg.frozen? ⟨xb, 1, none⟩ = false := by simp [World.frozen?, HMG.out.xc]
      have f2 : wg.frozen? ⟨xb, 2, none⟩ = false := by simp [World.frozen?, HMG.out.xc]
      have hlg : xb < wg.heap.size := lt_of_heap HMG.out.xc
      have hlg1 : xb < wg.heap.size + 1 := by omega
      by_cases ho0 : old.length = 0
      · have hq : ((old.length : Int) == 0) = true := by simp [ho0]
        clear ho0
        obtain ⟨wn, hwn⟩ : ∃ wn, (wg.setCell ⟨xb, 1, none⟩ (.slice OA old.length oc)).setCell ⟨xb, 2, none⟩ (.slice RA rw_.length rc) = wn := ⟨_, rfl⟩
        have HMN := Lib.hid ((HMG.out.set 1 (.slice OA old.length oc) hgx' hxz).set 2 (.slice RA rw_.length rc) hgx' hxz)
        have HKN := Lib.hid (show RowT ((wg.setCell ⟨xb, 1, none⟩ (.slice OA old.length oc)).setCell ⟨xb, 2, none⟩ (.slice RA rw_.length rc)) xb KA kc key from (HKYG.out.step (Fr.or_set (g := g) (xb := xb) 1 (.slice OA old.length oc)) hgx').step (Fr.or_set (g := g) (xb := xb) 2 (.slice RA rw_.length rc)) hgx')
        have HON := Lib.hid (show RowT ((wg.setCell ⟨xb, 1, none⟩ (.slice OA old.length oc)).setCell ⟨xb, 2, none⟩ (.slice RA rw_.length rc)) xb OA oc old from (HOL.out.step (Fr.or_set (g := g) (xb := xb) 1 (.slice OA old.length oc)) hgx').step (Fr.or_set (g := g) (xb := xb) 2 (.slice RA rw_.length rc)) hgx')
        have HNN := Lib.hid (show RowT ((wg.setCell ⟨xb, 1, none⟩ (.slice OA old.length oc)).setCell ⟨xb, 2, none⟩ (.slice RA rw_.length rc)) xb RA rc (rw_) from (HRTG.out.step (Fr.or_set (g := g) (xb := xb) 1 (.slice OA old.length oc)) hgx').step (Fr.or_set (g := g) (xb := xb) 2 (.slice RA rw_.length rc)) hgx')
        rw [hwn] at HMN HKN HON HNN
        have n0 : wn.cell? ⟨xb, 0, none⟩ = some (.int .i64 (t : Int)) := cells_of_block HMN.out.xc 0 _ rfl
        have n1' : wn.cell? ⟨xb, 1, none⟩ = some (.slice OA old.length oc) := cells_of_block HMN.out.xc 1 _ rfl
        have n2' : wn.cell? ⟨xb, 2, none⟩ = some (.slice RA (rw_).length rc) := cells_of_block HMN.out.xc 2 _ rfl
        have hown : ∀ b, some b = (Value.slice A l.length c).ownBlock → B0 ≤ b ∧ b < xb := fun b e => by have := HI2.out.mkl.base_le e.symm; omega
        have hln : xb < wn.heap.size := lt_of_heap HMN.out.xc
        have HIN := Lib.hid (HI2.out.keep HMN.out.fr HMN.out.case hgl HSG.out)
        have HTB := Lib.hid (show ∀ b, (xb < b ∧ b < wn.heap.size) → False ∨ Beh B0 wn (.slice A l.length c) b from fun b hb => .inr ⟨by omega, hb.2, fun e => by have := (HI2.out.mkl.base_le e.symm).2; have := hb.1; omega⟩)
        go_wp2_with (at_builtin; refine wpList_append_mkf rfl (.tmp 108) (.tmp 110) 48 rfl B0 (fun _ => False) 53 i0 _ 3 56 Try.underlying48 hi hz0 hz1 hz2 rfl (by decide) _ _ _ _ _ HIN.out.mkl rfl (encChg (⟨t, old, rw_⟩ : Chg)) #[.int .i64 (t : Int), .slice OA old.length oc, .slice RA rw_.length rc] (vals_chg ⟨HON.out.1, HON.out.2.more HTB.out⟩ ⟨HNN.out.1, HNN.out.2.more HTB.out⟩) (encChg_plain _) (encChg_size _) 1 rfl (by omega) (by omega) ?_; intro g7 cap7 wl hm7 hb7 hlt7 hf7 hat7; have HM7 := Lib.hid hm7; have HF7 := Lib.hid hf7; have HAT7 := Lib.hid hat7; have hz7 := hf7.size; have v0 := (hf7.cell (b := w.heap.size) (o := 0) (by omega) (fun e => by have := hown _ e; omega)).trans HIN.out.b0; have v1 := (hf7.cell (b := w.heap.size) (o := 1) (by omega) (fun e => by have := hown _ e; omega)).trans HIN.out.b1; have v2 := (hf7.cell (b := w.heap.size + 1) (o := 0) (by omega) (fun e => by have := hown _ e; omega)).trans HIN.out.s0; have v5 := (hf7.frozenF (b := w.heap.size + 1) (o := 0) (by omega) (fun e => by have := hown _ e; omega)).trans HIN.out.sf; have v3 := (hf7.cell (b := xb) (o := 0) (by omega) (fun e => by have := hown _ e; omega)).trans n0; have v4 := (hf7.cell (b := xb) (o := 2) (by omega) (fun e => by have := hown _ e; omega)).trans n2'; clear hm7 hb7 hlt7 hf7 hat7)
        have HL := Lib.hid (HIN.out.push (x := (⟨t, old, rw_⟩ : Chg)) hgl HSG.out HM7.out HF7.out HAT7.out)
        have HXL := Lib.hid ((HF7.out.block xb (lt_of_heap HMN.out.xc) (fun e => by have := hown _ e; omega)).trans HMN.out.xc)
        have HKL := Lib.hid (show RowT wl xb KA kc key from ⟨HKN.out.1, (HKN.out.2.keep (HF7.out.same (fun b hb => ⟨hb.2, fun e => by have := hown _ e; have := hb.1; omega⟩))).more (fun b hb => ⟨hb.1, by have := hb.2; omega⟩)⟩)
        have HNL := Lib.hid (show RowT wl xb RA rc (rw_) from ⟨HNN.out.1, (HNN.out.2.keep (HF7.out.same (fun b hb => ⟨hb.2, fun e => by have := hown _ e; have := hb.1; omega⟩))).more (fun b hb => ⟨hb.1, by have := hb.2; omega⟩)⟩)
        have HCH := Lib.hid (show validC s m (⟨t, old, rw_⟩ : Chg) = true ∧ fitsC s (⟨t, old, rw_⟩ : Chg) (cur.getD t []) = true ∧ keyC s (⟨t, old, rw_⟩ : Chg) = key from by
         have h9 := chg_ok HGS.out.wide HCO.out htl HFR.out (b := true) (x := (⟨t, old, rw_⟩ : Chg)) (by rw [HKQ.out, HOQ.out]; exact fun _ => rfl) (by rw [HKQ.out, HOQ.out]; rfl)
         rw [HKQ.out] at h9
         exact h9)
        have hTL : ∀ b, (xb < b ∧ b < wl.heap.size) → some b ≠ (Value.slice (some ⟨g7, 0, none⟩) (l ++ [(⟨t, old, rw_⟩ : Chg)]).length cap7).ownBlock → (S b ∨ (w.heap.size + 3 ≤ b ∧ b < B0 ∧ b ≠ gt) ∨ Beh B0 wl (.slice (some ⟨g7, 0, none⟩) (l ++ [(⟨t, old, rw_⟩ : Chg)]).length cap7) b) := fun b hb hne => .inr (.inr ⟨by omega, hb.2, hne⟩)
        have hg7n : ∀ b, (xb < b ∧ b < wn.heap.size) → some b ≠ (Value.slice (some ⟨g7, 0, none⟩) (l ++ [(⟨t, old, rw_⟩ : Chg)]).length cap7).ownBlock := fun b hb e => by
         have e9 : b = g7 := by simpa [Value.ownBlock] using e
         rcases HAT7.out with h9 | h9
         · have := hown g7 h9.symm; omega
         · omega
        have hput := rput_any (some ⟨bT, oT, none⟩) c0' s gt cc cur t KA kc key RA rc (rw_) (fun b => S b ∨ (w.heap.size + 3 ≤ b ∧ b < B0 ∧ b ≠ gt) ∨ Beh B0 wl (.slice (some ⟨g7, 0, none⟩) (l ++ [(⟨t, old, rw_⟩ : Chg)]).length cap7) b) wl ((HS.out.keep (show Same S w wl from fun b hb => (HL.out).gr.block b (hSw b hb) (fun e => (HSG.out b hb).2 (by injection e)))).more (fun b hb => .inl hb)) HL.out.stc (((HKN.out.2.keep (HF7.out.same (fun b hb => ⟨hb.2, fun e => by have := hown _ e; have := hb.1; omega⟩))).more (fun b hb => hTL b ⟨hb.1, by have := hb.2; omega⟩ (hg7n b hb)))) (((HNN.out.2.keep (HF7.out.same (fun b hb => ⟨hb.2, fun e => by have := hown _ e; have := hb.1; omega⟩))).more (fun b hb => hTL b ⟨hb.1, by have := hb.2; omega⟩ (hg7n b hb)))) htl htc (by have := getD_le_count cur t; have := HCT.out; omega) (by have := HCL.out; omega)
        rw [HCL.out] at hput
        have HPUT := Lib.hid hput
        have hzl : xb < wl.heap.size := lt_of_heap HXL.out
        clear hput hTL hg7n hown hq
        have hlw3 : w.heap.size + 3 < wl.heap.size := by omega
        refine HPUT.out.mono ?_
        rintro e wp ⟨rfl, hstp, hfp⟩
        have HSTP := Lib.hid hstp
        have HFP := Lib.hid hfp
        have hzp := hfp.size
        have tf := (hfp.frozenF (b := w.heap.size + 1) (o := 0) (by show _ < wl.heap.size; omega) (by omega)).trans v5
        have tc := (hfp.cell (b := w.heap.size + 1) (o := 0) (by show _ < wl.heap.size; omega) (by omega)).trans v2
        clear hstp hfp v0 v1 v2 v3 v4 v5
        have HF := Lib.hid (HL.out.put hgl HSG.out HSTP.out HFP.out)
        have HPE := Lib.hid (put_chg HCO.out htc (x := (⟨t, old, rw_⟩ : Chg)) rfl HCH.out.2.2)
        go_wp2_with fail
        go_roundw
        case rel =>
         have hf9 := HF.out
         rw [show (rw_) = ((⟨t, old, rw_⟩ : Chg)).new from rfl, HPE.out] at hf9
         exact ⟨n1, l ++ [(⟨t, old, rw_⟩ : Chg)], some ⟨g7, 0, none⟩, cap7, _, by simp; omega, by simp, by go_num, hf9, (step_ok HCO.out HCH.out.1).1, Fit.snoc HFI.out HCH.out.1 (by rw [← HAF.out]; exact HCH.out.2.1), by rw [after_snoc, ← HAF.out]⟩
        case measure => (simp [intOf]; try omega)
      · have hq : ((old.length : Int) == 0) = false := by simp; intro e; rw [e] at ho0; simp at ho0
        have HO0 := Lib.hid ho0
        clear ho0
        go_wp2_with fail
        have HMG1 := Lib.hid (HMG.out.set 1 (.slice OA old.length oc) hgx' hxz)
        refine (bool_any g 3 _ (by omega) (by omega) HMG1.out.case).mono ?_
        rintro e wh ⟨bb, rfl, hcb, hgb, hsb⟩
        have HMH := Lib.hid (HMG1.out.calls (fr_of hgb) hcb hgx')
        have HKH := Lib.hid (show RowT wh xb KA kc key from (HKYG.out.step (Fr.or_set (g := g) (xb := xb) 1 (.slice OA old.length oc)) hgx').step (Fr.or_g (fr_of hgb)) hgx')
        have HRH := Lib.hid (show RowT wh xb RA rc rw_ from (HRTG.out.step (Fr.or_set (g := g) (xb := xb) 1 (.slice OA old.length oc)) hgx').step (Fr.or_g (fr_of hgb)) hgx')
        have HOH := Lib.hid (show RowT wh xb OA oc old from (HOL.out.step (Fr.or_set (g := g) (xb := xb) 1 (.slice OA old.length oc)) hgx').step (Fr.or_g (fr_of hgb)) hgx')
        have hzh : wh.heap.size = wg.heap.size := by simpa using hsb
        have e0 : wh.cell? ⟨xb, 0, none⟩ = some (.int .i64 (t : Int)) := cells_of_block HMH.out.xc 0 _ rfl
        have e1 : wh.cell? ⟨xb, 1, none⟩ = some (.slice OA old.length oc) := cells_of_block HMH.out.xc 1 _ rfl
        have e2 : wh.cell? ⟨xb, 2, none⟩ = some (.slice none 0 0) := cells_of_block HMH.out.xc 2 _ rfl
        have g2 : wh.frozen? ⟨xb, 2, none⟩ = false := by simp [World.frozen?, HMH.out.xc]
        have hlh : xb < wh.heap.size := lt_of_heap HMH.out.xc
        clear hcb hgb hsb c0 c1 c2 f1 f2 hlg hlg1 hzh
        cases bb
        · skip
          obtain ⟨wn, hwn⟩ : ∃ wn, wh.setCell ⟨xb, 2, none⟩ (.slice RA rw_.length rc) = wn := ⟨_, rfl⟩
          have HMN := Lib.hid (HMH.out.set 2 (.slice RA rw_.length rc) hgx' hxz)
          have HKN := Lib.hid (show RowT (wh.setCell ⟨xb, 2, none⟩ (.slice RA rw_.length rc)) xb KA kc key from HKH.out.step (Fr.or_set (g := g) (xb := xb) 2 (.slice RA rw_.length rc)) hgx')
          have HON := Lib.hid (show RowT (wh.setCell ⟨xb, 2, none⟩ (.slice RA rw_.length rc)) xb OA oc old from HOH.out.step (Fr.or_set (g := g) (xb := xb) 2 (.slice RA rw_.length rc)) hgx')
          have HNN := Lib.hid (show RowT (wh.setCell ⟨xb, 2, none⟩ (.slice RA rw_.length rc)) xb RA rc (rw_) from HRH.out.step (Fr.or_set (g := g) (xb := xb) 2 (.slice RA rw_.length rc)) hgx')
          rw [hwn] at HMN HKN HON HNN
          have n0 : wn.cell? ⟨xb, 0, none⟩ = some (.int .i64 (t : Int)) := cells_of_block HMN.out.xc 0 _ rfl
          have n1' : wn.cell? ⟨xb, 1, none⟩ = some (.slice OA old.length oc) := cells_of_block HMN.out.xc 1 _ rfl
          have n2' : wn.cell? ⟨xb, 2, none⟩ = some (.slice RA (rw_).length rc) := cells_of_block HMN.out.xc 2 _ rfl
          have hown : ∀ b, some b = (Value.slice A l.length c).ownBlock → B0 ≤ b ∧ b < xb := fun b e => by have := HI2.out.mkl.base_le e.symm; omega
          have hln : xb < wn.heap.size := lt_of_heap HMN.out.xc
          have HIN := Lib.hid (HI2.out.keep HMN.out.fr HMN.out.case hgl HSG.out)
          have HTB := Lib.hid (show ∀ b, (xb < b ∧ b < wn.heap.size) → False ∨ Beh B0 wn (.slice A l.length c) b from fun b hb => .inr ⟨by omega, hb.2, fun e => by have := (HI2.out.mkl.base_le e.symm).2; have := hb.1; omega⟩)
          go_wp2_with (at_builtin; refine wpList_append_mkf rfl (.tmp 108) (.tmp 110) 48 rfl B0 (fun _ => False) 53 i0 _ 3 56 Try.underlying48 hi hz0 hz1 hz2 rfl (by decide) _ _ _ _ _ HIN.out.mkl rfl (encChg (⟨t, old, rw_⟩ : Chg)) #[.int .i64 (t : Int), .slice OA old.length oc, .slice RA rw_.length rc] (vals_chg ⟨HON.out.1, HON.out.2.more HTB.out⟩ ⟨HNN.out.1, HNN.out.2.more HTB.out⟩) (encChg_plain _) (encChg_size _) 1 rfl (by omega) (by omega) ?_; intro g7 cap7 wl hm7 hb7 hlt7 hf7 hat7; have HM7 := Lib.hid hm7; have HF7 := Lib.hid hf7; have HAT7 := Lib.hid hat7; have hz7 := hf7.size; have v0 := (hf7.cell (b := w.heap.size) (o := 0) (by omega) (fun e => by have := hown _ e; omega)).trans HIN.out.b0; have v1 := (hf7.cell (b := w.heap.size) (o := 1) (by omega) (fun e => by have := hown _ e; omega)).trans HIN.out.b1; have v2 := (hf7.cell (b := w.heap.size + 1) (o := 0) (by omega) (fun e => by have := hown _ e; omega)).trans HIN.out.s0; have v5 := (hf7.frozenF (b := w.heap.size + 1) (o := 0) (by omega) (fun e => by have := hown _ e; omega)).trans HIN.out.sf; have v3 := (hf7.cell (b := xb) (o := 0) (by omega) (fun e => by have := hown _ e; omega)).trans n0; have v4 := (hf7.cell (b := xb) (o := 2) (by omega) (fun e => by have := hown _ e; omega)).trans n2'; clear hm7 hb7 hlt7 hf7 hat7)
          have HL := Lib.hid (HIN.out.push (x := (⟨t, old, rw_⟩ : Chg)) hgl HSG.out HM7.out HF7.out HAT7.out)
          have HXL := Lib.hid ((HF7.out.block xb (lt_of_heap HMN.out.xc) (fun e => by have := hown _ e; omega)).trans HMN.out.xc)
          have HKL := Lib.hid (show RowT wl xb KA kc key from ⟨HKN.out.1, (HKN.out.2.keep (HF7.out.same (fun b hb => ⟨hb.2, fun e => by have := hown _ e; have := hb.1; omega⟩))).more (fun b hb => ⟨hb.1, by have := hb.2; omega⟩)⟩)
          have HNL := Lib.hid (show RowT wl xb RA rc (rw_) from ⟨HNN.out.1, (HNN.out.2.keep (HF7.out.same (fun b hb => ⟨hb.2, fun e => by have := hown _ e; have := hb.1; omega⟩))).more (fun b hb => ⟨hb.1, by have := hb.2; omega⟩)⟩)
          have HCH := Lib.hid (show validC s m (⟨t, old, rw_⟩ : Chg) = true ∧ fitsC s (⟨t, old, rw_⟩ : Chg) (cur.getD t []) = true ∧ keyC s (⟨t, old, rw_⟩ : Chg) = key from by
           have h9 := chg_ok HGS.out.wide HCO.out htl HFR.out (b := true) (x := (⟨t, old, rw_⟩ : Chg)) (by rw [HKQ.out, HOQ.out]; exact fun _ => rfl) (by rw [HKQ.out, HOQ.out]; rfl)
           rw [HKQ.out] at h9
           exact h9)
          have hTL : ∀ b, (xb < b ∧ b < wl.heap.size) → some b ≠ (Value.slice (some ⟨g7, 0, none⟩) (l ++ [(⟨t, old, rw_⟩ : Chg)]).length cap7).ownBlock → (S b ∨ (w.heap.size + 3 ≤ b ∧ b < B0 ∧ b ≠ gt) ∨ Beh B0 wl (.slice (some ⟨g7, 0, none⟩) (l ++ [(⟨t, old, rw_⟩ : Chg)]).length cap7) b) := fun b hb hne => .inr (.inr ⟨by omega, hb.2, hne⟩)
          have hg7n : ∀ b, (xb < b ∧ b < wn.heap.size) → some b ≠ (Value.slice (some ⟨g7, 0, none⟩) (l ++ [(⟨t, old, rw_⟩ : Chg)]).length cap7).ownBlock := fun b hb e => by
           have e9 : b = g7 := by simpa [Value.ownBlock] using e
           rcases HAT7.out with h9 | h9
           · have := hown g7 h9.symm; omega
           · omega
          have hput := rput_any (some ⟨bT, oT, none⟩) c0' s gt cc cur t KA kc key RA rc (rw_) (fun b => S b ∨ (w.heap.size + 3 ≤ b ∧ b < B0 ∧ b ≠ gt) ∨ Beh B0 wl (.slice (some ⟨g7, 0, none⟩) (l ++ [(⟨t, old, rw_⟩ : Chg)]).length cap7) b) wl ((HS.out.keep (show Same S w wl from fun b hb => (HL.out).gr.block b (hSw b hb) (fun e => (HSG.out b hb).2 (by injection e)))).more (fun b hb => .inl hb)) HL.out.stc (((HKN.out.2.keep (HF7.out.same (fun b hb => ⟨hb.2, fun e => by have := hown _ e; have := hb.1; omega⟩))).more (fun b hb => hTL b ⟨hb.1, by have := hb.2; omega⟩ (hg7n b hb)))) (((HNN.out.2.keep (HF7.out.same (fun b hb => ⟨hb.2, fun e => by have := hown _ e; have := hb.1; omega⟩))).more (fun b hb => hTL b ⟨hb.1, by have := hb.2; omega⟩ (hg7n b hb)))) htl htc (by have := getD_le_count cur t; have := HCT.out; omega) (by have := HCL.out; omega)
          rw [HCL.out] at hput
          have HPUT := Lib.hid hput
          have hzl : xb < wl.heap.size := lt_of_heap HXL.out
          clear hput hTL hg7n hown hq
          have hlw3 : w.heap.size + 3 < wl.heap.size := by omega
          refine HPUT.out.mono ?_
          rintro e wp ⟨rfl, hstp, hfp⟩
          have HSTP := Lib.hid hstp
          have HFP := Lib.hid hfp
          have hzp := hfp.size
          have tf := (hfp.frozenF (b := w.heap.size + 1) (o := 0) (by show _ < wl.heap.size; omega) (by omega)).trans v5
          have tc := (hfp.cell (b := w.heap.size + 1) (o := 0) (by show _ < wl.heap.size; omega) (by omega)).trans v2
          clear hstp hfp v0 v1 v2 v3 v4 v5
          have HF := Lib.hid (HL.out.put hgl HSG.out HSTP.out HFP.out)
          have HPE := Lib.hid (put_chg HCO.out htc (x := (⟨t, old, rw_⟩ : Chg)) rfl HCH.out.2.2)
          go_wp2_with fail
          go_roundw
          case rel =>
           have hf9 := HF.out
           rw [show (rw_) = ((⟨t, old, rw_⟩ : Chg)).new from rfl, HPE.out] at hf9
           exact ⟨n1, l ++ [(⟨t, old, rw_⟩ : Chg)], some ⟨g7, 0, none⟩, cap7, _, by simp; omega, by simp, by go_num, hf9, (step_ok HCO.out HCH.out.1).1, Fit.snoc HFI.out HCH.out.1 (by rw [← HAF.out]; exact HCH.out.2.1), by rw [after_snoc, ← HAF.out]⟩
          case measure => (simp [intOf]; try omega)
        · skip
          obtain ⟨wn, rfl⟩ : ∃ wn : World, wn = wh := ⟨_, rfl⟩
          have HMN := HMH
          have HKN := HKH
          have HON := HOH
          have HNN := Lib.hid (show RowT wn xb none 0 (([] : Row)) from RowT.nil_)
          have n0 := e0
          have n1' := e1
          have n2' := e2
          clear e0 e1 e2
          have hown : ∀ b, some b = (Value.slice A l.length c).ownBlock → B0 ≤ b ∧ b < xb := fun b e => by have := HI2.out.mkl.base_le e.symm; omega
          have hln : xb < wn.heap.size := lt_of_heap HMN.out.xc
          have HIN := Lib.hid (HI2.out.keep HMN.out.fr HMN.out.case hgl HSG.out)
          have HTB := Lib.hid (show ∀ b, (xb < b ∧ b < wn.heap.size) → False ∨ Beh B0 wn (.slice A l.length c) b from fun b hb => .inr ⟨by omega, hb.2, fun e => by have := (HI2.out.mkl.base_le e.symm).2; have := hb.1; omega⟩)
          go_wp2_with (at_builtin; refine wpList_append_mkf rfl (.tmp 108) (.tmp 110) 48 rfl B0 (fun _ => False) 53 i0 _ 3 56 Try.underlying48 hi hz0 hz1 hz2 rfl (by decide) _ _ _ _ _ HIN.out.mkl rfl (encChg (⟨t, old, ([] : Row)⟩ : Chg)) #[.int .i64 (t : Int), .slice OA old.length oc, .slice none 0 0] (vals_chg ⟨HON.out.1, HON.out.2.more HTB.out⟩ ⟨HNN.out.1, HNN.out.2.more HTB.out⟩) (encChg_plain _) (encChg_size _) 1 rfl (by omega) (by omega) ?_; intro g7 cap7 wl hm7 hb7 hlt7 hf7 hat7; have HM7 := Lib.hid hm7; have HF7 := Lib.hid hf7; have HAT7 := Lib.hid hat7; have hz7 := hf7.size; have v0 := (hf7.cell (b := w.heap.size) (o := 0) (by omega) (fun e => by have := hown _ e; omega)).trans HIN.out.b0; have v1 := (hf7.cell (b := w.heap.size) (o := 1) (by omega) (fun e => by have := hown _ e; omega)).trans HIN.out.b1; have v2 := (hf7.cell (b := w.heap.size + 1) (o := 0) (by omega) (fun e => by have := hown _ e; omega)).trans HIN.out.s0; have v5 := (hf7.frozenF (b := w.heap.size + 1) (o := 0) (by omega) (fun e => by have := hown _ e; omega)).trans HIN.out.sf; have v3 := (hf7.cell (b := xb) (o := 0) (by omega) (fun e => by have := hown _ e; omega)).trans n0; have v4 := (hf7.cell (b := xb) (o := 2) (by omega) (fun e => by have := hown _ e; omega)).trans n2'; clear hm7 hb7 hlt7 hf7 hat7)
          have HL := Lib.hid (HIN.out.push (x := (⟨t, old, ([] : Row)⟩ : Chg)) hgl HSG.out HM7.out HF7.out HAT7.out)
          have HXL := Lib.hid ((HF7.out.block xb (lt_of_heap HMN.out.xc) (fun e => by have := hown _ e; omega)).trans HMN.out.xc)
          have HKL := Lib.hid (show RowT wl xb KA kc key from ⟨HKN.out.1, (HKN.out.2.keep (HF7.out.same (fun b hb => ⟨hb.2, fun e => by have := hown _ e; have := hb.1; omega⟩))).more (fun b hb => ⟨hb.1, by have := hb.2; omega⟩)⟩)
          have HNL := Lib.hid (show RowT wl xb none 0 (([] : Row)) from ⟨HNN.out.1, (HNN.out.2.keep (HF7.out.same (fun b hb => ⟨hb.2, fun e => by have := hown _ e; have := hb.1; omega⟩))).more (fun b hb => ⟨hb.1, by have := hb.2; omega⟩)⟩)
          have HCH := Lib.hid (show validC s m (⟨t, old, ([] : Row)⟩ : Chg) = true ∧ fitsC s (⟨t, old, ([] : Row)⟩ : Chg) (cur.getD t []) = true ∧ keyC s (⟨t, old, ([] : Row)⟩ : Chg) = key from by
           have h9 := chg_ok HGS.out.wide HCO.out htl HFR.out (b := false) (x := (⟨t, old, ([] : Row)⟩ : Chg)) (by rw [HKQ.out, HOQ.out]; intro e; exact absurd (by rw [e]; rfl) HO0.out) (by rw [HKQ.out, HOQ.out]; rfl)
           rw [HKQ.out] at h9
           exact h9)
          have hTL : ∀ b, (xb < b ∧ b < wl.heap.size) → some b ≠ (Value.slice (some ⟨g7, 0, none⟩) (l ++ [(⟨t, old, ([] : Row)⟩ : Chg)]).length cap7).ownBlock → (S b ∨ (w.heap.size + 3 ≤ b ∧ b < B0 ∧ b ≠ gt) ∨ Beh B0 wl (.slice (some ⟨g7, 0, none⟩) (l ++ [(⟨t, old, ([] : Row)⟩ : Chg)]).length cap7) b) := fun b hb hne => .inr (.inr ⟨by omega, hb.2, hne⟩)
          have hg7n : ∀ b, (xb < b ∧ b < wn.heap.size) → some b ≠ (Value.slice (some ⟨g7, 0, none⟩) (l ++ [(⟨t, old, ([] : Row)⟩ : Chg)]).length cap7).ownBlock := fun b hb e => by
           have e9 : b = g7 := by simpa [Value.ownBlock] using e
           rcases HAT7.out with h9 | h9
           · have := hown g7 h9.symm; omega
           · omega
          have hput := rput_any (some ⟨bT, oT, none⟩) c0' s gt cc cur t KA kc key none 0 (([] : Row)) (fun b => S b ∨ (w.heap.size + 3 ≤ b ∧ b < B0 ∧ b ≠ gt) ∨ Beh B0 wl (.slice (some ⟨g7, 0, none⟩) (l ++ [(⟨t, old, ([] : Row)⟩ : Chg)]).length cap7) b) wl ((HS.out.keep (show Same S w wl from fun b hb => (HL.out).gr.block b (hSw b hb) (fun e => (HSG.out b hb).2 (by injection e)))).more (fun b hb => .inl hb)) HL.out.stc (((HKN.out.2.keep (HF7.out.same (fun b hb => ⟨hb.2, fun e => by have := hown _ e; have := hb.1; omega⟩))).more (fun b hb => hTL b ⟨hb.1, by have := hb.2; omega⟩ (hg7n b hb)))) (((HNN.out.2.keep (HF7.out.same (fun b hb => ⟨hb.2, fun e => by have := hown _ e; have := hb.1; omega⟩))).more (fun b hb => hTL b ⟨hb.1, by have := hb.2; omega⟩ (hg7n b hb)))) htl htc (by have := getD_le_count cur t; have := HCT.out; omega) (by have := HCL.out; omega)
          rw [HCL.out] at hput
          have HPUT := Lib.hid hput
          have hzl : xb < wl.heap.size := lt_of_heap HXL.out
          clear hput hTL hg7n hown hq
          have hlw3 : w.heap.size + 3 < wl.heap.size := by omega
          refine HPUT.out.mono ?_
          rintro e wp ⟨rfl, hstp, hfp⟩
          have HSTP := Lib.hid hstp
          have HFP := Lib.hid hfp
          have hzp := hfp.size
          have tf := (hfp.frozenF (b := w.heap.size + 1) (o := 0) (by show _ < wl.heap.size; omega) (by omega)).trans v5
          have tc := (hfp.cell (b := w.heap.size + 1) (o := 0) (by show _ < wl.heap.size; omega) (by omega)).trans v2
          clear hstp hfp v0 v1 v2 v3 v4 v5
          have HF := Lib.hid (HL.out.put hgl HSG.out HSTP.out HFP.out)
          have HPE := Lib.hid (put_chg HCO.out htc (x := (⟨t, old, ([] : Row)⟩ : Chg)) rfl HCH.out.2.2)
          go_wp2_with fail
          go_roundw
          case rel =>
           have hf9 := HF.out
           rw [show (([] : Row)) = ((⟨t, old, ([] : Row)⟩ : Chg)).new from rfl, HPE.out] at hf9
           exact ⟨n1, l ++ [(⟨t, old, ([] : Row)⟩ : Chg)], some ⟨g7, 0, none⟩, cap7, _, by simp; omega, by simp, by go_num, hf9, (step_ok HCO.out HCH.out.1).1, Fit.snoc HFI.out HCH.out.1 (by rw [← HAF.out]; exact HCH.out.2.1), by rw [after_snoc, ← HAF.out]⟩
          case measure => (simp [intOf]; try omega)
    · have hd0 : decide (0 < rows.length) = true := decide_eq_true (by omega)
      have hd1 : (0 : Int) < (rows.length : Int) := by omega
      go_wp2_with fail
      refine (bool_any g 2 _ (by omega) (by omega) HMQ.out.case).mono ?_
      rintro e wb ⟨bb, rfl, hcb, hgb, hsb⟩
      have HMB := Lib.hid (HMQ.out.calls (fr_of hgb) hcb hgx')
      have HRTB := Lib.hid (HRTQ.out.step (xb := xb) (Fr.or_g (fr_of hgb)) hgx')
      have HRSB := Lib.hid (HRS.out.keep (w' := wb) (fun b hb => hgb.block b (HIQ.out.stc.mem b hb).1 (fun e => by
       injection e with e
       rcases hb with hb | hb | hb
       · exact (HSG.out b hb).2 e
       · omega
       · have := hb.1; omega)))
      have HROWB := Lib.hid (ownsRow_keep HROW.out (w' := wb) (fun q hq => hgb.block q (own_lt HROW.out hq) (fun e => by injection e with e; have := own_base HROW.out hq; omega)))
      have hzb : wb.heap.size = wq.heap.size := hsb
      clear hcb hgb hsb
      cases bb
      · skip
        obtain ⟨rw_, rfl⟩ : ∃ rw_, rw_ = row := ⟨_, rfl⟩
        obtain ⟨wy, rfl⟩ : ∃ wy : World, wy = wb := ⟨_, rfl⟩
        have HMY := HMB
        have HRT := HRTB
        have HRK := HROK
        have HFR := HFIT
        have HIY := Lib.hid (HI2.out.keep HMY.out.fr HMY.out.case hgl HSG.out)
        have y0 := HIY.out.b0
        have y1 := HIY.out.b1
        have y2 : wy.cell? ⟨xb, 0, none⟩ = some (.int .i64 (t : Int)) := cells_of_block HMY.out.xc 0 _ rfl
        have hzy : xb < wy.heap.size := lt_of_heap HMY.out.xc
        go_wp2_with fail
        clear s0 d1
        refine (rkey_any (some ⟨bT, oT, none⟩) c0' s t RA rc rw_ (fun b => b < wy.heap.size) _ ((HS.out.keep (show Same S w wy from fun b hb => (HIY.out).gr.block b (hSw b hb) (fun e => (HSG.out b hb).2 (by injection e)))).more (fun b hb => by have := hSw b hb; show b < wy.heap.size; omega)) (HRT.out.2.more (fun b hb => hb.2)) HRT.out.1 (fun b hb => hb)).mono ?_
        rintro e wk ⟨KA, kc, rfl, hkey, hbk⟩
        have HKY := Lib.hid (show RowT wk xb KA kc (keyF s (t : Int) rw_) from ⟨(new_row hkey (rowOk_key HRK.out) (Nat.le_refl _)).1, (new_row hkey (rowOk_key HRK.out) (Nat.le_refl _)).2.more (fun b hb => ⟨by have h9 : wy.heap.size ≤ b := hb.1; omega, hb.2⟩)⟩)
        have HMK0 := Lib.hid (HMY.out.below hbk hgx')
        have HRTK := Lib.hid (HRT.out.step (xb := xb) (Fr.or_g (g := g) (Fr.of_below hbk)) hgx')
        have hzk0 := hbk.size
        clear hkey hbk y0 y1 y2
        obtain ⟨key, hkeq⟩ : ∃ key, keyF s (t : Int) rw_ = key := ⟨_, rfl⟩
        rw [hkeq] at HKY ⊢
        have HKQ := Lib.hid hkeq
        clear hkeq
        have HIK := Lib.hid (HI2.out.keep HMK0.out.fr HMK0.out.case hgl HSG.out)
        have y0 := HIK.out.b0
        have y1 := HIK.out.b1
        have y3 := HIK.out.s0
        have y2 : wk.cell? ⟨xb, 0, none⟩ = some (.int .i64 (t : Int)) := cells_of_block HMK0.out.xc 0 _ rfl
        go_wp2_with fail
        have hget := rget_any (some ⟨bT, oT, none⟩) c0' s (some ⟨gt, 0, none⟩) cc cur t KA kc key (fun b => b < wk.heap.size) wk ((HS.out.keep (show Same S w wk from fun b hb => (HIK.out).gr.block b (hSw b hb) (fun e => (HSG.out b hb).2 (by injection e)))).more (fun b hb => by have := hSw b hb; show b < wk.heap.size; omega)) (HIK.out.stc.slice (by have := HCL.out; omega) (fun b hb => (HIK.out.stc.mem b hb).1) (by show gt < wk.heap.size; omega)) (HKY.out.2.more (fun b hb => hb.2)) (fun b hb => hb)
        rw [HCL.out] at hget
        refine hget.mono ?_
        rintro e wg ⟨OA, oc, rfl, hold, hbg⟩
        rw [getS_look htl htc key] at hold ⊢
        obtain ⟨old, hoq⟩ : ∃ old, look s cur t key = old := ⟨_, rfl⟩
        have HOFT := Lib.hid (show old = [] ∨ fitsF s t old m = true by
         by_cases h0 : 0 < old.length
         · exact .inr (look_fits HCO.out htc hoq h0)
         · exact .inl (List.eq_nil_of_length_eq_zero (by omega)))
        rw [hoq] at hold ⊢
        have HOQ := Lib.hid hoq
        have HOL := Lib.hid (show RowT wg xb OA oc old from ⟨(new_row hold (rowOk_fits HGS.out htl HOFT.out) (Nat.le_refl _)).1, (new_row hold (rowOk_fits HGS.out htl HOFT.out) (Nat.le_refl _)).2.more (fun b hb => ⟨by have h9 : wk.heap.size ≤ b := hb.1; omega, hb.2⟩)⟩)
        have HMG := Lib.hid (HMK0.out.below hbg hgx')
        have HRTG := Lib.hid (HRTK.out.step (xb := xb) (Fr.or_g (g := g) (Fr.of_below hbg)) hgx')
        have HKYG := Lib.hid (HKY.out.step (xb := xb) (Fr.or_g (g := g) (Fr.of_below hbg)) hgx')
        have hzg := hbg.size
        clear hoq hold hbg hget y0 y1 y2 y3
        have c0 : wg.cell? ⟨xb, 0, none⟩ = some (.int .i64 (t : Int)) := cells_of_block HMG.out.xc 0 _ rfl
        have c1 : wg.cell? ⟨xb, 1, none⟩ = some (.slice none 0 0) := cells_of_block HMG.out.xc 1 _ rfl
        have c2 : wg.cell? ⟨xb, 2, none⟩ = some (.slice none 0 0) := cells_of_block HMG.out.xc 2 _ rfl
        have f1 : wg.frozen? ⟨xb, 1, none⟩ = false := by simp [World.frozen?, HMG.out.xc]
        have f2 : wg.frozen? ⟨xb, 2, none⟩ = false := by simp [World.frozen?, HMG.out.xc]
        have hlg : xb < wg.heap.size := lt_of_heap HMG.out.xc
        have hlg1 : xb < wg.heap.size + 1 := by omega
        by_cases ho0 : old.length = 0
        · have hq : ((old.length : Int) == 0) = true := by simp [ho0]
          clear ho0
          obtain ⟨wn, hwn⟩ : ∃ wn, (wg.setCell ⟨xb, 1, none⟩ (.slice OA old.length oc)).setCell ⟨xb, 2, none⟩ (.slice RA rw_.length rc) = wn := ⟨_, rfl⟩
          have HMN := Lib.hid ((HMG.out.set 1 (.slice OA old.length oc) hgx' hxz).set 2 (.slice RA rw_.length rc) hgx' hxz)
          have HKN := Lib.hid (show RowT ((wg.setCell ⟨xb, 1, none⟩ (.slice OA old.length oc)).setCell ⟨xb, 2, none⟩ (.slice RA rw_.length rc)) xb KA kc key from (HKYG.out.step (Fr.or_set (g := g) (xb := xb) 1 (.slice OA old.length oc)) hgx').step (Fr.or_set (g := g) (xb := xb) 2 (.slice RA rw_.length rc)) hgx')
          have HON := Lib.hid (show RowT ((wg.setCell ⟨xb, 1, none⟩ (.slice OA old.length oc)).setCell ⟨xb, 2, none⟩ (.slice RA rw_.length rc)) xb OA oc old from (HOL.out.step (Fr.or_set (g := g) (xb := xb) 1 (.slice OA old.length oc)) hgx').step (Fr.or_set (g := g) (xb := xb) 2 (.slice RA rw_.length rc)) hgx')
          have HNN := Lib.hid (show RowT ((wg.setCell ⟨xb, 1, none⟩ (.slice OA old.length oc)).setCell ⟨xb, 2, none⟩ (.slice RA rw_.length rc)) xb RA rc (rw_) from (HRTG.out.step (Fr.or_set (g := g) (xb := xb) 1 (.slice OA old.length oc)) hgx').step (Fr.or_set (g := g) (xb := xb) 2 (.slice RA rw_.length rc)) hgx')
          rw [hwn] at HMN HKN HON HNN
          have n0 : wn.cell? ⟨xb, 0, none⟩ = some (.int .i64 (t : Int)) := cells_of_block HMN.out.xc 0 _ rfl
          have n1' : wn.cell? ⟨xb, 1, none⟩ = some (.slice OA old.length oc) := cells_of_block HMN.out.xc 1 _ rfl
          have n2' : wn.cell? ⟨xb, 2, none⟩ = some (.slice RA (rw_).length rc) := cells_of_block HMN.out.xc 2 _ rfl
          have hown : ∀ b, some b = (Value.slice A l.length c).ownBlock → B0 ≤ b ∧ b < xb := fun b e => by have := HI2.out.mkl.base_le e.symm; omega
          have hln : xb < wn.heap.size := lt_of_heap HMN.out.xc
          have HIN := Lib.hid (HI2.out.keep HMN.out.fr HMN.out.case hgl HSG.out)
          have HTB := Lib.hid (show ∀ b, (xb < b ∧ b < wn.heap.size) → False ∨ Beh B0 wn (.slice A l.length c) b from fun b hb => .inr ⟨by omega, hb.2, fun e => by have := (HI2.out.mkl.base_le e.symm).2; have := hb.1; omega⟩)
          go_wp2_with (at_builtin; refine wpList_append_mkf rfl (.tmp 108) (.tmp 110) 48 rfl B0 (fun _ => False) 53 i0 _ 3 56 Try.underlying48 hi hz0 hz1 hz2 rfl (by decide) _ _ _ _ _ HIN.out.mkl rfl (encChg (⟨t, old, rw_⟩ : Chg)) #[.int .i64 (t : Int), .slice OA old.length oc, .slice RA rw_.length rc] (vals_chg ⟨HON.out.1, HON.out.2.more HTB.out⟩ ⟨HNN.out.1, HNN.out.2.more HTB.out⟩) (encChg_plain _) (encChg_size _) 1 rfl (by omega) (by omega) ?_; intro g7 cap7 wl hm7 hb7 hlt7 hf7 hat7; have HM7 := Lib.hid hm7; have HF7 := Lib.hid hf7; have HAT7 := Lib.hid hat7; have hz7 := hf7.size; have v0 := (hf7.cell (b := w.heap.size) (o := 0) (by omega) (fun e => by have := hown _ e; omega)).trans HIN.out.b0; have v1 := (hf7.cell (b := w.heap.size) (o := 1) (by omega) (fun e => by have := hown _ e; omega)).trans HIN.out.b1; have v2 := (hf7.cell (b := w.heap.size + 1) (o := 0) (by omega) (fun e => by have := hown _ e; omega)).trans HIN.out.s0; have v5 := (hf7.frozenF (b := w.heap.size + 1) (o := 0) (by omega) (fun e => by have := hown _ e; omega)).trans HIN.out.sf; have v3 := (hf7.cell (b := xb) (o := 0) (by omega) (fun e => by have := hown _ e; omega)).trans n0; have v4 := (hf7.cell (b := xb) (o := 2) (by omega) (fun e => by have := hown _ e; omega)).trans n2'; clear hm7 hb7 hlt7 hf7 hat7)
          have HL := Lib.hid (HIN.out.push (x := (⟨t, old, rw_⟩ : Chg)) hgl HSG.out HM7.out HF7.out HAT7.out)
          have HXL := Lib.hid ((HF7.out.block xb (lt_of_heap HMN.out.xc) (fun e => by have := hown _ e; omega)).trans HMN.out.xc)
          have HKL := Lib.hid (show RowT wl xb KA kc key from ⟨HKN.out.1, (HKN.out.2.keep (HF7.out.same (fun b hb => ⟨hb.2, fun e => by have := hown _ e; have := hb.1; omega⟩))).more (fun b hb => ⟨hb.1, by have := hb.2; omega⟩)⟩)
          have HNL := Lib.hid (show RowT wl xb RA rc (rw_) from ⟨HNN.out.1, (HNN.out.2.keep (HF7.out.same (fun b hb => ⟨hb.2, fun e => by have := hown _ e; have := hb.1; omega⟩))).more (fun b hb => ⟨hb.1, by have := hb.2; omega⟩)⟩)
          have HCH := Lib.hid (show validC s m (⟨t, old, rw_⟩ : Chg) = true ∧ fitsC s (⟨t, old, rw_⟩ : Chg) (cur.getD t []) = true ∧ keyC s (⟨t, old, rw_⟩ : Chg) = key from by
           have h9 := chg_ok HGS.out.wide HCO.out htl HFR.out (b := true) (x := (⟨t, old, rw_⟩ : Chg)) (by rw [HKQ.out, HOQ.out]; exact fun _ => rfl) (by rw [HKQ.out, HOQ.out]; rfl)
           rw [HKQ.out] at h9
           exact h9)
          have hTL : ∀ b, (xb < b ∧ b < wl.heap.size) → some b ≠ (Value.slice (some ⟨g7, 0, none⟩) (l ++ [(⟨t, old, rw_⟩ : Chg)]).length cap7).ownBlock → (S b ∨ (w.heap.size + 3 ≤ b ∧ b < B0 ∧ b ≠ gt) ∨ Beh B0 wl (.slice (some ⟨g7, 0, none⟩) (l ++ [(⟨t, old, rw_⟩ : Chg)]).length cap7) b) := fun b hb hne => .inr (.inr ⟨by omega, hb.2, hne⟩)
          have hg7n : ∀ b, (xb < b ∧ b < wn.heap.size) → some b ≠ (Value.slice (some ⟨g7, 0, none⟩) (l ++ [(⟨t, old, rw_⟩ : Chg)]).length cap7).ownBlock := fun b hb e => by
           have e9 : b = g7 := by simpa [Value.ownBlock] using e
           rcases HAT7.out with h9 | h9
           · have := hown g7 h9.symm; omega
           · omega
          have hput := rput_any (some ⟨bT, oT, none⟩) c0' s gt cc cur t KA kc key RA rc (rw_) (fun b => S b ∨ (w.heap.size + 3 ≤ b ∧ b < B0 ∧ b ≠ gt) ∨ Beh B0 wl (.slice (some ⟨g7, 0, none⟩) (l ++ [(⟨t, old, rw_⟩ : Chg)]).length cap7) b) wl ((HS.out.keep (show Same S w wl from fun b hb => (HL.out).gr.block b (hSw b hb) (fun e => (HSG.out b hb).2 (by injection e)))).more (fun b hb => .inl hb)) HL.out.stc (((HKN.out.2.keep (HF7.out.same (fun b hb => ⟨hb.2, fun e => by have := hown _ e; have := hb.1; omega⟩))).more (fun b hb => hTL b ⟨hb.1, by have := hb.2; omega⟩ (hg7n b hb)))) (((HNN.out.2.keep (HF7.out.same (fun b hb => ⟨hb.2, fun e => by have := hown _ e; have := hb.1; omega⟩))).more (fun b hb => hTL b ⟨hb.1, by have := hb.2; omega⟩ (hg7n b hb)))) htl htc (by have := getD_le_count cur t; have := HCT.out; omega) (by have := HCL.out; omega)
          rw [HCL.out] at hput
          have HPUT := Lib.hid hput
          have hzl : xb < wl.heap.size := lt_of_heap HXL.out
          clear hput hTL hg7n hown hq
          have hlw3 : w.heap.size + 3 < wl.heap.size := by omega
          refine HPUT.out.mono ?_
          rintro e wp ⟨rfl, hstp, hfp⟩
          have HSTP := Lib.hid hstp
          have HFP := Lib.hid hfp
          have hzp := hfp.size
          have tf := (hfp.frozenF (b := w.heap.size + 1) (o := 0) (by show _ < wl.heap.size; omega) (by omega)).trans v5
          have tc := (hfp.cell (b := w.heap.size + 1) (o := 0) (by show _ < wl.heap.size; omega) (by omega)).trans v2
          clear hstp hfp v0 v1 v2 v3 v4 v5
          have HF := Lib.hid (HL.out.put hgl HSG.out HSTP.out HFP.out)
          have HPE := Lib.hid (put_chg HCO.out htc (x := (⟨t, old, rw_⟩ : Chg)) rfl HCH.out.2.2)
          go_wp2_with fail
          go_roundw
          case rel =>
           have hf9 := HF.out
           rw [show (rw_) = ((⟨t, old, rw_⟩ : Chg)).new from rfl, HPE.out] at hf9
           exact ⟨n1, l ++ [(⟨t, old, rw_⟩ : Chg)], some ⟨g7, 0, none⟩, cap7, _, by simp; omega, by simp, by go_num, hf9, (step_ok HCO.out HCH.out.1).1, Fit.snoc HFI.out HCH.out.1 (by rw [← HAF.out]; exact HCH.out.2.1), by rw [after_snoc, ← HAF.out]⟩
          case measure => (simp [intOf]; try omega)
        · have hq : ((old.length : Int) == 0) = false := by simp; intro e; rw [e] at ho0; simp at ho0
          have HO0 := Lib.hid ho0
          clear ho0
          go_wp2_with fail
          have HMG1 := Lib.hid (HMG.out.set 1 (.slice OA old.length oc) hgx' hxz)
          refine (bool_any g 3 _ (by omega) (by omega) HMG1.out.case).mono ?_
          rintro e wh ⟨bb, rfl, hcb, hgb, hsb⟩
          have HMH := Lib.hid (HMG1.out.calls (fr_of hgb) hcb hgx')
          have HKH := Lib.hid (show RowT wh xb KA kc key from (HKYG.out.step (Fr.or_set (g := g) (xb := xb) 1 (.slice OA old.length oc)) hgx').step (Fr.or_g (fr_of hgb)) hgx')
          have HRH := Lib.hid (show RowT wh xb RA rc rw_ from (HRTG.out.step (Fr.or_set (g := g) (xb := xb) 1 (.slice OA old.length oc)) hgx').step (Fr.or_g (fr_of hgb)) hgx')
          have HOH := Lib.hid (show RowT wh xb OA oc old from (HOL.out.step (Fr.or_set (g := g) (xb := xb) 1 (.slice OA old.length oc)) hgx').step (Fr.or_g (fr_of hgb)) hgx')
          have hzh : wh.heap.size = wg.heap.size := by simpa using hsb
          have e0 : wh.cell? ⟨xb, 0, none⟩ = some (.int .i64 (t : Int)) := cells_of_block HMH.out.xc 0 _ rfl
          have e1 : wh.cell? ⟨xb, 1, none⟩ = some (.slice OA old.length oc) := cells_of_block HMH.out.xc 1 _ rfl
          have e2 : wh.cell? ⟨xb, 2, none⟩ = some (.slice none 0 0) := cells_of_block HMH.out.xc 2 _ rfl
          have g2 : wh.frozen? ⟨xb, 2, none⟩ = false := by simp [World.frozen?, HMH.out.xc]
          have hlh : xb < wh.heap.size := lt_of_heap HMH.out.xc
          clear hcb hgb hsb c0 c1 c2 f1 f2 hlg hlg1 hzh
          cases bb
          · skip
            obtain ⟨wn, hwn⟩ : ∃ wn, wh.setCell ⟨xb, 2, none⟩ (.slice RA rw_.length rc) = wn := ⟨_, rfl⟩
            have HMN := Lib.hid (HMH.out.set 2 (.slice RA rw_.length rc) hgx' hxz)
            have HKN := Lib.hid (show RowT (wh.setCell ⟨xb, 2, none⟩ (.slice RA rw_.length rc)) xb KA kc key from HKH.out.step (Fr.or_set (g := g) (xb := xb) 2 (.slice RA rw_.length rc)) hgx')
            have HON := Lib.hid (show RowT (wh.setCell ⟨xb, 2, none⟩ (.slice RA rw_.length rc)) xb OA oc old from HOH.out.step (Fr.or_set (g := g) (xb := xb) 2 (.slice RA rw_.length rc)) hgx')
            have HNN := Lib.hid (show RowT (wh.setCell ⟨xb, 2, none⟩ (.slice RA rw_.length rc)) xb RA rc (rw_) from HRH.out.step (Fr.or_set (g := g) (xb := xb) 2 (.slice RA rw_.length rc)) hgx')
            rw [hwn] at HMN HKN HON HNN
            have n0 : wn.cell? ⟨xb, 0, none⟩ = some (.int .i64 (t : Int)) := cells_of_block HMN.out.xc 0 _ rfl
            have n1' : wn.cell? ⟨xb, 1, none⟩ = some (.slice OA old.length oc) := cells_of_block HMN.out.xc 1 _ rfl
            have n2' : wn.cell? ⟨xb, 2, none⟩ = some (.slice RA (rw_).length rc) := cells_of_block HMN.out.xc 2 _ rfl
            have hown : ∀ b, some b = (Value.slice A l.length c).ownBlock → B0 ≤ b ∧ b < xb := fun b e => by have := HI2.out.mkl.base_le e.symm; omega
            have hln : xb < wn.heap.size := lt_of_heap HMN.out.xc
            have HIN := Lib.hid (HI2.out.keep HMN.out.fr HMN.out.case hgl HSG.out)
            have HTB := Lib.hid (show ∀ b, (xb < b ∧ b < wn.heap.size) → False ∨ Beh B0 wn (.slice A l.length c) b from fun b hb => .inr ⟨by omega, hb.2, fun e => by have := (HI2.out.mkl.base_le e.symm).2; have := hb.1; omega⟩)
            go_wp2_with (at_builtin; refine wpList_append_mkf rfl (.tmp 108) (.tmp 110) 48 rfl B0 (fun _ => False) 53 i0 _ 3 56 Try.underlying48 hi hz0 hz1 hz2 rfl (by decide) _ _ _ _ _ HIN.out.mkl rfl (encChg (⟨t, old, rw_⟩ : Chg)) #[.int .i64 (t : Int), .slice OA old.length oc, .slice RA rw_.length rc] (vals_chg ⟨HON.out.1, HON.out.2.more HTB.out⟩ ⟨HNN.out.1, HNN.out.2.more HTB.out⟩) (encChg_plain _) (encChg_size _) 1 rfl (by omega) (by omega) ?_; intro g7 cap7 wl hm7 hb7 hlt7 hf7 hat7; have HM7 := Lib.hid hm7; have HF7 := Lib.hid hf7; have HAT7 := Lib.hid hat7; have hz7 := hf7.size; have v0 := (hf7.cell (b := w.heap.size) (o := 0) (by omega) (fun e => by have := hown _ e; omega)).trans HIN.out.b0; have v1 := (hf7.cell (b := w.heap.size) (o := 1) (by omega) (fun e => by have := hown _ e; omega)).trans HIN.out.b1; have v2 := (hf7.cell (b := w.heap.size + 1) (o := 0) (by omega) (fun e => by have := hown _ e; omega)).trans HIN.out.s0; have v5 := (hf7.frozenF (b := w.heap.size + 1) (o := 0) (by omega) (fun e => by have := hown _ e; omega)).trans HIN.out.sf; have v3 := (hf7.cell (b := xb) (o := 0) (by omega) (fun e => by have := hown _ e; omega)).trans n0; have v4 := (hf7.cell (b := xb) (o := 2) (by omega) (fun e => by have := hown _ e; omega)).trans n2'; clear hm7 hb7 hlt7 hf7 hat7)
            have HL := Lib.hid (HIN.out.push (x := (⟨t, old, rw_⟩ : Chg)) hgl HSG.out HM7.out HF7.out HAT7.out)
            have HXL := Lib.hid ((HF7.out.block xb (lt_of_heap HMN.out.xc) (fun e => by have := hown _ e; omega)).trans HMN.out.xc)
            have HKL := Lib.hid (show RowT wl xb KA kc key from ⟨HKN.out.1, (HKN.out.2.keep (HF7.out.same (fun b hb => ⟨hb.2, fun e => by have := hown _ e; have := hb.1; omega⟩))).more (fun b hb => ⟨hb.1, by have := hb.2; omega⟩)⟩)
            have HNL := Lib.hid (show RowT wl xb RA rc (rw_) from ⟨HNN.out.1, (HNN.out.2.keep (HF7.out.same (fun b hb => ⟨hb.2, fun e => by have := hown _ e; have := hb.1; omega⟩))).more (fun b hb => ⟨hb.1, by have := hb.2; omega⟩)⟩)
            have HCH := Lib.hid (show validC s m (⟨t, old, rw_⟩ : Chg) = true ∧ fitsC s (⟨t, old, rw_⟩ : Chg) (cur.getD t []) = true ∧ keyC s (⟨t, old, rw_⟩ : Chg) = key from by
             have h9 := chg_ok HGS.out.wide HCO.out htl HFR.out (b := true) (x := (⟨t, old, rw_⟩ : Chg)) (by rw [HKQ.out, HOQ.out]; exact fun _ => rfl) (by rw [HKQ.out, HOQ.out]; rfl)
             rw [HKQ.out] at h9
             exact h9)
            have hTL : ∀ b, (xb < b ∧ b < wl.heap.size) → some b ≠ (Value.slice (some ⟨g7, 0, none⟩) (l ++ [(⟨t, old, rw_⟩ : Chg)]).length cap7).ownBlock → (S b ∨ (w.heap.size + 3 ≤ b ∧ b < B0 ∧ b ≠ gt) ∨ Beh B0 wl (.slice (some ⟨g7, 0, none⟩) (l ++ [(⟨t, old, rw_⟩ : Chg)]).length cap7) b) := fun b hb hne => .inr (.inr ⟨by omega, hb.2, hne⟩)
            have hg7n : ∀ b, (xb < b ∧ b < wn.heap.size) → some b ≠ (Value.slice (some ⟨g7, 0, none⟩) (l ++ [(⟨t, old, rw_⟩ : Chg)]).length cap7).ownBlock := fun b hb e => by
             have e9 : b = g7 := by simpa [Value.ownBlock] using e
             rcases HAT7.out with h9 | h9
             · have := hown g7 h9.symm; omega
             · omega
            have hput := rput_any (some ⟨bT, oT, none⟩) c0' s gt cc cur t KA kc key RA rc (rw_) (fun b => S b ∨ (w.heap.size + 3 ≤ b ∧ b < B0 ∧ b ≠ gt) ∨ Beh B0 wl (.slice (some ⟨g7, 0, none⟩) (l ++ [(⟨t, old, rw_⟩ : Chg)]).length cap7) b) wl ((HS.out.keep (show Same S w wl from fun b hb => (HL.out).gr.block b (hSw b hb) (fun e => (HSG.out b hb).2 (by injection e)))).more (fun b hb => .inl hb)) HL.out.stc (((HKN.out.2.keep (HF7.out.same (fun b hb => ⟨hb.2, fun e => by have := hown _ e; have := hb.1; omega⟩))).more (fun b hb => hTL b ⟨hb.1, by have := hb.2; omega⟩ (hg7n b hb)))) (((HNN.out.2.keep (HF7.out.same (fun b hb => ⟨hb.2, fun e => by have := hown _ e; have := hb.1; omega⟩))).more (fun b hb => hTL b ⟨hb.1, by have := hb.2; omega⟩ (hg7n b hb)))) htl htc (by have := getD_le_count cur t; have := HCT.out; omega) (by have := HCL.out; omega)
            rw [HCL.out] at hput
            have HPUT := Lib.hid hput
            have hzl : xb < wl.heap.size := lt_of_heap HXL.out
            clear hput hTL hg7n hown hq
            have hlw3 : w.heap.size + 3 < wl.heap.size := by omega
            refine HPUT.out.mono ?_
            rintro e wp ⟨rfl, hstp, hfp⟩
            have HSTP := Lib.hid hstp
            have HFP := Lib.hid hfp
            have hzp := hfp.size
            have tf := (hfp.frozenF (b := w.heap.size + 1) (o := 0) (by show _ < wl.heap.size; omega) (by omega)).trans v5
            have tc := (hfp.cell (b := w.heap.size + 1) (o := 0) (by show _ < wl.heap.size; omega) (by omega)).trans v2
            clear hstp hfp v0 v1 v2 v3 v4 v5
            have HF := Lib.hid (HL.out.put hgl HSG.out HSTP.out HFP.out)
            have HPE := Lib.hid (put_chg HCO.out htc (x := (⟨t, old, rw_⟩ : Chg)) rfl HCH.out.2.2)
            go_wp2_with fail
            go_roundw
            case rel =>
             have hf9 := HF.out
             rw [show (rw_) = ((⟨t, old, rw_⟩ : Chg)).new from rfl, HPE.out] at hf9
             exact ⟨n1, l ++ [(⟨t, old, rw_⟩ : Chg)], some ⟨g7, 0, none⟩, cap7, _, by simp; omega, by simp, by go_num, hf9, (step_ok HCO.out HCH.out.1).1, Fit.snoc HFI.out HCH.out.1 (by rw [← HAF.out]; exact HCH.out.2.1), by rw [after_snoc, ← HAF.out]⟩
            case measure => (simp [intOf]; try omega)
          · skip
            obtain ⟨wn, rfl⟩ : ∃ wn : World, wn = wh := ⟨_, rfl⟩
            have HMN := HMH
            have HKN := HKH
            have HON := HOH
            have HNN := Lib.hid (show RowT wn xb none 0 (([] : Row)) from RowT.nil_)
            have n0 := e0
            have n1' := e1
            have n2' := e2
            clear e0 e1 e2
            have hown : ∀ b, some b = (Value.slice A l.length c).ownBlock → B0 ≤ b ∧ b < xb := fun b e => by have := HI2.out.mkl.base_le e.symm; omega
            have hln : xb < wn.heap.size := lt_of_heap HMN.out.xc
            have HIN := Lib.hid (HI2.out.keep HMN.out.fr HMN.out.case hgl HSG.out)
            have HTB := Lib.hid (show ∀ b, (xb < b ∧ b < wn.heap.size) → False ∨ Beh B0 wn (.slice A l.length c) b from fun b hb => .inr ⟨by omega, hb.2, fun e => by have := (HI2.out.mkl.base_le e.symm).2; have := hb.1; omega⟩)
            go_wp2_with (at_builtin; refine wpList_append_mkf rfl (.tmp 108) (.tmp 110) 48 rfl B0 (fun _ => False) 53 i0 _ 3 56 Try.underlying48 hi hz0 hz1 hz2 rfl (by decide) _ _ _ _ _ HIN.out.mkl rfl (encChg (⟨t, old, ([] : Row)⟩ : Chg)) #[.int .i64 (t : Int), .slice OA old.length oc, .slice none 0 0] (vals_chg ⟨HON.out.1, HON.out.2.more HTB.out⟩ ⟨HNN.out.1, HNN.out.2.more HTB.out⟩) (encChg_plain _) (encChg_size _) 1 rfl (by omega) (by omega) ?_; intro g7 cap7 wl hm7 hb7 hlt7 hf7 hat7; have HM7 := Lib.hid hm7; have HF7 := Lib.hid hf7; have HAT7 := Lib.hid hat7; have hz7 := hf7.size; have v0 := (hf7.cell (b := w.heap.size) (o := 0) (by omega) (fun e => by have := hown _ e; omega)).trans HIN.out.b0; have v1 := (hf7.cell (b := w.heap.size) (o := 1) (by omega) (fun e => by have := hown _ e; omega)).trans HIN.out.b1; have v2 := (hf7.cell (b := w.heap.size + 1) (o := 0) (by omega) (fun e => by have := hown _ e; omega)).trans HIN.out.s0; have v5 := (hf7.frozenF (b := w.heap.size + 1) (o := 0) (by omega) (fun e => by have := hown _ e; omega)).trans HIN.out.sf; have v3 := (hf7.cell (b := xb) (o := 0) (by omega) (fun e => by have := hown _ e; omega)).trans n0; have v4 := (hf7.cell (b := xb) (o := 2) (by omega) (fun e => by have := hown _ e; omega)).trans n2'; clear hm7 hb7 hlt7 hf7 hat7)
            have HL := Lib.hid (HIN.out.push (x := (⟨t, old, ([] : Row)⟩ : Chg)) hgl HSG.out HM7.out HF7.out HAT7.out)
            have HXL := Lib.hid ((HF7.out.block xb (lt_of_heap HMN.out.xc) (fun e => by have := hown _ e; omega)).trans HMN.out.xc)
            have HKL := Lib.hid (show RowT wl xb KA kc key from ⟨HKN.out.1, (HKN.out.2.keep (HF7.out.same (fun b hb => ⟨hb.2, fun e => by have := hown _ e; have := hb.1; omega⟩))).more (fun b hb => ⟨hb.1, by have := hb.2; omega⟩)⟩)
            have HNL := Lib.hid (show RowT wl xb none 0 (([] : Row)) from ⟨HNN.out.1, (HNN.out.2.keep (HF7.out.same (fun b hb => ⟨hb.2, fun e => by have := hown _ e; have := hb.1; omega⟩))).more (fun b hb => ⟨hb.1, by have := hb.2; omega⟩)⟩)
            have HCH := Lib.hid (show validC s m (⟨t, old, ([] : Row)⟩ : Chg) = true ∧ fitsC s (⟨t, old, ([] : Row)⟩ : Chg) (cur.getD t []) = true ∧ keyC s (⟨t, old, ([] : Row)⟩ : Chg) = key from by
             have h9 := chg_ok HGS.out.wide HCO.out htl HFR.out (b := false) (x := (⟨t, old, ([] : Row)⟩ : Chg)) (by rw [HKQ.out, HOQ.out]; intro e; exact absurd (by rw [e]; rfl) HO0.out) (by rw [HKQ.out, HOQ.out]; rfl)
             rw [HKQ.out] at h9
             exact h9)
            have hTL : ∀ b, (xb < b ∧ b < wl.heap.size) → some b ≠ (Value.slice (some ⟨g7, 0, none⟩) (l ++ [(⟨t, old, ([] : Row)⟩ : Chg)]).length cap7).ownBlock → (S b ∨ (w.heap.size + 3 ≤ b ∧ b < B0 ∧ b ≠ gt) ∨ Beh B0 wl (.slice (some ⟨g7, 0, none⟩) (l ++ [(⟨t, old, ([] : Row)⟩ : Chg)]).length cap7) b) := fun b hb hne => .inr (.inr ⟨by omega, hb.2, hne⟩)
            have hg7n : ∀ b, (xb < b ∧ b < wn.heap.size) → some b ≠ (Value.slice (some ⟨g7, 0, none⟩) (l ++ [(⟨t, old, ([] : Row)⟩ : Chg)]).length cap7).ownBlock := fun b hb e => by
             have e9 : b = g7 := by simpa [Value.ownBlock] using e
             rcases HAT7.out with h9 | h9
             · have := hown g7 h9.symm; omega
             · omega
            have hput := rput_any (some ⟨bT, oT, none⟩) c0' s gt cc cur t KA kc key none 0 (([] : Row)) (fun b => S b ∨ (w.heap.size + 3 ≤ b ∧ b < B0 ∧ b ≠ gt) ∨ Beh B0 wl (.slice (some ⟨g7, 0, none⟩) (l ++ [(⟨t, old, ([] : Row)⟩ : Chg)]).length cap7) b) wl ((HS.out.keep (show Same S w wl from fun b hb => (HL.out).gr.block b (hSw b hb) (fun e => (HSG.out b hb).2 (by injection e)))).more (fun b hb => .inl hb)) HL.out.stc (((HKN.out.2.keep (HF7.out.same (fun b hb => ⟨hb.2, fun e => by have := hown _ e; have := hb.1; omega⟩))).more (fun b hb => hTL b ⟨hb.1, by have := hb.2; omega⟩ (hg7n b hb)))) (((HNN.out.2.keep (HF7.out.same (fun b hb => ⟨hb.2, fun e => by have := hown _ e; have := hb.1; omega⟩))).more (fun b hb => hTL b ⟨hb.1, by have := hb.2; omega⟩ (hg7n b hb)))) htl htc (by have := getD_le_count cur t; have := HCT.out; omega) (by have := HCL.out; omega)
            rw [HCL.out] at hput
            have HPUT := Lib.hid hput
            have hzl : xb < wl.heap.size := lt_of_heap HXL.out
            clear hput hTL hg7n hown hq
            have hlw3 : w.heap.size + 3 < wl.heap.size := by omega
            refine HPUT.out.mono ?_
            rintro e wp ⟨rfl, hstp, hfp⟩
            have HSTP := Lib.hid hstp
            have HFP := Lib.hid hfp
            have hzp := hfp.size
            have tf := (hfp.frozenF (b := w.heap.size + 1) (o := 0) (by show _ < wl.heap.size; omega) (by omega)).trans v5
            have tc := (hfp.cell (b := w.heap.size + 1) (o := 0) (by show _ < wl.heap.size; omega) (by omega)).trans v2
            clear hstp hfp v0 v1 v2 v3 v4 v5
            have HF := Lib.hid (HL.out.put hgl HSG.out HSTP.out HFP.out)
            have HPE := Lib.hid (put_chg HCO.out htc (x := (⟨t, old, ([] : Row)⟩ : Chg)) rfl HCH.out.2.2)
            go_wp2_with fail
            go_roundw
            case rel =>
             have hf9 := HF.out
             rw [show (([] : Row)) = ((⟨t, old, ([] : Row)⟩ : Chg)).new from rfl, HPE.out] at hf9
             exact ⟨n1, l ++ [(⟨t, old, ([] : Row)⟩ : Chg)], some ⟨g7, 0, none⟩, cap7, _, by simp; omega, by simp, by go_num, hf9, (step_ok HCO.out HCH.out.1).1, Fit.snoc HFI.out HCH.out.1 (by rw [← HAF.out]; exact HCH.out.2.1), by rw [after_snoc, ← HAF.out]⟩
            case measure => (simp [intOf]; try omega)
      · go_wp2_with fail
        refine (int_any g (rows.length : Int) _ (by omega) HMB.out.case).mono ?_
        rintro e wi ⟨ri, rfl, i0', i1', -, hcr, hgr, hsr⟩
        have hri := i1' (by omega)
        obtain ⟨ki, rfl⟩ := Int.eq_ofNat_of_zero_le i0'
        have hkil : ki < rows.length := by omega
        have HMI := Lib.hid (HMB.out.calls (fr_of hgr) hcr hgx')
        have HRTI := Lib.hid (HRTB.out.step (xb := xb) (Fr.or_g (fr_of hgr)) hgx')
        have hngi : ∀ b, (S b ∨ (w.heap.size + 3 ≤ b ∧ b < B0 ∧ b ≠ gt) ∨ Beh B0 wq (.slice A l.length c) b) → b < wb.heap.size ∧ some b ≠ some g := fun b hb => ⟨by have := (HIQ.out.stc.mem b hb).1; omega, fun e => by
         injection e with e
         rcases hb with hb | hb | hb
         · exact (HSG.out b hb).2 e
         · omega
         · have := hb.1; omega⟩
        have HRSI := Lib.hid (HRSB.out.keep (w' := wi) (fun b hb => hgr.block b (hngi b hb).1 (hngi b hb).2))
        have HROWI := Lib.hid (ownsRow_keep HROWB.out (w' := wi) (fun q hq => hgr.block q (own_lt HROWB.out hq) (fun e => by injection e with e; have := own_base HROWB.out hq; omega)))
        have hzi : wi.heap.size = wb.heap.size := hsr
        obtain ⟨bO, oO, hAT, hbO, AO, cO, e1, e2, e3⟩ := HRSI.out.at_ hkil
        subst hAT
        have lO : bO < wi.heap.size := by have := (hngi bO hbO).1; omega
        have HOR := Lib.hid (e3.more (S' := fun b => b < wi.heap.size) (fun b hb => by have := (hngi b hb).1; show b < wi.heap.size; omega))
        have HOC := Lib.hid e2
        have HOF := Lib.hid (HRW.out (rows.getD ki []) (by rw [getD_lt hkil]; exact List.getElem_mem hkil))
        have hol := e3.len
        have HIW := Lib.hid (HI2.out.keep HMI.out.fr HMI.out.case hgl HSG.out)
        have y0 := HIW.out.b0
        have y1 := HIW.out.b1
        have y2 : wi.cell? ⟨xb, 0, none⟩ = some (.int .i64 (t : Int)) := cells_of_block HMI.out.xc 0 _ rfl
        clear e2 e3 hcr hgr hsr i1'
        generalize rows.getD ki [] = orow at e1 HOR HOC HOF hol
        go_wp2_with fail
        refine (rkey_any (some ⟨bT, oT, none⟩) c0' s t AO cO orow (fun b => b < wi.heap.size) _ ((HS.out.keep (show Same S w wi from fun b hb => (HIW.out).gr.block b (hSw b hb) (fun e => (HSG.out b hb).2 (by injection e)))).more (fun b hb => by have := hSw b hb; show b < wi.heap.size; omega)) HOR.out HOC.out (fun b hb => hb)).mono ?_
        rintro e wk ⟨KA, kc, rfl, hkey, hbk⟩
        have HKY := Lib.hid (new_row hkey (rowOk_key HOR.out.ok) (Nat.le_refl _))
        have HKOK := Lib.hid (rowOk_key (s := s) (t := (t : Int)) HOR.out.ok)
        have HMK0 := Lib.hid (HMI.out.below hbk hgx')
        have HROWK := Lib.hid (ownsRow_keep HROWI.out (w' := wk) (fun q hq => hbk.block q (own_lt HROWI.out hq)))
        have hzk0 := hbk.size
        have hk0 := (hbk.cell (p := ⟨w.heap.size, 0, none⟩) (by show w.heap.size < wi.heap.size; omega)).trans y0
        have hk1 := (hbk.cell (p := ⟨w.heap.size, 1, none⟩) (by show w.heap.size < wi.heap.size; omega)).trans y1
        have hk2 := (hbk.cell (p := ⟨xb, 0, none⟩) (by show xb < wi.heap.size; omega)).trans y2
        obtain ⟨hkle, hmixf⟩ := fits_mix htl HOF.out HFIT.out
        have hkpos : 0 < (keyF s (t : Int) orow).length := by
         have h9 := fits_len HOF.out
         have h8 := HGS.out.tab htl
         rw [Int.toNat_natCast] at h9
         rw [keyF_in htl, List.length_take]
         unfold keyN
         have := h8.1; have := h8.2.2.1
         omega
        have HMIX := Lib.hid hmixf
        clear hkey hbk hmixf
        generalize keyF s (t : Int) orow = kk at HKY HKOK hkle hkpos HMIX
        obtain ⟨kb, ko, hKA, hkb, hkcells⟩ := HKY.out.2.vals hkpos
        subst hKA
        obtain ⟨gr, capr, curr, hRA, hbr, hhr, hcr1, hcr2, hcr3, hcr4⟩ : ∃ gr capr curr, Value.slice RA row.length rc = .slice (some ⟨gr, 0, none⟩) row.length capr ∧ wx.heap.size ≤ gr ∧ wk.heap[gr]? = some (.cells curr 51 (0, 0)) ∧ row.length ≤ capr ∧ capr ≤ maxLen ∧ curr.size = capr * 3 ∧ curr.toList.take (row.length * 3) = rowVals row := by
         rcases HROWK.out.2 with ⟨h9, h8⟩ | ⟨gr, capr, curr, h1, h2, h3, h4, h5, h6, h7⟩
         · omega
         · exact ⟨gr, capr, curr, h1, h2, h3, h4, h5, h6, h7⟩
        injection hRA with hRA1 _ hRA2
        subst hRA1 hRA2
        have HHR := Lib.hid (show wk.heap[gr]? = some (.cells curr.toList.toArray 51 (0, 0)) by simpa using hhr)
        have HC4 := Lib.hid hcr4
        have HC3 := Lib.hid hcr3
        have hrk3 : row.length * 3 ≤ curr.size := by rw [hcr3]; omega
        clear hhr hcr4 hcr3
        go_wp2_with (refine wpList_copy_k (o := ⟨some 81, _, _, _, _, _⟩) rfl (.tmp 75) (.tmp 80) 27 27 rfl 51 3 Try.underlying27 (by kernel_rfl) gr row.length rc ⟨kb, ko, none⟩ kk.length kc rfl rfl curr.toList 51 HHR.out (rowVals kk) kk.length (Nat.min_eq_left hkle).symm (rowVals_len _) hkcells (by rw [rowVals_len]; simp; omega) (rowVals_one _) ?_; intro wm hm1 hm2; have HM1 := Lib.hid hm1; have HM2' := Lib.hid hm2; have hzm := hm2.size; have m0 := (hm2.cell (b := w.heap.size) (o := 0) (by omega) (by omega)).trans hk0; have m1 := (hm2.cell (b := w.heap.size) (o := 1) (by omega) (by omega)).trans hk1; have m2 := (hm2.cell (b := xb) (o := 0) (by omega) (by omega)).trans hk2; clear hm1 hm2)
        have HOWC := Lib.hid (owns_copied (base := wx.heap.size) hcr1 hcr2 hbr hkle (by have := HC3.out; simpa using this) HC4.out HM1.out)
        have HROKM := Lib.hid (rowOk_mix HKOK.out HROK.out hkle)
        have HMY := Lib.hid (HMK0.out.far HM2'.out (fun b hb => by have h9 : b = gr := hb; omega) hgx' hxz)
        obtain ⟨rw_, hrw⟩ : ∃ rw_, mixR kk row = rw_ := ⟨_, rfl⟩
        have hlr : row.length = rw_.length := by rw [← hrw, mix_len hkle]
        rw [hrw] at HOWC HROKM HMIX
        have HRT := Lib.hid (show RowT wm xb (some ⟨gr, 0, none⟩) rc rw_ from ⟨(new_row HOWC.out HROKM.out (Nat.le_refl _)).1, (new_row HOWC.out HROKM.out (Nat.le_refl _)).2.more (fun b hb => ⟨by have h9 : wx.heap.size ≤ b := hb.1; omega, hb.2⟩)⟩)
        have HRK := HROKM
        have HFR := HMIX
        obtain ⟨wy, rfl⟩ : ∃ wy : World, wy = wm := ⟨_, rfl⟩
        rw [hlr]
        clear hrw hlr HOWC HM1 HM2' HHR HC3 HC4 HROWK HROWI HROWB HROW HKY HKOK y0 y1 y2 e1 hk0 hk1 hk2 m0 m1 m2 hkcells hrk3 hcr1 hcr2 hkle hkpos hrwl
        have HIY := Lib.hid (HI2.out.keep HMY.out.fr HMY.out.case hgl HSG.out)
        have y0 := HIY.out.b0
        have y1 := HIY.out.b1
        have y2 : wy.cell? ⟨xb, 0, none⟩ = some (.int .i64 (t : Int)) := cells_of_block HMY.out.xc 0 _ rfl
        have hzy : xb < wy.heap.size := lt_of_heap HMY.out.xc
        skip
        clear s0 d1
        refine (rkey_any (some ⟨bT, oT, none⟩) c0' s t (some ⟨gr, 0, none⟩) rc rw_ (fun b => b < wy.heap.size) _ ((HS.out.keep (show Same S w wy from fun b hb => (HIY.out).gr.block b (hSw b hb) (fun e => (HSG.out b hb).2 (by injection e)))).more (fun b hb => by have := hSw b hb; show b < wy.heap.size; omega)) (HRT.out.2.more (fun b hb => hb.2)) HRT.out.1 (fun b hb => hb)).mono ?_
        rintro e wk ⟨KA, kc, rfl, hkey, hbk⟩
        have HKY := Lib.hid (show RowT wk xb KA kc (keyF s (t : Int) rw_) from ⟨(new_row hkey (rowOk_key HRK.out) (Nat.le_refl _)).1, (new_row hkey (rowOk_key HRK.out) (Nat.le_refl _)).2.more (fun b hb => ⟨by have h9 : wy.heap.size ≤ b := hb.1; omega, hb.2⟩)⟩)
        have HMK0 := Lib.hid (HMY.out.below hbk hgx')
        have HRTK := Lib.hid (HRT.out.step (xb := xb) (Fr.or_g (g := g) (Fr.of_below hbk)) hgx')
        have hzk0 := hbk.size
        clear hkey hbk y0 y1 y2
        obtain ⟨key, hkeq⟩ : ∃ key, keyF s (t : Int) rw_ = key := ⟨_, rfl⟩
        rw [hkeq] at HKY ⊢
        have HKQ := Lib.hid hkeq
        clear hkeq
        have HIK := Lib.hid (HI2.out.keep HMK0.out.fr HMK0.out.case hgl HSG.out)
        have y0 := HIK.out.b0
        have y1 := HIK.out.b1
        have y3 := HIK.out.s0
        have y2 : wk.cell? ⟨xb, 0, none⟩ = some (.int .i64 (t : Int)) := cells_of_block HMK0.out.xc 0 _ rfl
        go_wp2_with fail
        have hget := rget_any (some ⟨bT, oT, none⟩) c0' s (some ⟨gt, 0, none⟩) cc cur t KA kc key (fun b => b < wk.heap.size) wk ((HS.out.keep (show Same S w wk from fun b hb => (HIK.out).gr.block b (hSw b hb) (fun e => (HSG.out b hb).2 (by injection e)))).more (fun b hb => by have := hSw b hb; show b < wk.heap.size; omega)) (HIK.out.stc.slice (by have := HCL.out; omega) (fun b hb => (HIK.out.stc.mem b hb).1) (by show gt < wk.heap.size; omega)) (HKY.out.2.more (fun b hb => hb.2)) (fun b hb => hb)
        rw [HCL.out] at hget
        refine hget.mono ?_
        rintro e wg ⟨OA, oc, rfl, hold, hbg⟩
        rw [getS_look htl htc key] at hold ⊢
        obtain ⟨old, hoq⟩ : ∃ old, look s cur t key = old := ⟨_, rfl⟩
        have HOFT := Lib.hid (show old = [] ∨ fitsF s t old m = true by
         by_cases h0 : 0 < old.length
         · exact .inr (look_fits HCO.out htc hoq h0)
         · exact .inl (List.eq_nil_of_length_eq_zero (by omega)))
        rw [hoq] at hold ⊢
        have HOQ := Lib.hid hoq
        have HOL := Lib.hid (show RowT wg xb OA oc old from ⟨(new_row hold (rowOk_fits HGS.out htl HOFT.out) (Nat.le_refl _)).1, (new_row hold (rowOk_fits HGS.out htl HOFT.out) (Nat.le_refl _)).2.more (fun b hb => ⟨by have h9 : wk.heap.size ≤ b := hb.1; omega, hb.2⟩)⟩)
        have HMG := Lib.hid (HMK0.out.below hbg hgx')
        have HRTG := Lib.hid (HRTK.out.step (xb := xb) (Fr.or_g (g := g) (Fr.of_below hbg)) hgx')
        have HKYG := Lib.hid (HKY.out.step (xb := xb) (Fr.or_g (g := g) (Fr.of_below hbg)) hgx')
        have hzg := hbg.size
        clear hoq hold hbg hget y0 y1 y2 y3
        have c0 : wg.cell? ⟨xb, 0, none⟩ = some (.int .i64 (t : Int)) := cells_of_block HMG.out.xc 0 _ rfl
        have c1 : wg.cell? ⟨xb, 1, none⟩ = some (.slice none 0 0) := cells_of_block HMG.out.xc 1 _ rfl
        have c2 : wg.cell? ⟨xb, 2, none⟩ = some (.slice none 0 0) := cells_of_block HMG.out.xc 2 _ rfl
        have f1 : wg.frozen? ⟨xb, 1, none⟩ = false := by simp [World.frozen?, HMG.out.xc]
        have f2 : wg.frozen? ⟨xb, 2, none⟩ = false := by simp [World.frozen?, HMG.out.xc]
        have hlg : xb < wg.heap.size := lt_of_heap HMG.out.xc
        have hlg1 : xb < wg.heap.size + 1 := by omega
        by_cases ho0 : old.length = 0
        · have hq : ((old.length : Int) == 0) = true := by simp [ho0]
          clear ho0
          obtain ⟨wn, hwn⟩ : ∃ wn, (wg.setCell ⟨xb, 1, none⟩ (.slice OA old.length oc)).setCell ⟨xb, 2, none⟩ (.slice (some ⟨gr, 0, none⟩) rw_.length rc) = wn := ⟨_, rfl⟩
          have HMN := Lib.hid ((HMG.out.set 1 (.slice OA old.length oc) hgx' hxz).set 2 (.slice (some ⟨gr, 0, none⟩) rw_.length rc) hgx' hxz)
          have HKN := Lib.hid (show RowT ((wg.setCell ⟨xb, 1, none⟩ (.slice OA old.length oc)).setCell ⟨xb, 2, none⟩ (.slice (some ⟨gr, 0, none⟩) rw_.length rc)) xb KA kc key from (HKYG.out.step (Fr.or_set (g := g) (xb := xb) 1 (.slice OA old.length oc)) hgx').step (Fr.or_set (g := g) (xb := xb) 2 (.slice (some ⟨gr, 0, none⟩) rw_.length rc)) hgx')
          have HON := Lib.hid (show RowT ((wg.setCell ⟨xb, 1, none⟩ (.slice OA old.length oc)).setCell ⟨xb, 2, none⟩ (.slice (some ⟨gr, 0, none⟩) rw_.length rc)) xb OA oc old from (HOL.out.step (Fr.or_set (g := g) (xb := xb) 1 (.slice OA old.length oc)) hgx').step (Fr.or_set (g := g) (xb := xb) 2 (.slice (some ⟨gr, 0, none⟩) rw_.length rc)) hgx')
          have HNN := Lib.hid (show RowT ((wg.setCell ⟨xb, 1, none⟩ (.slice OA old.length oc)).setCell ⟨xb, 2, none⟩ (.slice (some ⟨gr, 0, none⟩) rw_.length rc)) xb (some ⟨gr, 0, none⟩) rc (rw_) from (HRTG.out.step (Fr.or_set (g := g) (xb := xb) 1 (.slice OA old.length oc)) hgx').step (Fr.or_set (g := g) (xb := xb) 2 (.slice (some ⟨gr, 0, none⟩) rw_.length rc)) hgx')
          rw [hwn] at HMN HKN HON HNN
          have n0 : wn.cell? ⟨xb, 0, none⟩ = some (.int .i64 (t : Int)) := cells_of_block HMN.out.xc 0 _ rfl
          have n1' : wn.cell? ⟨xb, 1, none⟩ = some (.slice OA old.length oc) := cells_of_block HMN.out.xc 1 _ rfl
          have n2' : wn.cell? ⟨xb, 2, none⟩ = some (.slice (some ⟨gr, 0, none⟩) (rw_).length rc) := cells_of_block HMN.out.xc 2 _ rfl
          have hown : ∀ b, some b = (Value.slice A l.length c).ownBlock → B0 ≤ b ∧ b < xb := fun b e => by have := HI2.out.mkl.base_le e.symm; omega
          have hln : xb < wn.heap.size := lt_of_heap HMN.out.xc
          have HIN := Lib.hid (HI2.out.keep HMN.out.fr HMN.out.case hgl HSG.out)
          have HTB := Lib.hid (show ∀ b, (xb < b ∧ b < wn.heap.size) → False ∨ Beh B0 wn (.slice A l.length c) b from fun b hb => .inr ⟨by omega, hb.2, fun e => by have := (HI2.out.mkl.base_le e.symm).2; have := hb.1; omega⟩)
          go_wp2_with (at_builtin; refine wpList_append_mkf rfl (.tmp 108) (.tmp 110) 48 rfl B0 (fun _ => False) 53 i0 _ 3 56 Try.underlying48 hi hz0 hz1 hz2 rfl (by decide) _ _ _ _ _ HIN.out.mkl rfl (encChg (⟨t, old, rw_⟩ : Chg)) #[.int .i64 (t : Int), .slice OA old.length oc, .slice (some ⟨gr, 0, none⟩) rw_.length rc] (vals_chg ⟨HON.out.1, HON.out.2.more HTB.out⟩ ⟨HNN.out.1, HNN.out.2.more HTB.out⟩) (encChg_plain _) (encChg_size _) 1 rfl (by omega) (by omega) ?_; intro g7 cap7 wl hm7 hb7 hlt7 hf7 hat7; have HM7 := Lib.hid hm7; have HF7 := Lib.hid hf7; have HAT7 := Lib.hid hat7; have hz7 := hf7.size; have v0 := (hf7.cell (b := w.heap.size) (o := 0) (by omega) (fun e => by have := hown _ e; omega)).trans HIN.out.b0; have v1 := (hf7.cell (b := w.heap.size) (o := 1) (by omega) (fun e => by have := hown _ e; omega)).trans HIN.out.b1; have v2 := (hf7.cell (b := w.heap.size + 1) (o := 0) (by omega) (fun e => by have := hown _ e; omega)).trans HIN.out.s0; have v5 := (hf7.frozenF (b := w.heap.size + 1) (o := 0) (by omega) (fun e => by have := hown _ e; omega)).trans HIN.out.sf; have v3 := (hf7.cell (b := xb) (o := 0) (by omega) (fun e => by have := hown _ e; omega)).trans n0; have v4 := (hf7.cell (b := xb) (o := 2) (by omega) (fun e => by have := hown _ e; omega)).trans n2'; clear hm7 hb7 hlt7 hf7 hat7)
          have HL := Lib.hid (HIN.out.push (x := (⟨t, old, rw_⟩ : Chg)) hgl HSG.out HM7.out HF7.out HAT7.out)
          have HXL := Lib.hid ((HF7.out.block xb (lt_of_heap HMN.out.xc) (fun e => by have := hown _ e; omega)).trans HMN.out.xc)
          have HKL := Lib.hid (show RowT wl xb KA kc key from ⟨HKN.out.1, (HKN.out.2.keep (HF7.out.same (fun b hb => ⟨hb.2, fun e => by have := hown _ e; have := hb.1; omega⟩))).more (fun b hb => ⟨hb.1, by have := hb.2; omega⟩)⟩)
          have HNL := Lib.hid (show RowT wl xb (some ⟨gr, 0, none⟩) rc (rw_) from ⟨HNN.out.1, (HNN.out.2.keep (HF7.out.same (fun b hb => ⟨hb.2, fun e => by have := hown _ e; have := hb.1; omega⟩))).more (fun b hb => ⟨hb.1, by have := hb.2; omega⟩)⟩)
          have HCH := Lib.hid (show validC s m (⟨t, old, rw_⟩ : Chg) = true ∧ fitsC s (⟨t, old, rw_⟩ : Chg) (cur.getD t []) = true ∧ keyC s (⟨t, old, rw_⟩ : Chg) = key from by
           have h9 := chg_ok HGS.out.wide HCO.out htl HFR.out (b := true) (x := (⟨t, old, rw_⟩ : Chg)) (by rw [HKQ.out, HOQ.out]; exact fun _ => rfl) (by rw [HKQ.out, HOQ.out]; rfl)
           rw [HKQ.out] at h9
           exact h9)
          have hTL : ∀ b, (xb < b ∧ b < wl.heap.size) → some b ≠ (Value.slice (some ⟨g7, 0, none⟩) (l ++ [(⟨t, old, rw_⟩ : Chg)]).length cap7).ownBlock → (S b ∨ (w.heap.size + 3 ≤ b ∧ b < B0 ∧ b ≠ gt) ∨ Beh B0 wl (.slice (some ⟨g7, 0, none⟩) (l ++ [(⟨t, old, rw_⟩ : Chg)]).length cap7) b) := fun b hb hne => .inr (.inr ⟨by omega, hb.2, hne⟩)
          have hg7n : ∀ b, (xb < b ∧ b < wn.heap.size) → some b ≠ (Value.slice (some ⟨g7, 0, none⟩) (l ++ [(⟨t, old, rw_⟩ : Chg)]).length cap7).ownBlock := fun b hb e => by
           have e9 : b = g7 := by simpa [Value.ownBlock] using e
           rcases HAT7.out with h9 | h9
           · have := hown g7 h9.symm; omega
           · omega
          have hput := rput_any (some ⟨bT, oT, none⟩) c0' s gt cc cur t KA kc key (some ⟨gr, 0, none⟩) rc (rw_) (fun b => S b ∨ (w.heap.size + 3 ≤ b ∧ b < B0 ∧ b ≠ gt) ∨ Beh B0 wl (.slice (some ⟨g7, 0, none⟩) (l ++ [(⟨t, old, rw_⟩ : Chg)]).length cap7) b) wl ((HS.out.keep (show Same S w wl from fun b hb => (HL.out).gr.block b (hSw b hb) (fun e => (HSG.out b hb).2 (by injection e)))).more (fun b hb => .inl hb)) HL.out.stc (((HKN.out.2.keep (HF7.out.same (fun b hb => ⟨hb.2, fun e => by have := hown _ e; have := hb.1; omega⟩))).more (fun b hb => hTL b ⟨hb.1, by have := hb.2; omega⟩ (hg7n b hb)))) (((HNN.out.2.keep (HF7.out.same (fun b hb => ⟨hb.2, fun e => by have := hown _ e; have := hb.1; omega⟩))).more (fun b hb => hTL b ⟨hb.1, by have := hb.2; omega⟩ (hg7n b hb)))) htl htc (by have := getD_le_count cur t; have := HCT.out; omega) (by have := HCL.out; omega)
          rw [HCL.out] at hput
          have HPUT := Lib.hid hput
          have hzl : xb < wl.heap.size := lt_of_heap HXL.out
          clear hput hTL hg7n hown hq
          have hlw3 : w.heap.size + 3 < wl.heap.size := by omega
          refine HPUT.out.mono ?_
          rintro e wp ⟨rfl, hstp, hfp⟩
          have HSTP := Lib.hid hstp
          have HFP := Lib.hid hfp
          have hzp := hfp.size
          have tf := (hfp.frozenF (b := w.heap.size + 1) (o := 0) (by show _ < wl.heap.size; omega) (by omega)).trans v5
          have tc := (hfp.cell (b := w.heap.size + 1) (o := 0) (by show _ < wl.heap.size; omega) (by omega)).trans v2
          clear hstp hfp v0 v1 v2 v3 v4 v5
          have HF := Lib.hid (HL.out.put hgl HSG.out HSTP.out HFP.out)
          have HPE := Lib.hid (put_chg HCO.out htc (x := (⟨t, old, rw_⟩ : Chg)) rfl HCH.out.2.2)
          go_wp2_with fail
          go_roundw
          case rel =>
           have hf9 := HF.out
           rw [show (rw_) = ((⟨t, old, rw_⟩ : Chg)).new from rfl, HPE.out] at hf9
           exact ⟨n1, l ++ [(⟨t, old, rw_⟩ : Chg)], some ⟨g7, 0, none⟩, cap7, _, by simp; omega, by simp, by go_num, hf9, (step_ok HCO.out HCH.out.1).1, Fit.snoc HFI.out HCH.out.1 (by rw [← HAF.out]; exact HCH.out.2.1), by rw [after_snoc, ← HAF.out]⟩
          case measure => (simp [intOf]; try omega)
        · have hq : ((old.length : Int) == 0) = false := by simp; intro e; rw [e] at ho0; simp at ho0
          have HO0 := Lib.hid ho0
          clear ho0
          go_wp2_with fail
          have HMG1 := Lib.hid (HMG.out.set 1 (.slice OA old.length oc) hgx' hxz)
          refine (bool_any g 3 _ (by omega) (by omega) HMG1.out.case).mono ?_
          rintro e wh ⟨bb, rfl, hcb, hgb, hsb⟩
          have HMH := Lib.hid (HMG1.out.calls (fr_of hgb) hcb hgx')
          have HKH := Lib.hid (show RowT wh xb KA kc key from (HKYG.out.step (Fr.or_set (g := g) (xb := xb) 1 (.slice OA old.length oc)) hgx').step (Fr.or_g (fr_of hgb)) hgx')
          have HRH := Lib.hid (show RowT wh xb (some ⟨gr, 0, none⟩) rc rw_ from (HRTG.out.step (Fr.or_set (g := g) (xb := xb) 1 (.slice OA old.length oc)) hgx').step (Fr.or_g (fr_of hgb)) hgx')
          have HOH := Lib.hid (show RowT wh xb OA oc old from (HOL.out.step (Fr.or_set (g := g) (xb := xb) 1 (.slice OA old.length oc)) hgx').step (Fr.or_g (fr_of hgb)) hgx')
          have hzh : wh.heap.size = wg.heap.size := by simpa using hsb
          have e0 : wh.cell? ⟨xb, 0, none⟩ = some (.int .i64 (t : Int)) := cells_of_block HMH.out.xc 0 _ rfl
          have e1 : wh.cell? ⟨xb, 1, none⟩ = some (.slice OA old.length oc) := cells_of_block HMH.out.xc 1 _ rfl
          have e2 : wh.cell? ⟨xb, 2, none⟩ = some (.slice none 0 0) := cells_of_block HMH.out.xc 2 _ rfl
          have g2 : wh.frozen? ⟨xb, 2, none⟩ = false := by simp [World.frozen?, HMH.out.xc]
          have hlh : xb < wh.heap.size := lt_of_heap HMH.out.xc
          clear hcb hgb hsb c0 c1 c2 f1 f2 hlg hlg1 hzh
          cases bb
          · skip
            obtain ⟨wn, hwn⟩ : ∃ wn, wh.setCell ⟨xb, 2, none⟩ (.slice (some ⟨gr, 0, none⟩) rw_.length rc) = wn := ⟨_, rfl⟩
            have HMN := Lib.hid (HMH.out.set 2 (.slice (some ⟨gr, 0, none⟩) rw_.length rc) hgx' hxz)
            have HKN := Lib.hid (show RowT (wh.setCell ⟨xb, 2, none⟩ (.slice (some ⟨gr, 0, none⟩) rw_.length rc)) xb KA kc key from HKH.out.step (Fr.or_set (g := g) (xb := xb) 2 (.slice (some ⟨gr, 0, none⟩) rw_.length rc)) hgx')
            have HON := Lib.hid (show RowT (wh.setCell ⟨xb, 2, none⟩ (.slice (some ⟨gr, 0, none⟩) rw_.length rc)) xb OA oc old from HOH.out.step (Fr.or_set (g := g) (xb := xb) 2 (.slice (some ⟨gr, 0, none⟩) rw_.length rc)) hgx')
            have HNN := Lib.hid (show RowT (wh.setCell ⟨xb, 2, none⟩ (.slice (some ⟨gr, 0, none⟩) rw_.length rc)) xb (some ⟨gr, 0, none⟩) rc (rw_) from HRH.out.step (Fr.or_set (g := g) (xb := xb) 2 (.slice (some ⟨gr, 0, none⟩) rw_.length rc)) hgx')
            rw [hwn] at HMN HKN HON HNN
            have n0 : wn.cell? ⟨xb, 0, none⟩ = some (.int .i64 (t : Int)) := cells_of_block HMN.out.xc 0 _ rfl
            have n1' : wn.cell? ⟨xb, 1, none⟩ = some (.slice OA old.length oc) := cells_of_block HMN.out.xc 1 _ rfl
            have n2' : wn.cell? ⟨xb, 2, none⟩ = some (.slice (some ⟨gr, 0, none⟩) (rw_).length rc) := cells_of_block HMN.out.xc 2 _ rfl
            have hown : ∀ b, some b = (Value.slice A l.length c).ownBlock → B0 ≤ b ∧ b < xb := fun b e => by have := HI2.out.mkl.base_le e.symm; omega
            have hln : xb < wn.heap.size := lt_of_heap HMN.out.xc
            have HIN := Lib.hid (HI2.out.keep HMN.out.fr HMN.out.case hgl HSG.out)
            have HTB := Lib.hid (show ∀ b, (xb < b ∧ b < wn.heap.size) → False ∨ Beh B0 wn (.slice A l.length c) b from fun b hb => .inr ⟨by omega, hb.2, fun e => by have := (HI2.out.mkl.base_le e.symm).2; have := hb.1; omega⟩)
            go_wp2_with (at_builtin; refine wpList_append_mkf rfl (.tmp 108) (.tmp 110) 48 rfl B0 (fun _ => False) 53 i0 _ 3 56 Try.underlying48 hi hz0 hz1 hz2 rfl (by decide) _ _ _ _ _ HIN.out.mkl rfl (encChg (⟨t, old, rw_⟩ : Chg)) #[.int .i64 (t : Int), .slice OA old.length oc, .slice (some ⟨gr, 0, none⟩) rw_.length rc] (vals_chg ⟨HON.out.1, HON.out.2.more HTB.out⟩ ⟨HNN.out.1, HNN.out.2.more HTB.out⟩) (encChg_plain _) (encChg_size _) 1 rfl (by omega) (by omega) ?_; intro g7 cap7 wl hm7 hb7 hlt7 hf7 hat7; have HM7 := Lib.hid hm7; have HF7 := Lib.hid hf7; have HAT7 := Lib.hid hat7; have hz7 := hf7.size; have v0 := (hf7.cell (b := w.heap.size) (o := 0) (by omega) (fun e => by have := hown _ e; omega)).trans HIN.out.b0; have v1 := (hf7.cell (b := w.heap.size) (o := 1) (by omega) (fun e => by have := hown _ e; omega)).trans HIN.out.b1; have v2 := (hf7.cell (b := w.heap.size + 1) (o := 0) (by omega) (fun e => by have := hown _ e; omega)).trans HIN.out.s0; have v5 := (hf7.frozenF (b := w.heap.size + 1) (o := 0) (by omega) (fun e => by have := hown _ e; omega)).trans HIN.out.sf; have v3 := (hf7.cell (b := xb) (o := 0) (by omega) (fun e => by have := hown _ e; omega)).trans n0; have v4 := (hf7.cell (b := xb) (o := 2) (by omega) (fun e => by have := hown _ e; omega)).trans n2'; clear hm7 hb7 hlt7 hf7 hat7)
            have HL := Lib.hid (HIN.out.push (x := (⟨t, old, rw_⟩ : Chg)) hgl HSG.out HM7.out HF7.out HAT7.out)
            have HXL := Lib.hid ((HF7.out.block xb (lt_of_heap HMN.out.xc) (fun e => by have := hown _ e; omega)).trans HMN.out.xc)
            have HKL := Lib.hid (show RowT wl xb KA kc key from ⟨HKN.out.1, (HKN.out.2.keep (HF7.out.same (fun b hb => ⟨hb.2, fun e => by have := hown _ e; have := hb.1; omega⟩))).more (fun b hb => ⟨hb.1, by have := hb.2; omega⟩)⟩)
            have HNL := Lib.hid (show RowT wl xb (some ⟨gr, 0, none⟩) rc (rw_) from ⟨HNN.out.1, (HNN.out.2.keep (HF7.out.same (fun b hb => ⟨hb.2, fun e => by have := hown _ e; have := hb.1; omega⟩))).more (fun b hb => ⟨hb.1, by have := hb.2; omega⟩)⟩)
            have HCH := Lib.hid (show validC s m (⟨t, old, rw_⟩ : Chg) = true ∧ fitsC s (⟨t, old, rw_⟩ : Chg) (cur.getD t []) = true ∧ keyC s (⟨t, old, rw_⟩ : Chg) = key from by
             have h9 := chg_ok HGS.out.wide HCO.out htl HFR.out (b := true) (x := (⟨t, old, rw_⟩ : Chg)) (by rw [HKQ.out, HOQ.out]; exact fun _ => rfl) (by rw [HKQ.out, HOQ.out]; rfl)
             rw [HKQ.out] at h9
             exact h9)
            have hTL : ∀ b, (xb < b ∧ b < wl.heap.size) → some b ≠ (Value.slice (some ⟨g7, 0, none⟩) (l ++ [(⟨t, old, rw_⟩ : Chg)]).length cap7).ownBlock → (S b ∨ (w.heap.size + 3 ≤ b ∧ b < B0 ∧ b ≠ gt) ∨ Beh B0 wl (.slice (some ⟨g7, 0, none⟩) (l ++ [(⟨t, old, rw_⟩ : Chg)]).length cap7) b) := fun b hb hne => .inr (.inr ⟨by omega, hb.2, hne⟩)
            have hg7n : ∀ b, (xb < b ∧ b < wn.heap.size) → some b ≠ (Value.slice (some ⟨g7, 0, none⟩) (l ++ [(⟨t, old, rw_⟩ : Chg)]).length cap7).ownBlock := fun b hb e => by
             have e9 : b = g7 := by simpa [Value.ownBlock] using e
             rcases HAT7.out with h9 | h9
             · have := hown g7 h9.symm; omega
             · omega
            have hput := rput_any (some ⟨bT, oT, none⟩) c0' s gt cc cur t KA kc key (some ⟨gr, 0, none⟩) rc (rw_) (fun b => S b ∨ (w.heap.size + 3 ≤ b ∧ b < B0 ∧ b ≠ gt) ∨ Beh B0 wl (.slice (some ⟨g7, 0, none⟩) (l ++ [(⟨t, old, rw_⟩ : Chg)]).length cap7) b) wl ((HS.out.keep (show Same S w wl from fun b hb => (HL.out).gr.block b (hSw b hb) (fun e => (HSG.out b hb).2 (by injection e)))).more (fun b hb => .inl hb)) HL.out.stc (((HKN.out.2.keep (HF7.out.same (fun b hb => ⟨hb.2, fun e => by have := hown _ e; have := hb.1; omega⟩))).more (fun b hb => hTL b ⟨hb.1, by have := hb.2; omega⟩ (hg7n b hb)))) (((HNN.out.2.keep (HF7.out.same (fun b hb => ⟨hb.2, fun e => by have := hown _ e; have := hb.1; omega⟩))).more (fun b hb => hTL b ⟨hb.1, by have := hb.2; omega⟩ (hg7n b hb)))) htl htc (by have := getD_le_count cur t; have := HCT.out; omega) (by have := HCL.out; omega)
            rw [HCL.out] at hput
            have HPUT := Lib.hid hput
            have hzl : xb < wl.heap.size := lt_of_heap HXL.out
            clear hput hTL hg7n hown hq
            have hlw3 : w.heap.size + 3 < wl.heap.size := by omega
            refine HPUT.out.mono ?_
            rintro e wp ⟨rfl, hstp, hfp⟩
            have HSTP := Lib.hid hstp
            have HFP := Lib.hid hfp
            have hzp := hfp.size
            have tf := (hfp.frozenF (b := w.heap.size + 1) (o := 0) (by show _ < wl.heap.size; omega) (by omega)).trans v5
            have tc := (hfp.cell (b := w.heap.size + 1) (o := 0) (by show _ < wl.heap.size; omega) (by omega)).trans v2
            clear hstp hfp v0 v1 v2 v3 v4 v5
            have HF := Lib.hid (HL.out.put hgl HSG.out HSTP.out HFP.out)
            have HPE := Lib.hid (put_chg HCO.out htc (x := (⟨t, old, rw_⟩ : Chg)) rfl HCH.out.2.2)
            go_wp2_with fail
            go_roundw
            case rel =>
             have hf9 := HF.out
             rw [show (rw_) = ((⟨t, old, rw_⟩ : Chg)).new from rfl, HPE.out] at hf9
             exact ⟨n1, l ++ [(⟨t, old, rw_⟩ : Chg)], some ⟨g7, 0, none⟩, cap7, _, by simp; omega, by simp, by go_num, hf9, (step_ok HCO.out HCH.out.1).1, Fit.snoc HFI.out HCH.out.1 (by rw [← HAF.out]; exact HCH.out.2.1), by rw [after_snoc, ← HAF.out]⟩
            case measure => (simp [intOf]; try omega)
          · skip
            obtain ⟨wn, rfl⟩ : ∃ wn : World, wn = wh := ⟨_, rfl⟩
            have HMN := HMH
            have HKN := HKH
            have HON := HOH
            have HNN := Lib.hid (show RowT wn xb none 0 (([] : Row)) from RowT.nil_)
            have n0 := e0
            have n1' := e1
            have n2' := e2
            clear e0 e1 e2
            have hown : ∀ b, some b = (Value.slice A l.length c).ownBlock → B0 ≤ b ∧ b < xb := fun b e => by have := HI2.out.mkl.base_le e.symm; omega
            have hln : xb < wn.heap.size := lt_of_heap HMN.out.xc
            have HIN := Lib.hid (HI2.out.keep HMN.out.fr HMN.out.case hgl HSG.out)
            have HTB := Lib.hid (show ∀ b, (xb < b ∧ b < wn.heap.size) → False ∨ Beh B0 wn (.slice A l.length c) b from fun b hb => .inr ⟨by omega, hb.2, fun e => by have := (HI2.out.mkl.base_le e.symm).2; have := hb.1; omega⟩)
            go_wp2_with (at_builtin; refine wpList_append_mkf rfl (.tmp 108) (.tmp 110) 48 rfl B0 (fun _ => False) 53 i0 _ 3 56 Try.underlying48 hi hz0 hz1 hz2 rfl (by decide) _ _ _ _ _ HIN.out.mkl rfl (encChg (⟨t, old, ([] : Row)⟩ : Chg)) #[.int .i64 (t : Int), .slice OA old.length oc, .slice none 0 0] (vals_chg ⟨HON.out.1, HON.out.2.more HTB.out⟩ ⟨HNN.out.1, HNN.out.2.more HTB.out⟩) (encChg_plain _) (encChg_size _) 1 rfl (by omega) (by omega) ?_; intro g7 cap7 wl hm7 hb7 hlt7 hf7 hat7; have HM7 := Lib.hid hm7; have HF7 := Lib.hid hf7; have HAT7 := Lib.hid hat7; have hz7 := hf7.size; have v0 := (hf7.cell (b := w.heap.size) (o := 0) (by omega) (fun e => by have := hown _ e; omega)).trans HIN.out.b0; have v1 := (hf7.cell (b := w.heap.size) (o := 1) (by omega) (fun e => by have := hown _ e; omega)).trans HIN.out.b1; have v2 := (hf7.cell (b := w.heap.size + 1) (o := 0) (by omega) (fun e => by have := hown _ e; omega)).trans HIN.out.s0; have v5 := (hf7.frozenF (b := w.heap.size + 1) (o := 0) (by omega) (fun e => by have := hown _ e; omega)).trans HIN.out.sf; have v3 := (hf7.cell (b := xb) (o := 0) (by omega) (fun e => by have := hown _ e; omega)).trans n0; have v4 := (hf7.cell (b := xb) (o := 2) (by omega) (fun e => by have := hown _ e; omega)).trans n2'; clear hm7 hb7 hlt7 hf7 hat7)
            have HL := Lib.hid (HIN.out.push (x := (⟨t, old, ([] : Row)⟩ : Chg)) hgl HSG.out HM7.out HF7.out HAT7.out)
            have HXL := Lib.hid ((HF7.out.block xb (lt_of_heap HMN.out.xc) (fun e => by have := hown _ e; omega)).trans HMN.out.xc)
            have HKL := Lib.hid (show RowT wl xb KA kc key from ⟨HKN.out.1, (HKN.out.2.keep (HF7.out.same (fun b hb => ⟨hb.2, fun e => by have := hown _ e; have := hb.1; omega⟩))).more (fun b hb => ⟨hb.1, by have := hb.2; omega⟩)⟩)
            have HNL := Lib.hid (show RowT wl xb none 0 (([] : Row)) from ⟨HNN.out.1, (HNN.out.2.keep (HF7.out.same (fun b hb => ⟨hb.2, fun e => by have := hown _ e; have := hb.1; omega⟩))).more (fun b hb => ⟨hb.1, by have := hb.2; omega⟩)⟩)
            have HCH := Lib.hid (show validC s m (⟨t, old, ([] : Row)⟩ : Chg) = true ∧ fitsC s (⟨t, old, ([] : Row)⟩ : Chg) (cur.getD t []) = true ∧ keyC s (⟨t, old, ([] : Row)⟩ : Chg) = key from by
             have h9 := chg_ok HGS.out.wide HCO.out htl HFR.out (b := false) (x := (⟨t, old, ([] : Row)⟩ : Chg)) (by rw [HKQ.out, HOQ.out]; intro e; exact absurd (by rw [e]; rfl) HO0.out) (by rw [HKQ.out, HOQ.out]; rfl)
             rw [HKQ.out] at h9
             exact h9)
            have hTL : ∀ b, (xb < b ∧ b < wl.heap.size) → some b ≠ (Value.slice (some ⟨g7, 0, none⟩) (l ++ [(⟨t, old, ([] : Row)⟩ : Chg)]).length cap7).ownBlock → (S b ∨ (w.heap.size + 3 ≤ b ∧ b < B0 ∧ b ≠ gt) ∨ Beh B0 wl (.slice (some ⟨g7, 0, none⟩) (l ++ [(⟨t, old, ([] : Row)⟩ : Chg)]).length cap7) b) := fun b hb hne => .inr (.inr ⟨by omega, hb.2, hne⟩)
            have hg7n : ∀ b, (xb < b ∧ b < wn.heap.size) → some b ≠ (Value.slice (some ⟨g7, 0, none⟩) (l ++ [(⟨t, old, ([] : Row)⟩ : Chg)]).length cap7).ownBlock := fun b hb e => by
             have e9 : b = g7 := by simpa [Value.ownBlock] using e
             rcases HAT7.out with h9 | h9
             · have := hown g7 h9.symm; omega
             · omega
            have hput := rput_any (some ⟨bT, oT, none⟩) c0' s gt cc cur t KA kc key none 0 (([] : Row)) (fun b => S b ∨ (w.heap.size + 3 ≤ b ∧ b < B0 ∧ b ≠ gt) ∨ Beh B0 wl (.slice (some ⟨g7, 0, none⟩) (l ++ [(⟨t, old, ([] : Row)⟩ : Chg)]).length cap7) b) wl ((HS.out.keep (show Same S w wl from fun b hb => (HL.out).gr.block b (hSw b hb) (fun e => (HSG.out b hb).2 (by injection e)))).more (fun b hb => .inl hb)) HL.out.stc (((HKN.out.2.keep (HF7.out.same (fun b hb => ⟨hb.2, fun e => by have := hown _ e; have := hb.1; omega⟩))).more (fun b hb => hTL b ⟨hb.1, by have := hb.2; omega⟩ (hg7n b hb)))) (((HNN.out.2.keep (HF7.out.same (fun b hb => ⟨hb.2, fun e => by have := hown _ e; have := hb.1; omega⟩))).more (fun b hb => hTL b ⟨hb.1, by have := hb.2; omega⟩ (hg7n b hb)))) htl htc (by have := getD_le_count cur t; have := HCT.out; omega) (by have := HCL.out; omega)
            rw [HCL.out] at hput
            have HPUT := Lib.hid hput
            have hzl : xb < wl.heap.size := lt_of_heap HXL.out
            clear hput hTL hg7n hown hq
            have hlw3 : w.heap.size + 3 < wl.heap.size := by omega
            refine HPUT.out.mono ?_
            rintro e wp ⟨rfl, hstp, hfp⟩
            have HSTP := Lib.hid hstp
            have HFP := Lib.hid hfp
            have hzp := hfp.size
            have tf := (hfp.frozenF (b := w.heap.size + 1) (o := 0) (by show _ < wl.heap.size; omega) (by omega)).trans v5
            have tc := (hfp.cell (b := w.heap.size + 1) (o := 0) (by show _ < wl.heap.size; omega) (by omega)).trans v2
            clear hstp hfp v0 v1 v2 v3 v4 v5
            have HF := Lib.hid (HL.out.put hgl HSG.out HSTP.out HFP.out)
            have HPE := Lib.hid (put_chg HCO.out htc (x := (⟨t, old, ([] : Row)⟩ : Chg)) rfl HCH.out.2.2)
            go_wp2_with fail
            go_roundw
            case rel =>
             have hf9 := HF.out
             rw [show (([] : Row)) = ((⟨t, old, ([] : Row)⟩ : Chg)).new from rfl, HPE.out] at hf9
             exact ⟨n1, l ++ [(⟨t, old, ([] : Row)⟩ : Chg)], some ⟨g7, 0, none⟩, cap7, _, by simp; omega, by simp, by go_num, hf9, (step_ok HCO.out HCH.out.1).1, Fit.snoc HFI.out HCH.out.1 (by rw [← HAF.out]; exact HCH.out.2.1), by rw [after_snoc, ← HAF.out]⟩
            case measure => (simp [intOf]; try omega)
end Go.Proofs.Ytkpjjfhfbpfjpaa

