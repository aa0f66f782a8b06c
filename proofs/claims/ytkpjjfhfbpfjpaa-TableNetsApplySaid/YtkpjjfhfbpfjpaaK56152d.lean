import Derived.Test.YtkpjjfhfbpfjpaaK4e30bf
import Derived.Test.YtkpjjfhfbpfjpaaKa970ca
import Derived.Test.YtkpjjfhfbpfjpaaK64d55c
set_option linter.unusedVariables false
set_option linter.unusedSimpArgs false
set_option maxRecDepth 100000
namespace Go.Proofs.Ytkpjjfhfbpfjpaa
open Go.RowKit
def ApPost (r : Int × St) (w : World) (e : Ending) (w' : World) : Prop := ∃ A c, e = .returned (.tuple #[.agg #[.slice A r.2.length c], .int .i64 r.1]) ∧ r.2.length ≤ c ∧ StS w' (New w w') A r.2 ∧ Below w.heap.size w w'
theorem ApPost.err {w w' : World} {n : Int} {r : Int × St} (h : r = (n, [])) (hb : Below w.heap.size w w') : ApPost r w (.returned (.tuple #[.agg #[.slice none 0 0], .int .i64 n])) w' := by
 subst h
 exact ⟨none, 0, rfl, Nat.le_refl _, StS.nil_, hb⟩
theorem cell_old {w : World} {o : Obj} {b k : Nat} (h : b < w.heap.size) : (w.alloc o).cell? ⟨b, k, none⟩ = w.cell? ⟨b, k, none⟩ := World.cell?_of_block (Below.heap_alloc w o b h)
theorem frozen_old {w : World} {o : Obj} {b k : Nat} (h : b < w.heap.size) : (w.alloc o).frozen? ⟨b, k, none⟩ = w.frozen? ⟨b, k, none⟩ := World.frozen?_of_block (Below.heap_alloc w o b h)
theorem cell_new {w : World} {cs : Array Value} {t : TypeId} {n k : Nat} {v : Value} (hn : n = w.heap.size) (h : cs[k]? = some v) : (w.alloc (.cells cs t)).cell? ⟨n, k, none⟩ = some v := by
 subst hn
 rw [cell_of_row _ _ _ _ _ _ (heap_alloc_new w (.cells cs t))]
 exact h
theorem frozen_new {w : World} {cs : Array Value} {t : TypeId} {n k : Nat} (hn : n = w.heap.size) : (w.alloc (.cells cs t)).frozen? ⟨n, k, none⟩ = false := by
 subst hn
 have h := heap_alloc_new w (.cells cs t)
 unfold World.frozen?
 rw [h]
 simp
theorem drop_chg {l : List Chg} {k : Nat} (h : k < l.length) : l.drop k = l.getD k chg0 :: l.drop (k + 1) := by
 rw [List.drop_eq_getElem_cons h]
 simp [List.getD, h]
theorem valid_table {s : Sch} {m : Int} {c : Chg} (h : validC s m c = true) : ∃ tt : Nat, c.table = tt ∧ tt < s.tabs.length := by
 unfold validC at h
 simp only [Bool.and_eq_true, hasN, decide_eq_true_eq] at h
 obtain ⟨tt, htt⟩ := Int.eq_ofNat_of_zero_le h.1.1.1.1.1
 exact ⟨tt, htt, by have := h.1.1.1.1.2; omega⟩
theorem valid_some {s : Sch} {m : Int} {c : Chg} (h : validC s m c = true) : 0 < c.old.length ∨ 0 < c.new.length := by
 unfold validC at h
 simp only [Bool.and_eq_true, Bool.not_eq_true', Bool.and_eq_false_iff, decide_eq_false_iff_not] at h
 have := h.1.1.1.2
 omega
theorem getD_set_same {st : St} {t : Nat} {r : List Row} (h : t < st.length) : (st.set t r).getD t [] = r := by simp [List.getD, h]
theorem getD_set_other {st : St} {t u : Nat} {r : List Row} (h : u ≠ t) : (st.set t r).getD u [] = st.getD u [] := by simp [List.getD, List.getElem?_set_ne (Ne.symm h)]
theorem take_snoc {l : List Row} {k : Nat} (h : k < l.length) : l.take (k + 1) = l.take k ++ [l.getD k []] := by
 rw [List.take_succ_eq_append_getElem h]
 simp [List.getD, h]
set_option maxHeartbeats 4000000 in
theorem apply_any (pc : List Int → Pred → Int) (A0 : Option Addr) (c0' : Nat) (s : Sch) (m : Int) (A : Option Addr) (ca : Nat) (st : St) (AC : Option Addr) (cc : Nat) (l : List Chg) (S : Nat → Prop) (w : World) (hs : TabS w S A0 s.tabs) (hst : StS w S A st) (hch : ChgS w S AC l) (hS : ∀ b, S b → b < w.heap.size) (hpc : SchPreds pc s) (hc : countF st ≤ 4611686018427387904) :
  Calls Try.prog 18 #[sAgg s.version A0 s.tabs.length c0', .int .i64 m, stAgg A st.length ca, .slice AC l.length cc] w (ApPost (applyF (schF pc s) s m st l) w) := by
 have hsl := hs.len
 have hstl := hst.len
 have hcl := hch.len
 have HS := Lib.hid hs
 have HST := Lib.hid hst
 have HCH := Lib.hid hch
 obtain ⟨er, her⟩ : ∃ er, checkF (schF pc s) s m st = er := ⟨_, rfl⟩
 have HCF := Lib.hid her
 have HAP := Lib.hid (show applyF (schF pc s) s m st l = if er ≠ 0 then (er, []) else applyL s m (countF st) st l by unfold applyF; rw [her])
 have HMK := Lib.hid (run_make_rows st.length hstl)
 obtain ⟨i0, hi, hz0, hz1, hz2⟩ := info_parts infoR
 clear hs hst hch her
 have HB0 := Lib.hid ((((Below.refl w.heap.size w).alloc (Nat.le_refl _) (.cells #[.int .i64 s.version, .slice A0 s.tabs.length c0'] 25)).alloc (by simp) (.cells #[.slice A st.length ca] 56)).alloc (by simp; omega) (.cells #[.slice none 0 0] 56))
 go_enter Try.func18, Try.ntmps18
 go_wp2_with fail
 refine (tcheck_any pc A0 c0' s m A ca st S _ (HS.out.keep (Same.of_below HB0.out hS)) (HST.out.keep (Same.of_below HB0.out hS)) (fun b hb => by have := hS b hb; simp; omega) hpc hc).mono ?_
 rintro e w1 ⟨rfl, hb1⟩
 rw [HCF.out]
 have HB1 := Lib.hid (HB0.out.trans (hb1.mono (by simp; omega)))
 have x0 : w1.cell? ⟨w.heap.size, 0, none⟩ = some (.int .i64 s.version) := (hb1.cell (p := ⟨w.heap.size, 0, none⟩) (by simp; omega)).trans ((cell_old (by simp; omega)).trans ((cell_old (by simp)).trans (cell_new rfl rfl)))
 have x1 : w1.cell? ⟨w.heap.size, 1, none⟩ = some (.slice A0 s.tabs.length c0') := (hb1.cell (p := ⟨w.heap.size, 1, none⟩) (by simp; omega)).trans ((cell_old (by simp; omega)).trans ((cell_old (by simp)).trans (cell_new rfl rfl)))
 have x2 : w1.cell? ⟨w.heap.size + 1, 0, none⟩ = some (.slice A st.length ca) := (hb1.cell (p := ⟨w.heap.size + 1, 0, none⟩) (by simp)).trans ((cell_old (by simp)).trans (cell_new (by simp) rfl))
 have x3 : w1.cell? ⟨w.heap.size + 1 + 1, 0, none⟩ = some (.slice none 0 0) := (hb1.cell (p := ⟨w.heap.size + 1 + 1, 0, none⟩) (by simp)).trans (cell_new (by simp) rfl)
 have x4 : w1.frozen? ⟨w.heap.size + 1 + 1, 0, none⟩ = false := (hb1.frozen (p := ⟨w.heap.size + 1 + 1, 0, none⟩) (by simp)).trans (frozen_new (by simp))
 have hw1 : w.heap.size + 1 + 1 < w1.heap.size := by have := hb1.size; simp at this; omega
 have hw1a : w.heap.size + 1 < w1.heap.size := by omega
 have hw1b : w.heap.size < w1.heap.size := by omega
 clear hb1 HB0
 by_cases he : er = 0
 · subst he
   have HOK := Lib.hid (check_ok HCF.out)
   have HAP2 := Lib.hid (show applyF (schF pc s) s m st l = applyL s m (countF st) st l by rw [HAP.out, if_neg (by simp)])
   clear HAP
   have hmk := HMK.out
   go_wp2_with fail
   clear hmk
   have HI := Lib.hid (show ApW w w1.heap.size s A0 c0' st.length ((w1.alloc (.cells (nilCells st.length).toArray 49)).alloc (.cells #[.slice (some ⟨w1.heap.size, 0, none⟩) st.length st.length] 56)) from
    ⟨(HB1.out.alloc (by omega) _).alloc (by simp; omega) _, (cell_old (by simp; omega)).trans ((cell_old hw1b).trans x0), (cell_old (by simp; omega)).trans ((cell_old hw1b).trans x1), (cell_old (by simp; omega)).trans ((cell_old hw1).trans x3), (frozen_old (by simp; omega)).trans ((frozen_old hw1).trans x4), cell_new (by simp) rfl, hw1, by simp⟩)
   have HI2 := Lib.hid (show CopyO ((w1.alloc (.cells (nilCells st.length).toArray 49)).alloc (.cells #[.slice (some ⟨w1.heap.size, 0, none⟩) st.length st.length] 56)) (w1.heap.size + 2) w1.heap.size st.length 0 st from CopyO.zero ((Below.heap_alloc _ _ _ (by simp)).trans (heap_alloc_new w1 _)))
   clear x0 x1 x2 x3 x4
   go_loopw [37] (fun i wr => ∃ k : Nat, k ≤ st.length ∧ i = .int .i64 k ∧ ApW w w1.heap.size s A0 c0' st.length wr ∧ CopyO wr (w1.heap.size + 2) w1.heap.size st.length k st) (fun i _ => st.length - (intOf i).toNat)
   case atStart => exact ⟨0, Nat.zero_le _, rfl, HI.out, HI2.out⟩
   case round =>
    clear HI HI2
    obtain ⟨k, hk, rfl, haw, hco⟩ := hrel
    have HAW := Lib.hid haw
    have HCO := Lib.hid hco
    have hsz := haw.sz
    clear haw hco
    by_cases hkl : k < st.length
    · obtain ⟨b2, o2, rfl, hb2, A', c', d1, d2, d3⟩ := (HST.out.keep (Same.of_below HAW.out.bel hS)).at_ hkl
      have hl2 : b2 < wr.heap.size := by have := hS b2 hb2; omega
      have HRS := Lib.hid d3
      have hrl := d3.len
      have HCI := Lib.hid (HCO.out.inner hkl)
      have HGE := Lib.hid (Nat.le_trans (getD_le_count st k) HOK.out.1)
      clear d2 d3 HCO
      obtain ⟨rows, hrows⟩ : ∃ rows, st.getD k [] = rows := ⟨_, rfl⟩
      rw [hrows] at d1 HRS hrl HGE
      have HROWS := Lib.hid hrows
      clear hrows
      have hge := HGE.out
      go_wp2_with fail
      clear d1
      go_loopw [44] (fun i wr => ∃ j : Nat, j ≤ rows.length ∧ i = .int .i64 j ∧ ∃ v, ApW w w1.heap.size s A0 c0' st.length wr ∧ CopyI wr (w1.heap.size + 2) w1.heap.size st.length k st v (rows.take j)) (fun i _ => rows.length - (intOf i).toNat)
      case atStart => exact ⟨0, Nat.zero_le _, rfl, _, HAW.out, by rw [List.take_zero]; exact HCI.out⟩
      case round =>
       rename_i wo
       have HRO := Lib.hid (HRS.out.keep (w' := w) (fun b hb => (HAW.out.bel.block b (hS b hb)).symm))
       clear HAW HCI HRS hsz hl2
       obtain ⟨j, hj, rfl, v, haw, hci⟩ := hrel
       have HAW := Lib.hid haw
       have HCI := Lib.hid hci
       have hsz := haw.sz
       clear haw hci
       by_cases hjl : j < rows.length
       · obtain ⟨AV, cv, hform⟩ := HCI.out.form
         rw [List.length_take, Nat.min_eq_left hj] at hform
         subst hform
         obtain ⟨g2, g3⟩ := HCI.out.cell
         have g1 := HAW.out.a0
         obtain ⟨vals, hown, hvals, hvS⟩ := HCI.out.own
         rw [List.length_map, List.length_take, Nat.min_eq_left hj] at hown
         have HOWN := Lib.hid hown
         have HVALS := Lib.hid hvals
         have HNV1 := Lib.hid (show some (w1.heap.size + 1) ≠ (Value.slice AV j cv).ownBlock from fun e => by have := own_base hown e.symm; omega)
         have HNV2 := Lib.hid (show some w1.heap.size ≠ (Value.slice AV j cv).ownBlock from fun e => by have := own_base hown e.symm; omega)
         have HOWN6 := Lib.hid (show ∀ w5, Below wr.heap.size wr w5 → ∀ AR n c, (w5.alloc (.cells #[.slice AR n c] 27)).ownsRow (w1.heap.size + 2) 27 1 (.slice AV j cv) j vals from fun w5 hb5 AR n c => ownsRow_keep hown (fun g hg => (Below.heap_alloc w5 _ g (by have := own_lt hown hg; have := hb5.size; omega)).trans (hb5.block g (own_lt hown hg))))
         clear hown hvals hvS
         obtain ⟨b5, o5, rfl, hb5, A5, c5, f1, f2, f3⟩ := (HRO.out.keep (Same.of_below HAW.out.bel hS)).at_ hjl
         have HROW := Lib.hid f3
         have hl5 : b5 < wr.heap.size := by have := hS b5 hb5; have := HAW.out.lt; omega
         have HTK := Lib.hid (take_snoc hjl)
         have hrw := f3.len
         clear f2 f3
         generalize rows.getD j [] = row at f1 HROW hrw HTK
         have hki : (k : Int) < st.length := by omega
         have hk0 : (0:Int) ≤ k := by omega
         go_wp2_with fail
         clear f1
         refine hideQ (fun c a d v w h => by cases d <;> exact h) (fun Q' HQ HP => ?_)
         refine regionT_until (fun w' => w'.cell? ⟨w1.heap.size + 1, 0, none⟩ = some (.slice (some ⟨w1.heap.size, 0, none⟩) st.length st.length) ∧ w'.cell? ⟨w1.heap.size, k, none⟩ = some (.slice AV j cv) ∧ w'.frozen? ⟨w1.heap.size, k, none⟩ = false) 13 14 (bA 14 0) (by kernel_rfl) (by kernel_rfl) (by kernel_rfl) ?_
         refine tk 0 48 (bA 14 1) _ rfl (by kernel_rfl) (by kernel_rfl) HP.out (by rfl) (fun w' hSw => by (try dsimp only at hSw); go_simp; (try with_reducible rfl)) ⟨g1, g2, g3⟩ ?_
         simp only [psA, psB, psC]
         refine tk 1 49 (bA 14 3) _ rfl (by kernel_rfl) (by kernel_rfl) HP.out (by rfl) (fun w' hSw => by (try dsimp only at hSw); go_simp; (try with_reducible rfl)) ⟨g1, g2, g3⟩ ?_
         simp only [psA, psB, psC]
         refine tk 2 50 (bA 14 7) _ rfl (by kernel_rfl) (by kernel_rfl) HP.out (by rfl) (fun w' hSw => by (try dsimp only at hSw); go_simp; (try with_reducible rfl)) ⟨g1, g2, g3⟩ ?_
         simp only [psA, psB, psC]
         refine tk 3 51 (bA 14 15) _ rfl (by kernel_rfl) (by kernel_rfl) HP.out (by rfl) (fun w' hSw => by (try dsimp only at hSw); go_simp; (try with_reducible rfl)) ⟨g1, g2, g3⟩ ?_
         simp only [psA, psB, psC]
         refine tk 4 52 (bA 14 31) _ rfl (by kernel_rfl) (by kernel_rfl) HP.out (by rfl) (fun w' hSw => by (try dsimp only at hSw); go_simp; (try with_reducible rfl)) ⟨g1, g2, g3⟩ ?_
         simp only [psA, psB, psC]
         refine tk 5 53 (bA 14 63) _ rfl (by kernel_rfl) (by kernel_rfl) HP.out (by rfl) (fun w' hSw => by (try dsimp only at hSw); go_simp; (try with_reducible rfl)) ⟨g1, g2, g3⟩ ?_
         simp only [psA, psB, psC]
         refine tk 6 54 (bA 14 127) _ rfl (by kernel_rfl) (by kernel_rfl) HP.out (by rfl) (fun w' hSw => by (try dsimp only at hSw); go_simp; (try with_reducible rfl)) ⟨g1, g2, g3⟩ ?_
         simp only [psA, psB, psC]
         refine tk 7 55 (bA 14 255) _ rfl (by kernel_rfl) (by kernel_rfl) HP.out (by rfl) (fun w' hSw => by (try dsimp only at hSw); go_simp; (try with_reducible rfl)) ⟨g1, g2, g3⟩ ?_
         simp only [psA, psB, psC]
         refine tk 8 56 (bA 14 511) _ rfl (by kernel_rfl) (by kernel_rfl) HP.out (by rfl) (fun w' hSw => by (try dsimp only at hSw); go_simp; (try with_reducible rfl)) ⟨g1, g2, g3⟩ ?_
         simp only [psA, psB, psC]
         refine anyT_one (i := 9) (o := ⟨some 57, _, _, _, _, _⟩) (L' := (bA 14 1023)) rfl (by kernel_rfl) (by kernel_rfl) (fun K hK => ?_)
         have HK := Lib.hid hK
         clear hK
         go_simp
         refine (clone_any A5 c5 row S _ (by exact HROW.out.keep (fun _ _ => rfl))).mono ?_
         rintro e w5 ⟨AR, cr, rfl, hown5, hb5⟩
         have hb5' : Below wr.heap.size wr w5 := (Below.refl wr.heap.size wr).drew.trans hb5
         have HNR := Lib.hid (new_row (n := wr.heap.size) hown5 HROW.out.ok (Nat.le_refl _))
         have HB5 := Lib.hid hb5'
         have k1 := (hb5'.cell (p := ⟨w1.heap.size + 1, 0, none⟩) (by simp; omega)).trans g1
         have k2 := (hb5'.cell (p := ⟨w1.heap.size, k, none⟩) (by simp; omega)).trans g2
         have k3 := (hb5'.frozen (p := ⟨w1.heap.size, k, none⟩) (by simp; omega)).trans g3
         have hz5 : wr.heap.size ≤ w5.heap.size := hb5'.size
         clear hb5 hb5' hown5
         refine HK.out _ _ (fun _ => ⟨k1, k2, k3⟩) ?_
         clear HK K
         try simp only [Act.put, psA, psB, psC]
         refine anyT_one (i := 10) (o := ⟨some 58, _, _, _, _, _⟩) (L' := (bA 14 2047)) rfl (by kernel_rfl) (by kernel_rfl) (fun K hK => ?_)
         have HK := Lib.hid hK
         clear hK
         go_simp
         have l1 : (w5.alloc (.cells #[.slice AR row.length cr] 27)).cell? ⟨w1.heap.size + 1, 0, none⟩ = _ := (cell_old (by omega)).trans k1
         have l2 : (w5.alloc (.cells #[.slice AR row.length cr] 27)).cell? ⟨w1.heap.size, k, none⟩ = _ := (cell_old (by omega)).trans k2
         have l3 : (w5.alloc (.cells #[.slice AR row.length cr] 27)).frozen? ⟨w1.heap.size, k, none⟩ = _ := (frozen_old (by omega)).trans k3
         refine HK.out _ _ (fun _ => ⟨l1, l2, l3⟩) ?_
         clear HK K
         try simp only [Act.put, psA, psB, psC]
         refine anyT_one (i := 11) (o := ⟨some 59, _, _, _, _, _⟩) (L' := (bA 14 4095)) rfl (by kernel_rfl) (by kernel_rfl) (fun K hK => ?_)
         refine step_append_lies _ (by rfl) (.tmp 55) (.tmp 58) _ (by rfl) (w1.heap.size + 2) 27 i0 _ 1 24 Try.underlying49 hi hz0 hz1 hz2 rfl (by decide) (.slice AV j cv) j vals (by rfl) (by exact HOWN6.out w5 HB5.out AR row.length cr) ⟨w5.heap.size, 0, none⟩ 1 1 [.slice AR row.length cr] (by rfl) (by rfl) (World.news_of_block (cs := #[.slice AR row.length cr]) (t := 27) (fr := (0, 0)) (heap_alloc_new w5 _)) (by simp [Value.oneCell']) (by omega) (by unfold maxLen; omega) (by omega) (by simp; omega) (w5.heap.size + 1) (by simp) ?_
         intro g7 c7 w7 hown7 hgr7 hat7 hlt7
         have m1 := (hgr7.cell_far ⟨w1.heap.size + 1, 0, none⟩ (by simp; omega) HNV1.out).trans l1
         have m2 := (hgr7.cell_far ⟨w1.heap.size, k, none⟩ (by simp; omega) HNV2.out).trans l2
         have m3 := (hgr7.frozen_far ⟨w1.heap.size, k, none⟩ (by simp; omega) HNV2.out).trans l3
         have hz7 : w5.heap.size + 1 ≤ w7.heap.size := by have := hgr7.size; simp at this; exact this
         have HO7 := Lib.hid hown7
         have HG7 := Lib.hid hgr7
         have HAT7 := Lib.hid hat7
         clear hown7 hgr7 hat7
         refine hK _ _ (fun _ => ⟨m1, m2, m3⟩) ?_
         clear hK K
         try simp only [Act.put, psA, psB, psC]
         refine tk 12 60 (bA 14 8191) _ rfl (by kernel_rfl) (by kernel_rfl) HP.out (by rfl) (fun w' hSw => by (try dsimp only at hSw); go_simp; (try with_reducible rfl)) ⟨m1, m2, m3⟩ ?_
         simp only [psA, psB, psC]
         refine anyT_one (i := 13) (o := ⟨none, _, _, _, _, _⟩) (L' := (bA 14 16383)) rfl (by kernel_rfl) (by kernel_rfl) (fun K hK => ?_)
         have HK := Lib.hid hK
         clear hK
         go_simp
         refine HK.out _ _ (fun h => absurd rfl h) ?_
         clear HK K
         refine anyU_done (by kernel_rfl) ?_
         rw [HQ.out]
         clear HQ HP Q'
         have HFIN := Lib.hid (HCI.out.push (by omega) (by omega) (HB5.out.alloc (Nat.le_trans (Nat.le_refl _) HB5.out.size) (.cells #[.slice AR row.length cr] 27)) ⟨HNR.out.1, (HNR.out.2.keep (fun b hb => Below.heap_alloc w5 _ b hb.2)).more (fun b hb => ⟨hb.1, by simp; omega⟩)⟩ HVALS.out HG7.out (by rw [List.length_take, Nat.min_eq_left hj]) HO7.out (HAT7.out.imp id (fun h => by simp; omega)) (fun g' hg' => ⟨own_base HOWN.out hg', own_lt HOWN.out hg'⟩))
         rw [← HTK.out] at HFIN
         have HFR := Lib.hid (show Fr (fun b => b = w1.heap.size ∨ w1.heap.size + 2 ≤ b) wr (w7.setCell ⟨w1.heap.size, k, none⟩ (.slice (some ⟨g7, 0, none⟩) (j + 1) c7)) from (((Fr.of_below HB5.out).alloc _).trans (Y := fun b => some b = (Value.slice AV j cv).ownBlock) (Fr.of_grown HG7.out (fun b _ h => h)) (fun b _ h => .inr (own_base HOWN.out h.symm))).setCell _ (fun _ => .inl rfl))
         clear HROW HNR HB5 HO7 HG7 HAT7 HOWN HOWN6 HVALS m1 m2 m3 l1 l2 l3 k1 k2 k3
         go_wp2_with fail
         go_roundw
         case rel => exact ⟨j + 1, by omega, by go_num, _, HAW.out.keep HFR.out, HFIN.out⟩
         case measure => simp [intOf]; omega
       · have HEND := Lib.hid (HCI.out)
         rw [List.take_of_length_le (by omega), ← HROWS.out] at HEND
         go_wp2_with fail
         go_roundw
         case rel => exact ⟨k + 1, by omega, by go_num, HAW.out, HEND.out.outer hkl hkl (by rw [HROWS.out]; omega)⟩
         case measure => simp [intOf]; omega
    · obtain rfl : k = st.length := by omega
      have HSB := Lib.hid (HCO.out.done rfl (by omega))
      have a0 := HAW.out.a0
      clear HCO
      go_wp2_with fail
      refine (count_any (some ⟨w1.heap.size, 0, none⟩) st.length st (fun b => w1.heap.size ≤ b ∧ b < wr.heap.size) _ (HSB.out.slice hstl (fun b hb => ⟨by omega, hb.2⟩) ⟨Nat.le_refl _, by omega⟩) (fun b hb => hb.2) hc).mono ?_
      rintro e w2 ⟨rfl, hb2⟩
      have HAW2 := Lib.hid (HAW.out.below hb2)
      have HSB2 := Lib.hid ((HSB.out.below hb2).more (S' := fun b => w1.heap.size + 2 ≤ b ∧ b < w2.heap.size) (fun b hb => ⟨hb.1, Nat.lt_of_lt_of_le hb.2 hb2.size⟩) (fun b hb => ⟨hb.2, by omega⟩))
      clear hb2 HAW HSB a0 hsz
      have HASC := Lib.hid (fun t ht => stOk_asc HOK.out.2.2 t ht)
      go_wp2_with fail
      have HI := Lib.hid (show ∃ cur : St, countF st = countF cur ∧ applyL s m (countF st) st l = applyL s m (countF cur) cur l ∧ StB w2 (fun b => w1.heap.size + 2 ≤ b ∧ b < w2.heap.size) w1.heap.size cur ∧ cur.length = st.length ∧ countF cur ≤ 512 ∧ ∀ t, t < cur.length → Asc s t (cur.getD t []) from ⟨st, rfl, rfl, HSB2.out, rfl, HOK.out.1, HASC.out⟩)
      have HLEN := Lib.hid HOK.out.2.1
      have HOKC := HOK.out.1
      clear HSB2 HASC HOK HST HMK
      go_loopw [16, 67] (fun n i wr => ∃ k : Nat, k ≤ l.length ∧ i = .int .i64 k ∧ ∃ cur : St, n = .int .i64 (countF cur) ∧ applyL s m (countF st) st l = applyL s m (countF cur) cur (l.drop k) ∧ ApW w w1.heap.size s A0 c0' st.length wr ∧ StB wr (fun b => w1.heap.size + 2 ≤ b ∧ b < wr.heap.size) w1.heap.size cur ∧ cur.length = st.length ∧ countF cur ≤ 512 ∧ ∀ t, t < cur.length → Asc s t (cur.getD t [])) (fun _ i _ => l.length - (intOf i).toNat)
      case atStart =>
       obtain ⟨cur, h1, h2, h3, h4, h5, h6⟩ := HI.out
       exact ⟨0, Nat.zero_le _, rfl, cur, by rw [h1], by rw [List.drop_zero]; exact h2, HAW2.out, h3, h4, h5, h6⟩
      case round =>
       clear HI HAW2
       rename_i wp
       obtain ⟨k, hk, rfl, cur, rfl, hap, haw, hsb, hcl', hcc, hasc⟩ := hrel
       have HT := Lib.hid hap
       have HAW := Lib.hid haw
       have HSB := Lib.hid hsb
       have HCL := Lib.hid hcl'
       have HASC := Lib.hid hasc
       have hsz := haw.sz
       have hlt := haw.lt
       have v0 := haw.v0
       have v1 := haw.v1
       have r0 := haw.r0
       have r1 := haw.r1
       have a0 := haw.a0
       clear hap haw hsb hcl' hasc
       by_cases hkl : k < l.length
       · obtain ⟨b2, o2, rfl, hb2, d0, A1, c1, A2, c2, d1, e1, hR1, d2, e2, hR2⟩ := (HCH.out.keep (Same.of_below HAW.out.bel hS)).at_ hkl
         have HSTEP := Lib.hid (drop_chg hkl)
         have HR1 := Lib.hid hR1
         have HR2 := Lib.hid hR2
         have HE1 := Lib.hid e1
         have HE2 := Lib.hid e2
         have hn1 := hR1.len
         have hn2 := hR2.len
         have hl2 : b2 < wr.heap.size := by have := hS b2 hb2; omega
         clear hR1 hR2 e1 e2
         generalize l.getD k chg0 = ch at d0 d1 d2 HSTEP HR1 HR2 HE1 HE2 hn1 hn2
         obtain ⟨t, old, new⟩ := ch
         simp only at d0 d1 d2 HR1 HR2 HE1 HE2 hn1 hn2
         have hw0 : w.heap.size < wr.heap.size := by omega
         have hw1' : w.heap.size + 1 + 1 < wr.heap.size := by omega
         have hw2' : w1.heap.size + 1 < wr.heap.size := by omega
         have hw3' : w1.heap.size < wr.heap.size := by omega
         have HBA := Lib.hid ((Below.refl wr.heap.size wr).alloc (Nat.le_refl _) (.cells #[.int .i64 t, .slice A1 old.length c1, .slice A2 new.length c2] 53))
         go_wp2_with fail
         refine (validC_any A0 c0' s m ⟨t, old, new⟩ A1 c1 A2 c2 S _ (HS.out.keep (fun b hb => (HBA.out.block b (by have := hS b hb; omega)).trans (HAW.out.bel.block b (hS b hb)))) (HR1.out.keep (fun b hb => HBA.out.block b (by have := hS b hb; omega))) HE1.out (HR2.out.keep (fun b hb => HBA.out.block b (by have := hS b hb; omega))) HE2.out (fun b hb => by have := hS b hb; simp; omega)).mono ?_
         rintro e w3 ⟨rfl, hb3⟩
         have hb3' : Below wr.heap.size wr w3 := HBA.out.trans (hb3.mono (by simp))
         have HAW3 := Lib.hid (HAW.out.below hb3')
         have HB3 := Lib.hid hb3'
         have y0 : w3.cell? ⟨wr.heap.size, 0, none⟩ = some (.int .i64 t) := (hb3.cell (p := ⟨wr.heap.size, 0, none⟩) (by simp)).trans (cell_new rfl rfl)
         have y1 : w3.cell? ⟨wr.heap.size, 1, none⟩ = some (.slice A1 old.length c1) := (hb3.cell (p := ⟨wr.heap.size, 1, none⟩) (by simp)).trans (cell_new rfl rfl)
         have y2 : w3.cell? ⟨wr.heap.size, 2, none⟩ = some (.slice A2 new.length c2) := (hb3.cell (p := ⟨wr.heap.size, 2, none⟩) (by simp)).trans (cell_new rfl rfl)
         have hw3 : wr.heap.size < w3.heap.size := by have := hb3.size; simp at this; omega
         clear hb3 hb3' v0 v1 r0 r1 a0 d0 d1 d2
         have v0 := HAW3.out.v0
         have v1 := HAW3.out.v1
         have r0 := HAW3.out.r0
         have r1 := HAW3.out.r1
         have a0 := HAW3.out.a0
         by_cases hval : validC s m ⟨t, old, new⟩ = true
         · have HVAL := Lib.hid hval
           rw [hval]
           clear hval
           obtain ⟨tt, htt⟩ := valid_table HVAL.out
           obtain ⟨htt1, htt2⟩ := htt
           simp only at htt1
           subst htt1
           have HVO := Lib.hid (valid_some HVAL.out)
           obtain ⟨_, A9, c9, z1, z2, z3⟩ := (HSB.out.keep HB3.out.size (fun b hb => HB3.out.block b hb.2) (HB3.out.block _ (by omega))).at_ (show tt < cur.length by rw [HCL.out, HLEN.out]; exact htt2)
           have hfz : w3.frozen? ⟨w1.heap.size, tt, none⟩ = false := ((HSB.out.keep HB3.out.size (fun b hb => HB3.out.block b hb.2) (HB3.out.block _ (by omega))).at_ (show tt < cur.length by rw [HCL.out, HLEN.out]; exact htt2)).1
           have HZ3 := Lib.hid z3
           have HZ2 := Lib.hid z2
           have HRL := Lib.hid (Nat.le_trans (getD_le_count cur tt) hcc)
           have HAS := Lib.hid (HASC.out tt (by rw [HCL.out, HLEN.out]; exact htt2))
           have HSTEP2 := Lib.hid (show applyL s m (countF cur) cur (l.drop k) = (if fitsC s ⟨tt, old, new⟩ (cur.getD tt []) = false then (81, []) else if 512 < (countF cur : Int) + ((putC s ⟨tt, old, new⟩ (cur.getD tt [])).length - (cur.getD tt []).length : Int) then (2, []) else applyL s m ((countF cur : Int) + ((putC s ⟨tt, old, new⟩ (cur.getD tt [])).length - (cur.getD tt []).length : Int)) (cur.set tt (putC s ⟨tt, old, new⟩ (cur.getD tt []))) (l.drop (k + 1))) by rw [HSTEP.out, applyL, if_neg (by rw [HVAL.out]; simp)]; simp only [Int.toNat_natCast])
           have HCS := Lib.hid (fun r => countF_set cur tt r (by rw [HCL.out, HLEN.out]; exact htt2))
           have HPA := Lib.hid (show ∀ r : List Row, Asc s (tt : Int) r → Asc s (tt : Int) (putC s ⟨tt, old, new⟩ r) from fun r h => asc_put (m := m) (c := ⟨tt, old, new⟩) h HVAL.out)
           have HPL := Lib.hid (put_len s ⟨tt, old, new⟩ (cur.getD tt []))
           clear HSTEP z2 z3
           generalize hrw : cur.getD tt [] = rows at z1 HZ2 HZ3 HRL HAS HSTEP2 HCS HPL
           have HRW := Lib.hid hrw
           clear hrw
           have hrl := HRL.out
           have hS3 : ∀ b, (S b ∨ (w1.heap.size + 2 ≤ b ∧ b < wr.heap.size)) → b < w3.heap.size := fun b hb => by rcases hb with hb | hb; have := hS b hb; omega; omega
           have HSQ := Lib.hid ((HS.out.keep (Same.of_below HAW3.out.bel hS)).more (S' := fun b => S b ∨ (w1.heap.size + 2 ≤ b ∧ b < wr.heap.size)) (fun b hb => .inl hb))
           have HR1Q := Lib.hid ((HR1.out.keep (w' := w3) (fun b hb => HB3.out.block b (by have := hS b hb; omega))).more (S' := fun b => S b ∨ (w1.heap.size + 2 ≤ b ∧ b < wr.heap.size)) (fun b hb => .inl hb))
           have HR2Q := Lib.hid ((HR2.out.keep (w' := w3) (fun b hb => HB3.out.block b (by have := hS b hb; omega))).more (S' := fun b => S b ∨ (w1.heap.size + 2 ≤ b ∧ b < wr.heap.size)) (fun b hb => .inl hb))
           have q1 : (0:Int) ≤ tt := by omega
           have q2 : (tt : Int) < st.length := by rw [HLEN.out]; omega
           have q3 : (tt : Int) ≤ st.length := by omega
           have hgl : w1.heap.size < w3.heap.size := by omega
           have hgl1 : w1.heap.size + 1 < w3.heap.size := by omega
           have hgl2 : w.heap.size < w3.heap.size := by omega
           by_cases hfit : fitsC s ⟨tt, old, new⟩ rows = true
           · have HFIT := Lib.hid hfit
             clear hfit
             go_wp2_with fail
             go_region_held3 (fun w' => Below w3.heap.size w3 w' ∧ w'.cell? ⟨w.heap.size, 0, none⟩ = some (.int .i64 s.version) ∧ w'.cell? ⟨w.heap.size, 1, none⟩ = some (.slice A0 s.tabs.length c0') ∧ w'.cell? ⟨w1.heap.size + 1, 0, none⟩ = some (.slice (some ⟨w1.heap.size, 0, none⟩) st.length st.length) ∧ w'.cell? ⟨w1.heap.size, tt, none⟩ = some (.slice A9 rows.length c9) ∧ w'.cell? ⟨wr.heap.size, 0, none⟩ = some (.int .i64 tt) ∧ w'.cell? ⟨wr.heap.size, 1, none⟩ = some (.slice A1 old.length c1) ∧ w'.cell? ⟨wr.heap.size, 2, none⟩ = some (.slice A2 new.length c2))
              (first | exact ⟨(Below.refl _ _).drew, v0, v1, a0, z1, y0, y1, y2⟩ | exact ⟨hv1, (hv1.cell (p := ⟨w.heap.size, 0, none⟩) hgl2).trans v0, (hv1.cell (p := ⟨w.heap.size, 1, none⟩) hgl2).trans v1, (hv1.cell (p := ⟨w1.heap.size + 1, 0, none⟩) hgl1).trans a0, (hv1.cell (p := ⟨w1.heap.size, tt, none⟩) hgl).trans z1, (hv1.cell (p := ⟨wr.heap.size, 0, none⟩) hw3).trans y0, (hv1.cell (p := ⟨wr.heap.size, 1, none⟩) hw3).trans y1, (hv1.cell (p := ⟨wr.heap.size, 2, none⟩) hw3).trans y2⟩)
              ((go_at_call 57; refine (applied_yes A0 c0' s ⟨tt, old, new⟩ A1 c1 A2 c2 A9 c9 rows (fun b => S b ∨ (w1.heap.size + 2 ≤ b ∧ b < wr.heap.size)) (fun b => w1.heap.size + 2 ≤ b ∧ b < wr.heap.size) w3.drew (HSQ.out.keep (fun _ _ => rfl)) (HZ3.out.keep (fun _ _ => rfl)) (fun b hb => .inr hb) HZ2.out (HR1Q.out.keep (fun _ _ => rfl)) HE1.out (HR2Q.out.keep (fun _ _ => rfl)) HE2.out hS3 HAS.out HVO.out HFIT.out (by omega)).mono ?_; rintro e w6 ⟨A8, c8, rfl, h8, hR8, hv1'⟩; have hv1 : Below w3.heap.size w3 w6 := (Below.refl _ w3).drew.trans hv1'))
             have HAW6 := Lib.hid (HAW3.out.below hv1)
             have HSB6 := Lib.hid ((HSB.out.keep (w' := w6) (Nat.le_trans HB3.out.size hv1.size) (fun b hb => (hv1.block b (by have := hb.2; omega)).trans (HB3.out.block b hb.2)) ((hv1.block _ (by omega)).trans (HB3.out.block _ (by omega)))).more (S' := fun b => w1.heap.size + 2 ≤ b ∧ b < w6.heap.size) (fun b hb => ⟨hb.1, by have := hv1.size; have := hb.2; omega⟩) (fun b hb => ⟨hb.2, by omega⟩))
             have HR8 := Lib.hid (hR8.more (S' := fun b => w1.heap.size + 2 ≤ b ∧ b < w6.heap.size) (fun b hb => by
              rcases hb with hb | hb
              · exact ⟨hb.1, by have := hv1.size; have := hb.2; omega⟩
              · exact ⟨by have h0 : w3.heap.size ≤ b := hb.1; omega, hb.2⟩))
             have H8 := Lib.hid h8
             have hz6 : wr.heap.size < w6.heap.size := by have := hv1.size; omega
             have u0 : w6.cell? ⟨wr.heap.size, 0, none⟩ = some (.int .i64 tt) := (hv1.cell (p := ⟨wr.heap.size, 0, none⟩) hw3).trans y0
             have u1 : w6.cell? ⟨w1.heap.size, tt, none⟩ = some (.slice A9 rows.length c9) := (hv1.cell (p := ⟨w1.heap.size, tt, none⟩) hgl).trans z1
             have u2 : w6.frozen? ⟨w1.heap.size, tt, none⟩ = false := (hv1.frozen (p := ⟨w1.heap.size, tt, none⟩) hgl).trans hfz
             clear hv1 hv1' hR8 h8 v0 v1 r0 r1 a0 y0 y1 y2 z1 hfz
             have r0 := HAW6.out.r0
             have r1 := HAW6.out.r1
             have a0 := HAW6.out.a0
             have hpl := HPL.out
             generalize hrows2 : putC s ⟨tt, old, new⟩ rows = rows2 at HR8 H8 hpl HSTEP2 ⊢
             have HR2W := Lib.hid hrows2
             clear hrows2
             have HCS2 := Lib.hid (HCS.out rows2)
             clear HCS HPL
             by_cases hlim : 512 < (countF cur : Int) + ((rows2.length : Int) - rows.length)
             · have HF := Lib.hid (show applyF (schF pc s) s m st l = (2, []) by rw [HAP2.out, HT.out, HSTEP2.out, if_neg (by rw [HFIT.out]; simp), if_pos hlim])
               have hd9 : decide (512 < (countF cur : Int) + ((rows2.length : Int) - rows.length)) = true := decide_eq_true hlim
               clear hlim HCS2 HSTEP2
               generalize countF cur = cn at hd9 hcc ⊢
               go_wp2_with fail
               refine bodyPost_ret (v := .tuple #[.agg #[.slice none 0 0], .int .i64 2]) (by simp [results, Try.results18, go_sem, r0]) rfl ?_
               exact ApPost.err HF.out (HAW6.out.bel.setCell (p := ⟨w.heap.size + 1 + 1, 0, none⟩) (by simp; omega) _)
             · have hd9 : decide (512 < (countF cur : Int) + ((rows2.length : Int) - rows.length)) = false := decide_eq_false hlim
               have HNXT := Lib.hid (show applyL s m (countF st) st l = applyL s m (countF (cur.set tt rows2)) (cur.set tt rows2) (l.drop (k + 1)) by rw [HT.out, HSTEP2.out, if_neg (by rw [HFIT.out]; simp), if_neg hlim, HCS2.out])
               have HCN := Lib.hid (show countF (cur.set tt rows2) ≤ 512 by have := HCS2.out; omega)
               have HASN := Lib.hid (show ∀ t, t < (cur.set tt rows2).length → Asc s t ((cur.set tt rows2).getD t []) from fun t' ht' => by
                rw [List.length_set] at ht'
                by_cases hte : t' = tt
                · subst hte
                  rw [getD_set_same ht', ← HR2W.out]
                  exact HPA.out _ HAS.out
                · rw [getD_set_other hte]
                  exact HASC.out t' ht')
               have HNEW := Lib.hid (HSB6.out.put (k := tt) H8.out HR8.out)
               clear hlim HSTEP2
               obtain ⟨cn, hcn⟩ : ∃ cn, countF cur = cn := ⟨_, rfl⟩
               rw [hcn] at hd9 hcc HCS2 ⊢
               clear hcn
               go_wp2_with fail
               go_roundw
               case rel => exact ⟨k + 1, by omega, by go_num, cur.set tt rows2, by rw [HCS2.out], HNXT.out, HAW6.out.keep ((Fr.refl _ _).setCell _ (fun _ => .inl rfl)), by simpa using HNEW.out, by rw [List.length_set]; exact HCL.out, HCN.out, HASN.out⟩
               case measure => simp [intOf]; omega
           · have hfit' : fitsC s ⟨tt, old, new⟩ rows = false := by simpa using hfit
             have HFIT := Lib.hid hfit'
             have HF := Lib.hid (show applyF (schF pc s) s m st l = (81, []) by rw [HAP2.out, HT.out, HSTEP2.out, if_pos hfit'])
             clear hfit hfit' HSTEP2 HCS
             go_wp2_with fail
             go_region_held3 (fun w' => Below w3.heap.size w3 w' ∧ w'.cell? ⟨w.heap.size, 0, none⟩ = some (.int .i64 s.version) ∧ w'.cell? ⟨w.heap.size, 1, none⟩ = some (.slice A0 s.tabs.length c0') ∧ w'.cell? ⟨w1.heap.size + 1, 0, none⟩ = some (.slice (some ⟨w1.heap.size, 0, none⟩) st.length st.length) ∧ w'.cell? ⟨w1.heap.size, tt, none⟩ = some (.slice A9 rows.length c9) ∧ w'.cell? ⟨wr.heap.size, 0, none⟩ = some (.int .i64 tt) ∧ w'.cell? ⟨wr.heap.size, 1, none⟩ = some (.slice A1 old.length c1) ∧ w'.cell? ⟨wr.heap.size, 2, none⟩ = some (.slice A2 new.length c2))
              (first | exact ⟨(Below.refl _ _).drew, v0, v1, a0, z1, y0, y1, y2⟩ | exact ⟨hv1, (hv1.cell (p := ⟨w.heap.size, 0, none⟩) hgl2).trans v0, (hv1.cell (p := ⟨w.heap.size, 1, none⟩) hgl2).trans v1, (hv1.cell (p := ⟨w1.heap.size + 1, 0, none⟩) hgl1).trans a0, (hv1.cell (p := ⟨w1.heap.size, tt, none⟩) hgl).trans z1, (hv1.cell (p := ⟨wr.heap.size, 0, none⟩) hw3).trans y0, (hv1.cell (p := ⟨wr.heap.size, 1, none⟩) hw3).trans y1, (hv1.cell (p := ⟨wr.heap.size, 2, none⟩) hw3).trans y2⟩)
              ((go_at_call 57; refine (applied_not A0 c0' s ⟨tt, old, new⟩ A1 c1 A2 c2 A9 c9 rows (fun b => S b ∨ (w1.heap.size + 2 ≤ b ∧ b < wr.heap.size)) (fun b => w1.heap.size + 2 ≤ b ∧ b < wr.heap.size) w3.drew (HSQ.out.keep (fun _ _ => rfl)) (HZ3.out.keep (fun _ _ => rfl)) (fun b hb => .inr hb) HZ2.out (HR1Q.out.keep (fun _ _ => rfl)) HE1.out (HR2Q.out.keep (fun _ _ => rfl)) HE2.out hS3 HAS.out HFIT.out (by omega)).mono ?_; rintro e w6 ⟨rfl, hv1'⟩; have hv1 : Below w3.heap.size w3 w6 := (Below.refl _ w3).drew.trans hv1'))
             have HAW6 := Lib.hid (HAW3.out.below hv1)
             clear hv1 hv1' v0 v1 r0 r1 a0 y0 y1 y2 z1 hfz
             have r0 := HAW6.out.r0
             have r1 := HAW6.out.r1
             go_wp2_with fail
             refine bodyPost_ret (v := .tuple #[.agg #[.slice none 0 0], .int .i64 81]) (by simp [results, Try.results18, go_sem, r0]) rfl ?_
             exact ApPost.err HF.out (HAW6.out.bel.setCell (p := ⟨w.heap.size + 1 + 1, 0, none⟩) (by simp; omega) _)
         · have hval' : validC s m ⟨t, old, new⟩ = false := by simpa using hval
           have HF := Lib.hid (show applyF (schF pc s) s m st l = (71, []) by rw [HAP2.out, HT.out, HSTEP.out, applyL, if_pos hval'])
           rw [hval']
           clear hval hval'
           go_wp2_with fail
           refine bodyPost_ret (v := .tuple #[.agg #[.slice none 0 0], .int .i64 71]) (by simp [results, Try.results18, go_sem, r0]) rfl ?_
           exact ApPost.err HF.out (HAW3.out.bel.setCell (p := ⟨w.heap.size + 1 + 1, 0, none⟩) (by simp; omega) _)
       · have HF := Lib.hid (show applyF (schF pc s) s m st l = (0, cur) by rw [HAP2.out, HT.out, List.drop_eq_nil_of_le (by omega), applyL])
         go_wp2_with fail
         refine bodyPost_ret (v := .tuple #[.agg #[.slice (some ⟨w1.heap.size, 0, none⟩) st.length st.length], .int .i64 0]) (by simp [results, Try.results18, go_sem, r0]) rfl ?_
         rw [HF.out]
         have hb9 : Below w.heap.size w (wr.setCell ⟨w.heap.size + 1 + 1, 0, none⟩ (.slice (some ⟨w1.heap.size, 0, none⟩) st.length st.length)) := HAW.out.bel.setCell (p := ⟨w.heap.size + 1 + 1, 0, none⟩) (by simp; omega) _
         have hsb9 : StB (wr.setCell ⟨w.heap.size + 1 + 1, 0, none⟩ (.slice (some ⟨w1.heap.size, 0, none⟩) st.length st.length)) (fun b => w1.heap.size + 2 ≤ b ∧ b < wr.heap.size) w1.heap.size cur := HSB.out.keep (by simp) (fun b hb => Below.heap_setCell wr ⟨w.heap.size + 1 + 1, 0, none⟩ _ b (by show b ≠ w.heap.size + 1 + 1; omega)) (Below.heap_setCell wr ⟨w.heap.size + 1 + 1, 0, none⟩ _ _ (by show w1.heap.size ≠ w.heap.size + 1 + 1; omega))
         refine ⟨some ⟨w1.heap.size, 0, none⟩, st.length, ?_, by show cur.length ≤ _; rw [HCL.out]; exact Nat.le_refl _, hsb9.slice (by rw [HCL.out]; exact hstl) (fun b hb => ⟨by omega, by simp; omega⟩) ⟨by omega, by simp; omega⟩, hb9⟩
         show _ = Ending.returned (.tuple #[.agg #[.slice (some ⟨w1.heap.size, 0, none⟩) cur.length st.length], .int .i64 0])
         rw [HCL.out]
 · have hd : (er != 0) = true := by simpa using he
   have HF := Lib.hid (show applyF (schF pc s) s m st l = (er, []) by rw [HAP.out, if_pos he])
   clear he HAP HMK
   go_wp2_with fail
   refine bodyPost_ret (v := .tuple #[.agg #[.slice none 0 0], .int .i64 er]) (by simp [results, Try.results18, go_sem, x3]) rfl ?_
   exact ApPost.err HF.out (HB1.out.setCell (p := ⟨w.heap.size + 1 + 1, 0, none⟩) (by simp; omega) _)
end Go.Proofs.Ytkpjjfhfbpfjpaa

namespace Go.Proofs.Ytkpjjfhfbpfjpaa
open Go.RowKit
structure CapS (w : World) (s : Sch) (A0 : Option Addr) (c0' : Nat) (gs : Nat) : Prop where
 v : w.cell? ⟨gs, 0, none⟩ = some (.int .i64 s.version)
 a : w.cell? ⟨gs, 1, none⟩ = some (.slice A0 s.tabs.length c0')
 ls : gs < w.heap.size
theorem CapS.keep {w w' : World} {s : Sch} {A0 : Option Addr} {c0' : Nat} {gs : Nat} (h : CapS w s A0 c0' gs) (hk : w'.heap[gs]? = w.heap[gs]?) (hs : w.heap.size ≤ w'.heap.size) : CapS w' s A0 c0' gs :=
 ⟨(World.cell?_of_block (w := w) (a := ⟨gs, 0, none⟩) hk).trans h.v, (World.cell?_of_block (w := w) (a := ⟨gs, 1, none⟩) hk).trans h.a, Nat.lt_of_lt_of_le h.ls hs⟩
theorem CapS.below {w w' : World} {s : Sch} {A0 : Option Addr} {c0' : Nat} {gs : Nat} (h : CapS w s A0 c0' gs) (hb : Below w.heap.size w w') : CapS w' s A0 c0' gs := h.keep (hb.block gs h.ls) hb.size
structure ChV (w : World) (S : Nat → Prop) (ch : Chg) (A1 : Option Addr) (c1 : Nat) (A2 : Option Addr) (c2 : Nat) : Prop where
 r1 : RowS w S A1 ch.old
 l1 : ch.old.length ≤ c1
 r2 : RowS w S A2 ch.new
 l2 : ch.new.length ≤ c2
theorem ChV.keep {w w' : World} {S : Nat → Prop} {ch : Chg} {A1 : Option Addr} {c1 : Nat} {A2 : Option Addr} {c2 : Nat} (h : ChV w S ch A1 c1 A2 c2) (hk : Same S w w') : ChV w' S ch A1 c1 A2 c2 := ⟨h.r1.keep hk, h.l1, h.r2.keep hk, h.l2⟩
abbrev chV (ch : Chg) (A1 : Option Addr) (c1 : Nat) (A2 : Option Addr) (c2 : Nat) : Value := chAgg ch.table A1 ch.old.length c1 A2 ch.new.length c2
set_option maxHeartbeats 1000000 in
theorem net1_any (A0 : Option Addr) (c0' : Nat) (s : Sch) (m : Int) (gs gm : Nat) (ch : Chg) (A1 : Option Addr) (c1 : Nat) (A2 : Option Addr) (c2 : Nat) (S : Nat → Prop) (w : World) (hc : CapS w s A0 c0' gs) (hm : w.cell? ⟨gm, 0, none⟩ = some (.int .i64 m)) (hgm : gm < w.heap.size) (hs : TabS w S A0 s.tabs) (hv : ChV w S ch A1 c1 A2 c2) (hS : ∀ b, S b → b < w.heap.size) :
  Calls Try.prog 74 #[chV ch A1 c1 A2 c2, .pointer (some ⟨gs, 0, none⟩), .pointer (some ⟨gm, 0, none⟩)] w (BoolBel (!validC s m ch) w) := by
 obtain ⟨t, old, new⟩ := ch
 have x0 := hc.v
 have x1 := hc.a
 have hgs := hc.ls
 have HS := Lib.hid hs
 have HV := Lib.hid hv
 clear hc hs hv
 simp only [chV]
 have HB0 := Lib.hid ((Below.refl w.heap.size w).alloc (Nat.le_refl _) (.cells #[.int .i64 t, .slice A1 old.length c1, .slice A2 new.length c2] 53))
 go_enter Try.func74, Try.ntmps74
 go_wp2_with fail
 refine (validC_any A0 c0' s m ⟨t, old, new⟩ A1 c1 A2 c2 S _ (HS.out.keep (Same.of_below HB0.out hS)) (HV.out.r1.keep (Same.of_below HB0.out hS)) HV.out.l1 (HV.out.r2.keep (Same.of_below HB0.out hS)) HV.out.l2 (fun b hb => by have := hS b hb; simp; omega)).mono ?_
 rintro e w1 ⟨rfl, hb1⟩
 have HB1 := Lib.hid (HB0.out.trans (hb1.mono (by simp)))
 clear hb1
 obtain ⟨bv, hbv⟩ : ∃ bv, validC s m ⟨t, old, new⟩ = bv := ⟨_, rfl⟩
 have HBV := Lib.hid hbv
 rw [hbv]
 clear hbv
 go_wp2_with fail
 go_ret
 exact ⟨by rw [HBV.out]; rfl, HB1.out⟩
set_option maxHeartbeats 2000000 in
theorem net3_any (A0 : Option Addr) (c0' : Nat) (s : Sch) (gs : Nat) (a : Chg) (A1 : Option Addr) (c1 : Nat) (A2 : Option Addr) (c2 : Nat) (b : Chg) (B1 : Option Addr) (d1 : Nat) (B2 : Option Addr) (d2 : Nat) (S : Nat → Prop) (w : World) (hc : CapS w s A0 c0' gs) (hs : TabS w S A0 s.tabs) (ha : ChV w S a A1 c1 A2 c2) (hb : ChV w S b B1 d1 B2 d2) (hS : ∀ b, S b → b < w.heap.size) (hta : 0 ≤ a.table ∧ a.table ≤ 1000000) (htb : 0 ≤ b.table ∧ b.table ≤ 1000000) :
  Calls Try.prog 80 #[chV a A1 c1 A2 c2, chV b B1 d1 B2 d2, .pointer (some ⟨gs, 0, none⟩)] w (IntBel (cmpC s a b) w) := by
 obtain ⟨ta, oa, na⟩ := a
 obtain ⟨tb, ob, nb⟩ := b
 have x0 := hc.v
 have x1 := hc.a
 have hgs := hc.ls
 have HS := Lib.hid hs
 have HA := Lib.hid ha
 have HBV := Lib.hid hb
 clear hc hs ha hb
 simp only [chV] at hta htb ⊢
 obtain ⟨hta0, hta1⟩ := hta
 obtain ⟨htb0, htb1⟩ := htb
 have HB0 := Lib.hid (((Below.refl w.heap.size w).alloc (Nat.le_refl _) (.cells #[.int .i64 ta, .slice A1 oa.length c1, .slice A2 na.length c2] 53)).alloc (by simp) (.cells #[.int .i64 tb, .slice B1 ob.length d1, .slice B2 nb.length d2] 53))
 by_cases ht : ta = tb
 · subst ht
   have HF := Lib.hid (show cmpC s ⟨ta, oa, na⟩ ⟨ta, ob, nb⟩ = cmpR (keyC s ⟨ta, oa, na⟩) (keyC s ⟨ta, ob, nb⟩) by unfold cmpC; rw [if_neg (by simp)])
   go_enter Try.func80, Try.ntmps80
   go_wp2_with fail
   obtain ⟨w0, hw0⟩ : ∃ w0, ((w.alloc (.cells #[.int .i64 ta, .slice A1 oa.length c1, .slice A2 na.length c2] 53)).alloc (.cells #[.int .i64 ta, .slice B1 ob.length d1, .slice B2 nb.length d2] 53)) = w0 := ⟨_, rfl⟩
   have hsz0 : w0.heap.size = w.heap.size + 1 + 1 := by rw [← hw0]; simp
   rw [hw0] at HB0
   have z0 : w0.cell? ⟨gs, 0, none⟩ = some (.int .i64 s.version) := (HB0.out.cell (p := ⟨gs, 0, none⟩) hgs).trans x0
   have z1 : w0.cell? ⟨gs, 1, none⟩ = some (.slice A0 s.tabs.length c0') := (HB0.out.cell (p := ⟨gs, 1, none⟩) hgs).trans x1
   have z2 : w0.cell? ⟨w.heap.size, 0, none⟩ = some (.int .i64 ta) := by rw [← hw0]; exact (cell_old (by simp)).trans (cell_new rfl rfl)
   have z3 : w0.cell? ⟨w.heap.size, 1, none⟩ = some (.slice A1 oa.length c1) := by rw [← hw0]; exact (cell_old (by simp)).trans (cell_new rfl rfl)
   have z4 : w0.cell? ⟨w.heap.size, 2, none⟩ = some (.slice A2 na.length c2) := by rw [← hw0]; exact (cell_old (by simp)).trans (cell_new rfl rfl)
   have z5 : w0.cell? ⟨w.heap.size + 1, 0, none⟩ = some (.int .i64 ta) := by rw [← hw0]; exact cell_new (by simp) rfl
   have z6 : w0.cell? ⟨w.heap.size + 1, 1, none⟩ = some (.slice B1 ob.length d1) := by rw [← hw0]; exact cell_new (by simp) rfl
   have z7 : w0.cell? ⟨w.heap.size + 1, 2, none⟩ = some (.slice B2 nb.length d2) := by rw [← hw0]; exact cell_new (by simp) rfl
   have hl0 : gs < w0.heap.size := by omega
   have hl1 : w.heap.size < w0.heap.size := by omega
   have hl2 : w.heap.size + 1 < w0.heap.size := by omega
   have hS0 : ∀ b, S b → b < w0.heap.size := fun b hb => by have := hS b hb; omega
   have HS0 := Lib.hid (HS.out.keep (Same.of_below HB0.out hS))
   have HA0 := Lib.hid (HA.out.keep (Same.of_below HB0.out hS))
   have HV0 := Lib.hid (HBV.out.keep (Same.of_below HB0.out hS))
   have HSZ := Lib.hid hsz0
   rw [hw0]
   clear hw0 hsz0 HS HA HBV x0 x1
   go_region_held3 (fun w' => Below w0.heap.size w0 w' ∧ w'.cell? ⟨gs, 0, none⟩ = some (.int .i64 s.version) ∧ w'.cell? ⟨gs, 1, none⟩ = some (.slice A0 s.tabs.length c0') ∧ w'.cell? ⟨w.heap.size, 0, none⟩ = some (.int .i64 ta) ∧ w'.cell? ⟨w.heap.size, 1, none⟩ = some (.slice A1 oa.length c1) ∧ w'.cell? ⟨w.heap.size, 2, none⟩ = some (.slice A2 na.length c2) ∧ w'.cell? ⟨w.heap.size + 1, 0, none⟩ = some (.int .i64 ta) ∧ w'.cell? ⟨w.heap.size + 1, 1, none⟩ = some (.slice B1 ob.length d1) ∧ w'.cell? ⟨w.heap.size + 1, 2, none⟩ = some (.slice B2 nb.length d2))
    (first | exact ⟨(Below.refl _ _).drew, z0, z1, z2, z3, z4, z5, z6, z7⟩ | exact ⟨hv3, (hv3.cell (p := ⟨gs, 0, none⟩) hl0).trans z0, (hv3.cell (p := ⟨gs, 1, none⟩) hl0).trans z1, (hv3.cell (p := ⟨w.heap.size, 0, none⟩) hl1).trans z2, (hv3.cell (p := ⟨w.heap.size, 1, none⟩) hl1).trans z3, (hv3.cell (p := ⟨w.heap.size, 2, none⟩) hl1).trans z4, (hv3.cell (p := ⟨w.heap.size + 1, 0, none⟩) hl2).trans z5, (hv3.cell (p := ⟨w.heap.size + 1, 1, none⟩) hl2).trans z6, (hv3.cell (p := ⟨w.heap.size + 1, 2, none⟩) hl2).trans z7⟩ | exact ⟨hv2, (hv2.cell (p := ⟨gs, 0, none⟩) hl0).trans z0, (hv2.cell (p := ⟨gs, 1, none⟩) hl0).trans z1, (hv2.cell (p := ⟨w.heap.size, 0, none⟩) hl1).trans z2, (hv2.cell (p := ⟨w.heap.size, 1, none⟩) hl1).trans z3, (hv2.cell (p := ⟨w.heap.size, 2, none⟩) hl1).trans z4, (hv2.cell (p := ⟨w.heap.size + 1, 0, none⟩) hl2).trans z5, (hv2.cell (p := ⟨w.heap.size + 1, 1, none⟩) hl2).trans z6, (hv2.cell (p := ⟨w.heap.size + 1, 2, none⟩) hl2).trans z7⟩ | exact ⟨hv1, (hv1.cell (p := ⟨gs, 0, none⟩) hl0).trans z0, (hv1.cell (p := ⟨gs, 1, none⟩) hl0).trans z1, (hv1.cell (p := ⟨w.heap.size, 0, none⟩) hl1).trans z2, (hv1.cell (p := ⟨w.heap.size, 1, none⟩) hl1).trans z3, (hv1.cell (p := ⟨w.heap.size, 2, none⟩) hl1).trans z4, (hv1.cell (p := ⟨w.heap.size + 1, 0, none⟩) hl2).trans z5, (hv1.cell (p := ⟨w.heap.size + 1, 1, none⟩) hl2).trans z6, (hv1.cell (p := ⟨w.heap.size + 1, 2, none⟩) hl2).trans z7⟩)
    (first
     | (go_at_call 78; have hvx := hv1; clear hvx; refine (changeKey_any A0 c0' s ⟨ta, ob, nb⟩ B1 d1 B2 d2 S _ (HS0.out.keep (Same.of_below hv1 hS0)) (HV0.out.r1.keep (Same.of_below hv1 hS0)) HV0.out.l1 (HV0.out.r2.keep (Same.of_below hv1 hS0)) HV0.out.l2 (fun b hb => Nat.lt_of_lt_of_le (hS0 b hb) hv1.size)).mono ?_; rintro e w6 ⟨A8, c8, rfl, h8, hv2'⟩; have hv2 : Below w0.heap.size w0 w6 := hv1.trans (hv2'.mono hv1.size))
     | (go_at_call 78; refine (changeKey_any A0 c0' s ⟨ta, oa, na⟩ A1 c1 A2 c2 S w0.drew (HS0.out.keep (fun _ _ => rfl)) (HA0.out.r1.keep (fun _ _ => rfl)) HA0.out.l1 (HA0.out.r2.keep (fun _ _ => rfl)) HA0.out.l2 hS0).mono ?_; rintro e w5 ⟨A7, c7, rfl, h7, hv1'⟩; have hv1 : Below w0.heap.size w0 w5 := (Below.refl _ w0).drew.trans hv1')
     | (go_at_call 60; refine (compareRows_any A7 A8 c7 c8 (keyC s ⟨ta, oa, na⟩) (keyC s ⟨ta, ob, nb⟩) S _ (h7.keep (Same.of_below hv2' (fun b hb => Nat.lt_of_lt_of_le (hS0 b hb) hv1.size))) h8 (fun b hb => Nat.lt_of_lt_of_le (hS0 b hb) hv2.size)).mono ?_; rintro e w7 ⟨rfl, hv3'⟩; have hv3 : Below w0.heap.size w0 w7 := hv2.trans (hv3'.mono hv2.size)))
   have HB7 := Lib.hid (HB0.out.trans (hv3.mono (by have := HSZ.out; omega)))
   clear hv1 hv2 hv3 hv1' hv2' hv3' h7 h8 z0 z1 z2 z3 z4 z5 z6 z7
   go_wp2_with fail
   go_ret
   exact ⟨by rw [HF.out]; rfl, HB7.out⟩
 · have hd : (ta != tb) = true := by simpa using ht
   have HF := Lib.hid (show cmpC s ⟨ta, oa, na⟩ ⟨tb, ob, nb⟩ = ta - tb by unfold cmpC; rw [if_pos ht])
   clear ht
   go_enter Try.func80, Try.ntmps80
   go_wp2_with fail
   go_ret
   exact ⟨by rw [HF.out]; rfl, HB0.out⟩
set_option maxHeartbeats 2000000 in
theorem net2_any (A0 : Option Addr) (c0' : Nat) (s : Sch) (gs : Nat) (a : Chg) (A1 : Option Addr) (c1 : Nat) (A2 : Option Addr) (c2 : Nat) (b : Chg) (B1 : Option Addr) (d1 : Nat) (B2 : Option Addr) (d2 : Nat) (S : Nat → Prop) (w : World) (hc : CapS w s A0 c0' gs) (hs : TabS w S A0 s.tabs) (ha : ChV w S a A1 c1 A2 c2) (hb : ChV w S b B1 d1 B2 d2) (hS : ∀ b, S b → b < w.heap.size) :
  Calls Try.prog 76 #[chV a A1 c1 A2 c2, chV b B1 d1 B2 d2, .pointer (some ⟨gs, 0, none⟩)] w (BoolBel (sameC s a b) w) := by
 obtain ⟨ta, oa, na⟩ := a
 obtain ⟨tb, ob, nb⟩ := b
 have x0 := hc.v
 have x1 := hc.a
 have hgs := hc.ls
 have HS := Lib.hid hs
 have HA := Lib.hid ha
 have HBV := Lib.hid hb
 clear hc hs ha hb
 simp only [chV]
 have HB0 := Lib.hid (((Below.refl w.heap.size w).alloc (Nat.le_refl _) (.cells #[.int .i64 ta, .slice A1 oa.length c1, .slice A2 na.length c2] 53)).alloc (by simp) (.cells #[.int .i64 tb, .slice B1 ob.length d1, .slice B2 nb.length d2] 53))
 by_cases ht : ta = tb
 · subst ht
   have HF := Lib.hid (show sameC s ⟨ta, oa, na⟩ ⟨ta, ob, nb⟩ = (cmpR (keyC s ⟨ta, oa, na⟩) (keyC s ⟨ta, ob, nb⟩) == 0) by unfold sameC; simp)
   go_enter Try.func76, Try.ntmps76
   go_wp2_with fail
   obtain ⟨w0, hw0⟩ : ∃ w0, ((w.alloc (.cells #[.int .i64 ta, .slice A1 oa.length c1, .slice A2 na.length c2] 53)).alloc (.cells #[.int .i64 ta, .slice B1 ob.length d1, .slice B2 nb.length d2] 53)) = w0 := ⟨_, rfl⟩
   have hsz0 : w0.heap.size = w.heap.size + 1 + 1 := by rw [← hw0]; simp
   rw [hw0] at HB0
   have z0 : w0.cell? ⟨gs, 0, none⟩ = some (.int .i64 s.version) := (HB0.out.cell (p := ⟨gs, 0, none⟩) hgs).trans x0
   have z1 : w0.cell? ⟨gs, 1, none⟩ = some (.slice A0 s.tabs.length c0') := (HB0.out.cell (p := ⟨gs, 1, none⟩) hgs).trans x1
   have z2 : w0.cell? ⟨w.heap.size, 0, none⟩ = some (.int .i64 ta) := by rw [← hw0]; exact (cell_old (by simp)).trans (cell_new rfl rfl)
   have z3 : w0.cell? ⟨w.heap.size, 1, none⟩ = some (.slice A1 oa.length c1) := by rw [← hw0]; exact (cell_old (by simp)).trans (cell_new rfl rfl)
   have z4 : w0.cell? ⟨w.heap.size, 2, none⟩ = some (.slice A2 na.length c2) := by rw [← hw0]; exact (cell_old (by simp)).trans (cell_new rfl rfl)
   have z5 : w0.cell? ⟨w.heap.size + 1, 0, none⟩ = some (.int .i64 ta) := by rw [← hw0]; exact cell_new (by simp) rfl
   have z6 : w0.cell? ⟨w.heap.size + 1, 1, none⟩ = some (.slice B1 ob.length d1) := by rw [← hw0]; exact cell_new (by simp) rfl
   have z7 : w0.cell? ⟨w.heap.size + 1, 2, none⟩ = some (.slice B2 nb.length d2) := by rw [← hw0]; exact cell_new (by simp) rfl
   have hl0 : gs < w0.heap.size := by omega
   have hl1 : w.heap.size < w0.heap.size := by omega
   have hl2 : w.heap.size + 1 < w0.heap.size := by omega
   have hS0 : ∀ b, S b → b < w0.heap.size := fun b hb => by have := hS b hb; omega
   have HS0 := Lib.hid (HS.out.keep (Same.of_below HB0.out hS))
   have HA0 := Lib.hid (HA.out.keep (Same.of_below HB0.out hS))
   have HV0 := Lib.hid (HBV.out.keep (Same.of_below HB0.out hS))
   have HSZ := Lib.hid hsz0
   rw [hw0]
   clear hw0 hsz0 HS HA HBV x0 x1
   go_region_held3 (fun w' => Below w0.heap.size w0 w' ∧ w'.cell? ⟨gs, 0, none⟩ = some (.int .i64 s.version) ∧ w'.cell? ⟨gs, 1, none⟩ = some (.slice A0 s.tabs.length c0') ∧ w'.cell? ⟨w.heap.size, 0, none⟩ = some (.int .i64 ta) ∧ w'.cell? ⟨w.heap.size, 1, none⟩ = some (.slice A1 oa.length c1) ∧ w'.cell? ⟨w.heap.size, 2, none⟩ = some (.slice A2 na.length c2) ∧ w'.cell? ⟨w.heap.size + 1, 0, none⟩ = some (.int .i64 ta) ∧ w'.cell? ⟨w.heap.size + 1, 1, none⟩ = some (.slice B1 ob.length d1) ∧ w'.cell? ⟨w.heap.size + 1, 2, none⟩ = some (.slice B2 nb.length d2))
    (first | exact ⟨(Below.refl _ _).drew, z0, z1, z2, z3, z4, z5, z6, z7⟩ | exact ⟨hv3, (hv3.cell (p := ⟨gs, 0, none⟩) hl0).trans z0, (hv3.cell (p := ⟨gs, 1, none⟩) hl0).trans z1, (hv3.cell (p := ⟨w.heap.size, 0, none⟩) hl1).trans z2, (hv3.cell (p := ⟨w.heap.size, 1, none⟩) hl1).trans z3, (hv3.cell (p := ⟨w.heap.size, 2, none⟩) hl1).trans z4, (hv3.cell (p := ⟨w.heap.size + 1, 0, none⟩) hl2).trans z5, (hv3.cell (p := ⟨w.heap.size + 1, 1, none⟩) hl2).trans z6, (hv3.cell (p := ⟨w.heap.size + 1, 2, none⟩) hl2).trans z7⟩ | exact ⟨hv2, (hv2.cell (p := ⟨gs, 0, none⟩) hl0).trans z0, (hv2.cell (p := ⟨gs, 1, none⟩) hl0).trans z1, (hv2.cell (p := ⟨w.heap.size, 0, none⟩) hl1).trans z2, (hv2.cell (p := ⟨w.heap.size, 1, none⟩) hl1).trans z3, (hv2.cell (p := ⟨w.heap.size, 2, none⟩) hl1).trans z4, (hv2.cell (p := ⟨w.heap.size + 1, 0, none⟩) hl2).trans z5, (hv2.cell (p := ⟨w.heap.size + 1, 1, none⟩) hl2).trans z6, (hv2.cell (p := ⟨w.heap.size + 1, 2, none⟩) hl2).trans z7⟩ | exact ⟨hv1, (hv1.cell (p := ⟨gs, 0, none⟩) hl0).trans z0, (hv1.cell (p := ⟨gs, 1, none⟩) hl0).trans z1, (hv1.cell (p := ⟨w.heap.size, 0, none⟩) hl1).trans z2, (hv1.cell (p := ⟨w.heap.size, 1, none⟩) hl1).trans z3, (hv1.cell (p := ⟨w.heap.size, 2, none⟩) hl1).trans z4, (hv1.cell (p := ⟨w.heap.size + 1, 0, none⟩) hl2).trans z5, (hv1.cell (p := ⟨w.heap.size + 1, 1, none⟩) hl2).trans z6, (hv1.cell (p := ⟨w.heap.size + 1, 2, none⟩) hl2).trans z7⟩)
    (first
     | (go_at_call 78; have hvx := hv1; clear hvx; refine (changeKey_any A0 c0' s ⟨ta, ob, nb⟩ B1 d1 B2 d2 S _ (HS0.out.keep (Same.of_below hv1 hS0)) (HV0.out.r1.keep (Same.of_below hv1 hS0)) HV0.out.l1 (HV0.out.r2.keep (Same.of_below hv1 hS0)) HV0.out.l2 (fun b hb => Nat.lt_of_lt_of_le (hS0 b hb) hv1.size)).mono ?_; rintro e w6 ⟨A8, c8, rfl, h8, hv2'⟩; have hv2 : Below w0.heap.size w0 w6 := hv1.trans (hv2'.mono hv1.size))
     | (go_at_call 78; refine (changeKey_any A0 c0' s ⟨ta, oa, na⟩ A1 c1 A2 c2 S w0.drew (HS0.out.keep (fun _ _ => rfl)) (HA0.out.r1.keep (fun _ _ => rfl)) HA0.out.l1 (HA0.out.r2.keep (fun _ _ => rfl)) HA0.out.l2 hS0).mono ?_; rintro e w5 ⟨A7, c7, rfl, h7, hv1'⟩; have hv1 : Below w0.heap.size w0 w5 := (Below.refl _ w0).drew.trans hv1')
     | (go_at_call 77; refine (equal_any A7 A8 c7 c8 (keyC s ⟨ta, oa, na⟩) (keyC s ⟨ta, ob, nb⟩) S _ (h7.keep (Same.of_below hv2' (fun b hb => Nat.lt_of_lt_of_le (hS0 b hb) hv1.size))) h8 (fun b hb => Nat.lt_of_lt_of_le (hS0 b hb) hv2.size)).mono ?_; rintro e w7 ⟨rfl, hv3'⟩; have hv3 : Below w0.heap.size w0 w7 := hv2.trans (hv3'.mono hv2.size)))
   have HB7 := Lib.hid (HB0.out.trans (hv3.mono (by have := HSZ.out; omega)))
   clear hv1 hv2 hv3 hv1' hv2' hv3' h7 h8 z0 z1 z2 z3 z4 z5 z6 z7
   go_wp2_with fail
   go_ret
   exact ⟨by rw [HF.out]; rfl, HB7.out⟩
 · have hd : (ta == tb) = false := by simpa using ht
   have HF := Lib.hid (show sameC s ⟨ta, oa, na⟩ ⟨tb, ob, nb⟩ = false by unfold sameC; simp [ht])
   clear ht
   go_enter Try.func76, Try.ntmps76
   go_wp2_with fail
   go_quiet (fail)
   go_wp2_with fail
   go_ret
   exact ⟨by rw [HF.out]; rfl, below_drewN HB0.out _⟩
end Go.Proofs.Ytkpjjfhfbpfjpaa

