import Derived.Test.YtkpjjfhfbpfjpaaKa970ca
set_option linter.unusedVariables false
set_option linter.unusedSimpArgs false
set_option maxRecDepth 100000
namespace Go.Proofs.Ytkpjjfhfbpfjpaa
open Go.RowKit
def PredCalls (pc : List Int → Pred → Int) (ks : List Int) (p : Pred) : Prop :=
 ∀ (K : Option Addr) (ck : Nat) (op cmp : Int) (l r : Opd) (args : List Pred) (A : Option Addr) (c : Nat) (S : Nat → Prop) (w : World), p = .mk op cmp l r args → IntS w S K ks → PredS w S A args → (∀ b, S b → b < w.heap.size) → args.length ≤ c → l.value.t.size ≤ 9223372036854775807 → r.value.t.size ≤ 9223372036854775807 →
  Calls Try.prog 112 #[.slice K ks.length ck, .slice none 0 0, pAgg op cmp l r A args.length c] w (IntBel (pc ks p) w)
theorem kindsF_at (s : Sch) (k : Nat) (h : k < s.tabs.length) : kindsF s k = (s.tabs.getD k t0).cols.map (·.kind) := by
 unfold kindsF
 rw [if_pos (by simp [hasN]; omega)]
 rfl
theorem tab_mem {l : List Tab} {k : Nat} (h : k < l.length) : l.getD k t0 ∈ l := by simp [List.getD, h]
theorem pred_mem {l : List Pred} {k : Nat} (h : k < l.length) : l.getD k p0 ∈ l := by simp [List.getD, h]
set_option maxHeartbeats 4000000 in
theorem schCheck_any (pc : List Int → Pred → Int) (A0 : Option Addr) (c0' : Nat) (s : Sch) (S : Nat → Prop) (w : World) (hs : TabS w S A0 s.tabs) (hS : ∀ b, S b → b < w.heap.size) (hpc : ∀ t ∈ s.tabs, ∀ p ∈ t.checks, PredCalls pc (t.cols.map (·.kind)) p) :
  Calls Try.prog 90 #[sAgg s.version A0 s.tabs.length c0'] w (IntBel (schF pc s) w) := by
 obtain ⟨ver, tabs⟩ := s
 simp only at hs hpc ⊢
 have hsl := hs.len
 have HS := Lib.hid hs
 have HPC := Lib.hid hpc
 clear hs hpc
 have HB0 := Lib.hid ((Below.refl w.heap.size w).alloc (Nat.le_refl _) (.cells #[.int .i64 ver, .slice A0 tabs.length c0'] 25))
 by_cases h8 : 8 < tabs.length
 · have HF := Lib.hid (show schF pc ⟨ver, tabs⟩ = 2 by unfold schF; rw [if_pos h8])
   go_enter Try.func90, Try.ntmps90
   go_wp2_with fail
   go_ret
   exact ⟨by rw [HF.out]; rfl, HB0.out⟩
 · go_enter Try.func90, Try.ntmps90
   go_wp2_with fail
   go_loopw [18] (fun i wr => ∃ k : Nat, k ≤ tabs.length ∧ i = .int .i64 k ∧ (tabs.take k).any bigT = false ∧ Below w.heap.size w wr ∧ wr.cell? ⟨w.heap.size, 0, none⟩ = some (.int .i64 ver) ∧ wr.cell? ⟨w.heap.size, 1, none⟩ = some (.slice A0 tabs.length c0') ∧ w.heap.size < wr.heap.size) (fun i _ => tabs.length - (intOf i).toNat)
   case atStart => exact ⟨0, Nat.zero_le _, rfl, by simp, HB0.out, by simp, by simp, by simp⟩
   case round =>
    obtain ⟨k, hk, rfl, hbig, hbel, x0, x1, hw1⟩ := hrel
    have HT := Lib.hid hbig
    have HB := Lib.hid hbel
    clear hbig hbel
    by_cases hkl : k < tabs.length
    · obtain ⟨b2, o2, rfl, hb2, A1, A2, A3, c1, c2, c3, hta⟩ := (HS.out.keep (Same.of_below HB.out hS)).at_ hkl
      obtain ⟨k1, k2, k3, k4, k5, cS, rS, pS, -, -, -, -⟩ := hta
      have hcl := cS.len
      have hrl := rS.len
      have hpl := pS.len
      have hl2 : b2 < w.heap.size := hS b2 hb2
      have HSTEP := Lib.hid (big_take tabs k hkl)
      have HBT := Lib.hid (big_true tabs k hkl)
      have HBA := Lib.hid (HB.out.alloc (by omega) (.cells #[.string (tabs.getD k t0).name, .slice A1 (tabs.getD k t0).cols.length c1, .int .i64 (tabs.getD k t0).key, .slice A2 (tabs.getD k t0).refs.length c2, .slice A3 (tabs.getD k t0).checks.length c3] 39))
      clear cS rS pS
      generalize tabs.getD k t0 = tb at k1 k2 k3 k4 k5 HSTEP HBT hcl hrl hpl HBA
      obtain ⟨tn, tc, tk, tr, tp⟩ := tb
      simp only at k1 k2 k3 k4 k5 hcl hrl hpl HBA
      by_cases hc8 : 8 < tc.length
      · have hd1 : decide (8 < (tc.length : Int)) = true := by simp; omega
        have HF := Lib.hid (show schF pc ⟨ver, tabs⟩ = 2 by unfold schF; rw [if_neg h8, if_pos (HBT.out (by simp [bigT, hc8]))])
        go_wp2_with fail
        go_ret
        exact ⟨by rw [HF.out]; rfl, HBA.out⟩
      · have hd1 : decide (8 < (tc.length : Int)) = false := by simp; omega
        by_cases hr4 : 4 < tr.length
        · have hd2 : decide (4 < (tr.length : Int)) = true := by simp; omega
          have HF := Lib.hid (show schF pc ⟨ver, tabs⟩ = 2 by unfold schF; rw [if_neg h8, if_pos (HBT.out (by simp [bigT, hr4]))])
          go_wp2_with fail
          go_ret
          exact ⟨by rw [HF.out]; rfl, HBA.out⟩
        · have hd2 : decide (4 < (tr.length : Int)) = false := by simp; omega
          by_cases hp4 : 4 < tp.length
          · have hd3 : decide (4 < (tp.length : Int)) = true := by simp; omega
            have HF := Lib.hid (show schF pc ⟨ver, tabs⟩ = 2 by unfold schF; rw [if_neg h8, if_pos (HBT.out (by simp [bigT, hp4]))])
            go_wp2_with fail
            go_ret
            exact ⟨by rw [HF.out]; rfl, HBA.out⟩
          · have hd3 : decide (4 < (tp.length : Int)) = false := by simp; omega
            go_wp2_with fail
            go_roundw
            case rel => exact ⟨k + 1, by omega, by go_num, by rw [HSTEP.out, HT.out]; simp [bigT]; omega, HBA.out, by rw [World.cell?_of_block (Below.heap_alloc _ _ _ hw1)]; exact x0, by rw [World.cell?_of_block (Below.heap_alloc _ _ _ hw1)]; exact x1, by simp; omega⟩
            case measure => simp [intOf]; omega
    · have HNB := Lib.hid (show tabs.any bigT = false by have := HT.out; rwa [List.take_of_length_le (by omega)] at this)
      have HC8 := Lib.hid (show ∀ t ∈ tabs, t.cols.length ≤ 8 by
       intro t ht
       have := List.any_eq_false.1 HNB.out t ht
       simp [bigT] at this
       omega)
      have HSCH := Lib.hid (show schF pc ⟨ver, tabs⟩ = if ver < 0 ∨ 1000 < ver ∨ namedFrom [] tabs = false ∨ referFrom tabs tabs = false then 70 else chkT pc tabs by unfold schF; rw [if_neg h8, if_neg (by rw [HNB.out]; simp)])
      clear HT
      by_cases hv0 : ver < 0
      · have hd1 : decide (ver < 0) = true := by simp [hv0]
        have HF := Lib.hid (show schF pc ⟨ver, tabs⟩ = 70 by rw [HSCH.out, if_pos (.inl hv0)])
        go_wp2_with fail
        go_ret
        exact ⟨by rw [HF.out]; rfl, HB.out⟩
      · have hd1 : decide (ver < 0) = false := by simpa using hv0
        by_cases hv1 : 1000 < ver
        · have hd2 : decide (1000 < ver) = true := by simp [hv1]
          have HF := Lib.hid (show schF pc ⟨ver, tabs⟩ = 70 by rw [HSCH.out, if_pos (.inr (.inl hv1))])
          go_wp2_with fail
          go_ret
          exact ⟨by rw [HF.out]; rfl, HB.out⟩
        · have hd2 : decide (1000 < ver) = false := by simpa using hv1
          go_wp2_with fail
          refine (named_any A0 c0' ⟨ver, tabs⟩ S _ (HS.out.keep (Same.of_below HB.out hS)) (fun b hb => by have := hS b hb; omega) (by simp only; omega) HC8.out).mono ?_
          rintro e w1 ⟨rfl, hb1⟩
          have HB1 := Lib.hid (HB.out.trans (hb1.mono (by omega)))
          have y0 : w1.cell? ⟨w.heap.size, 0, none⟩ = some (.int .i64 ver) := (hb1.cell (p := ⟨w.heap.size, 0, none⟩) hw1).trans x0
          have y1 : w1.cell? ⟨w.heap.size, 1, none⟩ = some (.slice A0 tabs.length c0') := (hb1.cell (p := ⟨w.heap.size, 1, none⟩) hw1).trans x1
          have hw2 : w.heap.size < w1.heap.size := by have := hb1.size; omega
          simp only
          clear hb1 x0 x1 HB hw1
          by_cases hn : namedFrom [] tabs = true
          · have HKC := Lib.hid (named_key tabs [] hn)
            have HN := Lib.hid hn
            rw [hn]
            clear hn
            go_wp2_with fail
            refine (referring_any A0 c0' ⟨ver, tabs⟩ S _ (HS.out.keep (Same.of_below HB1.out hS)) (fun b hb => by have := hS b hb; omega) HKC.out).mono ?_
            rintro e w2 ⟨rfl, hb2⟩
            have HB2 := Lib.hid (HB1.out.trans (hb2.mono (by omega)))
            have z0 : w2.cell? ⟨w.heap.size, 0, none⟩ = some (.int .i64 ver) := (hb2.cell (p := ⟨w.heap.size, 0, none⟩) hw2).trans y0
            have z1 : w2.cell? ⟨w.heap.size, 1, none⟩ = some (.slice A0 tabs.length c0') := (hb2.cell (p := ⟨w.heap.size, 1, none⟩) hw2).trans y1
            have hw3 : w.heap.size < w2.heap.size := by have := hb2.size; omega
            simp only
            clear hb2 y0 y1 HB1 hw2
            by_cases hr : referFrom tabs tabs = true
            · have HFF := Lib.hid (show schF pc ⟨ver, tabs⟩ = chkT pc tabs by rw [HSCH.out, if_neg (by rw [HN.out, hr]; simp; omega)])
              rw [hr]
              clear hr
              go_wp2_with fail
              go_loopw [60] (fun i wr => ∃ k : Nat, k ≤ tabs.length ∧ i = .int .i64 k ∧ chkT pc tabs = chkT pc (tabs.drop k) ∧ Below w.heap.size w wr ∧ wr.cell? ⟨w.heap.size, 0, none⟩ = some (.int .i64 ver) ∧ wr.cell? ⟨w.heap.size, 1, none⟩ = some (.slice A0 tabs.length c0') ∧ w.heap.size < wr.heap.size) (fun i _ => tabs.length - (intOf i).toNat)
              case atStart => exact ⟨0, Nat.zero_le _, rfl, by simp, HB2.out, z0, z1, hw3⟩
              case round =>
               clear HB2 z0 z1 hw3
               obtain ⟨k, hk, rfl, hch, hbel, x0, x1, hw1⟩ := hrel
               have HT := Lib.hid hch
               have HB := Lib.hid hbel
               clear hch hbel
               by_cases hkl : k < tabs.length
               · obtain ⟨b2, o2, rfl, hb2, A1, A2, A3, c1, c2, c3, hta⟩ := (HS.out.keep (Same.of_below HB.out hS)).at_ hkl
                 obtain ⟨k1, k2, k3, k4, k5, cS, rS, pS, -, -, -, -⟩ := hta
                 have hpl := pS.len
                 have HPS := Lib.hid pS
                 have hl2 : b2 < w.heap.size := hS b2 hb2
                 have HSTEP := Lib.hid (chkT_drop pc tabs k hkl)
                 have HKE := Lib.hid (kindsF_at ⟨ver, tabs⟩ k hkl)
                 have HPK := Lib.hid (HPC.out _ (tab_mem hkl))
                 have HBA := Lib.hid (HB.out.alloc (by omega) (.cells #[.string (tabs.getD k t0).name, .slice A1 (tabs.getD k t0).cols.length c1, .int .i64 (tabs.getD k t0).key, .slice A2 (tabs.getD k t0).refs.length c2, .slice A3 (tabs.getD k t0).checks.length c3] 39))
                 clear cS rS pS
                 simp only at HKE
                 generalize tabs.getD k t0 = tb at k1 k2 k3 k4 k5 HSTEP HPS HKE HPK hpl HBA
                 obtain ⟨tn, tc, tk, tr, tp⟩ := tb
                 simp only at k1 k2 k3 k4 k5 hpl HBA HPS HKE HPK HSTEP
                 go_wp2_with fail
                 refine (kinds_any _ c0' ⟨ver, tabs⟩ k S _ (HS.out.keep (Same.of_below HBA.out hS)) (fun b hb => by have := hS b hb; simp; omega)).mono ?_
                 rintro e w3 ⟨K, ck, rfl, hIS, hck, -, hb3⟩
                 rw [HKE.out] at hIS hck ⊢
                 have HB3 := Lib.hid (HBA.out.trans (hb3.mono (by simp; omega)))
                 have y0 : w3.cell? ⟨w.heap.size, 0, none⟩ = some (.int .i64 ver) := (hb3.cell (p := ⟨w.heap.size, 0, none⟩) (by simp; omega)).trans ((World.cell?_of_block (Below.heap_alloc _ _ _ hw1)).trans x0)
                 have y1 : w3.cell? ⟨w.heap.size, 1, none⟩ = some (.slice (some ⟨b2, o2, none⟩) tabs.length c0') := (hb3.cell (p := ⟨w.heap.size, 1, none⟩) (by simp; omega)).trans ((World.cell?_of_block (Below.heap_alloc _ _ _ hw1)).trans x1)
                 have y2 : w3.cell? ⟨wr.heap.size, 4, none⟩ = some (.slice A3 tp.length c3) := (hb3.cell (p := ⟨wr.heap.size, 4, none⟩) (by simp)).trans (by simp)
                 have hw2 : w.heap.size < w3.heap.size := by have := hb3.size; simp at this; omega
                 have hw4 : wr.heap.size < w3.heap.size := by have := hb3.size; simp at this; omega
                 have HIS := Lib.hid hIS
                 have hksl := hIS.len
                 generalize tc.map (·.kind) = ks at HIS HSTEP HPK hck hksl
                 clear hb3 x0 x1 hIS
                 go_wp2_with fail
                 go_loopw [71] (fun i wq => ∃ j : Nat, j ≤ tp.length ∧ i = .int .i64 j ∧ chkL pc ks tp = chkL pc ks (tp.drop j) ∧ Below w3.heap.size w3 wq) (fun i _ => tp.length - (intOf i).toNat)
                 case atStart => exact ⟨0, Nat.zero_le _, rfl, by simp, Below.refl _ _⟩
                 case round =>
                  obtain ⟨j, hj, rfl, hch, hbq⟩ := hrel
                  have HT2 := Lib.hid hch
                  have HBQ := Lib.hid hbq
                  have hsq := hbq.size
                  have HBW := Lib.hid (HB3.out.trans (hbq.mono (by omega)))
                  clear hch hbq
                  by_cases hjl : j < tp.length
                  · obtain ⟨b5, o5, rfl, hb5, op', cmp', lf, rt, args', A', c', hpe, hpa⟩ := (HPS.out.keep (fun b hb => (HBW.out.block b (hS b hb)).trans (HB.out.block b (hS b hb)).symm)).at_ hjl
                    have HSTEP2 := Lib.hid (chkL_drop pc ks tp j hjl)
                    have HPM := Lib.hid (HPK.out _ (pred_mem hjl))
                    rw [hpe] at HSTEP2 HPM
                    have f1 := hpa.fop
                    have f2 := hpa.fcmp
                    have f3 := hpa.lk
                    have f4 := hpa.li
                    have f6 := hpa.lvk
                    have f7 := hpa.lvi
                    have f8 := hpa.lvt
                    have f9 := hpa.rk
                    have f10 := hpa.ri
                    have f11 := hpa.rvk
                    have f12 := hpa.rvi
                    have f13 := hpa.rvt
                    have f5 := hpa.fargs
                    have HPA := Lib.hid hpa
                    have hl5 : b5 < wr.heap.size := by have := hS b5 hb5; omega
                    clear hpa hpe
                    go_wp2_with fail
                    refine (HPM.out K ck op' cmp' lf rt args' A' c' (fun b => b < w3.heap.size) _ rfl ((HIS.out.more (fun b hb => hb.2)).keep (Same.of_below (HBQ.out.alloc (by omega) _) (fun b hb => hb))) ((HPA.out.pS.more (fun b hb => by have := hS b hb; omega)).keep (fun b hb => Below.heap_alloc _ _ _ (by omega))) (fun b hb => by simp; omega) HPA.out.pc HPA.out.lt HPA.out.rt).mono ?_
                    rintro e w4 ⟨rfl, hb4⟩
                    have HB4 := Lib.hid ((HBQ.out.alloc (by omega) _).trans (hb4.mono (by simp; omega)))
                    clear hb4
                    by_cases he : pc ks (.mk op' cmp' lf rt args') = 0
                    · rw [he] at HSTEP2 ⊢
                      clear he
                      go_wp2_with fail
                      go_roundw
                      case rel => exact ⟨j + 1, by omega, by go_num, by rw [HT2.out, HSTEP2.out]; rfl, HB4.out⟩
                      case measure => simp [intOf]; omega
                    · have HL := Lib.hid (show chkL pc ks tp = pc ks (.mk op' cmp' lf rt args') by rw [HT2.out, HSTEP2.out, if_pos he])
                      have HTT := Lib.hid (show chkT pc tabs = pc ks (.mk op' cmp' lf rt args') by rw [HT.out, HSTEP.out, HL.out, if_pos he])
                      have hd : (pc ks (.mk op' cmp' lf rt args') != 0) = true := by simp [he]
                      clear HL HSTEP2
                      generalize pc ks (.mk op' cmp' lf rt args') = er at hd HTT he
                      clear he
                      go_wp2_with fail
                      go_ret
                      exact ⟨by rw [HFF.out, HTT.out]; rfl, HB3.out.trans (HB4.out.mono (by omega))⟩
                  · have HE := Lib.hid (show chkL pc ks tp = 0 by rw [HT2.out, show j = tp.length by omega, List.drop_length]; rfl)
                    have y0' : wr.cell? ⟨w.heap.size, 0, none⟩ = some (.int .i64 ver) := (HBQ.out.cell (p := ⟨w.heap.size, 0, none⟩) hw2).trans y0
                    have y1' : wr.cell? ⟨w.heap.size, 1, none⟩ = some (.slice (some ⟨b2, o2, none⟩) tabs.length c0') := (HBQ.out.cell (p := ⟨w.heap.size, 1, none⟩) hw2).trans y1
                    go_wp2_with fail
                    go_roundw
                    case rel => exact ⟨k + 1, by omega, by go_num, by rw [HT.out, HSTEP.out, HE.out]; rfl, HBW.out, y0', y1', by omega⟩
                    case measure => simp [intOf]; omega
               · have HE := Lib.hid (show chkT pc tabs = 0 by rw [HT.out, show k = tabs.length by omega, List.drop_length]; rfl)
                 go_wp2_with fail
                 go_ret
                 exact ⟨by rw [HFF.out, HE.out]; rfl, HB.out⟩
            · have hr' : referFrom tabs tabs = false := by simpa using hr
              have HF := Lib.hid (show schF pc ⟨ver, tabs⟩ = 70 by rw [HSCH.out, if_pos (.inr (.inr (.inr hr')))])
              rw [hr']
              clear hr hr'
              go_wp2_with fail
              go_ret
              exact ⟨by rw [HF.out]; rfl, HB2.out⟩
          · have hn' : namedFrom [] tabs = false := by simpa using hn
            have HF := Lib.hid (show schF pc ⟨ver, tabs⟩ = 70 by rw [HSCH.out, if_pos (.inr (.inr (.inl hn')))])
            rw [hn']
            clear hn hn'
            go_wp2_with fail
            go_ret
            exact ⟨by rw [HF.out]; rfl, HB1.out⟩
end Go.Proofs.Ytkpjjfhfbpfjpaa

namespace Go.Proofs.Ytkpjjfhfbpfjpaa
open Go.RowKit
def SchPreds (pc : List Int → Pred → Int) (s : Sch) : Prop := ∀ t ∈ s.tabs, ∀ p ∈ t.checks, PredCalls pc (t.cols.map (·.kind)) p
set_option maxHeartbeats 1000000 in
theorem mode_any (pc : List Int → Pred → Int) (A0 : Option Addr) (c0' : Nat) (s : Sch) (m : Int) (S : Nat → Prop) (w : World) (hs : TabS w S A0 s.tabs) (hS : ∀ b, S b → b < w.heap.size) (hpc : SchPreds pc s) :
  Calls Try.prog 58 #[sAgg s.version A0 s.tabs.length c0', .int .i64 m] w (IntBel (modeF (schF pc s) m) w) := by
 obtain ⟨er, her⟩ : ∃ er, schF pc s = er := ⟨_, rfl⟩
 rw [her]
 have HER := Lib.hid her
 clear her
 have HS := Lib.hid hs
 have HPC := Lib.hid hpc
 have hsl := hs.len
 clear hs hpc
 have HB0 := Lib.hid ((Below.refl w.heap.size w).alloc (Nat.le_refl _) (.cells #[.int .i64 s.version, .slice A0 s.tabs.length c0'] 25))
 go_enter Try.func58, Try.ntmps58
 go_wp2_with fail
 refine (schCheck_any pc A0 c0' s S _ (HS.out.keep (Same.of_below HB0.out hS)) (fun b hb => by have := hS b hb; simp; omega) HPC.out).mono ?_
 rintro e w1 ⟨rfl, hb1⟩
 have HB1 := Lib.hid (HB0.out.trans (hb1.mono (by simp)))
 clear hb1 HB0
 rw [HER.out]
 clear HER
 by_cases he : er = 0
 · subst he
   by_cases h1 : m = 1
   · subst h1
     go_wp2_with fail
     go_ret
     exact ⟨rfl, HB1.out⟩
   · by_cases h2 : m = 2
     · subst h2
       go_wp2_with fail
       go_ret
       exact ⟨rfl, HB1.out⟩
     · by_cases h3 : m = 3
       · subst h3
         go_wp2_with fail
         go_ret
         exact ⟨rfl, HB1.out⟩
       · have HF := Lib.hid (show modeF 0 m = 1 by simp [modeF, modeOk, h1, h2, h3])
         have hd1 : (m != 1) = true := by simpa using h1
         have hd2 : (m != 2) = true := by simpa using h2
         have hd3 : (m != 3) = true := by simpa using h3
         clear h1 h2 h3
         go_wp2_with fail
         go_ret
         exact ⟨by rw [HF.out]; rfl, HB1.out⟩
 · have HF := Lib.hid (show modeF er m = er by simp [modeF, he])
   have hd1 : (er != 0) = true := by simpa using he
   clear he
   go_wp2_with fail
   go_ret
   exact ⟨by rw [HF.out]; rfl, HB1.out⟩
end Go.Proofs.Ytkpjjfhfbpfjpaa

namespace Go.Proofs.Ytkpjjfhfbpfjpaa
open Go.RowKit
set_option maxHeartbeats 4000000 in
theorem tcheck_any (pc : List Int → Pred → Int) (A0 : Option Addr) (c0' : Nat) (s : Sch) (m : Int) (A : Option Addr) (ca : Nat) (st : St) (S : Nat → Prop) (w : World) (hs : TabS w S A0 s.tabs) (hst : StS w S A st) (hS : ∀ b, S b → b < w.heap.size) (hpc : SchPreds pc s) (hc : countF st ≤ 4611686018427387904) :
  Calls Try.prog 19 #[sAgg s.version A0 s.tabs.length c0', .int .i64 m, stAgg A st.length ca] w (IntBel (checkF (schF pc s) s m st) w) := by
 obtain ⟨er, her⟩ : ∃ er, modeF (schF pc s) m = er := ⟨_, rfl⟩
 have HCF := Lib.hid (show checkF (schF pc s) s m st = if er ≠ 0 then er else if 512 < countF st then 2 else if st.length ≠ s.tabs.length then 80 else if stOk s m 0 st then 0 else 80 by rw [← her]; rfl)
 have HER := Lib.hid her
 clear her
 have HS := Lib.hid hs
 have HST := Lib.hid hst
 have HPC := Lib.hid hpc
 have HC := Lib.hid hc
 have hsl := hs.len
 have hstl := hst.len
 clear hs hpc hst hc
 have HB0 := Lib.hid (((Below.refl w.heap.size w).alloc (Nat.le_refl _) (.cells #[.int .i64 s.version, .slice A0 s.tabs.length c0'] 25)).alloc (by simp) (.cells #[.slice A st.length ca] 56))
 go_enter Try.func19, Try.ntmps19
 go_wp2_with fail
 refine (mode_any pc A0 c0' s m S _ (HS.out.keep (Same.of_below HB0.out hS)) (fun b hb => by have := hS b hb; simp; omega) HPC.out).mono ?_
 rintro e w1 ⟨rfl, hb1⟩
 rw [HER.out]
 clear HER
 have HB1 := Lib.hid (HB0.out.trans (hb1.mono (by simp; omega)))
 have x0 : w1.cell? ⟨w.heap.size, 0, none⟩ = some (.int .i64 s.version) := (hb1.cell (p := ⟨w.heap.size, 0, none⟩) (by simp <;> omega)).trans (by simp)
 have x1 : w1.cell? ⟨w.heap.size, 1, none⟩ = some (.slice A0 s.tabs.length c0') := (hb1.cell (p := ⟨w.heap.size, 1, none⟩) (by simp <;> omega)).trans (by simp)
 have x2 : w1.cell? ⟨w.heap.size + 1, 0, none⟩ = some (.slice A st.length ca) := (hb1.cell (p := ⟨w.heap.size + 1, 0, none⟩) (by simp <;> omega)).trans (by simp)
 have hw1 : w.heap.size + 1 < w1.heap.size := by have := hb1.size; simp at this; omega
 clear hb1 HB0
 by_cases he : er = 0
 · subst he
   go_wp2_with fail
   refine (count_any A ca st S _ (HST.out.keep (Same.of_below HB1.out hS)) (fun b hb => by have := hS b hb; omega) HC.out).mono ?_
   rintro e w2 ⟨rfl, hb2⟩
   have HB2 := Lib.hid (HB1.out.trans (hb2.mono (by omega)))
   have y0 : w2.cell? ⟨w.heap.size, 0, none⟩ = some (.int .i64 s.version) := (hb2.cell (p := ⟨w.heap.size, 0, none⟩) (by simp; omega)).trans x0
   have y1 : w2.cell? ⟨w.heap.size, 1, none⟩ = some (.slice A0 s.tabs.length c0') := (hb2.cell (p := ⟨w.heap.size, 1, none⟩) (by simp; omega)).trans x1
   have y2 : w2.cell? ⟨w.heap.size + 1, 0, none⟩ = some (.slice A st.length ca) := (hb2.cell (p := ⟨w.heap.size + 1, 0, none⟩) (by simp; omega)).trans x2
   have hw2 : w.heap.size + 1 < w2.heap.size := by have := hb2.size; omega
   clear hb2 HB1 x0 x1 x2 hw1
   by_cases h512 : 512 < countF st
   · have HF := Lib.hid (show checkF (schF pc s) s m st = 2 by rw [HCF.out, if_neg (by simp), if_pos h512])
     have hd1 : decide (512 < (countF st : Int)) = true := by simp; omega
     clear h512 HCF
     generalize countF st = cn at hd1
     go_wp2_with fail
     go_ret
     exact ⟨by rw [HF.out]; rfl, HB2.out⟩
   · have hd1 : decide (512 < (countF st : Int)) = false := by simp; omega
     have HCF2 := Lib.hid (show checkF (schF pc s) s m st = if st.length ≠ s.tabs.length then 80 else if stOk s m 0 st then 0 else 80 by rw [HCF.out, if_neg (by simp), if_neg h512])
     clear h512 HCF HC
     generalize countF st = cn at hd1
     by_cases hlen : st.length = s.tabs.length
     · have hd2 : ((st.length : Int) != s.tabs.length) = false := by simp [hlen]
       have HCF3 := Lib.hid (show checkF (schF pc s) s m st = if stOk s m 0 st then 0 else 80 by rw [HCF2.out, if_neg (by simpa using hlen)])
       clear HCF2
       have HLEN := Lib.hid hlen
       clear hlen
       go_wp2_with fail
       clear hd1 hd2
       go_loopw [31] (fun i wr => ∃ k : Nat, k ≤ st.length ∧ i = .int .i64 k ∧ stOk s m 0 st = stOk s m k (st.drop k) ∧ Below w.heap.size w wr ∧ wr.cell? ⟨w.heap.size, 0, none⟩ = some (.int .i64 s.version) ∧ wr.cell? ⟨w.heap.size, 1, none⟩ = some (.slice A0 s.tabs.length c0') ∧ w.heap.size + 1 < wr.heap.size) (fun i _ => st.length - (intOf i).toNat)
       case atStart => exact ⟨0, Nat.zero_le _, rfl, by simp, HB2.out, y0, y1, hw2⟩
       case round =>
        clear HB2 y0 y1 y2 hw2
        obtain ⟨k, hk, rfl, hch, hbel, x0, x1, hw1⟩ := hrel
        have HT := Lib.hid hch
        have HB := Lib.hid hbel
        clear hch hbel
        by_cases hkl : k < st.length
        · obtain ⟨b2, o2, rfl, hb2, A', c', d1, d2, d3⟩ := (HST.out.keep (Same.of_below HB.out hS)).at_ hkl
          have hl2 : b2 < wr.heap.size := by have := hS b2 hb2; omega
          have HSTEP := Lib.hid (stOk_drop s m st k hkl)
          have HRS := Lib.hid d3
          have hrl := d3.len
          have HD2 := Lib.hid d2
          clear d2 d3
          generalize st.getD k [] = rows at d1 HSTEP HRS HD2 hrl
          go_wp2_with fail
          clear d1
          go_loopw [38] (fun i wq => ∃ j : Nat, j ≤ rows.length ∧ i = .int .i64 j ∧ rowsOk s k m none rows = rowsOk s k m (before rows j) (rows.drop j) ∧ Below wr.heap.size wr wq) (fun i _ => rows.length - (intOf i).toNat)
          case atStart => exact ⟨0, Nat.zero_le _, rfl, by simp [before], Below.refl _ _⟩
          case round =>
           obtain ⟨j, hj, rfl, hch, hbq⟩ := hrel
           rename_i wa
           have HT2 := Lib.hid hch
           have HBQ := Lib.hid hbq
           have hsq := hbq.size
           have HBW := Lib.hid (HB.out.trans (hbq.mono (by omega)))
           have y0 : wr.cell? ⟨w.heap.size, 0, none⟩ = some (.int .i64 s.version) := (hbq.cell (p := ⟨w.heap.size, 0, none⟩) (by simp; omega)).trans x0
           have y1 : wr.cell? ⟨w.heap.size, 1, none⟩ = some (.slice A0 s.tabs.length c0') := (hbq.cell (p := ⟨w.heap.size, 1, none⟩) (by simp; omega)).trans x1
           clear hch hbq
           by_cases hjl : j < rows.length
           · have HRQ := Lib.hid (HRS.out.keep (w' := wr) (fun b hb => HBQ.out.block b (by have := hS b hb; omega)))
             obtain ⟨b5, o5, rfl, hb5, A5, c5, f1, f2, f3⟩ := HRQ.out.at_ hjl
             have hl5 : b5 < wr.heap.size := by have := hS b5 hb5; omega
             have HSTEP2 := Lib.hid (rowsOk_drop s k m rows j hjl)
             have HROW := Lib.hid f3
             have HC5 := Lib.hid f2
             have hrw := f3.len
             clear f2 f3
             by_cases hj0 : j = 0
             · have hd3 : decide ((0:Int) < (j : Int)) = false := by simp; omega
               have HSTEP3 := Lib.hid (show rowsOk s k m none rows = (fitsF s k (rows.getD j []) m && rowsOk s k m (before rows (j + 1)) (rows.drop (j + 1))) by rw [HT2.out, HSTEP2.out]; subst hj0; simp [before])
               have HJ0 := Lib.hid (show ¬ 0 < j by omega)
               clear HSTEP2 HT2 hj0 hd3
               generalize rows.getD j [] = row at f1 HSTEP3 HROW HC5 hrw
               go_wp2_with fail
               refine (fits_any A0 c0' s k m A5 c5 row S _ (HS.out.keep (Same.of_below HBW.out hS)) HROW.out (fun b hb => by have := hS b hb; omega)).mono ?_
               rintro e w4 ⟨rfl, hb4⟩
               have HB4 := Lib.hid (HBQ.out.trans (hb4.mono (by omega)))
               clear hb4
               by_cases hf : fitsF s k row m = true
               · rw [hf] at HSTEP3 ⊢
                 clear hf
                 go_wp2_with fail
                 have hd4 := HJ0.out
                 go_quiet (fail)
                 go_wp2_with fail
                 go_roundw
                 case rel => exact ⟨j + 1, by omega, by go_num, by rw [HSTEP3.out]; simp, below_drewN HB4.out _⟩
                 case measure => simp [intOf]; omega
               · have hf' : fitsF s k row m = false := by simpa using hf
                 rw [hf'] at HSTEP3 ⊢
                 clear hf hf'
                 have HF := Lib.hid (show checkF (schF pc s) s m st = 80 by rw [HCF3.out, HT.out, HSTEP.out, HSTEP3.out]; simp)
                 go_wp2_with fail
                 go_ret
                 exact ⟨by rw [HF.out]; rfl, HB.out.trans (HB4.out.mono (by omega))⟩
             · obtain ⟨i, rfl⟩ : ∃ i, j = i + 1 := ⟨j - 1, by omega⟩
               obtain ⟨b6, o6, e6, hb6, A6, c6, g1, g2, g3⟩ := HRQ.out.at_ (show i < rows.length by omega)
               injection e6 with e6
               injection e6 with e61 e62
               subst e61 e62
               have HPREV := Lib.hid g3
               have HC6 := Lib.hid g2
               have hrw6 := g3.len
               have HSTEP3 := Lib.hid (show rowsOk s k m none rows = (fitsF s k (rows.getD (i + 1) []) m && decide (cmpR (keyF s k (rows.getD i [])) (keyF s k (rows.getD (i + 1) [])) < 0) && rowsOk s k m (before rows (i + 1 + 1)) (rows.drop (i + 1 + 1))) by rw [HT2.out, HSTEP2.out]; rfl)
               clear g2 g3 hj0 HSTEP2 HT2
               generalize rows.getD (i + 1) [] = row at f1 HSTEP3 HROW HC5 hrw
               generalize rows.getD i [] = prev at g1 HSTEP3 HPREV HC6 hrw6
               have hd3 : decide ((0:Int) < ((i + 1 : Nat) : Int)) = true := by simp
               go_wp2_with fail
               refine (fits_any A0 c0' s k m A5 c5 row S _ (HS.out.keep (Same.of_below HBW.out hS)) HROW.out (fun b hb => by have := hS b hb; omega)).mono ?_
               rintro e w4 ⟨rfl, hb4⟩
               have HB4 := Lib.hid (HBQ.out.trans (hb4.mono (by omega)))
               have HX4 := Lib.hid hb4
               have HBW4 := Lib.hid (HBW.out.trans (hb4.mono (by omega)))
               have z0 : w4.cell? ⟨w.heap.size, 0, none⟩ = some (.int .i64 s.version) := (hb4.cell (p := ⟨w.heap.size, 0, none⟩) (by simp; omega)).trans y0
               have z1 : w4.cell? ⟨w.heap.size, 1, none⟩ = some (.slice A0 s.tabs.length c0') := (hb4.cell (p := ⟨w.heap.size, 1, none⟩) (by simp; omega)).trans y1
               have z2 : w4.cell? ⟨b5, o5 + i, none⟩ = some (.slice A6 prev.length c6) := (hb4.cell (p := ⟨b5, o5 + i, none⟩) hl5).trans g1
               have hs4 : wr.heap.size ≤ w4.heap.size := hb4.size
               have hl6 : b5 < w4.heap.size := by omega
               clear hb4 f1 g1 y0 y1
               by_cases hf : fitsF s k row m = true
               · rw [hf] at HSTEP3 ⊢
                 clear hf
                 go_wp2_with fail
                 have q1 : IntKind.i64.wrap ((i:Int) + 1 - 1) = i := by rw [show ((i:Int) + 1 - 1) = i by omega]; exact IntWalk.i64_in _ (by omega)
                 have q5 : IntKind.i64.wrap (i:Int) = i := IntWalk.i64_in _ (by omega)
                 have q2 : (0:Int) ≤ i := by omega
                 have q3 : (i:Int) < rows.length := by omega
                 have q4 : (i:Int) ≤ rows.length := by omega
                 have hS4 : ∀ b, S b → b < w4.heap.size := fun b hb => by have := hS b hb; omega
                 have HS4 := Lib.hid (HS.out.keep (Same.of_below HBW4.out hS))
                 have HROW4 := Lib.hid (HROW.out.keep (w' := w4) (Same.of_below HX4.out (fun b hb => by have := hS b hb; omega)))
                 have HPREV4 := Lib.hid (HPREV.out.keep (w' := w4) (Same.of_below HX4.out (fun b hb => by have := hS b hb; omega)))
                 go_region_held3 (fun w' => Below w4.heap.size w4 w' ∧ w'.cell? ⟨w.heap.size, 0, none⟩ = some (.int .i64 s.version) ∧ w'.cell? ⟨w.heap.size, 1, none⟩ = some (.slice A0 s.tabs.length c0') ∧ w'.cell? ⟨b5, o5 + i, none⟩ = some (.slice A6 prev.length c6))
                  (first | exact ⟨(Below.refl _ _).drew, z0, z1, z2⟩ | exact ⟨hv3, (hv3.cell (p := ⟨w.heap.size, 0, none⟩) (by simp; omega)).trans z0, (hv3.cell (p := ⟨w.heap.size, 1, none⟩) (by simp; omega)).trans z1, (hv3.cell (p := ⟨b5, o5 + i, none⟩) hl6).trans z2⟩ | exact ⟨hv2, (hv2.cell (p := ⟨w.heap.size, 0, none⟩) (by simp; omega)).trans z0, (hv2.cell (p := ⟨w.heap.size, 1, none⟩) (by simp; omega)).trans z1, (hv2.cell (p := ⟨b5, o5 + i, none⟩) hl6).trans z2⟩ | exact ⟨hv1, (hv1.cell (p := ⟨w.heap.size, 0, none⟩) (by simp; omega)).trans z0, (hv1.cell (p := ⟨w.heap.size, 1, none⟩) (by simp; omega)).trans z1, (hv1.cell (p := ⟨b5, o5 + i, none⟩) hl6).trans z2⟩)
                  (first
                   | (go_at_call 61; have hvx := hv1; clear hvx; refine (prefix_any A0 c0' s k A5 c5 row S _ (HS4.out.keep (Same.of_below hv1 hS4)) (HROW4.out.keep (Same.of_below hv1 hS4)) HC5.out (fun b hb => Nat.lt_of_lt_of_le (hS4 b hb) hv1.size)).mono ?_; rintro e w6 ⟨A8, c8, rfl, h8, hv2'⟩; have hv2 : Below w4.heap.size w4 w6 := hv1.trans (hv2'.mono hv1.size))
                   | (go_at_call 61; refine (prefix_any A0 c0' s k A6 c6 prev S w4.drew (HS4.out.keep (fun _ _ => rfl)) (HPREV4.out.keep (fun _ _ => rfl)) HC6.out hS4).mono ?_; rintro e w5 ⟨A7, c7, rfl, h7, hv1'⟩; have hv1 : Below w4.heap.size w4 w5 := (Below.refl _ w4).drew.trans hv1')
                   | (go_at_call 60; refine (compareRows_any A7 A8 c7 c8 (keyF s k prev) (keyF s k row) S _ ((HPREV4.out.keep (Same.of_below hv2 hS4)).key s k h7) ((HROW4.out.keep (Same.of_below hv2 hS4)).key s k h8) (fun b hb => Nat.lt_of_lt_of_le (hS4 b hb) hv2.size)).mono ?_; rintro e w7 ⟨rfl, hv3'⟩; have hv3 : Below w4.heap.size w4 w7 := hv2.trans (hv3'.mono hv2.size)))
                 have HB7 := Lib.hid (HB4.out.trans (hv3.mono (by omega)))
                 clear hv1 hv2 hv3 hv1' hv2' hv3' h7 h8 z0 z1 z2 q1 q5
                 by_cases hcmp : cmpR (keyF s k prev) (keyF s k row) < 0
                 · have hd6 : decide (0 ≤ cmpR (keyF s k prev) (keyF s k row)) = false := by simpa using hcmp
                   have HOK := Lib.hid (show rowsOk s k m none rows = rowsOk s k m (before rows (i + 1 + 1)) (rows.drop (i + 1 + 1)) by rw [HSTEP3.out]; simp [hcmp])
                   clear hcmp HSTEP3
                   generalize cmpR (keyF s k prev) (keyF s k row) = cv at hd6 ⊢
                   rw [hd6]
                   go_wp2_with fail
                   go_roundw
                   case rel => exact ⟨i + 1 + 1, by omega, by go_num, HOK.out, HB7.out⟩
                   case measure => simp [intOf]; omega
                 · have hd6 : decide (0 ≤ cmpR (keyF s k prev) (keyF s k row)) = true := by simpa using hcmp
                   have HOK := Lib.hid (show rowsOk s k m none rows = false by rw [HSTEP3.out]; simp [hcmp])
                   clear hcmp HSTEP3
                   generalize cmpR (keyF s k prev) (keyF s k row) = cv at hd6 ⊢
                   rw [hd6]
                   have HF := Lib.hid (show checkF (schF pc s) s m st = 80 by rw [HCF3.out, HT.out, HSTEP.out, HOK.out]; simp)
                   go_wp2_with fail
                   go_ret
                   exact ⟨by rw [HF.out]; rfl, HB.out.trans (HB7.out.mono (by omega))⟩
               · have hf' : fitsF s k row m = false := by simpa using hf
                 rw [hf'] at HSTEP3 ⊢
                 clear hf hf'
                 have HF := Lib.hid (show checkF (schF pc s) s m st = 80 by rw [HCF3.out, HT.out, HSTEP.out, HSTEP3.out]; simp)
                 go_wp2_with fail
                 go_ret
                 exact ⟨by rw [HF.out]; rfl, HB.out.trans (HB4.out.mono (by omega))⟩
           · have HE := Lib.hid (show rowsOk s k m none rows = true by rw [HT2.out, show j = rows.length by omega, List.drop_length]; cases rows.length <;> rfl)
             go_wp2_with fail
             go_roundw
             case rel => exact ⟨k + 1, by omega, by go_num, by rw [HT.out, HSTEP.out, HE.out]; simp, HBW.out, y0, y1, by omega⟩
             case measure => simp [intOf]; omega
        · have HE := Lib.hid (show checkF (schF pc s) s m st = 0 by rw [HCF3.out, HT.out, show k = st.length by omega, List.drop_length]; rfl)
          go_wp2_with fail
          go_ret
          exact ⟨by rw [HE.out]; rfl, HB.out⟩
     · have hd2 : ((st.length : Int) != s.tabs.length) = true := by simp; omega
       have HF := Lib.hid (show checkF (schF pc s) s m st = 80 by rw [HCF2.out, if_pos hlen])
       clear HCF2 hlen
       go_wp2_with fail
       go_ret
       exact ⟨by rw [HF.out]; rfl, HB2.out⟩
 · have hd : (er != 0) = true := by simpa using he
   have HF := Lib.hid (show checkF (schF pc s) s m st = er by rw [HCF.out, if_pos he])
   clear he HCF
   go_wp2_with fail
   go_ret
   exact ⟨by rw [HF.out]; rfl, HB1.out⟩
end Go.Proofs.Ytkpjjfhfbpfjpaa

namespace Go.Proofs.Ytkpjjfhfbpfjpaa
open Go.RowKit
def SubK (S : Nat → Prop) (r : Row) (w : World) (e : Ending) (w' : World) : Prop := ∃ A' c, e = .returned (.slice A' r.length c) ∧ RowS w' S A' r ∧ Below w.heap.size w w'
theorem put_as {K : Act → World → Prop} {a : Act} {d : Option Tmp} {v v' : Value} {w : World} (h : v' = v) (hk : K (a.put d v') w) : K (a.put d v) w := h ▸ hk
set_option maxHeartbeats 1000000 in
theorem changeKey_any (A0 : Option Addr) (c0' : Nat) (s : Sch) (ch : Chg) (A : Option Addr) (ca : Nat) (B : Option Addr) (cb : Nat) (S : Nat → Prop) (w : World) (hs : TabS w S A0 s.tabs) (ho : RowS w S A ch.old) (hca : ch.old.length ≤ ca) (hn : RowS w S B ch.new) (hcb : ch.new.length ≤ cb) (hS : ∀ b, S b → b < w.heap.size) :
  Calls Try.prog 78 #[sAgg s.version A0 s.tabs.length c0', chAgg ch.table A ch.old.length ca B ch.new.length cb] w (SubK S (keyC s ch) w) := by
 have hol := ho.len
 have hnl := hn.len
 have HO := Lib.hid ho
 have HN := Lib.hid hn
 have HCA := Lib.hid hca
 have HCB := Lib.hid hcb
 have HS := Lib.hid hs
 have HK := Lib.hid (show keyC s ch = if 0 < ch.old.length then keyF s ch.table ch.old else keyF s ch.table ch.new from rfl)
 clear ho hn hca hcb hs
 have HB0 := Lib.hid (((Below.refl w.heap.size w).alloc (Nat.le_refl _) (.cells #[.int .i64 s.version, .slice A0 s.tabs.length c0'] 25)).alloc (by simp) (.cells #[.int .i64 ch.table, .slice A ch.old.length ca, .slice B ch.new.length cb] 53))
 by_cases h0 : 0 < ch.old.length
 · have hd : decide (0 < ch.old.length) = true := by simpa using h0
   rw [if_pos h0] at HK
   clear h0
   go_enter Try.func78, Try.ntmps78
   go_wp2_with fail
   refine (prefix_any A0 c0' s ch.table A ca ch.old S _ (HS.out.keep (Same.of_below HB0.out hS)) (HO.out.keep (Same.of_below HB0.out hS)) HCA.out (fun b hb => by have := hS b hb; simp; omega)).mono ?_
   rintro e w1 ⟨A', c', rfl, hA', hb1⟩
   have HB1 := Lib.hid (HB0.out.trans (hb1.mono (by simp; omega)))
   have HA := Lib.hid hA'
   clear hb1 hA'
   go_wp2_with fail
   go_ret
   refine ⟨A', c', by rw [HK.out]; rfl, ?_, HB1.out⟩
   rw [HK.out]
   exact (HO.out.keep (Same.of_below HB1.out hS)).key s ch.table HA.out
 · have hd : decide (0 < ch.old.length) = false := by simpa using h0
   rw [if_neg h0] at HK
   clear h0
   go_enter Try.func78, Try.ntmps78
   go_wp2_with fail
   refine (prefix_any A0 c0' s ch.table B cb ch.new S _ (HS.out.keep (Same.of_below HB0.out hS)) (HN.out.keep (Same.of_below HB0.out hS)) HCB.out (fun b hb => by have := hS b hb; simp; omega)).mono ?_
   rintro e w1 ⟨A', c', rfl, hA', hb1⟩
   have HB1 := Lib.hid (HB0.out.trans (hb1.mono (by simp; omega)))
   have HA := Lib.hid hA'
   clear hb1 hA'
   go_wp2_with fail
   go_ret
   refine ⟨A', c', by rw [HK.out]; rfl, ?_, HB1.out⟩
   rw [HK.out]
   exact (HN.out.keep (Same.of_below HB1.out hS)).key s ch.table HA.out
set_option maxHeartbeats 4000000 in
theorem validC_any (A0 : Option Addr) (c0' : Nat) (s : Sch) (m : Int) (ch : Chg) (A : Option Addr) (ca : Nat) (B : Option Addr) (cb : Nat) (S : Nat → Prop) (w : World) (hs : TabS w S A0 s.tabs) (ho : RowS w S A ch.old) (hca : ch.old.length ≤ ca) (hn : RowS w S B ch.new) (hcb : ch.new.length ≤ cb) (hS : ∀ b, S b → b < w.heap.size) :
  Calls Try.prog 56 #[sAgg s.version A0 s.tabs.length c0', .int .i64 m, chAgg ch.table A ch.old.length ca B ch.new.length cb] w (BoolBel (validC s m ch) w) := by
 obtain ⟨t, old, new⟩ := ch
 simp only at ho hca hn hcb ⊢
 have hol := ho.len
 have hnl := hn.len
 have hsl := hs.len
 have HO := Lib.hid ho
 have HN := Lib.hid hn
 have HCA := Lib.hid hca
 have HCB := Lib.hid hcb
 have HS := Lib.hid hs
 have HK := Lib.hid (show validC s m ⟨t, old, new⟩ = (hasN s.tabs.length t && !(decide (old.length = 0) && decide (new.length = 0)) && (decide (old.length = 0) || fitsF s t old m) && (decide (new.length = 0) || fitsF s t new m) && (decide (old.length = 0) || decide (new.length = 0) || (cmpR (keyF s t old) (keyF s t new) == 0))) from rfl)
 clear ho hn hca hcb hs
 have HB0 := Lib.hid (((Below.refl w.heap.size w).alloc (Nat.le_refl _) (.cells #[.int .i64 s.version, .slice A0 s.tabs.length c0'] 25)).alloc (by simp) (.cells #[.int .i64 t, .slice A old.length ca, .slice B new.length cb] 53))
 by_cases h0 : t < 0
 · have hd0 : decide (t < 0) = true := by simpa using h0
   have HF := Lib.hid (show validC s m ⟨t, old, new⟩ = false by rw [HK.out, show hasN s.tabs.length t = false by simp [hasN]; omega]; simp)
   clear h0 HK
   go_enter Try.func56, Try.ntmps56
   go_wp2_with fail
   go_ret
   exact ⟨by rw [HF.out]; rfl, HB0.out⟩
 · have hd0 : decide (t < 0) = false := by simpa using h0
   by_cases h1 : (s.tabs.length : Int) ≤ t
   · have hd1 : decide ((s.tabs.length : Int) ≤ t) = true := by simpa using h1
     have HF := Lib.hid (show validC s m ⟨t, old, new⟩ = false by rw [HK.out, show hasN s.tabs.length t = false by simp [hasN]; omega]; simp)
     clear h0 h1 HK
     go_enter Try.func56, Try.ntmps56
     go_wp2_with fail
     go_ret
     exact ⟨by rw [HF.out]; rfl, HB0.out⟩
   · have hd1 : decide ((s.tabs.length : Int) ≤ t) = false := by simpa using h1
     have HAS := Lib.hid (show hasN s.tabs.length t = true by simp [hasN]; omega)
     clear h0 h1
     by_cases ho0 : old.length = 0
     · by_cases hn0 : new.length = 0
       · have HF := Lib.hid (show validC s m ⟨t, old, new⟩ = false by rw [HK.out]; simp [ho0, hn0])
         have hqold : ((old.length : Int) == 0) = true := by rw [ho0]; rfl
         have hqnew : ((new.length : Int) == 0) = true := by rw [hn0]; rfl
         clear ho0 hn0 HK
         go_enter Try.func56, Try.ntmps56
         go_wp2_with fail
         go_ret
         exact ⟨by rw [HF.out]; rfl, HB0.out⟩
       · skip
         have HV := Lib.hid (show validC s m ⟨t, old, new⟩ = (fitsF s t new m) by rw [HK.out, HAS.out]; simp [ho0, hn0])
         have hqold : ((old.length : Int) == 0) = true := by rw [ho0]; rfl
         have HQold := Lib.hid (show decide (0 < old.length) = false from decide_eq_false (by omega))
         have hqnew : ((new.length : Int) == 0) = false := by simpa using hn0
         have HQnew := Lib.hid (show decide (0 < new.length) = true from decide_eq_true (by omega))
         clear ho0 hn0 HK
         go_enter Try.func56, Try.ntmps56
         go_wp2_with fail
         go_loopw [37] (fun i wr => ∃ k : Nat, k ≤ 2 ∧ i = .int .i64 k ∧ (1 ≤ k → True) ∧ (2 ≤ k → fitsF s t new m = true) ∧ Below w.heap.size w wr ∧ (wr.cell? ⟨w.heap.size, 0, none⟩ = some (.int .i64 s.version) ∧ wr.cell? ⟨w.heap.size, 1, none⟩ = some (.slice A0 s.tabs.length c0') ∧ wr.cell? ⟨w.heap.size + 1, 0, none⟩ = some (.int .i64 t) ∧ wr.cell? ⟨w.heap.size + 1, 1, none⟩ = some (.slice A old.length ca) ∧ wr.cell? ⟨w.heap.size + 1, 2, none⟩ = some (.slice B new.length cb)) ∧ w.heap.size + 1 < wr.heap.size) (fun i _ => 2 - (intOf i).toNat)
         case atStart => exact ⟨0, by omega, rfl, fun h => by omega, fun h => by omega, HB0.out, ⟨by simp, by simp, by simp, by simp, by simp⟩, by simp⟩
         case round =>
          obtain ⟨k, hk, rfl, hko, hkn, hbel, ⟨x0, x1, x2, x3, x4⟩, hw1⟩ := hrel
          have HKO := Lib.hid hko
          have HKN := Lib.hid hkn
          have HB := Lib.hid hbel
          clear hko hkn hbel
          by_cases hk0 : k = 0
          · subst hk0
            have hz := HQold.out
            go_wp2_with fail
            refine put_as (v' := Value.slice A old.length ca) (by first | rfl | kernel_rfl) ?_
            go_wp2_with fail
            go_roundw
            case rel => exact ⟨1, by omega, rfl, fun _ => trivial, fun h => by omega, HB.out, ⟨x0, x1, x2, x3, x4⟩, hw1⟩
            case measure => simp [intOf]
          · skip
            by_cases hk1 : k = 1
            · subst hk1
              have hz := HQnew.out
              go_wp2_with fail
              refine put_as (v' := Value.slice B new.length cb) (by first | rfl | kernel_rfl) ?_
              go_wp2_with fail
              refine (fits_any A0 c0' s t m B cb new S _ (HS.out.keep (Same.of_below HB.out hS)) (HN.out.keep (Same.of_below HB.out hS)) (fun b hb => by have := hS b hb; omega)).mono ?_
              rintro e w4 ⟨rfl, hb4⟩
              have HB4 := Lib.hid (HB.out.trans (hb4.mono (by omega)))
              have hs4 := hb4.size
              have y0 := (hb4.cell (p := ⟨w.heap.size, 0, none⟩) (by simp; omega)).trans x0
              have y1 := (hb4.cell (p := ⟨w.heap.size, 1, none⟩) (by simp; omega)).trans x1
              have y2 := (hb4.cell (p := ⟨w.heap.size + 1, 0, none⟩) (by simp; omega)).trans x2
              have y3 := (hb4.cell (p := ⟨w.heap.size + 1, 1, none⟩) (by simp; omega)).trans x3
              have y4 := (hb4.cell (p := ⟨w.heap.size + 1, 2, none⟩) (by simp; omega)).trans x4
              clear hb4 x0 x1 x2 x3 x4
              by_cases hf : fitsF s t new m = true
              · have HF := Lib.hid hf
                rw [hf]
                clear hf
                go_wp2_with fail
                go_roundw
                case rel => exact ⟨2, by omega, rfl, fun _ => HKO.out (by omega), fun _ => HF.out, HB4.out, ⟨y0, y1, y2, y3, y4⟩, by omega⟩
                case measure => simp [intOf]
              · have hf' : fitsF s t new m = false := by simpa using hf
                have HF := Lib.hid (show validC s m ⟨t, old, new⟩ = false by rw [HV.out]; simp [hf'])
                rw [hf']
                clear hf hf'
                go_wp2_with fail
                go_ret
                exact ⟨by rw [HF.out]; rfl, HB4.out⟩
            · obtain rfl : k = 2 := by omega
              have ho2 := HKO.out (by omega)
              have hn2 := HKN.out (by omega)
              have HF := Lib.hid (show validC s m ⟨t, old, new⟩ = true by rw [HV.out, hn2])
              clear ho2 hn2 HKO HKN HV
              go_wp2_with fail
              go_quiet (fail)
              go_wp2_with fail
              go_ret
              exact ⟨by rw [HF.out]; rfl, below_drewN HB.out _⟩
     · by_cases hn0 : new.length = 0
       · skip
         have HV := Lib.hid (show validC s m ⟨t, old, new⟩ = (fitsF s t old m) by rw [HK.out, HAS.out]; simp [ho0, hn0])
         have hqold : ((old.length : Int) == 0) = false := by simpa using ho0
         have HQold := Lib.hid (show decide (0 < old.length) = true from decide_eq_true (by omega))
         have hqnew : ((new.length : Int) == 0) = true := by rw [hn0]; rfl
         have HQnew := Lib.hid (show decide (0 < new.length) = false from decide_eq_false (by omega))
         clear ho0 hn0 HK
         go_enter Try.func56, Try.ntmps56
         go_wp2_with fail
         go_loopw [37] (fun i wr => ∃ k : Nat, k ≤ 2 ∧ i = .int .i64 k ∧ (1 ≤ k → fitsF s t old m = true) ∧ (2 ≤ k → True) ∧ Below w.heap.size w wr ∧ (wr.cell? ⟨w.heap.size, 0, none⟩ = some (.int .i64 s.version) ∧ wr.cell? ⟨w.heap.size, 1, none⟩ = some (.slice A0 s.tabs.length c0') ∧ wr.cell? ⟨w.heap.size + 1, 0, none⟩ = some (.int .i64 t) ∧ wr.cell? ⟨w.heap.size + 1, 1, none⟩ = some (.slice A old.length ca) ∧ wr.cell? ⟨w.heap.size + 1, 2, none⟩ = some (.slice B new.length cb)) ∧ w.heap.size + 1 < wr.heap.size) (fun i _ => 2 - (intOf i).toNat)
         case atStart => exact ⟨0, by omega, rfl, fun h => by omega, fun h => by omega, HB0.out, ⟨by simp, by simp, by simp, by simp, by simp⟩, by simp⟩
         case round =>
          obtain ⟨k, hk, rfl, hko, hkn, hbel, ⟨x0, x1, x2, x3, x4⟩, hw1⟩ := hrel
          have HKO := Lib.hid hko
          have HKN := Lib.hid hkn
          have HB := Lib.hid hbel
          clear hko hkn hbel
          by_cases hk0 : k = 0
          · subst hk0
            have hz := HQold.out
            go_wp2_with fail
            refine put_as (v' := Value.slice A old.length ca) (by first | rfl | kernel_rfl) ?_
            go_wp2_with fail
            refine (fits_any A0 c0' s t m A ca old S _ (HS.out.keep (Same.of_below HB.out hS)) (HO.out.keep (Same.of_below HB.out hS)) (fun b hb => by have := hS b hb; omega)).mono ?_
            rintro e w4 ⟨rfl, hb4⟩
            have HB4 := Lib.hid (HB.out.trans (hb4.mono (by omega)))
            have hs4 := hb4.size
            have y0 := (hb4.cell (p := ⟨w.heap.size, 0, none⟩) (by simp; omega)).trans x0
            have y1 := (hb4.cell (p := ⟨w.heap.size, 1, none⟩) (by simp; omega)).trans x1
            have y2 := (hb4.cell (p := ⟨w.heap.size + 1, 0, none⟩) (by simp; omega)).trans x2
            have y3 := (hb4.cell (p := ⟨w.heap.size + 1, 1, none⟩) (by simp; omega)).trans x3
            have y4 := (hb4.cell (p := ⟨w.heap.size + 1, 2, none⟩) (by simp; omega)).trans x4
            clear hb4 x0 x1 x2 x3 x4
            by_cases hf : fitsF s t old m = true
            · have HF := Lib.hid hf
              rw [hf]
              clear hf
              go_wp2_with fail
              go_roundw
              case rel => exact ⟨1, by omega, rfl, fun _ => HF.out, fun h => by omega, HB4.out, ⟨y0, y1, y2, y3, y4⟩, by omega⟩
              case measure => simp [intOf]
            · have hf' : fitsF s t old m = false := by simpa using hf
              have HF := Lib.hid (show validC s m ⟨t, old, new⟩ = false by rw [HV.out]; simp [hf'])
              rw [hf']
              clear hf hf'
              go_wp2_with fail
              go_ret
              exact ⟨by rw [HF.out]; rfl, HB4.out⟩
          · skip
            by_cases hk1 : k = 1
            · subst hk1
              have hz := HQnew.out
              go_wp2_with fail
              refine put_as (v' := Value.slice B new.length cb) (by first | rfl | kernel_rfl) ?_
              go_wp2_with fail
              go_roundw
              case rel => exact ⟨2, by omega, rfl, fun _ => HKO.out (by omega), fun _ => trivial, HB.out, ⟨x0, x1, x2, x3, x4⟩, hw1⟩
              case measure => simp [intOf]
            · obtain rfl : k = 2 := by omega
              have ho2 := HKO.out (by omega)
              have hn2 := HKN.out (by omega)
              have HF := Lib.hid (show validC s m ⟨t, old, new⟩ = true by rw [HV.out, ho2])
              clear ho2 hn2 HKO HKN HV
              go_wp2_with fail
              go_quiet (fail)
              go_wp2_with fail
              go_ret
              exact ⟨by rw [HF.out]; rfl, below_drewN HB.out _⟩
       · skip
         have HV := Lib.hid (show validC s m ⟨t, old, new⟩ = (fitsF s t old m && fitsF s t new m && (cmpR (keyF s t old) (keyF s t new) == 0)) by rw [HK.out, HAS.out]; simp [ho0, hn0])
         have hqold : ((old.length : Int) == 0) = false := by simpa using ho0
         have HQold := Lib.hid (show decide (0 < old.length) = true from decide_eq_true (by omega))
         have hqnew : ((new.length : Int) == 0) = false := by simpa using hn0
         have HQnew := Lib.hid (show decide (0 < new.length) = true from decide_eq_true (by omega))
         clear ho0 hn0 HK
         go_enter Try.func56, Try.ntmps56
         go_wp2_with fail
         go_loopw [37] (fun i wr => ∃ k : Nat, k ≤ 2 ∧ i = .int .i64 k ∧ (1 ≤ k → fitsF s t old m = true) ∧ (2 ≤ k → fitsF s t new m = true) ∧ Below w.heap.size w wr ∧ (wr.cell? ⟨w.heap.size, 0, none⟩ = some (.int .i64 s.version) ∧ wr.cell? ⟨w.heap.size, 1, none⟩ = some (.slice A0 s.tabs.length c0') ∧ wr.cell? ⟨w.heap.size + 1, 0, none⟩ = some (.int .i64 t) ∧ wr.cell? ⟨w.heap.size + 1, 1, none⟩ = some (.slice A old.length ca) ∧ wr.cell? ⟨w.heap.size + 1, 2, none⟩ = some (.slice B new.length cb)) ∧ w.heap.size + 1 < wr.heap.size) (fun i _ => 2 - (intOf i).toNat)
         case atStart => exact ⟨0, by omega, rfl, fun h => by omega, fun h => by omega, HB0.out, ⟨by simp, by simp, by simp, by simp, by simp⟩, by simp⟩
         case round =>
          obtain ⟨k, hk, rfl, hko, hkn, hbel, ⟨x0, x1, x2, x3, x4⟩, hw1⟩ := hrel
          have HKO := Lib.hid hko
          have HKN := Lib.hid hkn
          have HB := Lib.hid hbel
          clear hko hkn hbel
          by_cases hk0 : k = 0
          · subst hk0
            have hz := HQold.out
            go_wp2_with fail
            refine put_as (v' := Value.slice A old.length ca) (by first | rfl | kernel_rfl) ?_
            go_wp2_with fail
            refine (fits_any A0 c0' s t m A ca old S _ (HS.out.keep (Same.of_below HB.out hS)) (HO.out.keep (Same.of_below HB.out hS)) (fun b hb => by have := hS b hb; omega)).mono ?_
            rintro e w4 ⟨rfl, hb4⟩
            have HB4 := Lib.hid (HB.out.trans (hb4.mono (by omega)))
            have hs4 := hb4.size
            have y0 := (hb4.cell (p := ⟨w.heap.size, 0, none⟩) (by simp; omega)).trans x0
            have y1 := (hb4.cell (p := ⟨w.heap.size, 1, none⟩) (by simp; omega)).trans x1
            have y2 := (hb4.cell (p := ⟨w.heap.size + 1, 0, none⟩) (by simp; omega)).trans x2
            have y3 := (hb4.cell (p := ⟨w.heap.size + 1, 1, none⟩) (by simp; omega)).trans x3
            have y4 := (hb4.cell (p := ⟨w.heap.size + 1, 2, none⟩) (by simp; omega)).trans x4
            clear hb4 x0 x1 x2 x3 x4
            by_cases hf : fitsF s t old m = true
            · have HF := Lib.hid hf
              rw [hf]
              clear hf
              go_wp2_with fail
              go_roundw
              case rel => exact ⟨1, by omega, rfl, fun _ => HF.out, fun h => by omega, HB4.out, ⟨y0, y1, y2, y3, y4⟩, by omega⟩
              case measure => simp [intOf]
            · have hf' : fitsF s t old m = false := by simpa using hf
              have HF := Lib.hid (show validC s m ⟨t, old, new⟩ = false by rw [HV.out]; simp [hf'])
              rw [hf']
              clear hf hf'
              go_wp2_with fail
              go_ret
              exact ⟨by rw [HF.out]; rfl, HB4.out⟩
          · skip
            by_cases hk1 : k = 1
            · subst hk1
              have hz := HQnew.out
              go_wp2_with fail
              refine put_as (v' := Value.slice B new.length cb) (by first | rfl | kernel_rfl) ?_
              go_wp2_with fail
              refine (fits_any A0 c0' s t m B cb new S _ (HS.out.keep (Same.of_below HB.out hS)) (HN.out.keep (Same.of_below HB.out hS)) (fun b hb => by have := hS b hb; omega)).mono ?_
              rintro e w4 ⟨rfl, hb4⟩
              have HB4 := Lib.hid (HB.out.trans (hb4.mono (by omega)))
              have hs4 := hb4.size
              have y0 := (hb4.cell (p := ⟨w.heap.size, 0, none⟩) (by simp; omega)).trans x0
              have y1 := (hb4.cell (p := ⟨w.heap.size, 1, none⟩) (by simp; omega)).trans x1
              have y2 := (hb4.cell (p := ⟨w.heap.size + 1, 0, none⟩) (by simp; omega)).trans x2
              have y3 := (hb4.cell (p := ⟨w.heap.size + 1, 1, none⟩) (by simp; omega)).trans x3
              have y4 := (hb4.cell (p := ⟨w.heap.size + 1, 2, none⟩) (by simp; omega)).trans x4
              clear hb4 x0 x1 x2 x3 x4
              by_cases hf : fitsF s t new m = true
              · have HF := Lib.hid hf
                rw [hf]
                clear hf
                go_wp2_with fail
                go_roundw
                case rel => exact ⟨2, by omega, rfl, fun _ => HKO.out (by omega), fun _ => HF.out, HB4.out, ⟨y0, y1, y2, y3, y4⟩, by omega⟩
                case measure => simp [intOf]
              · have hf' : fitsF s t new m = false := by simpa using hf
                have HF := Lib.hid (show validC s m ⟨t, old, new⟩ = false by rw [HV.out]; simp [hf'])
                rw [hf']
                clear hf hf'
                go_wp2_with fail
                go_ret
                exact ⟨by rw [HF.out]; rfl, HB4.out⟩
            · obtain rfl : k = 2 := by omega
              have ho2 := HKO.out (by omega)
              have hn2 := HKN.out (by omega)
              have HF := Lib.hid (show validC s m ⟨t, old, new⟩ = (cmpR (keyF s t old) (keyF s t new) == 0) by rw [HV.out, ho2, hn2]; simp)
              clear ho2 hn2 HKO HKN HV
              go_wp2_with fail
              have hSr : ∀ b, S b → b < wr.heap.size := fun b hb => by have := hS b hb; omega
              have HSr := Lib.hid (HS.out.keep (Same.of_below HB.out hS))
              have HOr := Lib.hid (HO.out.keep (Same.of_below HB.out hS))
              have HNr := Lib.hid (HN.out.keep (Same.of_below HB.out hS))
              go_region_held3 (fun w' => Below wr.heap.size wr w' ∧ w'.cell? ⟨w.heap.size, 0, none⟩ = some (.int .i64 s.version) ∧ w'.cell? ⟨w.heap.size, 1, none⟩ = some (.slice A0 s.tabs.length c0') ∧ w'.cell? ⟨w.heap.size + 1, 0, none⟩ = some (.int .i64 t) ∧ w'.cell? ⟨w.heap.size + 1, 1, none⟩ = some (.slice A old.length ca) ∧ w'.cell? ⟨w.heap.size + 1, 2, none⟩ = some (.slice B new.length cb))
               (first | exact ⟨(Below.refl _ _).drew, x0, x1, x2, x3, x4⟩ | exact ⟨hv3, (hv3.cell (p := ⟨w.heap.size, 0, none⟩) (by simp; omega)).trans x0, (hv3.cell (p := ⟨w.heap.size, 1, none⟩) (by simp; omega)).trans x1, (hv3.cell (p := ⟨w.heap.size + 1, 0, none⟩) (by simp; omega)).trans x2, (hv3.cell (p := ⟨w.heap.size + 1, 1, none⟩) (by simp; omega)).trans x3, (hv3.cell (p := ⟨w.heap.size + 1, 2, none⟩) (by simp; omega)).trans x4⟩ | exact ⟨hv2, (hv2.cell (p := ⟨w.heap.size, 0, none⟩) (by simp; omega)).trans x0, (hv2.cell (p := ⟨w.heap.size, 1, none⟩) (by simp; omega)).trans x1, (hv2.cell (p := ⟨w.heap.size + 1, 0, none⟩) (by simp; omega)).trans x2, (hv2.cell (p := ⟨w.heap.size + 1, 1, none⟩) (by simp; omega)).trans x3, (hv2.cell (p := ⟨w.heap.size + 1, 2, none⟩) (by simp; omega)).trans x4⟩ | exact ⟨hv1, (hv1.cell (p := ⟨w.heap.size, 0, none⟩) (by simp; omega)).trans x0, (hv1.cell (p := ⟨w.heap.size, 1, none⟩) (by simp; omega)).trans x1, (hv1.cell (p := ⟨w.heap.size + 1, 0, none⟩) (by simp; omega)).trans x2, (hv1.cell (p := ⟨w.heap.size + 1, 1, none⟩) (by simp; omega)).trans x3, (hv1.cell (p := ⟨w.heap.size + 1, 2, none⟩) (by simp; omega)).trans x4⟩)
               (first
                | (go_at_call 61; have hvx := hv1; clear hvx; refine (prefix_any A0 c0' s t B cb new S _ (HSr.out.keep (Same.of_below hv1 hSr)) (HNr.out.keep (Same.of_below hv1 hSr)) HCB.out (fun b hb => Nat.lt_of_lt_of_le (hSr b hb) hv1.size)).mono ?_; rintro e w6 ⟨A8, c8, rfl, h8, hv2'⟩; have hv2 : Below wr.heap.size wr w6 := hv1.trans (hv2'.mono hv1.size))
                | (go_at_call 61; refine (prefix_any A0 c0' s t A ca old S wr.drew (HSr.out.keep (fun _ _ => rfl)) (HOr.out.keep (fun _ _ => rfl)) HCA.out hSr).mono ?_; rintro e w5 ⟨A7, c7, rfl, h7, hv1'⟩; have hv1 : Below wr.heap.size wr w5 := (Below.refl _ wr).drew.trans hv1')
                | (go_at_call 77; refine (equal_any A7 A8 c7 c8 (keyF s t old) (keyF s t new) S _ ((HOr.out.keep (Same.of_below hv2 hSr)).key s t h7) ((HNr.out.keep (Same.of_below hv2 hSr)).key s t h8) (fun b hb => Nat.lt_of_lt_of_le (hSr b hb) hv2.size)).mono ?_; rintro e w7 ⟨rfl, hv3'⟩; have hv3 : Below wr.heap.size wr w7 := hv2.trans (hv3'.mono hv2.size)))
              have HB7 := Lib.hid (HB.out.trans (hv3.mono (by omega)))
              clear hv1 hv2 hv3 hv1' hv2' hv3' h7 h8 x0 x1 x2 x3 x4
              go_wp2_with fail
              go_ret
              exact ⟨by rw [HF.out]; rfl, HB7.out⟩
end Go.Proofs.Ytkpjjfhfbpfjpaa

