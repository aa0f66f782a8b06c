/- Contract: schema.Check, over that of predicate.Check. -/
import Derived.Test.YtkpjjfhfbpfjpaaTabF
namespace Go.Proofs.Ytkpjjfhfbpfjpaa
open Go.RowKit
set_option linter.unusedVariables false

/-- What predicate.Check says of a predicate over columns alone. -/
def PredCalls (pc : List Int → Pred → Int) (ks : List Int) (p : Pred) : Prop :=
  ∀ (K : Option Addr) (ck : Nat) (op cmp : Int) (l r : Opd) (args : List Pred) (A : Option Addr) (c : Nat) (S : Nat → Prop) (w : World), p = .mk op cmp l r args → IntS w S K ks → PredS w S A args → (∀ b, S b → b < w.heap.size) → args.length ≤ c → l.value.t.size ≤ 9223372036854775807 → r.value.t.size ≤ 9223372036854775807 →
    Calls Try.prog 112 #[.slice K ks.length ck, .slice none 0 0, pAgg op cmp l r A args.length c] w (IntBel (pc ks p) w)
theorem kindsF_at (s : Sch) (k : Nat) (h : k < s.tabs.length) : kindsF s k = (s.tabs.getD k t0).cols.map (·.kind) := by
  unfold kindsF
  rw [if_pos (by simp [hasN]; omega)]
  rfl
theorem tab_mem {l : List Tab} {k : Nat} (h : k < l.length) : l.getD k t0 ∈ l := by simp [List.getD, h]
theorem pred_mem {l : List Pred} {k : Nat} (h : k < l.length) : l.getD k p0 ∈ l := by simp [List.getD, h]

set_option maxRecDepth 100000 in
set_option maxHeartbeats 4000000 in
theorem schCheck_any (pc : List Int → Pred → Int) (A0 : Option Addr) (c0' : Nat) (s : Sch) (S : Nat → Prop) (w : World) (hs : TabS w S A0 s.tabs) (hS : ∀ b, S b → b < w.heap.size) (hpc : ∀ t ∈ s.tabs, ∀ p ∈ t.checks, PredCalls pc (t.cols.map (·.kind)) p) :
    Calls Try.prog 90 #[sAgg s.version A0 s.tabs.length c0'] w (IntBel (schF pc s) w) := by
  obtain ⟨ver, tabs⟩ := s
  simp only at hs hpc ⊢
  have hsl := hs.len
  have HS := Lib.hid hs
  have HPC := Lib.hid hpc
  clear hs hpc
  have HB0 := Lib.hid ((Below.refl w.heap.size w).alloc (Nat.le_refl _) (.cells #[.int .i64 ver, .slice A0 tabs.length c0'] 25))
  by_cases h8 : 8 < tabs.length
  · have HF := Lib.hid (show schF pc ⟨ver, tabs⟩ = 2 by unfold schF; rw [if_pos h8])
    go_enter Try.func90, Try.ntmps90
    go_wp2_with fail
    go_ret
    exact ⟨by rw [HF.out]; rfl, HB0.out⟩
  · go_enter Try.func90, Try.ntmps90
    go_wp2_with fail
    go_loopw [18] (fun i wr => ∃ k : Nat, k ≤ tabs.length ∧ i = .int .i64 k ∧ (tabs.take k).any bigT = false ∧ Below w.heap.size w wr ∧ wr.cell? ⟨w.heap.size, 0, none⟩ = some (.int .i64 ver) ∧ wr.cell? ⟨w.heap.size, 1, none⟩ = some (.slice A0 tabs.length c0') ∧ w.heap.size < wr.heap.size) (fun i _ => tabs.length - (intOf i).toNat)
    case atStart => exact ⟨0, Nat.zero_le _, rfl, by simp, HB0.out, by simp, by simp, by simp⟩
    case round =>
      obtain ⟨k, hk, rfl, hbig, hbel, x0, x1, hw1⟩ := hrel
      have HT := Lib.hid hbig
      have HB := Lib.hid hbel
      clear hbig hbel
      by_cases hkl : k < tabs.length
      · obtain ⟨b2, o2, rfl, hb2, A1, A2, A3, c1, c2, c3, hta⟩ := (HS.out.keep (Same.of_below HB.out hS)).at_ hkl
        obtain ⟨k1, k2, k3, k4, k5, cS, rS, pS, -, -, -, -⟩ := hta
        have hcl := cS.len
        have hrl := rS.len
        have hpl := pS.len
        have hl2 : b2 < w.heap.size := hS b2 hb2
        have HSTEP := Lib.hid (big_take tabs k hkl)
        have HBT := Lib.hid (big_true tabs k hkl)
        have HBA := Lib.hid (HB.out.alloc (by omega) (.cells #[.string (tabs.getD k t0).name, .slice A1 (tabs.getD k t0).cols.length c1, .int .i64 (tabs.getD k t0).key, .slice A2 (tabs.getD k t0).refs.length c2, .slice A3 (tabs.getD k t0).checks.length c3] 39))
        clear cS rS pS
        generalize tabs.getD k t0 = tb at k1 k2 k3 k4 k5 HSTEP HBT hcl hrl hpl HBA
        obtain ⟨tn, tc, tk, tr, tp⟩ := tb
        simp only at k1 k2 k3 k4 k5 hcl hrl hpl HBA
        by_cases hc8 : 8 < tc.length
        · have hd1 : decide (8 < (tc.length : Int)) = true := by simp; omega
          have HF := Lib.hid (show schF pc ⟨ver, tabs⟩ = 2 by unfold schF; rw [if_neg h8, if_pos (HBT.out (by simp [bigT, hc8]))])
          go_wp2_with fail
          go_ret
          exact ⟨by rw [HF.out]; rfl, HBA.out⟩
        · have hd1 : decide (8 < (tc.length : Int)) = false := by simp; omega
          by_cases hr4 : 4 < tr.length
          · have hd2 : decide (4 < (tr.length : Int)) = true := by simp; omega
            have HF := Lib.hid (show schF pc ⟨ver, tabs⟩ = 2 by unfold schF; rw [if_neg h8, if_pos (HBT.out (by simp [bigT, hr4]))])
            go_wp2_with fail
            go_ret
            exact ⟨by rw [HF.out]; rfl, HBA.out⟩
          · have hd2 : decide (4 < (tr.length : Int)) = false := by simp; omega
            by_cases hp4 : 4 < tp.length
            · have hd3 : decide (4 < (tp.length : Int)) = true := by simp; omega
              have HF := Lib.hid (show schF pc ⟨ver, tabs⟩ = 2 by unfold schF; rw [if_neg h8, if_pos (HBT.out (by simp [bigT, hp4]))])
              go_wp2_with fail
              go_ret
              exact ⟨by rw [HF.out]; rfl, HBA.out⟩
            · have hd3 : decide (4 < (tp.length : Int)) = false := by simp; omega
              go_wp2_with fail
              go_roundw
              case rel => exact ⟨k + 1, by omega, by go_num, by rw [HSTEP.out, HT.out]; simp [bigT]; omega, HBA.out, by rw [World.cell?_of_block (Below.heap_alloc _ _ _ hw1)]; exact x0, by rw [World.cell?_of_block (Below.heap_alloc _ _ _ hw1)]; exact x1, by simp; omega⟩
              case measure => simp [intOf]; omega
      · have HNB := Lib.hid (show tabs.any bigT = false by have := HT.out; rwa [List.take_of_length_le (by omega)] at this)
        have HC8 := Lib.hid (show ∀ t ∈ tabs, t.cols.length ≤ 8 by
          intro t ht
          have := List.any_eq_false.1 HNB.out t ht
          simp [bigT] at this
          omega)
        have HSCH := Lib.hid (show schF pc ⟨ver, tabs⟩ = if ver < 0 ∨ 1000 < ver ∨ namedFrom [] tabs = false ∨ referFrom tabs tabs = false then 70 else chkT pc tabs by unfold schF; rw [if_neg h8, if_neg (by rw [HNB.out]; simp)])
        clear HT
        by_cases hv0 : ver < 0
        · have hd1 : decide (ver < 0) = true := by simp [hv0]
          have HF := Lib.hid (show schF pc ⟨ver, tabs⟩ = 70 by rw [HSCH.out, if_pos (.inl hv0)])
          go_wp2_with fail
          go_ret
          exact ⟨by rw [HF.out]; rfl, HB.out⟩
        · have hd1 : decide (ver < 0) = false := by simpa using hv0
          by_cases hv1 : 1000 < ver
          · have hd2 : decide (1000 < ver) = true := by simp [hv1]
            have HF := Lib.hid (show schF pc ⟨ver, tabs⟩ = 70 by rw [HSCH.out, if_pos (.inr (.inl hv1))])
            go_wp2_with fail
            go_ret
            exact ⟨by rw [HF.out]; rfl, HB.out⟩
          · have hd2 : decide (1000 < ver) = false := by simpa using hv1
            go_wp2_with fail
            refine (named_any A0 c0' ⟨ver, tabs⟩ S _ (HS.out.keep (Same.of_below HB.out hS)) (fun b hb => by have := hS b hb; omega) (by simp only; omega) HC8.out).mono ?_
            rintro e w1 ⟨rfl, hb1⟩
            have HB1 := Lib.hid (HB.out.trans (hb1.mono (by omega)))
            have y0 : w1.cell? ⟨w.heap.size, 0, none⟩ = some (.int .i64 ver) := (hb1.cell (p := ⟨w.heap.size, 0, none⟩) hw1).trans x0
            have y1 : w1.cell? ⟨w.heap.size, 1, none⟩ = some (.slice A0 tabs.length c0') := (hb1.cell (p := ⟨w.heap.size, 1, none⟩) hw1).trans x1
            have hw2 : w.heap.size < w1.heap.size := by have := hb1.size; omega
            simp only
            clear hb1 x0 x1 HB hw1
            by_cases hn : namedFrom [] tabs = true
            · have HKC := Lib.hid (named_key tabs [] hn)
              have HN := Lib.hid hn
              rw [hn]
              clear hn
              go_wp2_with fail
              refine (referring_any A0 c0' ⟨ver, tabs⟩ S _ (HS.out.keep (Same.of_below HB1.out hS)) (fun b hb => by have := hS b hb; omega) HKC.out).mono ?_
              rintro e w2 ⟨rfl, hb2⟩
              have HB2 := Lib.hid (HB1.out.trans (hb2.mono (by omega)))
              have z0 : w2.cell? ⟨w.heap.size, 0, none⟩ = some (.int .i64 ver) := (hb2.cell (p := ⟨w.heap.size, 0, none⟩) hw2).trans y0
              have z1 : w2.cell? ⟨w.heap.size, 1, none⟩ = some (.slice A0 tabs.length c0') := (hb2.cell (p := ⟨w.heap.size, 1, none⟩) hw2).trans y1
              have hw3 : w.heap.size < w2.heap.size := by have := hb2.size; omega
              simp only
              clear hb2 y0 y1 HB1 hw2
              by_cases hr : referFrom tabs tabs = true
              · have HFF := Lib.hid (show schF pc ⟨ver, tabs⟩ = chkT pc tabs by rw [HSCH.out, if_neg (by rw [HN.out, hr]; simp; omega)])
                rw [hr]
                clear hr
                go_wp2_with fail
                go_loopw [60] (fun i wr => ∃ k : Nat, k ≤ tabs.length ∧ i = .int .i64 k ∧ chkT pc tabs = chkT pc (tabs.drop k) ∧ Below w.heap.size w wr ∧ wr.cell? ⟨w.heap.size, 0, none⟩ = some (.int .i64 ver) ∧ wr.cell? ⟨w.heap.size, 1, none⟩ = some (.slice A0 tabs.length c0') ∧ w.heap.size < wr.heap.size) (fun i _ => tabs.length - (intOf i).toNat)
                case atStart => exact ⟨0, Nat.zero_le _, rfl, by simp, HB2.out, z0, z1, hw3⟩
                case round =>
                  clear HB2 z0 z1 hw3
                  obtain ⟨k, hk, rfl, hch, hbel, x0, x1, hw1⟩ := hrel
                  have HT := Lib.hid hch
                  have HB := Lib.hid hbel
                  clear hch hbel
                  by_cases hkl : k < tabs.length
                  · obtain ⟨b2, o2, rfl, hb2, A1, A2, A3, c1, c2, c3, hta⟩ := (HS.out.keep (Same.of_below HB.out hS)).at_ hkl
                    obtain ⟨k1, k2, k3, k4, k5, cS, rS, pS, -, -, -, -⟩ := hta
                    have hpl := pS.len
                    have HPS := Lib.hid pS
                    have hl2 : b2 < w.heap.size := hS b2 hb2
                    have HSTEP := Lib.hid (chkT_drop pc tabs k hkl)
                    have HKE := Lib.hid (kindsF_at ⟨ver, tabs⟩ k hkl)
                    have HPK := Lib.hid (HPC.out _ (tab_mem hkl))
                    have HBA := Lib.hid (HB.out.alloc (by omega) (.cells #[.string (tabs.getD k t0).name, .slice A1 (tabs.getD k t0).cols.length c1, .int .i64 (tabs.getD k t0).key, .slice A2 (tabs.getD k t0).refs.length c2, .slice A3 (tabs.getD k t0).checks.length c3] 39))
                    clear cS rS pS
                    simp only at HKE
                    generalize tabs.getD k t0 = tb at k1 k2 k3 k4 k5 HSTEP HPS HKE HPK hpl HBA
                    obtain ⟨tn, tc, tk, tr, tp⟩ := tb
                    simp only at k1 k2 k3 k4 k5 hpl HBA HPS HKE HPK HSTEP
                    go_wp2_with fail
                    refine (kinds_any _ c0' ⟨ver, tabs⟩ k S _ (HS.out.keep (Same.of_below HBA.out hS)) (fun b hb => by have := hS b hb; simp; omega)).mono ?_
                    rintro e w3 ⟨K, ck, rfl, hIS, hck, -, hb3⟩
                    rw [HKE.out] at hIS hck ⊢
                    have HB3 := Lib.hid (HBA.out.trans (hb3.mono (by simp; omega)))
                    have y0 : w3.cell? ⟨w.heap.size, 0, none⟩ = some (.int .i64 ver) := (hb3.cell (p := ⟨w.heap.size, 0, none⟩) (by simp; omega)).trans ((World.cell?_of_block (Below.heap_alloc _ _ _ hw1)).trans x0)
                    have y1 : w3.cell? ⟨w.heap.size, 1, none⟩ = some (.slice (some ⟨b2, o2, none⟩) tabs.length c0') := (hb3.cell (p := ⟨w.heap.size, 1, none⟩) (by simp; omega)).trans ((World.cell?_of_block (Below.heap_alloc _ _ _ hw1)).trans x1)
                    have y2 : w3.cell? ⟨wr.heap.size, 4, none⟩ = some (.slice A3 tp.length c3) := (hb3.cell (p := ⟨wr.heap.size, 4, none⟩) (by simp)).trans (by simp)
                    have hw2 : w.heap.size < w3.heap.size := by have := hb3.size; simp at this; omega
                    have hw4 : wr.heap.size < w3.heap.size := by have := hb3.size; simp at this; omega
                    have HIS := Lib.hid hIS
                    have hksl := hIS.len
                    generalize tc.map (·.kind) = ks at HIS HSTEP HPK hck hksl
                    clear hb3 x0 x1 hIS
                    go_wp2_with fail
                    go_loopw [71] (fun i wq => ∃ j : Nat, j ≤ tp.length ∧ i = .int .i64 j ∧ chkL pc ks tp = chkL pc ks (tp.drop j) ∧ Below w3.heap.size w3 wq) (fun i _ => tp.length - (intOf i).toNat)
                    case atStart => exact ⟨0, Nat.zero_le _, rfl, by simp, Below.refl _ _⟩
                    case round =>
                      obtain ⟨j, hj, rfl, hch, hbq⟩ := hrel
                      have HT2 := Lib.hid hch
                      have HBQ := Lib.hid hbq
                      have hsq := hbq.size
                      have HBW := Lib.hid (HB3.out.trans (hbq.mono (by omega)))
                      clear hch hbq
                      by_cases hjl : j < tp.length
                      · obtain ⟨b5, o5, rfl, hb5, op', cmp', lf, rt, args', A', c', hpe, hpa⟩ := (HPS.out.keep (fun b hb => (HBW.out.block b (hS b hb)).trans (HB.out.block b (hS b hb)).symm)).at_ hjl
                        have HSTEP2 := Lib.hid (chkL_drop pc ks tp j hjl)
                        have HPM := Lib.hid (HPK.out _ (pred_mem hjl))
                        rw [hpe] at HSTEP2 HPM
                        have f1 := hpa.fop
                        have f2 := hpa.fcmp
                        have f3 := hpa.lk
                        have f4 := hpa.li
                        have f6 := hpa.lvk
                        have f7 := hpa.lvi
                        have f8 := hpa.lvt
                        have f9 := hpa.rk
                        have f10 := hpa.ri
                        have f11 := hpa.rvk
                        have f12 := hpa.rvi
                        have f13 := hpa.rvt
                        have f5 := hpa.fargs
                        have HPA := Lib.hid hpa
                        have hl5 : b5 < wr.heap.size := by have := hS b5 hb5; omega
                        clear hpa hpe
                        go_wp2_with fail
                        refine (HPM.out K ck op' cmp' lf rt args' A' c' (fun b => b < w3.heap.size) _ rfl ((HIS.out.more (fun b hb => hb.2)).keep (Same.of_below (HBQ.out.alloc (by omega) _) (fun b hb => hb))) ((HPA.out.pS.more (fun b hb => by have := hS b hb; omega)).keep (fun b hb => Below.heap_alloc _ _ _ (by omega))) (fun b hb => by simp; omega) HPA.out.pc HPA.out.lt HPA.out.rt).mono ?_
                        rintro e w4 ⟨rfl, hb4⟩
                        have HB4 := Lib.hid ((HBQ.out.alloc (by omega) _).trans (hb4.mono (by simp; omega)))
                        clear hb4
                        by_cases he : pc ks (.mk op' cmp' lf rt args') = 0
                        · rw [he] at HSTEP2 ⊢
                          clear he
                          go_wp2_with fail
                          go_roundw
                          case rel => exact ⟨j + 1, by omega, by go_num, by rw [HT2.out, HSTEP2.out]; rfl, HB4.out⟩
                          case measure => simp [intOf]; omega
                        · have HL := Lib.hid (show chkL pc ks tp = pc ks (.mk op' cmp' lf rt args') by rw [HT2.out, HSTEP2.out, if_pos he])
                          have HTT := Lib.hid (show chkT pc tabs = pc ks (.mk op' cmp' lf rt args') by rw [HT.out, HSTEP.out, HL.out, if_pos he])
                          have hd : (pc ks (.mk op' cmp' lf rt args') != 0) = true := by simp [he]
                          clear HL HSTEP2
                          generalize pc ks (.mk op' cmp' lf rt args') = er at hd HTT he
                          clear he
                          go_wp2_with fail
                          go_ret
                          exact ⟨by rw [HFF.out, HTT.out]; rfl, HB3.out.trans (HB4.out.mono (by omega))⟩
                      · have HE := Lib.hid (show chkL pc ks tp = 0 by rw [HT2.out, show j = tp.length by omega, List.drop_length]; rfl)
                        have y0' : wr.cell? ⟨w.heap.size, 0, none⟩ = some (.int .i64 ver) := (HBQ.out.cell (p := ⟨w.heap.size, 0, none⟩) hw2).trans y0
                        have y1' : wr.cell? ⟨w.heap.size, 1, none⟩ = some (.slice (some ⟨b2, o2, none⟩) tabs.length c0') := (HBQ.out.cell (p := ⟨w.heap.size, 1, none⟩) hw2).trans y1
                        go_wp2_with fail
                        go_roundw
                        case rel => exact ⟨k + 1, by omega, by go_num, by rw [HT.out, HSTEP.out, HE.out]; rfl, HBW.out, y0', y1', by omega⟩
                        case measure => simp [intOf]; omega
                  · have HE := Lib.hid (show chkT pc tabs = 0 by rw [HT.out, show k = tabs.length by omega, List.drop_length]; rfl)
                    go_wp2_with fail
                    go_ret
                    exact ⟨by rw [HFF.out, HE.out]; rfl, HB.out⟩
              · have hr' : referFrom tabs tabs = false := by simpa using hr
                have HF := Lib.hid (show schF pc ⟨ver, tabs⟩ = 70 by rw [HSCH.out, if_pos (.inr (.inr (.inr hr')))])
                rw [hr']
                clear hr hr'
                go_wp2_with fail
                go_ret
                exact ⟨by rw [HF.out]; rfl, HB2.out⟩
            · have hn' : namedFrom [] tabs = false := by simpa using hn
              have HF := Lib.hid (show schF pc ⟨ver, tabs⟩ = 70 by rw [HSCH.out, if_pos (.inr (.inr (.inl hn')))])
              rw [hn']
              clear hn hn'
              go_wp2_with fail
              go_ret
              exact ⟨by rw [HF.out]; rfl, HB1.out⟩
end Go.Proofs.Ytkpjjfhfbpfjpaa
