/- Contract: schema.named. -/
import Derived.Test.YtkpjjfhfbpfjpaaName
namespace Go.Proofs.Ytkpjjfhfbpfjpaa
open Go.RowKit
set_option linter.unusedVariables false

def colKind (k : Int) : Bool := decide (k = 3) || decide (k = 4) || decide (k = 5)
def colsFrom (seen : List ByteArray) : List Col → Bool
  | [] => true
  | c :: r => nameF c.name && !inS seen c.name && colKind c.kind && colsFrom (c.name :: seen) r
def namedFrom (seen : List ByteArray) : List Tab → Bool
  | [] => true
  | t :: r => nameF t.name && !inS seen t.name && decide (1 ≤ t.key) && decide (t.key ≤ t.cols.length) && colsFrom [] t.cols && namedFrom (t.name :: seen) r
theorem colsFrom_drop (seen : List ByteArray) (l : List Col) (k : Nat) (h : k < l.length) : colsFrom seen (l.drop k) = (nameF (l.getD k c0).name && !inS seen (l.getD k c0).name && colKind (l.getD k c0).kind && colsFrom ((l.getD k c0).name :: seen) (l.drop (k + 1))) := by
  rw [List.drop_eq_getElem_cons h]
  have e1 : l.getD k c0 = l[k] := by simp [List.getD, h]
  rw [e1]
  rfl
theorem namedFrom_drop (seen : List ByteArray) (l : List Tab) (k : Nat) (h : k < l.length) : namedFrom seen (l.drop k) = (nameF (l.getD k t0).name && !inS seen (l.getD k t0).name && decide (1 ≤ (l.getD k t0).key) && decide ((l.getD k t0).key ≤ (l.getD k t0).cols.length) && colsFrom [] (l.getD k t0).cols && namedFrom ((l.getD k t0).name :: seen) (l.drop (k + 1))) := by
  rw [List.drop_eq_getElem_cons h]
  have e1 : l.getD k t0 = l[k] := by simp [List.getD, h]
  rw [e1]
  rfl

set_option maxRecDepth 100000 in
set_option maxHeartbeats 4000000 in
theorem named_any (A0 : Option Addr) (c0' : Nat) (s : Sch) (S : Nat → Prop) (w : World) (hs : TabS w S A0 s.tabs) (hS : ∀ b, S b → b < w.heap.size) (hl8 : s.tabs.length ≤ 8) (hc8 : ∀ t ∈ s.tabs, t.cols.length ≤ 8) :
    Calls Try.prog 110 #[sAgg s.version A0 s.tabs.length c0'] w (BoolBel (namedFrom [] s.tabs) w) := by
  have HS := Lib.hid hs
  have HC8 := Lib.hid hc8
  clear hs hc8
  have hmm : ∀ w : World, (Instr.makeMap 166 none).run Try.prog w = .ok (.map (some w.heap.size)) (w.alloc (.map #[] 0)) := fun w => by
    exact run_makeMap _ w
  go_enter Try.func110, Try.ntmps110
  go_wp2_with fail
  go_loopw [13] (fun i wr => ∃ (k : Nat) (seen : List ByteArray), k ≤ s.tabs.length ∧ i = .int .i64 k ∧ namedFrom [] s.tabs = namedFrom seen (s.tabs.drop k) ∧ SetAt wr (w.heap.size + 1) k seen ∧ Below w.heap.size w wr) (fun i _ => s.tabs.length - (intOf i).toNat)
  case atStart =>
    exact ⟨0, [], Nat.zero_le _, rfl, by simp, by have := SetAt.made (w.alloc (.cells #[.int .i64 s.version, .slice A0 s.tabs.length c0'] 25)); simpa using this, ((Below.refl _ _).alloc (Nat.le_refl _) _).alloc (by simp) _⟩
  case round =>
    obtain ⟨k, seen, hk, rfl, hnf, hset, hbel⟩ := hrel
    have HT := Lib.hid hnf
    have HSET := Lib.hid hset
    have HB := Lib.hid hbel
    have hsz := hset.lt
    clear hnf hset hbel
    by_cases hkl : k < s.tabs.length
    · obtain ⟨b2, o2, rfl, hb2, A1, A2, A3, c1, c2, c3, hta⟩ := (HS.out.keep (Same.of_below HB.out hS)).at_ hkl
      obtain ⟨k1, k2, k3, k4, k5, cS, rS, pS, -, -, -, htx⟩ := hta
      have HCS := Lib.hid cS
      have hl2 : b2 < wr.heap.size := by have := hS b2 hb2; omega
      have HSTEP := Lib.hid (namedFrom_drop seen s.tabs k hkl)
      have hcl : (s.tabs.getD k t0).cols.length ≤ 8 := HC8.out _ (by simp [List.getD, hkl])
      clear cS rS pS
      generalize s.tabs.getD k t0 = tb at k1 k2 k3 k4 k5 HCS htx HSTEP hcl
      obtain ⟨tn, tc, tk, tr, tp⟩ := tb
      simp only at k1 k2 k3 k4 k5 HCS htx HSTEP hcl
      go_wp2_with fail
      refine (isName_any tn _ htx).mono ?_
      rintro e w2 ⟨rfl, hb3⟩
      have hz2 : wr.heap.size < w2.heap.size := by have := hb3.size; simp at this; omega
      have HB2 := Lib.hid ((HB.out.alloc (by omega) _).trans (hb3.mono (by simp; omega)))
      have HSET2 := Lib.hid ((HSET.out.alloc _).below hb3 (by simp; omega))
      have g0 : w2.cell? ⟨wr.heap.size, 0, none⟩ = some (.string tn) := (hb3.cell (p := ⟨wr.heap.size, 0, none⟩) (by simp)).trans (by simp [cell_of_row _ _ _ _ _ _ (heap_alloc_new wr _)])
      have g1 : w2.cell? ⟨wr.heap.size, 1, none⟩ = some (.slice A1 tc.length c1) := (hb3.cell (p := ⟨wr.heap.size, 1, none⟩) (by simp)).trans (by simp [cell_of_row _ _ _ _ _ _ (heap_alloc_new wr _)])
      have g2 : w2.cell? ⟨wr.heap.size, 2, none⟩ = some (.int .i64 tk) := (hb3.cell (p := ⟨wr.heap.size, 2, none⟩) (by simp)).trans (by simp [cell_of_row _ _ _ _ _ _ (heap_alloc_new wr _)])
      clear hb3 k1 k2 k3 k4 k5
      have hlk := HSET2.out.look (s := tn) htx
      by_cases hn : nameF tn = true
      · have HN := Lib.hid hn
        rw [hn]
        clear hn
        by_cases hi : inS seen tn = true
        · have HV := Lib.hid hi
          rw [hi] at hlk
          clear hi
          go_wp2_with fail
          go_ret
          exact ⟨by rw [HT.out, HSTEP.out]; simp [HV.out], HB2.out⟩
        · have HI := Lib.hid (show inS seen tn = false by simpa using hi)
          clear hi
          by_cases hk1 : 1 ≤ tk
          · by_cases hk2 : tk ≤ tc.length
            · have HSTEP2 := Lib.hid (show namedFrom [] s.tabs = (colsFrom [] tc && namedFrom (tn :: seen) (s.tabs.drop (k + 1))) by rw [HT.out, HSTEP.out, HN.out, HI.out]; simp [hk1, hk2])
              have hd1 : decide (tk < 1) = false := by simp; omega
              have hd2 : decide ((tc.length : Int) < tk) = false := by simp; omega
              rw [HI.out] at hlk
              go_wp2_with (at_mapUpdate; refine wpList_set_put _ rfl (.tmp 40) (.tmp 42) (.const (.bool true)) rfl (w.heap.size + 1) k seen tn rfl rfl rfl HSET2.out (by omega) htx ?_; intro w3 hset3 hg3; have hz3 := hg3.size; have hz3' : wr.heap.size < w3.heap.size := (by omega); have g1' : w3.cell? ⟨wr.heap.size, 1, none⟩ = some (.slice A1 tc.length c1) := (World.cell?_of_block (hg3.block wr.heap.size (by omega) (fun e => by have := Option.some.inj e; omega))).trans g1)
              have HSET3 := Lib.hid hset3
              have HB3 := Lib.hid (HB2.out.grown hg3 (by omega) (fun b hb => by have := Option.some.inj hb; omega))
              clear hset3 hg3 g0 g1 g2 hlk
              go_loopw [47] (fun i wr => ∃ (j : Nat) (sc : List ByteArray), j ≤ tc.length ∧ i = .int .i64 j ∧ colsFrom [] tc = colsFrom sc (tc.drop j) ∧ SetAt wr (w.heap.size + 1) (k + 1) (tn :: seen) ∧ SetAt wr w3.heap.size j sc ∧ Below w.heap.size w wr) (fun i _ => tc.length - (intOf i).toNat)
              case atStart => exact ⟨0, [], Nat.zero_le _, rfl, by simp, HSET3.out.alloc _, SetAt.made w3, HB3.out.alloc (by omega) _⟩
              case round =>
                obtain ⟨j, sc, hj, rfl, hcf, hs1, hs2, hbi⟩ := hrel
                have HCT := Lib.hid hcf
                have HS1 := Lib.hid hs1
                have HS2 := Lib.hid hs2
                have HBI := Lib.hid hbi
                have hzi := hs2.lt
                clear hcf hs1 hs2 hbi g1'
                by_cases hjl : j < tc.length
                · have HCOL := Lib.hid (HCS.out.keep (fun b hb => (HBI.out.block b (hS b hb)).trans (HB.out.block b (hS b hb)).symm))
                  obtain ⟨b4, o4, rfl, hb4, f1, f2⟩ := HCOL.out.at_ hjl
                  have hcx := HCOL.out.txt hjl
                  have hl4 : b4 < wr.heap.size := by have := hS b4 hb4; omega
                  have HCSTEP := Lib.hid (colsFrom_drop sc tc j hjl)
                  generalize tc.getD j c0 = cl at f1 f2 hcx HCSTEP
                  obtain ⟨cn, ck⟩ := cl
                  simp only at f1 f2 hcx HCSTEP
                  go_wp2_with fail
                  refine (isName_any cn _ hcx).mono ?_
                  rintro e w4 ⟨rfl, hb5⟩
                  have hz4 : wr.heap.size < w4.heap.size := by have := hb5.size; simp at this; omega
                  have HB4 := Lib.hid ((HBI.out.alloc (by omega) _).trans (hb5.mono (by simp; omega)))
                  have HS14 := Lib.hid ((HS1.out.alloc _).below hb5 (by simp; omega))
                  have HS24 := Lib.hid ((HS2.out.alloc _).below hb5 (by simp; omega))
                  have m0 : w4.cell? ⟨wr.heap.size, 0, none⟩ = some (.string cn) := (hb5.cell (p := ⟨wr.heap.size, 0, none⟩) (by simp)).trans (by simp [cell_of_row _ _ _ _ _ _ (heap_alloc_new wr _)])
                  have m1 : w4.cell? ⟨wr.heap.size, 1, none⟩ = some (.int .i64 ck) := (hb5.cell (p := ⟨wr.heap.size, 1, none⟩) (by simp)).trans (by simp [cell_of_row _ _ _ _ _ _ (heap_alloc_new wr _)])
                  clear hb5 f1 f2
                  have hlk := HS24.out.look (s := cn) hcx
                  by_cases hcn : nameF cn = true
                  · have HCN := Lib.hid hcn
                    rw [hcn]
                    clear hcn
                    by_cases hci : inS sc cn = true
                    · have HV := Lib.hid hci
                      rw [hci] at hlk
                      clear hci
                      go_wp2_with fail
                      go_ret
                      exact ⟨by rw [HSTEP2.out, HCT.out, HCSTEP.out]; simp [HV.out], HB4.out⟩
                    · have HCI := Lib.hid (show inS sc cn = false by simpa using hci)
                      rw [HCI.out] at hlk
                      clear hci
                      by_cases h3 : ck = 3
                      · subst h3
                        go_wp2_with (at_mapUpdate; refine wpList_set_put _ rfl (.tmp 61) (.tmp 63) (.const (.bool true)) rfl w3.heap.size j sc cn rfl rfl rfl HS24.out (by omega) hcx ?_; intro w5 hset5 hg5; have hz5 := hg5.size; have m1' : w5.cell? ⟨wr.heap.size, 1, none⟩ = some (.int .i64 3) := (World.cell?_of_block (hg5.block wr.heap.size (by omega) (fun e => by have := Option.some.inj e; omega))).trans m1)
                        have HS25 := Lib.hid hset5
                        have HS15 := Lib.hid (HS14.out.kept hg5 (fun e => by have := Option.some.inj e; omega))
                        have HB5 := Lib.hid (HB4.out.grown hg5 (by omega) (fun b hb => by have := Option.some.inj hb; omega))
                        clear hset5 hg5
                        go_roundw
                        case rel => exact ⟨j + 1, cn :: sc, by omega, by go_num, by rw [HCT.out, HCSTEP.out, HCN.out, HCI.out]; simp [colKind], HS15.out, HS25.out, HB5.out⟩
                        case measure => simp [intOf]; omega
                      · have e3 : (ck != 3) = true := by simp [h3]
                        by_cases h4 : ck = 4
                        · subst h4
                          go_wp2_with (at_mapUpdate; refine wpList_set_put _ rfl (.tmp 61) (.tmp 63) (.const (.bool true)) rfl w3.heap.size j sc cn rfl rfl rfl HS24.out (by omega) hcx ?_; intro w5 hset5 hg5; have hz5 := hg5.size; have m1' : w5.cell? ⟨wr.heap.size, 1, none⟩ = some (.int .i64 4) := (World.cell?_of_block (hg5.block wr.heap.size (by omega) (fun e => by have := Option.some.inj e; omega))).trans m1)
                          have HS25 := Lib.hid hset5
                          have HS15 := Lib.hid (HS14.out.kept hg5 (fun e => by have := Option.some.inj e; omega))
                          have HB5 := Lib.hid (HB4.out.grown hg5 (by omega) (fun b hb => by have := Option.some.inj hb; omega))
                          clear hset5 hg5
                          go_roundw
                          case rel => exact ⟨j + 1, cn :: sc, by omega, by go_num, by rw [HCT.out, HCSTEP.out, HCN.out, HCI.out]; simp [colKind], HS15.out, HS25.out, HB5.out⟩
                          case measure => simp [intOf]; omega
                        · have e4 : (ck != 4) = true := by simp [h4]
                          by_cases h5 : ck = 5
                          · subst h5
                            go_wp2_with (at_mapUpdate; refine wpList_set_put _ rfl (.tmp 61) (.tmp 63) (.const (.bool true)) rfl w3.heap.size j sc cn rfl rfl rfl HS24.out (by omega) hcx ?_; intro w5 hset5 hg5; have hz5 := hg5.size; have m1' : w5.cell? ⟨wr.heap.size, 1, none⟩ = some (.int .i64 5) := (World.cell?_of_block (hg5.block wr.heap.size (by omega) (fun e => by have := Option.some.inj e; omega))).trans m1)
                            have HS25 := Lib.hid hset5
                            have HS15 := Lib.hid (HS14.out.kept hg5 (fun e => by have := Option.some.inj e; omega))
                            have HB5 := Lib.hid (HB4.out.grown hg5 (by omega) (fun b hb => by have := Option.some.inj hb; omega))
                            clear hset5 hg5
                            go_roundw
                            case rel => exact ⟨j + 1, cn :: sc, by omega, by go_num, by rw [HCT.out, HCSTEP.out, HCN.out, HCI.out]; simp [colKind], HS15.out, HS25.out, HB5.out⟩
                            case measure => simp [intOf]; omega
                          · have e5 : (ck != 5) = true := by simp [h5]
                            have HV := Lib.hid (show colKind ck = false by simp [colKind, h3, h4, h5])
                            go_wp2_with (at_mapUpdate; refine wpList_set_put _ rfl (.tmp 61) (.tmp 63) (.const (.bool true)) rfl w3.heap.size j sc cn rfl rfl rfl HS24.out (by omega) hcx ?_; intro w5 hset5 hg5; have hz5 := hg5.size; have m1' : w5.cell? ⟨wr.heap.size, 1, none⟩ = some (.int .i64 ck) := (World.cell?_of_block (hg5.block wr.heap.size (by omega) (fun e => by have := Option.some.inj e; omega))).trans m1)
                            have HS25 := Lib.hid hset5
                            have HS15 := Lib.hid (HS14.out.kept hg5 (fun e => by have := Option.some.inj e; omega))
                            have HB5 := Lib.hid (HB4.out.grown hg5 (by omega) (fun b hb => by have := Option.some.inj hb; omega))
                            clear hset5 hg5
                            go_ret
                            exact ⟨by rw [HSTEP2.out, HCT.out, HCSTEP.out]; simp [HV.out], HB5.out⟩
                  · have HV := Lib.hid (show nameF cn = false by simpa using hcn)
                    rw [HV.out]
                    clear hcn
                    go_wp2_with fail
                    go_ret
                    exact ⟨by rw [HSTEP2.out, HCT.out, HCSTEP.out]; simp [HV.out], HB4.out⟩
                · have HJE := Lib.hid (show colsFrom [] tc = true by rw [HCT.out, show j = tc.length by omega, List.drop_length]; rfl)
                  go_wp2_with fail
                  go_roundw
                  case rel => exact ⟨k + 1, tn :: seen, by omega, by go_num, by rw [HSTEP2.out, HJE.out]; rfl, HS1.out, HBI.out⟩
                  case measure => simp [intOf]; omega
            · have HV := Lib.hid (show decide (tk ≤ (tc.length : Int)) = false by simpa using hk2)
              rw [HI.out] at hlk
              have hd1 : decide (tk < 1) = false := by simp; omega
              have hd2 : decide ((tc.length : Int) < tk) = true := by simp; omega
              go_wp2_with fail
              go_ret
              exact ⟨by rw [HT.out, HSTEP.out]; simp [HV.out], HB2.out⟩
          · have HV := Lib.hid (show decide (1 ≤ tk) = false by simpa using hk1)
            rw [HI.out] at hlk
            have hd1 : decide (tk < 1) = true := by simp; omega
            go_wp2_with fail
            go_ret
            exact ⟨by rw [HT.out, HSTEP.out]; simp [HV.out], HB2.out⟩
      · have HV := Lib.hid (show nameF tn = false by simpa using hn)
        rw [HV.out]
        clear hn
        go_wp2_with fail
        go_ret
        exact ⟨by rw [HT.out, HSTEP.out]; simp [HV.out], HB2.out⟩
    · have HKE := Lib.hid (show k = s.tabs.length by omega)
      go_wp2_with fail
      go_ret
      exact ⟨by rw [HT.out, HKE.out, List.drop_length]; rfl, HB.out⟩
end Go.Proofs.Ytkpjjfhfbpfjpaa
