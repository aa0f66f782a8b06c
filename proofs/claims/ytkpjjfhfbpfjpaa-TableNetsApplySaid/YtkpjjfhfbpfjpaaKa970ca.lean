import Derived.Test.YtkpjjfhfbpfjpaaKeabd81
import Derived.Test.YtkpjjfhfbpfjpaaK194535
set_option linter.unusedVariables false
set_option linter.unusedSimpArgs false
set_option maxRecDepth 100000
namespace Go.Proofs.Ytkpjjfhfbpfjpaa
open Go.RowKit
def colKind (k : Int) : Bool := decide (k = 3) || decide (k = 4) || decide (k = 5)
def colsFrom (seen : List ByteArray) : List Col → Bool
 | [] => true
 | c :: r => nameF c.name && !inS seen c.name && colKind c.kind && colsFrom (c.name :: seen) r
def namedFrom (seen : List ByteArray) : List Tab → Bool
 | [] => true
 | t :: r => nameF t.name && !inS seen t.name && decide (1 ≤ t.key) && decide (t.key ≤ t.cols.length) && colsFrom [] t.cols && namedFrom (t.name :: seen) r
theorem colsFrom_drop (seen : List ByteArray) (l : List Col) (k : Nat) (h : k < l.length) : colsFrom seen (l.drop k) = (nameF (l.getD k c0).name && !inS seen (l.getD k c0).name && colKind (l.getD k c0).kind && colsFrom ((l.getD k c0).name :: seen) (l.drop (k + 1))) := by
 rw [List.drop_eq_getElem_cons h]
 have e1 : l.getD k c0 = l[k] := by simp [List.getD, h]
 rw [e1]
 rfl
theorem namedFrom_drop (seen : List ByteArray) (l : List Tab) (k : Nat) (h : k < l.length) : namedFrom seen (l.drop k) = (nameF (l.getD k t0).name && !inS seen (l.getD k t0).name && decide (1 ≤ (l.getD k t0).key) && decide ((l.getD k t0).key ≤ (l.getD k t0).cols.length) && colsFrom [] (l.getD k t0).cols && namedFrom ((l.getD k t0).name :: seen) (l.drop (k + 1))) := by
 rw [List.drop_eq_getElem_cons h]
 have e1 : l.getD k t0 = l[k] := by simp [List.getD, h]
 rw [e1]
 rfl
set_option maxHeartbeats 4000000 in
theorem named_any (A0 : Option Addr) (c0' : Nat) (s : Sch) (S : Nat → Prop) (w : World) (hs : TabS w S A0 s.tabs) (hS : ∀ b, S b → b < w.heap.size) (hl8 : s.tabs.length ≤ 8) (hc8 : ∀ t ∈ s.tabs, t.cols.length ≤ 8) :
  Calls Try.prog 110 #[sAgg s.version A0 s.tabs.length c0'] w (BoolBel (namedFrom [] s.tabs) w) := by
 have HS := Lib.hid hs
 have HC8 := Lib.hid hc8
 clear hs hc8
 have hmm : ∀ w : World, (Instr.makeMap 166 none).run Try.prog w = .ok (.map (some w.heap.size)) (w.alloc (.map #[] 0)) := fun w => by
  exact run_makeMap _ w
 go_enter Try.func110, Try.ntmps110
 go_wp2_with fail
 go_loopw [13] (fun i wr => ∃ (k : Nat) (seen : List ByteArray), k ≤ s.tabs.length ∧ i = .int .i64 k ∧ namedFrom [] s.tabs = namedFrom seen (s.tabs.drop k) ∧ SetAt wr (w.heap.size + 1) k seen ∧ Below w.heap.size w wr) (fun i _ => s.tabs.length - (intOf i).toNat)
 case atStart =>
  exact ⟨0, [], Nat.zero_le _, rfl, by simp, by have := SetAt.made (w.alloc (.cells #[.int .i64 s.version, .slice A0 s.tabs.length c0'] 25)); simpa using this, ((Below.refl _ _).alloc (Nat.le_refl _) _).alloc (by simp) _⟩
 case round =>
  obtain ⟨k, seen, hk, rfl, hnf, hset, hbel⟩ := hrel
  have HT := Lib.hid hnf
  have HSET := Lib.hid hset
  have HB := Lib.hid hbel
  have hsz := hset.lt
  clear hnf hset hbel
  by_cases hkl : k < s.tabs.length
  · obtain ⟨b2, o2, rfl, hb2, A1, A2, A3, c1, c2, c3, hta⟩ := (HS.out.keep (Same.of_below HB.out hS)).at_ hkl
    obtain ⟨k1, k2, k3, k4, k5, cS, rS, pS, -, -, -, htx⟩ := hta
    have HCS := Lib.hid cS
    have hl2 : b2 < wr.heap.size := by have := hS b2 hb2; omega
    have HSTEP := Lib.hid (namedFrom_drop seen s.tabs k hkl)
    have hcl : (s.tabs.getD k t0).cols.length ≤ 8 := HC8.out _ (by simp [List.getD, hkl])
    clear cS rS pS
    generalize s.tabs.getD k t0 = tb at k1 k2 k3 k4 k5 HCS htx HSTEP hcl
    obtain ⟨tn, tc, tk, tr, tp⟩ := tb
    simp only at k1 k2 k3 k4 k5 HCS htx HSTEP hcl
    go_wp2_with fail
    refine (isName_any tn _ htx).mono ?_
    rintro e w2 ⟨rfl, hb3⟩
    have hz2 : wr.heap.size < w2.heap.size := by have := hb3.size; simp at this; omega
    have HB2 := Lib.hid ((HB.out.alloc (by omega) _).trans (hb3.mono (by simp; omega)))
    have HSET2 := Lib.hid ((HSET.out.alloc _).below hb3 (by simp; omega))
    have g0 : w2.cell? ⟨wr.heap.size, 0, none⟩ = some (.string tn) := (hb3.cell (p := ⟨wr.heap.size, 0, none⟩) (by simp)).trans (by simp [cell_of_row _ _ _ _ _ _ (heap_alloc_new wr _)])
    have g1 : w2.cell? ⟨wr.heap.size, 1, none⟩ = some (.slice A1 tc.length c1) := (hb3.cell (p := ⟨wr.heap.size, 1, none⟩) (by simp)).trans (by simp [cell_of_row _ _ _ _ _ _ (heap_alloc_new wr _)])
    have g2 : w2.cell? ⟨wr.heap.size, 2, none⟩ = some (.int .i64 tk) := (hb3.cell (p := ⟨wr.heap.size, 2, none⟩) (by simp)).trans (by simp [cell_of_row _ _ _ _ _ _ (heap_alloc_new wr _)])
    clear hb3 k1 k2 k3 k4 k5
    have hlk := HSET2.out.look (s := tn) htx
    by_cases hn : nameF tn = true
    · have HN := Lib.hid hn
      rw [hn]
      clear hn
      by_cases hi : inS seen tn = true
      · have HV := Lib.hid hi
        rw [hi] at hlk
        clear hi
        go_wp2_with fail
        go_ret
        exact ⟨by rw [HT.out, HSTEP.out]; simp [HV.out], HB2.out⟩
      · have HI := Lib.hid (show inS seen tn = false by simpa using hi)
        clear hi
        by_cases hk1 : 1 ≤ tk
        · by_cases hk2 : tk ≤ tc.length
          · have HSTEP2 := Lib.hid (show namedFrom [] s.tabs = (colsFrom [] tc && namedFrom (tn :: seen) (s.tabs.drop (k + 1))) by rw [HT.out, HSTEP.out, HN.out, HI.out]; simp [hk1, hk2])
            have hd1 : decide (tk < 1) = false := by simp; omega
            have hd2 : decide ((tc.length : Int) < tk) = false := by simp; omega
            rw [HI.out] at hlk
            go_wp2_with (at_mapUpdate; refine wpList_set_put _ rfl (.tmp 40) (.tmp 42) (.const (.bool true)) rfl (w.heap.size + 1) k seen tn rfl rfl rfl HSET2.out (by omega) htx ?_; intro w3 hset3 hg3; have hz3 := hg3.size; have hz3' : wr.heap.size < w3.heap.size := (by omega); have g1' : w3.cell? ⟨wr.heap.size, 1, none⟩ = some (.slice A1 tc.length c1) := (World.cell?_of_block (hg3.block wr.heap.size (by omega) (fun e => by have := Option.some.inj e; omega))).trans g1)
            have HSET3 := Lib.hid hset3
            have HB3 := Lib.hid (HB2.out.grown hg3 (by omega) (fun b hb => by have := Option.some.inj hb; omega))
            clear hset3 hg3 g0 g1 g2 hlk
            go_loopw [47] (fun i wr => ∃ (j : Nat) (sc : List ByteArray), j ≤ tc.length ∧ i = .int .i64 j ∧ colsFrom [] tc = colsFrom sc (tc.drop j) ∧ SetAt wr (w.heap.size + 1) (k + 1) (tn :: seen) ∧ SetAt wr w3.heap.size j sc ∧ Below w.heap.size w wr) (fun i _ => tc.length - (intOf i).toNat)
            case atStart => exact ⟨0, [], Nat.zero_le _, rfl, by simp, HSET3.out.alloc _, SetAt.made w3, HB3.out.alloc (by omega) _⟩
            case round =>
             obtain ⟨j, sc, hj, rfl, hcf, hs1, hs2, hbi⟩ := hrel
             have HCT := Lib.hid hcf
             have HS1 := Lib.hid hs1
             have HS2 := Lib.hid hs2
             have HBI := Lib.hid hbi
             have hzi := hs2.lt
             clear hcf hs1 hs2 hbi g1'
             by_cases hjl : j < tc.length
             · have HCOL := Lib.hid (HCS.out.keep (fun b hb => (HBI.out.block b (hS b hb)).trans (HB.out.block b (hS b hb)).symm))
               obtain ⟨b4, o4, rfl, hb4, f1, f2⟩ := HCOL.out.at_ hjl
               have hcx := HCOL.out.txt hjl
               have hl4 : b4 < wr.heap.size := by have := hS b4 hb4; omega
               have HCSTEP := Lib.hid (colsFrom_drop sc tc j hjl)
               generalize tc.getD j c0 = cl at f1 f2 hcx HCSTEP
               obtain ⟨cn, ck⟩ := cl
               simp only at f1 f2 hcx HCSTEP
               go_wp2_with fail
               refine (isName_any cn _ hcx).mono ?_
               rintro e w4 ⟨rfl, hb5⟩
               have hz4 : wr.heap.size < w4.heap.size := by have := hb5.size; simp at this; omega
               have HB4 := Lib.hid ((HBI.out.alloc (by omega) _).trans (hb5.mono (by simp; omega)))
               have HS14 := Lib.hid ((HS1.out.alloc _).below hb5 (by simp; omega))
               have HS24 := Lib.hid ((HS2.out.alloc _).below hb5 (by simp; omega))
               have m0 : w4.cell? ⟨wr.heap.size, 0, none⟩ = some (.string cn) := (hb5.cell (p := ⟨wr.heap.size, 0, none⟩) (by simp)).trans (by simp [cell_of_row _ _ _ _ _ _ (heap_alloc_new wr _)])
               have m1 : w4.cell? ⟨wr.heap.size, 1, none⟩ = some (.int .i64 ck) := (hb5.cell (p := ⟨wr.heap.size, 1, none⟩) (by simp)).trans (by simp [cell_of_row _ _ _ _ _ _ (heap_alloc_new wr _)])
               clear hb5 f1 f2
               have hlk := HS24.out.look (s := cn) hcx
               by_cases hcn : nameF cn = true
               · have HCN := Lib.hid hcn
                 rw [hcn]
                 clear hcn
                 by_cases hci : inS sc cn = true
                 · have HV := Lib.hid hci
                   rw [hci] at hlk
                   clear hci
                   go_wp2_with fail
                   go_ret
                   exact ⟨by rw [HSTEP2.out, HCT.out, HCSTEP.out]; simp [HV.out], HB4.out⟩
                 · have HCI := Lib.hid (show inS sc cn = false by simpa using hci)
                   rw [HCI.out] at hlk
                   clear hci
                   by_cases h3 : ck = 3
                   · subst h3
                     go_wp2_with (at_mapUpdate; refine wpList_set_put _ rfl (.tmp 61) (.tmp 63) (.const (.bool true)) rfl w3.heap.size j sc cn rfl rfl rfl HS24.out (by omega) hcx ?_; intro w5 hset5 hg5; have hz5 := hg5.size; have m1' : w5.cell? ⟨wr.heap.size, 1, none⟩ = some (.int .i64 3) := (World.cell?_of_block (hg5.block wr.heap.size (by omega) (fun e => by have := Option.some.inj e; omega))).trans m1)
                     have HS25 := Lib.hid hset5
                     have HS15 := Lib.hid (HS14.out.kept hg5 (fun e => by have := Option.some.inj e; omega))
                     have HB5 := Lib.hid (HB4.out.grown hg5 (by omega) (fun b hb => by have := Option.some.inj hb; omega))
                     clear hset5 hg5
                     go_roundw
                     case rel => exact ⟨j + 1, cn :: sc, by omega, by go_num, by rw [HCT.out, HCSTEP.out, HCN.out, HCI.out]; simp [colKind], HS15.out, HS25.out, HB5.out⟩
                     case measure => simp [intOf]; omega
                   · have e3 : (ck != 3) = true := by simp [h3]
                     by_cases h4 : ck = 4
                     · subst h4
                       go_wp2_with (at_mapUpdate; refine wpList_set_put _ rfl (.tmp 61) (.tmp 63) (.const (.bool true)) rfl w3.heap.size j sc cn rfl rfl rfl HS24.out (by omega) hcx ?_; intro w5 hset5 hg5; have hz5 := hg5.size; have m1' : w5.cell? ⟨wr.heap.size, 1, none⟩ = some (.int .i64 4) := (World.cell?_of_block (hg5.block wr.heap.size (by omega) (fun e => by have := Option.some.inj e; omega))).trans m1)
                       have HS25 := Lib.hid hset5
                       have HS15 := Lib.hid (HS14.out.kept hg5 (fun e => by have := Option.some.inj e; omega))
                       have HB5 := Lib.hid (HB4.out.grown hg5 (by omega) (fun b hb => by have := Option.some.inj hb; omega))
                       clear hset5 hg5
                       go_roundw
                       case rel => exact ⟨j + 1, cn :: sc, by omega, by go_num, by rw [HCT.out, HCSTEP.out, HCN.out, HCI.out]; simp [colKind], HS15.out, HS25.out, HB5.out⟩
                       case measure => simp [intOf]; omega
                     · have e4 : (ck != 4) = true := by simp [h4]
                       by_cases h5 : ck = 5
                       · subst h5
                         go_wp2_with (at_mapUpdate; refine wpList_set_put _ rfl (.tmp 61) (.tmp 63) (.const (.bool true)) rfl w3.heap.size j sc cn rfl rfl rfl HS24.out (by omega) hcx ?_; intro w5 hset5 hg5; have hz5 := hg5.size; have m1' : w5.cell? ⟨wr.heap.size, 1, none⟩ = some (.int .i64 5) := (World.cell?_of_block (hg5.block wr.heap.size (by omega) (fun e => by have := Option.some.inj e; omega))).trans m1)
                         have HS25 := Lib.hid hset5
                         have HS15 := Lib.hid (HS14.out.kept hg5 (fun e => by have := Option.some.inj e; omega))
                         have HB5 := Lib.hid (HB4.out.grown hg5 (by omega) (fun b hb => by have := Option.some.inj hb; omega))
                         clear hset5 hg5
                         go_roundw
                         case rel => exact ⟨j + 1, cn :: sc, by omega, by go_num, by rw [HCT.out, HCSTEP.out, HCN.out, HCI.out]; simp [colKind], HS15.out, HS25.out, HB5.out⟩
                         case measure => simp [intOf]; omega
                       · have e5 : (ck != 5) = true := by simp [h5]
                         have HV := Lib.hid (show colKind ck = false by simp [colKind, h3, h4, h5])
                         go_wp2_with (at_mapUpdate; refine wpList_set_put _ rfl (.tmp 61) (.tmp 63) (.const (.bool true)) rfl w3.heap.size j sc cn rfl rfl rfl HS24.out (by omega) hcx ?_; intro w5 hset5 hg5; have hz5 := hg5.size; have m1' : w5.cell? ⟨wr.heap.size, 1, none⟩ = some (.int .i64 ck) := (World.cell?_of_block (hg5.block wr.heap.size (by omega) (fun e => by have := Option.some.inj e; omega))).trans m1)
                         have HS25 := Lib.hid hset5
                         have HS15 := Lib.hid (HS14.out.kept hg5 (fun e => by have := Option.some.inj e; omega))
                         have HB5 := Lib.hid (HB4.out.grown hg5 (by omega) (fun b hb => by have := Option.some.inj hb; omega))
                         clear hset5 hg5
                         go_ret
                         exact ⟨by rw [HSTEP2.out, HCT.out, HCSTEP.out]; simp [HV.out], HB5.out⟩
               · have HV := Lib.hid (show nameF cn = false by simpa using hcn)
                 rw [HV.out]
                 clear hcn
                 go_wp2_with fail
                 go_ret
                 exact ⟨by rw [HSTEP2.out, HCT.out, HCSTEP.out]; simp [HV.out], HB4.out⟩
             · have HJE := Lib.hid (show colsFrom [] tc = true by rw [HCT.out, show j = tc.length by omega, List.drop_length]; rfl)
               go_wp2_with fail
               go_roundw
               case rel => exact ⟨k + 1, tn :: seen, by omega, by go_num, by rw [HSTEP2.out, HJE.out]; rfl, HS1.out, HBI.out⟩
               case measure => simp [intOf]; omega
          · have HV := Lib.hid (show decide (tk ≤ (tc.length : Int)) = false by simpa using hk2)
            rw [HI.out] at hlk
            have hd1 : decide (tk < 1) = false := by simp; omega
            have hd2 : decide ((tc.length : Int) < tk) = true := by simp; omega
            go_wp2_with fail
            go_ret
            exact ⟨by rw [HT.out, HSTEP.out]; simp [HV.out], HB2.out⟩
        · have HV := Lib.hid (show decide (1 ≤ tk) = false by simpa using hk1)
          rw [HI.out] at hlk
          have hd1 : decide (tk < 1) = true := by simp; omega
          go_wp2_with fail
          go_ret
          exact ⟨by rw [HT.out, HSTEP.out]; simp [HV.out], HB2.out⟩
    · have HV := Lib.hid (show nameF tn = false by simpa using hn)
      rw [HV.out]
      clear hn
      go_wp2_with fail
      go_ret
      exact ⟨by rw [HT.out, HSTEP.out]; simp [HV.out], HB2.out⟩
  · have HKE := Lib.hid (show k = s.tabs.length by omega)
    go_wp2_with fail
    go_ret
    exact ⟨by rw [HT.out, HKE.out, List.drop_length]; rfl, HB.out⟩
end Go.Proofs.Ytkpjjfhfbpfjpaa

namespace Go.Proofs.Ytkpjjfhfbpfjpaa
open Go.RowKit
def rcolsFrom (tc : List Col) : List Col → List Int → Bool
 | c' :: cs, c :: r => decide (0 ≤ c) && decide (c < tc.length) && decide ((tc.getD c.toNat c0).kind = c'.kind) && rcolsFrom tc cs r
 | _, _ => true
def refOk (tabs : List Tab) (tc : List Col) (r : Rfr) : Bool :=
 hasN tabs.length r.table && decide ((r.cols.length : Int) = (tabs.getD r.table.toNat t0).key) && rcolsFrom tc (tabs.getD r.table.toNat t0).cols r.cols
def refsFrom (tabs : List Tab) (tc : List Col) : List Rfr → Bool
 | [] => true
 | r :: l => refOk tabs tc r && refsFrom tabs tc l
def referFrom (tabs : List Tab) : List Tab → Bool
 | [] => true
 | t :: l => refsFrom tabs t.cols t.refs && referFrom tabs l
theorem referFrom_drop (tabs l : List Tab) (k : Nat) (h : k < l.length) : referFrom tabs (l.drop k) = (refsFrom tabs (l.getD k t0).cols (l.getD k t0).refs && referFrom tabs (l.drop (k + 1))) := by
 rw [List.drop_eq_getElem_cons h]
 have e1 : l.getD k t0 = l[k] := by simp [List.getD, h]
 rw [e1]
 rfl
theorem refsFrom_drop (tabs : List Tab) (tc : List Col) (l : List Rfr) (k : Nat) (h : k < l.length) : refsFrom tabs tc (l.drop k) = (refOk tabs tc (l.getD k r0) && refsFrom tabs tc (l.drop (k + 1))) := by
 rw [List.drop_eq_getElem_cons h]
 have e1 : l.getD k r0 = l[k] := by simp [List.getD, h]
 rw [e1]
 rfl
theorem rcolsFrom_drop (tc cs : List Col) (l : List Int) (k : Nat) (h : k < l.length) (h' : k < cs.length) : rcolsFrom tc (cs.drop k) (l.drop k) = (decide (0 ≤ l.getD k 0) && decide (l.getD k 0 < tc.length) && decide ((tc.getD (l.getD k 0).toNat c0).kind = (cs.getD k c0).kind) && rcolsFrom tc (cs.drop (k + 1)) (l.drop (k + 1))) := by
 rw [List.drop_eq_getElem_cons h, List.drop_eq_getElem_cons h']
 have e1 : l.getD k 0 = l[k] := by simp [List.getD, h]
 have e2 : cs.getD k c0 = cs[k] := by simp [List.getD, h']
 rw [e1, e2]
 rfl
set_option maxHeartbeats 4000000 in
theorem referring_any (A0 : Option Addr) (c0' : Nat) (s : Sch) (S : Nat → Prop) (w : World) (hs : TabS w S A0 s.tabs) (hS : ∀ b, S b → b < w.heap.size) (hkc : ∀ t ∈ s.tabs, t.key ≤ t.cols.length) :
  Calls Try.prog 111 #[sAgg s.version A0 s.tabs.length c0'] w (BoolBel (referFrom s.tabs s.tabs) w) := by
 have hsl := hs.len
 have HS := Lib.hid hs
 have HKC := Lib.hid hkc
 clear hs hkc
 go_enter Try.func111, Try.ntmps111
 go_wp2_with fail
 go_loopw [13] (fun i wr => ∃ k : Nat, k ≤ s.tabs.length ∧ i = .int .i64 k ∧ referFrom s.tabs s.tabs = referFrom s.tabs (s.tabs.drop k) ∧ Below w.heap.size w wr ∧ wr.cell? ⟨w.heap.size, 1, none⟩ = some (.slice A0 s.tabs.length c0') ∧ w.heap.size < wr.heap.size) (fun i _ => s.tabs.length - (intOf i).toNat)
 case atStart => exact ⟨0, Nat.zero_le _, rfl, by simp, (Below.refl _ _).alloc (Nat.le_refl _) _, by simp [cell_of_row _ _ _ _ _ _ (heap_alloc_new w _)], by simp⟩
 case round =>
  obtain ⟨k, hk, rfl, hnf, hbel, x1, hw1⟩ := hrel
  have HT := Lib.hid hnf
  have HB := Lib.hid hbel
  clear hnf hbel
  by_cases hkl : k < s.tabs.length
  · obtain ⟨b2, o2, rfl, hb2, A1, A2, A3, c1, c2, c3, hta⟩ := (HS.out.keep (Same.of_below HB.out hS)).at_ hkl
    obtain ⟨k1, k2, k3, k4, k5, cS, rS, pS, -, -, -, -⟩ := hta
    have HCS := Lib.hid cS
    have HRS := Lib.hid rS
    have hcl := cS.len
    have hrl := rS.len
    have hl2 : b2 < w.heap.size := hS b2 hb2
    have HSTEP := Lib.hid (referFrom_drop s.tabs s.tabs k hkl)
    clear cS rS pS
    generalize s.tabs.getD k t0 = tb at k1 k2 k3 k4 k5 HCS HRS HSTEP hcl hrl
    obtain ⟨tn, tc, tk, tr, tp⟩ := tb
    simp only at k1 k2 k3 k4 k5 HCS HRS HSTEP hcl hrl
    obtain ⟨g1, hg1⟩ : ∃ g1, g1 = wr.heap.size := ⟨_, rfl⟩
    have HG1 := Lib.hid hg1
    clear hg1
    go_wp2_with fail
    go_loopw [20] (fun i wq => ∃ j : Nat, j ≤ tr.length ∧ i = .int .i64 j ∧ refsFrom s.tabs tc tr = refsFrom s.tabs tc (tr.drop j) ∧ Below w.heap.size w wq ∧ wq.cell? ⟨w.heap.size, 1, none⟩ = some (.slice (some ⟨b2, o2, none⟩) s.tabs.length c0') ∧ wq.cell? ⟨g1, 1, none⟩ = some (.slice A1 tc.length c1) ∧ w.heap.size < wq.heap.size ∧ g1 < wq.heap.size) (fun i _ => tr.length - (intOf i).toNat)
    case atStart => exact ⟨0, Nat.zero_le _, rfl, by simp, HB.out.alloc (by omega) _, by rw [World.cell?_of_block (Below.heap_alloc _ _ _ hw1)]; exact x1, by rw [HG1.out]; simp [cell_of_row _ _ _ _ _ _ (heap_alloc_new _ _)], by simp; omega, by rw [HG1.out]; simp⟩
    case round =>
     obtain ⟨j, hj, rfl, ht2, hbb, x1, x2, hw1, hw2⟩ := hrel
     have HT2 := Lib.hid ht2
     have HB2 := Lib.hid hbb
     have x2' := x2
     have hw2' := hw2
     rw [HG1.out] at x2' hw2'
     clear ht2 hbb
     by_cases hjl : j < tr.length
     · obtain ⟨b3, o3, rfl, hb3, ⟨A4, c4, f1, f1c, iS⟩, f2⟩ := (HRS.out.keep (fun b hb => (HB2.out.block b (hS b hb)).trans (HB.out.block b (hS b hb)).symm)).at_ hjl
       have hl3 : b3 < wr.heap.size := by have := hS b3 hb3; omega
       have HSTEP2 := Lib.hid (refsFrom_drop s.tabs tc tr j hjl)
       have HIS := Lib.hid iS
       have hil := iS.len
       clear iS
       generalize tr.getD j r0 = rr at f1 f1c f2 HIS HSTEP2 hil
       obtain ⟨rc, rt⟩ := rr
       simp only at f1 f1c f2 HIS HSTEP2 hil
       by_cases hh : hasN s.tabs.length rt = true
       · have hh0 : 0 ≤ rt ∧ rt < s.tabs.length := by simpa [hasN] using hh
         obtain ⟨tt, rfl⟩ := Int.eq_ofNat_of_zero_le hh0.1
         have htl : tt < s.tabs.length := by omega
         have hd1 : decide ((tt : Int) < 0) = false := by simp
         have hd2 : decide (s.tabs.length ≤ tt) = false := by simp; omega
         obtain ⟨b4, o4, eA0, hb4, B1, B2, B3, d1, d2, d3, hta⟩ := (HS.out.keep (Same.of_below HB2.out hS)).at_ htl
         obtain ⟨l1, l2, l3, l4, l5, uS, _, _, -, -, -, -⟩ := hta
         injection eA0 with eA0
         injection eA0 with e1 e2
         subst e1 e2
         have hl4 : b2 < wr.heap.size := by omega
         have HUS := Lib.hid uS
         have huk : (s.tabs.getD tt t0).key ≤ (s.tabs.getD tt t0).cols.length := HKC.out _ (by simp [List.getD, htl])
         have HOK' := Lib.hid (show refOk s.tabs tc ⟨rc, tt⟩ = (decide ((rc.length : Int) = (s.tabs.getD tt t0).key) && rcolsFrom tc (s.tabs.getD tt t0).cols rc) by unfold refOk; simp only [hh, Int.toNat_natCast, Bool.true_and])
         have hul := uS.len
         clear uS hh
         generalize s.tabs.getD tt t0 = ub at l1 l2 l3 l4 l5 HUS huk HOK' hul
         obtain ⟨un, uc, uk, ur, up⟩ := ub
         simp only at l1 l2 l3 l4 l5 HUS huk HOK' hul
         by_cases hk : (rc.length : Int) = uk
         · have hd3 : ((rc.length : Int) != uk) = false := by simp [hk]
           have HOK := Lib.hid (show refOk s.tabs tc ⟨rc, tt⟩ = rcolsFrom tc uc rc by rw [HOK'.out]; simp [hk])
           have HB2a := Lib.hid ((HB2.out.alloc (by omega) (.cells #[.slice A4 rc.length c4, .int .i64 tt] 96)).alloc (by simp; omega) (.cells #[.string un, .slice B1 uc.length d1, .int .i64 uk, .slice B2 ur.length d2, .slice B3 up.length d3] 39))
           obtain ⟨g7, hg7⟩ : ∃ g7, g7 = wr.heap.size + 1 := ⟨_, rfl⟩
           have HG7 := Lib.hid hg7
           clear hg7
           go_wp2_with fail
           go_loopw [50] (fun i wq => ∃ i3 : Nat, i3 ≤ rc.length ∧ i = .int .i64 i3 ∧ rcolsFrom tc uc rc = rcolsFrom tc (uc.drop i3) (rc.drop i3) ∧ Below w.heap.size w wq ∧ wq.cell? ⟨w.heap.size, 1, none⟩ = some (.slice (some ⟨b2, o2, none⟩) s.tabs.length c0') ∧ wq.cell? ⟨g1, 1, none⟩ = some (.slice A1 tc.length c1) ∧ wq.cell? ⟨g7, 1, none⟩ = some (.slice B1 uc.length d1) ∧ w.heap.size < wq.heap.size ∧ g1 < wq.heap.size ∧ g7 < wq.heap.size) (fun i _ => rc.length - (intOf i).toNat)
           case atStart =>
            refine ⟨0, Nat.zero_le _, rfl, by simp, HB2a.out, ?_, ?_, ?_, by simp; omega, by simp; omega, by rw [HG7.out]; simp⟩
            · rw [World.cell?_of_block (Below.heap_alloc _ _ _ (by simp; omega)), World.cell?_of_block (Below.heap_alloc _ _ _ (by omega))]; exact x1
            · rw [World.cell?_of_block (Below.heap_alloc _ _ _ (by simp; omega)), World.cell?_of_block (Below.heap_alloc _ _ _ (by omega))]; exact x2
            · rw [HG7.out]; simp
           case round =>
            obtain ⟨i3, hi3, rfl, ht3, hbb, y1, y2, y3, hw1, hw2, hw3⟩ := hrel
            have HT3 := Lib.hid ht3
            have HB3 := Lib.hid hbb
            have y2' := y2
            have hw2' := hw2
            have y3' := y3
            have hw3' := hw3
            rw [HG1.out] at y2' hw2'
            rw [HG7.out] at y3' hw3'
            clear ht3 hbb
            by_cases hil : i3 < rc.length
            · have HI := Lib.hid (HIS.out.keep (fun b hb => (HB3.out.block b (hS b hb)).trans (HB2.out.block b (hS b hb)).symm))
              obtain ⟨b5, o5, rfl, hb5, p1⟩ := HI.out.at_ hil
              have hl5 : b5 < wr.heap.size := by have := hS b5 hb5; omega
              have HSTEP3 := Lib.hid (rcolsFrom_drop tc uc rc i3 hil (by omega))
              obtain ⟨b7, o7, rfl, hb7, q1, q2⟩ := (HUS.out.keep (fun b hb => (HB3.out.block b (hS b hb)).trans (HB2.out.block b (hS b hb)).symm)).at_ (show i3 < uc.length by omega)
              have hl7 : b7 < wr.heap.size := by have := hS b7 hb7; omega
              have hiu : (i3 : Int) < uc.length := by omega
              generalize rc.getD i3 0 = c at p1 HSTEP3
              generalize uc.getD i3 c0 = ucl at q1 q2 HSTEP3
              obtain ⟨ucn, uck⟩ := ucl
              simp only at q1 q2 HSTEP3
              by_cases h0 : c < 0
              · have hd1 : decide (c < 0) = true := by simp [h0]
                have HV := Lib.hid (show decide (0 ≤ c) = false by simpa using h0)
                go_wp2_with fail
                go_quiet (fail)
                go_wp2_with fail
                go_ret
                exact ⟨by rw [HT.out, HSTEP.out, HT2.out, HSTEP2.out, HOK.out, HT3.out, HSTEP3.out]; simp [HV.out], below_drewN HB3.out _⟩
              · have hd1 : decide (c < 0) = false := by simpa using h0
                obtain ⟨cc, rfl⟩ := Int.eq_ofNat_of_zero_le (show 0 ≤ c by omega)
                rw [Int.toNat_natCast] at HSTEP3
                by_cases h1 : cc < tc.length
                · have hd2 : decide ((tc.length : Int) ≤ (cc : Int)) = false := by simp; omega
                  have hd3 : decide (tc.length ≤ cc) = false := by simp; omega
                  obtain ⟨b6, o6, rfl, hb6, r1, r2⟩ := (HCS.out.keep (fun b hb => (HB3.out.block b (hS b hb)).trans (HB.out.block b (hS b hb)).symm)).at_ h1
                  have hl6 : b6 < wr.heap.size := by have := hS b6 hb6; omega
                  generalize tc.getD cc c0 = tcl at r1 r2 HSTEP3
                  obtain ⟨tcn, tck⟩ := tcl
                  simp only at r1 r2 HSTEP3
                  by_cases hq : tck = uck
                  · have hd4 : (tck != uck) = false := by simp [hq]
                    go_wp2_with fail
                    go_quiet (fail)
                    go_wp2_with fail
                    go_roundw
                    case rel => exact ⟨i3 + 1, by omega, by go_num, by rw [HT3.out, HSTEP3.out]; simp [hq, h1], below_drewN HB3.out _, y1, y2, y3, hw1, hw2, hw3⟩
                    case measure => simp [intOf]; omega
                  · have hd4 : (tck != uck) = true := by simp [hq]
                    have HV := Lib.hid hq
                    go_wp2_with fail
                    go_quiet (fail)
                    go_wp2_with fail
                    go_ret
                    exact ⟨by rw [HT.out, HSTEP.out, HT2.out, HSTEP2.out, HOK.out, HT3.out, HSTEP3.out]; simp [HV.out], below_drewN HB3.out _⟩
                · have hd2 : decide ((tc.length : Int) ≤ (cc : Int)) = true := by simp; omega
                  have hd3 : decide (tc.length ≤ cc) = true := by simp; omega
                  have HV := Lib.hid h1
                  go_wp2_with fail
                  go_quiet (fail)
                  go_wp2_with fail
                  go_ret
                  exact ⟨by rw [HT.out, HSTEP.out, HT2.out, HSTEP2.out, HOK.out, HT3.out, HSTEP3.out]; simp [HV.out], below_drewN HB3.out _⟩
            · have HE := Lib.hid (show rcolsFrom tc uc rc = true by rw [HT3.out, show i3 = rc.length by omega, List.drop_length]; cases (uc.drop rc.length) <;> rfl)
              go_wp2_with fail
              go_roundw
              case rel => exact ⟨j + 1, by omega, by go_num, by rw [HT2.out, HSTEP2.out, HOK.out, HE.out]; rfl, HB3.out, y1, y2, hw1, hw2⟩
              case measure => simp [intOf]; omega
         · have hd3 : ((rc.length : Int) != uk) = true := by simp [hk]
           have HV := Lib.hid (show refOk s.tabs tc ⟨rc, tt⟩ = false by rw [HOK'.out]; simp [hk])
           go_wp2_with fail
           go_ret
           exact ⟨by rw [HT.out, HSTEP.out, HT2.out, HSTEP2.out, HV.out]; rfl, (HB2.out.alloc (by omega) _).alloc (by simp; omega) _⟩
       · have HV := Lib.hid (show refOk s.tabs tc ⟨rc, rt⟩ = false by unfold refOk; simp [hh])
         have hh' : rt < 0 ∨ (s.tabs.length : Int) ≤ rt := by
          have : hasN s.tabs.length rt = false := by simpa using hh
          simp [hasN] at this
          omega
         by_cases h0 : rt < 0
         · have hd1 : decide (rt < 0) = true := by simp [h0]
           go_wp2_with fail
           go_ret
           exact ⟨by rw [HT.out, HSTEP.out, HT2.out, HSTEP2.out, HV.out]; rfl, HB2.out.alloc (by omega) _⟩
         · have hd1 : decide (rt < 0) = false := by simpa using h0
           have hd2 : decide ((s.tabs.length : Int) ≤ rt) = true := by simp; omega
           go_wp2_with fail
           go_ret
           exact ⟨by rw [HT.out, HSTEP.out, HT2.out, HSTEP2.out, HV.out]; rfl, HB2.out.alloc (by omega) _⟩
     · have HE := Lib.hid (show refsFrom s.tabs tc tr = true by rw [HT2.out, show j = tr.length by omega, List.drop_length]; rfl)
       go_wp2_with fail
       go_roundw
       case rel => exact ⟨k + 1, by omega, by go_num, by rw [HT.out, HSTEP.out, HE.out]; rfl, HB2.out, x1, hw1⟩
       case measure => simp [intOf]; omega
  · have HKE := Lib.hid (show k = s.tabs.length by omega)
    go_wp2_with fail
    go_ret
    exact ⟨by rw [HT.out, HKE.out, List.drop_length]; rfl, HB.out⟩
end Go.Proofs.Ytkpjjfhfbpfjpaa

namespace Go.Proofs.Ytkpjjfhfbpfjpaa
open Go.RowKit
abbrev oAgg (o : Opd) : Value := .agg #[.int .i64 o.kind, .int .i64 o.index, .int .i64 o.value.k, .int .i64 o.value.i, .string o.value.t]
abbrev pAgg (op cmp : Int) (l r : Opd) (A : Option Addr) (n c : Nat) : Value := .agg #[.int .i64 op, .int .i64 cmp, .int .i64 l.kind, .int .i64 l.index, .int .i64 l.value.k, .int .i64 l.value.i, .string l.value.t, .int .i64 r.kind, .int .i64 r.index, .int .i64 r.value.k, .int .i64 r.value.i, .string r.value.t, .slice A n c]
abbrev p0 : Pred := .mk 0 0 ⟨0, 0, v0⟩ ⟨0, 0, v0⟩ []
structure PredAt (w : World) (S : Nat → Prop) (b off : Nat) (op cmp : Int) (l r : Opd) (args : List Pred) (A : Option Addr) (c : Nat) : Prop where
 fop : w.cell? ⟨b, off, none⟩ = some (.int .i64 op)
 fcmp : w.cell? ⟨b, off + 1, none⟩ = some (.int .i64 cmp)
 lk : w.cell? ⟨b, off + 2, none⟩ = some (.int .i64 l.kind)
 li : w.cell? ⟨b, off + 3, none⟩ = some (.int .i64 l.index)
 lvk : w.cell? ⟨b, off + 4, none⟩ = some (.int .i64 l.value.k)
 lvi : w.cell? ⟨b, off + 5, none⟩ = some (.int .i64 l.value.i)
 lvt : w.cell? ⟨b, off + 6, none⟩ = some (.string l.value.t)
 rk : w.cell? ⟨b, off + 7, none⟩ = some (.int .i64 r.kind)
 ri : w.cell? ⟨b, off + 8, none⟩ = some (.int .i64 r.index)
 rvk : w.cell? ⟨b, off + 9, none⟩ = some (.int .i64 r.value.k)
 rvi : w.cell? ⟨b, off + 10, none⟩ = some (.int .i64 r.value.i)
 rvt : w.cell? ⟨b, off + 11, none⟩ = some (.string r.value.t)
 fargs : w.cell? ⟨b, off + 12, none⟩ = some (.slice A args.length c)
 pS : PredS w S A args
 pc : args.length ≤ c
 lt : l.value.t.size ≤ 9223372036854775807
 rt : r.value.t.size ≤ 9223372036854775807
theorem PredS.at_ {w : World} {S : Nat → Prop} {A : Option Addr} {l : List Pred} (h : PredS w S A l) {k : Nat} (hk : k < l.length) : ∃ b off, A = some ⟨b, off, none⟩ ∧ S b ∧ ∃ op cmp lf rt args A' c, l.getD k p0 = .mk op cmp lf rt args ∧ PredAt w S b (off + k * 13) op cmp lf rt args A' c := by
 obtain ⟨b, off, e, hb, h1⟩ := Sl.at_ encPred_size p0 h hk
 cases hp : l.getD k p0 with
 | mk op cmp lf rt args =>
  rw [hp] at h1
  simp only [encPred, encOpd, encV, Dat.Held, Dat.HeldAll, Dat.size, Dat.sizes, and_true, litOk_int, litOk_string, Nat.add_assoc, Nat.reduceAdd, Nat.add_zero] at h1
  obtain ⟨a1, a2, ⟨a3, a4, a5, a6, a7, a7'⟩, ⟨b3, b4, b5, b6, b7, b7'⟩, A', c, d1, d2, d3, d4⟩ := h1
  rw [encPreds_map] at d1 d2 d3 d4
  rw [List.length_map] at d1 d2
  exact ⟨b, off, e, hb, op, cmp, lf, rt, args, A', c, rfl, a1, a2, a3, a4, a5, a6, a7, b3, b4, b5, b6, b7, d1, ⟨d3, d4⟩, d2, a7', b7'⟩
def kindsOk : List Int → Bool
 | [] => true
 | k :: r => colKind k && kindsOk r
theorem kindsOk_drop (l : List Int) (k : Nat) (h : k < l.length) : kindsOk (l.drop k) = (colKind (l.getD k 0) && kindsOk (l.drop (k + 1))) := by
 rw [List.drop_eq_getElem_cons h]
 have e1 : l.getD k 0 = l[k] := by simp [List.getD, h]
 rw [e1]
 rfl
set_option maxHeartbeats 1000000 in
theorem columnKinds_any (A : Option Addr) (ca : Nat) (l : List Int) (S : Nat → Prop) (w : World) (h : IntS w S A l) : Calls Try.prog 128 #[.slice A l.length ca] w (fun e w' => e = .returned (.bool (kindsOk l)) ∧ w' = w) := by
 have hl := h.len
 have HI := Lib.hid h
 clear h
 go_enter Try.func128, Try.ntmps128
 go_wp2_with fail
 go_loopw [7] (fun i wr => ∃ k : Nat, k ≤ l.length ∧ i = .int .i64 k ∧ kindsOk l = kindsOk (l.drop k) ∧ wr = w) (fun i _ => l.length - (intOf i).toNat)
 case atStart => exact ⟨0, Nat.zero_le _, rfl, by simp, rfl⟩
 case round =>
  obtain ⟨k, hk, rfl, ht, rfl⟩ := hrel
  have HT := Lib.hid ht
  clear ht
  by_cases hkl : k < l.length
  · obtain ⟨b1, o1, rfl, hb1, d1⟩ := HI.out.at_ hkl
    have HSTEP := Lib.hid (kindsOk_drop l k hkl)
    generalize l.getD k 0 = ck at d1 HSTEP
    by_cases h3 : ck = 3
    · subst h3
      go_wp2_with fail
      go_roundw
      case rel => exact ⟨k + 1, by omega, by go_num, by rw [HT.out, HSTEP.out]; rfl, trivial⟩
      case measure => simp [intOf]; omega
    · have e3 : (ck != 3) = true := by simp [h3]
      by_cases h4 : ck = 4
      · subst h4
        go_wp2_with fail
        go_roundw
        case rel => exact ⟨k + 1, by omega, by go_num, by rw [HT.out, HSTEP.out]; rfl, trivial⟩
        case measure => simp [intOf]; omega
      · have e4 : (ck != 4) = true := by simp [h4]
        by_cases h5 : ck = 5
        · subst h5
          go_wp2_with fail
          go_roundw
          case rel => exact ⟨k + 1, by omega, by go_num, by rw [HT.out, HSTEP.out]; rfl, trivial⟩
          case measure => simp [intOf]; omega
        · have e5 : (ck != 5) = true := by simp [h5]
          have HV := Lib.hid (show colKind ck = false by simp [colKind, h3, h4, h5])
          go_wp2_with fail
          go_ret
          exact ⟨by rw [HT.out, HSTEP.out, HV.out]; rfl, rfl⟩
  · have HF := Lib.hid (show kindsOk l = true by rw [HT.out, show k = l.length by omega, List.drop_length]; rfl)
    go_wp2_with fail
    go_ret
    exact ⟨by rw [HF.out]; rfl, rfl⟩
mutual
def smallP : Pred → Int → Int → Bool × Int
 | .mk _ _ _ _ args, lv, b => if b - 1 < 0 ∨ 8 < lv then (false, b - 1) else smallL args (lv + 1) (b - 1)
def smallL : List Pred → Int → Int → Bool × Int
 | [], _, b => (true, b)
 | p :: r, lv, b => if (smallP p lv b).1 then smallL r lv (smallP p lv b).2 else (false, (smallP p lv b).2)
end
mutual
theorem smallP_le : ∀ (p : Pred) (lv b : Int), 0 ≤ b → (smallP p lv b).2 ≤ b ∧ ((smallP p lv b).1 = true → 0 ≤ (smallP p lv b).2)
 | .mk _ _ _ _ args, lv, b, hb => by
  unfold smallP
  split
  · exact ⟨by simp; omega, fun h => by cases h⟩
  · have := smallL_le args (lv + 1) (b - 1) (by omega)
    exact ⟨by omega, this.2⟩
theorem smallL_le : ∀ (l : List Pred) (lv b : Int), 0 ≤ b → (smallL l lv b).2 ≤ b ∧ ((smallL l lv b).1 = true → 0 ≤ (smallL l lv b).2)
 | [], lv, b, hb => by unfold smallL; exact ⟨Int.le_refl _, fun _ => hb⟩
 | p :: r, lv, b, hb => by
  have h1 := smallP_le p lv b hb
  unfold smallL
  split
  · rename_i h
    have h2 := smallL_le r lv _ (h1.2 h)
    exact ⟨by omega, h2.2⟩
  · exact ⟨h1.1, fun h => by cases h⟩
end
theorem smallL_drop (l : List Pred) (lv b : Int) (k : Nat) (h : k < l.length) : smallL (l.drop k) lv b = if (smallP (l.getD k p0) lv b).1 then smallL (l.drop (k + 1)) lv (smallP (l.getD k p0) lv b).2 else (false, (smallP (l.getD k p0) lv b).2) := by
 rw [List.drop_eq_getElem_cons h]
 have e1 : l.getD k p0 = l[k] := by simp [List.getD, h]
 rw [e1]
 conv => lhs; unfold smallL
def SmallPost (g : Nat) (r : Bool × Int) (w : World) (e : Ending) (w' : World) : Prop := e = .returned (.bool r.1) ∧ w'.heap[g]? = some (.cells #[.int .i64 r.2] 3 (0, 0)) ∧ w.grownBy w' (some g)
end Go.Proofs.Ytkpjjfhfbpfjpaa

namespace Go.Proofs.Ytkpjjfhfbpfjpaa
def bigT (t : Tab) : Bool := decide (8 < t.cols.length) || decide (4 < t.refs.length) || decide (4 < t.checks.length)
def chkL (pc : List Int → Pred → Int) (ks : List Int) : List Pred → Int
 | [] => 0
 | p :: r => if pc ks p ≠ 0 then pc ks p else chkL pc ks r
def chkT (pc : List Int → Pred → Int) : List Tab → Int
 | [] => 0
 | t :: r => if chkL pc (t.cols.map (·.kind)) t.checks ≠ 0 then chkL pc (t.cols.map (·.kind)) t.checks else chkT pc r
def schF (pc : List Int → Pred → Int) (s : Sch) : Int :=
 if 8 < s.tabs.length then 2 else if s.tabs.any bigT then 2
 else if s.version < 0 ∨ 1000 < s.version ∨ namedFrom [] s.tabs = false ∨ referFrom s.tabs s.tabs = false then 70 else chkT pc s.tabs
theorem chkL_drop (pc : List Int → Pred → Int) (ks : List Int) (l : List Pred) (k : Nat) (h : k < l.length) : chkL pc ks (l.drop k) = if pc ks (l.getD k p0) ≠ 0 then pc ks (l.getD k p0) else chkL pc ks (l.drop (k + 1)) := by
 rw [List.drop_eq_getElem_cons h]
 have e1 : l.getD k p0 = l[k] := by simp [List.getD, h]
 rw [e1]
 rfl
theorem chkT_drop (pc : List Int → Pred → Int) (l : List Tab) (k : Nat) (h : k < l.length) : chkT pc (l.drop k) = if chkL pc ((l.getD k t0).cols.map (·.kind)) (l.getD k t0).checks ≠ 0 then chkL pc ((l.getD k t0).cols.map (·.kind)) (l.getD k t0).checks else chkT pc (l.drop (k + 1)) := by
 rw [List.drop_eq_getElem_cons h]
 have e1 : l.getD k t0 = l[k] := by simp [List.getD, h]
 rw [e1]
 rfl
theorem big_take (l : List Tab) (k : Nat) (h : k < l.length) : (l.take (k + 1)).any bigT = ((l.take k).any bigT || bigT (l.getD k t0)) := by
 have e1 : l.getD k t0 = l[k] := by simp [List.getD, h]
 rw [List.take_succ_eq_append_getElem h, List.any_append, e1]
 simp
theorem big_true (l : List Tab) (k : Nat) (h : k < l.length) (hb : bigT (l.getD k t0) = true) : l.any bigT = true := by
 have e1 : l.getD k t0 = l[k] := by simp [List.getD, h]
 rw [e1] at hb
 exact List.any_eq_true.2 ⟨_, List.getElem_mem h, hb⟩
theorem named_key : ∀ (l : List Tab) (seen : List ByteArray), namedFrom seen l = true → ∀ t ∈ l, t.key ≤ t.cols.length
 | [], _, _, t, ht => by simp at ht
 | t' :: r, seen, h, t, ht => by
  simp only [namedFrom, Bool.and_eq_true, decide_eq_true_eq] at h
  rcases List.mem_cons.1 ht with rfl | ht
  · exact h.1.1.2
  · exact named_key r _ h.2 t ht
def modeF (e m : Int) : Int := if e ≠ 0 then e else if modeOk m then 0 else 1
def rowsOk (s : Sch) (t m : Int) : Option Row → List Row → Bool
 | _, [] => true
 | p, r :: l => fitsF s t r m && (match p with | none => true | some q => decide (cmpR (keyF s t q) (keyF s t r) < 0)) && rowsOk s t m (some r) l
def stOk (s : Sch) (m : Int) : Nat → St → Bool
 | _, [] => true
 | t, l :: r => rowsOk s t m none l && stOk s m (t + 1) r
def checkF (e : Int) (s : Sch) (m : Int) (st : St) : Int :=
 if modeF e m ≠ 0 then modeF e m else if 512 < countF st then 2 else if st.length ≠ s.tabs.length then 80 else if stOk s m 0 st then 0 else 80
theorem stOk_drop (s : Sch) (m : Int) (st : St) (k : Nat) (h : k < st.length) : stOk s m k (st.drop k) = (rowsOk s k m none (st.getD k []) && stOk s m (k + 1) (st.drop (k + 1))) := by
 rw [List.drop_eq_getElem_cons h]
 have e1 : st.getD k [] = st[k] := by simp [List.getD, h]
 rw [e1]
 rfl
def before (l : List Row) : Nat → Option Row
 | 0 => none
 | k + 1 => some (l.getD k [])
theorem rowsOk_drop (s : Sch) (t m : Int) (l : List Row) (k : Nat) (h : k < l.length) : rowsOk s t m (before l k) (l.drop k) = (fitsF s t (l.getD k []) m && (match before l k with | none => true | some q => decide (cmpR (keyF s t q) (keyF s t (l.getD k [])) < 0)) && rowsOk s t m (before l (k + 1)) (l.drop (k + 1))) := by
 have e1 : l.getD k [] = l[k] := by simp [List.getD, h]
 rw [List.drop_eq_getElem_cons h]
 conv => rhs; rw [show before l (k + 1) = some (l.getD k []) from rfl, e1]
 rfl
def keyC (s : Sch) (c : Chg) : Row := if 0 < c.old.length then keyF s c.table c.old else keyF s c.table c.new
def validC (s : Sch) (m : Int) (c : Chg) : Bool :=
 hasN s.tabs.length c.table && !(decide (c.old.length = 0) && decide (c.new.length = 0)) && (decide (c.old.length = 0) || fitsF s c.table c.old m) && (decide (c.new.length = 0) || fitsF s c.table c.new m)
  && (decide (c.old.length = 0) || decide (c.new.length = 0) || (cmpR (keyF s c.table c.old) (keyF s c.table c.new) == 0))
def low (s : Sch) (t : Int) (key : Row) : List Row → Nat
 | [] => 0
 | r :: l => if cmpR (keyF s t r) key < 0 then low s t key l + 1 else 0
def Asc (s : Sch) (t : Int) (l : List Row) : Prop := ∀ i j, i < j → j < l.length → cmpR (keyF s t (l.getD i [])) (keyF s t (l.getD j [])) < 0
def foundF (s : Sch) (c : Chg) (l : List Row) : Bool := decide (low s c.table (keyC s c) l < l.length) && (cmpR (keyF s c.table (l.getD (low s c.table (keyC s c) l) [])) (keyC s c) == 0)
def fitsC (s : Sch) (c : Chg) (l : List Row) : Bool := (foundF s c l == decide (0 < c.old.length)) && (!foundF s c l || (cmpR (l.getD (low s c.table (keyC s c) l) []) c.old == 0))
def putC (s : Sch) (c : Chg) (l : List Row) : List Row :=
 l.take (low s c.table (keyC s c) l) ++ (if 0 < c.new.length then [c.new] else []) ++ (if foundF s c l then l.drop (low s c.table (keyC s c) l + 1) else l.drop (low s c.table (keyC s c) l))
def applyL (s : Sch) (m : Int) : Int → St → List Chg → Int × St
 | _, st, [] => (0, st)
 | n, st, c :: r =>
  if validC s m c = false then (71, [])
  else if fitsC s c (st.getD c.table.toNat []) = false then (81, [])
  else if 512 < n + ((putC s c (st.getD c.table.toNat [])).length - (st.getD c.table.toNat []).length : Int) then (2, [])
  else applyL s m (n + ((putC s c (st.getD c.table.toNat [])).length - (st.getD c.table.toNat []).length : Int)) (st.set c.table.toNat (putC s c (st.getD c.table.toNat []))) r
def applyF (e : Int) (s : Sch) (m : Int) (st : St) (l : List Chg) : Int × St := if checkF e s m st ≠ 0 then (checkF e s m st, []) else applyL s m (countF st) st l
theorem low_le (s : Sch) (t : Int) (key : Row) : ∀ l : List Row, low s t key l ≤ l.length
 | [] => Nat.le_refl _
 | r :: l => by unfold low; have := low_le s t key l; split <;> simp <;> omega
theorem low_lt (s : Sch) (t : Int) (key : Row) : ∀ (l : List Row) (k : Nat), k < low s t key l → cmpR (keyF s t (l.getD k [])) key < 0
 | [], k, h => by simp [low] at h
 | r :: l, k, h => by
  unfold low at h
  split at h
  · rename_i hr
    cases k with
    | zero => exact hr
    | succ k => exact low_lt s t key l k (by omega)
  · omega
theorem low_ge (s : Sch) (t : Int) (key : Row) : ∀ (l : List Row), low s t key l < l.length → 0 ≤ cmpR (keyF s t (l.getD (low s t key l) [])) key
 | [], h => by simp at h
 | r :: l, h => by
  by_cases hr : cmpR (keyF s t r) key < 0
  · have e : low s t key (r :: l) = low s t key l + 1 := by rw [low, if_pos hr]
    rw [e] at h ⊢
    exact low_ge s t key l (by simpa using h)
  · have e : low s t key (r :: l) = 0 := by rw [low, if_neg hr]
    rw [e]
    simpa using hr
theorem low_iff {s : Sch} {t : Int} {l : List Row} (ha : Asc s t l) (key : Row) {k : Nat} (hk : k < l.length) : cmpR (keyF s t (l.getD k [])) key < 0 ↔ k < low s t key l := by
 constructor
 · intro h
   rcases Nat.lt_or_ge k (low s t key l) with h1 | h1
   · exact h1
   · have h2 := low_ge s t key l (by omega)
     rcases Nat.lt_or_eq_of_le h1 with h3 | h3
     · have h4 := cmpR_is.lt_trans (ha _ _ h3 hk) h
       omega
     · rw [h3] at h2; omega
 · exact low_lt s t key l k
end Go.Proofs.Ytkpjjfhfbpfjpaa

namespace Go.Proofs.Ytkpjjfhfbpfjpaa
theorem rowsOk_asc (s : Sch) (t m : Int) : ∀ (l : List Row) (p : Option Row), rowsOk s t m p l = true → (∀ q, p = some q → ∀ j, j < l.length → cmpR (keyF s t q) (keyF s t (l.getD j [])) < 0) ∧ Asc s t l
 | [], p, _ => ⟨fun _ _ j hj => by simp at hj, fun i j _ hj => by simp at hj⟩
 | r :: l, p, h => by
  simp only [rowsOk, Bool.and_eq_true] at h
  obtain ⟨⟨h1, h2⟩, h3⟩ := h
  obtain ⟨h4, h5⟩ := rowsOk_asc s t m l (some r) h3
  have h6 : ∀ q, p = some q → cmpR (keyF s t q) (keyF s t r) < 0 := fun q e => by subst e; exact of_decide_eq_true h2
  refine ⟨fun q e j hj => ?_, fun i j hij hj => ?_⟩
  · cases j with
    | zero => exact h6 q e
    | succ j => exact cmpR_is.lt_trans (h6 q e) (h4 r rfl j (by simpa using hj))
  · cases j with
    | zero => omega
    | succ j =>
     cases i with
     | zero => exact h4 r rfl j (by simpa using hj)
     | succ i => exact h5 i j (by omega) (by simpa using hj)
theorem stOk_rows (s : Sch) (m : Int) : ∀ (st : St) (t k : Nat), stOk s m t st = true → k < st.length → rowsOk s ((t + k : Nat) : Int) m none (st.getD k []) = true
 | [], t, k, _, hk => by simp at hk
 | l :: st, t, k, h, hk => by
  simp only [stOk, Bool.and_eq_true] at h
  cases k with
  | zero => exact h.1
  | succ k =>
   have := stOk_rows s m st (t + 1) k h.2 (by simpa using hk)
   rw [show t + 1 + k = t + (k + 1) by omega] at this
   exact this
theorem stOk_asc {s : Sch} {m : Int} {st : St} (h : stOk s m 0 st = true) (k : Nat) (hk : k < st.length) : Asc s k (st.getD k []) := by
 have := stOk_rows s m st 0 k h hk
 rw [Nat.zero_add] at this
 exact (rowsOk_asc s k m _ none this).2
theorem countF_set (st : St) (t : Nat) (l : List Row) (h : t < st.length) : (countF (st.set t l) : Int) = countF st + (l.length - (st.getD t []).length : Int) := by
 induction st generalizing t with
 | nil => simp at h
 | cons a r ih =>
  cases t with
  | zero => simp only [List.set_cons_zero, countF, List.getD_cons_zero]; omega
  | succ t =>
   have := ih t (by simpa using h)
   simp only [List.set_cons_succ, countF, List.getD_cons_succ]
   omega
theorem getD_le_count (st : St) (t : Nat) : (st.getD t []).length ≤ countF st := by
 induction st generalizing t with
 | nil => simp
 | cons a r ih =>
  cases t with
  | zero => simp [countF]
  | succ t => have := ih t; simp only [countF, List.getD_cons_succ]; omega
theorem key_new {s : Sch} {m : Int} {c : Chg} (hv : validC s m c = true) (hn : 0 < c.new.length) : keyF s c.table c.new = keyC s c := by
 unfold keyC
 split
 · rename_i h0
   unfold validC at hv
   simp only [Bool.and_eq_true, Bool.or_eq_true, decide_eq_true_eq, beq_iff_eq] at hv
   rcases hv.2 with (h | h) | h
   · omega
   · omega
   · exact ((cmpR_is.zero _ _).1 h).symm
 · rfl
theorem getD_app1 (a b : List Row) (i : Nat) (h : i < a.length) : (a ++ b).getD i [] = a.getD i [] := by simp [List.getD, List.getElem?_append_left h]
theorem getD_app2 (a b : List Row) (i : Nat) (h : a.length ≤ i) : (a ++ b).getD i [] = b.getD (i - a.length) [] := by simp [List.getD, List.getElem?_append_right h]
theorem asc_append {s : Sch} {t : Int} {a b : List Row} (ha : Asc s t a) (hb : Asc s t b) (hab : ∀ x ∈ a, ∀ y ∈ b, cmpR (keyF s t x) (keyF s t y) < 0) : Asc s t (a ++ b) := by
 intro i j hij hj
 rw [List.length_append] at hj
 by_cases h1 : j < a.length
 · rw [getD_app1 _ _ _ (by omega), getD_app1 _ _ _ h1]
   exact ha i j hij h1
 · by_cases h2 : i < a.length
   · rw [getD_app1 _ _ _ h2, getD_app2 _ _ _ (by omega)]
     refine hab _ ?_ _ ?_
     · simp [List.getD, h2]
     · have : j - a.length < b.length := by omega
       simp [List.getD, this]
   · rw [getD_app2 _ _ _ (by omega), getD_app2 _ _ _ (by omega)]
     exact hb _ _ (by omega) (by omega)
theorem asc_take {s : Sch} {t : Int} {l : List Row} (h : Asc s t l) (k : Nat) : Asc s t (l.take k) := by
 intro i j hij hj
 rw [List.length_take] at hj
 have e : ∀ x, x < k → (l.take k).getD x [] = l.getD x [] := fun x hx => by simp [List.getD, List.getElem?_take, hx]
 rw [e i (by omega), e j (by omega)]
 exact h i j hij (by omega)
theorem getD_drop {l : List Row} (k i : Nat) : (l.drop k).getD i [] = l.getD (k + i) [] := by simp [List.getD, List.getElem?_drop]
theorem asc_drop {s : Sch} {t : Int} {l : List Row} (h : Asc s t l) (k : Nat) : Asc s t (l.drop k) := by
 intro i j hij hj
 rw [List.length_drop] at hj
 rw [getD_drop, getD_drop]
 exact h _ _ (by omega) (by omega)
theorem mem_getD {l : List Row} {x : Row} (h : x ∈ l) : ∃ i, i < l.length ∧ l.getD i [] = x := by
 obtain ⟨i, hi, e⟩ := List.mem_iff_getElem.1 h
 exact ⟨i, hi, by simp [List.getD, hi, e]⟩
theorem asc_one (s : Sch) (t : Int) (r : Row) : Asc s t [r] := fun i j hij hj => by simp at hj; omega
theorem low_behind {s : Sch} {t : Int} {key : Row} {l : List Row} (ha : Asc s t l) {k : Nat} (hk : k < l.length) (h1 : low s t key l ≤ k) (h2 : k = low s t key l → cmpR (keyF s t (l.getD k [])) key ≠ 0) : cmpR key (keyF s t (l.getD k [])) < 0 := by
 have h3 := low_ge s t key l (by omega)
 have hfl : ∀ a b : Row, cmpR b a = - cmpR a b := cmpR_is.flip
 rcases Nat.lt_or_eq_of_le h1 with h4 | h4
 · have h5 := ha _ _ h4 hk
   have h6 : cmpR key (keyF s t (l.getD (low s t key l) [])) ≤ 0 := by rw [hfl]; omega
   exact cmpR_is.le_lt_trans h6 h5
 · subst h4
   have := h2 rfl
   rw [hfl]
   omega
theorem asc_put {s : Sch} {m : Int} {c : Chg} {l : List Row} (ha : Asc s c.table l) (hv : validC s m c = true) : Asc s c.table (putC s c l) := by
 unfold putC
 have hlt : ∀ x ∈ l.take (low s c.table (keyC s c) l), cmpR (keyF s c.table x) (keyC s c) < 0 := by
  intro x hx
  obtain ⟨i, hi, e⟩ := mem_getD hx
  rw [List.length_take] at hi
  have e2 : (l.take (low s c.table (keyC s c) l)).getD i [] = l.getD i [] := by simp [List.getD, List.getElem?_take, show i < low s c.table (keyC s c) l by omega]
  rw [← e, e2]
  exact low_lt s c.table (keyC s c) l i (by omega)
 have hgt : ∀ y ∈ (if foundF s c l then l.drop (low s c.table (keyC s c) l + 1) else l.drop (low s c.table (keyC s c) l)), cmpR (keyC s c) (keyF s c.table y) < 0 := by
  intro y hy
  cases hf : foundF s c l with
  | true =>
   rw [hf] at hy
   obtain ⟨i, hi, e⟩ := mem_getD hy
   simp only [if_true, List.length_drop] at hi
   simp only [if_true, getD_drop] at e
   rw [← e]
   exact low_behind ha (by omega) (by omega) (fun h => by omega)
  | false =>
   rw [hf] at hy
   obtain ⟨i, hi, e⟩ := mem_getD hy
   simp only [Bool.false_eq_true, if_false, List.length_drop] at hi
   simp only [Bool.false_eq_true, if_false, getD_drop] at e
   rw [← e]
   refine low_behind ha (by omega) (by omega) (fun h => ?_)
   have hi0 : i = 0 := by omega
   subst hi0
   unfold foundF at hf
   rw [decide_eq_true (show low s c.table (keyC s c) l < l.length by omega), Bool.true_and] at hf
   rw [Nat.add_zero]
   exact beq_eq_false_iff_ne.1 hf
 have hdr : Asc s c.table (if foundF s c l then l.drop (low s c.table (keyC s c) l + 1) else l.drop (low s c.table (keyC s c) l)) := by split <;> exact asc_drop ha _
 by_cases hn : 0 < c.new.length
 · rw [if_pos hn]
   have hk := key_new hv hn
   refine asc_append (asc_append (asc_take ha _) (asc_one _ _ _) (fun x hx y hy => ?_)) hdr (fun x hx y hy => ?_)
   · rw [List.mem_singleton] at hy
     rw [hy, hk]
     exact hlt x hx
   · rcases List.mem_append.1 hx with hx | hx
     · exact cmpR_is.lt_trans (hlt x hx) (hgt y hy)
     · rw [List.mem_singleton] at hx
       rw [hx, hk]
       exact hgt y hy
 · rw [if_neg hn, List.append_nil]
   exact asc_append (asc_take ha _) hdr (fun x hx y hy => cmpR_is.lt_trans (hlt x hx) (hgt y hy))
theorem put_len (s : Sch) (c : Chg) (l : List Row) : (putC s c l).length ≤ l.length + 1 := by
 unfold putC
 have := low_le s c.table (keyC s c) l
 simp only [List.length_append, List.length_take]
 split <;> split <;> simp <;> omega
theorem check_ok {e : Int} {s : Sch} {m : Int} {st : St} (h : checkF e s m st = 0) : countF st ≤ 512 ∧ st.length = s.tabs.length ∧ stOk s m 0 st = true := by
 unfold checkF at h
 split at h
 · omega
 · split at h
   · omega
   · split at h
     · omega
     · rename_i h1 h2 h3
       split at h
       · rename_i h4
         exact ⟨by omega, by simpa using h3, h4⟩
       · omega
end Go.Proofs.Ytkpjjfhfbpfjpaa

