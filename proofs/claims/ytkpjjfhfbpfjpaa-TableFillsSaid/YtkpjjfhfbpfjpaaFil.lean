/- The walk of TableFills. -/
import Derived.Test.YtkpjjfhfbpfjpaaTwo
namespace Go.Proofs.Ytkpjjfhfbpfjpaa
open Go.RowKit
set_option linter.unusedVariables false
set_option linter.unusedSimpArgs false

def chgsF (k : Nat) : List Chg := (List.range' 504 (k - 504)).map chF
theorem chgsF_len (k : Nat) : (chgsF k).length = k - 504 := by simp [chgsF]
theorem chgsF_succ {k : Nat} (h : 504 ≤ k) : chgsF (k + 1) = chgsF k ++ [chF k] := by
  unfold chgsF
  rw [show k + 1 - 504 = (k - 504) + 1 by omega, List.range'_concat, List.map_append]
  simp only [List.map_cons, List.map_nil]
  rw [show 504 + 1 * (k - 504) = k by omega]
theorem chgsF_low {k : Nat} (h : k < 504) : chgsF (k + 1) = chgsF k := by unfold chgsF; rw [show k + 1 - 504 = 0 by omega, show k - 504 = 0 by omega]
def filOs (n : Nat) : List Obj := [
  .cells #[.string ⟨#[105, 100]⟩, .int .i64 4] 34 (0, 0),
  .cells #[.string ⟨#[116]⟩, .slice (some ⟨n, 0, none⟩) 1 1, .int .i64 1, .slice none 0 0, .slice none 0 0] 39 (0, 0),
  .cells #[.int .i64 0, .slice (some ⟨n + 1, 0, none⟩) 1 1] 25 (0, 0)]
/-- What the loop of TableFills holds behind k rounds. -/
def FilI (W0 wr : World) (k : Nat) (l r : Value) : Prop := ∃ A1 c1 A2 c2, r = .slice A1 k c1 ∧ l = .slice A2 (k - 504) c2 ∧
  Two wr W0.heap.size (.slice A1 k c1) ((rowsF k).map encRow) 27 1 (.slice A2 (k - 504) c2) ((chgsF k).map encChg) 53 3 ∧ Below W0.heap.size W0 wr

set_option maxRecDepth 100000 in
set_option maxHeartbeats 4000000 in
theorem fills_walk (m : Int) (hm0 : 0 ≤ m) (hm1 : m ≤ 255) (w : World) : Calls Try.prog 4 #[.int .u8 m] w (BoolBel true w) := by
  obtain ⟨i0, hi, hz0, hz1, hz2⟩ := info_parts infoR
  obtain ⟨j0, hj, hy0, hy1, hy2⟩ := info_parts infoC
  obtain ⟨K, hK, hK1, hK2⟩ : ∃ K : Nat, (509 : Int) + m % 6 = K ∧ 509 ≤ K ∧ K ≤ 514 := ⟨(509 + m % 6).toNat, by omega, by omega, by omega⟩
  have HK := Lib.hid hK
  clear hK
  go_enter Try.func4, Try.ntmps4
  go_wp2_with fail
  rw [HK.out]
  change Code.wp Try.prog _ _ _ ((filOs w.heap.size).foldl World.alloc w)
  obtain ⟨W0, hW⟩ : ∃ W0, (filOs w.heap.size).foldl World.alloc w = W0 := ⟨_, rfl⟩
  obtain ⟨hWB, hWs⟩ := allocs_below (filOs w.heap.size) w
  have hk : ∀ k (hk : k < 3), W0.heap[w.heap.size + k]? = (filOs w.heap.size)[k]? := fun k hk => by rw [← hW]; exact allocs_at _ _ _ hk
  rw [hW] at hWB hWs
  have hWs' : W0.heap.size = w.heap.size + 3 := hWs
  have HWB0 := Lib.hid hWB
  have HT := Lib.hid (show TabS W0 (fun b => b < W0.heap.size) (some ⟨w.heap.size + 1, 0, none⟩) sFs.tabs from tab_block (hk 1 (by omega)) rfl (by decide) (by omega) (by decide) (col1_block (hk 0 (by omega)) (by omega)))
  have y0 : W0.cell? ⟨w.heap.size + 1 + 1, 0, none⟩ = some (.int .i64 0) := (cells_of_block (hk 2 (by omega))) 0 _ rfl
  have y1 : W0.cell? ⟨w.heap.size + 1 + 1, 1, none⟩ = some (.slice (some ⟨w.heap.size + 1, 0, none⟩) 1 1) := (cells_of_block (hk 2 (by omega))) 1 _ rfl
  rw [hW]
  have HWS := Lib.hid hWs'
  have hl0 : w.heap.size + 3 ≤ W0.heap.size := by omega
  clear hW hk hWs hWB hWs'
  go_loopw [4, 5, 7] (fun l r i wr => ∃ k : Nat, k ≤ K ∧ i = .int .i64 k ∧ FilI W0 wr k l r) (fun _ _ i _ => K - (intOf i).toNat)
  case atStart => exact ⟨0, Nat.zero_le _, rfl, none, 0, none, 0, rfl, rfl, Two.start _ _ _ _ _ _, Below.refl _ _⟩
  case round =>
    obtain ⟨k, hk, rfl, A1, c1, A2, c2, rfl, rfl, htwo, hbw⟩ := hrel
    have HTWO := Lib.hid htwo
    have HBW := Lib.hid hbw
    have hsw := hbw.size
    clear htwo hbw
    by_cases hkl : k < K
    · obtain ⟨Wx, hWx⟩ : ∃ Wx, (wr.alloc (.cells #[.int .i64 4, .int .i64 (k : Int), .string ⟨#[]⟩] 51)).alloc (.cells #[.slice (some ⟨wr.heap.size, 0, none⟩) 1 1] 27) = Wx := ⟨_, rfl⟩
      have hbx : Below wr.heap.size wr Wx := by rw [← hWx]; exact ((Below.refl _ wr).alloc (Nat.le_refl _) _).alloc (by simp) _
      have hsx : Wx.heap.size = wr.heap.size + 2 := by rw [← hWx]; simp
      have hrb : Wx.heap[wr.heap.size]? = some (.cells #[.int .i64 4, .int .i64 (k : Int), .string ⟨#[]⟩] 51 (0, 0)) := by rw [← hWx]; exact (Below.heap_alloc _ _ _ (by simp)).trans (heap_alloc_new wr _)
      have hnb : Wx.heap[wr.heap.size + 1]? = some (.cells #[.slice (some ⟨wr.heap.size, 0, none⟩) 1 1] 27 (0, 0)) := by
        rw [← hWx]
        have h := heap_alloc_new (wr.alloc (.cells #[.int .i64 4, .int .i64 (k : Int), .string ⟨#[]⟩] 51)) (.cells #[.slice (some ⟨wr.heap.size, 0, none⟩) 1 1] 27)
        rwa [World.size_alloc] at h
      have hTX := HTWO.out.below hbx
      have hob1 : ∀ g, (Value.slice A1 k c1).ownBlock = some g → g < wr.heap.size := fun g hg => by obtain ⟨_, q, _⟩ := HTWO.out.o1; exact own_lt q hg
      have hob2 : ∀ g, (Value.slice A2 (k - 504) c2).ownBlock = some g → g < wr.heap.size := fun g hg => by obtain ⟨_, q, _⟩ := HTWO.out.o2; exact own_lt q hg
      have hin : Beh2 W0.heap.size Wx (.slice A1 k c1) (.slice A2 (k - 504) c2) wr.heap.size := ⟨hsw, by omega, fun e => by have := hob1 _ e.symm; omega, fun e => by have := hob2 _ e.symm; omega⟩
      have HROW := Lib.hid (rowI_block (k := k) hrb hin)
      obtain ⟨vals, hown, hvals, _⟩ := hTX.o1
      rw [List.length_map, rowsF_len] at hown
      have HOWN := Lib.hid hown
      have HVALS := Lib.hid hvals
      have HTX := Lib.hid hTX
      have HNEWS := Lib.hid (World.news_of_block hnb)
      have HSX := Lib.hid hsx
      have HBX := Lib.hid hbx
      have HWX := Lib.hid hWx
      clear hbx hsx hrb hnb hTX hown hvals hin hWx
      by_cases hk5 : 504 ≤ k
      · have hd : decide ((504 : Int) ≤ (k : Int)) = true := decide_eq_true (by omega)
        go_wp2_with (first
          | (at_builtin; rw [HWX.out]; refine wpList_append_lies _ rfl (.tmp 30) (.tmp 32) 49 rfl W0.heap.size 27 i0 _ 1 24 Try.underlying49 hi hz0 hz1 hz2 rfl (by decide) (.slice A1 k c1) k vals rfl HOWN.out ⟨wr.heap.size + 1, 0, none⟩ 1 1 [.slice (some ⟨wr.heap.size, 0, none⟩) 1 1] rfl rfl HNEWS.out (by simp [Value.oneCell']) (by omega) (by unfold maxLen; omega) (by omega) (by have := HSX.out; omega) (wr.heap.size + 2) HSX.out ?_; intro g3 cap3 w3 hown3 hg3 hat3 hlt3; have hP := HTX.out.push HVALS.out (vals_row (c := 1) (Nat.le_refl _) HROW.out) (by rw [List.length_map, rowsF_len]) hown3 hg3 (hat3.imp id (fun h => by rw [h, HSX.out])) rfl; have HP := Lib.hid hP; have HS3 := Lib.hid hg3.size; have HB3 := Lib.hid (show Below W0.heap.size W0 w3 from (HBW.out.trans (HBX.out.mono hsw)).grown hg3 (by have := HSX.out; omega) (fun g e => by obtain ⟨_, q, _⟩ := HTWO.out.o1; exact own_base q e)); clear hP hown3 hg3 hat3; have HTY := Lib.hid (HP.out.1.swap.below (Wa := w3.alloc (.cells #[.int .i64 0, .slice none 0 0, .slice (some ⟨wr.heap.size, 0, none⟩) 1 1] 53)) ((Below.refl _ w3).alloc (Nat.le_refl _) _)); obtain ⟨vals2, hown2, hvals2, _⟩ := HTY.out.o1; rw [List.length_map, chgsF_len] at hown2; have HOWN2 := Lib.hid hown2; have HVALS2 := Lib.hid hvals2; have HROW3 := Lib.hid (((HROW.out.keep HP.out.2.2).more HP.out.2.1).keep (w' := w3.alloc (.cells #[.int .i64 0, .slice none 0 0, .slice (some ⟨wr.heap.size, 0, none⟩) 1 1] 53)) (fun b hb => Below.heap_alloc w3 _ b hb.2.1)); have HBY := Lib.hid (HB3.out.alloc HB3.out.size (.cells #[.int .i64 0, .slice none 0 0, .slice (some ⟨wr.heap.size, 0, none⟩) 1 1] 53)); clear hown2 hvals2)
          | (at_builtin; refine wpList_append_lies _ rfl (.tmp 36) (.tmp 39) 48 rfl W0.heap.size 53 j0 _ 3 56 Try.underlying48 hj hy0 hy1 hy2 rfl (by decide) (.slice A2 (k - 504) c2) (k - 504) vals2 rfl HOWN2.out ⟨w3.heap.size, 0, none⟩ 1 1 [.int .i64 0, .slice none 0 0, .slice (some ⟨wr.heap.size, 0, none⟩) 1 1] rfl rfl (World.news_of_block (cs := #[.int .i64 0, .slice none 0 0, .slice (some ⟨wr.heap.size, 0, none⟩) 1 1]) (t := 53) (fr := (0, 0)) (heap_alloc_new w3 _)) (by simp [Value.oneCell']) (by omega) (by unfold maxLen; omega) (by omega) (by have := HB3.out.size; simp; omega) (w3.heap.size + 1) (by simp) ?_; intro g4 cap4 w4 hown4 hg4 hat4 hlt4; have hQ := HTY.out.push HVALS2.out (vals_chg (t := 0) (old := []) (A := none) (c := 0) (new := rowI k) (B := some ⟨wr.heap.size, 0, none⟩) (d := 1) ⟨Nat.le_refl _, RowS.nil_⟩ ⟨Nat.le_refl _, HROW3.out.more (fun b hb => ⟨hb.1, by have := hb.2.1; simp; omega, hb.2.2.2, hb.2.2.1⟩)⟩) (by rw [List.length_map, chgsF_len]) hown4 hg4 (hat4.imp id (fun h => by rw [h]; simp)) rfl; have HQ := Lib.hid hQ; have HB4 := Lib.hid (HBY.out.grown hg4 (by have := HB3.out.size; simp; omega) (fun g e => by obtain ⟨_, q, _⟩ := HTWO.out.o2; exact own_base q e)); clear hQ hown4 hg4 hat4))
        go_roundw
        case rel =>
          refine ⟨k + 1, by omega, by go_num, some ⟨g3, 0, none⟩, cap3, some ⟨g4, 0, none⟩, cap4, rfl, by rw [show k + 1 - 504 = k - 504 + 1 by omega], ?_, HB4.out⟩
          have h := HQ.out.1.swap
          rw [show k + 1 - 504 = k - 504 + 1 by omega, rowsF_succ, chgsF_succ hk5, List.map_append, List.map_append]
          exact h
        case measure => simp [intOf]; omega
      · have hd : decide ((504 : Int) ≤ (k : Int)) = false := decide_eq_false (by omega)
        go_wp2_with ((at_builtin; rw [HWX.out]; refine wpList_append_lies _ rfl (.tmp 30) (.tmp 32) 49 rfl W0.heap.size 27 i0 _ 1 24 Try.underlying49 hi hz0 hz1 hz2 rfl (by decide) (.slice A1 k c1) k vals rfl HOWN.out ⟨wr.heap.size + 1, 0, none⟩ 1 1 [.slice (some ⟨wr.heap.size, 0, none⟩) 1 1] rfl rfl HNEWS.out (by simp [Value.oneCell']) (by omega) (by unfold maxLen; omega) (by omega) (by have := HSX.out; omega) (wr.heap.size + 2) HSX.out ?_; intro g3 cap3 w3 hown3 hg3 hat3 hlt3; have hP := HTX.out.push HVALS.out (vals_row (c := 1) (Nat.le_refl _) HROW.out) (by rw [List.length_map, rowsF_len]) hown3 hg3 (hat3.imp id (fun h => by rw [h, HSX.out])) rfl; have HP := Lib.hid hP; have HS3 := Lib.hid hg3.size; have HB3 := Lib.hid (show Below W0.heap.size W0 w3 from (HBW.out.trans (HBX.out.mono hsw)).grown hg3 (by have := HSX.out; omega) (fun g e => by obtain ⟨_, q, _⟩ := HTWO.out.o1; exact own_base q e)); clear hP hown3 hg3 hat3))
        go_roundw
        case rel =>
          refine ⟨k + 1, by omega, by go_num, some ⟨g3, 0, none⟩, cap3, A2, c2, rfl, by rw [show k + 1 - 504 = k - 504 by omega], ?_, HB3.out⟩
          have h := HP.out.1
          rw [show k + 1 - 504 = k - 504 by omega, rowsF_succ, chgsF_low (by omega), List.map_append]
          exact h
        case measure => simp [intOf]; omega
    · obtain rfl : k = K := by omega
      have HSCH := Lib.hid sch_sF
      obtain ⟨hn1, hn2, hrs⟩ := HTWO.out.o1.slice (S' := fun b => b < wr.heap.size) (by rw [bytesAll_map (n := 24) (fun _ => rfl), rowsF_len]; omega) (fun b hb => hb.2.1) (fun g _ h _ => h)
      obtain ⟨hm1', hm2', hcs⟩ := HTWO.out.o2.slice (S' := fun b => b < wr.heap.size) (by rw [bytesAll_map (n := 56) (fun _ => rfl), chgsF_len]; omega) (fun b hb => hb.2.1) (fun g _ h _ => h)
      have HRS := Lib.hid (show RowsS wr (fun b => b < wr.heap.size) A1 (rowsF k) from hrs)
      have HCS := Lib.hid (show ChgS wr (fun b => b < wr.heap.size) A2 (chgsF k) from hcs)
      have hcap1 : k ≤ c1 := hn2
      have h504 : (504 : Int) ≤ c1 := by omega
      have z0 := (HBW.out.cell (p := ⟨w.heap.size + 1 + 1, 0, none⟩) (by simp; omega)).trans y0
      have z1 := (HBW.out.cell (p := ⟨w.heap.size + 1 + 1, 1, none⟩) (by simp; omega)).trans y1
      have hq0 : w.heap.size + 1 + 1 < wr.heap.size := by omega
      have hq0' : w.heap.size + 1 + 1 < wr.heap.size + 1 := by omega
      obtain ⟨b1, hb1⟩ : ∃ b1, A1 = some ⟨b1, 0, none⟩ := by
        obtain ⟨_, q, _⟩ := HTWO.out.o1
        rw [List.length_map, rowsF_len] at q
        obtain ⟨g, c, e, _⟩ := q.form (by omega)
        exact ⟨g, by injection e⟩
      subst hb1
      clear hn1 hn2 hrs hm1' hm2' hcs
      go_wp2_with fail
      obtain ⟨Wz, hWz⟩ : ∃ Wz, (wr.alloc (.cells #[.slice (some ⟨b1, 0, none⟩) 504 c1] 49)).alloc (.cells #[.slice (some ⟨wr.heap.size, 0, none⟩) 1 1] 56) = Wz := ⟨_, rfl⟩
      have hbz : Below wr.heap.size wr Wz := by rw [← hWz]; exact ((Below.refl _ wr).alloc (Nat.le_refl _) _).alloc (by simp) _
      have hsz : Wz.heap.size = wr.heap.size + 2 := by rw [← hWz]; simp
      have hsb : Wz.heap[wr.heap.size]? = some (.cells #[.slice (some ⟨b1, 0, none⟩) 504 c1] 49 (0, 0)) := by rw [← hWz]; exact (Below.heap_alloc _ _ _ (by simp)).trans (heap_alloc_new wr _)
      have hl504 : (rowsF 504).length = 504 := rowsF_len 504
      have hrz : RowsS Wz (fun b => b < Wz.heap.size) (some ⟨b1, 0, none⟩) (rowsF 504) := by
        have h := take_rows HRS.out 504 (by rw [rowsF_len]; omega)
        rw [rowsF_take _ _ (by omega)] at h
        exact (h.keep (fun b hb => hbz.block b hb)).more (fun b hb => by omega)
      have hstz : StS Wz (fun b => b < Wz.heap.size) (some ⟨wr.heap.size, 0, none⟩) [rowsF 504] := st_block (c := c1) (by rw [hl504]; exact hsb) (by omega) (by rw [hl504]; omega) hrz
      have hcz : ChgS Wz (fun b => b < Wz.heap.size) A2 (chgsF k) := (HCS.out.keep (fun b hb => hbz.block b hb)).more (fun b hb => by omega)
      have htz : TabS Wz (fun b => b < Wz.heap.size) (some ⟨w.heap.size + 1, 0, none⟩) sFs.tabs := (HT.out.keep (fun b hb => (hbz.block b (by omega)).trans (HBW.out.block b hb))).more (fun b hb => by omega)
      have hAP := apply_any pc0 (some ⟨w.heap.size + 1, 0, none⟩) 1 sFs 1 (some ⟨wr.heap.size, 0, none⟩) 1 [rowsF 504] A2 c2 (chgsF k) (fun b => b < Wz.heap.size) Wz htz hstz hcz (fun b hb => hb) preds_sF (by simp [countF, rowsF_len])
      rw [sch_sF, show applyF 0 sFs 1 [rowsF 504] (chgsF k) = if 512 < k then (2, []) else (0, [rowsF k]) from applyF_f _ _ k (by omega) (by omega), chgsF_len] at hAP
      change Calls Try.prog _ _ ((wr.alloc (.cells #[.slice (some ⟨b1, 0, none⟩) 504 c1] 49)).alloc (.cells #[.slice (some ⟨wr.heap.size, 0, none⟩) 1 1] 56)) _
      rw [hWz]
      refine (show Calls _ _ _ _ _ from hAP).mono ?_
      rintro e w5 ⟨A5, c5, rfl, hc5, hS5, hb5⟩
      have HS5 := Lib.hid hS5
      have hz5 := hb5.size
      have x0 := (hb5.cell (p := ⟨w.heap.size + 1 + 1, 0, none⟩) (by simp; omega)).trans ((hbz.cell (p := ⟨w.heap.size + 1 + 1, 0, none⟩) (by simp; omega)).trans z0)
      have x1 := (hb5.cell (p := ⟨w.heap.size + 1 + 1, 1, none⟩) (by simp; omega)).trans ((hbz.cell (p := ⟨w.heap.size + 1 + 1, 1, none⟩) (by simp; omega)).trans z1)
      have HBR5 := Lib.hid (show Below wr.heap.size wr w5 from hbz.trans (hb5.mono (by omega)))
      have hz5' : wr.heap.size + 2 ≤ w5.heap.size := by omega
      have hq5 : w.heap.size + 1 + 1 < w5.heap.size := by omega
      have hq5' : w.heap.size + 1 + 1 < w5.heap.size + 1 := by omega
      have HSZ := Lib.hid hsz
      clear hAP hS5 hc5 hb5 hbz hsb hrz hstz hcz htz hWz hsz hl504 z0 z1 hq0 hq0'
      by_cases h512 : 512 < k
      · rw [if_pos h512] at HS5 ⊢
        dsimp only
        go_wp2_with fail
        obtain ⟨W6, hW6⟩ : ∃ W6, (w5.alloc (.cells #[.slice A5 0 c5] 56)).alloc (.cells #[.slice (some ⟨b1, 0, none⟩) k c1] 49) = W6 := ⟨_, rfl⟩
        have hb6 : Below w5.heap.size w5 W6 := by rw [← hW6]; exact ((Below.refl _ w5).alloc (Nat.le_refl _) _).alloc (by simp) _
        have hs6 : W6.heap.size = w5.heap.size + 2 := by rw [← hW6]; simp
        have hsb6 : W6.heap[w5.heap.size + 1]? = some (.cells #[.slice (some ⟨b1, 0, none⟩) k c1] 49 (0, 0)) := by
          rw [← hW6]
          have h := heap_alloc_new (w5.alloc (.cells #[.slice A5 0 c5] 56)) (.cells #[.slice (some ⟨b1, 0, none⟩) k c1] 49)
          rwa [World.size_alloc] at h
        have hx6 : W6.heap[w5.heap.size]? = some (.cells #[.slice A5 0 c5] 56 (0, 0)) := by rw [← hW6]; exact (Below.heap_alloc _ _ _ (by simp)).trans (heap_alloc_new w5 _)
        have hlk : (rowsF k).length = k := rowsF_len k
        have hb06 : Below wr.heap.size wr W6 := HBR5.out.trans (hb6.mono (by omega))
        have hr6 : RowsS W6 (fun b => b < W6.heap.size) (some ⟨b1, 0, none⟩) (rowsF k) := (HRS.out.keep (fun b hb => hb06.block b hb)).more (fun b hb => by omega)
        have hst6 : StS W6 (fun b => b < W6.heap.size) (some ⟨w5.heap.size + 1, 0, none⟩) [rowsF k] := st_block (c := c1) (by rw [hlk]; exact hsb6) (by omega) (by rw [hlk]; omega) hr6
        have ht6 : TabS W6 (fun b => b < W6.heap.size) (some ⟨w.heap.size + 1, 0, none⟩) sFs.tabs := (HT.out.keep (fun b hb => (hb06.block b (by omega)).trans (HBW.out.block b hb))).more (fun b hb => by omega)
        have hCK := tcheck_any pc0 (some ⟨w.heap.size + 1, 0, none⟩) 1 sFs 1 (some ⟨w5.heap.size + 1, 0, none⟩) 1 [rowsF k] (fun b => b < W6.heap.size) W6 ht6 hst6 (fun b hb => hb) preds_sF (by simp [countF, rowsF_len]; omega)
        rw [sch_sF, show checkF 0 sFs 1 [rowsF k] = if 512 < k then 2 else 0 from check_f _ _ k, if_pos h512] at hCK
        change Calls Try.prog _ _ ((w5.alloc (.cells #[.slice A5 0 c5] 56)).alloc (.cells #[.slice (some ⟨b1, 0, none⟩) k c1] 49)) _
        rw [hW6]
        refine (show Calls _ _ _ _ _ from hCK).mono ?_
        rintro e w7 ⟨rfl, hb7⟩
        have hz7 := hb7.size
        have HB7 := Lib.hid (show Below wr.heap.size wr w7 from hb06.trans (hb7.mono (by omega)))
        have HB57 := Lib.hid (show Below w5.heap.size w5 w7 from hb6.trans (hb7.mono (by omega)))
        have hx7 : w7.cell? ⟨w5.heap.size, 0, none⟩ = some (.slice A5 0 c5) := cells_of_block ((hb7.block _ (by omega)).trans hx6) 0 _ rfl
        have hz57 : w5.heap.size + 2 ≤ w7.heap.size := by omega
        have HS6 := Lib.hid hs6
        clear hCK hb7 hb6 hsb6 hx6 hr6 hst6 ht6 hb06 hW6 hs6 hlk x0 x1
        have hdk : decide ((512 : Int) < (k : Int)) = true := decide_eq_true (by omega)
        go_wp2_with fail
        refine (begun8_any _).mono ?_
        rintro e w8 ⟨rfl, hb8⟩
        have hx8 := (hb8.cell (p := ⟨w5.heap.size, 0, none⟩) (by simp; omega)).trans hx7
        have HB8 := Lib.hid (show Below wr.heap.size wr w8 from HB7.out.trans (hb8.mono (by omega)))
        have HB58 := Lib.hid (show Below w5.heap.size w5 w8 from HB57.out.trans (hb8.mono (by omega)))
        have hz8 := hb8.size
        clear hb8 hx7
        go_wp2_with fail
        go_ret
        exact ⟨rfl, HWB0.out.trans ((HBW.out.trans (HB8.out.mono hsw)).mono (by omega))⟩
      · rw [if_neg h512] at HS5 ⊢
        dsimp only
        go_wp2_with fail
        obtain ⟨W6, hW6⟩ : ∃ W6, (w5.alloc (.cells #[.slice A5 1 c5] 56)).alloc (.cells #[.slice (some ⟨b1, 0, none⟩) k c1] 49) = W6 := ⟨_, rfl⟩
        have hb6 : Below w5.heap.size w5 W6 := by rw [← hW6]; exact ((Below.refl _ w5).alloc (Nat.le_refl _) _).alloc (by simp) _
        have hs6 : W6.heap.size = w5.heap.size + 2 := by rw [← hW6]; simp
        have hsb6 : W6.heap[w5.heap.size + 1]? = some (.cells #[.slice (some ⟨b1, 0, none⟩) k c1] 49 (0, 0)) := by
          rw [← hW6]
          have h := heap_alloc_new (w5.alloc (.cells #[.slice A5 1 c5] 56)) (.cells #[.slice (some ⟨b1, 0, none⟩) k c1] 49)
          rwa [World.size_alloc] at h
        have hx6 : W6.heap[w5.heap.size]? = some (.cells #[.slice A5 1 c5] 56 (0, 0)) := by rw [← hW6]; exact (Below.heap_alloc _ _ _ (by simp)).trans (heap_alloc_new w5 _)
        have hlk : (rowsF k).length = k := rowsF_len k
        have hb06 : Below wr.heap.size wr W6 := HBR5.out.trans (hb6.mono (by omega))
        have hr6 : RowsS W6 (fun b => b < W6.heap.size) (some ⟨b1, 0, none⟩) (rowsF k) := (HRS.out.keep (fun b hb => hb06.block b hb)).more (fun b hb => by omega)
        have hst6 : StS W6 (fun b => b < W6.heap.size) (some ⟨w5.heap.size + 1, 0, none⟩) [rowsF k] := st_block (c := c1) (by rw [hlk]; exact hsb6) (by omega) (by rw [hlk]; omega) hr6
        have ht6 : TabS W6 (fun b => b < W6.heap.size) (some ⟨w.heap.size + 1, 0, none⟩) sFs.tabs := (HT.out.keep (fun b hb => (hb06.block b (by omega)).trans (HBW.out.block b hb))).more (fun b hb => by omega)
        have hCK := tcheck_any pc0 (some ⟨w.heap.size + 1, 0, none⟩) 1 sFs 1 (some ⟨w5.heap.size + 1, 0, none⟩) 1 [rowsF k] (fun b => b < W6.heap.size) W6 ht6 hst6 (fun b hb => hb) preds_sF (by simp [countF, rowsF_len]; omega)
        rw [sch_sF, show checkF 0 sFs 1 [rowsF k] = if 512 < k then 2 else 0 from check_f _ _ k, if_neg h512] at hCK
        change Calls Try.prog _ _ ((w5.alloc (.cells #[.slice A5 1 c5] 56)).alloc (.cells #[.slice (some ⟨b1, 0, none⟩) k c1] 49)) _
        rw [hW6]
        refine (show Calls _ _ _ _ _ from hCK).mono ?_
        rintro e w7 ⟨rfl, hb7⟩
        have hz7 := hb7.size
        have HB7 := Lib.hid (show Below wr.heap.size wr w7 from hb06.trans (hb7.mono (by omega)))
        have HB57 := Lib.hid (show Below w5.heap.size w5 w7 from hb6.trans (hb7.mono (by omega)))
        have hx7 : w7.cell? ⟨w5.heap.size, 0, none⟩ = some (.slice A5 1 c5) := cells_of_block ((hb7.block _ (by omega)).trans hx6) 0 _ rfl
        have hz57 : w5.heap.size + 2 ≤ w7.heap.size := by omega
        have HS6 := Lib.hid hs6
        clear hCK hb7 hb6 hsb6 hx6 hr6 hst6 ht6 hb06 hW6 hs6 hlk x0 x1
        have hdk : decide ((512 : Int) < (k : Int)) = false := decide_eq_false (by omega)
        go_wp2_with fail
        refine (begun8_any _).mono ?_
        rintro e w8 ⟨rfl, hb8⟩
        have hx8 := (hb8.cell (p := ⟨w5.heap.size, 0, none⟩) (by simp; omega)).trans hx7
        have HB8 := Lib.hid (show Below wr.heap.size wr w8 from HB7.out.trans (hb8.mono (by omega)))
        have HB58 := Lib.hid (show Below w5.heap.size w5 w8 from HB57.out.trans (hb8.mono (by omega)))
        have hz8 := hb8.size
        clear hb8 hx7
        go_wp2_with fail
        refine (show Calls _ _ _ _ _ from count_any A5 c5 [rowsF k] (fun b => Wz.heap.size ≤ b ∧ b < w5.heap.size) w8 (HS5.out.keep (fun b hb => HB58.out.block b hb.2)) (fun b hb => by have := hb.2; omega) (by simp [countF, rowsF_len]; omega)).mono ?_
        rintro e w9 ⟨rfl, hb9⟩
        rw [show ((countF [rowsF k] : Nat) : Int) = k by simp [countF, rowsF_len]]
        have HB9 := Lib.hid (show Below wr.heap.size wr w9 from HB8.out.trans (hb9.mono (by omega)))
        clear hb9
        go_wp2_with fail
        go_ret
        exact ⟨by simp, HWB0.out.trans ((HBW.out.trans (HB9.out.mono hsw)).mono (by omega))⟩
end Go.Proofs.Ytkpjjfhfbpfjpaa
