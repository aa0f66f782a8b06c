import Derived.Test.YtkpjjfhfbpfjpaaK6ead6c
import Derived.Test.YtkpjjfhfbpfjpaaK4e30bf
import Derived.Test.YtkpjjfhfbpfjpaaK660fb2
set_option linter.unusedVariables false
set_option linter.unusedSimpArgs false
set_option maxRecDepth 100000
namespace Go.Proofs.Ytkpjjfhfbpfjpaa
open Go.RowKit
theorem vals_rows {w : World} {S : Nat → Prop} {A : Option Addr} {c : Nat} {l : List Row} (h1 : l.length ≤ c) (h2 : RowsS w S A l) : Dat.Vals w S (encRows l) [.slice A l.length c] := by
 unfold encRows Dat.Vals
 exact ⟨A, c, by simp, by simpa using h1, h2⟩
def CopPost (st : St) (w : World) (e : Ending) (w' : World) : Prop := ∃ A c, e = .returned (stAgg A st.length c) ∧ Mk w' w.heap.size (fun _ => False) 49 1 (.slice A st.length c) (st.map encRows) ∧ Below w.heap.size w w'
theorem Mk.low {w : World} {base base' size : Nat} {S0 : Nat → Prop} {e : TypeId} {v : Value} {l : List Dat} (h : Mk w base S0 e size v l) (hb : base' ≤ base) (hlo : ∀ b, S0 b → b < base') : Mk w base' S0 e size v l := by
 obtain ⟨vals, h1, h2, h3⟩ := h.own
 refine ⟨⟨vals, ownsRow_low h1 hb, Dat.ValsAll.more (fun b hb' => hb'.imp id (fun hb' => ⟨Nat.le_trans hb hb'.1, hb'.2⟩)) _ _ h2, fun b hb' => ?_⟩, hlo, Nat.le_trans hb h.hi⟩
 rcases hb' with hb' | hb'
 · exact h3 b (.inl hb')
 · exact hb'.2
structure CopI (w wr : World) (st : St) (A : Option Addr) (ca k : Nat) (A1 : Option Addr) (c1 : Nat) : Prop where
 mkl : Mk wr (w.heap.size + 3) (fun _ => False) 49 1 (.slice A1 k c1) ((st.take k).map encRows)
 bel : Below w.heap.size w wr
 a0 : wr.cell? ⟨w.heap.size, 0, none⟩ = some (.slice A st.length ca)
 r0 : wr.cell? ⟨w.heap.size + 1, 0, none⟩ = some (.slice none 0 0)
 rf : wr.frozen? ⟨w.heap.size + 1, 0, none⟩ = false
 o0 : wr.cell? ⟨w.heap.size + 2, 0, none⟩ = some (.slice A1 k c1)
 fz : wr.frozen? ⟨w.heap.size + 2, 0, none⟩ = false
theorem CopI.below {w wr wx : World} {st : St} {A A1 : Option Addr} {ca k c1 : Nat} (h : CopI w wr st A ca k A1 c1) (hb : Below wr.heap.size wr wx) : CopI w wx st A ca k A1 c1 := by
 have hz := h.mkl.hi
 exact ⟨h.mkl.below hb, h.bel.trans (hb.mono (by omega)), (hb.cell (p := ⟨w.heap.size, 0, none⟩) (by show w.heap.size < _; omega)).trans h.a0, (hb.cell (p := ⟨w.heap.size + 1, 0, none⟩) (by show w.heap.size + 1 < _; omega)).trans h.r0, (hb.frozen (p := ⟨w.heap.size + 1, 0, none⟩) (by show w.heap.size + 1 < _; omega)).trans h.rf, (hb.cell (p := ⟨w.heap.size + 2, 0, none⟩) (by show w.heap.size + 2 < _; omega)).trans h.o0, (hb.frozen (p := ⟨w.heap.size + 2, 0, none⟩) (by show w.heap.size + 2 < _; omega)).trans h.fz⟩
theorem CopI.next {w wr wx : World} {st : St} {A A1 A2 : Option Addr} {ca k c1 c2 : Nat} (h : CopI w wr st A ca k A1 c1) (hb : Below (w.heap.size + 3) wr wx) (hm : Mk wx (w.heap.size + 3) (fun _ => False) 49 1 (.slice A2 (k + 1) c2) ((st.take (k + 1)).map encRows)) : CopI w (wx.setCell ⟨w.heap.size + 2, 0, none⟩ (.slice A2 (k + 1) c2)) st A ca (k + 1) A2 c2 := by
 have hz := h.mkl.hi
 have hne : ∀ b, b ≠ w.heap.size + 2 → (wx.setCell ⟨w.heap.size + 2, 0, none⟩ (.slice A2 (k + 1) c2)).heap[b]? = wx.heap[b]? := fun b h => Below.heap_setCell wx ⟨w.heap.size + 2, 0, none⟩ _ b h
 have hc : ∀ b o, b < w.heap.size + 2 → (wx.setCell ⟨w.heap.size + 2, 0, none⟩ (.slice A2 (k + 1) c2)).cell? ⟨b, o, none⟩ = wr.cell? ⟨b, o, none⟩ := fun b o hb' => (World.cell?_of_block (hne b (by omega))).trans (hb.cell (p := ⟨b, o, none⟩) (by show b < _; omega))
 have ho := (hb.cell (p := ⟨w.heap.size + 2, 0, none⟩) (by show w.heap.size + 2 < _; omega)).trans h.o0
 have hfr : Fr (fun b => b = w.heap.size + 2) wx (wx.setCell ⟨w.heap.size + 2, 0, none⟩ (.slice A2 (k + 1) c2)) := (Fr.refl _ wx).setCell _ (fun _ => rfl)
 refine ⟨hm.keep hfr (fun b hb' => ⟨by omega, fun h => h⟩), (h.bel.trans (hb.mono (by omega))).trans (hfr.below (n := w.heap.size) (by have := hb.size; omega) (fun b hb' e => by omega)), (hc _ _ (by omega)).trans h.a0, (hc _ _ (by omega)).trans h.r0, ?_, World.cell?_setCell_same _ _ _ ho, ?_⟩
 · exact (World.frozen?_of_block (hne (w.heap.size + 1) (by omega))).trans ((hb.frozen (p := ⟨w.heap.size + 1, 0, none⟩) (by show w.heap.size + 1 < _; omega)).trans h.rf)
 · rw [World.frozen?_setCell]; exact (hb.frozen (p := ⟨w.heap.size + 2, 0, none⟩) (by show w.heap.size + 2 < _; omega)).trans h.fz
theorem take_snocG {α : Type} {d : α} {l : List α} {k : Nat} (h : k < l.length) : l.take (k + 1) = l.take k ++ [l.getD k d] := by
 rw [List.take_succ_eq_append_getElem h]; simp [List.getD, h]
set_option maxHeartbeats 4000000 in
theorem rcopySt_any (A : Option Addr) (ca : Nat) (st : St) (S : Nat → Prop) (w : World) (hst : StS w S A st) (hS : ∀ b, S b → b < w.heap.size) :
  Calls Try.prog 28 #[stAgg A st.length ca] w (CopPost st w) := by
 obtain ⟨i0, hi, hz0, hz1, hz2⟩ := info_parts infoR
 obtain ⟨j0, hj, hj0, hj1, hj2⟩ := info_parts infoRs
 have hsl := hst.len
 have HST := Lib.hid hst
 clear hst
 have HB0 := Lib.hid ((((Below.refl w.heap.size w).alloc (Nat.le_refl _) (.cells #[.slice A st.length ca] 56)).alloc (by simp) (.cells #[.slice none 0 0] 56)).alloc (by simp; omega) (.cells #[.slice none 0 0] 56))
 have HI0 := Lib.hid (show CopI w (((w.alloc (.cells #[.slice A st.length ca] 56)).alloc (.cells #[.slice none 0 0] 56)).alloc (.cells #[.slice none 0 0] 56)) st A ca 0 none 0 from
  ⟨Mk.start (fun b hb => hb.elim) (by simp) _ _, HB0.out, (cell_old (by simp; omega)).trans ((cell_old (by simp)).trans (cell_new rfl rfl)), (cell_old (by simp)).trans (cell_new (by simp) rfl), (frozen_old (by simp)).trans (frozen_new (by simp)), cell_new (by simp) rfl, frozen_new (by simp)⟩)
 go_enter Try.func28, Try.ntmps28
 go_wp2_with fail
 go_loopw [12] (fun i wr => ∃ (k : Nat) (A1 : Option Addr) (c1 : Nat), k ≤ st.length ∧ i = .int .i64 k ∧ CopI w wr st A ca k A1 c1) (fun i _ => st.length - (intOf i).toNat)
 case atStart => exact ⟨0, none, 0, Nat.zero_le _, rfl, HI0.out⟩
 case round =>
  obtain ⟨wo, rfl⟩ : ∃ wo : World, wo = wr := ⟨_, rfl⟩
  obtain ⟨k, A1, c1, hk, rfl, hci⟩ := hrel
  have HCI := Lib.hid hci
  have hwz := hci.mkl.hi
  clear hci
  by_cases hlt : k < st.length
  · have hSw : ∀ b, S b → b < wo.heap.size := fun b hb => by have := hS b hb; omega
    obtain ⟨b1, o1, rfl, hb1, A', c', d1, d2, d3⟩ := (HST.out.keep (Same.of_below HCI.out.bel hS)).at_ hlt
    have hl1 : b1 < wo.heap.size := hSw b1 hb1
    have HR := Lib.hid d3
    have hrl := d3.len
    have HTK := Lib.hid (show st.take (k + 1) = st.take k ++ [st.getD k []] from take_snocG hlt)
    clear d2 d3
    generalize st.getD k [] = rows at d1 HR hrl HTK
    go_wp2_with fail
    go_loopw [6, 18] (fun out i wi => ∃ (j : Nat) (A2 : Option Addr) (c2 : Nat), j ≤ rows.length ∧ i = .int .i64 j ∧ out = .slice A2 j c2 ∧ Mk wi wo.heap.size (fun _ => False) 27 1 (.slice A2 j c2) ((rows.take j).map encRow) ∧ Below wo.heap.size wo wi) (fun _ i _ => rows.length - (intOf i).toNat)
    case atStart => exact ⟨0, none, 0, Nat.zero_le _, rfl, rfl, Mk.start (fun b hb => hb.elim) (Nat.le_refl _) _ _, Below.refl _ _⟩
    case round =>
     obtain ⟨j, A2, c2, hj', rfl, rfl, hmk, hbi⟩ := hrel
     have HMK := Lib.hid hmk
     have HBI := Lib.hid hbi
     have hzi := hbi.size
     clear hmk hbi d1
     by_cases hlj : j < rows.length
     · obtain ⟨b3, o3, rfl, hb3, A3, c3, f1, f2, f3⟩ := (HR.out.keep (Same.of_below HBI.out hSw)).at_ hlj
       have hl3 : b3 < wr.heap.size := by have := hSw b3 hb3; omega
       have HROW := Lib.hid f3
       have hrw := f3.len
       have HTJ := Lib.hid (show rows.take (j + 1) = rows.take j ++ [rows.getD j []] from take_snocG hlj)
       clear f2 f3
       generalize rows.getD j [] = row at f1 HROW hrw HTJ
       go_wp2_with fail
       refine (rcopy_any A3 c3 row S _ HROW.out).mono ?_
       rintro e w4 ⟨A4, c4, rfl, h4, hb4⟩
       have HBC := Lib.hid hb4
       have MKX := Lib.hid (HMK.out.below hb4)
       have N4 := Lib.hid (new_row h4 HROW.out.ok (Nat.le_refl _))
       have hz4 := hb4.size
       clear h4 hb4
       go_wp2_with (at_builtin; refine wpList_append_mk rfl (.tmp 22) (.tmp 25) 49 rfl wo.heap.size (fun _ => False) 27 i0 _ 1 24 Try.underlying49 hi hz0 hz1 hz2 rfl (by decide) _ _ _ _ _ MKX.out rfl (encRow row) #[.slice A4 row.length c4] (vals_row N4.out.1 (N4.out.2.more (fun b hb => .inr ⟨by omega, hb.2, fun e => by have := (HMK.out.base_le e.symm).2; omega⟩))) (by simp [encRow, Dat.Plain]) rfl 1 rfl (by omega) (by omega) ?_; intro g6 cap6 w6 hm6 hb6 hlt6; have MK6 := Lib.hid hm6; have HB6 := Lib.hid hb6; have hz6 := hb6.size; clear hm6 hb6)
       go_roundw
       case rel => exact ⟨j + 1, _, _, by omega, by go_num, rfl, by rw [HTJ.out, List.map_append]; exact MK6.out, HBI.out.trans ((HBC.out.mono (by omega)).trans HB6.out)⟩
       case measure => simp [intOf]; omega
     · have HE := Lib.hid (show rows.take j = rows from List.take_of_length_le (by omega))
       have hje : j = rows.length := by omega
       subst hje
       obtain ⟨-, q2, q3⟩ := HMK.out.slice (by rw [HE.out, bytesAll_map (n := 24) (fun _ => rfl)]; omega)
       rw [HE.out] at q3
       have Q3 := Lib.hid q3
       clear q3
       have HX := Lib.hid (HCI.out.below HBI.out)
       have o0 := HX.out.o0
       have fz := HX.out.fz
       have hw2 : w.heap.size + 2 < wr.heap.size := by omega
       go_wp2_with (at_builtin; refine wpList_append_mk rfl (.tmp 29) (.tmp 31) 54 rfl (w.heap.size + 3) (fun _ => False) 49 j0 _ 1 24 Try.underlying54 hj hj0 hj1 hj2 rfl (by decide) _ _ _ _ _ HX.out.mkl rfl (encRows rows) #[.slice A2 rows.length c2] (vals_rows q2 (Sl.more Q3.out (fun b hb => hb.elim (fun h => h.elim) (fun hb => .inr ⟨by omega, hb.2, fun e => by have := (HCI.out.mkl.base_le e.symm).2; omega⟩)))) (by simp [encRows, Dat.Plain]) rfl 1 rfl (by omega) (by omega) ?_; intro g6 cap6 w6 hm6 hb6 hlt6; have MK6 := Lib.hid hm6; have HB6 := Lib.hid hb6; have hz6 := hb6.size; clear hm6 hb6; have o6 := (HB6.out.cell (p := ⟨w.heap.size + 2, 0, none⟩) (by show w.heap.size + 2 < _; omega)).trans o0; have fz6 := (HB6.out.frozen (p := ⟨w.heap.size + 2, 0, none⟩) (by show w.heap.size + 2 < _; omega)).trans fz; have hw6 : w.heap.size + 2 < w6.heap.size := by omega)
       go_roundw
       case rel => exact ⟨k + 1, _, _, by omega, by go_num, HX.out.next HB6.out (by rw [HTK.out, List.map_append]; exact MK6.out)⟩
       case measure => simp [intOf]; omega
  · have hke : k = st.length := by omega
    subst hke
    have o0 := HCI.out.o0
    have r0 := HCI.out.r0
    have rf := HCI.out.rf
    have hw2 : w.heap.size + 2 < wo.heap.size := by omega
    have hw1 : w.heap.size + 1 < wo.heap.size := by omega
    go_wp2_with fail
    have x0 : (wo.setCell ⟨w.heap.size + 1, 0, none⟩ (.slice A1 st.length c1)).cell? ⟨w.heap.size + 1, 0, none⟩ = some (.slice A1 st.length c1) := World.cell?_setCell_same _ _ _ r0
    have hfr : Fr (fun b => b = w.heap.size + 1) wo (wo.setCell ⟨w.heap.size + 1, 0, none⟩ (.slice A1 st.length c1)) := (Fr.refl _ wo).setCell _ (fun _ => rfl)
    have hm := HCI.out.mkl
    rw [List.take_length] at hm
    exact bodyPost_ret (v := stAgg A1 st.length c1) (by simp [results, Try.results28, go_sem, x0]) rfl ⟨A1, c1, rfl, (hm.keep hfr (fun b hb => ⟨by omega, fun h => h⟩)).low (by omega) (fun b hb => hb.elim), HCI.out.bel.trans (hfr.below (by omega) (fun b hb e => by omega))⟩
end Go.Proofs.Ytkpjjfhfbpfjpaa

namespace Go.Proofs.Ytkpjjfhfbpfjpaa
open Go.RowKit
end Go.Proofs.Ytkpjjfhfbpfjpaa

