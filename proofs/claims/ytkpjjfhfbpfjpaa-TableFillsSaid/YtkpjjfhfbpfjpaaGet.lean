/- Contract: table.get of a table that is there. -/
import Derived.Test.YtkpjjfhfbpfjpaaInv2
namespace Go.Proofs.Ytkpjjfhfbpfjpaa
open Go.RowKit
set_option linter.unusedVariables false
set_option linter.unusedSimpArgs false

def findK (s : Sch) (t : Int) (key : Row) (l : List Row) : Option Row := l.find? (fun r => cmpR (keyF s t r) key == 0)
theorem findK_drop (s : Sch) (t : Int) (key : Row) {l : List Row} {k : Nat} (h : k < l.length) : findK s t key (l.drop k) = if cmpR (keyF s t (l.getD k [])) key = 0 then some (l.getD k []) else findK s t key (l.drop (k + 1)) := by
  have e : l.getD k [] = l[k] := by simp [List.getD, h]
  rw [List.drop_eq_getElem_cons h, e]
  unfold findK
  rw [List.find?_cons]
  by_cases h1 : cmpR (keyF s t l[k]) key = 0
  · simp [h1]
  · have h2 : (cmpR (keyF s t l[k]) key == 0) = false := beq_eq_false_iff_ne.2 h1
    simp [h1, h2]
/-- A row of memory S and whether there is one. -/
def GetPost (S : Nat → Prop) (o : Option Row) (w : World) (e : Ending) (w' : World) : Prop := Below w.heap.size w w' ∧ match o with
  | none => e = .returned (.tuple #[.slice none 0 0, .bool false])
  | some r => ∃ A c, e = .returned (.tuple #[.slice A r.length c, .bool true]) ∧ r.length ≤ c ∧ RowS w' S A r

set_option maxRecDepth 100000 in
set_option maxHeartbeats 2000000 in
theorem get_in (A0 : Option Addr) (c0' : Nat) (s : Sch) (A : Option Addr) (ca : Nat) (st : St) (t : Nat) (AK : Option Addr) (ck : Nat) (key : Row) (S : Nat → Prop) (w : World) (hs : TabS w S A0 s.tabs) (hst : StS w S A st) (hk : RowS w S AK key) (hS : ∀ b, S b → b < w.heap.size) (ht1 : t < s.tabs.length) (ht2 : t < st.length) :
    Calls Try.prog 70 #[sAgg s.version A0 s.tabs.length c0', stAgg A st.length ca, .int .i64 t, .slice AK key.length ck] w (GetPost S (findK s t key (st.getD t [])) w) := by
  have hsl := hs.len
  have hstl := hst.len
  have hkl := hk.len
  have HS := Lib.hid hs
  have HST := Lib.hid hst
  have HK := Lib.hid hk
  clear hs hst hk
  obtain ⟨b1, o1, rfl, hb1, A', c', d1, d2, d3⟩ := HST.out.at_ ht2
  have hl1 : b1 < w.heap.size := hS b1 hb1
  have HR := Lib.hid d3
  have hrl := d3.len
  clear d2 d3
  generalize st.getD t [] = rows at d1 HR hrl
  have hd1 : decide ((t : Int) < 0) = false := decide_eq_false (by omega)
  have hd2 : decide (s.tabs.length ≤ t) = false := decide_eq_false (by omega)
  have hd3 : decide (st.length ≤ t) = false := decide_eq_false (by omega)
  have HB0 := Lib.hid (((Below.refl w.heap.size w).alloc (Nat.le_refl _) (.cells #[.int .i64 s.version, .slice A0 s.tabs.length c0'] 25)).alloc (by simp) (.cells #[.slice (some ⟨b1, o1, none⟩) st.length ca] 56))
  go_enter Try.func70, Try.ntmps70
  go_wp2_with fail
  go_loopw [34] (fun i wr => ∃ k : Nat, k ≤ rows.length ∧ i = .int .i64 k ∧ findK s t key rows = findK s t key (rows.drop k) ∧ Below w.heap.size w wr ∧ wr.cell? ⟨w.heap.size, 0, none⟩ = some (.int .i64 s.version) ∧ wr.cell? ⟨w.heap.size, 1, none⟩ = some (.slice A0 s.tabs.length c0') ∧ w.heap.size < wr.heap.size) (fun i _ => rows.length - (intOf i).toNat)
  case atStart => exact ⟨0, Nat.zero_le _, rfl, by simp, HB0.out, (cell_old (by simp)).trans (cell_new rfl rfl), (cell_old (by simp)).trans (cell_new rfl rfl), by simp; omega⟩
  case round =>
    obtain ⟨k, hk, rfl, hf, hbel, x0, x1, hw⟩ := hrel
    have HF := Lib.hid hf
    have HB := Lib.hid hbel
    clear hf hbel d1
    by_cases hkl' : k < rows.length
    · obtain ⟨b2, o2, rfl, hb2, A2, c2, f1, f2, f3⟩ := (HR.out.keep (Same.of_below HB.out hS)).at_ hkl'
      have hl2 : b2 < wr.heap.size := by have := hS b2 hb2; omega
      have HROW := Lib.hid f3
      have HC := Lib.hid f2
      have hrw := f3.len
      have HSTEP := Lib.hid (findK_drop s t key hkl')
      clear f2 f3
      generalize rows.getD k [] = row at f1 HROW HC hrw HSTEP
      have hSr : ∀ b, S b → b < wr.heap.size := fun b hb => by have := hS b hb; omega
      go_wp2_with fail
      refine (prefix_any A0 c0' s t A2 c2 row S _ (HS.out.keep (Same.of_below HB.out hS)) HROW.out HC.out hSr).mono ?_
      rintro e w1 ⟨A3, c3, rfl, h3, hb3⟩
      have HB3 := Lib.hid (HB.out.trans (hb3.mono (by omega)))
      have HX3 := Lib.hid hb3
      have H3 := Lib.hid h3
      have y0 := (hb3.cell (p := ⟨w.heap.size, 0, none⟩) hw).trans x0
      have y1 := (hb3.cell (p := ⟨w.heap.size, 1, none⟩) hw).trans x1
      have hw3 : w.heap.size < w1.heap.size := by have := hb3.size; omega
      have hs3 := hb3.size
      clear hb3 h3 x0 x1
      go_wp2_with fail
      refine (compareRows_any A3 AK c3 ck (keyF s t row) key S _ ((HROW.out.keep (Same.of_below HX3.out hSr)).key s t H3.out) (HK.out.keep (Same.of_below HB3.out hS)) (fun b hb => by have := hS b hb; omega)).mono ?_
      rintro e w2 ⟨rfl, hb4⟩
      have HB4 := Lib.hid (HB3.out.trans (hb4.mono (by omega)))
      have HX4 := Lib.hid (HX3.out.trans (hb4.mono hs3))
      have z0 := (hb4.cell (p := ⟨w.heap.size, 0, none⟩) hw3).trans y0
      have z1 := (hb4.cell (p := ⟨w.heap.size, 1, none⟩) hw3).trans y1
      have hw4 : w.heap.size < w2.heap.size := by have := hb4.size; omega
      clear hb4 y0 y1
      by_cases hc : cmpR (keyF s t row) key = 0
      · have HFF := Lib.hid (show findK s t key rows = some row by rw [HF.out, HSTEP.out, if_pos hc])
        rw [hc]
        clear hc HSTEP
        go_wp2_with fail
        go_ret2
        rw [HFF.out]
        exact ⟨HB4.out, A2, c2, rfl, HC.out, HROW.out.keep (Same.of_below HX4.out hSr)⟩
      · have HFF := Lib.hid (show findK s t key rows = findK s t key (rows.drop (k + 1)) by rw [HF.out, HSTEP.out, if_neg hc])
        have hd : (cmpR (keyF s t row) key == 0) = false := beq_eq_false_iff_ne.2 hc
        clear hc HSTEP
        generalize cmpR (keyF s t row) key = cv at hd
        go_wp2_with fail
        go_roundw
        case rel => exact ⟨k + 1, by omega, by go_num, HFF.out, HB4.out, z0, z1, hw4⟩
        case measure => simp [intOf]; omega
    · have HFF := Lib.hid (show findK s t key rows = none by rw [HF.out, List.drop_eq_nil_of_le (by omega)]; rfl)
      go_wp2_with fail
      go_ret2
      rw [HFF.out]
      exact ⟨HB.out, rfl⟩
end Go.Proofs.Ytkpjjfhfbpfjpaa
