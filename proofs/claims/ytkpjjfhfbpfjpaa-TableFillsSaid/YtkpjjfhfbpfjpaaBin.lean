/- Contracts: the closure of table.applied, slices.BinarySearchFunc over it. -/
import Derived.Test.YtkpjjfhfbpfjpaaCKey
namespace Go.Proofs.Ytkpjjfhfbpfjpaa
open Go.RowKit
set_option linter.unusedVariables false

/-- What the closures of table capture: a schema's cells, a change's table. -/
structure Capt (w : World) (s : Sch) (A0 : Option Addr) (c0' : Nat) (t : Int) (gs gc : Nat) : Prop where
  v : w.cell? ⟨gs, 0, none⟩ = some (.int .i64 s.version)
  a : w.cell? ⟨gs, 1, none⟩ = some (.slice A0 s.tabs.length c0')
  t : w.cell? ⟨gc, 0, none⟩ = some (.int .i64 t)
  ls : gs < w.heap.size
  lc : gc < w.heap.size
theorem Capt.keep {w w' : World} {s : Sch} {A0 : Option Addr} {c0' : Nat} {t : Int} {gs gc n : Nat} (h : Capt w s A0 c0' t gs gc) (hb : Below n w w') (h1 : gs < n) (h2 : gc < n) : Capt w' s A0 c0' t gs gc :=
  ⟨(hb.cell (p := ⟨gs, 0, none⟩) h1).trans h.v, (hb.cell (p := ⟨gs, 1, none⟩) h1).trans h.a, (hb.cell (p := ⟨gc, 0, none⟩) h2).trans h.t, Nat.lt_of_lt_of_le h.ls hb.size, Nat.lt_of_lt_of_le h.lc hb.size⟩

set_option maxRecDepth 100000 in
set_option maxHeartbeats 1000000 in
theorem applied1_any (A0 : Option Addr) (c0' : Nat) (s : Sch) (t : Int) (gs gc : Nat) (A : Option Addr) (ca : Nat) (r : Row) (B : Option Addr) (cb : Nat) (key : Row) (S : Nat → Prop) (w : World) (hc : Capt w s A0 c0' t gs gc) (hs : TabS w S A0 s.tabs) (hr : RowS w S A r) (hca : r.length ≤ ca) (hk : RowS w S B key) (hS : ∀ b, S b → b < w.heap.size) :
    Calls Try.prog 98 #[.slice A r.length ca, .slice B key.length cb, .pointer (some ⟨gs, 0, none⟩), .pointer (some ⟨gc, 0, none⟩)] w (IntBel (cmpR (keyF s t r) key) w) := by
  have hrl := hr.len
  have hkl := hk.len
  have x0 := hc.v
  have x1 := hc.a
  have x2 := hc.t
  have HR := Lib.hid hr
  have HK := Lib.hid hk
  have HCA := Lib.hid hca
  have HS := Lib.hid hs
  clear hr hk hca hs hc
  go_enter Try.func98, Try.ntmps98
  go_wp2_with fail
  refine (prefix_any A0 c0' s t A ca r S _ HS.out HR.out HCA.out hS).mono ?_
  rintro e w1 ⟨A', c', rfl, hA', hb1⟩
  have HB1 := Lib.hid hb1
  have HA := Lib.hid hA'
  clear hb1 hA'
  go_wp2_with fail
  refine (compareRows_any A' B c' cb (keyF s t r) key S _ ((HR.out.keep (Same.of_below HB1.out hS)).key s t HA.out) (HK.out.keep (Same.of_below HB1.out hS)) (fun b hb => Nat.lt_of_lt_of_le (hS b hb) HB1.out.size)).mono ?_
  rintro e w2 ⟨rfl, hb2⟩
  have HB2 := Lib.hid (HB1.out.trans (hb2.mono HB1.out.size))
  clear hb2
  go_wp2_with fail
  go_ret
  exact ⟨rfl, HB2.out⟩

/-- A pair (int, bool). -/
def PairBel (n : Int) (b : Bool) (w : World) (e : Ending) (w' : World) : Prop := e = .returned (.tuple #[.int .i64 n, .bool b]) ∧ Below w.heap.size w w'
set_option maxRecDepth 100000 in
set_option maxHeartbeats 2000000 in
theorem search_any (A0 : Option Addr) (c0' : Nat) (s : Sch) (t : Int) (gs gc : Nat) (A : Option Addr) (ca : Nat) (rows : List Row) (B : Option Addr) (cb : Nat) (key : Row) (p : Nat) (S : Nat → Prop) (w : World) (hc : Capt w s A0 c0' t gs gc) (hs : TabS w S A0 s.tabs) (hr : RowsS w S A rows) (hk : RowS w S B key) (hS : ∀ b, S b → b < w.heap.size) (hp : p ≤ rows.length) (hlow : ∀ k, k < rows.length → (cmpR (keyF s t (rows.getD k [])) key < 0 ↔ k < p)) :
    Calls Try.prog 97 #[.slice A rows.length ca, .slice B key.length cb, .func (.func 98) #[] #[.pointer (some ⟨gs, 0, none⟩), .pointer (some ⟨gc, 0, none⟩)]] w (PairBel p (decide (p < rows.length) && (cmpR (keyF s t (rows.getD p [])) key == 0)) w) := by
  have hrl := hr.len
  have hkl := hk.len
  have HC := Lib.hid hc
  have HR := Lib.hid hr
  have HK := Lib.hid hk
  have HS := Lib.hid hs
  have HL := Lib.hid hlow
  clear hr hk hs hc hlow
  go_enter Try.func97, Try.ntmps97
  go_wp2_with fail
  go_loopw [9, 10] (fun i j wr => ∃ a b : Nat, i = .int .i64 a ∧ j = .int .i64 b ∧ a ≤ p ∧ p ≤ b ∧ b ≤ rows.length ∧ Below w.heap.size w wr) (fun i j _ => (intOf j).toNat - (intOf i).toNat)
  case atStart => exact ⟨0, rows.length, rfl, rfl, by omega, by omega, by omega, Below.refl _ _⟩
  case round =>
    obtain ⟨a, b, rfl, rfl, ha, hb, hbl, hbel⟩ := hrel
    have HB := Lib.hid hbel
    have hsz := hbel.size
    clear hbel
    have hSr : ∀ b, S b → b < wr.heap.size := fun b hb => by have := hS b hb; omega
    have HSr := Lib.hid (HS.out.keep (Same.of_below HB.out hS))
    have HRr := Lib.hid (HR.out.keep (Same.of_below HB.out hS))
    have HKr := Lib.hid (HK.out.keep (Same.of_below HB.out hS))
    have HCr := Lib.hid (HC.out.keep HB.out HC.out.ls HC.out.lc)
    by_cases hab : a < b
    · obtain ⟨h, hh⟩ : ∃ h, (a + b) / 2 = h := ⟨_, rfl⟩
      obtain ⟨b1, o1, rfl, hb1, A', c', d1, d2, d3⟩ := HRr.out.at_ (show h < rows.length by omega)
      have HROW := Lib.hid d3
      have HC5 := Lib.hid d2
      have HLL := Lib.hid (HL.out h (by omega))
      clear d2 d3
      generalize rows.getD h [] = row at d1 HROW HC5 HLL
      go_wp2_with fail
      refine (applied1_any A0 c0' s t gs gc A' c' row B cb key S _ HCr.out HSr.out HROW.out HC5.out HKr.out hSr).mono ?_
      rintro e w1 ⟨rfl, hb1'⟩
      have HB1 := Lib.hid (HB.out.trans (hb1'.mono (by omega)))
      clear hb1' d1
      by_cases hcv : cmpR (keyF s t row) key < 0
      · have hd : decide (cmpR (keyF s t row) key < 0) = true := by simpa using hcv
        have hhp : h < p := HLL.out.1 hcv
        clear HLL hcv
        generalize cmpR (keyF s t row) key = cv at hd
        go_wp2_with fail
        go_roundw
        case rel => exact ⟨h + 1, b, by go_num, rfl, by omega, by omega, by omega, HB1.out⟩
        case measure => simp [intOf]; omega
      · have hd : decide (cmpR (keyF s t row) key < 0) = false := by simpa using hcv
        have hhp : p ≤ h := by have := mt HLL.out.2 hcv; omega
        clear HLL hcv
        generalize cmpR (keyF s t row) key = cv at hd
        go_wp2_with fail
        go_roundw
        case rel => exact ⟨a, h, rfl, by go_num, by omega, by omega, by omega, HB1.out⟩
        case measure => simp [intOf]; omega
    · obtain rfl : a = p := by omega
      obtain rfl : b = a := by omega
      by_cases hpl : b < rows.length
      · obtain ⟨b1, o1, rfl, hb1, A', c', d1, d2, d3⟩ := HRr.out.at_ hpl
        have HROW := Lib.hid d3
        have HC5 := Lib.hid d2
        obtain ⟨row, hrow⟩ : ∃ row, rows.getD b [] = row := ⟨_, rfl⟩
        obtain ⟨cv, hcv⟩ : ∃ cv, cmpR (keyF s t row) key = cv := ⟨_, rfl⟩
        have HF := Lib.hid (show (decide (b < rows.length) && (cmpR (keyF s t (rows.getD b [])) key == 0)) = (cv == 0) by rw [hrow, hcv]; simp [hpl])
        rw [hrow] at d1 HROW HC5
        have HCV := Lib.hid hcv
        clear d2 d3 hrow hcv
        go_wp2_with fail
        refine (applied1_any A0 c0' s t gs gc A' c' row B cb key S _ HCr.out HSr.out HROW.out HC5.out HKr.out hSr).mono ?_
        rintro e w1 ⟨rfl, hb1'⟩
        have HB1 := Lib.hid (HB.out.trans (hb1'.mono (by omega)))
        clear hb1' d1
        rw [HCV.out]
        clear HCV
        go_wp2_with fail
        go_ret2
        exact ⟨by rw [HF.out]; rfl, HB1.out⟩
      · have HF := Lib.hid (show (decide (b < rows.length) && (cmpR (keyF s t (rows.getD b [])) key == 0)) = false by simp [hpl])
        go_wp2_with fail
        go_ret2
        exact ⟨by rw [HF.out]; rfl, HB.out⟩
end Go.Proofs.Ytkpjjfhfbpfjpaa
