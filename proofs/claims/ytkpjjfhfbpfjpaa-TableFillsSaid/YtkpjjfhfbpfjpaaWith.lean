/- Contract: table.Within where every row of the one state is a row of the other. -/
import Derived.Test.YtkpjjfhfbpfjpaaGet
namespace Go.Proofs.Ytkpjjfhfbpfjpaa
open Go.RowKit
set_option linter.unusedVariables false
set_option linter.unusedSimpArgs false

/-- Every row of a is the row of its key in b. -/
def Inside (s : Sch) (a b : St) : Prop := ∀ t, t < a.length → ∀ k, k < (a.getD t []).length → t < s.tabs.length ∧ t < b.length ∧ findK s t (keyF s t ((a.getD t []).getD k [])) (b.getD t []) = some ((a.getD t []).getD k [])

set_option maxRecDepth 100000 in
set_option maxHeartbeats 4000000 in
theorem within_true (A0 : Option Addr) (c0' : Nat) (s : Sch) (A : Option Addr) (ca : Nat) (a : St) (B : Option Addr) (cb : Nat) (b : St) (S : Nat → Prop) (w : World) (hs : TabS w S A0 s.tabs) (ha : StS w S A a) (hb : StS w S B b) (hS : ∀ b, S b → b < w.heap.size) (hin : Inside s a b) :
    Calls Try.prog 63 #[sAgg s.version A0 s.tabs.length c0', stAgg A a.length ca, stAgg B b.length cb] w (BoolBel true w) := by
  have hsl := hs.len
  have hal := ha.len
  have hbl := hb.len
  have HS := Lib.hid hs
  have HA := Lib.hid ha
  have HBB := Lib.hid hb
  have HIN := Lib.hid hin
  clear hs ha hb hin
  have HB0 := Lib.hid ((((Below.refl w.heap.size w).alloc (Nat.le_refl _) (.cells #[.int .i64 s.version, .slice A0 s.tabs.length c0'] 25)).alloc (by simp) (.cells #[.slice A a.length ca] 56)).alloc (by simp; omega) (.cells #[.slice B b.length cb] 56))
  go_enter Try.func63, Try.ntmps63
  go_wp2_with fail
  go_loopw [18] (fun i wr => ∃ t : Nat, t ≤ a.length ∧ i = .int .i64 t ∧ Below w.heap.size w wr ∧ wr.cell? ⟨w.heap.size, 0, none⟩ = some (.int .i64 s.version) ∧ wr.cell? ⟨w.heap.size, 1, none⟩ = some (.slice A0 s.tabs.length c0') ∧ wr.cell? ⟨w.heap.size + 1 + 1, 0, none⟩ = some (.slice B b.length cb) ∧ w.heap.size + 1 + 1 < wr.heap.size) (fun i _ => a.length - (intOf i).toNat)
  case atStart => exact ⟨0, Nat.zero_le _, rfl, HB0.out, (cell_old (by simp; omega)).trans ((cell_old (by simp)).trans (cell_new rfl rfl)), (cell_old (by simp; omega)).trans ((cell_old (by simp)).trans (cell_new rfl rfl)), cell_new (by simp) rfl, by simp⟩
  case round =>
    obtain ⟨t, ht, rfl, hbel, x0, x1, x2, hw⟩ := hrel
    have HB := Lib.hid hbel
    clear hbel
    by_cases htl : t < a.length
    · obtain ⟨b1, o1, rfl, hb1, A', c', d1, d2, d3⟩ := (HA.out.keep (Same.of_below HB.out hS)).at_ htl
      have hl1 : b1 < wr.heap.size := by have := hS b1 hb1; omega
      have HR := Lib.hid (d3.keep (w' := w) (fun b hb => (HB.out.block b (hS b hb)).symm))
      have hrl := d3.len
      have HINT := Lib.hid (HIN.out t htl)
      clear d2 d3
      generalize a.getD t [] = rows at d1 HR hrl HINT
      have hw0 : w.heap.size < wr.heap.size := by omega
      have hd : ∀ (h0 : 0 < rows.length), t < s.tabs.length := fun h0 => (HINT.out 0 h0).1
      have HD := Lib.hid hd
      clear hd
      obtain ⟨wo, rfl⟩ : ∃ wo : World, wo = wr := ⟨_, rfl⟩
      rcases Nat.eq_zero_or_pos rows.length with h0 | h0
      · have hr0 : rows = [] := List.length_eq_zero_iff.1 h0
        subst hr0
        go_wp2_with fail
        clear d1
        go_loopw [35] (fun i wr => i = .int .i64 0 ∧ wr = wo) (fun _ _ => 0)
        case atStart => exact ⟨rfl, rfl⟩
        case round =>
          obtain ⟨rfl, rfl⟩ := hrel
          go_wp2_with fail
          go_roundw
          case rel => exact ⟨t + 1, by omega, by go_num, HB.out, x0, x1, x2, hw⟩
          case measure => simp [intOf]; omega
      · have hts := HD.out h0
        have hdr : decide (0 < rows.length) = true := decide_eq_true h0
        have hdt : decide (s.tabs.length ≤ t) = false := decide_eq_false (by omega)
        go_wp2_with fail
        clear d1
        go_loopw [35] (fun i wr => ∃ k : Nat, k ≤ rows.length ∧ i = .int .i64 k ∧ Below w.heap.size w wr ∧ wr.cell? ⟨w.heap.size, 0, none⟩ = some (.int .i64 s.version) ∧ wr.cell? ⟨w.heap.size, 1, none⟩ = some (.slice A0 s.tabs.length c0') ∧ wr.cell? ⟨w.heap.size + 1 + 1, 0, none⟩ = some (.slice B b.length cb) ∧ w.heap.size + 1 + 1 < wr.heap.size) (fun i _ => rows.length - (intOf i).toNat)
        case atStart => exact ⟨0, Nat.zero_le _, rfl, HB.out, x0, x1, x2, hw⟩
        case round =>
          clear HB x0 x1 x2 hw hl1 hw0
          obtain ⟨k, hk, rfl, hbel, x0, x1, x2, hw⟩ := hrel
          have HB := Lib.hid hbel
          clear hbel
          by_cases hkl : k < rows.length
          · obtain ⟨b2, o2, rfl, hb2, A2, c2, f1, f2, f3⟩ := (HR.out.keep (Same.of_below HB.out hS)).at_ hkl
            have hl2 : b2 < wr.heap.size := by have := hS b2 hb2; omega
            have HROW := Lib.hid f3
            have HC := Lib.hid f2
            have hrw := f3.len
            obtain ⟨_, htb, hfnd⟩ := HINT.out k hkl
            have HFND := Lib.hid hfnd
            clear f2 f3 hfnd
            generalize rows.getD k [] = row at f1 HROW HC hrw HFND
            have hSr : ∀ b, S b → b < wr.heap.size := fun b hb => by have := hS b hb; omega
            have HSr := Lib.hid (HS.out.keep (Same.of_below HB.out hS))
            have HBr := Lib.hid (HBB.out.keep (Same.of_below HB.out hS))
            have hw0 : w.heap.size < wr.heap.size := by omega
            go_wp2_with fail
            go_region_held3 (fun w' => Below wr.heap.size wr w' ∧ w'.cell? ⟨w.heap.size, 0, none⟩ = some (.int .i64 s.version) ∧ w'.cell? ⟨w.heap.size, 1, none⟩ = some (.slice A0 s.tabs.length c0') ∧ w'.cell? ⟨w.heap.size + 1 + 1, 0, none⟩ = some (.slice B b.length cb))
              (first | exact ⟨(Below.refl _ _).drew, x0, x1, x2⟩ | exact ⟨hv2, (hv2.cell (p := ⟨w.heap.size, 0, none⟩) hw0).trans x0, (hv2.cell (p := ⟨w.heap.size, 1, none⟩) hw0).trans x1, (hv2.cell (p := ⟨w.heap.size + 1 + 1, 0, none⟩) hw).trans x2⟩ | exact ⟨hv1, (hv1.cell (p := ⟨w.heap.size, 0, none⟩) hw0).trans x0, (hv1.cell (p := ⟨w.heap.size, 1, none⟩) hw0).trans x1, (hv1.cell (p := ⟨w.heap.size + 1 + 1, 0, none⟩) hw).trans x2⟩)
              (first
                | (go_at_call 61; refine (prefix_any A0 c0' s t A2 c2 row S wr.drew (HSr.out.keep (fun _ _ => rfl)) (HROW.out.keep (fun _ _ => rfl)) HC.out hSr).mono ?_; rintro e w5 ⟨A7, c7, rfl, h7, hv1'⟩; have hv1 : Below wr.heap.size wr w5 := (Below.refl _ wr).drew.trans hv1')
                | (go_at_call 70; refine (get_in A0 c0' s B cb b t A7 c7 (keyF s t row) S _ (HSr.out.keep (Same.of_below hv1 hSr)) (HBr.out.keep (Same.of_below hv1 hSr)) ((HROW.out.keep (Same.of_below hv1 hSr)).key s t h7) (fun b hb => Nat.lt_of_lt_of_le (hSr b hb) hv1.size) hts htb).mono ?_; rw [HFND.out]; rintro e w6 ⟨hv2', A8, c8, rfl, h8, hR8⟩; have hv2 : Below wr.heap.size wr w6 := hv1.trans (hv2'.mono hv1.size)))
            have HB6 := Lib.hid (HB.out.trans (hv2.mono (by omega)))
            have y0 := (hv2.cell (p := ⟨w.heap.size, 0, none⟩) hw0).trans x0
            have y1 := (hv2.cell (p := ⟨w.heap.size, 1, none⟩) hw0).trans x1
            have y2 := (hv2.cell (p := ⟨w.heap.size + 1 + 1, 0, none⟩) hw).trans x2
            have hw6 : w.heap.size + 1 + 1 < w6.heap.size := by have := hv2.size; omega
            have HRW6 := Lib.hid (HROW.out.keep (Same.of_below hv2 hSr))
            have HOT6 := Lib.hid hR8
            have hS6 : ∀ b, S b → b < w6.heap.size := fun b hb => by have := hS b hb; omega
            clear hv1 hv2 hv1' hv2' h7 h8 hR8 x0 x1 x2 f1
            go_wp2_with fail
            go_loopw [61] (fun i wq => ∃ j : Nat, j ≤ row.length ∧ i = .int .i64 j ∧ Below w6.heap.size w6 wq) (fun i _ => row.length - (intOf i).toNat)
            case atStart => exact ⟨0, Nat.zero_le _, rfl, Below.refl _ _⟩
            case round =>
              obtain ⟨j, hj, rfl, hbq⟩ := hrel
              have HBQ := Lib.hid hbq
              have hsq := hbq.size
              clear hbq
              by_cases hjl : j < row.length
              · obtain ⟨b3, o3, e3, hb3, g0, g1, g2⟩ := (HRW6.out.keep (Same.of_below HBQ.out hS6)).at_ hjl
                obtain ⟨b4, o4, e4, hb4, k0, k1, k2⟩ := (HOT6.out.keep (Same.of_below HBQ.out hS6)).at_ hjl
                subst e3 e4
                have hl3 : b3 < wr.heap.size := by have := hS6 b3 hb3; omega
                have hl4 : b4 < wr.heap.size := by have := hS6 b4 hb4; omega
                generalize row.getD j v0 = v at g0 g1 g2 k0 k1 k2
                obtain ⟨vk, vi, vt⟩ := v
                simp only at g0 g1 g2 k0 k1 k2
                have q2 : (0:Int) ≤ j := by omega
                have q3 : (j:Int) < row.length := by omega
                have HBA := Lib.hid (HBQ.out.alloc (by omega) (.cells #[.int .i64 vk, .int .i64 vi, .string vt] 51))
                by_cases hm : vk = 1
                · subst hm
                  go_wp2_with fail
                  go_quiet (fail)
                  go_wp2_with fail
                  go_roundw
                  case rel => exact ⟨j + 1, by omega, by go_num, below_drewN HBA.out _⟩
                  case measure => simp [intOf]; omega
                · have hdm : (vk != 1) = true := by simpa using hm
                  go_wp2_with fail
                  go_quiet (fail)
                  go_wp2_with fail
                  go_roundw
                  case rel => exact ⟨j + 1, by omega, by go_num, below_drewN HBA.out _⟩
                  case measure => simp [intOf]; omega
              · go_wp2_with fail
                go_roundw
                case rel =>
                  have hb9 : Below w6.heap.size w6 wr := HBQ.out
                  exact ⟨k + 1, by omega, by go_num, HB6.out.trans (hb9.mono (by omega)), (hb9.cell (p := ⟨w.heap.size, 0, none⟩) (by simp; omega)).trans y0, (hb9.cell (p := ⟨w.heap.size, 1, none⟩) (by simp; omega)).trans y1, (hb9.cell (p := ⟨w.heap.size + 1 + 1, 0, none⟩) (by simp; omega)).trans y2, by omega⟩
                case measure => simp [intOf]; omega
          · go_wp2_with fail
            go_roundw
            case rel => exact ⟨t + 1, by omega, by go_num, HB.out, x0, x1, x2, hw⟩
            case measure => simp [intOf]; omega
    · go_wp2_with fail
      go_ret
      exact ⟨rfl, HB.out⟩
end Go.Proofs.Ytkpjjfhfbpfjpaa
