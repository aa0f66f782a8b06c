/- Contracts: table.changeKey, table.valid. -/
import Derived.Test.YtkpjjfhfbpfjpaaTChk
namespace Go.Proofs.Ytkpjjfhfbpfjpaa
open Go.RowKit
set_option linter.unusedVariables false

/-- A row in memory of S that the call has not changed. -/
def SubK (S : Nat → Prop) (r : Row) (w : World) (e : Ending) (w' : World) : Prop := ∃ A' c, e = .returned (.slice A' r.length c) ∧ RowS w' S A' r ∧ Below w.heap.size w w'

theorem put_as {K : Act → World → Prop} {a : Act} {d : Option Tmp} {v v' : Value} {w : World} (h : v' = v) (hk : K (a.put d v') w) : K (a.put d v) w := h ▸ hk
set_option maxRecDepth 100000 in
set_option maxHeartbeats 1000000 in
theorem changeKey_any (A0 : Option Addr) (c0' : Nat) (s : Sch) (ch : Chg) (A : Option Addr) (ca : Nat) (B : Option Addr) (cb : Nat) (S : Nat → Prop) (w : World) (hs : TabS w S A0 s.tabs) (ho : RowS w S A ch.old) (hca : ch.old.length ≤ ca) (hn : RowS w S B ch.new) (hcb : ch.new.length ≤ cb) (hS : ∀ b, S b → b < w.heap.size) :
    Calls Try.prog 78 #[sAgg s.version A0 s.tabs.length c0', chAgg ch.table A ch.old.length ca B ch.new.length cb] w (SubK S (keyC s ch) w) := by
  have hol := ho.len
  have hnl := hn.len
  have HO := Lib.hid ho
  have HN := Lib.hid hn
  have HCA := Lib.hid hca
  have HCB := Lib.hid hcb
  have HS := Lib.hid hs
  have HK := Lib.hid (show keyC s ch = if 0 < ch.old.length then keyF s ch.table ch.old else keyF s ch.table ch.new from rfl)
  clear ho hn hca hcb hs
  have HB0 := Lib.hid (((Below.refl w.heap.size w).alloc (Nat.le_refl _) (.cells #[.int .i64 s.version, .slice A0 s.tabs.length c0'] 25)).alloc (by simp) (.cells #[.int .i64 ch.table, .slice A ch.old.length ca, .slice B ch.new.length cb] 53))
  by_cases h0 : 0 < ch.old.length
  · have hd : decide (0 < ch.old.length) = true := by simpa using h0
    rw [if_pos h0] at HK
    clear h0
    go_enter Try.func78, Try.ntmps78
    go_wp2_with fail
    refine (prefix_any A0 c0' s ch.table A ca ch.old S _ (HS.out.keep (Same.of_below HB0.out hS)) (HO.out.keep (Same.of_below HB0.out hS)) HCA.out (fun b hb => by have := hS b hb; simp; omega)).mono ?_
    rintro e w1 ⟨A', c', rfl, hA', hb1⟩
    have HB1 := Lib.hid (HB0.out.trans (hb1.mono (by simp; omega)))
    have HA := Lib.hid hA'
    clear hb1 hA'
    go_wp2_with fail
    go_ret
    refine ⟨A', c', by rw [HK.out]; rfl, ?_, HB1.out⟩
    rw [HK.out]
    exact (HO.out.keep (Same.of_below HB1.out hS)).key s ch.table HA.out
  · have hd : decide (0 < ch.old.length) = false := by simpa using h0
    rw [if_neg h0] at HK
    clear h0
    go_enter Try.func78, Try.ntmps78
    go_wp2_with fail
    refine (prefix_any A0 c0' s ch.table B cb ch.new S _ (HS.out.keep (Same.of_below HB0.out hS)) (HN.out.keep (Same.of_below HB0.out hS)) HCB.out (fun b hb => by have := hS b hb; simp; omega)).mono ?_
    rintro e w1 ⟨A', c', rfl, hA', hb1⟩
    have HB1 := Lib.hid (HB0.out.trans (hb1.mono (by simp; omega)))
    have HA := Lib.hid hA'
    clear hb1 hA'
    go_wp2_with fail
    go_ret
    refine ⟨A', c', by rw [HK.out]; rfl, ?_, HB1.out⟩
    rw [HK.out]
    exact (HN.out.keep (Same.of_below HB1.out hS)).key s ch.table HA.out

set_option maxRecDepth 100000 in
set_option maxHeartbeats 4000000 in
theorem validC_any (A0 : Option Addr) (c0' : Nat) (s : Sch) (m : Int) (ch : Chg) (A : Option Addr) (ca : Nat) (B : Option Addr) (cb : Nat) (S : Nat → Prop) (w : World) (hs : TabS w S A0 s.tabs) (ho : RowS w S A ch.old) (hca : ch.old.length ≤ ca) (hn : RowS w S B ch.new) (hcb : ch.new.length ≤ cb) (hS : ∀ b, S b → b < w.heap.size) :
    Calls Try.prog 56 #[sAgg s.version A0 s.tabs.length c0', .int .i64 m, chAgg ch.table A ch.old.length ca B ch.new.length cb] w (BoolBel (validC s m ch) w) := by
  obtain ⟨t, old, new⟩ := ch
  simp only at ho hca hn hcb ⊢
  have hol := ho.len
  have hnl := hn.len
  have hsl := hs.len
  have HO := Lib.hid ho
  have HN := Lib.hid hn
  have HCA := Lib.hid hca
  have HCB := Lib.hid hcb
  have HS := Lib.hid hs
  have HK := Lib.hid (show validC s m ⟨t, old, new⟩ = (hasN s.tabs.length t && !(decide (old.length = 0) && decide (new.length = 0)) && (decide (old.length = 0) || fitsF s t old m) && (decide (new.length = 0) || fitsF s t new m) && (decide (old.length = 0) || decide (new.length = 0) || (cmpR (keyF s t old) (keyF s t new) == 0))) from rfl)
  clear ho hn hca hcb hs
  have HB0 := Lib.hid (((Below.refl w.heap.size w).alloc (Nat.le_refl _) (.cells #[.int .i64 s.version, .slice A0 s.tabs.length c0'] 25)).alloc (by simp) (.cells #[.int .i64 t, .slice A old.length ca, .slice B new.length cb] 53))
  by_cases h0 : t < 0
  · have hd0 : decide (t < 0) = true := by simpa using h0
    have HF := Lib.hid (show validC s m ⟨t, old, new⟩ = false by rw [HK.out, show hasN s.tabs.length t = false by simp [hasN]; omega]; simp)
    clear h0 HK
    go_enter Try.func56, Try.ntmps56
    go_wp2_with fail
    go_ret
    exact ⟨by rw [HF.out]; rfl, HB0.out⟩
  · have hd0 : decide (t < 0) = false := by simpa using h0
    by_cases h1 : (s.tabs.length : Int) ≤ t
    · have hd1 : decide ((s.tabs.length : Int) ≤ t) = true := by simpa using h1
      have HF := Lib.hid (show validC s m ⟨t, old, new⟩ = false by rw [HK.out, show hasN s.tabs.length t = false by simp [hasN]; omega]; simp)
      clear h0 h1 HK
      go_enter Try.func56, Try.ntmps56
      go_wp2_with fail
      go_ret
      exact ⟨by rw [HF.out]; rfl, HB0.out⟩
    · have hd1 : decide ((s.tabs.length : Int) ≤ t) = false := by simpa using h1
      have HAS := Lib.hid (show hasN s.tabs.length t = true by simp [hasN]; omega)
      clear h0 h1
      by_cases ho0 : old.length = 0
      · by_cases hn0 : new.length = 0
        · have HF := Lib.hid (show validC s m ⟨t, old, new⟩ = false by rw [HK.out]; simp [ho0, hn0])
          have hqold : ((old.length : Int) == 0) = true := by rw [ho0]; rfl
          have hqnew : ((new.length : Int) == 0) = true := by rw [hn0]; rfl
          clear ho0 hn0 HK
          go_enter Try.func56, Try.ntmps56
          go_wp2_with fail
          go_ret
          exact ⟨by rw [HF.out]; rfl, HB0.out⟩
        · skip
          have HV := Lib.hid (show validC s m ⟨t, old, new⟩ = (fitsF s t new m) by rw [HK.out, HAS.out]; simp [ho0, hn0])
          have hqold : ((old.length : Int) == 0) = true := by rw [ho0]; rfl
          have HQold := Lib.hid (show decide (0 < old.length) = false from decide_eq_false (by omega))
          have hqnew : ((new.length : Int) == 0) = false := by simpa using hn0
          have HQnew := Lib.hid (show decide (0 < new.length) = true from decide_eq_true (by omega))
          clear ho0 hn0 HK
          go_enter Try.func56, Try.ntmps56
          go_wp2_with fail
          go_loopw [37] (fun i wr => ∃ k : Nat, k ≤ 2 ∧ i = .int .i64 k ∧ (1 ≤ k → True) ∧ (2 ≤ k → fitsF s t new m = true) ∧ Below w.heap.size w wr ∧ (wr.cell? ⟨w.heap.size, 0, none⟩ = some (.int .i64 s.version) ∧ wr.cell? ⟨w.heap.size, 1, none⟩ = some (.slice A0 s.tabs.length c0') ∧ wr.cell? ⟨w.heap.size + 1, 0, none⟩ = some (.int .i64 t) ∧ wr.cell? ⟨w.heap.size + 1, 1, none⟩ = some (.slice A old.length ca) ∧ wr.cell? ⟨w.heap.size + 1, 2, none⟩ = some (.slice B new.length cb)) ∧ w.heap.size + 1 < wr.heap.size) (fun i _ => 2 - (intOf i).toNat)
          case atStart => exact ⟨0, by omega, rfl, fun h => by omega, fun h => by omega, HB0.out, ⟨by simp, by simp, by simp, by simp, by simp⟩, by simp⟩
          case round =>
            obtain ⟨k, hk, rfl, hko, hkn, hbel, ⟨x0, x1, x2, x3, x4⟩, hw1⟩ := hrel
            have HKO := Lib.hid hko
            have HKN := Lib.hid hkn
            have HB := Lib.hid hbel
            clear hko hkn hbel
            by_cases hk0 : k = 0
            · subst hk0
              have hz := HQold.out
              go_wp2_with fail
              refine put_as (v' := Value.slice A old.length ca) (by first | rfl | kernel_rfl) ?_
              go_wp2_with fail
              go_roundw
              case rel => exact ⟨1, by omega, rfl, fun _ => trivial, fun h => by omega, HB.out, ⟨x0, x1, x2, x3, x4⟩, hw1⟩
              case measure => simp [intOf]
            · skip
              by_cases hk1 : k = 1
              · subst hk1
                have hz := HQnew.out
                go_wp2_with fail
                refine put_as (v' := Value.slice B new.length cb) (by first | rfl | kernel_rfl) ?_
                go_wp2_with fail
                refine (fits_any A0 c0' s t m B cb new S _ (HS.out.keep (Same.of_below HB.out hS)) (HN.out.keep (Same.of_below HB.out hS)) (fun b hb => by have := hS b hb; omega)).mono ?_
                rintro e w4 ⟨rfl, hb4⟩
                have HB4 := Lib.hid (HB.out.trans (hb4.mono (by omega)))
                have hs4 := hb4.size
                have y0 := (hb4.cell (p := ⟨w.heap.size, 0, none⟩) (by simp; omega)).trans x0
                have y1 := (hb4.cell (p := ⟨w.heap.size, 1, none⟩) (by simp; omega)).trans x1
                have y2 := (hb4.cell (p := ⟨w.heap.size + 1, 0, none⟩) (by simp; omega)).trans x2
                have y3 := (hb4.cell (p := ⟨w.heap.size + 1, 1, none⟩) (by simp; omega)).trans x3
                have y4 := (hb4.cell (p := ⟨w.heap.size + 1, 2, none⟩) (by simp; omega)).trans x4
                clear hb4 x0 x1 x2 x3 x4
                by_cases hf : fitsF s t new m = true
                · have HF := Lib.hid hf
                  rw [hf]
                  clear hf
                  go_wp2_with fail
                  go_roundw
                  case rel => exact ⟨2, by omega, rfl, fun _ => HKO.out (by omega), fun _ => HF.out, HB4.out, ⟨y0, y1, y2, y3, y4⟩, by omega⟩
                  case measure => simp [intOf]
                · have hf' : fitsF s t new m = false := by simpa using hf
                  have HF := Lib.hid (show validC s m ⟨t, old, new⟩ = false by rw [HV.out]; simp [hf'])
                  rw [hf']
                  clear hf hf'
                  go_wp2_with fail
                  go_ret
                  exact ⟨by rw [HF.out]; rfl, HB4.out⟩
              · obtain rfl : k = 2 := by omega
                have ho2 := HKO.out (by omega)
                have hn2 := HKN.out (by omega)
                have HF := Lib.hid (show validC s m ⟨t, old, new⟩ = true by rw [HV.out, hn2])
                clear ho2 hn2 HKO HKN HV
                go_wp2_with fail
                go_quiet (fail)
                go_wp2_with fail
                go_ret
                exact ⟨by rw [HF.out]; rfl, below_drewN HB.out _⟩
      · by_cases hn0 : new.length = 0
        · skip
          have HV := Lib.hid (show validC s m ⟨t, old, new⟩ = (fitsF s t old m) by rw [HK.out, HAS.out]; simp [ho0, hn0])
          have hqold : ((old.length : Int) == 0) = false := by simpa using ho0
          have HQold := Lib.hid (show decide (0 < old.length) = true from decide_eq_true (by omega))
          have hqnew : ((new.length : Int) == 0) = true := by rw [hn0]; rfl
          have HQnew := Lib.hid (show decide (0 < new.length) = false from decide_eq_false (by omega))
          clear ho0 hn0 HK
          go_enter Try.func56, Try.ntmps56
          go_wp2_with fail
          go_loopw [37] (fun i wr => ∃ k : Nat, k ≤ 2 ∧ i = .int .i64 k ∧ (1 ≤ k → fitsF s t old m = true) ∧ (2 ≤ k → True) ∧ Below w.heap.size w wr ∧ (wr.cell? ⟨w.heap.size, 0, none⟩ = some (.int .i64 s.version) ∧ wr.cell? ⟨w.heap.size, 1, none⟩ = some (.slice A0 s.tabs.length c0') ∧ wr.cell? ⟨w.heap.size + 1, 0, none⟩ = some (.int .i64 t) ∧ wr.cell? ⟨w.heap.size + 1, 1, none⟩ = some (.slice A old.length ca) ∧ wr.cell? ⟨w.heap.size + 1, 2, none⟩ = some (.slice B new.length cb)) ∧ w.heap.size + 1 < wr.heap.size) (fun i _ => 2 - (intOf i).toNat)
          case atStart => exact ⟨0, by omega, rfl, fun h => by omega, fun h => by omega, HB0.out, ⟨by simp, by simp, by simp, by simp, by simp⟩, by simp⟩
          case round =>
            obtain ⟨k, hk, rfl, hko, hkn, hbel, ⟨x0, x1, x2, x3, x4⟩, hw1⟩ := hrel
            have HKO := Lib.hid hko
            have HKN := Lib.hid hkn
            have HB := Lib.hid hbel
            clear hko hkn hbel
            by_cases hk0 : k = 0
            · subst hk0
              have hz := HQold.out
              go_wp2_with fail
              refine put_as (v' := Value.slice A old.length ca) (by first | rfl | kernel_rfl) ?_
              go_wp2_with fail
              refine (fits_any A0 c0' s t m A ca old S _ (HS.out.keep (Same.of_below HB.out hS)) (HO.out.keep (Same.of_below HB.out hS)) (fun b hb => by have := hS b hb; omega)).mono ?_
              rintro e w4 ⟨rfl, hb4⟩
              have HB4 := Lib.hid (HB.out.trans (hb4.mono (by omega)))
              have hs4 := hb4.size
              have y0 := (hb4.cell (p := ⟨w.heap.size, 0, none⟩) (by simp; omega)).trans x0
              have y1 := (hb4.cell (p := ⟨w.heap.size, 1, none⟩) (by simp; omega)).trans x1
              have y2 := (hb4.cell (p := ⟨w.heap.size + 1, 0, none⟩) (by simp; omega)).trans x2
              have y3 := (hb4.cell (p := ⟨w.heap.size + 1, 1, none⟩) (by simp; omega)).trans x3
              have y4 := (hb4.cell (p := ⟨w.heap.size + 1, 2, none⟩) (by simp; omega)).trans x4
              clear hb4 x0 x1 x2 x3 x4
              by_cases hf : fitsF s t old m = true
              · have HF := Lib.hid hf
                rw [hf]
                clear hf
                go_wp2_with fail
                go_roundw
                case rel => exact ⟨1, by omega, rfl, fun _ => HF.out, fun h => by omega, HB4.out, ⟨y0, y1, y2, y3, y4⟩, by omega⟩
                case measure => simp [intOf]
              · have hf' : fitsF s t old m = false := by simpa using hf
                have HF := Lib.hid (show validC s m ⟨t, old, new⟩ = false by rw [HV.out]; simp [hf'])
                rw [hf']
                clear hf hf'
                go_wp2_with fail
                go_ret
                exact ⟨by rw [HF.out]; rfl, HB4.out⟩
            · skip
              by_cases hk1 : k = 1
              · subst hk1
                have hz := HQnew.out
                go_wp2_with fail
                refine put_as (v' := Value.slice B new.length cb) (by first | rfl | kernel_rfl) ?_
                go_wp2_with fail
                go_roundw
                case rel => exact ⟨2, by omega, rfl, fun _ => HKO.out (by omega), fun _ => trivial, HB.out, ⟨x0, x1, x2, x3, x4⟩, hw1⟩
                case measure => simp [intOf]
              · obtain rfl : k = 2 := by omega
                have ho2 := HKO.out (by omega)
                have hn2 := HKN.out (by omega)
                have HF := Lib.hid (show validC s m ⟨t, old, new⟩ = true by rw [HV.out, ho2])
                clear ho2 hn2 HKO HKN HV
                go_wp2_with fail
                go_quiet (fail)
                go_wp2_with fail
                go_ret
                exact ⟨by rw [HF.out]; rfl, below_drewN HB.out _⟩
        · skip
          have HV := Lib.hid (show validC s m ⟨t, old, new⟩ = (fitsF s t old m && fitsF s t new m && (cmpR (keyF s t old) (keyF s t new) == 0)) by rw [HK.out, HAS.out]; simp [ho0, hn0])
          have hqold : ((old.length : Int) == 0) = false := by simpa using ho0
          have HQold := Lib.hid (show decide (0 < old.length) = true from decide_eq_true (by omega))
          have hqnew : ((new.length : Int) == 0) = false := by simpa using hn0
          have HQnew := Lib.hid (show decide (0 < new.length) = true from decide_eq_true (by omega))
          clear ho0 hn0 HK
          go_enter Try.func56, Try.ntmps56
          go_wp2_with fail
          go_loopw [37] (fun i wr => ∃ k : Nat, k ≤ 2 ∧ i = .int .i64 k ∧ (1 ≤ k → fitsF s t old m = true) ∧ (2 ≤ k → fitsF s t new m = true) ∧ Below w.heap.size w wr ∧ (wr.cell? ⟨w.heap.size, 0, none⟩ = some (.int .i64 s.version) ∧ wr.cell? ⟨w.heap.size, 1, none⟩ = some (.slice A0 s.tabs.length c0') ∧ wr.cell? ⟨w.heap.size + 1, 0, none⟩ = some (.int .i64 t) ∧ wr.cell? ⟨w.heap.size + 1, 1, none⟩ = some (.slice A old.length ca) ∧ wr.cell? ⟨w.heap.size + 1, 2, none⟩ = some (.slice B new.length cb)) ∧ w.heap.size + 1 < wr.heap.size) (fun i _ => 2 - (intOf i).toNat)
          case atStart => exact ⟨0, by omega, rfl, fun h => by omega, fun h => by omega, HB0.out, ⟨by simp, by simp, by simp, by simp, by simp⟩, by simp⟩
          case round =>
            obtain ⟨k, hk, rfl, hko, hkn, hbel, ⟨x0, x1, x2, x3, x4⟩, hw1⟩ := hrel
            have HKO := Lib.hid hko
            have HKN := Lib.hid hkn
            have HB := Lib.hid hbel
            clear hko hkn hbel
            by_cases hk0 : k = 0
            · subst hk0
              have hz := HQold.out
              go_wp2_with fail
              refine put_as (v' := Value.slice A old.length ca) (by first | rfl | kernel_rfl) ?_
              go_wp2_with fail
              refine (fits_any A0 c0' s t m A ca old S _ (HS.out.keep (Same.of_below HB.out hS)) (HO.out.keep (Same.of_below HB.out hS)) (fun b hb => by have := hS b hb; omega)).mono ?_
              rintro e w4 ⟨rfl, hb4⟩
              have HB4 := Lib.hid (HB.out.trans (hb4.mono (by omega)))
              have hs4 := hb4.size
              have y0 := (hb4.cell (p := ⟨w.heap.size, 0, none⟩) (by simp; omega)).trans x0
              have y1 := (hb4.cell (p := ⟨w.heap.size, 1, none⟩) (by simp; omega)).trans x1
              have y2 := (hb4.cell (p := ⟨w.heap.size + 1, 0, none⟩) (by simp; omega)).trans x2
              have y3 := (hb4.cell (p := ⟨w.heap.size + 1, 1, none⟩) (by simp; omega)).trans x3
              have y4 := (hb4.cell (p := ⟨w.heap.size + 1, 2, none⟩) (by simp; omega)).trans x4
              clear hb4 x0 x1 x2 x3 x4
              by_cases hf : fitsF s t old m = true
              · have HF := Lib.hid hf
                rw [hf]
                clear hf
                go_wp2_with fail
                go_roundw
                case rel => exact ⟨1, by omega, rfl, fun _ => HF.out, fun h => by omega, HB4.out, ⟨y0, y1, y2, y3, y4⟩, by omega⟩
                case measure => simp [intOf]
              · have hf' : fitsF s t old m = false := by simpa using hf
                have HF := Lib.hid (show validC s m ⟨t, old, new⟩ = false by rw [HV.out]; simp [hf'])
                rw [hf']
                clear hf hf'
                go_wp2_with fail
                go_ret
                exact ⟨by rw [HF.out]; rfl, HB4.out⟩
            · skip
              by_cases hk1 : k = 1
              · subst hk1
                have hz := HQnew.out
                go_wp2_with fail
                refine put_as (v' := Value.slice B new.length cb) (by first | rfl | kernel_rfl) ?_
                go_wp2_with fail
                refine (fits_any A0 c0' s t m B cb new S _ (HS.out.keep (Same.of_below HB.out hS)) (HN.out.keep (Same.of_below HB.out hS)) (fun b hb => by have := hS b hb; omega)).mono ?_
                rintro e w4 ⟨rfl, hb4⟩
                have HB4 := Lib.hid (HB.out.trans (hb4.mono (by omega)))
                have hs4 := hb4.size
                have y0 := (hb4.cell (p := ⟨w.heap.size, 0, none⟩) (by simp; omega)).trans x0
                have y1 := (hb4.cell (p := ⟨w.heap.size, 1, none⟩) (by simp; omega)).trans x1
                have y2 := (hb4.cell (p := ⟨w.heap.size + 1, 0, none⟩) (by simp; omega)).trans x2
                have y3 := (hb4.cell (p := ⟨w.heap.size + 1, 1, none⟩) (by simp; omega)).trans x3
                have y4 := (hb4.cell (p := ⟨w.heap.size + 1, 2, none⟩) (by simp; omega)).trans x4
                clear hb4 x0 x1 x2 x3 x4
                by_cases hf : fitsF s t new m = true
                · have HF := Lib.hid hf
                  rw [hf]
                  clear hf
                  go_wp2_with fail
                  go_roundw
                  case rel => exact ⟨2, by omega, rfl, fun _ => HKO.out (by omega), fun _ => HF.out, HB4.out, ⟨y0, y1, y2, y3, y4⟩, by omega⟩
                  case measure => simp [intOf]
                · have hf' : fitsF s t new m = false := by simpa using hf
                  have HF := Lib.hid (show validC s m ⟨t, old, new⟩ = false by rw [HV.out]; simp [hf'])
                  rw [hf']
                  clear hf hf'
                  go_wp2_with fail
                  go_ret
                  exact ⟨by rw [HF.out]; rfl, HB4.out⟩
              · obtain rfl : k = 2 := by omega
                have ho2 := HKO.out (by omega)
                have hn2 := HKN.out (by omega)
                have HF := Lib.hid (show validC s m ⟨t, old, new⟩ = (cmpR (keyF s t old) (keyF s t new) == 0) by rw [HV.out, ho2, hn2]; simp)
                clear ho2 hn2 HKO HKN HV
                go_wp2_with fail
                have hSr : ∀ b, S b → b < wr.heap.size := fun b hb => by have := hS b hb; omega
                have HSr := Lib.hid (HS.out.keep (Same.of_below HB.out hS))
                have HOr := Lib.hid (HO.out.keep (Same.of_below HB.out hS))
                have HNr := Lib.hid (HN.out.keep (Same.of_below HB.out hS))
                go_region_held3 (fun w' => Below wr.heap.size wr w' ∧ w'.cell? ⟨w.heap.size, 0, none⟩ = some (.int .i64 s.version) ∧ w'.cell? ⟨w.heap.size, 1, none⟩ = some (.slice A0 s.tabs.length c0') ∧ w'.cell? ⟨w.heap.size + 1, 0, none⟩ = some (.int .i64 t) ∧ w'.cell? ⟨w.heap.size + 1, 1, none⟩ = some (.slice A old.length ca) ∧ w'.cell? ⟨w.heap.size + 1, 2, none⟩ = some (.slice B new.length cb))
                  (first | exact ⟨(Below.refl _ _).drew, x0, x1, x2, x3, x4⟩ | exact ⟨hv3, (hv3.cell (p := ⟨w.heap.size, 0, none⟩) (by simp; omega)).trans x0, (hv3.cell (p := ⟨w.heap.size, 1, none⟩) (by simp; omega)).trans x1, (hv3.cell (p := ⟨w.heap.size + 1, 0, none⟩) (by simp; omega)).trans x2, (hv3.cell (p := ⟨w.heap.size + 1, 1, none⟩) (by simp; omega)).trans x3, (hv3.cell (p := ⟨w.heap.size + 1, 2, none⟩) (by simp; omega)).trans x4⟩ | exact ⟨hv2, (hv2.cell (p := ⟨w.heap.size, 0, none⟩) (by simp; omega)).trans x0, (hv2.cell (p := ⟨w.heap.size, 1, none⟩) (by simp; omega)).trans x1, (hv2.cell (p := ⟨w.heap.size + 1, 0, none⟩) (by simp; omega)).trans x2, (hv2.cell (p := ⟨w.heap.size + 1, 1, none⟩) (by simp; omega)).trans x3, (hv2.cell (p := ⟨w.heap.size + 1, 2, none⟩) (by simp; omega)).trans x4⟩ | exact ⟨hv1, (hv1.cell (p := ⟨w.heap.size, 0, none⟩) (by simp; omega)).trans x0, (hv1.cell (p := ⟨w.heap.size, 1, none⟩) (by simp; omega)).trans x1, (hv1.cell (p := ⟨w.heap.size + 1, 0, none⟩) (by simp; omega)).trans x2, (hv1.cell (p := ⟨w.heap.size + 1, 1, none⟩) (by simp; omega)).trans x3, (hv1.cell (p := ⟨w.heap.size + 1, 2, none⟩) (by simp; omega)).trans x4⟩)
                  (first
                    | (go_at_call 61; have hvx := hv1; clear hvx; refine (prefix_any A0 c0' s t B cb new S _ (HSr.out.keep (Same.of_below hv1 hSr)) (HNr.out.keep (Same.of_below hv1 hSr)) HCB.out (fun b hb => Nat.lt_of_lt_of_le (hSr b hb) hv1.size)).mono ?_; rintro e w6 ⟨A8, c8, rfl, h8, hv2'⟩; have hv2 : Below wr.heap.size wr w6 := hv1.trans (hv2'.mono hv1.size))
                    | (go_at_call 61; refine (prefix_any A0 c0' s t A ca old S wr.drew (HSr.out.keep (fun _ _ => rfl)) (HOr.out.keep (fun _ _ => rfl)) HCA.out hSr).mono ?_; rintro e w5 ⟨A7, c7, rfl, h7, hv1'⟩; have hv1 : Below wr.heap.size wr w5 := (Below.refl _ wr).drew.trans hv1')
                    | (go_at_call 77; refine (equal_any A7 A8 c7 c8 (keyF s t old) (keyF s t new) S _ ((HOr.out.keep (Same.of_below hv2 hSr)).key s t h7) ((HNr.out.keep (Same.of_below hv2 hSr)).key s t h8) (fun b hb => Nat.lt_of_lt_of_le (hSr b hb) hv2.size)).mono ?_; rintro e w7 ⟨rfl, hv3'⟩; have hv3 : Below wr.heap.size wr w7 := hv2.trans (hv3'.mono hv2.size)))
                have HB7 := Lib.hid (HB.out.trans (hv3.mono (by omega)))
                clear hv1 hv2 hv3 hv1' hv2' hv3' h7 h8 x0 x1 x2 x3 x4
                go_wp2_with fail
                go_ret
                exact ⟨by rw [HF.out]; rfl, HB7.out⟩
end Go.Proofs.Ytkpjjfhfbpfjpaa
