/- Contracts: has, Kinds. -/
import Derived.Test.YtkpjjfhfbpfjpaaSch
import Derived.Test.YtkpjjfhfbpfjpaaCase
namespace Go.Proofs.Ytkpjjfhfbpfjpaa
open Go.RowKit
set_option linter.unusedVariables false

theorem info3 : (Try.prog.info? 3).map (fun i => (i.zero, i.size, i.bytes)) = some (some (.int .i64 0), 1, 8) := by kernel_rfl
theorem owns_block {w : World} {base : Nat} {e : TypeId} {size : Nat} {v : Value} {n : Nat} {xs : List Value} (h : w.ownsRow base e size v n xs) {g : Nat} (hg : v.ownBlock = some g) : base ≤ g ∧ ∃ cur, w.heap[g]? = some (.cells cur e (0, 0)) := by
  rcases h.2 with ⟨rfl, _⟩ | ⟨g', cap, cur, rfl, hb, hh, _⟩
  · simp [Value.ownBlock] at hg
  · have : g' = g := by simpa [Value.ownBlock] using hg
    subst this
    exact ⟨hb, cur, hh⟩
theorem own_base {w : World} {base : Nat} {e : TypeId} {size : Nat} {v : Value} {n : Nat} {xs : List Value} (h : w.ownsRow base e size v n xs) {g : Nat} (hg : v.ownBlock = some g) : base ≤ g := (owns_block h hg).1
theorem own_cap {w : World} {base : Nat} {e : TypeId} {size : Nat} {A : Option Addr} {n m c : Nat} {xs : List Value} (h : w.ownsRow base e size (.slice A n c) n xs) (hm : m = n) : m ≤ c := by
  subst hm
  rcases h.2 with ⟨_, hn⟩ | ⟨g, cap, cur, e1, hb, hh, h1, _⟩
  · omega
  · injection e1 with _ _ e3
    omega
/-- The blocks that a call has made. -/
abbrev New (w w' : World) : Nat → Prop := fun b => w.heap.size ≤ b ∧ b < w'.heap.size
theorem own_len {w : World} {base : Nat} {e : TypeId} {size : Nat} {A : Option Addr} {n m c : Nat} {xs : List Value} (h : w.ownsRow base e size (.slice A n c) n xs) (hm : m = n) (hb : n ≤ 17592186044416) : m ≤ 17592186044416 := by omega
theorem row_cells {w : World} {base : Nat} {e : TypeId} {size n c : Nat} {A : Option Addr} {xs : List Value} (h : w.ownsRow base e size (.slice A n c) n xs) (hn : 0 < n) : ∃ g, A = some ⟨g, 0, none⟩ ∧ base ≤ g ∧ g < w.heap.size ∧ ∀ j u, xs[j]? = some u → w.cell? ⟨g, j, none⟩ = some u := by
  rcases h.2 with ⟨_, hn'⟩ | ⟨g, cap, cur, e1, hb, hh, h1, h2, h3, h4⟩
  · omega
  · injection e1 with e1 _ _
    refine ⟨g, e1, hb, lt_of_heap hh, fun j u hu => ?_⟩
    have hq := (List.getElem?_eq_some_iff.1 hu).1
    rw [h.1] at hq
    rw [← h4, List.getElem?_take_of_lt hq] at hu
    simp only [World.cell?, hh]
    simpa using hu
theorem ints_of_owns {w : World} {base c : Nat} {A : Option Addr} {l : List Int} (hll : l.length ≤ 17592186044416) (h : w.ownsRow base 3 1 (.slice A l.length c) l.length (l.map (Value.int .i64))) : IntS w (fun b => base ≤ b ∧ b < w.heap.size) A l := by
  refine ⟨by rw [bytesAll_map (n := 8) (fun _ => rfl)]; omega, fun hn => ?_⟩
  obtain ⟨g, e, hb, hl, hc⟩ := row_cells h (by simpa using hn)
  refine ⟨g, 0, e, ⟨hb, hl⟩, heldAll_of (n := 1) (fun d hd => by obtain ⟨v, _, rfl⟩ := List.mem_map.1 hd; rfl) (fun k hk => ?_)⟩
  rw [List.getElem_map]
  have hk' : k < l.length := by simpa using hk
  have := hc k (.int .i64 l[k]) (by simp [hk'])
  simpa [encInt, Dat.Held] using this
theorem news_two (w : World) (o1 : Obj) (v : Value) (t : TypeId) : ∀ j u, ([v] : List Value)[j]? = some u → ((w.alloc o1).alloc (.cells #[v] t)).cell? ((⟨w.heap.size + 1, 0, none⟩ : Addr).add j) = some u := by
  have h := World.news_of_block (cs := #[v]) (t := t) (fr := (0, 0)) (heap_alloc_new (w.alloc o1) (.cells #[v] t))
  simpa using h

def hasN (n : Nat) (t : Int) : Bool := decide (0 ≤ t) && decide (t < n)
set_option maxHeartbeats 400000 in
theorem has_any (v t : Int) (A : Option Addr) (n c : Nat) (w : World) (hn : n ≤ 17592186044416) : Calls Try.prog 92 #[sAgg v A n c, .int .i64 t] w (BoolBel (hasN n t) w) := by
  have HB := Lib.hid ((Below.refl w.heap.size w).alloc (Nat.le_refl _) (.cells #[.int .i64 v, .slice A n c] 25))
  by_cases h0 : 0 ≤ t
  · have hd0 : decide (0 ≤ t) = true := by simp [h0]
    have HF := Lib.hid (show hasN n t = decide (t < n) by simp [hasN, h0])
    go_enter Try.func92, Try.ntmps92
    go_wp2_with fail
    go_ret
    exact ⟨by rw [HF.out]; rfl, HB.out⟩
  · have hd0 : decide (0 ≤ t) = false := by simpa using h0
    have HF := Lib.hid (show hasN n t = false by simp [hasN]; omega)
    go_enter Try.func92, Try.ntmps92
    go_wp2_with fail
    go_ret
    exact ⟨by rw [HF.out]; rfl, HB.out⟩

/-- The kinds of a table's columns. -/
def kindsF (s : Sch) (t : Int) : List Int := if hasN s.tabs.length t then (s.tabs.getD t.toNat t0).cols.map (·.kind) else []
/-- New ints; nd: a nil slice if there are none. -/
def NewI (nd : Prop) (l : List Int) (w : World) (e : Ending) (w' : World) : Prop := ∃ A c, e = .returned (.slice A l.length c) ∧ IntS w' (New w w') A l ∧ l.length ≤ c ∧ (l.length = 0 → nd → A = none) ∧ Below w.heap.size w w'

set_option maxRecDepth 100000 in
set_option maxHeartbeats 1000000 in
theorem kinds_any (A0 : Option Addr) (c0' : Nat) (s : Sch) (t : Int) (S : Nat → Prop) (w : World) (hs : TabS w S A0 s.tabs) (hS : ∀ b, S b → b < w.heap.size) :
    Calls Try.prog 91 #[sAgg s.version A0 s.tabs.length c0', .int .i64 t] w (NewI False (kindsF s t) w) := by
  have hsl := hs.len
  have HS := Lib.hid hs
  clear hs
  obtain ⟨i0, hi, hz0, hz1, hz2⟩ := info_parts info3
  go_enter Try.func91, Try.ntmps91
  go_wp2_with fail
  refine (has_any _ t A0 s.tabs.length c0' _ hsl).mono ?_
  rintro e w1 ⟨rfl, hb1⟩
  have HB1 := Lib.hid (((Below.refl w.heap.size w).alloc (Nat.le_refl _) (.cells #[.int .i64 s.version, .slice A0 s.tabs.length c0'] 25)).trans (hb1.mono (by simp)))
  have cb : w1.cell? ⟨w.heap.size, 1, none⟩ = some (.slice A0 s.tabs.length c0') := (hb1.cell (p := ⟨w.heap.size, 1, none⟩) (by simp)).trans (by simp [cell_of_row _ _ _ _ _ _ (heap_alloc_new w _)])
  have hz1' : w.heap.size < w1.heap.size := by have := hb1.size; simp at this; omega
  clear hb1
  by_cases hh : hasN s.tabs.length t = true
  · have HKF := Lib.hid (show kindsF s t = (s.tabs.getD t.toNat t0).cols.map (·.kind) by unfold kindsF; rw [if_pos hh])
    have hh0 : 0 ≤ t ∧ t < s.tabs.length := by simpa [hasN] using hh
    obtain ⟨tt, rfl⟩ := Int.eq_ofNat_of_zero_le hh0.1
    rw [Int.toNat_natCast] at HKF
    have htl : tt < s.tabs.length := by omega
    rw [hh]
    clear hh
    obtain ⟨b2, o2, rfl, hb2, A1, A2, A3, c1, c2, c3, hta⟩ := (HS.out.keep (Same.of_below HB1.out hS)).at_ htl
    have k1 := hta.cols
    have HCS' := Lib.hid hta.cS
    have hcl := hta.cS.len
    have hl2 : b2 < w1.heap.size := by have := hS b2 hb2; omega
    clear hta
    generalize s.tabs.getD tt t0 = tb at k1 HCS' hcl HKF
    have hmk : ∀ w : World, (Instr.makeSlice 40 (.int .i64 0) (.int .i64 (tb.cols.length : Int))).run Try.prog w = .ok (.slice (some ⟨w.heap.size, 0, none⟩) 0 tb.cols.length) (w.alloc (.cells (madeCells (Value.int .i64 0).cells (tb.cols.length * 1)) 3)) := fun w => by
      have hr := run_make (P := Try.prog) w 40 3 i0 _ Try.underlying40 hi hz0 .i64 .i64 0 tb.cols.length (by omega) (by omega) (by rw [hz2]; omega) (by omega)
      rw [hz1] at hr
      simpa using hr
    go_wp2_with fail
    clear hmk
    go_loopw [5, 27] (fun v i wr => ∃ (k c : Nat) (A : Option Addr), k ≤ tb.cols.length ∧ i = .int .i64 k ∧ v = .slice A k c ∧ wr.ownsRow w.heap.size 3 1 (.slice A k c) k (((tb.cols.map (·.kind)).take k).map (Value.int .i64)) ∧ (k = 0 → False → A = none) ∧ Below w.heap.size w wr) (fun _ i _ => tb.cols.length - (intOf i).toNat)
    case atStart => exact ⟨0, _, _, Nat.zero_le _, rfl, rfl, World.ownsRow_made _ _ _ (by omega) (by unfold maxLen; omega) (by simp [size_madeCells]), fun _ h => h.elim, HB1.out.alloc (by omega) _⟩
    case round =>
      obtain ⟨k, c, A, hk, rfl, rfl, hown, hnil, hbel⟩ := hrel
      have HOWN := Lib.hid hown
      have HBEL := Lib.hid hbel
      have HNIL := Lib.hid hnil
      have hsz := hbel.size
      clear hown hbel hnil
      by_cases hkl : k < tb.cols.length
      · obtain ⟨b3, o3, rfl, hb3, c3, c4⟩ := (HCS'.out.keep (fun b hb => (HBEL.out.block b (hS b hb)).trans (HB1.out.block b (hS b hb)).symm)).at_ hkl
        have HT := Lib.hid (show (tb.cols.map (·.kind)).take (k + 1) = (tb.cols.map (·.kind)).take k ++ [(tb.cols.getD k c0).kind] by rw [List.take_succ_eq_append_getElem (by simpa using hkl)]; simp [List.getD, hkl])
        generalize tb.cols.getD k c0 = cl at c3 c4 HT
        obtain ⟨cn, ck⟩ := cl
        simp only at c3 c4 HT
        go_wp2_with (at_builtin; refine wpList_append_slice _ rfl (.tmp 31) (.tmp 34) 40 rfl w.heap.size 3 i0 _ 1 8 Try.underlying40 hi hz0 hz1 hz2 rfl (by decide) (.slice A k c) k (((tb.cols.map (·.kind)).take k).map (Value.int .i64)) rfl ((HOWN.out.alloc _).alloc _) ⟨wr.heap.size + 1, 0, none⟩ 1 1 [.int .i64 ck] rfl rfl (news_two wr _ _ _) (by simp [Value.oneCell']) (by unfold maxLen; omega) (by omega) (by simp; omega) ?_; intro A1 c1 w7 hown7 hg7)
        have HOWN7 := Lib.hid hown7
        have HG7 := Lib.hid hg7
        clear hown7 hg7
        go_roundw
        case rel =>
          refine ⟨k + 1, c1, A1, by omega, by go_num, rfl, ?_, fun h => absurd h (by omega), ?_⟩
          · rw [HT.out, List.map_append]; exact HOWN7.out
          · exact ((HBEL.out.alloc hsz _).alloc (by simp; omega) _).grown HG7.out (by simp; omega) (fun b hb => own_base HOWN.out hb)
        case measure => simp [intOf]; omega
      · have HKE := Lib.hid (show k = tb.cols.length by omega)
        go_wp2_with fail
        go_ret
        have hown := HOWN.out
        rw [HKE.out, List.take_of_length_le (by simp)] at hown
        rw [HKF.out]
        refine ⟨A, c, by rw [HKE.out, List.length_map]; rfl, ints_of_owns (by simpa using hcl) (by simpa using hown), own_cap hown (by simp), ?_, HBEL.out⟩
        intro hz hnd
        exact HNIL.out (by rw [HKE.out]; simpa using hz) hnd
  · have HKF := Lib.hid (show kindsF s t = [] by unfold kindsF; rw [if_neg hh])
    have hh' : hasN s.tabs.length t = false := by simpa using hh
    rw [hh']
    clear hh hh'
    go_wp2_with fail
    go_ret
    rw [HKF.out]
    exact ⟨none, 0, rfl, IntS.nil_, by simp, fun _ _ => rfl, HB1.out⟩

set_option maxRecDepth 100000 in
set_option maxHeartbeats 1000000 in
theorem rkinds_any (A0 : Option Addr) (c0' : Nat) (s : Sch) (t : Int) (S : Nat → Prop) (w : World) (hs : TabS w S A0 s.tabs) (hS : ∀ b, S b → b < w.heap.size) :
    Calls Try.prog 47 #[sAgg s.version A0 s.tabs.length c0', .int .i64 t] w (NewI True (kindsF s t) w) := by
  have hsl := hs.len
  have HS := Lib.hid hs
  clear hs
  obtain ⟨i0, hi, hz0, hz1, hz2⟩ := info_parts info3
  have HB1 := Lib.hid ((Below.refl w.heap.size w).alloc (Nat.le_refl _) (.cells #[.int .i64 s.version, .slice A0 s.tabs.length c0'] 25))
  by_cases hh : hasN s.tabs.length t = true
  · have HKF := Lib.hid (show kindsF s t = (s.tabs.getD t.toNat t0).cols.map (·.kind) by unfold kindsF; rw [if_pos hh])
    have hh0 : 0 ≤ t ∧ t < s.tabs.length := by simpa [hasN] using hh
    clear hh
    obtain ⟨tt, rfl⟩ := Int.eq_ofNat_of_zero_le hh0.1
    rw [Int.toNat_natCast] at HKF
    have htl : tt < s.tabs.length := by omega
    obtain ⟨b2, o2, rfl, hb2, A1, A2, A3, c1, c2, c3, hta⟩ := HS.out.at_ htl
    have k1 := hta.cols
    have HCS' := Lib.hid hta.cS
    have hcl := hta.cS.len
    have hl2 : b2 < w.heap.size := hS b2 hb2
    clear hta
    generalize s.tabs.getD tt t0 = tb at k1 HCS' hcl HKF
    have hd1 : decide ((tt : Int) < 0) = false := by simp
    have hd2 : decide (s.tabs.length ≤ tt) = false := by simp; omega
    go_enter Try.func47, Try.ntmps47
    go_wp2_with fail
    go_loopw [5, 24] (fun v i wr => ∃ (k c : Nat) (A : Option Addr), k ≤ tb.cols.length ∧ i = .int .i64 k ∧ v = .slice A k c ∧ wr.ownsRow w.heap.size 3 1 (.slice A k c) k (((tb.cols.map (·.kind)).take k).map (Value.int .i64)) ∧ (k = 0 → True → A = none) ∧ Below w.heap.size w wr) (fun _ i _ => tb.cols.length - (intOf i).toNat)
    case atStart => exact ⟨0, _, _, Nat.zero_le _, rfl, rfl, World.ownsRow_nil _ _ _ _, fun _ _ => rfl, HB1.out⟩
    case round =>
      obtain ⟨k, c, A, hk, rfl, rfl, hown, hnil, hbel⟩ := hrel
      have HOWN := Lib.hid hown
      have HBEL := Lib.hid hbel
      have HNIL := Lib.hid hnil
      have hsz := hbel.size
      clear hown hbel hnil
      by_cases hkl : k < tb.cols.length
      · obtain ⟨b3, o3, rfl, hb3, c3, c4⟩ := (HCS'.out.keep (Same.of_below HBEL.out hS)).at_ hkl
        have HT := Lib.hid (show (tb.cols.map (·.kind)).take (k + 1) = (tb.cols.map (·.kind)).take k ++ [(tb.cols.getD k c0).kind] by rw [List.take_succ_eq_append_getElem (by simpa using hkl)]; simp [List.getD, hkl])
        generalize tb.cols.getD k c0 = cl at c3 c4 HT
        obtain ⟨cn, ck⟩ := cl
        simp only at c3 c4 HT
        go_wp2_with (at_builtin; refine wpList_append_slice _ rfl (.tmp 28) (.tmp 31) 40 rfl w.heap.size 3 i0 _ 1 8 Try.underlying40 hi hz0 hz1 hz2 rfl (by decide) (.slice A k c) k (((tb.cols.map (·.kind)).take k).map (Value.int .i64)) rfl ((HOWN.out.alloc _).alloc _) ⟨wr.heap.size + 1, 0, none⟩ 1 1 [.int .i64 ck] rfl rfl (news_two wr _ _ _) (by simp [Value.oneCell']) (by unfold maxLen; omega) (by omega) (by simp; omega) ?_; intro A1 c1 w7 hown7 hg7)
        have HOWN7 := Lib.hid hown7
        have HG7 := Lib.hid hg7
        clear hown7 hg7
        go_roundw
        case rel =>
          refine ⟨k + 1, c1, A1, by omega, by go_num, rfl, ?_, fun h => absurd h (by omega), ?_⟩
          · rw [HT.out, List.map_append]; exact HOWN7.out
          · exact ((HBEL.out.alloc hsz _).alloc (by simp; omega) _).grown HG7.out (by simp; omega) (fun b hb => own_base HOWN.out hb)
        case measure => simp [intOf]; omega
      · have HKE := Lib.hid (show k = tb.cols.length by omega)
        go_wp2_with fail
        go_ret
        have hown := HOWN.out
        rw [HKE.out, List.take_of_length_le (by simp)] at hown
        rw [HKF.out]
        refine ⟨A, c, by rw [HKE.out, List.length_map]; rfl, ints_of_owns (by simpa using hcl) (by simpa using hown), own_cap hown (by simp), ?_, HBEL.out⟩
        intro hz hnd
        exact HNIL.out (by rw [HKE.out]; simpa using hz) hnd
  · have HKF := Lib.hid (show kindsF s t = [] by unfold kindsF; rw [if_neg hh])
    have hh' : t < 0 ∨ (s.tabs.length : Int) ≤ t := by
      have : hasN s.tabs.length t = false := by simpa using hh
      simp [hasN] at this
      omega
    clear hh
    by_cases h0 : t < 0
    · have hd1 : decide (t < 0) = true := by simp [h0]
      go_enter Try.func47, Try.ntmps47
      go_wp2_with fail
      go_ret
      rw [HKF.out]
      exact ⟨none, 0, rfl, IntS.nil_, by simp, fun _ _ => rfl, HB1.out⟩
    · have hd1 : decide (t < 0) = false := by simpa using h0
      have hd2 : decide ((s.tabs.length : Int) ≤ t) = true := by simp; omega
      go_enter Try.func47, Try.ntmps47
      go_wp2_with fail
      go_ret
      rw [HKF.out]
      exact ⟨none, 0, rfl, IntS.nil_, by simp, fun _ _ => rfl, HB1.out⟩
end Go.Proofs.Ytkpjjfhfbpfjpaa
