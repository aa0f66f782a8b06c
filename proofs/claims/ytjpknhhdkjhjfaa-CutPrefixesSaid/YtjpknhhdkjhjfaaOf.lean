/- The contracts of cut.Of and of the reference's Of. -/
import Derived.Test.YtjpknhhdkjhjfaaRWhole
import Derived.Laws.ShiftsVarLaws
import Derived.WalkLawsBesides
namespace Go.Proofs.Ytjpknhhdkjhjfaa
open Go.RowKit
set_option linter.unusedVariables false

/-- What the closure has captured: the list and the number. -/
def Capt (w : World) (S : Nat → Prop) (gl gn : Nat) (l : List Stp) (n : Int) : Prop :=
  (∃ A c, w.heap[gl]? = some (.cells #[.slice A l.length c] 31 (0, 0)) ∧ Stamps w S A l) ∧ w.heap[gn]? = some (.cells #[.int .i64 n] 3 (0, 0))
theorem Capt.drewN {w : World} {S : Nat → Prop} {gl gn : Nat} {l : List Stp} {n : Int} (h : Capt w S gl gn l n) (k : Nat) : Capt (w.drewN k) S gl gn l n := by
  obtain ⟨⟨A, c, h1, h2⟩, h3⟩ := h
  exact ⟨⟨A, c, h1, h2.keep (fun _ _ => rfl)⟩, h3⟩

theorem Capt.below {w w' : World} {S : Nat → Prop} {gl gn : Nat} {l : List Stp} {n : Int} (h : Capt w S gl gn l n) (hS : ∀ b, S b → w'.heap[b]? = w.heap[b]?) (h1 : w'.heap[gl]? = w.heap[gl]?) (h2 : w'.heap[gn]? = w.heap[gn]?) : Capt w' S gl gn l n := by
  obtain ⟨⟨A, c, a1, a2⟩, a3⟩ := h
  exact ⟨⟨A, c, h1.trans a1, a2.keep hS⟩, h2.trans a3⟩

set_option maxHeartbeats 400000 in
theorem of1_any (gl gn : Nat) (l : List Stp) (n t : Int) (S : Nat → Prop) (w : World) (h : Capt w S gl gn l n) (ht0 : 0 ≤ t) (ht1 : t < l.length) :
    Calls Try.prog 54 #[.int .i64 t, .pointer (some ⟨gl, 0, none⟩), .pointer (some ⟨gn, 0, none⟩)] w fun e w' => e = .returned (.bool (decide (n < (l.getD t.toNat nilS).1))) ∧ ∃ q, w' = w.drewN q := by
  obtain ⟨k, rfl⟩ := Int.eq_ofNat_of_zero_le ht0
  rw [Int.toNat_natCast]
  have hk : k < l.length := by omega
  obtain ⟨⟨A, c, h1, h2⟩, h3⟩ := h
  have c0 : w.cell? ⟨gl, 0, none⟩ = some (.slice A l.length c) := by simp [World.cell?, h1]
  have c1 : w.cell? ⟨gn, 0, none⟩ = some (.int .i64 n) := by simp [World.cell?, h3]
  obtain ⟨b4, o4, rfl, hb4, hst⟩ := h2.at_ hk
  obtain ⟨c5, _⟩ := hst
  have hlb := h2.1
  generalize (l.getD k nilS).1 = cm at c5
  clear h1 h2 h3
  go_enter Try.func54, Try.ntmps54
  go_wp2_with fail
  go_quiet (fail)
  go_wp2_with fail
  go_ret
  exact ⟨rfl, _, rfl⟩

set_option maxHeartbeats 400000 in
theorem search_any (gl gn : Nat) (l : List Stp) (n : Int) (S : Nat → Prop) (w : World) (h : Capt w S gl gn l n) (hl : l.length ≤ 17592186044416) (ha : l.Pairwise (fun a b => a.1 < b.1)) :
    Calls Try.prog 53 #[.int .i64 (l.length : Int), .func (.func 54) #[] #[.pointer (some ⟨gl, 0, none⟩), .pointer (some ⟨gn, 0, none⟩)]] w fun e w' => e = .returned (.int .i64 (cnt n l)) ∧ ∃ q, w' = w.drewN q := by
  have HC := Lib.hid h
  have HA := Lib.hid ha
  have hcn := cnt_le (n := n) l
  clear h ha
  go_enter Try.func53, Try.ntmps53
  go_wp2_with fail
  go_loopw [5, 6] (fun x y wr => ∃ i j : Nat, x = .int .i64 i ∧ y = .int .i64 j ∧ i ≤ cnt n l ∧ cnt n l ≤ j ∧ j ≤ l.length ∧ ∃ q, wr = w.drewN q) (fun x y _ => (intOf y - intOf x).toNat)
  case atStart => exact ⟨0, l.length, rfl, rfl, Nat.zero_le _, hcn, Nat.le_refl _, 0, rfl⟩
  case round =>
    obtain ⟨i, j, rfl, rfl, hi, hj, hjl, q, rfl⟩ := hrel
    by_cases hij : i < j
    · have hd : decide ((i : Int) < (j : Int)) = true := by simp [hij]
      go_wp2_with fail
      refine (of1_any gl gn l n _ S _ (HC.out.drewN q) (by omega) (by omega)).mono ?_
      rintro e w' ⟨rfl, q2, rfl⟩
      have hm1 : i ≤ ((i : Int) + (j : Int)).toNat / 2 := by omega
      have e2 : (((i : Int) + (j : Int)) / 2).toNat = (i + j) / 2 := by omega
      have e3 : ((i : Int) + (j : Int)) / 2 = ((i + j) / 2 : Nat) := by omega
      rw [e2]
      have hca := cnt_asc (n := n) l HA.out ((i + j) / 2) (by omega)
      have E3 := Lib.hid e3
      clear e2 e3 hm1
      by_cases hgt : n < (l.getD ((i + j) / 2) nilS).1
      · have hcm : cnt n l ≤ (i + j) / 2 := by
          rcases Nat.lt_or_ge ((i + j) / 2) (cnt n l) with h' | h'
          · have : (l.getD ((i + j) / 2) nilS).1 ≤ n := hca.1 h'
            omega
          · exact h'
        rw [decide_eq_true hgt]
        clear hca hgt
        go_wp2_with fail
        go_roundw
        case rel => exact ⟨i, (i + j) / 2, rfl, by rw [E3.out], hi, hcm, by omega, _, rfl⟩
        case measure => simp [intOf]; omega
      · have hcm : (i + j) / 2 < cnt n l := hca.2 (by show (l.getD ((i + j) / 2) nilS).1 ≤ n; omega)
        rw [decide_eq_false hgt]
        clear hca hgt
        go_wp2_with fail
        go_roundw
        case rel => exact ⟨(i + j) / 2 + 1, j, by rw [E3.out]; rfl, rfl, by omega, hj, hjl, _, rfl⟩
        case measure => simp [intOf]; omega
    · have hd : decide ((i : Int) < (j : Int)) = false := by simp; omega
      have HI := Lib.hid (show cnt n l = i by omega)
      go_wp2_with fail
      go_ret
      exact ⟨by rw [HI.out]; rfl, q, rfl⟩

open Classical in
noncomputable def ofErr (base : Int) (L : List (List Stp)) (n : Int) : Int := if errOf base L = 0 then (if n < base ∨ 1073741824 < n then 1 else 0) else errOf base L
open Classical in
noncomputable def ofL (base : Int) (L : List (List Stp)) (n : Int) : List Int := if ofErr base L n = 0 then uptoL L n else []
theorem ofErr_err {base : Int} {L : List (List Stp)} {n : Int} (h : errOf base L ≠ 0) : ofErr base L n = errOf base L := by unfold ofErr; rw [if_neg h]
theorem ofErr_ok {base : Int} {L : List (List Stp)} {n : Int} (h : errOf base L = 0) (hn : ¬ (n < base ∨ 1073741824 < n)) : ofErr base L n = 0 := by unfold ofErr; rw [if_pos h, if_neg hn]
theorem ofErr_bad {base : Int} {L : List (List Stp)} {n : Int} (h : errOf base L = 0) (hn : n < base ∨ 1073741824 < n) : ofErr base L n = 1 := by unfold ofErr; rw [if_pos h, if_pos hn]
theorem ofL_ok {base : Int} {L : List (List Stp)} {n : Int} (h : ofErr base L n = 0) : ofL base L n = uptoL L n := by unfold ofL; rw [if_pos h]
theorem ofL_no {base : Int} {L : List (List Stp)} {n : Int} (h : ofErr base L n ≠ 0) : ofL base L n = [] := by unfold ofL; rw [if_neg h]
theorem newInts_none (w w' : World) (er : Int) (hb : Below w.heap.size w w') : NewInts w [] er (.returned (.tuple #[.slice none 0 0, .int .i64 er])) w' := ⟨none, 0, rfl, Reads.none_, hb⟩
/-- The lists below k are counted. -/
def OfTo (L : List (List Stp)) (n : Int) (k : Nat) (l : List Int) : Prop := l.length = L.length ∧ ∀ i, i < k → l.getD i 0 = cnt n (L.getD i [])
theorem ofTo_step {L : List (List Stp)} {n : Int} {k : Nat} {l : List Int} (h : OfTo L n k l) (hk : k < L.length) {x : Int} (hx : x = cnt n (L.getD k [])) : OfTo L n (k + 1) (l.set k x) := by
  refine ⟨by rw [List.length_set]; exact h.1, fun i hi => ?_⟩
  rw [getD_setI _ _ _ _ (by rw [h.1]; exact hk)]
  by_cases e : i = k
  · rw [if_pos e, e]; exact hx
  · rw [if_neg e]; exact h.2 i (by omega)
theorem ofTo_end {L : List (List Stp)} {n : Int} {k : Nat} {l : List Int} (h : OfTo L n k l) (hk : L.length ≤ k) : l = uptoL L n := by
  refine ext_getD (by rw [uptoL_len]; exact h.1) fun i hi => ?_
  rw [h.1] at hi
  rw [h.2 i (by omega), uptoL_getD hi]

set_option maxHeartbeats 1000000 in
theorem of_any (AL : Option Addr) (cl : Nat) (L : List (List Stp)) (base n : Int) (S : Nat → Prop) (w : World) (hL : Logs w S AL L) (hS : ∀ b, S b → b < w.heap.size) :
    Calls Try.prog 30 #[.int .i64 base, .slice AL L.length cl, .int .i64 n] w (NewInts w (ofL base L n) (ofErr base L n)) := by
  have hbd := hL.1
  have HL := Lib.hid hL
  clear hL
  have hbx : Below w.heap.size w (w.alloc (.cells #[.int .i64 n] 3)) := (Below.refl _ _).alloc (Nat.le_refl _) _
  have HBX := Lib.hid hbx
  have HN0 := Lib.hid (heap_alloc_new w (.cells #[.int .i64 n] 3))
  clear hbx
  go_enter Try.func30, Try.ntmps30
  go_wp2_with fail
  refine (check_any AL cl L base S _ (HL.out.keep (Same.of_below HBX.out hS)) (fun b hb => by have := hS b hb; simp; omega)).mono ?_
  rintro e w1 ⟨rfl, hb1⟩
  have HB1 := Lib.hid (HBX.out.trans (hb1.mono (by simp)))
  have HN1 := Lib.hid ((hb1.block w.heap.size (by simp)).trans HN0.out)
  have cn : w1.cell? ⟨w.heap.size, 0, none⟩ = some (.int .i64 n) := by have := HN1.out; simp [World.cell?, this]
  have hz1 : w.heap.size < w1.heap.size := by have := hb1.size; simp at this; omega
  clear hb1 HN0 HBX
  by_cases he : errOf base L = 0
  · have HE := Lib.hid he
    obtain ⟨hv, hb0, hb1, hn0, hn4⟩ := errOf_zero he
    have HV := Lib.hid hv
    rw [he]
    clear he hv
    by_cases h1 : n < base
    · have hd1 : decide (n < base) = true := by simp [h1]
      have HF := Lib.hid (ofErr_bad HE.out (.inl h1))
      go_wp2_with fail
      go_ret2
      rw [HF.out, ofL_no (by rw [HF.out]; decide)]
      exact newInts_none _ _ _ HB1.out
    · have hd1 : decide (n < base) = false := by simpa using h1
      by_cases h2 : 1073741824 < n
      · have hd2 : decide (1073741824 < n) = true := by simp [h2]
        have HF := Lib.hid (ofErr_bad HE.out (.inr h2))
        go_wp2_with fail
        go_ret2
        rw [HF.out, ofL_no (by rw [HF.out]; decide)]
        exact newInts_none _ _ _ HB1.out
      · have hd2 : decide (1073741824 < n) = false := by simpa using h2
        have HF := Lib.hid (ofErr_ok (n := n) HE.out (by omega))
        have hmk := run_make_ints L.length (by omega)
        go_wp2_with fail
        clear hmk
        go_loopw [30] (fun i wr => ∃ (k : Nat) (l : List Int), k ≤ L.length ∧ i = .int .i64 k ∧ OfTo L n k l ∧ Row wr w1.heap.size l ∧ wr.heap[w.heap.size]? = some (.cells #[.int .i64 n] 3 (0, 0)) ∧ Below w.heap.size w wr) (fun i _ => L.length - (intOf i).toNat)
        case atStart => exact ⟨0, List.replicate L.length 0, Nat.zero_le _, rfl, ⟨by simp, fun i hi => absurd hi (by omega)⟩, Row.new _ _, (Below.heap_alloc _ _ _ hz1).trans HN1.out, HB1.out.alloc (by omega) _⟩
        case round =>
          obtain ⟨k, l, hk, rfl, hto, hrow, hn, hbel⟩ := hrel
          have HTO := Lib.hid hto
          have HR := Lib.hid hrow
          have HN := Lib.hid hn
          have HB := Lib.hid hbel
          have hsz := hbel.size
          have hrl := hrow.lt
          clear hto hn hbel
          by_cases hkl : k < L.length
          · obtain ⟨b3, o3, A', c', rfl, hb3, c3, hs⟩ := (HL.out.keep (Same.of_below HB.out hS)).at_ hkl
            have hlb := hs.1
            have hlk : k < l.length := by rw [HTO.out.1]; exact hkl
            have c4 := hrow.cell hlk
            have f4 := hrow.frozen k
            have HASC := Lib.hid (HV.out.ok k hkl).1.2
            have HST := Lib.hid (ofTo_step HTO.out hkl (rfl : ((cnt n (L.getD k []) : Nat) : Int) = _))
            have HS := Lib.hid hs
            generalize L.getD k [] = lk at c3 hlb HASC HST HS
            have HCA := Lib.hid (show Capt (wr.alloc (.cells #[.slice A' lk.length c'] 31)) S wr.heap.size w.heap.size lk n from ⟨⟨A', c', heap_alloc_new wr _, HS.out.keep (fun b hb => Below.heap_alloc _ _ _ (by have := hS b hb; omega))⟩, (Below.heap_alloc _ _ _ (by omega)).trans HN.out⟩)
            clear hs hrow
            generalize l.getD k 0 = ov at c4
            go_wp2_with fail
            refine (search_any wr.heap.size w.heap.size lk n S _ HCA.out hlb HASC.out).mono ?_
            rintro e w2 ⟨rfl, q, rfl⟩
            have HR2 := Lib.hid (show Row ((wr.alloc (.cells #[.slice A' lk.length c'] 31)).drewN q) w1.heap.size l from HR.out.keep (Below.heap_alloc _ _ _ hrl))
            have HN2 := Lib.hid (show ((wr.alloc (.cells #[.slice A' lk.length c'] 31)).drewN q).heap[w.heap.size]? = some (.cells #[.int .i64 n] 3 (0, 0)) from (Below.heap_alloc _ _ _ (by omega)).trans HN.out)
            have HB2 := Lib.hid (below_drewN (HB.out.alloc hsz (.cells #[.slice A' lk.length c'] 31)) q)
            have c5 := HR2.out.cell hlk
            have f5 := HR2.out.frozen k
            go_wp2_with fail
            go_roundw
            case rel => exact ⟨k + 1, _, by omega, by go_num, HST.out, HR2.out.set_ k _, (Below.heap_setCell _ ⟨w1.heap.size, k, none⟩ _ _ (by show w.heap.size ≠ w1.heap.size; omega)).trans HN2.out, HB2.out.setCell (p := ⟨w1.heap.size, k, none⟩) (by show w.heap.size ≤ w1.heap.size; omega) _⟩
            case measure => simp [intOf]; omega
          · have HU := Lib.hid (ofTo_end HTO.out (by omega))
            clear hrow
            go_wp2_with fail
            go_ret2
            rw [HF.out, ofL_ok HF.out, ← HU.out]
            exact ⟨some ⟨w1.heap.size, 0, none⟩, L.length, by rw [HTO.out.1]; rfl, HR.out.ints.more (fun b e => by subst e; exact ⟨by omega, hrl⟩), HB.out⟩
  · have hd : (errOf base L != 0) = true := by simp [he]
    have HE := Lib.hid he
    have HF := Lib.hid (ofErr_err (n := n) he)
    clear he
    generalize hce : errOf base L = er at hd HE HF ⊢
    clear hce
    go_wp2_with fail
    go_ret2
    rw [HF.out, ofL_no (by rw [HF.out]; exact HE.out)]
    exact newInts_none _ _ _ HB1.out

set_option maxHeartbeats 400000 in
theorem rof_any (AL : Option Addr) (cl : Nat) (L : List (List Stp)) (base n : Int) (S : Nat → Prop) (w : World) (hL : Logs w S AL L) (hS : ∀ b, S b → b < w.heap.size) (hcap : L.length ≤ cl) :
    Calls Try.prog 31 #[.int .i64 base, .slice AL L.length cl, .int .i64 n] w (NewInts w (ofL base L n) (ofErr base L n)) := by
  go_enter Try.func31, Try.ntmps31
  go_wp2_with fail
  refine (rcheck_any AL cl L base S w hL hS hcap).mono ?_
  rintro e w1 ⟨rfl, hb1⟩
  have HB1 := Lib.hid hb1
  have hz1 := hb1.size
  have HL1 := Lib.hid (hL.keep (Same.of_below hb1 hS))
  clear hb1
  by_cases he : errOf base L = 0
  · have HE := Lib.hid he
    rw [he]
    clear he
    by_cases h1 : n < base
    · have hd1 : decide (n < base) = true := by simp [h1]
      have HF := Lib.hid (ofErr_bad HE.out (.inl h1))
      go_wp2_with fail
      go_ret2
      rw [HF.out, ofL_no (by rw [HF.out]; decide)]
      exact newInts_none _ _ _ HB1.out
    · have hd1 : decide (n < base) = false := by simpa using h1
      by_cases h2 : 1073741824 < n
      · have hd2 : decide (1073741824 < n) = true := by simp [h2]
        have HF := Lib.hid (ofErr_bad HE.out (.inr h2))
        go_wp2_with fail
        go_ret2
        rw [HF.out, ofL_no (by rw [HF.out]; decide)]
        exact newInts_none _ _ _ HB1.out
      · have hd2 : decide (1073741824 < n) = false := by simpa using h2
        have HF := Lib.hid (ofErr_ok (n := n) HE.out (by omega))
        go_wp2_with fail
        refine (upto_any AL cl L n S w1 HL1.out (fun b hb => by have := hS b hb; omega)).mono ?_
        rintro e w2 ⟨rfl, hrow, hb2⟩
        have HR := Lib.hid hrow
        have HB2 := Lib.hid (HB1.out.trans (hb2.mono hz1))
        clear hrow hb2
        go_wp2_with fail
        go_ret2
        rw [HF.out, ofL_ok HF.out]
        exact ⟨some ⟨w1.heap.size, 0, none⟩, L.length, by rw [uptoL_len]; rfl, HR.out.ints.more (fun b e => by subst e; exact ⟨hz1, HR.out.lt⟩), HB2.out⟩
  · have hd : (errOf base L != 0) = true := by simp [he]
    have HE := Lib.hid he
    have HF := Lib.hid (ofErr_err (n := n) he)
    clear he
    generalize hce : errOf base L = er at hd HE HF ⊢
    clear hce
    go_wp2_with fail
    go_ret2
    rw [HF.out, ofL_no (by rw [HF.out]; exact HE.out)]
    exact newInts_none _ _ _ HB1.out
end Go.Proofs.Ytjpknhhdkjhjfaa
