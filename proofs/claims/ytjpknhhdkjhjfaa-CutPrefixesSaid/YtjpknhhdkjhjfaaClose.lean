/- The contract of cut.Close. -/
import Derived.Test.YtjpknhhdkjhjfaaOwn
import Derived.Test.YtjpknhhdkjhjfaaNext
import Derived.Test.YtjpknhhdkjhjfaaPlain4
import Derived.Deep.LoopGhost
import Derived.WalkMore
namespace Go.Proofs.Ytjpknhhdkjhjfaa
open Go.RowKit
set_option linter.unusedVariables false

theorem standsB_iff {L : List (List Stp)} {c p : List Int} {i : Nat} {cm : Int} : standsB L c p i cm = true ↔ Stands L c p i cm := by
  unfold standsB Stands stampOf
  simp
theorem least_of {L : List (List Stp)} {o p : List Int} {s : Stp} (h : LeastTo L o p L.length true s) : Least L o p s := by
  rcases h with ⟨h, _⟩ | ⟨_, h1, h2⟩
  · cases h
  · exact ⟨h1, h2⟩
theorem least_none {L : List (List Stp)} {o p : List Int} {s : Stp} (h : LeastTo L o p L.length false s) : ∀ i, i < L.length → ¬ p.getD i 0 < o.getD i 0 := by
  rcases h with ⟨_, h⟩ | ⟨h, _⟩
  · exact h
  · cases h

/-- What Close leaves. -/
def ClosePost (base : Int) (L : List (List Stp)) (c : List Int) (w : World) (e : Ending) (w' : World) : Prop :=
  ∃ (A : Option Addr) (cap : Nat) (y : List Int), e = .returned (.tuple #[.slice A y.length cap, .int .i64 (cutErr base L c)]) ∧ (cutErr base L c = 0 → IsClose L c y) ∧ (cutErr base L c ≠ 0 → y = []) ∧
    Ints w' (fun b => w.heap.size ≤ b ∧ b < w'.heap.size) A y ∧ Below w.heap.size w w'

def ClosedPost (base : Int) (L : List (List Stp)) (c : List Int) (w : World) (e : Ending) (w' : World) : Prop :=
  ∃ r : Bool, e = .returned (.tuple #[.bool r, .int .i64 (cutErr base L c)]) ∧ (cutErr base L c = 0 → (r = true ↔ ClosedC L c)) ∧ (cutErr base L c ≠ 0 → r = false) ∧ Below w.heap.size w w'

theorem CloseInv.cutOk {L : List (List Stp)} {c o p : List Int} (h : CloseInv L c o p) : CutOk L o p := ⟨h.lo, h.lp, h.pos, fun i hi => Int.le_trans (h.oc i hi) (h.top i hi)⟩

/-- The heap of a round of Close. -/
structure CloseMem (B g1 g2 : Nat) (w wr : World) (o p : List Int) : Prop where
  b1 : B ≤ g1
  b2 : g1 < g2
  o1 : Own wr g1 o
  o2 : Own wr g2 p
  bel : Below B w wr

section
variable {B g1 g2 : Nat} {w wr w' : World} {o p : List Int}
theorem CloseMem.g1lt (h : CloseMem B g1 g2 w wr o p) : g1 < wr.heap.size := h.o1.lt
theorem CloseMem.g2lt (h : CloseMem B g1 g2 w wr o p) : g2 < wr.heap.size := h.o2.lt
theorem CloseMem.below (h : CloseMem B g1 g2 w wr o p) (hb : Below wr.heap.size wr w') : CloseMem B g1 g2 w w' o p :=
  ⟨h.b1, h.b2, h.o1.keep (hb.block _ h.o1.lt), h.o2.keep (hb.block _ h.o2.lt), h.bel.trans (hb.mono (by have := h.g1lt; have := h.b1; omega))⟩
theorem CloseMem.alloc (h : CloseMem B g1 g2 w wr o p) (x : Obj) : CloseMem B g1 g2 w (wr.alloc x) o p := h.below ((Below.refl _ _).alloc (Nat.le_refl _) x)
theorem CloseMem.drewN (h : CloseMem B g1 g2 w wr o p) (n : Nat) : CloseMem B g1 g2 w (wr.drewN n) o p := ⟨h.b1, h.b2, h.o1, h.o2, below_drewN h.bel n⟩
theorem CloseMem.setO (h : CloseMem B g1 g2 w wr o p) (k : Nat) (x : Int) : CloseMem B g1 g2 w (wr.setCell ⟨g1, k, none⟩ (.int .i64 x)) (o.set k x) p :=
  ⟨h.b1, h.b2, h.o1.set_ k x, h.o2.keep (Below.heap_setCell _ ⟨g1, k, none⟩ _ _ (by have := h.b2; show g2 ≠ g1; omega)), h.bel.setCell (p := ⟨g1, k, none⟩) h.b1 _⟩
theorem CloseMem.setP (h : CloseMem B g1 g2 w wr o p) (k : Nat) (x : Int) : CloseMem B g1 g2 w (wr.setCell ⟨g2, k, none⟩ (.int .i64 x)) o (p.set k x) :=
  ⟨h.b1, h.b2, h.o1.keep (Below.heap_setCell _ ⟨g2, k, none⟩ _ _ (by have := h.b2; show g1 ≠ g2; omega)), h.o2.set_ k x, h.bel.setCell (p := ⟨g2, k, none⟩) (by have := h.b1; have := h.b2; show B ≤ g2; omega) _⟩
theorem CloseMem.iO (h : CloseMem B g1 g2 w wr o p) : Ints wr (fun b => b < wr.heap.size) (some ⟨g1, 0, none⟩) o := h.o1.ints.more (fun b e => by subst e; exact h.g1lt)
theorem CloseMem.iP (h : CloseMem B g1 g2 w wr o p) : Ints wr (fun b => b < wr.heap.size) (some ⟨g2, 0, none⟩) p := h.o2.ints.more (fun b e => by subst e; exact h.g2lt)
theorem Cell2.alloc (w : World) (x y : Value) : Cell2 (w.alloc (.cells #[x, y] 36)) w.heap.size x y := heap_alloc_new w _
theorem Cell2.keep {g : Nat} {x y : Value} (h : Cell2 w g x y) (hk : w'.heap[g]? = w.heap[g]?) : Cell2 w' g x y := hk.trans h
theorem Cell2.far {g : Nat} {x y : Value} (h : Cell2 w g x y) {a : Addr} (ha : g ≠ a.block) (u : Value) : Cell2 (w.setCell a u) g x y := h.keep (Below.heap_setCell _ _ _ _ ha)
end

set_option maxHeartbeats 1000000 in
theorem close_go (AL AC : Option Addr) (cl cc : Nat) (L : List (List Stp)) (c : List Int) (base : Int) (S : Nat → Prop) (w : World) (hL : Logs w S AL L) (hC : Ints w S AC c) (hS : ∀ b, S b → b < w.heap.size) (hcl : c.length ≤ 17592186044416)
    (he : cutErr base L c = 0) (hna : ¬ BadArg base L) (hv : Valid base L) (hcut : IsCut L c) :
    Calls Try.prog 27 #[.int .i64 base, .slice AL L.length cl, .slice AC c.length cc] w (ClosePost base L c w) := by
  have hbd := hL.1
  have hn0 : 0 < L.length := by unfold BadArg at hna; omega
  have hlc : c.length = L.length := hcut.1
  have HLC := Lib.hid hlc
  have hc0 : 0 < c.length := by omega
  have HE := Lib.hid he
  have HCU := Lib.hid hcut
  have HV := Lib.hid hv
  clear hlc hcut hv hna
  have hmk := run_make_ints L.length (by omega)
  go_enter Try.func27, Try.ntmps27
  go_wp2_with fail
  go_step3
  go_wp2_with fail
  refine (checkCut_any AL AC cl cc L c base S w hL hC hS hcl).mono ?_
  rintro e w1 ⟨rfl, hb1⟩
  rw [he]
  clear he
  go_wp2_with fail
  refine (clone_any AC cc c S w1 (hC.keep (Same.of_below hb1 hS)) (fun b hb => Nat.lt_of_lt_of_le (hS b hb) hb1.size) hc0 hcl).mono ?_
  rintro e w2 ⟨g1, cap1, rfl, hg1, hown1, hb2⟩
  have HB1 := Lib.hid hb1
  have HB2 := Lib.hid hb2
  have HO1 := Lib.hid hown1
  have hz1 := hb1.size
  have hz2 := hb2.size
  have hg1' := hown1.lt
  clear hb1 hb2 hown1
  go_wp2
  clear hmk
  go_step3
  go_wp2_with fail
  go_loopg [12] (room (List.replicate L.length 0) c) (fun n _ wr => ∃ o p, n = room p o ∧ CloseInv L c o p ∧ CloseMem w.heap.size g1 w2.heap.size w wr o p)
  case atStart =>
    refine ⟨c, List.replicate L.length 0, rfl, close_start HCU.out, by omega, by omega, HO1.out.keep (Below.heap_alloc _ _ _ (by omega)), Own.of_row (Row.new _ _), ?_⟩
    exact (HB1.out.trans (HB2.out.mono hz1)).alloc (by omega) _
  case round =>
    obtain ⟨o, p, hgk, hinv, hmem⟩ := hrel
    have HGK := Lib.hid hgk
    have HINV := Lib.hid hinv
    have HMEM := Lib.hid hmem
    have HLO := Lib.hid (show o.length = c.length from hinv.lo.trans HLC.out.symm)
    have HLP := Lib.hid hinv.lp
    have HLR := Lib.hid (hL.keep (Same.of_below hmem.bel hS))
    have hbsz := hmem.bel.size
    clear hgk hinv hmem HO1
    go_wp2_with fail
    refine (next_len AL (some ⟨g1, 0, none⟩) (some ⟨w2.heap.size, 0, none⟩) cl cap1 L.length c.length L.length L o p S (fun b => b < wr.heap.size) wr HLO.out HLP.out HLR.out HMEM.out.iO HMEM.out.iP HINV.out.cutOk (fun b hb => Nat.lt_of_lt_of_le (hS b hb) hbsz) (fun b hb => hb)).mono ?_
    rintro e w3 ⟨found, s, A, cap, rfl, hleast, hints, hsl, hb3⟩
    have HME3 := Lib.hid (HMEM.out.below hb3)
    have hz3 := hb3.size
    obtain ⟨cm, sh⟩ := s
    simp only at hints hsl
    cases found
    · have HEND := Lib.hid (close_end HINV.out (least_none hleast))
      have HLS := Lib.hid (show c.length = o.length from HLO.out.symm)
      clear hleast hints hb3
      go_wp2
      try rw [Exit.noGoto_ret]
      go_ret2
      rw [HLS.out]
      refine ⟨_, _, o, by rw [HE.out]; rfl, fun _ => HEND.out, fun h => absurd HE.out h, (HME3.out.alloc _).o1.ints.more (fun b e => ?_), (HME3.out.alloc _).bel⟩
      subst e
      exact ⟨HME3.out.b1, (HME3.out.alloc _).g1lt⟩
    · have HLEAST := Lib.hid (least_of hleast)
      have HI3 := Lib.hid hints
      have HSH := Lib.hid (least_shards HV.out HINV.out (least_of hleast))
      have HC4 := Lib.hid (Cell2.alloc w3 (.int .i64 cm) (.slice A sh.length cap))
      have HM4 := Lib.hid (HME3.out.alloc (.cells #[.int .i64 cm, .slice A sh.length cap] 36))
      have hz4 : w.heap.size ≤ w3.heap.size := by omega
      have HB4 := Lib.hid ((HME3.out.alloc (.cells #[.int .i64 cm, .slice A sh.length cap] 36)).bel)
      have HI4 := Lib.hid (show Ints (w3.alloc (.cells #[.int .i64 cm, .slice A sh.length cap] 36)) S A sh from hints.keep (Same.of_below ((Below.refl w.heap.size w3).alloc hz4 _) hS))
      have hg1w := HME3.out.g1lt
      have hg2w := HME3.out.g2lt
      clear hleast hints hb3
      go_wp2_with fail
      generalize hW4 : w3.alloc (.cells #[.int .i64 cm, .slice A sh.length cap] 36) = w4 at HC4 HM4 HB4 HI4 ⊢
      clear hW4
      go_loopg [43] sh.length (fun n i W => ∃ j k : Nat, n = sh.length - j ∧ j ≤ sh.length ∧ i = .int .i64 j ∧ (∀ t ∈ sh.take j, Stands L o p t.toNat cm) ∧ W = w4.drewN k)
      case atStart => exact ⟨0, 0, rfl, Nat.zero_le _, rfl, by simp, rfl⟩
      case round =>
        obtain ⟨j, kd, hgk2, hj, rfl, hst, rfl⟩ := hrel
        have HGK2 := Lib.hid hgk2
        have HST := Lib.hid hst
        clear hgk2 hst
        have m0 := HC4.out.c0
        have m1 := HC4.out.c1
        by_cases hjl : j < sh.length
        · obtain ⟨b5, o5, rfl, hb5, c5⟩ := HI4.out.at_ hjl
          have htm := mem_getD hjl
          generalize ht : sh.getD j 0 = t at c5 htm
          have HT := Lib.hid ht
          have HTM := Lib.hid htm
          obtain ⟨ht0, ht1⟩ := HSH.out.2 t htm
          clear ht htm
          go_wp2_with fail
          refine (stands_len AL (some ⟨g1, 0, none⟩) (some ⟨w2.heap.size, 0, none⟩) cl cap1 L.length c.length L.length L o p t cm S (fun b => b < (w4.drewN kd).heap.size) (w4.drewN kd) HLO.out HLP.out (hL.keep (Same.of_below (below_drewN HB4.out kd) hS)) (HM4.out.drewN kd).iO (HM4.out.drewN kd).iP HINV.out.cutOk ht0 ht1).mono ?_
          rintro e w5 ⟨rfl, kd2, rfl⟩
          by_cases hsb : standsB L o p t.toNat cm = true
          · have HSB := Lib.hid (standsB_iff.1 hsb)
            rw [hsb]
            clear hsb
            go_wp2_with fail
            go_roundg (sh.length - (j + 1))
            case measure => rw [HGK2.out]; omega
            case rel =>
              refine ⟨j + 1, kd + kd2, rfl, by omega, by go_num, fun t' ht' => ?_, by simp⟩
              rw [take_snoc sh j hjl, List.mem_append] at ht'
              rcases ht' with h' | h'
              · exact HST.out t' h'
              · rw [List.mem_singleton.1 h', ← getD_get sh j 0 hjl, HT.out]
                exact HSB.out
          · have HSB := Lib.hid (show ¬ Stands L o p t.toNat cm from fun h => hsb (standsB_iff.2 h))
            have hsb' : standsB L o p t.toNat cm = false := by simpa using hsb
            rw [hsb']
            clear hsb hsb'
            have HM5 := Lib.hid ((HM4.out.drewN kd).drewN kd2)
            have HC5 := Lib.hid (show Cell2 ((w4.drewN kd).drewN kd2) w3.heap.size (.int .i64 cm) (.slice (some ⟨b5, o5, none⟩) sh.length cap) from HC4.out)
            go_wp2_with fail
            simp only [World.drewN_drewN] at HM5 HC5
            generalize hW5 : w4.drewN (kd + kd2) = w5 at HM5 HC5 ⊢
            clear hW5
            go_loopg [57] L.length (fun n i W => ∃ (k : Nat) (o' : List Int), n = L.length - k ∧ k ≤ L.length ∧ i = .int .i64 k ∧ TruncTo L o p cm k o' ∧ CloseMem w.heap.size g1 w2.heap.size w W o' p ∧ Cell2 W w3.heap.size (.int .i64 cm) (.slice (some ⟨b5, o5, none⟩) sh.length cap))
            case atStart => exact ⟨0, o, rfl, Nat.zero_le _, rfl, trunc_zero HINV.out.lo, HM5.out, HC5.out⟩
            case round =>
              obtain ⟨k, o', hgk3, hk, rfl, htr, hm6, hc6⟩ := hrel
              have HGK3 := Lib.hid hgk3
              have HTR := Lib.hid htr
              have HM6 := Lib.hid hm6
              have HC6 := Lib.hid hc6
              have n0 := hc6.c0
              clear hgk3 htr hm6 hc6 m0 m1 c5
              by_cases hkl : k < L.length
              · have HCO := Lib.hid (show CutOk L o' p from ⟨HTR.out.1, HLP.out, HINV.out.pos, fun i hi => Int.le_trans (trunc_le HINV.out.po HTR.out i hi) (HINV.out.cutOk.top i hi)⟩)
                have HLO' := Lib.hid (show o'.length = c.length from HTR.out.1.trans HLC.out.symm)
                have hk2 : (k : Int) < L.length := by omega
                have hk3 : (k : Int) < c.length := by have := HLC.out; omega
                go_wp2_with fail
                refine (stands_len AL (some ⟨g1, 0, none⟩) (some ⟨w2.heap.size, 0, none⟩) cl cap1 L.length c.length L.length L o' p k cm S (fun b => b < _) _ HLO'.out HLP.out (hL.keep (Same.of_below HM6.out.bel hS)) HM6.out.iO HM6.out.iP HCO.out (by omega) (by omega)).mono ?_
                rintro e w6 ⟨rfl, kd3, rfl⟩
                rw [Int.toNat_natCast]
                have c7 := HM6.out.o2.cell (show k < p.length by rw [HLP.out]; exact hkl)
                have c8 := HM6.out.o1.cell (show k < o'.length by rw [HTR.out.1]; exact hkl)
                have f8 := HM6.out.o1.frozen k
                by_cases hsb : standsB L o' p k cm = true
                · have HSB3 := Lib.hid (trunc_take hkl HTR.out ((trunc_stands hkl HTR.out).1 (standsB_iff.1 hsb)))
                  rw [hsb]
                  clear hsb
                  generalize p.getD k 0 = x at c7 HSB3
                  generalize o'.getD k 0 = y at c8
                  go_wp2_with fail
                  go_roundg (L.length - (k + 1))
                  case measure => rw [HGK3.out]; omega
                  case rel => exact ⟨k + 1, o'.set k x, rfl, by omega, by go_num, HSB3.out, (HM6.out.drewN kd3).setO k x, Cell2.far (w := _) HC6.out (a := ⟨g1, k, none⟩) (by show w3.heap.size ≠ g1; omega) _⟩
                · have HSB3 := Lib.hid (trunc_skip HTR.out (fun h => hsb (standsB_iff.2 ((trunc_stands hkl HTR.out).2 h))))
                  have hsb' : standsB L o' p k cm = false := by simpa using hsb
                  rw [hsb']
                  clear hsb hsb'
                  go_wp2_with fail
                  go_roundg (L.length - (k + 1))
                  case measure => rw [HGK3.out]; omega
                  case rel => exact ⟨k + 1, o', rfl, by omega, by go_num, HSB3.out, HM6.out.drewN kd3, HC6.out⟩
              · have HEND := Lib.hid (trunc_end HV.out HINV.out HLEAST.out HTM.out HSB.out (by omega) HTR.out)
                go_wp2_with fail
                go_roundg (room p o')
                case measure => rw [HGK.out]; exact HEND.out.2
                case rel => exact ⟨o', p, rfl, HEND.out.1, HM6.out⟩
        · have HSTA := Lib.hid (show ∀ t ∈ sh, Stands L o p t.toNat cm by have := HST.out; rwa [List.take_of_length_le (by omega)] at this)
          have HM5 := Lib.hid (HM4.out.drewN kd)
          have HC5 := Lib.hid (show Cell2 (w4.drewN kd) w3.heap.size (.int .i64 cm) (.slice A sh.length cap) from HC4.out)
          have HI5 := Lib.hid (show Ints (w4.drewN kd) S A sh from HI4.out)
          go_wp2_with fail
          generalize hW5 : w4.drewN kd = w5 at HM5 HC5 HI5 ⊢
          clear hW5 m0 m1 HM4 HC4 HI4 HB4
          go_loopg [79] sh.length (fun n i W => ∃ (k : Nat) (p' : List Int), n = sh.length - k ∧ k ≤ sh.length ∧ i = .int .i64 k ∧ AdvTo L p sh k p' ∧ CloseMem w.heap.size g1 w2.heap.size w W o p' ∧ Cell2 W w3.heap.size (.int .i64 cm) (.slice A sh.length cap) ∧ Ints W S A sh)
          case atStart => exact ⟨0, p, rfl, Nat.zero_le _, rfl, adv_zero HLP.out, HM5.out, HC5.out, HI5.out⟩
          case round =>
            obtain ⟨k, p', hgk3, hk, rfl, htr, hm6, hc6, hi6⟩ := hrel
            have HGK3 := Lib.hid hgk3
            have HTR := Lib.hid htr
            have HM6 := Lib.hid hm6
            have HC6 := Lib.hid hc6
            have HI6 := Lib.hid hi6
            clear hgk3 htr hm6 hc6 hi6 HM5 HC5 HI5
            by_cases hkl : k < sh.length
            · obtain ⟨b5, o5, rfl, hb5, c5⟩ := HI6.out.at_ hkl
              have htm := mem_getD hkl
              generalize ht : sh.getD k 0 = t at c5 htm
              have HT := Lib.hid ht
              obtain ⟨ht0, ht1⟩ := HSH.out.2 t htm
              have HFR := Lib.hid (adv_fresh HSH.out.1 hkl HT.out)
              have HAT := Lib.hid (adv_at HTR.out HFR.out ht0 ht1)
              have HSTT := Lib.hid (HSTA.out t htm)
              clear ht htm
              obtain ⟨q, rfl⟩ := Int.eq_ofNat_of_zero_le ht0
              rw [Int.toNat_natCast] at HAT HSTT
              have hqL : q < L.length := by omega
              have hpq := HINV.out.pos q hqL
              have htop := HINV.out.cutOk.top q hqL
              have hlt := HSTT.out.1
              have c6 := HM6.out.o2.cell (show q < p'.length by rw [HTR.out.1]; exact hqL)
              have f6 := HM6.out.o2.frozen q
              rw [HAT.out] at c6
              have hlb : ((L.getD q []).length : Int) ≤ 17592186044416 := by
                obtain ⟨_, _, _, _, _, _, _, hs⟩ := hL.at_ hqL
                have := hs.1
                omega
              have HADV := Lib.hid (adv_step hkl HT.out HTR.out ht0 (by omega))
              rw [Int.toNat_natCast] at HADV
              generalize p.getD q 0 = x at c6 hpq hlt HADV
              generalize o.getD q 0 = y at hlt htop
              generalize (L.getD q []).length = len at htop hlb
              have hq2 : (q : Int) < L.length := by omega
              go_wp2_with fail
              go_roundg (sh.length - (k + 1))
              case measure => rw [HGK3.out]; omega
              case rel =>
                refine ⟨k + 1, p'.set q (x + 1), rfl, by omega, by go_num, HADV.out, HM6.out.setP q (x + 1), HC6.out.far (a := ⟨w2.heap.size, q, none⟩) (by show w3.heap.size ≠ w2.heap.size; omega) _, ?_⟩
                exact HI6.out.keep (fun b hb => Below.heap_setCell _ ⟨w2.heap.size, q, none⟩ _ b (by have := hS b hb; show b ≠ w2.heap.size; omega))
            · have HEND := Lib.hid (adv_end HV.out HINV.out HLEAST.out HSTA.out (by show sh.length ≤ k; omega) HTR.out)
              go_wp2_with fail
              go_roundg (room p' o)
              case measure => rw [HGK.out]; exact HEND.out.2
              case rel => exact ⟨o, p', rfl, HEND.out.1, HM6.out⟩

set_option maxHeartbeats 400000 in
theorem close_any (AL AC : Option Addr) (cl cc : Nat) (L : List (List Stp)) (c : List Int) (base : Int) (S : Nat → Prop) (w : World) (hL : Logs w S AL L) (hC : Ints w S AC c) (hS : ∀ b, S b → b < w.heap.size) (hcl : c.length ≤ 17592186044416) :
    Calls Try.prog 27 #[.int .i64 base, .slice AL L.length cl, .slice AC c.length cc] w (ClosePost base L c w) := by
  rcases cutErr_cases base L c with ⟨h, h1, h2, h3⟩ | h
  · exact close_go AL AC cl cc L c base S w hL hC hS hcl h h1 h2 h3
  · have HN := Lib.hid h
    have hd : (cutErr base L c != 0) = true := by simp [h]
    clear h
    go_enter Try.func27, Try.ntmps27
    go_wp2_with fail
    go_step3
    go_wp2_with fail
    refine (checkCut_any AL AC cl cc L c base S w hL hC hS hcl).mono ?_
    rintro e w1 ⟨rfl, hb1⟩
    have HB1 := Lib.hid hb1
    clear hb1
    generalize hce : cutErr base L c = er at hd HN ⊢
    have HCE := Lib.hid hce
    clear hce
    go_wp2
    try rw [Exit.noGoto_ret]
    go_ret2
    exact ⟨none, 0, [], by rw [HCE.out]; rfl, fun h => absurd (HCE.out.symm.trans h) HN.out, fun _ => rfl, Reads.none_, HB1.out⟩

set_option maxHeartbeats 400000 in
theorem closed_any (AL AC : Option Addr) (cl cc : Nat) (L : List (List Stp)) (c : List Int) (base : Int) (S : Nat → Prop) (w : World) (hL : Logs w S AL L) (hC : Ints w S AC c) (hS : ∀ b, S b → b < w.heap.size) (hcl : c.length ≤ 17592186044416) :
    Calls Try.prog 25 #[.int .i64 base, .slice AL L.length cl, .slice AC c.length cc] w (ClosedPost base L c w) := by
  go_enter Try.func25, Try.ntmps25
  go_wp2_with fail
  refine (close_any AL AC cl cc L c base S w hL hC hS hcl).mono ?_
  rintro e w1 ⟨A, cap, y, rfl, h0, h1, hi, hb⟩
  have HB := Lib.hid hb
  have HI := Lib.hid hi
  have HC1 := Lib.hid (hC.keep (Same.of_below hb hS))
  have hz := hb.size
  clear hb hi
  by_cases he : cutErr base L c = 0
  · have HE := Lib.hid he
    have HY := Lib.hid (h0 he)
    have hcut : IsCut L c := by
      rcases cutErr_cases base L c with ⟨_, _, _, h⟩ | h
      · exact h
      · exact absurd he h
    have HCU := Lib.hid hcut
    have hyl : y.length ≤ 17592186044416 := by rw [HY.out.1.1, ← hcut.1]; exact hcl
    rw [he]
    clear he h0 h1 hcut
    go_wp2_with fail
    refine (equal_any A AC cap cc y c (fun b => b < w1.heap.size) w1 (HI.out.more (fun b h => h.2)) (HC1.out.more (fun b h => Nat.lt_of_lt_of_le (hS b h) hz)) (by omega) (by omega)).mono ?_
    rintro e w2 ⟨rfl, k, rfl⟩
    have HF := Lib.hid (isClose_self HCU.out HY.out)
    generalize hbb : decide (y = c) = bb
    have HBB := Lib.hid hbb
    clear hbb
    go_wp2
    go_ret2
    refine ⟨bb, by rw [HE.out]; rfl, fun _ => ?_, fun h => absurd HE.out h, below_drewN HB.out _⟩
    rw [← HBB.out, decide_eq_true_iff]
    exact HF.out.symm
  · have hd : (cutErr base L c != 0) = true := by simp [he]
    have HE := Lib.hid he
    clear he h0 h1
    generalize hce : cutErr base L c = er at hd HE ⊢
    have HCE := Lib.hid hce
    clear hce
    go_wp2
    go_ret2
    exact ⟨false, by rw [HCE.out]; rfl, fun h => absurd (HCE.out.symm.trans h) HE.out, fun _ => rfl, HB.out⟩
end Go.Proofs.Ytjpknhhdkjhjfaa
