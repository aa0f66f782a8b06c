/- The contract of cut.Check. -/
import Derived.Test.YtjpknhhdkjhjfaaSeen
namespace Go.Proofs.Ytjpknhhdkjhjfaa
open Go.RowKit Go.Maps
set_option linter.unusedVariables false

def ErrPost (er : Int) (w : World) (e : Ending) (w' : World) : Prop := e = .returned (.int .i64 er) ∧ Below w.heap.size w w'

set_option maxHeartbeats 400000 in
theorem check_arg (AL : Option Addr) (cl : Nat) (L : List (List Stp)) (base : Int) (S : Nat → Prop) (w : World) (hL : Logs w S AL L) (h : BadArg base L) :
    Calls Try.prog 15 #[.int .i64 base, .slice AL L.length cl] w (ErrPost 1 w) := by
  have hbd := hL.1
  clear hL
  by_cases h1 : base < 0
  · have hd : decide (base < 0) = true := by simp [h1]
    go_enter Try.func15, Try.ntmps15
    go_wp2
    go_ret
    exact ⟨rfl, Below.refl _ _⟩
  · have hd1 : decide (base < 0) = false := by simpa using h1
    by_cases h2 : 1073741824 < base
    · have hd2 : decide (1073741824 < base) = true := by simp [h2]
      go_enter Try.func15, Try.ntmps15
      go_wp2
      go_ret
      exact ⟨rfl, Below.refl _ _⟩
    · have hd2 : decide (1073741824 < base) = false := by simpa using h2
      by_cases h3 : L.length = 0
      · have hd3 : ((L.length : Int) == 0) = true := by simp [h3]
        have H3 := Lib.hid h3
        clear h3
        generalize L.length = n at *
        go_enter Try.func15, Try.ntmps15
        go_wp2
        go_ret
        exact ⟨rfl, Below.refl _ _⟩
      · have hd3 : ((L.length : Int) == 0) = false := beq_eq_false_iff_ne.2 (by omega)
        have h4 : 4 < L.length := by
          rcases h with h | h | h | h
          · omega
          · omega
          · exact absurd h h3
          · exact h
        have hd4 : decide (4 < (L.length : Int)) = true := by simp; omega
        clear h
        generalize L.length = n at *
        go_enter Try.func15, Try.ntmps15
        go_wp2
        go_ret
        exact ⟨rfl, Below.refl _ _⟩

theorem upd_below {M : Nat} {w wi W w1 : World} (hbel : Below M w wi) (hsz : M ≤ wi.heap.size) (hW : Below M wi W) (hg : W.grownBy w1 (some M)) : Below M w w1 :=
  (hbel.trans hW).grown hg (Nat.le_trans hsz hW.size) (fun k e => by injection e with e; omega)
theorem seen_round {M j : Nat} {wi W w1 : World} {S : Nat → Prop} {D : DataW Value} {pre l : List Stp} {cm : Int} {sh : List Int} (hj : j < l.length) (hs : l.getD j nilS = (cm, sh)) (hsz : M ≤ wi.heap.size) (hW : Below M wi W) (hg : W.grownBy w1 (some M)) (hS : ∀ b, S b → b < M)
    (h : Seen wi S D ((pre ++ l.take j) ++ [(cm, sh)])) : Seen w1 S D (pre ++ l.take (j + 1)) := by
  rw [take_snoc_getD nilS hj, hs, ← List.append_assoc]
  exact h.keep (Same.of_below (upd_below (Below.refl M wi) hsz hW hg) hS)

set_option maxHeartbeats 1000000 in
theorem check_go (AL : Option Addr) (cl : Nat) (L : List (List Stp)) (base : Int) (S : Nat → Prop) (w : World) (hL : Logs w S AL L) (hS : ∀ b, S b → b < w.heap.size) (h : ¬ BadArg base L) :
    Calls Try.prog 15 #[.int .i64 base, .slice AL L.length cl] w (ErrPost (errOf base L) w) := by
  have hbd := hL.1
  have hb0 : 0 ≤ base := by unfold BadArg at h; omega
  have hb1 : base ≤ 1073741824 := by unfold BadArg at h; omega
  have hn0 : 0 < L.length := by unfold BadArg at h; omega
  have hn4 : L.length ≤ 4 := by unfold BadArg at h; omega
  have HNB := Lib.hid h
  clear h
  have hd3 : ((L.length : Int) == 0) = false := beq_eq_false_iff_ne.2 (by omega)
  have hmm := @run_makeMap Try.prog
  go_enter Try.func15, Try.ntmps15
  go_wp2
  clear hmm
  go_loopw [32] (fun i wr => ∃ (k n : Nat) (D : DataW Value), k ≤ L.length ∧ i = .int .i64 k ∧ ChkTo base L k ∧ Seen wr S D (L.take k).flatten ∧ wr.ownsMap Try.prog 3 heldElem w.heap.size n D ∧ n ≤ k * 17592186044416 ∧ Below w.heap.size w wr) (fun i _ => L.length - (intOf i).toNat)
  case atStart => exact ⟨0, 0, .map [], Nat.zero_le _, rfl, chk_zero _ _, seen_nil _ _, World.ownsMap_made _ _ _ _, by omega, (Below.refl _ _).alloc (Nat.le_refl _) _⟩
  case round =>
    obtain ⟨k, n, D, hk, rfl, hchk, hseen, hown, hn, hbel⟩ := hrel
    obtain ⟨wo, rfl⟩ : ∃ wo : World, wo = wr := ⟨_, rfl⟩
    have HB := Lib.hid hbel
    have HCT := Lib.hid hchk
    by_cases hlt : k < L.length
    · obtain ⟨b3, o3, A', c', rfl, hb3, c3, hs⟩ := (hL.keep (Same.of_below hbel hS)).at_ hlt
      have HIN := Lib.hid (chk_in hchk)
      have HSE := Lib.hid hseen
      have HOW := Lib.hid hown
      have hlb := hs.1
      have HS := Lib.hid hs
      have HLS := Lib.hid hL
      clear hbel hchk hseen hown hs hL
      generalize hgl : L.getD k [] = l at c3 hlb HS
      have HGL := Lib.hid hgl
      clear hgl
      go_wp2
      go_loopw [8, 40] (fun t i wr => ∃ (j n : Nat) (last : Int) (D : DataW Value), j ≤ l.length ∧ i = .int .i64 j ∧ t = .int .i64 last ∧ ChkIn base L k j last ∧ Seen wr S D ((L.take k).flatten ++ l.take j) ∧ wr.ownsMap Try.prog 3 heldElem w.heap.size n D ∧ n ≤ k * 17592186044416 + j ∧ Below w.heap.size w wr ∧ Below w.heap.size wo wr) (fun _ i _ => l.length - (intOf i).toNat)
      case atStart => exact ⟨0, n, base, D, Nat.zero_le _, rfl, rfl, HIN.out, (by rw [List.take_zero, List.append_nil]; exact HSE.out), HOW.out, Nat.le_trans hn (Nat.le_add_right _ _), HB.out, Below.refl _ _⟩
      case round =>
        clear HIN HSE HOW hn n D
        obtain ⟨j, n, last, D, hj, rfl, rfl, hin, hseen, hown, hn, hbel, hbo⟩ := hrel
        obtain ⟨wi, rfl⟩ : ∃ wi : World, wi = wr := ⟨_, rfl⟩
        have HIN := Lib.hid hin
        have hlast : base ≤ last := hin.2.1.2.1
        have hsz := hbel.size
        by_cases hjl : j < l.length
        · obtain ⟨b4, o4, rfl, hb4, hst⟩ := (HS.out.keep (Same.of_below hbo hS)).at_ hjl
          generalize hgs : l.getD j nilS = s at hst
          have HGS := Lib.hid hgs
          clear hgs
          obtain ⟨cm, sh⟩ := s
          obtain ⟨c5, A6, c6, c7, hi6, hl6⟩ := hst
          simp only at c5 c7 hi6 hl6
          have HJ := Lib.hid (show j < (L.getD k []).length by rw [HGL.out]; exact hjl)
          have HST := Lib.hid (show (L.getD k []).getD j (0, []) = (cm, sh) by rw [HGL.out]; exact HGS.out)
          have HI6 := Lib.hid hi6
          have HSE := Lib.hid hseen
          have HOW := Lib.hid hown
          have HBE := Lib.hid hbel
          have HBO := Lib.hid hbo
          clear hin hseen hown hbel hbo hi6
          have HAL := Lib.hid (fun X : Obj => (Same.of_below ((Below.refl w.heap.size wi).alloc hsz X) hS))
          by_cases f1 : cm ≤ last
          · have hd : decide (cm ≤ last) = true := by simp [f1]
            have HF := Lib.hid (errOf_bad HNB.out (chk_fail1 hlt HJ.out HST.out HIN.out (.inl f1)))
            go_wp2
            go_ret
            exact ⟨by rw [HF.out]; rfl, HBE.out.alloc hsz _⟩
          · have hd : decide (cm ≤ last) = false := by simpa using f1
            by_cases f2 : 1073741824 < cm
            · have hd2 : decide (1073741824 < cm) = true := by simp [f2]
              have HF := Lib.hid (errOf_bad HNB.out (chk_fail1 hlt HJ.out HST.out HIN.out (.inr f2)))
              go_wp2
              go_ret
              exact ⟨by rw [HF.out]; rfl, HBE.out.alloc hsz _⟩
            · have hd2 : decide (1073741824 < cm) = false := by simpa using f2
              have hwf : (Lit.int .i64 cm).wf = true := WalkArith.wf_i64 (by omega)
              have HWF := Lib.hid hwf
              clear hwf
              go_wp2_with fail
              refine (shardsFit_any A6 c6 sh k L.length S _ (HI6.out.keep (HAL.out _)) (by omega)).mono ?_
              rintro e w' ⟨rfl, rfl⟩
              by_cases f3 : fitsB L.length k sh = true
              · have HF3 := Lib.hid f3
                rw [f3]
                clear f3
                by_cases f4 : Maps.has D (.int .i64 cm) = true
                · obtain ⟨t, ht, he⟩ := (HSE.out.1 cm).1 f4
                  obtain ⟨A7, c8, hat, hi7, hl7⟩ := HSE.out.2 t ht
                  rw [he] at hat
                  have HT := Lib.hid ht
                  have HE := Lib.hid he
                  have HAT := Lib.hid hat
                  have HI7 := Lib.hid hi7
                  have HF4 := Lib.hid f4
                  clear ht he hat hi7 f4
                  obtain ⟨tc, tsh⟩ := t
                  simp only at hl7
                  go_wp2_with (at_lookup; refine wpList_lookup_found _ rfl _ _ rfl w.heap.size n D rfl (HOW.out.alloc _) cm rfl HWF.out HF4.out A7 tsh.length c8 HAT.out ?_)
                  refine (equal_any A7 A6 c8 c6 tsh sh S _ (HI7.out.keep (HAL.out _)) (HI6.out.keep (HAL.out _)) (by omega) (by omega)).mono ?_
                  rintro e w' ⟨rfl, nq, rfl⟩
                  by_cases f5 : tsh = sh
                  · subst f5
                    have HAG := Lib.hid (show ∀ t' ∈ (L.take k).flatten ++ (L.getD k []).take j, t'.1 = cm → t'.2 = tsh by
                      intro t' ht' e'
                      rw [← HE.out] at e'
                      rw [HGL.out] at ht'
                      have hag := HIN.out.2.2
                      rw [HGL.out] at hag
                      exact hag t' ht' _ HT.out e')
                    have HIN2 := Lib.hid (chk_step HJ.out HST.out HIN.out (by omega) (by omega) HF3.out HAG.out)
                    have HSE2 := Lib.hid (HSE.out.put (cap := c6) HOW.out.isMap HI6.out hl6 (by have := HAG.out; rwa [HGL.out] at this))
                    rw [decide_eq_true rfl]
                    go_wp2_with (at_mapUpdate; refine wpList_update_seen _ rfl _ _ _ rfl w.heap.size n D rfl (HOW.out.alloc _) (by unfold maxLen; omega) cm rfl HWF.out A6 tsh.length c6 rfl ?_; intro w1 hown1 hgrow1)
                    go_roundw
                    case rel => exact ⟨j + 1, n + 1, cm, _, by omega, by go_num, rfl, HIN2.out, seen_round hjl HGS.out hsz (below_drewN ((Below.refl _ wi).alloc hsz _) _) hgrow1 hS HSE2.out, hown1, by omega, upd_below HBE.out hsz (below_drewN ((Below.refl _ wi).alloc hsz _) _) hgrow1, upd_below HBO.out hsz (below_drewN ((Below.refl _ wi).alloc hsz _) _) hgrow1⟩
                    case measure => simp [intOf]; omega
                  · have HF := Lib.hid (errOf_bad HNB.out (chk_fail3 (base := base) hlt HJ.out HST.out (by rw [HGL.out]; exact HT.out) HE.out f5))
                    rw [decide_eq_false f5]
                    go_wp2
                    go_ret
                    exact ⟨by rw [HF.out]; rfl, below_drewN (HBE.out.alloc hsz _) _⟩
                · have f4' : Maps.has D (.int .i64 cm) = false := by simpa using f4
                  have HF4 := Lib.hid f4'
                  clear f4 f4'
                  have HAG := Lib.hid (show ∀ t' ∈ (L.take k).flatten ++ (L.getD k []).take j, t'.1 = cm → t'.2 = sh by
                    intro t' ht' e'
                    rw [HGL.out] at ht'
                    have := (HSE.out.1 cm).2 ⟨t', ht', e'⟩
                    rw [HF4.out] at this
                    cases this)
                  have HIN2 := Lib.hid (chk_step HJ.out HST.out HIN.out (by omega) (by omega) HF3.out HAG.out)
                  have HSE2 := Lib.hid (HSE.out.put (cap := c6) HOW.out.isMap HI6.out hl6 (by have := HAG.out; rwa [HGL.out] at this))
                  go_wp2_with (first | (at_lookup; refine wpList_lookup_absent _ rfl _ _ rfl w.heap.size n D rfl (HOW.out.alloc _) cm rfl HWF.out HF4.out ?_; intro A7 k7 c7') | (at_mapUpdate; refine wpList_update_seen _ rfl _ _ _ rfl w.heap.size n D rfl (HOW.out.alloc _) (by unfold maxLen; omega) cm rfl HWF.out A6 sh.length c6 rfl ?_; intro w1 hown1 hgrow1))
                  go_roundw
                  case rel => exact ⟨j + 1, n + 1, cm, _, by omega, by go_num, rfl, HIN2.out, seen_round hjl HGS.out hsz ((Below.refl _ wi).alloc hsz _) hgrow1 hS HSE2.out, hown1, by omega, upd_below HBE.out hsz ((Below.refl _ wi).alloc hsz _) hgrow1, upd_below HBO.out hsz ((Below.refl _ wi).alloc hsz _) hgrow1⟩
                  case measure => simp [intOf]; omega
              · have f3' : fitsB L.length k sh = false := by simpa using f3
                have HF := Lib.hid (errOf_bad HNB.out (chk_fail2 (base := base) hlt HJ.out HST.out f3'))
                rw [f3']
                clear f3 f3'
                go_wp2
                go_ret
                exact ⟨by rw [HF.out]; rfl, HBE.out.alloc hsz _⟩
        · have HCT2 := Lib.hid (chk_out hlt HCT.out hin (by rw [HGL.out]; omega))
          have HSE := Lib.hid (show Seen wi S D (L.take (k + 1)).flatten by rw [flatten_take_succ hlt, HGL.out]; rwa [List.take_of_length_le (show l.length ≤ j by omega)] at hseen)
          have HOW := Lib.hid hown
          have HBE := Lib.hid hbel
          clear hin hseen hown hbel hbo
          go_wp2
          go_roundw
          case rel => exact ⟨k + 1, n, D, by omega, by go_num, HCT2.out, HSE.out, HOW.out, by omega, HBE.out⟩
          case measure => simp [intOf]; omega
    · have HF := Lib.hid (errOf_ok HNB.out (chk_end (by omega) hchk))
      clear hbel hchk hseen hown
      go_wp2
      go_ret
      exact ⟨by rw [HF.out]; rfl, HB.out⟩

theorem check_any (AL : Option Addr) (cl : Nat) (L : List (List Stp)) (base : Int) (S : Nat → Prop) (w : World) (hL : Logs w S AL L) (hS : ∀ b, S b → b < w.heap.size) :
    Calls Try.prog 15 #[.int .i64 base, .slice AL L.length cl] w (ErrPost (errOf base L) w) := by
  by_cases h : BadArg base L
  · rw [errOf_arg h]
    exact check_arg AL cl L base S w hL h
  · exact check_go AL cl L base S w hL hS h
end Go.Proofs.Ytjpknhhdkjhjfaa
