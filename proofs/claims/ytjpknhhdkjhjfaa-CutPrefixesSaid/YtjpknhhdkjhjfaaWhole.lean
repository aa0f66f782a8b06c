/- The contracts of whole, Whole and Floor of cut. -/
import Derived.Test.YtjpknhhdkjhjfaaClose
import Derived.Test.YtjpknhhdkjhjfaaPlain5
namespace Go.Proofs.Ytjpknhhdkjhjfaa
open Go.RowKit
set_option linter.unusedVariables false

def LensTo (L : List (List Stp)) (k : Nat) (l : List Int) : Prop := l.length = L.length ∧ ∀ i, i < k → l.getD i 0 = (L.getD i []).length
theorem lens_step {L : List (List Stp)} {k : Nat} {l : List Int} (hk : k < L.length) (h : LensTo L k l) : LensTo L (k + 1) (l.set k ((L.getD k []).length : Int)) := by
  refine ⟨by simpa using h.1, fun i hi => ?_⟩
  rw [getD_set _ _ _ _ (by rw [h.1]; exact hk)]
  by_cases e : i = k
  · rw [if_pos e, e]
  · rw [if_neg e]; exact h.2 i (by omega)

def WhPost (base : Int) (L : List (List Stp)) (w : World) (e : Ending) (w' : World) : Prop := ∃ n : Int, e = .returned (.int .i64 n) ∧ IsLast base L n ∧ n ≤ 1073741824 ∧ Below w.heap.size w w'

set_option maxHeartbeats 1000000 in
theorem whole_any (AL : Option Addr) (cl : Nat) (L : List (List Stp)) (base : Int) (S : Nat → Prop) (w : World) (hL : Logs w S AL L) (hS : ∀ b, S b → b < w.heap.size) (hb0 : 0 ≤ base) (hb1 : base ≤ 1073741824) (hv : Valid base L) :
    Calls Try.prog 45 #[.int .i64 base, .slice AL L.length cl] w (WhPost base L w) := by
  have hbd := hL.1
  have HV := Lib.hid hv
  clear hv
  have hmk := run_make_ints L.length (by omega)
  go_enter Try.func45, Try.ntmps45
  go_wp2_with fail
  go_step3
  go_wp2_with fail
  clear hmk
  go_loopg [24] L.length (fun n i wr => ∃ (k : Nat) (l : List Int), n = L.length - k ∧ k ≤ L.length ∧ i = .int .i64 k ∧ LensTo L k l ∧ CloseMem w.heap.size w.heap.size (w.heap.size + 1) w wr (List.replicate L.length 0) l)
  case atStart =>
    refine ⟨0, List.replicate L.length 0, rfl, Nat.zero_le _, rfl, ⟨by simp, fun i hi => absurd hi (by omega)⟩, Nat.le_refl _, by omega, ?_, ?_, ?_⟩
    · exact Own.keep (Own.of_row (Row.new w _)) (Below.heap_alloc _ _ _ (by simp))
    · have := Row.new (w.alloc (.cells (intCells (List.replicate L.length 0)) 3)) (List.replicate L.length 0)
      exact Own.of_row (by simpa using this)
    · exact ((Below.refl _ _).alloc (Nat.le_refl _) _).alloc (by simp) _
  case round =>
    obtain ⟨k, l, hgk, hk, rfl, hlen, hmem⟩ := hrel
    have HGK := Lib.hid hgk
    have HLE := Lib.hid hlen
    have HME := Lib.hid hmem
    by_cases hkl : k < L.length
    · obtain ⟨b3, o3, A', c', rfl, hb3, c3, hs⟩ := (hL.keep (Same.of_below hmem.bel hS)).at_ hkl
      have c4 := hmem.o2.cell (show k < l.length by rw [hlen.1]; exact hkl)
      have f4 := hmem.o2.frozen k
      have HST := Lib.hid (lens_step hkl hlen)
      clear hs hgk hlen hmem
      generalize (L.getD k []).length = len at c3 HST
      generalize l.getD k 0 = x at c4
      go_wp2_with fail
      go_roundg (L.length - (k + 1))
      case measure => rw [HGK.out]; omega
      case rel => exact ⟨k + 1, _, rfl, by omega, by go_num, HST.out, HME.out.setP k _⟩
    · have HO := Lib.hid (show ∀ i, i < L.length → l.getD i 0 = ((L.getD i []).length : Int) from fun i hi => hlen.2 i (by omega))
      have HLL := Lib.hid hlen.1
      clear hgk hlen hmem HGK HLE
      go_wp2_with fail
      go_step3
      go_wp2_with fail
      obtain ⟨w0, rfl⟩ : ∃ w0 : World, w0 = wr := ⟨_, rfl⟩
      go_loopg [9] (1073741824 - base).toNat (fun g i wr => ∃ (n : Int) (p : List Int), g = (1073741824 - n).toNat ∧ i = .int .i64 n ∧ WholeInv base L n p ∧ CloseMem w.heap.size w.heap.size (w.heap.size + 1) w wr p l)
      case atStart => exact ⟨base, _, rfl, rfl, whole_start HV.out hb1, HME.out⟩
      case round =>
        clear HME
        obtain ⟨n, p, hgk, rfl, hinv, hmem⟩ := hrel
        have HGK := Lib.hid hgk
        have HINV := Lib.hid hinv
        have HMEM := Lib.hid hmem
        have HLP := Lib.hid hinv.lp
        have HLR := Lib.hid (hL.keep (Same.of_below hmem.bel hS))
        have HCO := Lib.hid (show CutOk L l p from ⟨HLL.out, hinv.lp, hinv.pos, fun i hi => by rw [HO.out i hi]; exact Int.le_refl _⟩)
        have hbsz := hmem.bel.size
        have hnb : base ≤ n := hinv.ge
        have hnt : n ≤ 1073741824 := hinv.le
        clear hgk hinv hmem
        go_wp2_with fail
        refine (next_len AL (some ⟨w.heap.size + 1, 0, none⟩) (some ⟨w.heap.size, 0, none⟩) cl L.length L.length L.length L.length L l p S (fun b => b < wr.heap.size) wr HLL.out HLP.out HLR.out HMEM.out.iP HMEM.out.iO HCO.out (fun b hb => Nat.lt_of_lt_of_le (hS b hb) hbsz) (fun b hb => hb)).mono ?_
        rintro e w3 ⟨found, s, A, cap, rfl, hleast, hints, hsl, hb3⟩
        have HME3 := Lib.hid (HMEM.out.below hb3)
        have hz3 := hb3.size
        obtain ⟨cm, sh⟩ := s
        simp only at hints hsl
        cases found
        · have HEND := Lib.hid (whole_none HINV.out HO.out (least_none hleast))
          clear hleast hints hb3
          go_wp2
          try rw [Exit.noGoto_ret]
          go_ret
          exact ⟨n, rfl, HEND.out, hnt, (HME3.out.alloc _).bel⟩
        · have HLEAST := Lib.hid (least_of hleast)
          have HSH := Lib.hid (whole_shards HV.out HINV.out HO.out (least_of hleast))
          have HC4 := Lib.hid (Cell2.alloc w3 (.int .i64 cm) (.slice A sh.length cap))
          have HM4 := Lib.hid (HME3.out.alloc (.cells #[.int .i64 cm, .slice A sh.length cap] 36))
          have hz4 : w.heap.size ≤ w3.heap.size := by omega
          have HB4 := Lib.hid ((HME3.out.alloc (.cells #[.int .i64 cm, .slice A sh.length cap] 36)).bel)
          have HI4 := Lib.hid (show Ints (w3.alloc (.cells #[.int .i64 cm, .slice A sh.length cap] 36)) S A sh from hints.keep (Same.of_below ((Below.refl w.heap.size w3).alloc hz4 _) hS))
          have hg1w := HME3.out.g1lt
          have hg2w := HME3.out.g2lt
          clear hleast hints hb3
          by_cases hcm : cm = n + 1
          · have hd : (cm != n + 1) = false := by simp [hcm]
            have HCM := Lib.hid hcm
            have hcmt : cm ≤ 1073741824 := HSH.out.2.2
            have hn1 : n + 1 ≤ 1073741824 := by omega
            clear hcm
            go_wp2_with fail
            generalize hW4 : w3.alloc (.cells #[.int .i64 cm, .slice A sh.length cap] 36) = w4 at HC4 HM4 HB4 HI4 ⊢
            clear hW4
            go_loopg [55] sh.length (fun g i W => ∃ j k : Nat, g = sh.length - j ∧ j ≤ sh.length ∧ i = .int .i64 j ∧ (∀ t ∈ sh.take j, Stands L l p t.toNat cm) ∧ W = w4.drewN k)
            case atStart => exact ⟨0, 0, rfl, Nat.zero_le _, rfl, by simp, rfl⟩
            case round =>
              obtain ⟨j, kd, hgk2, hj, rfl, hst, rfl⟩ := hrel
              have HGK2 := Lib.hid hgk2
              have HST := Lib.hid hst
              clear hgk2 hst
              have m0 := HC4.out.c0
              have m1 := HC4.out.c1
              by_cases hjl : j < sh.length
              · obtain ⟨b5, o5, rfl, hb5, c5⟩ := HI4.out.at_ hjl
                have htm := mem_getD hjl
                generalize ht : sh.getD j 0 = t at c5 htm
                have HT := Lib.hid ht
                have HTM := Lib.hid htm
                obtain ⟨ht0, ht1⟩ := HSH.out.2.1 t htm
                clear ht htm
                go_wp2_with fail
                refine (stands_len AL (some ⟨w.heap.size + 1, 0, none⟩) (some ⟨w.heap.size, 0, none⟩) cl L.length L.length L.length L.length L l p t cm S (fun b => b < (w4.drewN kd).heap.size) (w4.drewN kd) HLL.out HLP.out (hL.keep (Same.of_below (below_drewN HB4.out kd) hS)) (HM4.out.drewN kd).iP (HM4.out.drewN kd).iO HCO.out ht0 ht1).mono ?_
                rintro e w5 ⟨rfl, kd2, rfl⟩
                by_cases hsb : standsB L l p t.toNat cm = true
                · have HSB := Lib.hid (standsB_iff.1 hsb)
                  rw [hsb]
                  clear hsb
                  go_wp2_with fail
                  go_roundg (sh.length - (j + 1))
                  case measure => rw [HGK2.out]; omega
                  case rel =>
                    refine ⟨j + 1, kd + kd2, rfl, by omega, by go_num, fun t' ht' => ?_, by simp⟩
                    rw [take_snoc sh j hjl, List.mem_append] at ht'
                    rcases ht' with h' | h'
                    · exact HST.out t' h'
                    · rw [List.mem_singleton.1 h', ← getD_get sh j 0 hjl, HT.out]
                      exact HSB.out
                · have HEND := Lib.hid (whole_lack HV.out HINV.out HO.out HLEAST.out HCM.out HTM.out (show ¬ Stands L l p t.toNat cm from fun h => hsb (standsB_iff.2 h)))
                  have hsb' : standsB L l p t.toNat cm = false := by simpa using hsb
                  rw [hsb']
                  clear hsb hsb'
                  go_wp2_with fail
                  try rw [Exit.noGoto_ret]
                  go_ret
                  exact ⟨n, rfl, HEND.out, hnt, (HM4.out.drewN (kd + kd2)).bel⟩
              · have HSTA := Lib.hid (show ∀ t ∈ sh, Stands L l p t.toNat cm by have := HST.out; rwa [List.take_of_length_le (by omega)] at this)
                have HM5 := Lib.hid (HM4.out.drewN kd)
                have HC5 := Lib.hid (show Cell2 (w4.drewN kd) w3.heap.size (.int .i64 cm) (.slice A sh.length cap) from HC4.out)
                have HI5 := Lib.hid (show Ints (w4.drewN kd) S A sh from HI4.out)
                go_wp2_with fail
                generalize hW5 : w4.drewN kd = w5 at HM5 HC5 HI5 ⊢
                clear hW5 m0 m1 HM4 HC4 HI4 HB4
                go_loopg [71] sh.length (fun g i W => ∃ (k : Nat) (p' : List Int), g = sh.length - k ∧ k ≤ sh.length ∧ i = .int .i64 k ∧ AdvTo L p sh k p' ∧ CloseMem w.heap.size w.heap.size (w.heap.size + 1) w W p' l ∧ Cell2 W w3.heap.size (.int .i64 cm) (.slice A sh.length cap) ∧ Ints W S A sh)
                case atStart => exact ⟨0, p, rfl, Nat.zero_le _, rfl, adv_zero HLP.out, HM5.out, HC5.out, HI5.out⟩
                case round =>
                  obtain ⟨k, p', hgk3, hk, rfl, htr, hm6, hc6, hi6⟩ := hrel
                  have HGK3 := Lib.hid hgk3
                  have HTR := Lib.hid htr
                  have HM6 := Lib.hid hm6
                  have HC6 := Lib.hid hc6
                  have HI6 := Lib.hid hi6
                  clear hgk3 htr hm6 hc6 hi6 HM5 HC5 HI5
                  by_cases hkl : k < sh.length
                  · obtain ⟨b5, o5, rfl, hb5, c5⟩ := HI6.out.at_ hkl
                    have htm := mem_getD hkl
                    generalize ht : sh.getD k 0 = t at c5 htm
                    have HT := Lib.hid ht
                    obtain ⟨ht0, ht1⟩ := HSH.out.2.1 t htm
                    have HFR := Lib.hid (adv_fresh HSH.out.1 hkl HT.out)
                    have HAT := Lib.hid (adv_at HTR.out HFR.out ht0 ht1)
                    have HSTT := Lib.hid (HSTA.out t htm)
                    clear ht htm
                    obtain ⟨q, rfl⟩ := Int.eq_ofNat_of_zero_le ht0
                    rw [Int.toNat_natCast] at HAT HSTT
                    have hqL : q < L.length := by omega
                    have hpq := HINV.out.pos q hqL
                    have htop := HINV.out.top q hqL
                    have c6 := HM6.out.o1.cell (show q < p'.length by rw [HTR.out.1]; exact hqL)
                    have f6 := HM6.out.o1.frozen q
                    rw [HAT.out] at c6
                    have hlb : ((L.getD q []).length : Int) ≤ 17592186044416 := by
                      obtain ⟨_, _, _, _, _, _, _, hs⟩ := hL.at_ hqL
                      have := hs.1
                      omega
                    have HADV := Lib.hid (adv_step hkl HT.out HTR.out ht0 (by omega))
                    rw [Int.toNat_natCast] at HADV
                    generalize p.getD q 0 = x at c6 hpq htop HADV
                    generalize (L.getD q []).length = len at htop hlb
                    have hq2 : (q : Int) < L.length := by omega
                    go_wp2_with fail
                    go_roundg (sh.length - (k + 1))
                    case measure => rw [HGK3.out]; omega
                    case rel =>
                      refine ⟨k + 1, p'.set q (x + 1), rfl, by omega, by go_num, HADV.out, HM6.out.setO q (x + 1), HC6.out.far (a := ⟨w.heap.size, q, none⟩) (by show w3.heap.size ≠ w.heap.size; omega) _, ?_⟩
                      exact HI6.out.keep (fun b hb => Below.heap_setCell _ ⟨w.heap.size, q, none⟩ _ b (by have := hS b hb; show b ≠ w.heap.size; omega))
                  · have HEND := Lib.hid (whole_adv HV.out HINV.out HO.out HLEAST.out HCM.out HSTA.out (by show sh.length ≤ k; omega) HTR.out)
                    go_wp2_with fail
                    go_roundg (1073741824 - (n + 1)).toNat
                    case measure => rw [HGK.out]; omega
                    case rel => exact ⟨n + 1, p', rfl, rfl, HEND.out, HM6.out⟩
          · have hd : (cm != n + 1) = true := by simp [hcm]
            have HEND := Lib.hid (whole_gap HV.out HINV.out HO.out HLEAST.out hcm)
            clear hcm
            go_wp2_with fail
            try rw [Exit.noGoto_ret]
            go_ret
            exact ⟨n, rfl, HEND.out, hnt, HM4.out.bel⟩

/-- What Whole returns. -/
def WholePost (base : Int) (L : List (List Stp)) (w : World) (e : Ending) (w' : World) : Prop :=
  ∃ n : Int, e = .returned (.tuple #[.int .i64 n, .int .i64 (errOf base L)]) ∧ (errOf base L = 0 → IsLast base L n ∧ n ≤ 1073741824) ∧ (errOf base L ≠ 0 → n = 0) ∧ Below w.heap.size w w'

theorem errOf_zero {base : Int} {L : List (List Stp)} (h : errOf base L = 0) : Valid base L ∧ 0 ≤ base ∧ base ≤ 1073741824 ∧ 0 < L.length ∧ L.length ≤ 4 := by
  rcases errOf_cases base L with ⟨_, h1, h2⟩ | h1
  · refine ⟨h2, ?_⟩
    unfold BadArg at h1
    omega
  · omega

set_option maxHeartbeats 400000 in
theorem Whole_any (AL : Option Addr) (cl : Nat) (L : List (List Stp)) (base : Int) (S : Nat → Prop) (w : World) (hL : Logs w S AL L) (hS : ∀ b, S b → b < w.heap.size) :
    Calls Try.prog 23 #[.int .i64 base, .slice AL L.length cl] w (WholePost base L w) := by
  go_enter Try.func23, Try.ntmps23
  go_wp2_with fail
  refine (check_any AL cl L base S w hL hS).mono ?_
  rintro e w1 ⟨rfl, hb1⟩
  by_cases he : errOf base L = 0
  · obtain ⟨hv, h0, h1, _, _⟩ := errOf_zero he
    have HE := Lib.hid he
    have HV := Lib.hid hv
    have HB1 := Lib.hid hb1
    have HL1 := Lib.hid (hL.keep (Same.of_below hb1 hS))
    have hz := hb1.size
    rw [he]
    clear he hv hb1
    go_wp2_with fail
    refine (whole_any AL cl L base S w1 HL1.out (fun b hb => Nat.lt_of_lt_of_le (hS b hb) hz) h0 h1 HV.out).mono ?_
    rintro e w2 ⟨n, rfl, hn, hnt, hb2⟩
    have HN := Lib.hid hn
    have HB2 := Lib.hid hb2
    clear hn hb2
    go_wp2_with fail
    go_ret2
    exact ⟨n, by rw [HE.out]; rfl, fun _ => ⟨HN.out, hnt⟩, fun h => absurd HE.out h, HB1.out.trans (HB2.out.mono hz)⟩
  · have hd : (errOf base L != 0) = true := by simp [he]
    have HE := Lib.hid he
    have HB1 := Lib.hid hb1
    clear he hb1
    generalize hce : errOf base L = er at hd HE ⊢
    have HCE := Lib.hid hce
    clear hce
    go_wp2
    go_ret2
    exact ⟨0, by rw [HCE.out]; rfl, fun h => absurd (HCE.out.symm.trans h) HE.out, fun _ => rfl, HB1.out⟩

/-- What Floor returns. -/
def FloorPost (base : Int) (L : List (List Stp)) (c : List Int) (w : World) (e : Ending) (w' : World) : Prop :=
  ∃ n : Int, e = .returned (.tuple #[.int .i64 n, .int .i64 (cutErr base L c)]) ∧ (cutErr base L c = 0 → IsFloor base L c n) ∧ (cutErr base L c ≠ 0 → n = 0) ∧ Below w.heap.size w w'

set_option maxHeartbeats 1000000 in
theorem floor_any (AL AC : Option Addr) (cl cc : Nat) (L : List (List Stp)) (c : List Int) (base : Int) (S : Nat → Prop) (w : World) (hL : Logs w S AL L) (hC : Ints w S AC c) (hS : ∀ b, S b → b < w.heap.size) (hcl : c.length ≤ 17592186044416) :
    Calls Try.prog 21 #[.int .i64 base, .slice AL L.length cl, .slice AC c.length cc] w (FloorPost base L c w) := by
  have hbd := hL.1
  go_enter Try.func21, Try.ntmps21
  go_wp2_with fail
  refine (checkCut_any AL AC cl cc L c base S w hL hC hS hcl).mono ?_
  rintro e w1 ⟨rfl, hb1⟩
  by_cases he : cutErr base L c = 0
  · obtain ⟨hna, hv, hcut⟩ : ¬ BadArg base L ∧ Valid base L ∧ IsCut L c := by
      rcases cutErr_cases base L c with ⟨_, h1, h2, h3⟩ | h
      · exact ⟨h1, h2, h3⟩
      · exact absurd he h
    have h0 : 0 ≤ base := by unfold BadArg at hna; omega
    have h1 : base ≤ 1073741824 := by unfold BadArg at hna; omega
    have HE := Lib.hid he
    have HV := Lib.hid hv
    have HCU := Lib.hid hcut
    have HB1 := Lib.hid hb1
    have HL1 := Lib.hid (hL.keep (Same.of_below hb1 hS))
    have hz := hb1.size
    rw [he]
    clear he hv hb1 hna hcut
    go_wp2_with fail
    refine (whole_any AL cl L base S w1 HL1.out (fun b hb => Nat.lt_of_lt_of_le (hS b hb) hz) h0 h1 HV.out).mono ?_
    rintro e w2 ⟨m, rfl, hm, hmt, hb2⟩
    have HM := Lib.hid hm
    have HB2 := Lib.hid (HB1.out.trans (hb2.mono hz))
    have hmb : base ≤ m := hm.1
    have HL2 := Lib.hid (hL.keep (Same.of_below HB2.out hS))
    have HC2 := Lib.hid (hC.keep (Same.of_below HB2.out hS))
    clear hm hb2 hL hC
    go_wp2_with fail
    go_loop [9, 24] (fun t i => ∃ (k : Nat) (n : Int), k ≤ L.length ∧ i = .int .i64 k ∧ t = .int .i64 n ∧ FloorTo base L c m k n) (fun _ i => L.length - (intOf i).toNat)
    case atStart => exact ⟨0, m, Nat.zero_le _, rfl, rfl, floor_zero hmb⟩
    case round =>
      obtain ⟨k, n, hk, rfl, rfl, hf⟩ := hrel
      have HF := Lib.hid hf
      have hnb : base ≤ n := hf.1
      have hnm : n ≤ m := hf.2.1
      clear hf
      by_cases hkl : k < L.length
      · have hkc : k < c.length := by rw [HCU.out.1]; exact hkl
        obtain ⟨b1, o1, rfl, _, c1⟩ := HC2.out.at_ hkc
        obtain ⟨b3, o3, A', c', rfl, hb3, c3, hs⟩ := HL2.out.at_ hkl
        have hls := hs.1
        obtain ⟨hc0, hct⟩ := HCU.out.2 k hkl
        have HSK := Lib.hid (fun h => floor_skip HF.out (show ¬ c.getD k 0 < (L.getD k []).length ∨ n < ((L.getD k []).getD (c.getD k 0).toNat (0, [])).1 from h))
        have HTK := Lib.hid (fun h1 h2 => floor_take HV.out hkl hc0 HF.out (show c.getD k 0 < (L.getD k []).length from h1) (show ((L.getD k []).getD (c.getD k 0).toNat (0, [])).1 ≤ n from h2))
        have HBD := Lib.hid (fun h : (c.getD k 0).toNat < (L.getD k []).length => show base < ((L.getD k []).getD (c.getD k 0).toNat (0, [])).1 ∧ ((L.getD k []).getD (c.getD k 0).toNat (0, [])).1 ≤ 1073741824 from HV.out.bd hkl h)
        unfold stp at HTK
        generalize c.getD k 0 = x at c1 hc0 hct HSK HTK HBD
        generalize L.getD k [] = l at c3 hs hls hct HSK HTK HBD
        obtain ⟨q, rfl⟩ := Int.eq_ofNat_of_zero_le hc0
        rw [Int.toNat_natCast] at HSK HTK HBD
        by_cases hql : q < l.length
        · obtain ⟨b4, o4, rfl, _, c4, A5, c5, c6, _, _⟩ := hs.at_ hql
          obtain ⟨hbd1, hbd2⟩ := HBD.out hql
          have HSK2 := Lib.hid (fun h => HSK.out (.inr h))
          have HTK2 := Lib.hid (HTK.out (by omega))
          clear HSK HTK HBD hs
          unfold nilS at c4 c6
          generalize l.getD q (0, []) = s at c4 c6 hbd1 hbd2 HSK2 HTK2
          obtain ⟨cm, sh⟩ := s
          simp only at c4 c6 hbd1 hbd2 HSK2 HTK2
          by_cases hcm : cm ≤ n
          · have hd : decide (cm - 1 < n) = true := by simp; omega
            go_wp2_with fail
            go_round
            case rel => exact ⟨k + 1, cm - 1, by omega, by go_num, rfl, HTK2.out hcm⟩
            case measure => simp [intOf]; omega
          · have hd : decide (cm - 1 < n) = false := by simp; omega
            go_wp2_with fail
            go_round
            case rel => exact ⟨k + 1, n, by omega, by go_num, rfl, HSK2.out (by omega)⟩
            case measure => simp [intOf]; omega
        · have HSK2 := Lib.hid (HSK.out (.inl (by omega)))
          clear HSK HTK HBD hs
          go_wp2_with fail
          go_round
          case rel => exact ⟨k + 1, n, by omega, by go_num, rfl, HSK2.out⟩
          case measure => simp [intOf]; omega
      · have HK := Lib.hid (show k = L.length by omega)
        have HFL := Lib.hid (show IsFloor base L c n from ⟨m, HM.out, by have := HF.out; rwa [HK.out] at this⟩)
        go_wp2_with fail
        go_ret2
        exact ⟨n, by rw [HE.out]; rfl, fun _ => HFL.out, fun h => absurd HE.out h, HB2.out⟩
  · have hd : (cutErr base L c != 0) = true := by simp [he]
    have HE := Lib.hid he
    have HB1 := Lib.hid hb1
    clear he hb1
    generalize hce : cutErr base L c = er at hd HE ⊢
    have HCE := Lib.hid hce
    clear hce
    go_wp2
    go_ret2
    exact ⟨0, by rw [HCE.out]; rfl, fun h => absurd (HCE.out.symm.trans h) HE.out, fun _ => rfl, HB1.out⟩
end Go.Proofs.Ytjpknhhdkjhjfaa
