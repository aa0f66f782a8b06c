/- The contract of Logs: valid logs in memory of its own. -/
import Derived.Test.YtjpknhhdkjhjfaaPush
import Derived.Deep.RegionLaw
import Derived.Test.YtjpknhhdkjhjfaaUntil
import Derived.Deep.DrawnRows
import Derived.Deep.CutBlock
namespace Go.Proofs.Ytjpknhhdkjhjfaa
open Go.RowKit
set_option linter.unusedVariables false
set_option linter.unusedSimpArgs false
attribute [local go_sem ↓] Go.wp_at_zero Go.wp_at_succ


theorem ownsRow_take {w : World} {base : Nat} {e : TypeId} {size n k : Nat} {A : Option Addr} {c : Nat} {xs : List Value} (h : w.ownsRow base e size (.slice A n c) n xs) (hk : k ≤ n) : w.ownsRow base e size (.slice A k c) k (xs.take (k * size)) := by
  have hm : k * size ≤ n * size := Nat.mul_le_mul_right _ hk
  refine ⟨by rw [List.length_take, h.1]; omega, ?_⟩
  rcases h.2 with ⟨e1, e2⟩ | ⟨g, cap, cur, e1, hb, hh, h1, h2, h3, h4⟩
  · injection e1 with a1 a2 a3
    subst a1 a3
    have : k = 0 := by omega
    subst this
    exact .inl ⟨rfl, rfl⟩
  · injection e1 with a1 a2 a3
    subst a1 a3
    refine .inr ⟨g, c, cur, rfl, hb, hh, by omega, h2, h3, ?_⟩
    rw [← h4, List.take_take, Nat.min_eq_left hm]
/-- A list is cut. -/
theorem genW_cut {g H i q : Nat} {w W : World} {L : List (List Stp)} {vs : List Value} {len : Nat} {Ai : Option Addr} {ci : Nat} (h : GenW g H w W L vs) (hg : g < w.heap.size) (hi : i < L.length) (hl : (L.getD i []).length = len) (hv : vs.getD i undef = .slice Ai len ci) (hq : q ≤ len) :
    ∃ vs', GenW g H w (W.setCell ⟨H, i, none⟩ (.slice Ai q ci)) (L.set i ((L.getD i []).take q)) vs' := by
  obtain ⟨xs, hrow, hst⟩ := h.mem.row i hi
  rw [hl, hv] at hrow
  have hql : ((L.getD i []).take q).length = q := by rw [List.length_take]; omega
  have hob : (Value.slice Ai q ci).ownBlock = (vs.getD i undef).ownBlock := by rw [hv]; cases Ai <;> rfl
  have hput := h.mem.put (i := i) (W' := W) (v' := .slice Ai q ci) (l' := (L.getD i []).take q) (xs' := xs.take (q * 2)) hi (fun _ _ _ => rfl) (by rw [hql]; exact ownsRow_take hrow hq)
    (fun k hk => by
      rw [hql] at hk
      have e : ((L.getD i []).take q).getD k (0, []) = stp L i k := by
        unfold stp
        simp only [List.getD, List.getElem?_take_of_lt hk]
      rw [e]
      obtain ⟨h1, b, c, h2, h3⟩ := hst k (by omega)
      exact ⟨by rw [List.getElem?_take_of_lt (by omega)]; exact h1, b, c, by rw [List.getElem?_take_of_lt (by omega)]; exact h2, h3⟩)
    (.inr (.inl hob))
  refine ⟨_, hput, h.cs.keep (fun b hb => Below.heap_setCell _ ⟨H, i, none⟩ _ b ?_), only_setCell h.gr (.inr h.mem.hb) _⟩
  have h1 := h.cs.lt
  have h2 := h.mem.hb
  have h3 := h.gr.size
  show b ≠ H
  omega
set_option maxRecDepth 100000 in
set_option maxHeartbeats 8000000 in
theorem logs_any (g : Nat) (w : World) (hc : CaseOk w g) : Calls Try.prog 14 #[.pointer (some ⟨g, 0, none⟩)] w (LogsPost w g) := by
  go_enter Try.func14, Try.ntmps14
  go_wp2_with fail
  refine (int_any g 3 w (by omega) hc).mono ?_
  rintro e w1 ⟨b0, rfl, hb0, hb1, _, hc1, hg1, hs1⟩
  have hb3 : b0 < 3 := hb1 (by omega)
  have HC1 := Lib.hid hc1
  have HG1 := Lib.hid hg1
  have HS1 := Lib.hid hs1
  have hgl := hc.lt
  clear hb1 hc1 hg1 hs1 hc
  go_wp2_with fail
  refine (bool_any g 12 w1 (by omega) (by omega) HC1.out).mono ?_
  rintro e w2 ⟨rb, rfl, hc2, hg2, hs2⟩
  have HC2 := Lib.hid hc2
  have HG2 := Lib.hid (only_trans HG1.out hg2)
  have HS2 := Lib.hid (hs2.trans HS1.out)
  clear hc2 hg2 hs2 HC1 HG1 HS1
  go_upto_if 17 with fail
  go_cut [4] (fun b W => ∃ base : Int, b = .int .i64 base ∧ 0 ≤ base ∧ base ≤ 1073741820 ∧ W = w2)
  case first =>
    cases rb
    · go_wp2_with fail
      go_meet
      exact ⟨b0, rfl, hb0, by omega, rfl⟩
    · go_wp2_with fail
      go_meet
      exact ⟨1073741820, rfl, by omega, by omega, rfl⟩
  case rest =>
    obtain ⟨base, rfl, hbase0, hbase1, rfl⟩ := hcut
    clear hb0 hb3
    go_wp2_with fail
    refine (int_any g 4 wc (by omega) HC2.out).mono ?_
    rintro e w3 ⟨r, rfl, hr0, hr1, _, hc3, hg3, hs3⟩
    have hr4 : r < 4 := hr1 (by omega)
    obtain ⟨m0, rfl⟩ := Int.eq_ofNat_of_zero_le hr0
    have HC3 := Lib.hid hc3
    have HG3 := Lib.hid (only_trans HG2.out hg3)
    have HS3 := Lib.hid (hs3.trans HS2.out)
    clear hr1 hc3 hg3 hs3 HC2 HG2 HS2 hr0
    have hm4 : m0 < 4 := by omega
    have hmk : ∀ w : World, (Instr.makeSlice 22 (.int .i64 (1 + (m0 : Int))) (.int .i64 (1 + (m0 : Int)))).run Try.prog w = .ok (.slice (some ⟨w.heap.size, 0, none⟩) (1 + m0) (1 + m0)) (w.alloc (.cells (nilCells (1 + m0)) 31)) := fun w => by
      have := run_make_logs (1 + m0) (by omega) w
      simpa using this
    go_wp2_with fail
    clear hmk
    have hz3 : w3.heap.size = w.heap.size := HS3.out
    have HGW := Lib.hid (genW_start (m := 1 + m0) HS3.out hgl HC3.out HG3.out)
    clear hz3 HC3 HG3
    refine (int_any g 9 _ (by omega) HGW.out.cs).mono ?_
    rintro e w4 ⟨most, rfl, hmo0, hmo1, _, hc4, hg4, hs4⟩
    have hmo9 : most < 9 := hmo1 (by omega)
    have HGW4 := Lib.hid (HGW.out.keep hgl hc4 hg4)
    clear hmo1 hc4 hg4 hs4 HGW
    go_wp2_with fail
    go_loopg [6] most.toNat (fun gk i W => ∃ (n : Int) (L : List (List Stp)) (vs : List Value), gk = (base + most - n).toNat ∧ i = .int .i64 n ∧ base ≤ n ∧ n ≤ base + most ∧ n ≤ 1073741824 ∧ L.length = 1 + m0 ∧ GenS base n L ∧ GenW g w3.heap.size w W L vs)
    case atStart =>
      have hrep : List.replicate (1 + m0) ([] : List Stp) = List.replicate (List.replicate (1 + m0) ([] : List Stp)).length [] := by rw [List.length_replicate]
      exact ⟨base, _, _, by omega, rfl, Int.le_refl _, by omega, by omega, by simp, gen_start hrep, HGW4.out⟩
    case round =>
      clear HGW4
      obtain ⟨n, L, vs, hgk, rfl, hn0, hn1, hn2, hlen, hgen, hgw⟩ := hrel
      have HGK := Lib.hid hgk
      have HLEN := Lib.hid hlen
      have HGEN := Lib.hid hgen
      have HGW := Lib.hid hgw
      clear hgk hlen hgen hgw
      by_cases hcond : n < base + most ∧ n < 1073741824
      · obtain ⟨hc1, hc2⟩ := hcond
        have hd1 : decide (n < base + most) = true := by simp [hc1]
        have hd2 : decide (n < 1073741824) = true := by simp [hc2]
        go_wp2_with fail
        refine (bool_any g 12 _ (by omega) (by omega) HGW.out.cs).mono ?_
        rintro e w5 ⟨rb2, rfl, hc5, hg5, hs5⟩
        have HGW5 := Lib.hid (HGW.out.keep hgl hc5 hg5)
        clear hc5 hg5 hs5 HGW
        cases rb2
        · go_wp2_with fail
          obtain ⟨hx1, hx2⟩ := shl_bd m0 hm4
          generalize wrap64 (wrap64 (2 ^ (1 + m0)) - 1) = X at hx1 hx2 ⊢
          refine (int_any g X _ (by omega) HGW5.out.cs).mono ?_
          rintro e w6 ⟨r, rfl, hr0, hr1, _, hc6, hg6, hs6⟩
          have hr16 : r < 16 := by have := hr1 hx1; omega
          have HGW6 := Lib.hid (HGW5.out.keep hgl hc6 hg6)
          clear hr1 hc6 hg6 hs6 HGW5 hx1 hx2
          go_wp2_with fail
          go_loopg [9, 47] (1 + m0) (fun gk v i W => ∃ (k c : Nat) (A : Option Addr) (sh : List Int), gk = 1 + m0 - k ∧ k ≤ 1 + m0 ∧ i = .int .i64 k ∧ v = .slice A sh.length c ∧ ShTo k sh ∧ W.ownsRow w6.heap.size 3 1 (.slice A sh.length c) sh.length (sh.map (Value.int .i64)) ∧ Below w6.heap.size w6 W)
          case atStart => exact ⟨0, 0, none, [], rfl, Nat.zero_le _, rfl, rfl, sh_zero, World.ownsRow_nil _ _ _ _, Below.refl _ _⟩
          case round =>
            obtain ⟨k, c, A, sh, hgk2, hk, rfl, rfl, hsh, hown, hbel⟩ := hrel
            have HGK2 := Lib.hid hgk2
            have HSH := Lib.hid hsh
            have HOWN := Lib.hid hown
            have HBEL := Lib.hid hbel
            have hbz := hbel.size
            have hshl := sh_len hsh
            obtain ⟨i0, hi, hz0, hz1, hz2⟩ := info_parts info3
            clear hgk2 hsh hown hbel
            by_cases hkl : k < 1 + m0
            · have hkk : (k : Int) < 1 + (m0 : Int) := by omega
              by_cases hbit : (bits BinOp.and IntKind.i64 ((1 + r) / 2 ^ k) 1 == 1) = true
              · go_wp2_with (at_builtin; refine wpList_append_slice _ rfl (.tmp 55) (.tmp 57) 34 rfl w6.heap.size 3 i0 _ 1 8 Try.underlying34 hi hz0 hz1 hz2 rfl (by decide) (.slice A sh.length c) sh.length (sh.map (Value.int .i64)) rfl (HOWN.out.alloc _) ⟨_, 0, none⟩ 1 1 [.int .i64 k] rfl rfl (World.news_of_block (cs := #[.int .i64 k]) (t := 3) (fr := (0, 0)) (heap_alloc_new _ _)) (by simp [Value.oneCell']) (by unfold maxLen; omega) (by omega) (by simp; omega) ?_; intro A1 c1 w7 hown7 hg7)
                have HOWN7 := Lib.hid hown7
                have HG7 := Lib.hid hg7
                clear hown7 hg7
                go_roundg (1 + m0 - (k + 1))
                case measure => rw [HGK2.out]; omega
                case rel =>
                  refine ⟨k + 1, c1, A1, sh ++ [(k : Int)], rfl, by omega, by go_num, by simp, sh_take HSH.out, by simpa using HOWN7.out, ?_⟩
                  refine (HBEL.out.alloc hbz _).grown HG7.out (by simp; omega) (fun b hb => ?_)
                  exact (owns_block HOWN.out hb).1
              · have hbit' : (bits BinOp.and IntKind.i64 ((1 + r) / 2 ^ k) 1 == 1) = false := by simpa using hbit
                go_wp2_with fail
                go_roundg (1 + m0 - (k + 1))
                case measure => rw [HGK2.out]; omega
                case rel => exact ⟨k + 1, c, A, sh, rfl, by omega, by go_num, rfl, sh_skip HSH.out, HOWN.out, HBEL.out⟩
            · have HGW7 := Lib.hid (HGW6.out.below HBEL.out)
              have HSH2 := Lib.hid (show ShTo (1 + m0) sh from by have := HSH.out; rwa [show k = 1 + m0 by omega] at this)
              have hw6 : w.heap.size ≤ w6.heap.size := HGW6.out.gr.size
              have HIN := Lib.hid (show ShIn wr w.heap.size A sh from fun h0 => by
                obtain ⟨_, gs, cap, e, hb, ho⟩ := Own.of_owns HOWN.out h0
                injection e with e1 e2 e3
                exact ⟨gs, e1, by omega, ho⟩)
              clear HGW6 HSH HOWN HBEL HGK2
              have hw3 : w.heap.size ≤ w3.heap.size := HGW7.out.mem.hb
              go_wp2_with fail
              go_loopg [62] sh.length (fun gk i W => ∃ (j : Nat) (L' : List (List Stp)) (vs' : List Value), gk = sh.length - j ∧ j ≤ sh.length ∧ i = .int .i64 j ∧ L'.length = 1 + m0 ∧ GenMid base n sh j L' ∧ GenW g w3.heap.size w W L' vs' ∧ ShIn W w.heap.size A sh)
              case atStart => exact ⟨0, L, vs, rfl, Nat.zero_le _, rfl, HLEN.out, mid_start HGEN.out, HGW7.out, HIN.out⟩
              case round =>
                clear HGW7 HIN HLEN HGEN
                obtain ⟨j, L', vs', hgk3, hj, rfl, hlen, hmid, hgw, hin⟩ := hrel
                have HGK3 := Lib.hid hgk3
                have HLEN := Lib.hid hlen
                have HMID := Lib.hid hmid
                have HGW := Lib.hid hgw
                have HIN := Lib.hid hin
                clear hgk3 hlen hmid hgw hin
                by_cases hjl : j < sh.length
                · obtain ⟨gs, rfl, hgs, hosh⟩ := HIN.out (by omega)
                  have c1 := hosh.cell hjl
                  have htm := getD_in sh j 0 hjl
                  generalize ht : sh.getD j 0 = t at c1 htm
                  have HT := Lib.hid ht
                  obtain ⟨ht0, ht1⟩ := HSH2.out.2 t htm
                  clear ht htm
                  obtain ⟨q, rfl⟩ := Int.eq_ofNat_of_zero_le ht0
                  have hqm : q < 1 + m0 := by omega
                  have HOSH := Lib.hid hosh
                  clear hosh
                  go_upto_block 5 with fail
                  go_cut [12] (fun _ W => ∃ (L'' : List (List Stp)) (vs'' : List Value), L''.length = 1 + m0 ∧ GenMid base n sh (j + 1) L'' ∧ GenW g w3.heap.size w W L'' vs'' ∧ Own W gs sh)
                  case first =>
                    go_wp2_with fail
                    refine (bool_any g 14 _ (by omega) (by omega) HGW.out.cs).mono ?_
                    rintro e w8 ⟨rb3, rfl, hc8, hg8, hs8⟩
                    have HGW8 := Lib.hid (HGW.out.keep hgl hc8 hg8)
                    have HOSH8 := Lib.hid (HOSH.out.keep (w' := w8) (hg8.block _ HOSH.out.lt (by simp; omega)))
                    clear hc8 hg8 hs8 HGW HOSH HIN c1
                    cases rb3
                    · have hqL : q < L'.length := by rw [HLEN.out]; exact hqm
                      obtain ⟨Ai, ci, hvi, _, hnci⟩ := HGW8.out.mem.val hqL
                      obtain ⟨xs, hrow, hst⟩ := HGW8.out.mem.row q hqL
                      have hcell := HGW8.out.mem.cell hqL
                      have hfr := HGW8.out.mem.frozen q
                      have hHlt := lt_of_heap HGW8.out.mem.hd
                      have hgslt := HOSH8.out.lt
                      rw [hvi] at hrow hcell
                      have HVI := Lib.hid hvi
                      have HROW := Lib.hid hrow
                      have HST := Lib.hid hst
                      have hlenq := HMID.out.len q hqL
                      have hHne : some w3.heap.size ≠ (Value.slice Ai (L'.getD q []).length ci).ownBlock := fun e => by
                        obtain ⟨_, cur, hh⟩ := owns_block HROW.out e.symm
                        exact ne_of_type hh HGW8.out.mem.hd (by decide) rfl
                      have HHNE := Lib.hid hHne
                      have HGL := Lib.hid (show L'.getD q [] = L'.getD q [] from rfl)
                      generalize hll : L'.getD q [] = l at hcell hlenq HVI HROW HST HHNE HGL
                      have HLL := Lib.hid hll
                      clear hvi hrow hst hHne hll hnci HGL
                      have hl9 : l.length ≤ 9 := by omega
                      have hq2 : (q : Int) < 1 + (m0 : Int) := by omega
                      have hw8 : w.heap.size ≤ w8.heap.size := HGW8.out.gr.size
                      have hshl : sh.length ≤ 4 := by have := sh_len HSH2.out; omega
                      have hsh0 : 0 < sh.length := by omega
                      obtain ⟨i0, hi, hz0, hz1, hz2⟩ := info_parts info3
                      obtain ⟨i6, hi6, hy0, hy1, hy2⟩ := info_parts info36
                      have HNEWS := Lib.hid (show ∀ j u, (sh.map (Value.int .i64))[j]? = some u → w8.cell? ((⟨gs, 0, none⟩ : Addr).add j) = some u from fun j u hu => by
                        obtain ⟨b, off, e, _, hc⟩ := HOSH8.out.ints.2 hsh0
                        injection e with e
                        injection e with e1 e2
                        subst e1 e2
                        rw [add_none]
                        exact hc j u hu)
                      have HWR := Lib.hid (show IntKind.i64.wrap (n + 1) = n + 1 from IntWalk.i64_in _ (by omega))
                      go_wp2_with fail
                      refine hideQ (fun c a d v w h => by cases d <;> exact h) (fun Q' HQ HP => ?_)
                      refine regionT_until (fun w' => w'.cell? ⟨w3.heap.size, q, none⟩ = some (.slice Ai l.length ci) ∧ w'.frozen? ⟨w3.heap.size, q, none⟩ = false) 14 15 #[false, false, false, false, false, false, false, false, false, false, false, false, false, false, false] (by kernel_rfl) (by kernel_rfl) (by kernel_rfl) ?_
                      refine anyT_take (i := 0) (oi := ⟨some 69, _, _, _, _, _⟩) (v := ?_) (L' := #[true, false, false, false, false, false, false, false, false, false, false, false, false, false, false]) rfl rfl (by kernel_rfl) (by kernel_rfl) (by kernel_rfl) (by kernel_rfl) (by kernel_rfl) HP.out (Or.inl ⟨by rfl, ?_⟩) ⟨hcell, hfr⟩ ?_
                      rotate_left
                      · intro w' hSw
                        (try dsimp only at hSw)
                        go_simp
                        (try with_reducible rfl)
                      simp only [List.setIfInBounds_toArray, List.set_cons_zero, List.set_cons_succ]
                      refine anyT_take (i := 1) (oi := ⟨some 70, _, _, _, _, _⟩) (v := ?_) (L' := #[true, true, false, false, false, false, false, false, false, false, false, false, false, false, false]) rfl rfl (by kernel_rfl) (by kernel_rfl) (by kernel_rfl) (by kernel_rfl) (by kernel_rfl) HP.out (Or.inl ⟨by rfl, ?_⟩) ⟨hcell, hfr⟩ ?_
                      rotate_left
                      · intro w' hSw
                        (try dsimp only at hSw)
                        go_simp
                        (try with_reducible rfl)
                      simp only [List.setIfInBounds_toArray, List.set_cons_zero, List.set_cons_succ]
                      refine anyT_take (i := 2) (oi := ⟨some 71, _, _, _, _, _⟩) (v := ?_) (L' := #[true, true, true, false, false, false, false, false, false, false, false, false, false, false, false]) rfl rfl (by kernel_rfl) (by kernel_rfl) (by kernel_rfl) (by kernel_rfl) (by kernel_rfl) HP.out (Or.inl ⟨by rfl, ?_⟩) ⟨hcell, hfr⟩ ?_
                      rotate_left
                      · intro w' hSw
                        (try dsimp only at hSw)
                        go_simp
                        (try with_reducible rfl)
                      simp only [List.setIfInBounds_toArray, List.set_cons_zero, List.set_cons_succ]
                      refine anyT_take (i := 3) (oi := ⟨some 72, _, _, _, _, _⟩) (v := ?_) (L' := #[true, true, true, true, false, false, false, false, false, false, false, false, false, false, false]) rfl rfl (by kernel_rfl) (by kernel_rfl) (by kernel_rfl) (by kernel_rfl) (by kernel_rfl) HP.out (Or.inl ⟨by rfl, ?_⟩) ⟨hcell, hfr⟩ ?_
                      rotate_left
                      · intro w' hSw
                        (try dsimp only at hSw)
                        go_simp
                        (try with_reducible rfl)
                      simp only [List.setIfInBounds_toArray, List.set_cons_zero, List.set_cons_succ]
                      refine anyT_take (i := 4) (oi := ⟨some 73, _, _, _, _, _⟩) (v := ?_) (L' := #[true, true, true, true, true, false, false, false, false, false, false, false, false, false, false]) rfl rfl (by kernel_rfl) (by kernel_rfl) (by kernel_rfl) (by kernel_rfl) (by kernel_rfl) HP.out (Or.inl ⟨by rfl, ?_⟩) ⟨hcell, hfr⟩ ?_
                      rotate_left
                      · intro w' hSw
                        (try dsimp only at hSw)
                        go_simp
                        (try with_reducible rfl)
                      simp only [List.setIfInBounds_toArray, List.set_cons_zero, List.set_cons_succ]
                      refine anyT_take (i := 5) (oi := ⟨some 74, _, _, _, _, _⟩) (v := ?_) (L' := #[true, true, true, true, true, true, false, false, false, false, false, false, false, false, false]) rfl rfl (by kernel_rfl) (by kernel_rfl) (by kernel_rfl) (by kernel_rfl) (by kernel_rfl) HP.out (Or.inl ⟨by rfl, ?_⟩) ⟨hcell, hfr⟩ ?_
                      rotate_left
                      · intro w' hSw
                        (try dsimp only at hSw)
                        go_simp
                        (try with_reducible rfl)
                      simp only [List.setIfInBounds_toArray, List.set_cons_zero, List.set_cons_succ]
                      refine anyT_take (i := 6) (oi := ⟨some 75, _, _, _, _, _⟩) (v := ?_) (L' := #[true, true, true, true, true, true, true, false, false, false, false, false, false, false, false]) rfl rfl (by kernel_rfl) (by kernel_rfl) (by kernel_rfl) (by kernel_rfl) (by kernel_rfl) HP.out (Or.inl ⟨by rfl, ?_⟩) ⟨hcell, hfr⟩ ?_
                      rotate_left
                      · intro w' hSw
                        (try dsimp only at hSw)
                        go_simp
                        (try with_reducible rfl)
                      simp only [List.setIfInBounds_toArray, List.set_cons_zero, List.set_cons_succ]
                      refine anyT_take (i := 7) (oi := ⟨some 76, _, _, _, _, _⟩) (v := ?_) (L' := #[true, true, true, true, true, true, true, true, false, false, false, false, false, false, false]) rfl rfl (by kernel_rfl) (by kernel_rfl) (by kernel_rfl) (by kernel_rfl) (by kernel_rfl) HP.out (Or.inl ⟨by rfl, ?_⟩) ⟨hcell, hfr⟩ ?_
                      rotate_left
                      · intro w' hSw
                        (try dsimp only at hSw)
                        go_simp
                        (try with_reducible rfl)
                      simp only [List.setIfInBounds_toArray, List.set_cons_zero, List.set_cons_succ]
                      refine anyT_take (i := 8) (oi := ⟨some 77, _, _, _, _, _⟩) (v := ?_) (L' := #[true, true, true, true, true, true, true, true, true, false, false, false, false, false, false]) rfl rfl (by kernel_rfl) (by kernel_rfl) (by kernel_rfl) (by kernel_rfl) (by kernel_rfl) HP.out (Or.inl ⟨by rfl, ?_⟩) ⟨hcell, hfr⟩ ?_
                      rotate_left
                      · intro w' hSw
                        (try dsimp only at hSw)
                        go_simp
                        (try with_reducible rfl)
                      simp only [List.setIfInBounds_toArray, List.set_cons_zero, List.set_cons_succ]
                      refine anyT_one (i := 9) (o := ⟨some 78, _, _, _, _, _⟩) (L' := #[true, true, true, true, true, true, true, true, true, true, false, false, false, false, false]) rfl (by kernel_rfl) (by kernel_rfl) (fun K hK => ?_)
                      refine step_append_lies _ (by rfl) (.const (.slice none 0 0)) (.tmp 77) _ (by rfl) w.heap.size 3 i0 _ 1 8 Try.underlying34 hi hz0 hz1 hz2 rfl (by decide) (.slice none 0 0) 0 [] (by rfl) (World.ownsRow_nil _ _ _ _) ⟨gs, 0, none⟩ sh.length c (sh.map (Value.int .i64)) (by rfl) (by simp) (by exact HNEWS.out) (int_one sh) hsh0 (by unfold maxLen; omega) (by omega) (by simp; omega) w8.heap.size (by simp) ?_
                      intro gA cA wA hownA hgrow1 hatA hltA
                      have hcellA : wA.cell? ⟨w3.heap.size, q, none⟩ = some (.slice Ai l.length ci) := (hgrow1.cell_far _ hHlt (by simp [Value.ownBlock])).trans hcell
                      have hfrA : wA.frozen? ⟨w3.heap.size, q, none⟩ = false := (hgrow1.frozen_far _ hHlt (by simp [Value.ownBlock])).trans hfr
                      have hszA : w8.heap.size ≤ wA.heap.size := hgrow1.size
                      have HROWA := Lib.hid (ownsRow_same (w' := wA) HROW.out (fun b hb => hgrow1.block b (lt_of_heap (owns_block HROW.out hb).2.choose_spec) (by simp [Value.ownBlock])))
                      have HGR1 := Lib.hid hgrow1
                      have HOWNA := Lib.hid hownA
                      have HATA := Lib.hid hatA
                      clear hgrow1 hownA hatA hcell hfr
                      refine hK _ _ (fun _ => ⟨hcellA, hfrA⟩) ?_
                      clear hK K
                      simp only [Act.put, List.setIfInBounds_toArray, List.set_cons_zero, List.set_cons_succ]
                      refine anyT_take (i := 10) (oi := ⟨some 79, _, _, _, _, _⟩) (v := ?_) (L' := #[true, true, true, true, true, true, true, true, true, true, true, false, false, false, false]) rfl rfl (by kernel_rfl) (by kernel_rfl) (by kernel_rfl) (by kernel_rfl) (by kernel_rfl) HP.out (Or.inl ⟨by rfl, ?_⟩) ⟨hcellA, hfrA⟩ ?_
                      rotate_left
                      · intro w' hSw
                        (try dsimp only at hSw)
                        go_simp
                        (try with_reducible rfl)
                      simp only [List.setIfInBounds_toArray, List.set_cons_zero, List.set_cons_succ]
                      refine anyT_one (i := 11) (o := ⟨some 80, _, _, _, _, _⟩) (L' := #[true, true, true, true, true, true, true, true, true, true, true, true, false, false, false]) rfl (by kernel_rfl) (by kernel_rfl) (fun K hK => ?_)
                      have HK := Lib.hid hK
                      clear hK
                      go_simp
                      refine HK.out _ _ (fun _ => ⟨(World.cell?_of_block (w := wA) (Below.heap_alloc wA _ _ (by show w3.heap.size < wA.heap.size; omega))).trans hcellA, (World.frozen?_of_block (w := wA) (Below.heap_alloc wA _ _ (by show w3.heap.size < wA.heap.size; omega))).trans hfrA⟩) ?_
                      clear HK K
                      try simp only [Act.put, List.setIfInBounds_toArray, List.set_cons_zero, List.set_cons_succ]
                      refine anyT_one (i := 12) (o := ⟨some 81, _, _, _, _, _⟩) (L' := #[true, true, true, true, true, true, true, true, true, true, true, true, true, false, false]) rfl (by kernel_rfl) (by kernel_rfl) (fun K hK => ?_)
                      refine step_append_lies _ (by rfl) (.tmp 74) (.tmp 80) _ (by rfl) w.heap.size 36 i6 _ 2 32 Try.underlying31 hi6 hy0 hy1 hy2 rfl (by decide) (.slice Ai l.length ci) l.length xs (by rfl) (HROWA.out.alloc _) ⟨wA.heap.size, 0, none⟩ 1 1 [.int .i64 (IntKind.i64.wrap (n + 1)), .slice (some ⟨gA, 0, none⟩) sh.length cA] (by rfl) (by rfl) (World.news_of_block (cs := #[.int .i64 (IntKind.i64.wrap (n + 1)), .slice (some ⟨gA, 0, none⟩) sh.length cA]) (t := 36) (fr := (0, 0)) (heap_alloc_new wA _)) (by simp [Value.oneCell']) (by omega) (by unfold maxLen; omega) (by omega) (by simp; omega) (wA.heap.size + 1) (by simp) ?_
                      intro g2 c2 wB hownB hgrow2 hatB hltB
                      have hcellB : wB.cell? ⟨w3.heap.size, q, none⟩ = some (.slice Ai l.length ci) := (hgrow2.cell_far _ (by simp; omega) HHNE.out).trans ((World.cell?_of_block (w := wA) (Below.heap_alloc wA _ _ (by show w3.heap.size < wA.heap.size; omega))).trans hcellA)
                      have hfrB : wB.frozen? ⟨w3.heap.size, q, none⟩ = false := (hgrow2.frozen_far _ (by simp; omega) HHNE.out).trans ((World.frozen?_of_block (w := wA) (Below.heap_alloc wA _ _ (by show w3.heap.size < wA.heap.size; omega))).trans hfrA)
                      have HGR2 := Lib.hid hgrow2
                      have HOWNB := Lib.hid hownB
                      have HATB := Lib.hid hatB
                      clear hgrow2 hownB hatB hcellA hfrA
                      refine hK _ _ (fun _ => ⟨hcellB, hfrB⟩) ?_
                      clear hK K
                      simp only [Act.put, List.setIfInBounds_toArray, List.set_cons_zero, List.set_cons_succ]
                      refine anyT_take (i := 13) (oi := ⟨some 82, _, _, _, _, _⟩) (v := ?_) (L' := #[true, true, true, true, true, true, true, true, true, true, true, true, true, true, false]) rfl rfl (by kernel_rfl) (by kernel_rfl) (by kernel_rfl) (by kernel_rfl) (by kernel_rfl) HP.out (Or.inl ⟨by rfl, ?_⟩) ⟨hcellB, hfrB⟩ ?_
                      rotate_left
                      · intro w' hSw
                        (try dsimp only at hSw)
                        go_simp
                        (try with_reducible rfl)
                      simp only [List.setIfInBounds_toArray, List.set_cons_zero, List.set_cons_succ]
                      refine anyT_one (i := 14) (o := ⟨none, _, _, _, _, _⟩) (L' := #[true, true, true, true, true, true, true, true, true, true, true, true, true, true, true]) rfl (by kernel_rfl) (by kernel_rfl) (fun K hK => ?_)
                      have HK := Lib.hid hK
                      clear hK
                      go_simp
                      refine HK.out _ _ (fun h => absurd rfl h) ?_
                      clear HK K
                      refine anyU_done (by kernel_rfl) ?_
                      rw [HQ.out]
                      clear HQ HP Q'
                      go_wp2_with fail
                      go_meet
                      have hgrow1 := HGR1.out
                      have hgrow2 := HGR2.out
                      obtain ⟨vs'', hgw9, hosh9⟩ := genW_push HGW8.out hgl hqL HLL.out HVI.out HROW.out HST.out hshl HWR.out hsh0 HOWNA.out (fun b hb => hgrow1.block b hb (by simp [Value.ownBlock])) hszA ⟨hgrow1.os, hgrow1.tape, hgrow1.output⟩ (by rcases HATA.out with h | h; (simp [Value.ownBlock] at h); omega) ⟨.map #[] 0, fun b hb hne => (hgrow2.block b (by simp; omega) hne).trans (Below.heap_alloc _ _ _ hb), by have := hgrow2.size; simp at this; omega, hgrow2.os, hgrow2.tape, hgrow2.output⟩ HOWNB.out HATB.out HOSH8.out
                      have hpush := mid_push HMID.out hjl HT.out (by rw [HLEN.out]; exact HSH2.out) hn0 (by omega)
                      rw [HLL.out] at hpush
                      exact ⟨_, vs'', by rw [List.length_set]; exact HLEN.out, hpush, hgw9, hosh9⟩
                    · go_wp2_with fail
                      go_meet
                      exact ⟨L', vs', HLEN.out, mid_skip HMID.out, HGW8.out, HOSH8.out⟩
                  case rest =>
                    obtain ⟨L'', vs'', hlen9, hmid9, hgw9, hosh9⟩ := hcut
                    have HLEN9 := Lib.hid hlen9
                    have HMID9 := Lib.hid hmid9
                    have HGW9 := Lib.hid hgw9
                    have HOSH9 := Lib.hid hosh9
                    clear hlen9 hmid9 hgw9 hosh9 c1
                    go_wp2_with fail
                    go_roundg (sh.length - (j + 1))
                    case measure => rw [HGK3.out]; omega
                    case rel => exact ⟨j + 1, L'', vs'', rfl, by omega, by go_num, HLEN9.out, HMID9.out, HGW9.out, fun _ => ⟨gs, rfl, hgs, HOSH9.out⟩⟩
                · go_wp2_with fail
                  go_roundg (base + most - (n + 1)).toNat
                  case measure => rw [HGK.out]; omega
                  case rel => exact ⟨n + 1, L', vs', rfl, rfl, by omega, by omega, by omega, HLEN.out, mid_end HMID.out, HGW.out⟩
        · go_wp2_with fail
          go_roundg (base + most - (n + 1)).toNat
          case measure => rw [HGK.out]; omega
          case rel => exact ⟨n + 1, L, vs, rfl, rfl, by omega, by omega, by omega, HLEN.out, gen_cont HGEN.out, HGW5.out⟩
      · have hx : (decide (n < base + most) = true ∧ decide (n < 1073741824) = false) ∨ decide (n < base + most) = false := by
          by_cases h : n < base + most
          · exact .inl ⟨by simp [h], by simp; omega⟩
          · exact .inr (by simp; omega)
        clear hcond
        have hmost8 : n - base ≤ 8 := by omega
        rcases hx with ⟨hd1, hd2⟩ | hd1
        all_goals
          go_wp2_with fail
          go_loopg [86] (1 + m0) (fun gk i W => ∃ (k : Nat) (L : List (List Stp)) (vs : List Value), gk = 1 + m0 - k ∧ k ≤ 1 + m0 ∧ i = .int .i64 k ∧ L.length = 1 + m0 ∧ GenS base n L ∧ GenW g w3.heap.size w W L vs)
          case atStart => exact ⟨0, L, vs, rfl, Nat.zero_le _, rfl, HLEN.out, HGEN.out, HGW.out⟩
          case round =>
            clear HGW HLEN HGEN HGK L vs
            obtain ⟨k, L, vs, hgk4, hk, rfl, hlen, hgen, hgw⟩ := hrel
            have HGK4 := Lib.hid hgk4
            have HLEN4 := Lib.hid hlen
            have HGEN4 := Lib.hid hgen
            have HGW := Lib.hid hgw
            clear hgk4 hlen hgen hgw
            by_cases hkl : k < 1 + m0
            · have hkk : (k : Int) < 1 + (m0 : Int) := by omega
              go_wp2_with fail
              refine (bool_any g 5 _ (by omega) (by omega) HGW.out.cs).mono ?_
              rintro e wr8 ⟨rb4, rfl, hc8, hg8, hs8⟩
              have HGW8 := Lib.hid (HGW.out.keep hgl hc8 hg8)
              clear hc8 hg8 hs8 HGW
              cases rb4
              · go_wp2_with fail
                go_roundg (1 + m0 - (k + 1))
                case measure => rw [HGK4.out]; omega
                case rel => exact ⟨k + 1, L, vs, rfl, by omega, by go_num, HLEN4.out, HGEN4.out, HGW8.out⟩
              · have hkL : k < L.length := by rw [HLEN4.out]; exact hkl
                obtain ⟨Ai, ci, hvi, _, hnci⟩ := HGW8.out.mem.val hkL
                have hcell := HGW8.out.mem.cell hkL
                have hfr := HGW8.out.mem.frozen k
                have hHlt := lt_of_heap HGW8.out.mem.hd
                have hwlt : w.heap.size ≤ w3.heap.size := HGW8.out.mem.hb
                have hlenk := HGEN4.out.len k hkL
                rw [hvi] at hcell
                generalize hll : (L.getD k []).length = len at hcell hvi hnci hlenk
                have HVI := Lib.hid hvi
                have HLL := Lib.hid hll
                clear hvi hll
                have hlen8 : len ≤ 8 := by omega
                go_wp2_with fail
                refine hideQ (fun c a d v w h => by cases d <;> exact h) (fun Q' HQ HP => ?_)
                refine regionT_until (fun w' => w'.cell? ⟨w3.heap.size, k, none⟩ = some (.slice Ai len ci) ∧ w'.frozen? ⟨w3.heap.size, k, none⟩ = false) 16 17 #[false, false, false, false, false, false, false, false, false, false, false, false, false, false, false, false, false] (by kernel_rfl) (by kernel_rfl) (by kernel_rfl) ?_
                refine anyT_take (i := 0) (oi := ⟨some 91, _, _, _, _, _⟩) (v := ?_) (L' := #[true, false, false, false, false, false, false, false, false, false, false, false, false, false, false, false, false]) rfl rfl (by kernel_rfl) (by kernel_rfl) (by kernel_rfl) (by kernel_rfl) (by kernel_rfl) HP.out (Or.inl ⟨by rfl, ?_⟩) ⟨hcell, hfr⟩ ?_
                rotate_left
                · intro w' hSw
                  (try dsimp only at hSw)
                  go_simp
                  (try with_reducible rfl)
                simp only [List.setIfInBounds_toArray, List.set_cons_zero, List.set_cons_succ]
                refine anyT_take (i := 1) (oi := ⟨some 92, _, _, _, _, _⟩) (v := ?_) (L' := #[true, true, false, false, false, false, false, false, false, false, false, false, false, false, false, false, false]) rfl rfl (by kernel_rfl) (by kernel_rfl) (by kernel_rfl) (by kernel_rfl) (by kernel_rfl) HP.out (Or.inl ⟨by rfl, ?_⟩) ⟨hcell, hfr⟩ ?_
                rotate_left
                · intro w' hSw
                  (try dsimp only at hSw)
                  go_simp
                  (try with_reducible rfl)
                simp only [List.setIfInBounds_toArray, List.set_cons_zero, List.set_cons_succ]
                refine anyT_take (i := 2) (oi := ⟨some 93, _, _, _, _, _⟩) (v := ?_) (L' := #[true, true, true, false, false, false, false, false, false, false, false, false, false, false, false, false, false]) rfl rfl (by kernel_rfl) (by kernel_rfl) (by kernel_rfl) (by kernel_rfl) (by kernel_rfl) HP.out (Or.inl ⟨by rfl, ?_⟩) ⟨hcell, hfr⟩ ?_
                rotate_left
                · intro w' hSw
                  (try dsimp only at hSw)
                  go_simp
                  (try with_reducible rfl)
                simp only [List.setIfInBounds_toArray, List.set_cons_zero, List.set_cons_succ]
                refine anyT_take (i := 3) (oi := ⟨some 94, _, _, _, _, _⟩) (v := ?_) (L' := #[true, true, true, true, false, false, false, false, false, false, false, false, false, false, false, false, false]) rfl rfl (by kernel_rfl) (by kernel_rfl) (by kernel_rfl) (by kernel_rfl) (by kernel_rfl) HP.out (Or.inl ⟨by rfl, ?_⟩) ⟨hcell, hfr⟩ ?_
                rotate_left
                · intro w' hSw
                  (try dsimp only at hSw)
                  go_simp
                  (try with_reducible rfl)
                simp only [List.setIfInBounds_toArray, List.set_cons_zero, List.set_cons_succ]
                refine anyT_take (i := 4) (oi := ⟨some 95, _, _, _, _, _⟩) (v := ?_) (L' := #[true, true, true, true, true, false, false, false, false, false, false, false, false, false, false, false, false]) rfl rfl (by kernel_rfl) (by kernel_rfl) (by kernel_rfl) (by kernel_rfl) (by kernel_rfl) HP.out (Or.inl ⟨by rfl, ?_⟩) ⟨hcell, hfr⟩ ?_
                rotate_left
                · intro w' hSw
                  (try dsimp only at hSw)
                  go_simp
                  (try with_reducible rfl)
                simp only [List.setIfInBounds_toArray, List.set_cons_zero, List.set_cons_succ]
                refine anyT_take (i := 5) (oi := ⟨some 96, _, _, _, _, _⟩) (v := ?_) (L' := #[true, true, true, true, true, true, false, false, false, false, false, false, false, false, false, false, false]) rfl rfl (by kernel_rfl) (by kernel_rfl) (by kernel_rfl) (by kernel_rfl) (by kernel_rfl) HP.out (Or.inl ⟨by rfl, ?_⟩) ⟨hcell, hfr⟩ ?_
                rotate_left
                · intro w' hSw
                  (try dsimp only at hSw)
                  go_simp
                  (try with_reducible rfl)
                simp only [List.setIfInBounds_toArray, List.set_cons_zero, List.set_cons_succ]
                refine anyT_take (i := 6) (oi := ⟨some 97, _, _, _, _, _⟩) (v := ?_) (L' := #[true, true, true, true, true, true, true, false, false, false, false, false, false, false, false, false, false]) rfl rfl (by kernel_rfl) (by kernel_rfl) (by kernel_rfl) (by kernel_rfl) (by kernel_rfl) HP.out (Or.inl ⟨by rfl, ?_⟩) ⟨hcell, hfr⟩ ?_
                rotate_left
                · intro w' hSw
                  (try dsimp only at hSw)
                  go_simp
                  (try with_reducible rfl)
                simp only [List.setIfInBounds_toArray, List.set_cons_zero, List.set_cons_succ]
                refine anyT_take (i := 7) (oi := ⟨some 98, _, _, _, _, _⟩) (v := ?_) (L' := #[true, true, true, true, true, true, true, true, false, false, false, false, false, false, false, false, false]) rfl rfl (by kernel_rfl) (by kernel_rfl) (by kernel_rfl) (by kernel_rfl) (by kernel_rfl) HP.out (Or.inl ⟨by rfl, ?_⟩) ⟨hcell, hfr⟩ ?_
                rotate_left
                · intro w' hSw
                  (try dsimp only at hSw)
                  go_simp
                  (try with_reducible rfl)
                simp only [List.setIfInBounds_toArray, List.set_cons_zero, List.set_cons_succ]
                refine anyT_take (i := 8) (oi := ⟨some 99, _, _, _, _, _⟩) (v := ?_) (L' := #[true, true, true, true, true, true, true, true, true, false, false, false, false, false, false, false, false]) rfl rfl (by kernel_rfl) (by kernel_rfl) (by kernel_rfl) (by kernel_rfl) (by kernel_rfl) HP.out (Or.inl ⟨by rfl, ?_⟩) ⟨hcell, hfr⟩ ?_
                rotate_left
                · intro w' hSw
                  (try dsimp only at hSw)
                  go_simp
                  (try with_reducible rfl)
                simp only [List.setIfInBounds_toArray, List.set_cons_zero, List.set_cons_succ]
                refine anyT_take (i := 9) (oi := ⟨some 100, _, _, _, _, _⟩) (v := ?_) (L' := #[true, true, true, true, true, true, true, true, true, true, false, false, false, false, false, false, false]) rfl rfl (by kernel_rfl) (by kernel_rfl) (by kernel_rfl) (by kernel_rfl) (by kernel_rfl) HP.out (Or.inl ⟨by rfl, ?_⟩) ⟨hcell, hfr⟩ ?_
                rotate_left
                · intro w' hSw
                  (try dsimp only at hSw)
                  go_simp
                  (try with_reducible rfl)
                simp only [List.setIfInBounds_toArray, List.set_cons_zero, List.set_cons_succ]
                refine anyT_take (i := 10) (oi := ⟨some 101, _, _, _, _, _⟩) (v := ?_) (L' := #[true, true, true, true, true, true, true, true, true, true, true, false, false, false, false, false, false]) rfl rfl (by kernel_rfl) (by kernel_rfl) (by kernel_rfl) (by kernel_rfl) (by kernel_rfl) HP.out (Or.inl ⟨by rfl, ?_⟩) ⟨hcell, hfr⟩ ?_
                rotate_left
                · intro w' hSw
                  (try dsimp only at hSw)
                  go_simp
                  (try with_reducible rfl)
                simp only [List.setIfInBounds_toArray, List.set_cons_zero, List.set_cons_succ]
                refine anyT_take (i := 11) (oi := ⟨some 102, _, _, _, _, _⟩) (v := ?_) (L' := #[true, true, true, true, true, true, true, true, true, true, true, true, false, false, false, false, false]) rfl rfl (by kernel_rfl) (by kernel_rfl) (by kernel_rfl) (by kernel_rfl) (by kernel_rfl) HP.out (Or.inl ⟨by rfl, ?_⟩) ⟨hcell, hfr⟩ ?_
                rotate_left
                · intro w' hSw
                  (try dsimp only at hSw)
                  go_simp
                  (try with_reducible rfl)
                simp only [List.setIfInBounds_toArray, List.set_cons_zero, List.set_cons_succ]
                refine anyT_take (i := 12) (oi := ⟨some 103, _, _, _, _, _⟩) (v := ?_) (L' := #[true, true, true, true, true, true, true, true, true, true, true, true, true, false, false, false, false]) rfl rfl (by kernel_rfl) (by kernel_rfl) (by kernel_rfl) (by kernel_rfl) (by kernel_rfl) HP.out (Or.inl ⟨by rfl, ?_⟩) ⟨hcell, hfr⟩ ?_
                rotate_left
                · intro w' hSw
                  (try dsimp only at hSw)
                  go_simp
                  (try with_reducible rfl)
                simp only [List.setIfInBounds_toArray, List.set_cons_zero, List.set_cons_succ]
                refine anyT_one (i := 13) (o := ⟨some 104, _, _, _, _, _⟩) (L' := #[true, true, true, true, true, true, true, true, true, true, true, true, true, true, false, false, false]) rfl (by kernel_rfl) (by kernel_rfl) (fun K hK => ?_)
                have HK := Lib.hid hK
                clear hK
                go_simp
                have HGD := Lib.hid (HGW8.out.below (Below.refl _ _).drew)
                have hwl : IntKind.i64.wrap ((len : Int) + 1) = (len : Int) + 1 := IntWalk.i64_in _ (by omega)
                rw [hwl]
                clear hwl
                refine (int_any g ((len : Int) + 1) wr8.drew (by omega) HGD.out.cs).mono ?_
                rintro e w9 ⟨t, rfl, ht0, ht1, _, hc9, hg9, hs9⟩
                have ht2 : t < (len : Int) + 1 := ht1 (by omega)
                have hcell9 : w9.cell? ⟨w3.heap.size, k, none⟩ = some (.slice Ai len ci) := (World.cell?_of_block (w := wr8.drew) (hg9.block w3.heap.size hHlt (by simp; omega))).trans hcell
                have hfr9 : w9.frozen? ⟨w3.heap.size, k, none⟩ = false := (World.frozen?_of_block (w := wr8.drew) (hg9.block w3.heap.size hHlt (by simp; omega))).trans hfr
                have HGW9 := Lib.hid (HGD.out.keep hgl hc9 hg9)
                obtain ⟨q, rfl⟩ := Int.eq_ofNat_of_zero_le ht0
                have hqc : (q : Int) ≤ ci := by omega
                clear hc9 hg9 hs9 ht1 hcell hfr HGW8 HGD
                refine HK.out _ _ (fun _ => ⟨hcell9, hfr9⟩) ?_
                clear HK K
                try simp only [Act.put, List.setIfInBounds_toArray, List.set_cons_zero, List.set_cons_succ]
                refine anyT_take (i := 14) (oi := ⟨some 105, _, _, _, _, _⟩) (v := ?_) (L' := #[true, true, true, true, true, true, true, true, true, true, true, true, true, true, true, false, false]) rfl rfl (by kernel_rfl) (by kernel_rfl) (by kernel_rfl) (by kernel_rfl) (by kernel_rfl) HP.out (Or.inl ⟨by rfl, ?_⟩) ⟨hcell9, hfr9⟩ ?_
                rotate_left
                · intro w' hSw
                  (try dsimp only at hSw)
                  go_simp
                  (try with_reducible rfl)
                simp only [List.setIfInBounds_toArray, List.set_cons_zero, List.set_cons_succ]
                refine anyT_take (i := 15) (oi := ⟨some 106, _, _, _, _, _⟩) (v := ?_) (L' := #[true, true, true, true, true, true, true, true, true, true, true, true, true, true, true, true, false]) rfl rfl (by kernel_rfl) (by kernel_rfl) (by kernel_rfl) (by kernel_rfl) (by kernel_rfl) HP.out (Or.inl ⟨by rfl, ?_⟩) ⟨hcell9, hfr9⟩ ?_
                rotate_left
                · intro w' hSw
                  (try dsimp only at hSw)
                  go_simp
                  (try with_reducible rfl)
                simp only [List.setIfInBounds_toArray, List.set_cons_zero, List.set_cons_succ]
                refine anyT_one (i := 16) (o := ⟨none, _, _, _, _, _⟩) (L' := #[true, true, true, true, true, true, true, true, true, true, true, true, true, true, true, true, true]) rfl (by kernel_rfl) (by kernel_rfl) (fun K hK => ?_)
                have HK := Lib.hid hK
                clear hK
                go_simp
                refine HK.out _ _ (fun h => absurd rfl h) ?_
                clear HK K
                refine anyU_done (by kernel_rfl) ?_
                rw [HQ.out]
                clear HQ HP Q'
                go_wp2_with fail
                go_roundg (1 + m0 - (k + 1))
                case measure => rw [HGK4.out]; omega
                case rel =>
                  obtain ⟨vs'', hgw9⟩ := genW_cut HGW9.out hgl hkL HLL.out HVI.out (show q ≤ len by omega)
                  exact ⟨k + 1, _, vs'', rfl, by omega, by go_num, by rw [List.length_set]; exact HLEN4.out, gen_cut hkL HGEN4.out, hgw9⟩
            · have HV := Lib.hid HGEN4.out.val
              have HLE := Lib.hid (show ∀ i, i < L.length → (L.getD i []).length ≤ 8 from fun i hi => by have := HGEN4.out.len i hi; omega)
              go_wp2_with fail
              go_ret2
              refine ⟨base, w3.heap.size, L, vs, by rw [HLEN4.out]; rfl, hbase0, by omega, by rw [HLEN4.out]; omega, by rw [HLEN4.out]; omega, HLE.out, HV.out, HGW.out.mem, HGW.out.cs, HGW.out.gr⟩
end Go.Proofs.Ytjpknhhdkjhjfaa
