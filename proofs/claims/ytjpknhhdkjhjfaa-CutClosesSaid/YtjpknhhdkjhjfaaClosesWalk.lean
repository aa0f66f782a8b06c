/- CutCloses: the walk. -/
import Derived.Test.YtjpknhhdkjhjfaaWholesWalk
import Derived.Test.YtjpknhhdkjhjfaaUntil2
namespace Go.Proofs.Ytjpknhhdkjhjfaa
open Go.RowKit
set_option linter.unusedVariables false
set_option linter.unusedSimpArgs false

theorem LSt.capsOk {w W : World} {g H : Nat} {base : Int} {L : List (List Stp)} (h : LSt w W g H base L) : CapsOk W (some ⟨H, 0, none⟩) L := by
  intro b off e k hk A' n c hc
  injection e with e
  injection e with e1 e2
  subst e1 e2
  obtain ⟨A, c2, h1, h2⟩ := h.caps k hk
  rw [Nat.zero_add, h1] at hc
  injection hc with hc
  injection hc with _ e2 e3
  omega
theorem hasC_zero {w W : World} {g H : Nat} {base : Int} {L : List (List Stp)} (h : LSt w W g H base L) : HasC (W.alloc (.cells (intCells (List.replicate L.length 0)) 3)) g L (some ⟨W.heap.size, 0, none⟩) (List.replicate L.length 0) := by
  refine ⟨⟨by simp, fun i hi => by simp [List.getD, hi]⟩, (Row.new W _).ints.more (fun b e => ?_)⟩
  subst e
  exact ⟨h.cs.lt, (Row.new W _).lt⟩
theorem raw_now {w W : World} {A : Option Addr} {l : List Int} (h : Ints w (Lt w) A l) (hb : Below w.heap.size w W) : Ints W (Lt W) A l := (h.keep (Same.of_below hb (fun b h => h))).more (fun b h => Nat.lt_of_lt_of_le h hb.size)
theorem xs_four {W : World} {g : Nat} {L : List (List Stp)} {A1 A2 A3 A4 : Option Addr} {x1 x2 x3 la : List Int} {ca : Nat} (h1 : HasC W g L A1 x1) (h2 : HasC W g L A2 x2) (h3 : HasC W g L A3 x3) (h4 : Ints W (Lt W) A4 la) (hla : la.length ≤ 17592186044416) (hL : L.length ≤ 1000) :
    XS (W.alloc (.cells #[.slice A1 L.length L.length, .slice A2 L.length L.length, .slice A4 la.length ca, .slice A3 L.length L.length] 34)) W.heap.size 4 := by
  have hb : Below W.heap.size W (W.alloc (.cells #[.slice A1 L.length L.length, .slice A2 L.length L.length, .slice A4 la.length ca, .slice A3 L.length L.length] 34)) := (Below.refl _ _).alloc (Nat.le_refl _) _
  refine ⟨by simp, fun k hk => ?_⟩
  have hk' : k = 0 ∨ k = 1 ∨ k = 2 ∨ k = 3 := by omega
  rcases hk' with rfl | rfl | rfl | rfl
  · exact ⟨_, x1, L.length, by rw [h1.1.1]; exact new_cell _ _ _ 0, ints_lt (has_l h1) hb, by rw [h1.1.1]; omega⟩
  · exact ⟨_, x2, L.length, by rw [h2.1.1]; exact new_cell _ _ _ 1, ints_lt (has_l h2) hb, by rw [h2.1.1]; omega⟩
  · exact ⟨_, la, ca, new_cell _ _ _ 2, ints_lt h4 hb, hla⟩
  · exact ⟨_, x3, L.length, by rw [h3.1.1]; exact new_cell _ _ _ 3, ints_lt (has_l h3) hb, by rw [h3.1.1]; omega⟩
theorem closed_eq {E : Int} {L : List (List Stp)} {c : List Int} {p q : Bool} (h1 : E = 0 → (p = true ↔ ClosedC L c)) (h2 : E ≠ 0 → p = false) (g1 : E = 0 → (q = true ↔ ClosedC L c)) (g2 : E ≠ 0 → q = false) : p = q := by
  by_cases h : E = 0
  · have := (h1 h).trans (g1 h).symm
    cases p <;> cases q <;> simp_all
  · rw [h2 h, g2 h]
theorem close_eq {E : Int} {L : List (List Stp)} {c y z : List Int} (h1 : E = 0 → IsClose L c y) (h2 : E ≠ 0 → y = []) (g1 : E = 0 → IsClose L c z) (g2 : E ≠ 0 → z = []) : y = z := by
  by_cases h : E = 0
  · exact isClose_unique (h1 h) (g1 h)
  · rw [h2 h, g2 h]
theorem close_len {E : Int} {L : List (List Stp)} {c y : List Int} (hL : L.length ≤ 17592186044416) (h1 : E = 0 → IsClose L c y) (h2 : E ≠ 0 → y = []) : y.length ≤ 17592186044416 := by
  by_cases h : E = 0
  · rw [(h1 h).1.1]; exact hL
  · rw [h2 h]; simp

set_option maxRecDepth 100000 in
set_option maxHeartbeats 8000000 in
theorem closes_walk (rb : Int) (AR : Option Addr) (cr : Nat) (LR : List (List Stp)) (AA : Option Addr) (ca : Nat) (la : List Int) (a3 : Option Addr) (len3 cap3 : Nat) (z3 : List Int) (w : World)
    (hwf : (Lit.int .i64 rb).wf = true) (hLR : Logs w (Lt w) AR LR) (hcr : LR.length ≤ cr) (hcp : CapsOk w AR LR) (hAA : Ints w (Lt w) AA la) (hla : la.length ≤ 17592186044416) (w3 : IsRow .u8 w a3 len3 cap3 z3) :
    Calls Try.prog 6 #[.int .i64 rb, .slice AR LR.length cr, .slice AA la.length ca, .slice a3 len3 cap3] w fun e w' => e = .returned (.bool true) ∧ Below w.heap.size w w' := by
  have HLR := Lib.hid hLR
  have HAA := Lib.hid hAA
  have HCP := Lib.hid hcp
  have hLRl := hLR.1
  clear hLR hAA hcp hwf
  go_enter Try.func6, Try.ntmps6
  go_wp2_with fail
  refine (new_any a3 len3 cap3 z3 90 w (by omega) w3).mono ?_
  rintro e w1 ⟨g, rfl, hg, hc1, hb1⟩
  have HB1 := Lib.hid hb1
  have HC1 := Lib.hid hc1
  have hgl := hc1.lt
  clear hb1 hc1 w3
  go_wp2_with fail
  refine (logs_any g w1 HC1.out).mono ?_
  rintro e w2 ⟨base, H, L, vs, rfl, hb0, hb1, hm1, hm4, hll, hval, hmem, hcs, hgr⟩
  have HS2 := Lib.hid (lst_of HB1.out hg hgl hb0 hb1 hm1 hm4 hll hval hmem hcs hgr)
  clear hll hval hmem hcs hgr HB1 HC1
  go_upto_region 3 with fail
  go_cut [47, 48, 49] (fun v n i W => ∃ G, (v = .slice (some ⟨G, 0, none⟩) 4 4 ∧ n = .int .i64 4 ∧ i = .int .i64 0) ∧ XS W G 4 ∧ LSt w W g H base L)
  case first =>
    have HT0 := Lib.hid (HS2.out.keep (Below.refl _ _).drew)
    refine hideQ (fun c a d v w h => by cases d <;> exact h) (fun Q' HQ HP => ?_)
    refine regionT_until (fun _ => True) 13 13 #[false, false, false, false, false, false, false, false, false, false, false, false, false] (by kernel_rfl) (by kernel_rfl) (by kernel_rfl) ?_
    refine anyT_take (i := 0) (oi := ⟨some 37, _, _, _, _, _⟩) (v := ?_) (L' := #[true, false, false, false, false, false, false, false, false, false, false, false, false]) rfl rfl (by kernel_rfl) (by kernel_rfl) (by kernel_rfl) (by kernel_rfl) (by kernel_rfl) HP.out (Or.inl ⟨by rfl, ?_⟩) trivial ?_
    rotate_left
    · intro w' hSw
      (try dsimp only at hSw)
      go_simp
      (try with_reducible rfl)
    simp only [List.setIfInBounds_toArray, List.set_cons_zero, List.set_cons_succ]
    refine anyT_take (i := 1) (oi := ⟨some 38, _, _, _, _, _⟩) (v := ?_) (L' := #[true, true, false, false, false, false, false, false, false, false, false, false, false]) rfl rfl (by kernel_rfl) (by kernel_rfl) (by kernel_rfl) (by kernel_rfl) (by kernel_rfl) HP.out (Or.inl ⟨by rfl, ?_⟩) trivial ?_
    rotate_left
    · intro w' hSw
      (try dsimp only at hSw)
      go_simp
      (try with_reducible rfl)
    simp only [List.setIfInBounds_toArray, List.set_cons_zero, List.set_cons_succ]
    refine anyT_take (i := 3) (oi := ⟨some 40, _, _, _, _, _⟩) (v := ?_) (L' := #[true, true, false, true, false, false, false, false, false, false, false, false, false]) rfl rfl (by kernel_rfl) (by kernel_rfl) (by kernel_rfl) (by kernel_rfl) (by kernel_rfl) HP.out (Or.inl ⟨by rfl, ?_⟩) trivial ?_
    rotate_left
    · intro w' hSw
      (try dsimp only at hSw)
      go_simp
      (try with_reducible rfl)
    simp only [List.setIfInBounds_toArray, List.set_cons_zero, List.set_cons_succ]
    refine anyT_take (i := 4) (oi := ⟨some 41, _, _, _, _, _⟩) (v := ?_) (L' := #[true, true, false, true, true, false, false, false, false, false, false, false, false]) rfl rfl (by kernel_rfl) (by kernel_rfl) (by kernel_rfl) (by kernel_rfl) (by kernel_rfl) HP.out (Or.inl ⟨by rfl, ?_⟩) trivial ?_
    rotate_left
    · intro w' hSw
      (try dsimp only at hSw)
      go_simp
      (try with_reducible rfl)
    simp only [List.setIfInBounds_toArray, List.set_cons_zero, List.set_cons_succ]
    refine anyT_take (i := 6) (oi := ⟨some 43, _, _, _, _, _⟩) (v := ?_) (L' := #[true, true, false, true, true, false, true, false, false, false, false, false, false]) rfl rfl (by kernel_rfl) (by kernel_rfl) (by kernel_rfl) (by kernel_rfl) (by kernel_rfl) HP.out (Or.inl ⟨by rfl, ?_⟩) trivial ?_
    rotate_left
    · intro w' hSw
      (try dsimp only at hSw)
      go_simp
      (try with_reducible rfl)
    simp only [List.setIfInBounds_toArray, List.set_cons_zero, List.set_cons_succ]
    refine anyT_take (i := 7) (oi := ⟨some 44, _, _, _, _, _⟩) (v := ?_) (L' := #[true, true, false, true, true, false, true, true, false, false, false, false, false]) rfl rfl (by kernel_rfl) (by kernel_rfl) (by kernel_rfl) (by kernel_rfl) (by kernel_rfl) HP.out (Or.inl ⟨by rfl, ?_⟩) trivial ?_
    rotate_left
    · intro w' hSw
      (try dsimp only at hSw)
      go_simp
      (try with_reducible rfl)
    simp only [List.setIfInBounds_toArray, List.set_cons_zero, List.set_cons_succ]
    refine anyT_take (i := 8) (oi := ⟨some 45, _, _, _, _, _⟩) (v := ?_) (L' := #[true, true, false, true, true, false, true, true, true, false, false, false, false]) rfl rfl (by kernel_rfl) (by kernel_rfl) (by kernel_rfl) (by kernel_rfl) (by kernel_rfl) HP.out (Or.inl ⟨by rfl, ?_⟩) trivial ?_
    rotate_left
    · intro w' hSw
      (try dsimp only at hSw)
      go_simp
      (try with_reducible rfl)
    simp only [List.setIfInBounds_toArray, List.set_cons_zero, List.set_cons_succ]
    refine anyT_take (i := 12) (oi := ⟨some 49, _, _, _, _, _⟩) (v := ?_) (L' := #[true, true, false, true, true, false, true, true, true, false, false, false, true]) rfl rfl (by kernel_rfl) (by kernel_rfl) (by kernel_rfl) (by kernel_rfl) (by kernel_rfl) HP.out (Or.inl ⟨by rfl, ?_⟩) trivial ?_
    rotate_left
    · intro w' hSw
      (try dsimp only at hSw)
      go_simp
      (try with_reducible rfl)
    simp only [List.setIfInBounds_toArray, List.set_cons_zero, List.set_cons_succ]
    refine anyT_two (i := 2) (j := 9) (oi := ⟨some 39, _, _, _, _, _⟩) (oj := ⟨some 46, _, _, _, _, _⟩) (Li := #[true, true, true, true, true, false, true, true, true, false, false, false, true]) (Lj := #[true, true, false, true, true, false, true, true, true, true, false, false, true]) rfl rfl (by kernel_rfl) (by kernel_rfl) (by kernel_rfl) (fun K hK => ?_) (fun K hK => ?_)
    · have HK := Lib.hid hK
      clear hK
      go_simp
      refine (cut_l HT0.out).mono ?_
      rintro e u1 ⟨x1, rfl, hh, hst, hgr⟩
      have HT1 := Lib.hid hst
      have HX1 := Lib.hid hh
      clear hh hst hgr
      refine HK.out _ _ (fun _ => trivial) ?_
      clear HK K
      try simp only [Act.put, List.setIfInBounds_toArray, List.set_cons_zero, List.set_cons_succ]
      refine anyT_two (i := 5) (j := 9) (oi := ⟨some 42, _, _, _, _, _⟩) (oj := ⟨some 46, _, _, _, _, _⟩) (Li := #[true, true, true, true, true, true, true, true, true, false, false, false, true]) (Lj := #[true, true, true, true, true, false, true, true, true, true, false, false, true]) rfl rfl (by kernel_rfl) (by kernel_rfl) (by kernel_rfl) (fun K hK => ?_) (fun K hK => ?_)
      · have HK := Lib.hid hK
        clear hK
        go_simp
        refine (cut_l HT1.out).mono ?_
        rintro e u2 ⟨x2, rfl, hh, hst, hgr⟩
        have HT2 := Lib.hid hst
        have HX2 := Lib.hid hh
        have HX3 := Lib.hid (HX1.out.keepG hgr)
        clear hh hst hgr
        refine HK.out _ _ (fun _ => trivial) ?_
        clear HK K
        try simp only [Act.put, List.setIfInBounds_toArray, List.set_cons_zero, List.set_cons_succ]
        refine anyT_one (i := 9) (o := ⟨some 46, _, _, _, _, _⟩) (L' := #[true, true, true, true, true, true, true, true, true, true, false, false, true]) rfl (by kernel_rfl) (by kernel_rfl) (fun K hK => ?_)
        have HK := Lib.hid hK
        clear hK
        have hbk : Below u2.heap.size u2 (u2.alloc (.cells (intCells (List.replicate L.length 0)) 3)) := (Below.refl _ _).alloc (Nat.le_refl _) _
        have HT4 := Lib.hid (HT2.out.keep hbk)
        have HX4 := Lib.hid (hasC_zero HT2.out)
        have HX5 := Lib.hid (HX3.out.keep hbk)
        have HX6 := Lib.hid (HX2.out.keep hbk)
        clear hbk
        have hmk := run_make_ints L.length (by omega)
        go_simp
        clear hmk
        refine HK.out _ _ (fun _ => trivial) ?_
        clear HK K
        try simp only [Act.put, List.setIfInBounds_toArray, List.set_cons_zero, List.set_cons_succ]
        refine anyT_one (i := 10) (o := ⟨some 47, _, _, _, _, _⟩) (L' := #[true, true, true, true, true, true, true, true, true, true, true, false, true]) rfl (by kernel_rfl) (by kernel_rfl) (fun K hK => ?_)
        have HK := Lib.hid hK
        clear hK
        go_simp
        refine HK.out _ _ (fun _ => trivial) ?_
        clear HK K
        try simp only [Act.put, List.setIfInBounds_toArray, List.set_cons_zero, List.set_cons_succ]
        refine anyT_take (i := 11) (oi := ⟨some 48, _, _, _, _, _⟩) (v := ?_) (L' := #[true, true, true, true, true, true, true, true, true, true, true, true, true]) rfl rfl (by kernel_rfl) (by kernel_rfl) (by kernel_rfl) (by kernel_rfl) (by kernel_rfl) HP.out (Or.inl ⟨by rfl, ?_⟩) trivial ?_
        rotate_left
        · intro w' hSw
          (try dsimp only at hSw)
          go_simp
          (try with_reducible rfl)
        simp only [List.setIfInBounds_toArray, List.set_cons_zero, List.set_cons_succ]
        refine anyU_done (by kernel_rfl) ?_
        rw [HQ.out]
        clear HQ HP Q'
        go_wp2_with fail
        go_meet
        exact ⟨(u2.alloc (.cells (intCells (List.replicate L.length 0)) 3)).heap.size, by simp, xs_four HX5.out HX6.out HX4.out (raw_now HAA.out HT4.out.bel) hla (by omega), HT4.out.keep ((Below.refl _ _).alloc (Nat.le_refl _) _)⟩
      · have HK := Lib.hid hK
        clear hK
        have hbk : Below u1.heap.size u1 (u1.alloc (.cells (intCells (List.replicate L.length 0)) 3)) := (Below.refl _ _).alloc (Nat.le_refl _) _
        have HT7 := Lib.hid (HT1.out.keep hbk)
        have HX7 := Lib.hid (hasC_zero HT1.out)
        have HX8 := Lib.hid (HX1.out.keep hbk)
        clear hbk
        have hmk := run_make_ints L.length (by omega)
        go_simp
        clear hmk
        refine HK.out _ _ (fun _ => trivial) ?_
        clear HK K
        try simp only [Act.put, List.setIfInBounds_toArray, List.set_cons_zero, List.set_cons_succ]
        refine anyT_one (i := 5) (o := ⟨some 42, _, _, _, _, _⟩) (L' := #[true, true, true, true, true, true, true, true, true, true, false, false, true]) rfl (by kernel_rfl) (by kernel_rfl) (fun K hK => ?_)
        have HK := Lib.hid hK
        clear hK
        go_simp
        refine (cut_l HT7.out).mono ?_
        rintro e u9 ⟨x9, rfl, hh, hst, hgr⟩
        have HT9 := Lib.hid hst
        have HX9 := Lib.hid (show HasC u9 g L (some ⟨u1.heap.size + 1, 0, none⟩) x9 from by simpa using hh)
        have HX10 := Lib.hid (HX8.out.keepG hgr)
        have HX11 := Lib.hid (HX7.out.keepG hgr)
        clear hh hst hgr
        refine HK.out _ _ (fun _ => trivial) ?_
        clear HK K
        try simp only [Act.put, List.setIfInBounds_toArray, List.set_cons_zero, List.set_cons_succ]
        refine anyT_one (i := 10) (o := ⟨some 47, _, _, _, _, _⟩) (L' := #[true, true, true, true, true, true, true, true, true, true, true, false, true]) rfl (by kernel_rfl) (by kernel_rfl) (fun K hK => ?_)
        have HK := Lib.hid hK
        clear hK
        go_simp
        refine HK.out _ _ (fun _ => trivial) ?_
        clear HK K
        try simp only [Act.put, List.setIfInBounds_toArray, List.set_cons_zero, List.set_cons_succ]
        refine anyT_take (i := 11) (oi := ⟨some 48, _, _, _, _, _⟩) (v := ?_) (L' := #[true, true, true, true, true, true, true, true, true, true, true, true, true]) rfl rfl (by kernel_rfl) (by kernel_rfl) (by kernel_rfl) (by kernel_rfl) (by kernel_rfl) HP.out (Or.inl ⟨by rfl, ?_⟩) trivial ?_
        rotate_left
        · intro w' hSw
          (try dsimp only at hSw)
          go_simp
          (try with_reducible rfl)
        simp only [List.setIfInBounds_toArray, List.set_cons_zero, List.set_cons_succ]
        refine anyU_done (by kernel_rfl) ?_
        rw [HQ.out]
        clear HQ HP Q'
        go_wp2_with fail
        go_meet
        exact ⟨u9.heap.size, by simp, xs_four HX10.out HX9.out HX11.out (raw_now HAA.out HT9.out.bel) hla (by omega), HT9.out.keep ((Below.refl _ _).alloc (Nat.le_refl _) _)⟩
    · have HK := Lib.hid hK
      clear hK
      have hbk : Below w2.drew.heap.size w2.drew (w2.drew.alloc (.cells (intCells (List.replicate L.length 0)) 3)) := (Below.refl _ _).alloc (Nat.le_refl _) _
      have HT12 := Lib.hid (HT0.out.keep hbk)
      have HX12 := Lib.hid (hasC_zero HT0.out)
      clear hbk
      have hmk := run_make_ints L.length (by omega)
      go_simp
      clear hmk
      refine HK.out _ _ (fun _ => trivial) ?_
      clear HK K
      try simp only [Act.put, List.setIfInBounds_toArray, List.set_cons_zero, List.set_cons_succ]
      refine anyT_one (i := 2) (o := ⟨some 39, _, _, _, _, _⟩) (L' := #[true, true, true, true, true, false, true, true, true, true, false, false, true]) rfl (by kernel_rfl) (by kernel_rfl) (fun K hK => ?_)
      have HK := Lib.hid hK
      clear hK
      go_simp
      refine (cut_l HT12.out).mono ?_
      rintro e u13 ⟨x13, rfl, hh, hst, hgr⟩
      have HT13 := Lib.hid hst
      have HX13 := Lib.hid (show HasC u13 g L (some ⟨w2.drew.heap.size + 1, 0, none⟩) x13 from by simpa using hh)
      have HX14 := Lib.hid (HX12.out.keepG hgr)
      clear hh hst hgr
      refine HK.out _ _ (fun _ => trivial) ?_
      clear HK K
      try simp only [Act.put, List.setIfInBounds_toArray, List.set_cons_zero, List.set_cons_succ]
      refine anyT_one (i := 5) (o := ⟨some 42, _, _, _, _, _⟩) (L' := #[true, true, true, true, true, true, true, true, true, true, false, false, true]) rfl (by kernel_rfl) (by kernel_rfl) (fun K hK => ?_)
      have HK := Lib.hid hK
      clear hK
      go_simp
      refine (cut_l HT13.out).mono ?_
      rintro e u15 ⟨x15, rfl, hh, hst, hgr⟩
      have HT15 := Lib.hid hst
      have HX15 := Lib.hid hh
      have HX16 := Lib.hid (HX14.out.keepG hgr)
      have HX17 := Lib.hid (HX13.out.keepG hgr)
      clear hh hst hgr
      refine HK.out _ _ (fun _ => trivial) ?_
      clear HK K
      try simp only [Act.put, List.setIfInBounds_toArray, List.set_cons_zero, List.set_cons_succ]
      refine anyT_one (i := 10) (o := ⟨some 47, _, _, _, _, _⟩) (L' := #[true, true, true, true, true, true, true, true, true, true, true, false, true]) rfl (by kernel_rfl) (by kernel_rfl) (fun K hK => ?_)
      have HK := Lib.hid hK
      clear hK
      go_simp
      refine HK.out _ _ (fun _ => trivial) ?_
      clear HK K
      try simp only [Act.put, List.setIfInBounds_toArray, List.set_cons_zero, List.set_cons_succ]
      refine anyT_take (i := 11) (oi := ⟨some 48, _, _, _, _, _⟩) (v := ?_) (L' := #[true, true, true, true, true, true, true, true, true, true, true, true, true]) rfl rfl (by kernel_rfl) (by kernel_rfl) (by kernel_rfl) (by kernel_rfl) (by kernel_rfl) HP.out (Or.inl ⟨by rfl, ?_⟩) trivial ?_
      rotate_left
      · intro w' hSw
        (try dsimp only at hSw)
        go_simp
        (try with_reducible rfl)
      simp only [List.setIfInBounds_toArray, List.set_cons_zero, List.set_cons_succ]
      refine anyU_done (by kernel_rfl) ?_
      rw [HQ.out]
      clear HQ HP Q'
      go_wp2_with fail
      go_meet
      exact ⟨u15.heap.size, by simp, xs_four HX17.out HX15.out HX16.out (raw_now HAA.out HT15.out.bel) hla (by omega), HT15.out.keep ((Below.refl _ _).alloc (Nat.le_refl _) _)⟩
  case rest =>
    obtain ⟨G, ⟨rfl, rfl, rfl⟩, hxs, hst⟩ := hcut
    have HXS := Lib.hid hxs
    have HS5 := Lib.hid hst
    clear hxs hst HS2
    go_wp2_with fail
    go_loopw [49] (fun i W => ∃ k : Nat, k ≤ 4 ∧ i = .int .i64 k ∧ XS W G 4 ∧ LSt w W g H base L) (fun i _ => 4 - (intOf i).toNat)
    case atStart => exact ⟨0, by omega, rfl, HXS.out, HS5.out⟩
    case round =>
      clear HXS HS5
      obtain ⟨k, hk, rfl, hxs, hst⟩ := hrel
      have HXS := Lib.hid hxs
      have HST := Lib.hid hst
      clear hxs hst
      by_cases hkl : k < 4
      · obtain ⟨A, l, cap, c0, hi, hl⟩ := HXS.out.2 k hkl
        have HI := Lib.hid hi
        clear hi
        have hki : (k : Int) < 4 := by omega
        go_wp2_with fail
        refine (closed_any (some ⟨H, 0, none⟩) A L.length cap L l base (Lt wr) wr HST.out.lT HI.out (fun b hb => hb) hl).mono ?_
        rintro e w6 ⟨p, rfl, hn1, hn2, hb6⟩
        have HN1 := Lib.hid hn1
        have HN2 := Lib.hid hn2
        have HS6 := Lib.hid (HST.out.keep hb6)
        have HX6 := Lib.hid (HXS.out.keep hb6)
        have HI6 := Lib.hid (ints_lt HI.out hb6)
        clear hn1 hn2 hb6 HST HXS HI c0
        go_wp2_with fail
        refine (rclosed_any (some ⟨H, 0, none⟩) A L.length cap L l base (Lt w6) w6 HS6.out.lT HS6.out.capsOk HI6.out (fun b hb => hb) hl (Nat.le_refl _)).mono ?_
        rintro e w7 ⟨p2, rfl, hm1, hm2, hb7⟩
        obtain rfl : p = p2 := closed_eq HN1.out HN2.out hm1 hm2
        have HS7 := Lib.hid (HS6.out.keep hb7)
        have HX7 := Lib.hid (HX6.out.keep hb7)
        have HI7 := Lib.hid (ints_lt HI6.out hb7)
        clear hm1 hm2 hb7 HS6 HX6 HI6 HN1 HN2
        go_wp2_with fail
        refine (close_any (some ⟨H, 0, none⟩) A L.length cap L l base (Lt w7) w7 HS7.out.lT HI7.out (fun b hb => hb) hl).mono ?_
        rintro e w8 ⟨A1, c1, y, rfl, hn1, hn2, hi8, hb8⟩
        have HN1 := Lib.hid hn1
        have HN2 := Lib.hid hn2
        have HS8 := Lib.hid (HS7.out.keep hb8)
        have HX8 := Lib.hid (HX7.out.keep hb8)
        have HI8 := Lib.hid (ints_lt HI7.out hb8)
        have HY8 := Lib.hid (show Ints w8 (Lt w8) A1 y from hi8.more (fun b hb => hb.2))
        have hyl : y.length ≤ 17592186044416 := close_len (by omega) hn1 hn2
        clear hn1 hn2 hb8 hi8 HS7 HX7 HI7
        go_wp2_with fail
        refine (rclose_any (some ⟨H, 0, none⟩) A L.length cap L l base (Lt w8) w8 HS8.out.lT HS8.out.capsOk HI8.out (fun b hb => hb) hl (Nat.le_refl _)).mono ?_
        rintro e w9 ⟨A2, c2, y2, rfl, hm1, hm2, hi9, hb9⟩
        obtain rfl : y = y2 := close_eq HN1.out HN2.out hm1 hm2
        have HS9 := Lib.hid (HS8.out.keep hb9)
        have HX9 := Lib.hid (HX8.out.keep hb9)
        have HY9 := Lib.hid (ints_lt HY8.out hb9)
        have HZ9 := Lib.hid (show Ints w9 (Lt w9) A2 y from hi9.more (fun b hb => hb.2))
        clear hm1 hm2 hb9 hi9 HS8 HX8 HI8 HN1 HN2 HY8
        generalize cutErr base L l = er
        go_wp2_with fail
        refine (equal_any A1 A2 c1 c2 y y (Lt w9) w9 HY9.out HZ9.out (by omega) (by omega)).mono ?_
        rintro e w10 ⟨rfl, kq, rfl⟩
        rw [decide_eq_true (rfl : y = y)]
        have hbq : Below w9.heap.size w9 (w9.drewN kq) := below_drewN (Below.refl _ _) kq
        have HS10 := Lib.hid (HS9.out.keep hbq)
        have HX10 := Lib.hid (HX9.out.keep hbq)
        clear hbq
        go_wp2_with fail
        go_roundw
        case rel => exact ⟨k + 1, by omega, by go_num, HX10.out, HS10.out⟩
        case measure => simp [intOf]; omega
      · have HB5 := Lib.hid HST.out.bel
        have hz5 := HB5.out.size
        clear HXS HST
        go_wp2_with fail
        refine (closed_any AR AA cr ca LR la rb (Lt w) wr (HLR.out.keep (Same.of_below HB5.out (fun b h => h))) (HAA.out.keep (Same.of_below HB5.out (fun b h => h))) (fun b hb => Nat.lt_of_lt_of_le hb hz5) hla).mono ?_
        rintro e w6 ⟨p, rfl, hn1, hn2, hb6⟩
        have HN1 := Lib.hid hn1
        have HN2 := Lib.hid hn2
        have HB6 := Lib.hid (HB5.out.trans (hb6.mono hz5))
        have hz6 := HB6.out.size
        clear hn1 hn2 hb6 HB5
        go_wp2_with fail
        refine (rclosed_any AR AA cr ca LR la rb (Lt w) w6 (HLR.out.keep (Same.of_below HB6.out (fun b h => h))) (HCP.out.keep HLR.out (Same.of_below HB6.out (fun b h => h))) (HAA.out.keep (Same.of_below HB6.out (fun b h => h))) (fun b hb => Nat.lt_of_lt_of_le hb hz6) hla hcr).mono ?_
        rintro e w7 ⟨p2, rfl, hm1, hm2, hb7⟩
        obtain rfl : p = p2 := closed_eq HN1.out HN2.out hm1 hm2
        have HB7 := Lib.hid (HB6.out.trans (hb7.mono hz6))
        have hz7 := HB7.out.size
        clear hm1 hm2 hb7 HB6 HN1 HN2
        go_wp2_with fail
        refine (close_any AR AA cr ca LR la rb (Lt w) w7 (HLR.out.keep (Same.of_below HB7.out (fun b h => h))) (HAA.out.keep (Same.of_below HB7.out (fun b h => h))) (fun b hb => Nat.lt_of_lt_of_le hb hz7) hla).mono ?_
        rintro e w8 ⟨A1, c1, y, rfl, hn1, hn2, hi8, hb8⟩
        have HN1 := Lib.hid hn1
        have HN2 := Lib.hid hn2
        have HB8 := Lib.hid (HB7.out.trans (hb8.mono hz7))
        have hz8 := HB8.out.size
        have HY8 := Lib.hid (show Ints w8 (Lt w8) A1 y from hi8.more (fun b hb => hb.2))
        have hyl : y.length ≤ 17592186044416 := close_len hLRl hn1 hn2
        clear hn1 hn2 hb8 hi8 HB7
        go_wp2_with fail
        refine (rclose_any AR AA cr ca LR la rb (Lt w) w8 (HLR.out.keep (Same.of_below HB8.out (fun b h => h))) (HCP.out.keep HLR.out (Same.of_below HB8.out (fun b h => h))) (HAA.out.keep (Same.of_below HB8.out (fun b h => h))) (fun b hb => Nat.lt_of_lt_of_le hb hz8) hla hcr).mono ?_
        rintro e w9 ⟨A2, c2, y2, rfl, hm1, hm2, hi9, hb9⟩
        obtain rfl : y = y2 := close_eq HN1.out HN2.out hm1 hm2
        have HB9 := Lib.hid (HB8.out.trans (hb9.mono hz8))
        have HY9 := Lib.hid (ints_lt HY8.out hb9)
        have HZ9 := Lib.hid (show Ints w9 (Lt w9) A2 y from hi9.more (fun b hb => hb.2))
        clear hm1 hm2 hb9 hi9 HB8 HN1 HN2 HY8
        generalize cutErr rb LR la = er
        go_wp2_with fail
        refine (equal_any A1 A2 c1 c2 y y (Lt w9) w9 HY9.out HZ9.out (by omega) (by omega)).mono ?_
        rintro e w10 ⟨rfl, kq, rfl⟩
        rw [decide_eq_true (rfl : y = y)]
        have HB10 := Lib.hid (below_drewN HB9.out kq)
        go_wp2_with fail
        refine (begun_any _).mono ?_
        rintro e w12 ⟨rfl, hb12⟩
        have HB12 := Lib.hid (HB10.out.trans (hb12.mono HB10.out.size))
        clear hb12
        go_wp2_with fail
        go_ret
        exact ⟨rfl, HB12.out⟩
end Go.Proofs.Ytjpknhhdkjhjfaa
