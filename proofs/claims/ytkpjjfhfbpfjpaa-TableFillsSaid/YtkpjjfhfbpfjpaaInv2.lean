/- Contract: table.Invert. Printed by inv2.py. -/
import Derived.Test.YtkpjjfhfbpfjpaaInv
namespace Go.Proofs.Ytkpjjfhfbpfjpaa
open Go.RowKit Go.Shelf
set_option linter.unusedVariables false
set_option linter.unusedSimpArgs false
attribute [local go_sem] Oper.semAt_some

theorem run_make_chg (n : Nat) (hn : n ≤ 2513169434916) (w : World) : ∃ cs : Array Value, (Instr.makeSlice 48 (.int .i64 0) (.int .i64 (n : Int))).run Try.prog w = .ok (.slice (some ⟨w.heap.size, 0, none⟩) 0 n) (w.alloc (.cells cs 53)) ∧ cs.size = n * 3 := by
  obtain ⟨i0, hi, hz0, hz1, hz2⟩ := info_parts infoC
  have hr := run_make (P := Try.prog) w 48 53 i0 _ Try.underlying48 hi hz0 .i64 .i64 0 n (by omega) (by omega) (by rw [hz2]; omega) (by omega)
  refine ⟨_, hr, ?_⟩
  rw [hz1]
  simp [size_madeCells]
def NewCs (l : List Chg) (w : World) (e : Ending) (w' : World) : Prop := ∃ A c, e = .returned (.slice A l.length c) ∧ l.length ≤ c ∧ ChgS w' (New w w') A l ∧ Below w.heap.size w w'

set_option maxRecDepth 100000 in
set_option maxHeartbeats 2000000 in
theorem invert_any (A : Option Addr) (ca : Nat) (l : List Chg) (S : Nat → Prop) (w : World) (hl : ChgS w S A l) (hS : ∀ b, S b → b < w.heap.size) :
    Calls Try.prog 24 #[.slice A l.length ca] w (NewCs (invF l) w) := by
  have hll := hl.len
  have HL := Lib.hid hl
  obtain ⟨i0, hi, hz0, hz1, hz2⟩ := info_parts infoC
  obtain ⟨b0, o0, hA⟩ : ∃ b0 o0, 0 < l.length → A = some ⟨b0, o0, none⟩ ∧ S b0 := by
    rcases Nat.eq_zero_or_pos l.length with h | h
    · exact ⟨0, 0, fun h' => by omega⟩
    · obtain ⟨b, o, e, hb, _⟩ := hl.2 (by simpa using h)
      exact ⟨b, o, fun _ => ⟨e, hb⟩⟩
  obtain ⟨f0, hf0⟩ : ∃ f0 : Nat → Value, ∀ k, f0 k = (w.cell? ⟨b0, o0 + k * 3, none⟩).getD undef := ⟨_, fun _ => rfl⟩
  obtain ⟨f1, hf1⟩ : ∃ f1 : Nat → Value, ∀ k, f1 k = (w.cell? ⟨b0, o0 + k * 3 + 1, none⟩).getD undef := ⟨_, fun _ => rfl⟩
  obtain ⟨f2, hf2⟩ : ∃ f2 : Nat → Value, ∀ k, f2 k = (w.cell? ⟨b0, o0 + k * 3 + 2, none⟩).getD undef := ⟨_, fun _ => rfl⟩
  have HE := Lib.hid (show ∀ k, k < l.length → ∃ A1 c1 A2 c2, w.cell? ⟨b0, o0 + k * 3, none⟩ = some (f0 k) ∧ w.cell? ⟨b0, o0 + k * 3 + 1, none⟩ = some (f1 k) ∧ w.cell? ⟨b0, o0 + k * 3 + 2, none⟩ = some (f2 k) ∧ f0 k = .int .i64 (l.getD k chg0).table ∧ f1 k = .slice A1 (l.getD k chg0).old.length c1 ∧ f2 k = .slice A2 (l.getD k chg0).new.length c2 ∧ ChV w S (l.getD k chg0) A1 c1 A2 c2 from fun k hk => by
    obtain ⟨b, o, e, hb, d0, A1, c1, A2, c2, d1, e1, hR1, d2, e2, hR2⟩ := hl.at_ hk
    rw [(hA (by omega)).1] at e
    injection e with e
    injection e with ea eb
    subst ea eb
    exact ⟨A1, c1, A2, c2, by rw [hf0, d0]; rfl, by rw [hf1, d1]; rfl, by rw [hf2, d2]; rfl, by rw [hf0, d0]; rfl, by rw [hf1, d1]; rfl, by rw [hf2, d2]; rfl, hR1, e1, hR2, e2⟩)
  have HA := Lib.hid hA
  clear hf0 hf1 hf2 hA hl
  obtain ⟨cs, hmk, hcs⟩ := run_make_chg l.length hll w
  have HCS := Lib.hid hcs
  clear hcs
  refine (callsIn_wide (n := 3)).1 ?_
  refine callsIn_of_wp_marks Try.func24 rfl trivial ?_ rfl
  simp only [Try.ntmps24, List.size_toArray, List.length_cons, List.length_nil, Nat.reduceAdd, Nat.reduceSub, Array.replicate_succ, Array.replicate_zero, List.push_toArray, List.append_toArray, List.nil_append, List.cons_append]
  gi_wp2_with (refine ⟨trivial, ?_⟩; gi_at_call 65; refine (back_in Fence.wide _ trivial rfl _ _ _ _).mono ?_; rintro e w' ⟨rfl, rfl⟩)
  obtain ⟨W0, hW0⟩ : ∃ W0, ((w.alloc (.cells cs 53)).alloc (.cells #[.slice (some ⟨w.heap.size, 0, none⟩) 0 l.length] 48)).alloc (.cells #[.slice A l.length ca] 48) = W0 := ⟨_, rfl⟩
  have hsz0 : W0.heap.size = w.heap.size + 3 := by rw [← hW0]; simp
  have hB0 : Below w.heap.size w W0 := by rw [← hW0]; exact (((Below.refl _ w).alloc (Nat.le_refl _) _).alloc (by simp) _).alloc (by simp; omega) _
  have hbx0 : Boxed W0 (w.heap.size + 1) 48 (.slice (some ⟨w.heap.size, 0, none⟩) 0 l.length) := by
    rw [← hW0]
    have h := Boxed.new (w.alloc (.cells cs 53)) 48 (.slice (some ⟨w.heap.size, 0, none⟩) 0 l.length)
    rw [World.size_alloc] at h
    exact h.alloc _
  have hbs0 : W0.cell? ⟨w.heap.size + 2, 0, none⟩ = some (.slice A l.length ca) := by rw [← hW0]; exact cell_new (by simp) rfl
  have hI0 : InvI w (w.heap.size + 1) l [] W0 := by
    refine ⟨some ⟨w.heap.size, 0, none⟩, l.length, fun _ => False, hbx0, ⟨[], ⟨rfl, .inr ⟨w.heap.size, l.length, cs, rfl, Nat.le_refl _, ?_, Nat.zero_le _, by unfold maxLen; omega, HCS.out, by simp⟩⟩, by simp only [List.map_nil]; unfold Dat.ValsAll; rfl, fun b h => h.elim⟩, fun b h => h.elim, hB0, by omega, fun g hg => by have h9 : w.heap.size = g := (by simpa [Value.ownBlock] using hg); omega⟩
    rw [← hW0]
    exact (Below.heap_alloc _ _ _ (by simp; omega)).trans ((Below.heap_alloc _ _ _ (by simp)).trans (heap_alloc_new w _))
  rw [hW0]
  clear hmk
  refine wpIn_rangeFunc_ownH rfl (by omega) (gf := 101) (lb := #[.pointer (some ⟨w.heap.size + 2, 0, none⟩)]) rfl trivial (enters_of Try.func101 (by kernel_rfl) rfl)
    (back_stops Fence.wide (3 - 1) trivial rfl (by omega) (w.heap.size + 2) w.heap.size A l.length ca f0 f1 f2 hll W0 (by omega) (by omega) hbs0 (fun h0 => ⟨b0, o0, (HA.out h0).1, hS b0 (HA.out h0).2, fun j hj => by
      obtain ⟨_, _, _, _, h1, h2, h3, _⟩ := HE.out j hj
      have hk : ∀ o, W0.cell? ⟨b0, o, none⟩ = w.cell? ⟨b0, o, none⟩ := fun o => hB0.cell (p := ⟨b0, o, none⟩) (hS b0 (HA.out h0).2)
      rw [hk, hk, hk]
      exact ⟨h1, h2, h3⟩⟩))
    BK.trans (BK.put (by omega) (by omega)) (Below.refl _ _) (fun _ => rfl)
    (InvI w (w.heap.size + 1) l) (fun _ _ _ => False) (invI_own _ _ _ _ (by omega)) (fun _ _ _ _ _ hs _ _ => hs) hI0
    (fun x a' W => ∃ Bx, w.heap.size + 2 < Bx ∧ W.heap[Bx]? = some (.cells #[f0 x.1, f1 x.1, f2 x.1] 53 (0, 0)) ∧ (∃ v, Boxed W (w.heap.size + 1) 48 v ∧ v.ownBlock ≠ some Bx) ∧ a' = { tmps := #[.slice A l.length ca, undef, .slice none 0 0, .pointer (some ⟨w.heap.size + 1, 0, none⟩), undef, .pointer (some ⟨Bx, 0, none⟩), .slice A l.length ca, .int .i64 l.length, .slice (some ⟨w.heap.size, 0, none⟩) 0 l.length, .slice A l.length ca, .func (.func 101) #[] #[.pointer (some ⟨w.heap.size + 2, 0, none⟩)], .int .i64 x.1, .agg #[f0 x.1, f1 x.1, f2 x.1], undef, undef, undef, undef, undef, undef, undef, undef, undef, undef, undef, undef, undef], defers := [] }) ?hAx ?assign ?body ?done ?stop
  case hAx =>
    rintro x a' _ W W' row ⟨Bx, h1, h2, ⟨v, h4, h5⟩, h3⟩ hg hr
    have hne : ∀ b cs t fr, W.heap[b]? = some (.cells cs t fr) → some b ≠ row := fun b cs t fr hb e => by
      obtain ⟨_, o, ho, hc⟩ := hr b e.symm
      rw [hb] at ho
      injection ho with ho
      subst ho
      cases hc
    exact ⟨Bx, h1, (hg.block Bx (lt_of_heap h2) (hne _ _ _ _ h2)).trans h2, ⟨v, h4.kept hg (hne _ _ _ _ h4), h5⟩, h3⟩
  case assign =>
    intro l' pre x W K hi' hK
    obtain ⟨A1, c1, A2, c2, _, _, _, e0, e1, e2, _⟩ := HE.out x.1 x.2
    rw [e0, e1, e2] at hK ⊢
    have hsW : w.heap.size + 3 ≤ W.heap.size := by obtain ⟨_, _, _, _, _, _, _, h5, _⟩ := hi'; omega
    gi_wp2
    exact hK _ _ ((KeepsOthers.alloc _ _).from _) ⟨(Below.refl _ W).alloc (by omega) _, Below.heap_alloc W _ _ (by omega)⟩ ((invI_own w _ _ l (Nat.le_refl _)).alloc _ hi') ⟨W.heap.size, by omega, heap_alloc_new W _, by
      obtain ⟨Av, cv, T, g1, ⟨_, g2, _⟩, _⟩ := hi'
      refine ⟨_, g1.alloc _, fun e => ?_⟩
      have := own_lt g2 e
      omega, rfl⟩
  case body =>
    rintro l' pre x a' W hl' hrr ⟨Av, cv, T, hbox, hownd, hT, hbel, hsW, hnB⟩ ⟨Bx, hBx, hX, ⟨vv, hvv1, hvv2⟩, rfl⟩ hlt
    obtain ⟨A1, c1, A2, c2, _, _, _, e0, e1, e2, hcv⟩ := HE.out x.1 x.2
    have HV := Lib.hid (hcv.keep (Same.of_below hbel hS))
    have HXC := Lib.hid (show invC (l.getD x.1 chg0) = ⟨(l.getD x.1 chg0).table, (l.getD x.1 chg0).new, (l.getD x.1 chg0).old⟩ from rfl)
    have hn1 := hcv.r1.len'
    have hn2 := hcv.r2.len'
    rw [e0, e1, e2] at hX ⊢
    clear hcv e0 e1 e2
    obtain ⟨ch, hch⟩ : ∃ ch, l.getD x.1 chg0 = ch := ⟨_, rfl⟩
    rw [hch] at HV HXC hn1 hn2 hX ⊢
    have HCH := Lib.hid hch
    clear hch
    obtain ⟨t, old, new⟩ := ch
    simp only at HXC hn1 hn2 hX
    have u0 := hbox.cell
    have u1 := hbox.frozen
    have u2 : W.cell? ⟨Bx, 0, none⟩ = some (.int .i64 t) := by simp [World.cell?, hX]
    have u3 : W.cell? ⟨Bx, 1, none⟩ = some (.slice A1 old.length c1) := by simp [World.cell?, hX]
    have u4 : W.cell? ⟨Bx, 2, none⟩ = some (.slice A2 new.length c2) := by simp [World.cell?, hX]
    have hb1l : w.heap.size + 1 < W.heap.size := hbox.lt
    have hbxl : Bx < W.heap.size := lt_of_heap hX
    have hSW : ∀ b, S b → b < W.heap.size := fun b hb => by have := hS b hb; omega
    obtain ⟨vals, hown, hvals, hvo⟩ := hownd
    rw [List.length_map, List.length_map] at hown
    have hpl : pre.length ≤ 2513169434916 := by omega
    have HBX := Lib.hid hbox
    have HOWN := Lib.hid hown
    have HVALS := Lib.hid hvals
    have HT := Lib.hid hT
    have HVO := Lib.hid (fun b hb => (hvo b hb).2)
    have HBEL := Lib.hid hbel
    have HNB := Lib.hid hnB
    have HNV1 := Lib.hid (show some (w.heap.size + 1) ≠ (Value.slice Av pre.length cv).ownBlock from hbox.not_row (by decide) hown)
    have HNV2 := Lib.hid (show some Bx ≠ (Value.slice Av pre.length cv).ownBlock from fun e => by
      have := hvv1.symm.trans hbox
      injection this with this
      injection this with this
      have e9 : vv = .slice Av pre.length cv := by simpa using this
      rw [e9] at hvv2
      exact hvv2 e.symm)
    have HOWN6 := Lib.hid (show ∀ wa, Below W.heap.size W wa → ∀ wb, Below wa.heap.size wa wb → ∀ o, (wb.alloc o).ownsRow w.heap.size 53 3 (.slice Av pre.length cv) pre.length vals from fun wa hba wb hbb o => ownsRow_keep hown (fun g hg => (Below.heap_alloc wb o g (by have := own_lt hown hg; have := hba.size; have := hbb.size; omega)).trans ((hbb.block g (by have := own_lt hown hg; have := hba.size; omega)).trans (hba.block g (own_lt hown hg)))))
    clear hbox hown hvals hvo hT hbel hnB hX hvv1 hvv2
    gi_wp2
    refine hideQIn (by rintro ⟨_, _, h⟩; exact h) (fun c a d v w h => h) (fun Q' HQ HP HLO => ?_)
    refine regionR_until (fun w' => w'.cell? ⟨w.heap.size + 1, 0, none⟩ = some (.slice Av pre.length cv) ∧ w'.frozen? ⟨w.heap.size + 1, 0, none⟩ = false ∧ w'.cell? ⟨Bx, 0, none⟩ = some (.int .i64 t) ∧ w'.cell? ⟨Bx, 1, none⟩ = some (.slice A1 old.length c1) ∧ w'.cell? ⟨Bx, 2, none⟩ = some (.slice A2 new.length c2)) 12 13 #[false, false, false, false, false, false, false, false, false, false, false, false, false] (by kernel_rfl) (by kernel_rfl) (by kernel_rfl) (by kernel_rfl) HLO.out ?_
    refine anyT_take (i := 0) (oi := ⟨some 13, _, _, _, _, _⟩) (v := ?_) (L' := #[true, false, false, false, false, false, false, false, false, false, false, false, false]) rfl rfl (by kernel_rfl) (by kernel_rfl) (by kernel_rfl) (by kernel_rfl) (by kernel_rfl) HP.out (Or.inl ⟨by rfl, ?_⟩) ⟨u0, u1, u2, u3, u4⟩ ?_
    rotate_left
    · intro w' hSw
      (try dsimp only at hSw)
      go_simp
      (try with_reducible rfl)
    simp only [List.setIfInBounds_toArray, List.set_cons_zero, List.set_cons_succ]
    refine anyT_take (i := 1) (oi := ⟨some 14, _, _, _, _, _⟩) (v := ?_) (L' := #[true, true, false, false, false, false, false, false, false, false, false, false, false]) rfl rfl (by kernel_rfl) (by kernel_rfl) (by kernel_rfl) (by kernel_rfl) (by kernel_rfl) HP.out (Or.inl ⟨by rfl, ?_⟩) ⟨u0, u1, u2, u3, u4⟩ ?_
    rotate_left
    · intro w' hSw
      (try dsimp only at hSw)
      go_simp
      (try with_reducible rfl)
    simp only [List.setIfInBounds_toArray, List.set_cons_zero, List.set_cons_succ]
    refine anyT_take (i := 2) (oi := ⟨some 15, _, _, _, _, _⟩) (v := ?_) (L' := #[true, true, true, false, false, false, false, false, false, false, false, false, false]) rfl rfl (by kernel_rfl) (by kernel_rfl) (by kernel_rfl) (by kernel_rfl) (by kernel_rfl) HP.out (Or.inl ⟨by rfl, ?_⟩) ⟨u0, u1, u2, u3, u4⟩ ?_
    rotate_left
    · intro w' hSw
      (try dsimp only at hSw)
      go_simp
      (try with_reducible rfl)
    simp only [List.setIfInBounds_toArray, List.set_cons_zero, List.set_cons_succ]
    refine anyT_take (i := 3) (oi := ⟨some 16, _, _, _, _, _⟩) (v := ?_) (L' := #[true, true, true, true, false, false, false, false, false, false, false, false, false]) rfl rfl (by kernel_rfl) (by kernel_rfl) (by kernel_rfl) (by kernel_rfl) (by kernel_rfl) HP.out (Or.inl ⟨by rfl, ?_⟩) ⟨u0, u1, u2, u3, u4⟩ ?_
    rotate_left
    · intro w' hSw
      (try dsimp only at hSw)
      go_simp
      (try with_reducible rfl)
    simp only [List.setIfInBounds_toArray, List.set_cons_zero, List.set_cons_succ]
    refine anyT_take (i := 4) (oi := ⟨some 17, _, _, _, _, _⟩) (v := ?_) (L' := #[true, true, true, true, true, false, false, false, false, false, false, false, false]) rfl rfl (by kernel_rfl) (by kernel_rfl) (by kernel_rfl) (by kernel_rfl) (by kernel_rfl) HP.out (Or.inl ⟨by rfl, ?_⟩) ⟨u0, u1, u2, u3, u4⟩ ?_
    rotate_left
    · intro w' hSw
      (try dsimp only at hSw)
      go_simp
      (try with_reducible rfl)
    simp only [List.setIfInBounds_toArray, List.set_cons_zero, List.set_cons_succ]
    refine anyT_take (i := 6) (oi := ⟨some 19, _, _, _, _, _⟩) (v := ?_) (L' := #[true, true, true, true, true, false, true, false, false, false, false, false, false]) rfl rfl (by kernel_rfl) (by kernel_rfl) (by kernel_rfl) (by kernel_rfl) (by kernel_rfl) HP.out (Or.inl ⟨by rfl, ?_⟩) ⟨u0, u1, u2, u3, u4⟩ ?_
    rotate_left
    · intro w' hSw
      (try dsimp only at hSw)
      go_simp
      (try with_reducible rfl)
    simp only [List.setIfInBounds_toArray, List.set_cons_zero, List.set_cons_succ]
    refine anyT_take (i := 7) (oi := ⟨some 20, _, _, _, _, _⟩) (v := ?_) (L' := #[true, true, true, true, true, false, true, true, false, false, false, false, false]) rfl rfl (by kernel_rfl) (by kernel_rfl) (by kernel_rfl) (by kernel_rfl) (by kernel_rfl) HP.out (Or.inl ⟨by rfl, ?_⟩) ⟨u0, u1, u2, u3, u4⟩ ?_
    rotate_left
    · intro w' hSw
      (try dsimp only at hSw)
      go_simp
      (try with_reducible rfl)
    simp only [List.setIfInBounds_toArray, List.set_cons_zero, List.set_cons_succ]
    refine anyT_one (i := 5) (o := ⟨some 18, _, _, _, _, _⟩) (L' := #[true, true, true, true, true, true, true, true, false, false, false, false, false]) rfl (by kernel_rfl) (by kernel_rfl) (fun K hK => ?_)
    have HK := Lib.hid hK
    clear hK
    go_simp
    refine (clone_any A2 c2 new S _ (by exact HV.out.r2.keep (fun _ _ => rfl))).mono ?_
    rintro e wa ⟨AR, cr, rfl, howna, hba⟩
    have hba' : Below W.heap.size W wa := (by first | exact (Below.refl _ W).drew.trans hba | exact hba)
    have hzwa : W.heap.size ≤ wa.heap.size := hba'.size
    have p0 := (hba'.cell (p := ⟨w.heap.size + 1, 0, none⟩) (by simp; omega)).trans u0
    have p1 := (hba'.frozen (p := ⟨w.heap.size + 1, 0, none⟩) (by simp; omega)).trans u1
    have p2 := (hba'.cell (p := ⟨Bx, 0, none⟩) (by simp; omega)).trans u2
    have p3 := (hba'.cell (p := ⟨Bx, 1, none⟩) (by simp; omega)).trans u3
    have p4 := (hba'.cell (p := ⟨Bx, 2, none⟩) (by simp; omega)).trans u4
    refine HK.out _ _ (fun _ => ⟨p0, p1, p2, p3, p4⟩) ?_
    clear HK K
    try simp only [Act.put, List.setIfInBounds_toArray, List.set_cons_zero, List.set_cons_succ]
    refine anyT_one (i := 8) (o := ⟨some 21, _, _, _, _, _⟩) (L' := #[true, true, true, true, true, true, true, true, true, false, false, false, false]) rfl (by kernel_rfl) (by kernel_rfl) (fun K hK => ?_)
    have HK := Lib.hid hK
    clear hK
    go_simp
    refine (clone_any A1 c1 old S _ (by exact HV.out.r1.keep (fun b hb => hba'.block b (hSW b hb)))).mono ?_
    rintro e wb ⟨BR, dr, rfl, hownb, hbb⟩
    have hbb' : Below wa.heap.size wa wb := (by first | exact (Below.refl _ wa).drew.trans hbb | exact hbb)
    have hzwb : wa.heap.size ≤ wb.heap.size := hbb'.size
    have q0 := (hbb'.cell (p := ⟨w.heap.size + 1, 0, none⟩) (by simp; omega)).trans p0
    have q1 := (hbb'.frozen (p := ⟨w.heap.size + 1, 0, none⟩) (by simp; omega)).trans p1
    have q2 := (hbb'.cell (p := ⟨Bx, 0, none⟩) (by simp; omega)).trans p2
    have q3 := (hbb'.cell (p := ⟨Bx, 1, none⟩) (by simp; omega)).trans p3
    have q4 := (hbb'.cell (p := ⟨Bx, 2, none⟩) (by simp; omega)).trans p4
    refine HK.out _ _ (fun _ => ⟨q0, q1, q2, q3, q4⟩) ?_
    clear HK K
    try simp only [Act.put, List.setIfInBounds_toArray, List.set_cons_zero, List.set_cons_succ]
    refine anyT_take (i := 9) (oi := ⟨some 22, _, _, _, _, _⟩) (v := ?_) (L' := #[true, true, true, true, true, true, true, true, true, true, false, false, false]) rfl rfl (by kernel_rfl) (by kernel_rfl) (by kernel_rfl) (by kernel_rfl) (by kernel_rfl) HP.out (Or.inl ⟨by rfl, ?_⟩) ⟨q0, q1, q2, q3, q4⟩ ?_
    rotate_left
    · intro w' hSw
      (try dsimp only at hSw)
      go_simp
      (try with_reducible rfl)
    simp only [List.setIfInBounds_toArray, List.set_cons_zero, List.set_cons_succ]
    refine anyT_one (i := 10) (o := ⟨some 23, _, _, _, _, _⟩) (L' := #[true, true, true, true, true, true, true, true, true, true, true, false, false]) rfl (by kernel_rfl) (by kernel_rfl) (fun K hK => ?_)
    have HK := Lib.hid hK
    clear hK
    go_simp
    have r0 : (wb.alloc (.cells #[.int .i64 t, .slice AR new.length cr, .slice BR old.length dr] 53)).cell? ⟨w.heap.size + 1, 0, none⟩ = _ := (cell_old (by omega)).trans q0
    have r1 : (wb.alloc (.cells #[.int .i64 t, .slice AR new.length cr, .slice BR old.length dr] 53)).frozen? ⟨w.heap.size + 1, 0, none⟩ = _ := (frozen_old (by omega)).trans q1
    have r2 : (wb.alloc (.cells #[.int .i64 t, .slice AR new.length cr, .slice BR old.length dr] 53)).cell? ⟨Bx, 0, none⟩ = _ := (cell_old (by omega)).trans q2
    have r3 : (wb.alloc (.cells #[.int .i64 t, .slice AR new.length cr, .slice BR old.length dr] 53)).cell? ⟨Bx, 1, none⟩ = _ := (cell_old (by omega)).trans q3
    have r4 : (wb.alloc (.cells #[.int .i64 t, .slice AR new.length cr, .slice BR old.length dr] 53)).cell? ⟨Bx, 2, none⟩ = _ := (cell_old (by omega)).trans q4
    refine HK.out _ _ (fun _ => ⟨r0, r1, r2, r3, r4⟩) ?_
    clear HK K
    try simp only [Act.put, List.setIfInBounds_toArray, List.set_cons_zero, List.set_cons_succ]
    refine anyT_one (i := 11) (o := ⟨some 24, _, _, _, _, _⟩) (L' := #[true, true, true, true, true, true, true, true, true, true, true, true, false]) rfl (by kernel_rfl) (by kernel_rfl) (fun K hK => ?_)
    refine step_append_lies _ (by rfl) (.tmp 13) (.tmp 23) _ (by rfl) w.heap.size 53 i0 _ 3 56 Try.underlying48 hi hz0 hz1 hz2 rfl (by decide) (.slice Av pre.length cv) pre.length vals (by rfl) (by exact HOWN6.out wa hba' wb hbb' _) ⟨wb.heap.size, 0, none⟩ 1 1 [.int .i64 t, .slice AR new.length cr, .slice BR old.length dr] (by rfl) (by rfl) (World.news_of_block (cs := #[.int .i64 t, .slice AR new.length cr, .slice BR old.length dr]) (t := 53) (fr := (0, 0)) (heap_alloc_new wb _)) (by simp [Value.oneCell']) (by omega) (by unfold maxLen; omega) (by omega) (by simp; omega) (wb.heap.size + 1) (by simp) ?_
    intro g7 c7 w7 hown7 hgr7 hat7 hlt7
    have m0 := (hgr7.cell_far ⟨w.heap.size + 1, 0, none⟩ (by simp; omega) HNV1.out).trans r0
    have m1 := (hgr7.frozen_far ⟨w.heap.size + 1, 0, none⟩ (by simp; omega) HNV1.out).trans r1
    have m2 := (hgr7.cell_far ⟨Bx, 0, none⟩ (by simp; omega) HNV2.out).trans r2
    have m3 := (hgr7.cell_far ⟨Bx, 1, none⟩ (by simp; omega) HNV2.out).trans r3
    have m4 := (hgr7.cell_far ⟨Bx, 2, none⟩ (by simp; omega) HNV2.out).trans r4
    have HO7 := Lib.hid hown7
    have HG7 := Lib.hid hgr7
    have HAT7 := Lib.hid hat7
    clear hown7 hgr7 hat7
    refine hK _ _ (fun _ => ⟨m0, m1, m2, m3, m4⟩) ?_
    clear hK K
    try simp only [Act.put, List.setIfInBounds_toArray, List.set_cons_zero, List.set_cons_succ]
    refine anyT_one (i := 12) (o := ⟨none, _, _, _, _, _⟩) (L' := #[true, true, true, true, true, true, true, true, true, true, true, true, true]) rfl (by kernel_rfl) (by kernel_rfl) (fun K hK => ?_)
    have HK := Lib.hid hK
    clear hK
    go_simp
    refine HK.out _ _ (fun h => absurd rfl h) ?_
    clear HK K
    refine anyU_done (by kernel_rfl) ?_
    rw [HQ.out]
    clear HLO HQ HP Q'
    obtain ⟨T', h1, h2, h3, h4, h5, h6⟩ := inv_push (L := pre.map (fun x => invC (l.getD x.1 chg0))) (t := t) (by omega) HBX.out (by simp) HOWN.out HVALS.out HT.out HVO.out HBEL.out hba' howna HV.out.r2.ok hbb' hownb HV.out.r1.ok _ HG7.out HAT7.out HO7.out
    have hle : (pre ++ [x]).length = pre.length + 1 := by simp
    have hmap : ((pre ++ [x]).map (fun x => invC (l.getD x.1 chg0))) = pre.map (fun x => invC (l.getD x.1 chg0)) ++ [⟨t, new, old⟩] := by rw [List.map_append, ← HXC.out, ← HCH.out]; rfl
    refine ⟨⟨by simpa using h6, fun k o hk ho hc => (h5 k (lt_of_heap ho) (by omega) (fun e => ?_)).trans ho⟩, ⟨⟨h4.os.trans HBEL.out.os.symm, h4.tape.trans HBEL.out.tape.symm, h4.output.trans HBEL.out.output.symm, by simpa using h6, fun b hb => (h4.block b hb).trans (HBEL.out.block b hb).symm⟩, h5 _ (by omega) (by omega) (fun e => HNB.out _ e.symm rfl)⟩, ?_⟩
    · obtain ⟨cs', t', fr', hcc⟩ := own_isC HOWN.out e.symm
      rw [hcc] at ho
      injection ho with ho
      subst ho
      cases hc
    · refine ⟨some ⟨g7, 0, none⟩, c7, T', ?_, ?_, h3, h4, by simp; omega, fun g hg => ?_⟩
      · rw [hle]; exact h1
      · rw [hle, hmap]; exact h2
      · have hg' : g7 = g := by simpa [Value.ownBlock] using hg
        rcases HAT7.out with h | h
        · exact fun e => HNB.out _ h (by omega)
        · omega
  case done =>
    rintro D ys W hD rfl ⟨Av, cv, T, hbox, hownd, hT, hbel, hsW, hnB⟩ hK
    have u0 := hbox.cell
    rw [dn_map] at hownd
    rw [dn_length (Nat.le_refl _)] at u0 hownd
    gi_wp2
    refine ⟨by simp, .inl ⟨_, _, rfl, run_takeDeferred hK, ?_⟩⟩
    have hkp : ∀ b, IsC W b → (W.putObj D (.deferred none)).heap[b]? = W.heap[b]? := fun b hb => (grownBy_putObj' W D (.deferred none)).block b hb.lt (fun e => by
      obtain ⟨cs', t', fr', hcc⟩ := hb
      injection e with e
      subst e
      rw [hK] at hcc
      cases hcc)
    have hO : OwnD (W.putObj D (.deferred none)) w.heap.size 53 3 T (.slice Av l.length cv) ((invF l).map encChg) := hownd.keep (by simp) (fun b hb => hkp b (hT b hb).2.2) (fun g hg => by obtain ⟨_, q, _⟩ := hownd; exact hkp g (own_isC q hg))
    have hbl : Below w.heap.size w (W.putObj D (.deferred none)) := hbel.trans ⟨rfl, rfl, rfl, by simp, fun b hb => (grownBy_putObj' W D (.deferred none)).block b (by have := hbel.size; omega) (fun e => by injection e with e; omega)⟩
    have hfl : (invF l).length = l.length := by simp [invF]
    obtain ⟨q1, q2, q3⟩ := hO.slice (S' := New w (W.putObj D (.deferred none))) (by rw [bytesAll_map (n := 56) (fun _ => rfl), hfl]; omega) (fun b hb => ⟨(hT b hb).1, by have := (hT b hb).2.2.lt; simp; omega⟩) (fun g h1 h2 _ => ⟨h1, h2⟩)
    refine ⟨_, results_tmp rfl _ _ _, Av, cv, ?_, by rw [hfl]; exact q2, q3, hbl⟩
    rw [hfl]
    rfl
  case stop =>
    rintro D c pre W _ _ h _
    exact h.elim
end Go.Proofs.Ytkpjjfhfbpfjpaa
