/- Contracts: the closures of table.Net. -/
import Derived.Test.YtkpjjfhfbpfjpaaAp
import Derived.Test.YtkpjjfhfbpfjpaaNetP
namespace Go.Proofs.Ytkpjjfhfbpfjpaa
open Go.RowKit
set_option linter.unusedVariables false
set_option linter.unusedSimpArgs false

/-- A schema in a block of its own. -/
structure CapS (w : World) (s : Sch) (A0 : Option Addr) (c0' : Nat) (gs : Nat) : Prop where
  v : w.cell? ⟨gs, 0, none⟩ = some (.int .i64 s.version)
  a : w.cell? ⟨gs, 1, none⟩ = some (.slice A0 s.tabs.length c0')
  ls : gs < w.heap.size
theorem CapS.keep {w w' : World} {s : Sch} {A0 : Option Addr} {c0' : Nat} {gs : Nat} (h : CapS w s A0 c0' gs) (hk : w'.heap[gs]? = w.heap[gs]?) (hs : w.heap.size ≤ w'.heap.size) : CapS w' s A0 c0' gs :=
  ⟨(World.cell?_of_block (w := w) (a := ⟨gs, 0, none⟩) hk).trans h.v, (World.cell?_of_block (w := w) (a := ⟨gs, 1, none⟩) hk).trans h.a, Nat.lt_of_lt_of_le h.ls hs⟩
theorem CapS.below {w w' : World} {s : Sch} {A0 : Option Addr} {c0' : Nat} {gs : Nat} (h : CapS w s A0 c0' gs) (hb : Below w.heap.size w w') : CapS w' s A0 c0' gs := h.keep (hb.block gs h.ls) hb.size
/-- A change by value: its rows in memory of S. -/
structure ChV (w : World) (S : Nat → Prop) (ch : Chg) (A1 : Option Addr) (c1 : Nat) (A2 : Option Addr) (c2 : Nat) : Prop where
  r1 : RowS w S A1 ch.old
  l1 : ch.old.length ≤ c1
  r2 : RowS w S A2 ch.new
  l2 : ch.new.length ≤ c2
theorem ChV.keep {w w' : World} {S : Nat → Prop} {ch : Chg} {A1 : Option Addr} {c1 : Nat} {A2 : Option Addr} {c2 : Nat} (h : ChV w S ch A1 c1 A2 c2) (hk : Same S w w') : ChV w' S ch A1 c1 A2 c2 := ⟨h.r1.keep hk, h.l1, h.r2.keep hk, h.l2⟩
theorem ChV.more {w : World} {S S' : Nat → Prop} {ch : Chg} {A1 : Option Addr} {c1 : Nat} {A2 : Option Addr} {c2 : Nat} (h : ChV w S ch A1 c1 A2 c2) (hk : ∀ b, S b → S' b) : ChV w S' ch A1 c1 A2 c2 := ⟨h.r1.more hk, h.l1, h.r2.more hk, h.l2⟩
abbrev chV (ch : Chg) (A1 : Option Addr) (c1 : Nat) (A2 : Option Addr) (c2 : Nat) : Value := chAgg ch.table A1 ch.old.length c1 A2 ch.new.length c2

set_option maxRecDepth 100000 in
set_option maxHeartbeats 1000000 in
theorem net1_any (A0 : Option Addr) (c0' : Nat) (s : Sch) (m : Int) (gs gm : Nat) (ch : Chg) (A1 : Option Addr) (c1 : Nat) (A2 : Option Addr) (c2 : Nat) (S : Nat → Prop) (w : World) (hc : CapS w s A0 c0' gs) (hm : w.cell? ⟨gm, 0, none⟩ = some (.int .i64 m)) (hgm : gm < w.heap.size) (hs : TabS w S A0 s.tabs) (hv : ChV w S ch A1 c1 A2 c2) (hS : ∀ b, S b → b < w.heap.size) :
    Calls Try.prog 74 #[chV ch A1 c1 A2 c2, .pointer (some ⟨gs, 0, none⟩), .pointer (some ⟨gm, 0, none⟩)] w (BoolBel (!validC s m ch) w) := by
  obtain ⟨t, old, new⟩ := ch
  have x0 := hc.v
  have x1 := hc.a
  have hgs := hc.ls
  have HS := Lib.hid hs
  have HV := Lib.hid hv
  clear hc hs hv
  simp only [chV]
  have HB0 := Lib.hid ((Below.refl w.heap.size w).alloc (Nat.le_refl _) (.cells #[.int .i64 t, .slice A1 old.length c1, .slice A2 new.length c2] 53))
  go_enter Try.func74, Try.ntmps74
  go_wp2_with fail
  refine (validC_any A0 c0' s m ⟨t, old, new⟩ A1 c1 A2 c2 S _ (HS.out.keep (Same.of_below HB0.out hS)) (HV.out.r1.keep (Same.of_below HB0.out hS)) HV.out.l1 (HV.out.r2.keep (Same.of_below HB0.out hS)) HV.out.l2 (fun b hb => by have := hS b hb; simp; omega)).mono ?_
  rintro e w1 ⟨rfl, hb1⟩
  have HB1 := Lib.hid (HB0.out.trans (hb1.mono (by simp)))
  clear hb1
  obtain ⟨bv, hbv⟩ : ∃ bv, validC s m ⟨t, old, new⟩ = bv := ⟨_, rfl⟩
  have HBV := Lib.hid hbv
  rw [hbv]
  clear hbv
  go_wp2_with fail
  go_ret
  exact ⟨by rw [HBV.out]; rfl, HB1.out⟩


set_option maxRecDepth 100000 in
set_option maxHeartbeats 2000000 in
theorem net3_any (A0 : Option Addr) (c0' : Nat) (s : Sch) (gs : Nat) (a : Chg) (A1 : Option Addr) (c1 : Nat) (A2 : Option Addr) (c2 : Nat) (b : Chg) (B1 : Option Addr) (d1 : Nat) (B2 : Option Addr) (d2 : Nat) (S : Nat → Prop) (w : World) (hc : CapS w s A0 c0' gs) (hs : TabS w S A0 s.tabs) (ha : ChV w S a A1 c1 A2 c2) (hb : ChV w S b B1 d1 B2 d2) (hS : ∀ b, S b → b < w.heap.size) (hta : 0 ≤ a.table ∧ a.table ≤ 1000000) (htb : 0 ≤ b.table ∧ b.table ≤ 1000000) :
    Calls Try.prog 80 #[chV a A1 c1 A2 c2, chV b B1 d1 B2 d2, .pointer (some ⟨gs, 0, none⟩)] w (IntBel (cmpC s a b) w) := by
  obtain ⟨ta, oa, na⟩ := a
  obtain ⟨tb, ob, nb⟩ := b
  have x0 := hc.v
  have x1 := hc.a
  have hgs := hc.ls
  have HS := Lib.hid hs
  have HA := Lib.hid ha
  have HBV := Lib.hid hb
  clear hc hs ha hb
  simp only [chV] at hta htb ⊢
  obtain ⟨hta0, hta1⟩ := hta
  obtain ⟨htb0, htb1⟩ := htb
  have HB0 := Lib.hid (((Below.refl w.heap.size w).alloc (Nat.le_refl _) (.cells #[.int .i64 ta, .slice A1 oa.length c1, .slice A2 na.length c2] 53)).alloc (by simp) (.cells #[.int .i64 tb, .slice B1 ob.length d1, .slice B2 nb.length d2] 53))
  by_cases ht : ta = tb
  · subst ht
    have HF := Lib.hid (show cmpC s ⟨ta, oa, na⟩ ⟨ta, ob, nb⟩ = cmpR (keyC s ⟨ta, oa, na⟩) (keyC s ⟨ta, ob, nb⟩) by unfold cmpC; rw [if_neg (by simp)])
    go_enter Try.func80, Try.ntmps80
    go_wp2_with fail
    obtain ⟨w0, hw0⟩ : ∃ w0, ((w.alloc (.cells #[.int .i64 ta, .slice A1 oa.length c1, .slice A2 na.length c2] 53)).alloc (.cells #[.int .i64 ta, .slice B1 ob.length d1, .slice B2 nb.length d2] 53)) = w0 := ⟨_, rfl⟩
    have hsz0 : w0.heap.size = w.heap.size + 1 + 1 := by rw [← hw0]; simp
    rw [hw0] at HB0
    have z0 : w0.cell? ⟨gs, 0, none⟩ = some (.int .i64 s.version) := (HB0.out.cell (p := ⟨gs, 0, none⟩) hgs).trans x0
    have z1 : w0.cell? ⟨gs, 1, none⟩ = some (.slice A0 s.tabs.length c0') := (HB0.out.cell (p := ⟨gs, 1, none⟩) hgs).trans x1
    have z2 : w0.cell? ⟨w.heap.size, 0, none⟩ = some (.int .i64 ta) := by rw [← hw0]; exact (cell_old (by simp)).trans (cell_new rfl rfl)
    have z3 : w0.cell? ⟨w.heap.size, 1, none⟩ = some (.slice A1 oa.length c1) := by rw [← hw0]; exact (cell_old (by simp)).trans (cell_new rfl rfl)
    have z4 : w0.cell? ⟨w.heap.size, 2, none⟩ = some (.slice A2 na.length c2) := by rw [← hw0]; exact (cell_old (by simp)).trans (cell_new rfl rfl)
    have z5 : w0.cell? ⟨w.heap.size + 1, 0, none⟩ = some (.int .i64 ta) := by rw [← hw0]; exact cell_new (by simp) rfl
    have z6 : w0.cell? ⟨w.heap.size + 1, 1, none⟩ = some (.slice B1 ob.length d1) := by rw [← hw0]; exact cell_new (by simp) rfl
    have z7 : w0.cell? ⟨w.heap.size + 1, 2, none⟩ = some (.slice B2 nb.length d2) := by rw [← hw0]; exact cell_new (by simp) rfl
    have hl0 : gs < w0.heap.size := by omega
    have hl1 : w.heap.size < w0.heap.size := by omega
    have hl2 : w.heap.size + 1 < w0.heap.size := by omega
    have hS0 : ∀ b, S b → b < w0.heap.size := fun b hb => by have := hS b hb; omega
    have HS0 := Lib.hid (HS.out.keep (Same.of_below HB0.out hS))
    have HA0 := Lib.hid (HA.out.keep (Same.of_below HB0.out hS))
    have HV0 := Lib.hid (HBV.out.keep (Same.of_below HB0.out hS))
    have HSZ := Lib.hid hsz0
    rw [hw0]
    clear hw0 hsz0 HS HA HBV x0 x1
    go_region_held3 (fun w' => Below w0.heap.size w0 w' ∧ w'.cell? ⟨gs, 0, none⟩ = some (.int .i64 s.version) ∧ w'.cell? ⟨gs, 1, none⟩ = some (.slice A0 s.tabs.length c0') ∧ w'.cell? ⟨w.heap.size, 0, none⟩ = some (.int .i64 ta) ∧ w'.cell? ⟨w.heap.size, 1, none⟩ = some (.slice A1 oa.length c1) ∧ w'.cell? ⟨w.heap.size, 2, none⟩ = some (.slice A2 na.length c2) ∧ w'.cell? ⟨w.heap.size + 1, 0, none⟩ = some (.int .i64 ta) ∧ w'.cell? ⟨w.heap.size + 1, 1, none⟩ = some (.slice B1 ob.length d1) ∧ w'.cell? ⟨w.heap.size + 1, 2, none⟩ = some (.slice B2 nb.length d2))
      (first | exact ⟨(Below.refl _ _).drew, z0, z1, z2, z3, z4, z5, z6, z7⟩ | exact ⟨hv3, (hv3.cell (p := ⟨gs, 0, none⟩) hl0).trans z0, (hv3.cell (p := ⟨gs, 1, none⟩) hl0).trans z1, (hv3.cell (p := ⟨w.heap.size, 0, none⟩) hl1).trans z2, (hv3.cell (p := ⟨w.heap.size, 1, none⟩) hl1).trans z3, (hv3.cell (p := ⟨w.heap.size, 2, none⟩) hl1).trans z4, (hv3.cell (p := ⟨w.heap.size + 1, 0, none⟩) hl2).trans z5, (hv3.cell (p := ⟨w.heap.size + 1, 1, none⟩) hl2).trans z6, (hv3.cell (p := ⟨w.heap.size + 1, 2, none⟩) hl2).trans z7⟩ | exact ⟨hv2, (hv2.cell (p := ⟨gs, 0, none⟩) hl0).trans z0, (hv2.cell (p := ⟨gs, 1, none⟩) hl0).trans z1, (hv2.cell (p := ⟨w.heap.size, 0, none⟩) hl1).trans z2, (hv2.cell (p := ⟨w.heap.size, 1, none⟩) hl1).trans z3, (hv2.cell (p := ⟨w.heap.size, 2, none⟩) hl1).trans z4, (hv2.cell (p := ⟨w.heap.size + 1, 0, none⟩) hl2).trans z5, (hv2.cell (p := ⟨w.heap.size + 1, 1, none⟩) hl2).trans z6, (hv2.cell (p := ⟨w.heap.size + 1, 2, none⟩) hl2).trans z7⟩ | exact ⟨hv1, (hv1.cell (p := ⟨gs, 0, none⟩) hl0).trans z0, (hv1.cell (p := ⟨gs, 1, none⟩) hl0).trans z1, (hv1.cell (p := ⟨w.heap.size, 0, none⟩) hl1).trans z2, (hv1.cell (p := ⟨w.heap.size, 1, none⟩) hl1).trans z3, (hv1.cell (p := ⟨w.heap.size, 2, none⟩) hl1).trans z4, (hv1.cell (p := ⟨w.heap.size + 1, 0, none⟩) hl2).trans z5, (hv1.cell (p := ⟨w.heap.size + 1, 1, none⟩) hl2).trans z6, (hv1.cell (p := ⟨w.heap.size + 1, 2, none⟩) hl2).trans z7⟩)
      (first
        | (go_at_call 78; have hvx := hv1; clear hvx; refine (changeKey_any A0 c0' s ⟨ta, ob, nb⟩ B1 d1 B2 d2 S _ (HS0.out.keep (Same.of_below hv1 hS0)) (HV0.out.r1.keep (Same.of_below hv1 hS0)) HV0.out.l1 (HV0.out.r2.keep (Same.of_below hv1 hS0)) HV0.out.l2 (fun b hb => Nat.lt_of_lt_of_le (hS0 b hb) hv1.size)).mono ?_; rintro e w6 ⟨A8, c8, rfl, h8, hv2'⟩; have hv2 : Below w0.heap.size w0 w6 := hv1.trans (hv2'.mono hv1.size))
        | (go_at_call 78; refine (changeKey_any A0 c0' s ⟨ta, oa, na⟩ A1 c1 A2 c2 S w0.drew (HS0.out.keep (fun _ _ => rfl)) (HA0.out.r1.keep (fun _ _ => rfl)) HA0.out.l1 (HA0.out.r2.keep (fun _ _ => rfl)) HA0.out.l2 hS0).mono ?_; rintro e w5 ⟨A7, c7, rfl, h7, hv1'⟩; have hv1 : Below w0.heap.size w0 w5 := (Below.refl _ w0).drew.trans hv1')
        | (go_at_call 60; refine (compareRows_any A7 A8 c7 c8 (keyC s ⟨ta, oa, na⟩) (keyC s ⟨ta, ob, nb⟩) S _ (h7.keep (Same.of_below hv2' (fun b hb => Nat.lt_of_lt_of_le (hS0 b hb) hv1.size))) h8 (fun b hb => Nat.lt_of_lt_of_le (hS0 b hb) hv2.size)).mono ?_; rintro e w7 ⟨rfl, hv3'⟩; have hv3 : Below w0.heap.size w0 w7 := hv2.trans (hv3'.mono hv2.size)))
    have HB7 := Lib.hid (HB0.out.trans (hv3.mono (by have := HSZ.out; omega)))
    clear hv1 hv2 hv3 hv1' hv2' hv3' h7 h8 z0 z1 z2 z3 z4 z5 z6 z7
    go_wp2_with fail
    go_ret
    exact ⟨by rw [HF.out]; rfl, HB7.out⟩
  · have hd : (ta != tb) = true := by simpa using ht
    have HF := Lib.hid (show cmpC s ⟨ta, oa, na⟩ ⟨tb, ob, nb⟩ = ta - tb by unfold cmpC; rw [if_pos ht])
    clear ht
    go_enter Try.func80, Try.ntmps80
    go_wp2_with fail
    go_ret
    exact ⟨by rw [HF.out]; rfl, HB0.out⟩

set_option maxRecDepth 100000 in
set_option maxHeartbeats 2000000 in
theorem net2_any (A0 : Option Addr) (c0' : Nat) (s : Sch) (gs : Nat) (a : Chg) (A1 : Option Addr) (c1 : Nat) (A2 : Option Addr) (c2 : Nat) (b : Chg) (B1 : Option Addr) (d1 : Nat) (B2 : Option Addr) (d2 : Nat) (S : Nat → Prop) (w : World) (hc : CapS w s A0 c0' gs) (hs : TabS w S A0 s.tabs) (ha : ChV w S a A1 c1 A2 c2) (hb : ChV w S b B1 d1 B2 d2) (hS : ∀ b, S b → b < w.heap.size) :
    Calls Try.prog 76 #[chV a A1 c1 A2 c2, chV b B1 d1 B2 d2, .pointer (some ⟨gs, 0, none⟩)] w (BoolBel (sameC s a b) w) := by
  obtain ⟨ta, oa, na⟩ := a
  obtain ⟨tb, ob, nb⟩ := b
  have x0 := hc.v
  have x1 := hc.a
  have hgs := hc.ls
  have HS := Lib.hid hs
  have HA := Lib.hid ha
  have HBV := Lib.hid hb
  clear hc hs ha hb
  simp only [chV]
  have HB0 := Lib.hid (((Below.refl w.heap.size w).alloc (Nat.le_refl _) (.cells #[.int .i64 ta, .slice A1 oa.length c1, .slice A2 na.length c2] 53)).alloc (by simp) (.cells #[.int .i64 tb, .slice B1 ob.length d1, .slice B2 nb.length d2] 53))
  by_cases ht : ta = tb
  · subst ht
    have HF := Lib.hid (show sameC s ⟨ta, oa, na⟩ ⟨ta, ob, nb⟩ = (cmpR (keyC s ⟨ta, oa, na⟩) (keyC s ⟨ta, ob, nb⟩) == 0) by unfold sameC; simp)
    go_enter Try.func76, Try.ntmps76
    go_wp2_with fail
    obtain ⟨w0, hw0⟩ : ∃ w0, ((w.alloc (.cells #[.int .i64 ta, .slice A1 oa.length c1, .slice A2 na.length c2] 53)).alloc (.cells #[.int .i64 ta, .slice B1 ob.length d1, .slice B2 nb.length d2] 53)) = w0 := ⟨_, rfl⟩
    have hsz0 : w0.heap.size = w.heap.size + 1 + 1 := by rw [← hw0]; simp
    rw [hw0] at HB0
    have z0 : w0.cell? ⟨gs, 0, none⟩ = some (.int .i64 s.version) := (HB0.out.cell (p := ⟨gs, 0, none⟩) hgs).trans x0
    have z1 : w0.cell? ⟨gs, 1, none⟩ = some (.slice A0 s.tabs.length c0') := (HB0.out.cell (p := ⟨gs, 1, none⟩) hgs).trans x1
    have z2 : w0.cell? ⟨w.heap.size, 0, none⟩ = some (.int .i64 ta) := by rw [← hw0]; exact (cell_old (by simp)).trans (cell_new rfl rfl)
    have z3 : w0.cell? ⟨w.heap.size, 1, none⟩ = some (.slice A1 oa.length c1) := by rw [← hw0]; exact (cell_old (by simp)).trans (cell_new rfl rfl)
    have z4 : w0.cell? ⟨w.heap.size, 2, none⟩ = some (.slice A2 na.length c2) := by rw [← hw0]; exact (cell_old (by simp)).trans (cell_new rfl rfl)
    have z5 : w0.cell? ⟨w.heap.size + 1, 0, none⟩ = some (.int .i64 ta) := by rw [← hw0]; exact cell_new (by simp) rfl
    have z6 : w0.cell? ⟨w.heap.size + 1, 1, none⟩ = some (.slice B1 ob.length d1) := by rw [← hw0]; exact cell_new (by simp) rfl
    have z7 : w0.cell? ⟨w.heap.size + 1, 2, none⟩ = some (.slice B2 nb.length d2) := by rw [← hw0]; exact cell_new (by simp) rfl
    have hl0 : gs < w0.heap.size := by omega
    have hl1 : w.heap.size < w0.heap.size := by omega
    have hl2 : w.heap.size + 1 < w0.heap.size := by omega
    have hS0 : ∀ b, S b → b < w0.heap.size := fun b hb => by have := hS b hb; omega
    have HS0 := Lib.hid (HS.out.keep (Same.of_below HB0.out hS))
    have HA0 := Lib.hid (HA.out.keep (Same.of_below HB0.out hS))
    have HV0 := Lib.hid (HBV.out.keep (Same.of_below HB0.out hS))
    have HSZ := Lib.hid hsz0
    rw [hw0]
    clear hw0 hsz0 HS HA HBV x0 x1
    go_region_held3 (fun w' => Below w0.heap.size w0 w' ∧ w'.cell? ⟨gs, 0, none⟩ = some (.int .i64 s.version) ∧ w'.cell? ⟨gs, 1, none⟩ = some (.slice A0 s.tabs.length c0') ∧ w'.cell? ⟨w.heap.size, 0, none⟩ = some (.int .i64 ta) ∧ w'.cell? ⟨w.heap.size, 1, none⟩ = some (.slice A1 oa.length c1) ∧ w'.cell? ⟨w.heap.size, 2, none⟩ = some (.slice A2 na.length c2) ∧ w'.cell? ⟨w.heap.size + 1, 0, none⟩ = some (.int .i64 ta) ∧ w'.cell? ⟨w.heap.size + 1, 1, none⟩ = some (.slice B1 ob.length d1) ∧ w'.cell? ⟨w.heap.size + 1, 2, none⟩ = some (.slice B2 nb.length d2))
      (first | exact ⟨(Below.refl _ _).drew, z0, z1, z2, z3, z4, z5, z6, z7⟩ | exact ⟨hv3, (hv3.cell (p := ⟨gs, 0, none⟩) hl0).trans z0, (hv3.cell (p := ⟨gs, 1, none⟩) hl0).trans z1, (hv3.cell (p := ⟨w.heap.size, 0, none⟩) hl1).trans z2, (hv3.cell (p := ⟨w.heap.size, 1, none⟩) hl1).trans z3, (hv3.cell (p := ⟨w.heap.size, 2, none⟩) hl1).trans z4, (hv3.cell (p := ⟨w.heap.size + 1, 0, none⟩) hl2).trans z5, (hv3.cell (p := ⟨w.heap.size + 1, 1, none⟩) hl2).trans z6, (hv3.cell (p := ⟨w.heap.size + 1, 2, none⟩) hl2).trans z7⟩ | exact ⟨hv2, (hv2.cell (p := ⟨gs, 0, none⟩) hl0).trans z0, (hv2.cell (p := ⟨gs, 1, none⟩) hl0).trans z1, (hv2.cell (p := ⟨w.heap.size, 0, none⟩) hl1).trans z2, (hv2.cell (p := ⟨w.heap.size, 1, none⟩) hl1).trans z3, (hv2.cell (p := ⟨w.heap.size, 2, none⟩) hl1).trans z4, (hv2.cell (p := ⟨w.heap.size + 1, 0, none⟩) hl2).trans z5, (hv2.cell (p := ⟨w.heap.size + 1, 1, none⟩) hl2).trans z6, (hv2.cell (p := ⟨w.heap.size + 1, 2, none⟩) hl2).trans z7⟩ | exact ⟨hv1, (hv1.cell (p := ⟨gs, 0, none⟩) hl0).trans z0, (hv1.cell (p := ⟨gs, 1, none⟩) hl0).trans z1, (hv1.cell (p := ⟨w.heap.size, 0, none⟩) hl1).trans z2, (hv1.cell (p := ⟨w.heap.size, 1, none⟩) hl1).trans z3, (hv1.cell (p := ⟨w.heap.size, 2, none⟩) hl1).trans z4, (hv1.cell (p := ⟨w.heap.size + 1, 0, none⟩) hl2).trans z5, (hv1.cell (p := ⟨w.heap.size + 1, 1, none⟩) hl2).trans z6, (hv1.cell (p := ⟨w.heap.size + 1, 2, none⟩) hl2).trans z7⟩)
      (first
        | (go_at_call 78; have hvx := hv1; clear hvx; refine (changeKey_any A0 c0' s ⟨ta, ob, nb⟩ B1 d1 B2 d2 S _ (HS0.out.keep (Same.of_below hv1 hS0)) (HV0.out.r1.keep (Same.of_below hv1 hS0)) HV0.out.l1 (HV0.out.r2.keep (Same.of_below hv1 hS0)) HV0.out.l2 (fun b hb => Nat.lt_of_lt_of_le (hS0 b hb) hv1.size)).mono ?_; rintro e w6 ⟨A8, c8, rfl, h8, hv2'⟩; have hv2 : Below w0.heap.size w0 w6 := hv1.trans (hv2'.mono hv1.size))
        | (go_at_call 78; refine (changeKey_any A0 c0' s ⟨ta, oa, na⟩ A1 c1 A2 c2 S w0.drew (HS0.out.keep (fun _ _ => rfl)) (HA0.out.r1.keep (fun _ _ => rfl)) HA0.out.l1 (HA0.out.r2.keep (fun _ _ => rfl)) HA0.out.l2 hS0).mono ?_; rintro e w5 ⟨A7, c7, rfl, h7, hv1'⟩; have hv1 : Below w0.heap.size w0 w5 := (Below.refl _ w0).drew.trans hv1')
        | (go_at_call 77; refine (equal_any A7 A8 c7 c8 (keyC s ⟨ta, oa, na⟩) (keyC s ⟨ta, ob, nb⟩) S _ (h7.keep (Same.of_below hv2' (fun b hb => Nat.lt_of_lt_of_le (hS0 b hb) hv1.size))) h8 (fun b hb => Nat.lt_of_lt_of_le (hS0 b hb) hv2.size)).mono ?_; rintro e w7 ⟨rfl, hv3'⟩; have hv3 : Below w0.heap.size w0 w7 := hv2.trans (hv3'.mono hv2.size)))
    have HB7 := Lib.hid (HB0.out.trans (hv3.mono (by have := HSZ.out; omega)))
    clear hv1 hv2 hv3 hv1' hv2' hv3' h7 h8 z0 z1 z2 z3 z4 z5 z6 z7
    go_wp2_with fail
    go_ret
    exact ⟨by rw [HF.out]; rfl, HB7.out⟩
  · have hd : (ta == tb) = false := by simpa using ht
    have HF := Lib.hid (show sameC s ⟨ta, oa, na⟩ ⟨tb, ob, nb⟩ = false by unfold sameC; simp [ht])
    clear ht
    go_enter Try.func76, Try.ntmps76
    go_wp2_with fail
    go_quiet (fail)
    go_wp2_with fail
    go_ret
    exact ⟨by rw [HF.out]; rfl, below_drewN HB0.out _⟩
end Go.Proofs.Ytkpjjfhfbpfjpaa
