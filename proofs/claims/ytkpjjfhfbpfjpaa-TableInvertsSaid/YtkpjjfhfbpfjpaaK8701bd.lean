import Derived.Test.YtkpjjfhfbpfjpaaK002436
import Derived.Test.YtkpjjfhfbpfjpaaK4e30bf
import Derived.Test.YtkpjjfhfbpfjpaaK660fb2
set_option linter.unusedVariables false
set_option linter.unusedSimpArgs false
set_option maxRecDepth 100000
namespace Go.Proofs.Ytkpjjfhfbpfjpaa
open Go.RowKit
instance : DecidableEq Chg := fun a b => decidable_of_iff (a.table = b.table ∧ a.old = b.old ∧ a.new = b.new) (by cases a; cases b; simp)
set_option maxHeartbeats 4000000 in
theorem rsameChanges_any (A B : Option Addr) (ca cb : Nat) (a b : List Chg) (S : Nat → Prop) (w : World) (ha : ChgS w S A a) (hb : ChgS w S B b) (hS : ∀ b, S b → b < w.heap.size) :
  Calls Try.prog 26 #[.slice A a.length ca, .slice B b.length cb] w (BoolBel (decide (a = b)) w) := by
 have hal := ha.len
 have hbl := hb.len
 have HA := Lib.hid ha
 have HBB := Lib.hid hb
 clear ha hb
 by_cases hlen : a.length = b.length
 · have hd0 : ((a.length : Int) != b.length) = false := by simp [hlen]
   have HL := Lib.hid hlen
   clear hlen
   go_enter Try.func26, Try.ntmps26
   go_wp2_with fail
   go_loopw [5, 13] (fun _ i wr => ∃ k : Nat, k ≤ a.length ∧ i = .int .i64 k ∧ a.take k = b.take k ∧ Below w.heap.size w wr) (fun _ i _ => a.length - (intOf i).toNat)
   case atStart => exact ⟨0, Nat.zero_le _, rfl, by simp, Below.refl _ _⟩
   case round =>
    obtain ⟨k, hk, rfl, htk, hbel⟩ := hrel
    have HT := Lib.hid htk
    have HB := Lib.hid hbel
    have hsz := hbel.size
    clear htk hbel hd0
    by_cases hlt : k < a.length
    · have hlt2 : k < b.length := by have := HL.out; omega
      obtain ⟨b1, o1, rfl, hb1, f0, A1, c1, A2, c2, f1, f1c, f1r, f2, f2c, f2r⟩ := (HA.out.keep (Same.of_below HB.out hS)).at_ hlt
      obtain ⟨b2, o2, rfl, hb2, e0, B1, d1, B2, d2, e1, e1c, e1r, e2, e2c, e2r⟩ := (HBB.out.keep (Same.of_below HB.out hS)).at_ hlt2
      have HF1 := Lib.hid f1r
      have HF2 := Lib.hid f2r
      have HE1 := Lib.hid e1r
      have HE2 := Lib.hid e2r
      have hfl1 := f1r.len
      have hfl2 := f2r.len
      have hel1 := e1r.len
      have hel2 := e2r.len
      have hl1 : b1 < wr.heap.size := by have := hS b1 hb1; omega
      have hl2 : b2 < wr.heap.size := by have := hS b2 hb2; omega
      have HC := Lib.hid (show a.getD k chg0 ≠ b.getD k chg0 → decide (a = b) = false from fun h => decide_eq_false (getG_ne h))
      have HZ := Lib.hid (show a.getD k chg0 = b.getD k chg0 → a.take (k + 1) = b.take (k + 1) from takeG_succ hlt hlt2 HT.out)
      generalize a.getD k chg0 = x at f0 f1 f2 HF1 HF2 hfl1 hfl2 HC HZ
      generalize b.getD k chg0 = y at e0 e1 e2 HE1 HE2 hel1 hel2 HC HZ
      obtain ⟨xt, xo, xn⟩ := x
      obtain ⟨yt, yo, yn⟩ := y
      dsimp only at f0 f1 f2 HF1 HF2 hfl1 hfl2 e0 e1 e2 HE1 HE2 hel1 hel2
      clear f1c f1r f2c f2r e1c e1r e2c e2r
      by_cases ht : xt = yt
      · have hbt : (xt != yt) = false := by simp [ht]
        by_cases ho : cmpR xo yo = 0
        · go_wp2_with fail
          refine hideQ (fun c a d v w h => by cases d <;> exact h) (fun Q' HQ HP => ?_)
          refine regionT_until (fun w' => Below wr.heap.size wr w' ∧ w'.cell? ⟨b1, o1 + k * 3, none⟩ = some (.int .i64 xt) ∧ w'.cell? ⟨b1, o1 + k * 3 + 1, none⟩ = some (.slice A1 xo.length c1) ∧ w'.cell? ⟨b1, o1 + k * 3 + 2, none⟩ = some (.slice A2 xn.length c2) ∧ w'.cell? ⟨b2, o2 + k * 3, none⟩ = some (.int .i64 yt) ∧ w'.cell? ⟨b2, o2 + k * 3 + 1, none⟩ = some (.slice B1 yo.length d1) ∧ w'.cell? ⟨b2, o2 + k * 3 + 2, none⟩ = some (.slice B2 yn.length d2)) 39 39 (bA 39 0) (by kernel_rfl) (by kernel_rfl) (by kernel_rfl) ?_
          refine tk 0 16 (bA 39 1) ?_ rfl (by kernel_rfl) (by kernel_rfl) HP.out (by rfl) ?_ ⟨(Below.refl _ _).drew, f0, f1, f2, e0, e1, e2⟩ ?_
          rotate_left
          · intro w' hSw
            (try dsimp only at hSw)
            go_simp
            (try with_reducible rfl)
          simp only [psA, psB, psC]
          refine tk 1 17 (bA 39 3) ?_ rfl (by kernel_rfl) (by kernel_rfl) HP.out (by rfl) ?_ ⟨(Below.refl _ _).drew, f0, f1, f2, e0, e1, e2⟩ ?_
          rotate_left
          · intro w' hSw
            (try dsimp only at hSw)
            go_simp
            (try with_reducible rfl)
          simp only [psA, psB, psC]
          refine tk 2 18 (bA 39 7) ?_ rfl (by kernel_rfl) (by kernel_rfl) HP.out (by rfl) ?_ ⟨(Below.refl _ _).drew, f0, f1, f2, e0, e1, e2⟩ ?_
          rotate_left
          · intro w' hSw
            (try dsimp only at hSw)
            go_simp
            (try with_reducible rfl)
          simp only [psA, psB, psC]
          refine tk 3 19 (bA 39 15) ?_ rfl (by kernel_rfl) (by kernel_rfl) HP.out (by rfl) ?_ ⟨(Below.refl _ _).drew, f0, f1, f2, e0, e1, e2⟩ ?_
          rotate_left
          · intro w' hSw
            (try dsimp only at hSw)
            go_simp
            (try with_reducible rfl)
          simp only [psA, psB, psC]
          refine tk 4 20 (bA 39 31) ?_ rfl (by kernel_rfl) (by kernel_rfl) HP.out (by rfl) ?_ ⟨(Below.refl _ _).drew, f0, f1, f2, e0, e1, e2⟩ ?_
          rotate_left
          · intro w' hSw
            (try dsimp only at hSw)
            go_simp
            (try with_reducible rfl)
          simp only [psA, psB, psC]
          refine tk 5 21 (bA 39 63) ?_ rfl (by kernel_rfl) (by kernel_rfl) HP.out (by rfl) ?_ ⟨(Below.refl _ _).drew, f0, f1, f2, e0, e1, e2⟩ ?_
          rotate_left
          · intro w' hSw
            (try dsimp only at hSw)
            go_simp
            (try with_reducible rfl)
          simp only [psA, psB, psC]
          refine tk 6 22 (bA 39 127) ?_ rfl (by kernel_rfl) (by kernel_rfl) HP.out (by rfl) ?_ ⟨(Below.refl _ _).drew, f0, f1, f2, e0, e1, e2⟩ ?_
          rotate_left
          · intro w' hSw
            (try dsimp only at hSw)
            go_simp
            (try with_reducible rfl)
          simp only [psA, psB, psC]
          refine tk 7 23 (bA 39 255) ?_ rfl (by kernel_rfl) (by kernel_rfl) HP.out (by rfl) ?_ ⟨(Below.refl _ _).drew, f0, f1, f2, e0, e1, e2⟩ ?_
          rotate_left
          · intro w' hSw
            (try dsimp only at hSw)
            go_simp
            (try with_reducible rfl)
          simp only [psA, psB, psC]
          refine tk 8 24 (bA 39 511) ?_ rfl (by kernel_rfl) (by kernel_rfl) HP.out (by rfl) ?_ ⟨(Below.refl _ _).drew, f0, f1, f2, e0, e1, e2⟩ ?_
          rotate_left
          · intro w' hSw
            (try dsimp only at hSw)
            go_simp
            (try with_reducible rfl)
          simp only [psA, psB, psC]
          refine tk 9 25 (bA 39 1023) ?_ rfl (by kernel_rfl) (by kernel_rfl) HP.out (by rfl) ?_ ⟨(Below.refl _ _).drew, f0, f1, f2, e0, e1, e2⟩ ?_
          rotate_left
          · intro w' hSw
            (try dsimp only at hSw)
            go_simp
            (try with_reducible rfl)
          simp only [psA, psB, psC]
          refine tk 10 26 (bA 39 2047) ?_ rfl (by kernel_rfl) (by kernel_rfl) HP.out (by rfl) ?_ ⟨(Below.refl _ _).drew, f0, f1, f2, e0, e1, e2⟩ ?_
          rotate_left
          · intro w' hSw
            (try dsimp only at hSw)
            go_simp
            (try with_reducible rfl)
          simp only [psA, psB, psC]
          refine tk 11 27 (bA 39 4095) ?_ rfl (by kernel_rfl) (by kernel_rfl) HP.out (by rfl) ?_ ⟨(Below.refl _ _).drew, f0, f1, f2, e0, e1, e2⟩ ?_
          rotate_left
          · intro w' hSw
            (try dsimp only at hSw)
            go_simp
            (try with_reducible rfl)
          simp only [psA, psB, psC]
          refine tk 12 28 (bA 39 8191) ?_ rfl (by kernel_rfl) (by kernel_rfl) HP.out (by rfl) ?_ ⟨(Below.refl _ _).drew, f0, f1, f2, e0, e1, e2⟩ ?_
          rotate_left
          · intro w' hSw
            (try dsimp only at hSw)
            go_simp
            (try with_reducible rfl)
          simp only [psA, psB, psC]
          refine tk 13 29 (bA 39 16383) ?_ rfl (by kernel_rfl) (by kernel_rfl) HP.out (by rfl) ?_ ⟨(Below.refl _ _).drew, f0, f1, f2, e0, e1, e2⟩ ?_
          rotate_left
          · intro w' hSw
            (try dsimp only at hSw)
            go_simp
            (try with_reducible rfl)
          simp only [psA, psB, psC]
          refine tk 14 30 (bA 39 32767) ?_ rfl (by kernel_rfl) (by kernel_rfl) HP.out (by rfl) ?_ ⟨(Below.refl _ _).drew, f0, f1, f2, e0, e1, e2⟩ ?_
          rotate_left
          · intro w' hSw
            (try dsimp only at hSw)
            go_simp
            (try with_reducible rfl)
          simp only [psA, psB, psC]
          refine tk 15 31 (bA 39 65535) ?_ rfl (by kernel_rfl) (by kernel_rfl) HP.out (by rfl) ?_ ⟨(Below.refl _ _).drew, f0, f1, f2, e0, e1, e2⟩ ?_
          rotate_left
          · intro w' hSw
            (try dsimp only at hSw)
            go_simp
            (try with_reducible rfl)
          simp only [psA, psB, psC]
          refine tk 16 32 (bA 39 131071) ?_ rfl (by kernel_rfl) (by kernel_rfl) HP.out (by rfl) ?_ ⟨(Below.refl _ _).drew, f0, f1, f2, e0, e1, e2⟩ ?_
          rotate_left
          · intro w' hSw
            (try dsimp only at hSw)
            go_simp
            (try with_reducible rfl)
          simp only [psA, psB, psC]
          refine tk 17 33 (bA 39 262143) ?_ rfl (by kernel_rfl) (by kernel_rfl) HP.out (by rfl) ?_ ⟨(Below.refl _ _).drew, f0, f1, f2, e0, e1, e2⟩ ?_
          rotate_left
          · intro w' hSw
            (try dsimp only at hSw)
            go_simp
            (try with_reducible rfl)
          simp only [psA, psB, psC]
          refine tk 18 34 (bA 39 524287) ?_ rfl (by kernel_rfl) (by kernel_rfl) HP.out (by rfl) ?_ ⟨(Below.refl _ _).drew, f0, f1, f2, e0, e1, e2⟩ ?_
          rotate_left
          · intro w' hSw
            (try dsimp only at hSw)
            go_simp
            (try with_reducible rfl)
          simp only [psA, psB, psC]
          refine tk 19 35 (bA 39 1048575) ?_ rfl (by kernel_rfl) (by kernel_rfl) HP.out (by rfl) ?_ ⟨(Below.refl _ _).drew, f0, f1, f2, e0, e1, e2⟩ ?_
          rotate_left
          · intro w' hSw
            (try dsimp only at hSw)
            go_simp
            (try with_reducible rfl)
          simp only [psA, psB, psC]
          refine tk 20 36 (bA 39 2097151) ?_ rfl (by kernel_rfl) (by kernel_rfl) HP.out (by rfl) ?_ ⟨(Below.refl _ _).drew, f0, f1, f2, e0, e1, e2⟩ ?_
          rotate_left
          · intro w' hSw
            (try dsimp only at hSw)
            go_simp
            (try with_reducible rfl)
          simp only [psA, psB, psC]
          refine tk 21 37 (bA 39 4194303) ?_ rfl (by kernel_rfl) (by kernel_rfl) HP.out (by rfl) ?_ ⟨(Below.refl _ _).drew, f0, f1, f2, e0, e1, e2⟩ ?_
          rotate_left
          · intro w' hSw
            (try dsimp only at hSw)
            go_simp
            (try with_reducible rfl)
          simp only [psA, psB, psC]
          refine anyT_one (i := 22) (o := ⟨some 38, _, _, _, _, _⟩) (L' := (bA 39 8388607)) rfl (by kernel_rfl) (by kernel_rfl) (fun K hK => ?_)
          have HK := Lib.hid hK
          clear hK
          go_simp
          refine (rcompareRows_any A1 B1 c1 d1 xo yo S wr.drew (HF1.out.keep (fun _ _ => rfl)) (HE1.out.keep (fun _ _ => rfl)) (fun b hb => by have := hS b hb; show b < wr.heap.size; omega)).mono ?_
          rw [ho]
          rintro e w1 ⟨rfl, hv1'⟩
          have hv1 : Below wr.heap.size wr w1 := (Below.refl _ wr).drew.trans hv1'
          have p0 := (hv1.cell (p := ⟨b1, o1 + k * 3, none⟩) hl1).trans f0
          have p1 := (hv1.cell (p := ⟨b1, o1 + k * 3 + 1, none⟩) hl1).trans f1
          have p2 := (hv1.cell (p := ⟨b1, o1 + k * 3 + 2, none⟩) hl1).trans f2
          have p3 := (hv1.cell (p := ⟨b2, o2 + k * 3, none⟩) hl2).trans e0
          have p4 := (hv1.cell (p := ⟨b2, o2 + k * 3 + 1, none⟩) hl2).trans e1
          have p5 := (hv1.cell (p := ⟨b2, o2 + k * 3 + 2, none⟩) hl2).trans e2
          refine HK.out _ _ (fun _ => ⟨hv1, p0, p1, p2, p3, p4, p5⟩) ?_
          clear HK K
          try simp only [Act.put, psA, psB, psC]
          refine tk 23 39 (bA 39 16777215) ?_ rfl (by kernel_rfl) (by kernel_rfl) HP.out (by rfl) ?_ ⟨hv1, p0, p1, p2, p3, p4, p5⟩ ?_
          rotate_left
          · intro w' hSw
            (try dsimp only at hSw)
            go_simp
            (try with_reducible rfl)
          simp only [psA, psB, psC]
          refine tk 24 40 (bA 39 33554431) ?_ rfl (by kernel_rfl) (by kernel_rfl) HP.out (by rfl) ?_ ⟨hv1, p0, p1, p2, p3, p4, p5⟩ ?_
          rotate_left
          · intro w' hSw
            (try dsimp only at hSw)
            go_simp
            (try with_reducible rfl)
          simp only [psA, psB, psC]
          refine tk 25 41 (bA 39 67108863) ?_ rfl (by kernel_rfl) (by kernel_rfl) HP.out (by rfl) ?_ ⟨hv1, p0, p1, p2, p3, p4, p5⟩ ?_
          rotate_left
          · intro w' hSw
            (try dsimp only at hSw)
            go_simp
            (try with_reducible rfl)
          simp only [psA, psB, psC]
          refine tk 26 42 (bA 39 134217727) ?_ rfl (by kernel_rfl) (by kernel_rfl) HP.out (by rfl) ?_ ⟨hv1, p0, p1, p2, p3, p4, p5⟩ ?_
          rotate_left
          · intro w' hSw
            (try dsimp only at hSw)
            go_simp
            (try with_reducible rfl)
          simp only [psA, psB, psC]
          refine tk 27 43 (bA 39 268435455) ?_ rfl (by kernel_rfl) (by kernel_rfl) HP.out (by rfl) ?_ ⟨hv1, p0, p1, p2, p3, p4, p5⟩ ?_
          rotate_left
          · intro w' hSw
            (try dsimp only at hSw)
            go_simp
            (try with_reducible rfl)
          simp only [psA, psB, psC]
          refine tk 28 44 (bA 39 536870911) ?_ rfl (by kernel_rfl) (by kernel_rfl) HP.out (by rfl) ?_ ⟨hv1, p0, p1, p2, p3, p4, p5⟩ ?_
          rotate_left
          · intro w' hSw
            (try dsimp only at hSw)
            go_simp
            (try with_reducible rfl)
          simp only [psA, psB, psC]
          refine tk 29 45 (bA 39 1073741823) ?_ rfl (by kernel_rfl) (by kernel_rfl) HP.out (by rfl) ?_ ⟨hv1, p0, p1, p2, p3, p4, p5⟩ ?_
          rotate_left
          · intro w' hSw
            (try dsimp only at hSw)
            go_simp
            (try with_reducible rfl)
          simp only [psA, psB, psC]
          refine tk 30 46 (bA 39 2147483647) ?_ rfl (by kernel_rfl) (by kernel_rfl) HP.out (by rfl) ?_ ⟨hv1, p0, p1, p2, p3, p4, p5⟩ ?_
          rotate_left
          · intro w' hSw
            (try dsimp only at hSw)
            go_simp
            (try with_reducible rfl)
          simp only [psA, psB, psC]
          refine tk 31 47 (bA 39 4294967295) ?_ rfl (by kernel_rfl) (by kernel_rfl) HP.out (by rfl) ?_ ⟨hv1, p0, p1, p2, p3, p4, p5⟩ ?_
          rotate_left
          · intro w' hSw
            (try dsimp only at hSw)
            go_simp
            (try with_reducible rfl)
          simp only [psA, psB, psC]
          refine tk 32 48 (bA 39 8589934591) ?_ rfl (by kernel_rfl) (by kernel_rfl) HP.out (by rfl) ?_ ⟨hv1, p0, p1, p2, p3, p4, p5⟩ ?_
          rotate_left
          · intro w' hSw
            (try dsimp only at hSw)
            go_simp
            (try with_reducible rfl)
          simp only [psA, psB, psC]
          refine tk 33 49 (bA 39 17179869183) ?_ rfl (by kernel_rfl) (by kernel_rfl) HP.out (by rfl) ?_ ⟨hv1, p0, p1, p2, p3, p4, p5⟩ ?_
          rotate_left
          · intro w' hSw
            (try dsimp only at hSw)
            go_simp
            (try with_reducible rfl)
          simp only [psA, psB, psC]
          refine tk 34 50 (bA 39 34359738367) ?_ rfl (by kernel_rfl) (by kernel_rfl) HP.out (by rfl) ?_ ⟨hv1, p0, p1, p2, p3, p4, p5⟩ ?_
          rotate_left
          · intro w' hSw
            (try dsimp only at hSw)
            go_simp
            (try with_reducible rfl)
          simp only [psA, psB, psC]
          refine tk 35 51 (bA 39 68719476735) ?_ rfl (by kernel_rfl) (by kernel_rfl) HP.out (by rfl) ?_ ⟨hv1, p0, p1, p2, p3, p4, p5⟩ ?_
          rotate_left
          · intro w' hSw
            (try dsimp only at hSw)
            go_simp
            (try with_reducible rfl)
          simp only [psA, psB, psC]
          refine anyT_one (i := 36) (o := ⟨some 52, _, _, _, _, _⟩) (L' := (bA 39 137438953471)) rfl (by kernel_rfl) (by kernel_rfl) (fun K hK => ?_)
          have HK := Lib.hid hK
          clear hK
          go_simp
          refine (rcompareRows_any A2 B2 c2 d2 xn yn S w1 (HF2.out.keep (Same.of_below hv1 (fun b hb => by have := hS b hb; omega))) (HE2.out.keep (Same.of_below hv1 (fun b hb => by have := hS b hb; omega))) (fun b hb => by have := hS b hb; have := hv1.size; omega)).mono ?_
          rintro e w2 ⟨rfl, hv2'⟩
          have hv2 : Below wr.heap.size wr w2 := hv1.trans (hv2'.mono hv1.size)
          have q0 := (hv2.cell (p := ⟨b1, o1 + k * 3, none⟩) hl1).trans f0
          have q1 := (hv2.cell (p := ⟨b1, o1 + k * 3 + 1, none⟩) hl1).trans f1
          have q2 := (hv2.cell (p := ⟨b1, o1 + k * 3 + 2, none⟩) hl1).trans f2
          have q3 := (hv2.cell (p := ⟨b2, o2 + k * 3, none⟩) hl2).trans e0
          have q4 := (hv2.cell (p := ⟨b2, o2 + k * 3 + 1, none⟩) hl2).trans e1
          have q5 := (hv2.cell (p := ⟨b2, o2 + k * 3 + 2, none⟩) hl2).trans e2
          refine HK.out _ _ (fun _ => ⟨hv2, q0, q1, q2, q3, q4, q5⟩) ?_
          clear HK K
          try simp only [Act.put, psA, psB, psC]
          refine tk 37 53 (bA 39 274877906943) ?_ rfl (by kernel_rfl) (by kernel_rfl) HP.out (by rfl) ?_ ⟨hv2, q0, q1, q2, q3, q4, q5⟩ ?_
          rotate_left
          · intro w' hSw
            (try dsimp only at hSw)
            go_simp
            (try with_reducible rfl)
          simp only [psA, psB, psC]
          refine tk 38 54 (bA 39 549755813887) ?_ rfl (by kernel_rfl) (by kernel_rfl) HP.out (by rfl) ?_ ⟨hv2, q0, q1, q2, q3, q4, q5⟩ ?_
          rotate_left
          · intro w' hSw
            (try dsimp only at hSw)
            go_simp
            (try with_reducible rfl)
          simp only [psA, psB, psC]
          refine anyU_done (by kernel_rfl) ?_
          rw [HQ.out]
          clear HQ HP Q'
          have HB1 := Lib.hid (HB.out.trans (hv2.mono hsz))
          clear hv1 hv1' hv2 hv2' f0 f1 f2 e0 e1 e2
          by_cases hc : cmpR xn yn = 0
          · have HTK := Lib.hid (HZ.out (by rw [ht, (cmpR_is.zero _ _).1 ho, (cmpR_is.zero _ _).1 hc]))
            rw [hc]
            clear hc ho ht hbt
            go_wp2_with fail
            go_roundw
            case rel => exact ⟨k + 1, by omega, by go_num, HTK.out, HB1.out⟩
            case measure => simp [intOf]; omega
          · have HF := Lib.hid (HC.out (fun e => hc ((cmpR_is.zero _ _).2 (by injection e))))
            have hd : (cmpR xn yn != 0) = true := by simp [hc]
            generalize cmpR xn yn = cv at hd HF hc
            clear hc ho ht hbt
            go_wp2_with fail
            go_ret
            exact ⟨by rw [HF.out]; rfl, HB1.out⟩
        · have HF := Lib.hid (HC.out (fun e => ho ((cmpR_is.zero _ _).2 (by injection e))))
          have hd : (cmpR xo yo != 0) = true := by simp [ho]
          obtain ⟨cv, hcv⟩ : ∃ cv, cmpR xo yo = cv := ⟨_, rfl⟩
          have hd' : (cv != 0) = true := by rw [← hcv]; exact hd
          clear hd ho
          go_wp2_with fail
          refine hideQ (fun c a d v w h => by cases d <;> exact h) (fun Q' HQ HP => ?_)
          refine regionT_until (fun w' => Below wr.heap.size wr w' ∧ w'.cell? ⟨b1, o1 + k * 3, none⟩ = some (.int .i64 xt) ∧ w'.cell? ⟨b1, o1 + k * 3 + 1, none⟩ = some (.slice A1 xo.length c1) ∧ w'.cell? ⟨b1, o1 + k * 3 + 2, none⟩ = some (.slice A2 xn.length c2) ∧ w'.cell? ⟨b2, o2 + k * 3, none⟩ = some (.int .i64 yt) ∧ w'.cell? ⟨b2, o2 + k * 3 + 1, none⟩ = some (.slice B1 yo.length d1) ∧ w'.cell? ⟨b2, o2 + k * 3 + 2, none⟩ = some (.slice B2 yn.length d2)) 39 39 (bA 39 0) (by kernel_rfl) (by kernel_rfl) (by kernel_rfl) ?_
          refine tk 0 16 (bA 39 1) ?_ rfl (by kernel_rfl) (by kernel_rfl) HP.out (by rfl) ?_ ⟨(Below.refl _ _).drew, f0, f1, f2, e0, e1, e2⟩ ?_
          rotate_left
          · intro w' hSw
            (try dsimp only at hSw)
            go_simp
            (try with_reducible rfl)
          simp only [psA, psB, psC]
          refine tk 1 17 (bA 39 3) ?_ rfl (by kernel_rfl) (by kernel_rfl) HP.out (by rfl) ?_ ⟨(Below.refl _ _).drew, f0, f1, f2, e0, e1, e2⟩ ?_
          rotate_left
          · intro w' hSw
            (try dsimp only at hSw)
            go_simp
            (try with_reducible rfl)
          simp only [psA, psB, psC]
          refine tk 2 18 (bA 39 7) ?_ rfl (by kernel_rfl) (by kernel_rfl) HP.out (by rfl) ?_ ⟨(Below.refl _ _).drew, f0, f1, f2, e0, e1, e2⟩ ?_
          rotate_left
          · intro w' hSw
            (try dsimp only at hSw)
            go_simp
            (try with_reducible rfl)
          simp only [psA, psB, psC]
          refine tk 3 19 (bA 39 15) ?_ rfl (by kernel_rfl) (by kernel_rfl) HP.out (by rfl) ?_ ⟨(Below.refl _ _).drew, f0, f1, f2, e0, e1, e2⟩ ?_
          rotate_left
          · intro w' hSw
            (try dsimp only at hSw)
            go_simp
            (try with_reducible rfl)
          simp only [psA, psB, psC]
          refine tk 4 20 (bA 39 31) ?_ rfl (by kernel_rfl) (by kernel_rfl) HP.out (by rfl) ?_ ⟨(Below.refl _ _).drew, f0, f1, f2, e0, e1, e2⟩ ?_
          rotate_left
          · intro w' hSw
            (try dsimp only at hSw)
            go_simp
            (try with_reducible rfl)
          simp only [psA, psB, psC]
          refine tk 5 21 (bA 39 63) ?_ rfl (by kernel_rfl) (by kernel_rfl) HP.out (by rfl) ?_ ⟨(Below.refl _ _).drew, f0, f1, f2, e0, e1, e2⟩ ?_
          rotate_left
          · intro w' hSw
            (try dsimp only at hSw)
            go_simp
            (try with_reducible rfl)
          simp only [psA, psB, psC]
          refine tk 6 22 (bA 39 127) ?_ rfl (by kernel_rfl) (by kernel_rfl) HP.out (by rfl) ?_ ⟨(Below.refl _ _).drew, f0, f1, f2, e0, e1, e2⟩ ?_
          rotate_left
          · intro w' hSw
            (try dsimp only at hSw)
            go_simp
            (try with_reducible rfl)
          simp only [psA, psB, psC]
          refine tk 7 23 (bA 39 255) ?_ rfl (by kernel_rfl) (by kernel_rfl) HP.out (by rfl) ?_ ⟨(Below.refl _ _).drew, f0, f1, f2, e0, e1, e2⟩ ?_
          rotate_left
          · intro w' hSw
            (try dsimp only at hSw)
            go_simp
            (try with_reducible rfl)
          simp only [psA, psB, psC]
          refine tk 8 24 (bA 39 511) ?_ rfl (by kernel_rfl) (by kernel_rfl) HP.out (by rfl) ?_ ⟨(Below.refl _ _).drew, f0, f1, f2, e0, e1, e2⟩ ?_
          rotate_left
          · intro w' hSw
            (try dsimp only at hSw)
            go_simp
            (try with_reducible rfl)
          simp only [psA, psB, psC]
          refine tk 9 25 (bA 39 1023) ?_ rfl (by kernel_rfl) (by kernel_rfl) HP.out (by rfl) ?_ ⟨(Below.refl _ _).drew, f0, f1, f2, e0, e1, e2⟩ ?_
          rotate_left
          · intro w' hSw
            (try dsimp only at hSw)
            go_simp
            (try with_reducible rfl)
          simp only [psA, psB, psC]
          refine tk 10 26 (bA 39 2047) ?_ rfl (by kernel_rfl) (by kernel_rfl) HP.out (by rfl) ?_ ⟨(Below.refl _ _).drew, f0, f1, f2, e0, e1, e2⟩ ?_
          rotate_left
          · intro w' hSw
            (try dsimp only at hSw)
            go_simp
            (try with_reducible rfl)
          simp only [psA, psB, psC]
          refine tk 11 27 (bA 39 4095) ?_ rfl (by kernel_rfl) (by kernel_rfl) HP.out (by rfl) ?_ ⟨(Below.refl _ _).drew, f0, f1, f2, e0, e1, e2⟩ ?_
          rotate_left
          · intro w' hSw
            (try dsimp only at hSw)
            go_simp
            (try with_reducible rfl)
          simp only [psA, psB, psC]
          refine tk 12 28 (bA 39 8191) ?_ rfl (by kernel_rfl) (by kernel_rfl) HP.out (by rfl) ?_ ⟨(Below.refl _ _).drew, f0, f1, f2, e0, e1, e2⟩ ?_
          rotate_left
          · intro w' hSw
            (try dsimp only at hSw)
            go_simp
            (try with_reducible rfl)
          simp only [psA, psB, psC]
          refine tk 13 29 (bA 39 16383) ?_ rfl (by kernel_rfl) (by kernel_rfl) HP.out (by rfl) ?_ ⟨(Below.refl _ _).drew, f0, f1, f2, e0, e1, e2⟩ ?_
          rotate_left
          · intro w' hSw
            (try dsimp only at hSw)
            go_simp
            (try with_reducible rfl)
          simp only [psA, psB, psC]
          refine tk 14 30 (bA 39 32767) ?_ rfl (by kernel_rfl) (by kernel_rfl) HP.out (by rfl) ?_ ⟨(Below.refl _ _).drew, f0, f1, f2, e0, e1, e2⟩ ?_
          rotate_left
          · intro w' hSw
            (try dsimp only at hSw)
            go_simp
            (try with_reducible rfl)
          simp only [psA, psB, psC]
          refine tk 15 31 (bA 39 65535) ?_ rfl (by kernel_rfl) (by kernel_rfl) HP.out (by rfl) ?_ ⟨(Below.refl _ _).drew, f0, f1, f2, e0, e1, e2⟩ ?_
          rotate_left
          · intro w' hSw
            (try dsimp only at hSw)
            go_simp
            (try with_reducible rfl)
          simp only [psA, psB, psC]
          refine tk 16 32 (bA 39 131071) ?_ rfl (by kernel_rfl) (by kernel_rfl) HP.out (by rfl) ?_ ⟨(Below.refl _ _).drew, f0, f1, f2, e0, e1, e2⟩ ?_
          rotate_left
          · intro w' hSw
            (try dsimp only at hSw)
            go_simp
            (try with_reducible rfl)
          simp only [psA, psB, psC]
          refine tk 17 33 (bA 39 262143) ?_ rfl (by kernel_rfl) (by kernel_rfl) HP.out (by rfl) ?_ ⟨(Below.refl _ _).drew, f0, f1, f2, e0, e1, e2⟩ ?_
          rotate_left
          · intro w' hSw
            (try dsimp only at hSw)
            go_simp
            (try with_reducible rfl)
          simp only [psA, psB, psC]
          refine tk 18 34 (bA 39 524287) ?_ rfl (by kernel_rfl) (by kernel_rfl) HP.out (by rfl) ?_ ⟨(Below.refl _ _).drew, f0, f1, f2, e0, e1, e2⟩ ?_
          rotate_left
          · intro w' hSw
            (try dsimp only at hSw)
            go_simp
            (try with_reducible rfl)
          simp only [psA, psB, psC]
          refine tk 19 35 (bA 39 1048575) ?_ rfl (by kernel_rfl) (by kernel_rfl) HP.out (by rfl) ?_ ⟨(Below.refl _ _).drew, f0, f1, f2, e0, e1, e2⟩ ?_
          rotate_left
          · intro w' hSw
            (try dsimp only at hSw)
            go_simp
            (try with_reducible rfl)
          simp only [psA, psB, psC]
          refine tk 20 36 (bA 39 2097151) ?_ rfl (by kernel_rfl) (by kernel_rfl) HP.out (by rfl) ?_ ⟨(Below.refl _ _).drew, f0, f1, f2, e0, e1, e2⟩ ?_
          rotate_left
          · intro w' hSw
            (try dsimp only at hSw)
            go_simp
            (try with_reducible rfl)
          simp only [psA, psB, psC]
          refine tk 21 37 (bA 39 4194303) ?_ rfl (by kernel_rfl) (by kernel_rfl) HP.out (by rfl) ?_ ⟨(Below.refl _ _).drew, f0, f1, f2, e0, e1, e2⟩ ?_
          rotate_left
          · intro w' hSw
            (try dsimp only at hSw)
            go_simp
            (try with_reducible rfl)
          simp only [psA, psB, psC]
          refine anyT_one (i := 22) (o := ⟨some 38, _, _, _, _, _⟩) (L' := (bA 39 8388607)) rfl (by kernel_rfl) (by kernel_rfl) (fun K hK => ?_)
          have HK := Lib.hid hK
          clear hK
          go_simp
          refine (rcompareRows_any A1 B1 c1 d1 xo yo S wr.drew (HF1.out.keep (fun _ _ => rfl)) (HE1.out.keep (fun _ _ => rfl)) (fun b hb => by have := hS b hb; show b < wr.heap.size; omega)).mono ?_
          rw [hcv]
          rintro e w1 ⟨rfl, hv1'⟩
          have hv1 : Below wr.heap.size wr w1 := (Below.refl _ wr).drew.trans hv1'
          have p0 := (hv1.cell (p := ⟨b1, o1 + k * 3, none⟩) hl1).trans f0
          have p1 := (hv1.cell (p := ⟨b1, o1 + k * 3 + 1, none⟩) hl1).trans f1
          have p2 := (hv1.cell (p := ⟨b1, o1 + k * 3 + 2, none⟩) hl1).trans f2
          have p3 := (hv1.cell (p := ⟨b2, o2 + k * 3, none⟩) hl2).trans e0
          have p4 := (hv1.cell (p := ⟨b2, o2 + k * 3 + 1, none⟩) hl2).trans e1
          have p5 := (hv1.cell (p := ⟨b2, o2 + k * 3 + 2, none⟩) hl2).trans e2
          refine HK.out _ _ (fun _ => ⟨hv1, p0, p1, p2, p3, p4, p5⟩) ?_
          clear HK K
          try simp only [Act.put, psA, psB, psC]
          refine tk 23 39 (bA 39 16777215) ?_ rfl (by kernel_rfl) (by kernel_rfl) HP.out (by rfl) ?_ ⟨hv1, p0, p1, p2, p3, p4, p5⟩ ?_
          rotate_left
          · intro w' hSw
            (try dsimp only at hSw)
            go_simp
            (try with_reducible rfl)
          simp only [psA, psB, psC]
          refine tk 24 40 (bA 39 33554431) ?_ rfl (by kernel_rfl) (by kernel_rfl) HP.out (by rfl) ?_ ⟨hv1, p0, p1, p2, p3, p4, p5⟩ ?_
          rotate_left
          · intro w' hSw
            (try dsimp only at hSw)
            go_simp
            (try with_reducible rfl)
          simp only [psA, psB, psC]
          refine tk 25 41 (bA 39 67108863) ?_ rfl (by kernel_rfl) (by kernel_rfl) HP.out (by rfl) ?_ ⟨hv1, p0, p1, p2, p3, p4, p5⟩ ?_
          rotate_left
          · intro w' hSw
            (try dsimp only at hSw)
            go_simp
            (try with_reducible rfl)
          simp only [psA, psB, psC]
          refine anyT_take (i := 26) (oi := ⟨some 42, _, _, _, _, _⟩) (v := undef) (L' := (bA 39 134217727)) rfl rfl (by kernel_rfl) (by kernel_rfl) (by kernel_rfl) (by kernel_rfl) (by kernel_rfl) HP.out (Or.inr ⟨by rfl, rfl⟩) ⟨hv1, p0, p1, p2, p3, p4, p5⟩ ?_
          simp only [psA, psB, psC]
          refine anyT_take (i := 27) (oi := ⟨some 43, _, _, _, _, _⟩) (v := undef) (L' := (bA 39 268435455)) rfl rfl (by kernel_rfl) (by kernel_rfl) (by kernel_rfl) (by kernel_rfl) (by kernel_rfl) HP.out (Or.inr ⟨by rfl, rfl⟩) ⟨hv1, p0, p1, p2, p3, p4, p5⟩ ?_
          simp only [psA, psB, psC]
          refine anyT_take (i := 28) (oi := ⟨some 44, _, _, _, _, _⟩) (v := undef) (L' := (bA 39 536870911)) rfl rfl (by kernel_rfl) (by kernel_rfl) (by kernel_rfl) (by kernel_rfl) (by kernel_rfl) HP.out (Or.inr ⟨by rfl, rfl⟩) ⟨hv1, p0, p1, p2, p3, p4, p5⟩ ?_
          simp only [psA, psB, psC]
          refine anyT_take (i := 29) (oi := ⟨some 45, _, _, _, _, _⟩) (v := undef) (L' := (bA 39 1073741823)) rfl rfl (by kernel_rfl) (by kernel_rfl) (by kernel_rfl) (by kernel_rfl) (by kernel_rfl) HP.out (Or.inr ⟨by rfl, rfl⟩) ⟨hv1, p0, p1, p2, p3, p4, p5⟩ ?_
          simp only [psA, psB, psC]
          refine anyT_take (i := 30) (oi := ⟨some 46, _, _, _, _, _⟩) (v := undef) (L' := (bA 39 2147483647)) rfl rfl (by kernel_rfl) (by kernel_rfl) (by kernel_rfl) (by kernel_rfl) (by kernel_rfl) HP.out (Or.inr ⟨by rfl, rfl⟩) ⟨hv1, p0, p1, p2, p3, p4, p5⟩ ?_
          simp only [psA, psB, psC]
          refine anyT_take (i := 31) (oi := ⟨some 47, _, _, _, _, _⟩) (v := undef) (L' := (bA 39 4294967295)) rfl rfl (by kernel_rfl) (by kernel_rfl) (by kernel_rfl) (by kernel_rfl) (by kernel_rfl) HP.out (Or.inr ⟨by rfl, rfl⟩) ⟨hv1, p0, p1, p2, p3, p4, p5⟩ ?_
          simp only [psA, psB, psC]
          refine anyT_take (i := 32) (oi := ⟨some 48, _, _, _, _, _⟩) (v := undef) (L' := (bA 39 8589934591)) rfl rfl (by kernel_rfl) (by kernel_rfl) (by kernel_rfl) (by kernel_rfl) (by kernel_rfl) HP.out (Or.inr ⟨by rfl, rfl⟩) ⟨hv1, p0, p1, p2, p3, p4, p5⟩ ?_
          simp only [psA, psB, psC]
          refine anyT_take (i := 33) (oi := ⟨some 49, _, _, _, _, _⟩) (v := undef) (L' := (bA 39 17179869183)) rfl rfl (by kernel_rfl) (by kernel_rfl) (by kernel_rfl) (by kernel_rfl) (by kernel_rfl) HP.out (Or.inr ⟨by rfl, rfl⟩) ⟨hv1, p0, p1, p2, p3, p4, p5⟩ ?_
          simp only [psA, psB, psC]
          refine anyT_take (i := 34) (oi := ⟨some 50, _, _, _, _, _⟩) (v := undef) (L' := (bA 39 34359738367)) rfl rfl (by kernel_rfl) (by kernel_rfl) (by kernel_rfl) (by kernel_rfl) (by kernel_rfl) HP.out (Or.inr ⟨by rfl, rfl⟩) ⟨hv1, p0, p1, p2, p3, p4, p5⟩ ?_
          simp only [psA, psB, psC]
          refine anyT_take (i := 35) (oi := ⟨some 51, _, _, _, _, _⟩) (v := undef) (L' := (bA 39 68719476735)) rfl rfl (by kernel_rfl) (by kernel_rfl) (by kernel_rfl) (by kernel_rfl) (by kernel_rfl) HP.out (Or.inr ⟨by rfl, rfl⟩) ⟨hv1, p0, p1, p2, p3, p4, p5⟩ ?_
          simp only [psA, psB, psC]
          refine anyT_take (i := 36) (oi := ⟨some 52, _, _, _, _, _⟩) (v := undef) (L' := (bA 39 137438953471)) rfl rfl (by kernel_rfl) (by kernel_rfl) (by kernel_rfl) (by kernel_rfl) (by kernel_rfl) HP.out (Or.inr ⟨by rfl, rfl⟩) ⟨hv1, p0, p1, p2, p3, p4, p5⟩ ?_
          simp only [psA, psB, psC]
          refine anyT_take (i := 37) (oi := ⟨some 53, _, _, _, _, _⟩) (v := undef) (L' := (bA 39 274877906943)) rfl rfl (by kernel_rfl) (by kernel_rfl) (by kernel_rfl) (by kernel_rfl) (by kernel_rfl) HP.out (Or.inr ⟨by rfl, rfl⟩) ⟨hv1, p0, p1, p2, p3, p4, p5⟩ ?_
          simp only [psA, psB, psC]
          refine tk 38 54 (bA 39 549755813887) ?_ rfl (by kernel_rfl) (by kernel_rfl) HP.out (by rfl) ?_ ⟨hv1, p0, p1, p2, p3, p4, p5⟩ ?_
          rotate_left
          · intro w' hSw
            (try dsimp only at hSw)
            go_simp
            (try with_reducible rfl)
          simp only [psA, psB, psC]
          refine anyU_done (by kernel_rfl) ?_
          rw [HQ.out]
          clear HQ HP Q'
          have HB1 := Lib.hid (HB.out.trans (hv1.mono hsz))
          clear hv1 hv1' f0 f1 f2 e0 e1 e2
          go_wp2_with fail
          go_ret
          exact ⟨by rw [HF.out]; rfl, HB1.out⟩
      · have hbt : (xt != yt) = true := by simp [ht]
        have HF := Lib.hid (HC.out (fun e => ht (by injection e)))
        go_wp2_with fail
        go_quiet (fail)
        go_wp2_with fail
        go_ret
        exact ⟨by rw [HF.out]; rfl, below_drewN HB.out _⟩
    · have HF := Lib.hid (show decide (a = b) = true from decide_eq_true (takeG_end (by omega) HL.out HT.out))
      go_wp2_with fail
      go_ret
      exact ⟨by rw [HF.out]; rfl, HB.out⟩
 · have hd0 : ((a.length : Int) != b.length) = true := by simp; omega
   have HF := Lib.hid (show decide (a = b) = false from decide_eq_false (fun e => hlen (by rw [e])))
   go_enter Try.func26, Try.ntmps26
   go_wp2_with fail
   go_ret
   exact ⟨by rw [HF.out]; rfl, Below.refl _ _⟩
end Go.Proofs.Ytkpjjfhfbpfjpaa
namespace Go.Proofs.Ytkpjjfhfbpfjpaa
open Go.RowKit
theorem vals_rows {w : World} {S : Nat → Prop} {A : Option Addr} {c : Nat} {l : List Row} (h1 : l.length ≤ c) (h2 : RowsS w S A l) : Dat.Vals w S (encRows l) [.slice A l.length c] := by
 unfold encRows Dat.Vals
 exact ⟨A, c, by simp, by simpa using h1, h2⟩
def CopPost (st : St) (w : World) (e : Ending) (w' : World) : Prop := ∃ A c, e = .returned (stAgg A st.length c) ∧ Mk w' w.heap.size (fun _ => False) 49 1 (.slice A st.length c) (st.map encRows) ∧ Below w.heap.size w w'
theorem Mk.low {w : World} {base base' size : Nat} {S0 : Nat → Prop} {e : TypeId} {v : Value} {l : List Dat} (h : Mk w base S0 e size v l) (hb : base' ≤ base) (hlo : ∀ b, S0 b → b < base') : Mk w base' S0 e size v l := by
 obtain ⟨vals, h1, h2, h3⟩ := h.own
 refine ⟨⟨vals, ownsRow_low h1 hb, Dat.ValsAll.more (fun b hb' => hb'.imp id (fun hb' => ⟨Nat.le_trans hb hb'.1, hb'.2⟩)) _ _ h2, fun b hb' => ?_⟩, hlo, Nat.le_trans hb h.hi⟩
 rcases hb' with hb' | hb'
 · exact h3 b (.inl hb')
 · exact hb'.2
structure CopI (w wr : World) (st : St) (A : Option Addr) (ca k : Nat) (A1 : Option Addr) (c1 : Nat) : Prop where
 mkl : Mk wr (w.heap.size + 3) (fun _ => False) 49 1 (.slice A1 k c1) ((st.take k).map encRows)
 bel : Below w.heap.size w wr
 a0 : wr.cell? ⟨w.heap.size, 0, none⟩ = some (.slice A st.length ca)
 r0 : wr.cell? ⟨w.heap.size + 1, 0, none⟩ = some (.slice none 0 0)
 rf : wr.frozen? ⟨w.heap.size + 1, 0, none⟩ = false
 o0 : wr.cell? ⟨w.heap.size + 2, 0, none⟩ = some (.slice A1 k c1)
 fz : wr.frozen? ⟨w.heap.size + 2, 0, none⟩ = false
theorem CopI.below {w wr wx : World} {st : St} {A A1 : Option Addr} {ca k c1 : Nat} (h : CopI w wr st A ca k A1 c1) (hb : Below wr.heap.size wr wx) : CopI w wx st A ca k A1 c1 := by
 have hz := h.mkl.hi
 exact ⟨h.mkl.below hb, h.bel.trans (hb.mono (by omega)), (hb.cell (p := ⟨w.heap.size, 0, none⟩) (by show w.heap.size < _; omega)).trans h.a0, (hb.cell (p := ⟨w.heap.size + 1, 0, none⟩) (by show w.heap.size + 1 < _; omega)).trans h.r0, (hb.frozen (p := ⟨w.heap.size + 1, 0, none⟩) (by show w.heap.size + 1 < _; omega)).trans h.rf, (hb.cell (p := ⟨w.heap.size + 2, 0, none⟩) (by show w.heap.size + 2 < _; omega)).trans h.o0, (hb.frozen (p := ⟨w.heap.size + 2, 0, none⟩) (by show w.heap.size + 2 < _; omega)).trans h.fz⟩
theorem CopI.next {w wr wx : World} {st : St} {A A1 A2 : Option Addr} {ca k c1 c2 : Nat} (h : CopI w wr st A ca k A1 c1) (hb : Below (w.heap.size + 3) wr wx) (hm : Mk wx (w.heap.size + 3) (fun _ => False) 49 1 (.slice A2 (k + 1) c2) ((st.take (k + 1)).map encRows)) : CopI w (wx.setCell ⟨w.heap.size + 2, 0, none⟩ (.slice A2 (k + 1) c2)) st A ca (k + 1) A2 c2 := by
 have hz := h.mkl.hi
 have hne : ∀ b, b ≠ w.heap.size + 2 → (wx.setCell ⟨w.heap.size + 2, 0, none⟩ (.slice A2 (k + 1) c2)).heap[b]? = wx.heap[b]? := fun b h => Below.heap_setCell wx ⟨w.heap.size + 2, 0, none⟩ _ b h
 have hc : ∀ b o, b < w.heap.size + 2 → (wx.setCell ⟨w.heap.size + 2, 0, none⟩ (.slice A2 (k + 1) c2)).cell? ⟨b, o, none⟩ = wr.cell? ⟨b, o, none⟩ := fun b o hb' => (World.cell?_of_block (hne b (by omega))).trans (hb.cell (p := ⟨b, o, none⟩) (by show b < _; omega))
 have ho := (hb.cell (p := ⟨w.heap.size + 2, 0, none⟩) (by show w.heap.size + 2 < _; omega)).trans h.o0
 have hfr : Fr (fun b => b = w.heap.size + 2) wx (wx.setCell ⟨w.heap.size + 2, 0, none⟩ (.slice A2 (k + 1) c2)) := (Fr.refl _ wx).setCell _ (fun _ => rfl)
 refine ⟨hm.keep hfr (fun b hb' => ⟨by omega, fun h => h⟩), (h.bel.trans (hb.mono (by omega))).trans (hfr.below (n := w.heap.size) (by have := hb.size; omega) (fun b hb' e => by omega)), (hc _ _ (by omega)).trans h.a0, (hc _ _ (by omega)).trans h.r0, ?_, World.cell?_setCell_same _ _ _ ho, ?_⟩
 · exact (World.frozen?_of_block (hne (w.heap.size + 1) (by omega))).trans ((hb.frozen (p := ⟨w.heap.size + 1, 0, none⟩) (by show w.heap.size + 1 < _; omega)).trans h.rf)
 · rw [World.frozen?_setCell]; exact (hb.frozen (p := ⟨w.heap.size + 2, 0, none⟩) (by show w.heap.size + 2 < _; omega)).trans h.fz
theorem take_snocG {α : Type} {d : α} {l : List α} {k : Nat} (h : k < l.length) : l.take (k + 1) = l.take k ++ [l.getD k d] := by
 rw [List.take_succ_eq_append_getElem h]; simp [List.getD, h]
set_option maxHeartbeats 4000000 in
theorem rcopySt_any (A : Option Addr) (ca : Nat) (st : St) (S : Nat → Prop) (w : World) (hst : StS w S A st) (hS : ∀ b, S b → b < w.heap.size) :
  Calls Try.prog 28 #[stAgg A st.length ca] w (CopPost st w) := by
 obtain ⟨i0, hi, hz0, hz1, hz2⟩ := info_parts infoR
 obtain ⟨j0, hj, hj0, hj1, hj2⟩ := info_parts infoRs
 have hsl := hst.len
 have HST := Lib.hid hst
 clear hst
 have HB0 := Lib.hid ((((Below.refl w.heap.size w).alloc (Nat.le_refl _) (.cells #[.slice A st.length ca] 56)).alloc (by simp) (.cells #[.slice none 0 0] 56)).alloc (by simp; omega) (.cells #[.slice none 0 0] 56))
 have HI0 := Lib.hid (show CopI w (((w.alloc (.cells #[.slice A st.length ca] 56)).alloc (.cells #[.slice none 0 0] 56)).alloc (.cells #[.slice none 0 0] 56)) st A ca 0 none 0 from
  ⟨Mk.start (fun b hb => hb.elim) (by simp) _ _, HB0.out, (cell_old (by simp; omega)).trans ((cell_old (by simp)).trans (cell_new rfl rfl)), (cell_old (by simp)).trans (cell_new (by simp) rfl), (frozen_old (by simp)).trans (frozen_new (by simp)), cell_new (by simp) rfl, frozen_new (by simp)⟩)
 go_enter Try.func28, Try.ntmps28
 go_wp2_with fail
 go_loopw [12] (fun i wr => ∃ (k : Nat) (A1 : Option Addr) (c1 : Nat), k ≤ st.length ∧ i = .int .i64 k ∧ CopI w wr st A ca k A1 c1) (fun i _ => st.length - (intOf i).toNat)
 case atStart => exact ⟨0, none, 0, Nat.zero_le _, rfl, HI0.out⟩
 case round =>
  obtain ⟨wo, rfl⟩ : ∃ wo : World, wo = wr := ⟨_, rfl⟩
  obtain ⟨k, A1, c1, hk, rfl, hci⟩ := hrel
  have HCI := Lib.hid hci
  have hwz := hci.mkl.hi
  clear hci
  by_cases hlt : k < st.length
  · have hSw : ∀ b, S b → b < wo.heap.size := fun b hb => by have := hS b hb; omega
    obtain ⟨b1, o1, rfl, hb1, A', c', d1, d2, d3⟩ := (HST.out.keep (Same.of_below HCI.out.bel hS)).at_ hlt
    have hl1 : b1 < wo.heap.size := hSw b1 hb1
    have HR := Lib.hid d3
    have hrl := d3.len
    have HTK := Lib.hid (show st.take (k + 1) = st.take k ++ [st.getD k []] from take_snocG hlt)
    clear d2 d3
    generalize st.getD k [] = rows at d1 HR hrl HTK
    go_wp2_with fail
    go_loopw [6, 18] (fun out i wi => ∃ (j : Nat) (A2 : Option Addr) (c2 : Nat), j ≤ rows.length ∧ i = .int .i64 j ∧ out = .slice A2 j c2 ∧ Mk wi wo.heap.size (fun _ => False) 27 1 (.slice A2 j c2) ((rows.take j).map encRow) ∧ Below wo.heap.size wo wi) (fun _ i _ => rows.length - (intOf i).toNat)
    case atStart => exact ⟨0, none, 0, Nat.zero_le _, rfl, rfl, Mk.start (fun b hb => hb.elim) (Nat.le_refl _) _ _, Below.refl _ _⟩
    case round =>
     obtain ⟨j, A2, c2, hj', rfl, rfl, hmk, hbi⟩ := hrel
     have HMK := Lib.hid hmk
     have HBI := Lib.hid hbi
     have hzi := hbi.size
     clear hmk hbi d1
     by_cases hlj : j < rows.length
     · obtain ⟨b3, o3, rfl, hb3, A3, c3, f1, f2, f3⟩ := (HR.out.keep (Same.of_below HBI.out hSw)).at_ hlj
       have hl3 : b3 < wr.heap.size := by have := hSw b3 hb3; omega
       have HROW := Lib.hid f3
       have hrw := f3.len
       have HTJ := Lib.hid (show rows.take (j + 1) = rows.take j ++ [rows.getD j []] from take_snocG hlj)
       clear f2 f3
       generalize rows.getD j [] = row at f1 HROW hrw HTJ
       go_wp2_with fail
       refine (rcopy_any A3 c3 row S _ HROW.out).mono ?_
       rintro e w4 ⟨A4, c4, rfl, h4, hb4⟩
       have HBC := Lib.hid hb4
       have MKX := Lib.hid (HMK.out.below hb4)
       have N4 := Lib.hid (new_row h4 HROW.out.ok (Nat.le_refl _))
       have hz4 := hb4.size
       clear h4 hb4
       go_wp2_with (at_builtin; refine wpList_append_mk rfl (.tmp 22) (.tmp 25) 49 rfl wo.heap.size (fun _ => False) 27 i0 _ 1 24 Try.underlying49 hi hz0 hz1 hz2 rfl (by decide) _ _ _ _ _ MKX.out rfl (encRow row) #[.slice A4 row.length c4] (vals_row N4.out.1 (N4.out.2.more (fun b hb => .inr ⟨by omega, hb.2, fun e => by have := (HMK.out.base_le e.symm).2; omega⟩))) (by simp [encRow, Dat.Plain]) rfl 1 rfl (by omega) (by omega) ?_; intro g6 cap6 w6 hm6 hb6 hlt6; have MK6 := Lib.hid hm6; have HB6 := Lib.hid hb6; have hz6 := hb6.size; clear hm6 hb6)
       go_roundw
       case rel => exact ⟨j + 1, _, _, by omega, by go_num, rfl, by rw [HTJ.out, List.map_append]; exact MK6.out, HBI.out.trans ((HBC.out.mono (by omega)).trans HB6.out)⟩
       case measure => simp [intOf]; omega
     · have HE := Lib.hid (show rows.take j = rows from List.take_of_length_le (by omega))
       have hje : j = rows.length := by omega
       subst hje
       obtain ⟨-, q2, q3⟩ := HMK.out.slice (by rw [HE.out, bytesAll_map (n := 24) (fun _ => rfl)]; omega)
       rw [HE.out] at q3
       have Q3 := Lib.hid q3
       clear q3
       have HX := Lib.hid (HCI.out.below HBI.out)
       have o0 := HX.out.o0
       have fz := HX.out.fz
       have hw2 : w.heap.size + 2 < wr.heap.size := by omega
       go_wp2_with (at_builtin; refine wpList_append_mk rfl (.tmp 29) (.tmp 31) 54 rfl (w.heap.size + 3) (fun _ => False) 49 j0 _ 1 24 Try.underlying54 hj hj0 hj1 hj2 rfl (by decide) _ _ _ _ _ HX.out.mkl rfl (encRows rows) #[.slice A2 rows.length c2] (vals_rows q2 (Sl.more Q3.out (fun b hb => hb.elim (fun h => h.elim) (fun hb => .inr ⟨by omega, hb.2, fun e => by have := (HCI.out.mkl.base_le e.symm).2; omega⟩)))) (by simp [encRows, Dat.Plain]) rfl 1 rfl (by omega) (by omega) ?_; intro g6 cap6 w6 hm6 hb6 hlt6; have MK6 := Lib.hid hm6; have HB6 := Lib.hid hb6; have hz6 := hb6.size; clear hm6 hb6; have o6 := (HB6.out.cell (p := ⟨w.heap.size + 2, 0, none⟩) (by show w.heap.size + 2 < _; omega)).trans o0; have fz6 := (HB6.out.frozen (p := ⟨w.heap.size + 2, 0, none⟩) (by show w.heap.size + 2 < _; omega)).trans fz; have hw6 : w.heap.size + 2 < w6.heap.size := by omega)
       go_roundw
       case rel => exact ⟨k + 1, _, _, by omega, by go_num, HX.out.next HB6.out (by rw [HTK.out, List.map_append]; exact MK6.out)⟩
       case measure => simp [intOf]; omega
  · have hke : k = st.length := by omega
    subst hke
    have o0 := HCI.out.o0
    have r0 := HCI.out.r0
    have rf := HCI.out.rf
    have hw2 : w.heap.size + 2 < wo.heap.size := by omega
    have hw1 : w.heap.size + 1 < wo.heap.size := by omega
    go_wp2_with fail
    have x0 : (wo.setCell ⟨w.heap.size + 1, 0, none⟩ (.slice A1 st.length c1)).cell? ⟨w.heap.size + 1, 0, none⟩ = some (.slice A1 st.length c1) := World.cell?_setCell_same _ _ _ r0
    have hfr : Fr (fun b => b = w.heap.size + 1) wo (wo.setCell ⟨w.heap.size + 1, 0, none⟩ (.slice A1 st.length c1)) := (Fr.refl _ wo).setCell _ (fun _ => rfl)
    have hm := HCI.out.mkl
    rw [List.take_length] at hm
    exact bodyPost_ret (v := stAgg A1 st.length c1) (by simp [results, Try.results28, go_sem, x0]) rfl ⟨A1, c1, rfl, (hm.keep hfr (fun b hb => ⟨by omega, fun h => h⟩)).low (by omega) (fun b hb => hb.elim), HCI.out.bel.trans (hfr.below (by omega) (fun b hb e => by omega))⟩
end Go.Proofs.Ytkpjjfhfbpfjpaa
namespace Go.Proofs.Ytkpjjfhfbpfjpaa
open Go.RowKit
theorem invF_len (l : List Chg) : (invF l).length = l.length := by simp [invF]
theorem invF_at {l : List Chg} {k j : Nat} (h : j + k + 1 = l.length) : (invF l).getD k chg0 = invC (l.getD j chg0) := by
 have h1 : k < (invF l).length := by rw [invF_len]; omega
 have h2 : j < l.length := by omega
 have e1 : (invF l).getD k chg0 = (invF l)[k] := by simp [List.getD, h1]
 have e2 : l.getD j chg0 = l[j] := by simp [List.getD, h2]
 rw [e1, e2]
 simp only [invF, List.getElem_map, List.getElem_reverse]
 congr 2
 omega
set_option maxHeartbeats 4000000 in
theorem rinvert_any (A : Option Addr) (ca : Nat) (l : List Chg) (S : Nat → Prop) (w : World) (hl : ChgS w S A l) (hS : ∀ b, S b → b < w.heap.size) :
  Calls Try.prog 27 #[.slice A l.length ca] w (NewCs (invF l) w) := by
 obtain ⟨i0, hi, hz0, hz1, hz2⟩ := info_parts infoC
 have hll := hl.len
 have HL := Lib.hid hl
 clear hl
 go_enter Try.func27, Try.ntmps27
 go_wp2_with fail
 go_loopw [3, 4, 5] (fun out i _ wr => ∃ (k : Nat) (j : Int) (A3 : Option Addr) (c3 : Nat), j + k + 1 = l.length ∧ -1 ≤ j ∧ i = .int .i64 j ∧ out = .slice A3 k c3 ∧ Mk wr w.heap.size (fun _ => False) 53 3 (.slice A3 k c3) (((invF l).take k).map encChg) ∧ Below w.heap.size w wr) (fun _ i _ _ => (intOf i + 1).toNat)
 case atStart => exact ⟨0, (l.length : Int) - 1, none, 0, by omega, by omega, by go_num, rfl, Mk.start (fun b hb => hb.elim) (Nat.le_refl _) _ _, Below.refl _ _⟩
 case round =>
  obtain ⟨k, j, A3, c3, hjk, hj0, rfl, rfl, hmk, hbel⟩ := hrel
  have HM := Lib.hid hmk
  have HB := Lib.hid hbel
  have hsz := hbel.size
  clear hmk hbel
  by_cases hj : 0 ≤ j
  · obtain ⟨jn, rfl⟩ := Int.eq_ofNat_of_zero_le hj
    have hjl : jn < l.length := by omega
    have hSr : ∀ b, S b → b < wr.heap.size := fun b hb => by have := hS b hb; omega
    obtain ⟨b1, o1, rfl, hb1, f0, A1, c1, A2, c2, f1, f1c, f1r, f2, f2c, f2r⟩ := (HL.out.keep (Same.of_below HB.out hS)).at_ hjl
    have hl1 : b1 < wr.heap.size := hSr b1 hb1
    have HTK := Lib.hid (show (invF l).take (k + 1) = (invF l).take k ++ [invC (l.getD jn chg0)] by rw [take_snocG (d := chg0) (by rw [invF_len]; omega), invF_at (j := jn) (k := k) (by omega)])
    have HOR := Lib.hid f1r
    have HNR := Lib.hid f2r
    have hol := f1r.len
    have hnl := f2r.len
    clear f1c f1r f2c f2r
    generalize l.getD jn chg0 = x at f0 f1 f2 HTK HOR HNR hol hnl
    obtain ⟨xt, xo, xn⟩ := x
    dsimp only at f0 f1 f2 HOR HNR hol hnl
    go_wp2_with fail
    obtain ⟨W, hW⟩ : ∃ W, wr.alloc (.cells #[.int .i64 xt, .slice A1 xo.length c1, .slice A2 xn.length c2] 53) = W := ⟨_, rfl⟩
    have hWz : W.heap.size = wr.heap.size + 1 := by rw [← hW]; simp
    have hWb : Below wr.heap.size wr W := by rw [← hW]; exact (Below.refl _ _).alloc (Nat.le_refl _) _
    have u0 : W.cell? ⟨wr.heap.size, 0, none⟩ = some (.int .i64 xt) := by rw [← hW]; exact cell_new rfl rfl
    have u1 : W.cell? ⟨wr.heap.size, 1, none⟩ = some (.slice A1 xo.length c1) := by rw [← hW]; exact cell_new rfl rfl
    have u2 : W.cell? ⟨wr.heap.size, 2, none⟩ = some (.slice A2 xn.length c2) := by rw [← hW]; exact cell_new rfl rfl
    have HMW := Lib.hid (HM.out.below hWb)
    rw [hW]
    refine hideQ (fun c a d v w h => by cases d <;> exact h) (fun Q' HQ HP => ?_)
    refine regionT_until (fun w' => w'.cell? ⟨wr.heap.size, 0, none⟩ = some (.int .i64 xt) ∧ w'.cell? ⟨wr.heap.size, 1, none⟩ = some (.slice A1 xo.length c1) ∧ w'.cell? ⟨wr.heap.size, 2, none⟩ = some (.slice A2 xn.length c2)) 12 13 (bA 13 0) (by kernel_rfl) (by kernel_rfl) (by kernel_rfl) ?_
    refine tk 1 18 (bA 13 2) ?_ rfl (by kernel_rfl) (by kernel_rfl) HP.out (by rfl) ?_ ⟨u0, u1, u2⟩ ?_
    rotate_left
    · intro w' hSw
      (try dsimp only at hSw)
      go_simp
      (try with_reducible rfl)
    simp only [psA, psB, psC]
    refine tk 2 19 (bA 13 6) ?_ rfl (by kernel_rfl) (by kernel_rfl) HP.out (by rfl) ?_ ⟨u0, u1, u2⟩ ?_
    rotate_left
    · intro w' hSw
      (try dsimp only at hSw)
      go_simp
      (try with_reducible rfl)
    simp only [psA, psB, psC]
    refine tk 3 20 (bA 13 14) ?_ rfl (by kernel_rfl) (by kernel_rfl) HP.out (by rfl) ?_ ⟨u0, u1, u2⟩ ?_
    rotate_left
    · intro w' hSw
      (try dsimp only at hSw)
      go_simp
      (try with_reducible rfl)
    simp only [psA, psB, psC]
    refine tk 4 21 (bA 13 30) ?_ rfl (by kernel_rfl) (by kernel_rfl) HP.out (by rfl) ?_ ⟨u0, u1, u2⟩ ?_
    rotate_left
    · intro w' hSw
      (try dsimp only at hSw)
      go_simp
      (try with_reducible rfl)
    simp only [psA, psB, psC]
    refine tk 6 23 (bA 13 94) ?_ rfl (by kernel_rfl) (by kernel_rfl) HP.out (by rfl) ?_ ⟨u0, u1, u2⟩ ?_
    rotate_left
    · intro w' hSw
      (try dsimp only at hSw)
      go_simp
      (try with_reducible rfl)
    simp only [psA, psB, psC]
    refine tk 7 24 (bA 13 222) ?_ rfl (by kernel_rfl) (by kernel_rfl) HP.out (by rfl) ?_ ⟨u0, u1, u2⟩ ?_
    rotate_left
    · intro w' hSw
      (try dsimp only at hSw)
      go_simp
      (try with_reducible rfl)
    simp only [psA, psB, psC]
    refine tk 0 17 (bA 13 223) ?_ rfl (by kernel_rfl) (by kernel_rfl) HP.out (by rfl) ?_ ⟨u0, u1, u2⟩ ?_
    rotate_left
    · intro w' hSw
      (try dsimp only at hSw)
      go_simp
      (try with_reducible rfl)
    simp only [psA, psB, psC]
    refine anyT_one (i := 5) (o := ⟨some 22, _, _, _, _, _⟩) (L' := (bA 13 255)) rfl (by kernel_rfl) (by kernel_rfl) (fun K hK => ?_)
    have HK := Lib.hid hK
    clear hK
    go_simp
    refine (rcopy_any A2 c2 xn S _ (by exact Sl.keep HNR.out (fun b hb => hWb.block b (hSr b hb)))).mono ?_
    rintro e wa ⟨NA, cn, rfl, howna, hba0⟩
    have hba : Below W.heap.size W wa := (by first | exact (Below.refl _ W).drew.trans hba0 | exact hba0)
    have hzwa : W.heap.size ≤ wa.heap.size := hba.size
    have p0 := (hba.cell (p := ⟨wr.heap.size, 0, none⟩) (by simp; omega)).trans u0
    have p1 := (hba.cell (p := ⟨wr.heap.size, 1, none⟩) (by simp; omega)).trans u1
    have p2 := (hba.cell (p := ⟨wr.heap.size, 2, none⟩) (by simp; omega)).trans u2
    refine HK.out _ _ (fun _ => ⟨p0, p1, p2⟩) ?_
    clear HK K
    try simp only [Act.put, psA, psB, psC]
    refine anyT_one (i := 8) (o := ⟨some 25, _, _, _, _, _⟩) (L' := (bA 13 511)) rfl (by kernel_rfl) (by kernel_rfl) (fun K hK => ?_)
    have HK := Lib.hid hK
    clear hK
    go_simp
    refine (rcopy_any A1 c1 xo S _ (by exact Sl.keep HOR.out (fun b hb => (hba.block b (by rw [hWz]; have := hSr b hb; omega)).trans (hWb.block b (hSr b hb))))).mono ?_
    rintro e wb ⟨NB, cm, rfl, hownb, hbb0⟩
    have hbb : Below wa.heap.size wa wb := (by first | exact (Below.refl _ wa).drew.trans hbb0 | exact hbb0)
    have hzwb : wa.heap.size ≤ wb.heap.size := hbb.size
    have q0 := (hbb.cell (p := ⟨wr.heap.size, 0, none⟩) (by simp; omega)).trans p0
    have q1 := (hbb.cell (p := ⟨wr.heap.size, 1, none⟩) (by simp; omega)).trans p1
    have q2 := (hbb.cell (p := ⟨wr.heap.size, 2, none⟩) (by simp; omega)).trans p2
    refine HK.out _ _ (fun _ => ⟨q0, q1, q2⟩) ?_
    clear HK K
    have HMB := Lib.hid ((HMW.out.below hba).below hbb)
    have VN := Lib.hid (show xn.length ≤ cn ∧ RowS wb (fun b => False ∨ Beh w.heap.size wb (.slice A3 k c3) b) NA xn from ⟨(new_row howna HNR.out.ok (Nat.le_refl _)).1, ((new_row howna HNR.out.ok (Nat.le_refl _)).2.keep (Same.of_below hbb (fun b hb => hb.2))).more (fun b hb => .inr ⟨by have h9 : W.heap.size ≤ b := hb.1; omega, by have := hb.2; omega, fun e => by have h8 := (HM.out.base_le e.symm).2; have h9 : W.heap.size ≤ b := hb.1; omega⟩)⟩)
    have VO := Lib.hid (show xo.length ≤ cm ∧ RowS wb (fun b => False ∨ Beh w.heap.size wb (.slice A3 k c3) b) NB xo from ⟨(new_row hownb HOR.out.ok (Nat.le_refl _)).1, (new_row hownb HOR.out.ok (Nat.le_refl _)).2.more (fun b hb => .inr ⟨by have h9 : wa.heap.size ≤ b := hb.1; omega, hb.2, fun e => by have h8 := (HM.out.base_le e.symm).2; have h9 : wa.heap.size ≤ b := hb.1; omega⟩)⟩)
    clear howna hownb
    try simp only [Act.put, psA, psB, psC]
    refine tk 9 26 (bA 13 1023) ?_ rfl (by kernel_rfl) (by kernel_rfl) HP.out (by rfl) ?_ ⟨q0, q1, q2⟩ ?_
    rotate_left
    · intro w' hSw
      (try dsimp only at hSw)
      go_simp
      (try with_reducible rfl)
    simp only [psA, psB, psC]
    refine anyT_one (i := 10) (o := ⟨some 27, _, _, _, _, _⟩) (L' := (bA 13 2047)) rfl (by kernel_rfl) (by kernel_rfl) (fun K hK => ?_)
    have HK := Lib.hid hK
    clear hK
    go_simp
    have r0 : (wb.alloc (.cells #[.int .i64 xt, .slice NA xn.length cn, .slice NB xo.length cm] 53)).cell? ⟨wr.heap.size, 0, none⟩ = _ := (cell_old (by omega)).trans q0
    have r1 : (wb.alloc (.cells #[.int .i64 xt, .slice NA xn.length cn, .slice NB xo.length cm] 53)).cell? ⟨wr.heap.size, 1, none⟩ = _ := (cell_old (by omega)).trans q1
    have r2 : (wb.alloc (.cells #[.int .i64 xt, .slice NA xn.length cn, .slice NB xo.length cm] 53)).cell? ⟨wr.heap.size, 2, none⟩ = _ := (cell_old (by omega)).trans q2
    refine HK.out _ _ (fun _ => ⟨r0, r1, r2⟩) ?_
    clear HK K
    try simp only [Act.put, psA, psB, psC]
    refine anyT_one (i := 11) (o := ⟨some 28, _, _, _, _, _⟩) (L' := (bA 13 4095)) rfl (by kernel_rfl) (by kernel_rfl) (fun K hK => ?_)
    refine step_append_mkf (by rfl) (.tmp 17) (.tmp 27) _ (by rfl) w.heap.size (fun _ => False) 53 i0 _ 3 56 Try.underlying48 hi hz0 hz1 hz2 rfl (by decide) wb A3 k c3 _ HMB.out (by rfl) (encChg ⟨xt, xn, xo⟩) #[.int .i64 xt, .slice NA xn.length cn, .slice NB xo.length cm] (vals_chg VN.out VO.out) (encChg_plain _) (encChg_size _) 1 (by rfl) (by omega) (by omega) ?_
    intro g7 c7 w7 hm7 hb7 hlt7 hf7 hat7
    have HM7 := Lib.hid hm7
    have HB7 := Lib.hid hb7
    have m0 : w7.cell? ⟨wr.heap.size, 0, none⟩ = _ := (hf7.cell (by omega) (fun e => by have := (HM.out.base_le e.symm).2; omega)).trans q0
    have m1 : w7.cell? ⟨wr.heap.size, 1, none⟩ = _ := (hf7.cell (by omega) (fun e => by have := (HM.out.base_le e.symm).2; omega)).trans q1
    have m2 : w7.cell? ⟨wr.heap.size, 2, none⟩ = _ := (hf7.cell (by omega) (fun e => by have := (HM.out.base_le e.symm).2; omega)).trans q2
    clear hm7 hb7 hf7 hat7
    refine hK _ _ (fun _ => ⟨m0, m1, m2⟩) ?_
    clear hK K
    try simp only [Act.put, psA, psB, psC]
    refine anyT_one (i := 12) (o := ⟨some 3, _, _, _, _, _⟩) (L' := (bA 13 8191)) rfl (by kernel_rfl) (by kernel_rfl) (fun K hK => ?_)
    have HK := Lib.hid hK
    clear hK
    go_simp
    refine HK.out _ _ (fun h => absurd rfl h) ?_
    clear HK K
    refine anyU_done (by kernel_rfl) ?_
    rw [HQ.out]
    clear HQ HP Q'
    go_wp2_with fail
    go_roundw
    case rel => exact ⟨k + 1, (jn : Int) - 1, _, _, by omega, by omega, by go_num, rfl, by rw [HTK.out, List.map_append]; exact HM7.out, HB.out.trans ((hWb.trans ((hba.trans (hbb.mono (by omega))).mono (by omega))).mono hsz |>.trans HB7.out)⟩
    case measure => (simp [intOf]; try omega)
  · have hjm : j = -1 := by omega
    subst hjm
    have hk : k = l.length := by omega
    subst hk
    go_wp2_with fail
    go_ret
    obtain ⟨-, q2, q3⟩ := HM.out.slice (by rw [bytesAll_map (n := 56) (fun _ => rfl), List.length_take, invF_len]; omega)
    rw [List.take_of_length_le (by rw [invF_len]; omega)] at q3
    exact ⟨A3, c3, by rw [invF_len]; rfl, by rw [invF_len]; exact q2, Sl.more q3 (fun b hb => hb.elim (fun h => h.elim) id), HB.out⟩
end Go.Proofs.Ytkpjjfhfbpfjpaa
