/- CutOrders: the walk. -/
import Derived.Test.YtjpknhhdkjhjfaaLat
namespace Go.Proofs.Ytjpknhhdkjhjfaa
open Go.RowKit
set_option linter.unusedVariables false

theorem isRow_ints {w : World} {a : Option Addr} {len cap : Nat} {zs : List Int} (h : IsRow .i64 w a len cap zs) : (zs.take len).length = len ∧ Ints w (fun b => b < w.heap.size) a (zs.take len) := by
  rcases h with ⟨rfl, rfl, rfl, rfl⟩ | ⟨x, rfl, hlc, hcm, hz, hcell, hwf⟩
  · exact ⟨rfl, Reads.none_⟩
  · have hl : (zs.take len).length = len := by simp; omega
    refine ⟨hl, ?_⟩
    unfold Ints
    rw [hl]
    refine ⟨by simp; omega, fun hn => ?_⟩
    have h0 := hcell 0 (by omega)
    have hspot : x.spot = none := by
      have : x.add 0 = x := by simp [Addr.add]
      rw [this] at h0
      unfold World.cell? at h0
      split at h0
      · by_cases hs : x.spot.isSome
        · simp [hs] at h0
        · simpa using hs
      · cases h0
    obtain ⟨b, off, sp⟩ := x
    simp only at hspot
    subst hspot
    refine ⟨b, off, rfl, ?_, fun j u hu => ?_⟩
    · exact World.block_lt_of_cell? w _ (by simpa [Addr.add] using h0)
    · have hj : j < len := by
        have := (List.getElem?_eq_some_iff.1 hu).1
        simp at this
        omega
      have := hcell j (by omega)
      rw [add_none] at this
      rw [this, ← hu]
      simp [List.getElem?_take_of_lt hj, show j < zs.length by omega]

/-- A pair of lists in a row of pairs. -/
def PairAt (W : World) (T : Nat) (k : Nat) : Prop :=
  ∃ (A : Option Addr) (ca : Nat) (x : List Int) (B : Option Addr) (cb : Nat) (y : List Int), W.cell? ⟨T, k * 2, none⟩ = some (.slice A x.length ca) ∧ W.cell? ⟨T, k * 2 + 1, none⟩ = some (.slice B y.length cb) ∧
    Ints W (fun b => b < T) A x ∧ Ints W (fun b => b < T) B y ∧ x.length ≤ 17592186044416 ∧ y.length ≤ 17592186044416
theorem PairAt.keep {W W' : World} {T k : Nat} (h : PairAt W T k) (hs : ∀ b, b ≤ T → W'.heap[b]? = W.heap[b]?) : PairAt W' T k := by
  obtain ⟨A, ca, x, B, cb, y, h1, h2, h3, h4, h5, h6⟩ := h
  exact ⟨A, ca, x, B, cb, y, (World.cell?_of_block (hs T (Nat.le_refl _))).trans h1, (World.cell?_of_block (hs T (Nat.le_refl _))).trans h2, h3.keep (fun b hb => hs b (Nat.le_of_lt hb)), h4.keep (fun b hb => hs b (Nat.le_of_lt hb)), h5, h6⟩

/-- What a round of CutOrders keeps. -/
structure OrdSt (w W : World) (T gx : Nat) (A : Option Addr) (ca : Nat) (x : List Int) (B : Option Addr) (cb : Nat) (y : List Int) : Prop where
  bel : Below w.heap.size w W
  wT : w.heap.size ≤ T
  tx : T < gx
  tab : ∀ k, k < 5 → PairAt W T k
  blk : W.heap[gx]? = some (.cells #[.slice A x.length ca, .slice B y.length cb] 56 (0, 0))
  ix : Ints W (fun b => b < W.heap.size) A x
  iy : Ints W (fun b => b < W.heap.size) B y
  lx : x.length ≤ 17592186044416
  ly : y.length ≤ 17592186044416
section
variable {w W W' : World} {T gx : Nat} {A : Option Addr} {ca : Nat} {x : List Int} {B : Option Addr} {cb : Nat} {y : List Int}
theorem OrdSt.lt (h : OrdSt w W T gx A ca x B cb y) : gx < W.heap.size := by
  rcases Nat.lt_or_ge gx W.heap.size with hlt | hge
  · exact hlt
  · have := h.blk; rw [Array.getElem?_eq_none hge] at this; cases this
theorem OrdSt.keep (h : OrdSt w W T gx A ca x B cb y) (hb : Below W.heap.size W W') : OrdSt w W' T gx A ca x B cb y := by
  have hl := h.lt
  have := h.tx
  exact ⟨h.bel.trans (hb.mono h.bel.size), h.wT, h.tx, fun k hk => (h.tab k hk).keep (fun b hb' => hb.block b (by omega)), (hb.block _ hl).trans h.blk,
    (h.ix.keep (fun b hb' => hb.block b hb')).more (fun b hb' => Nat.lt_of_lt_of_le hb' hb.size), (h.iy.keep (fun b hb' => hb.block b hb')).more (fun b hb' => Nat.lt_of_lt_of_le hb' hb.size), h.lx, h.ly⟩
theorem OrdSt.c0 (h : OrdSt w W T gx A ca x B cb y) : W.cell? ⟨gx, 0, none⟩ = some (.slice A x.length ca) := by simp [World.cell?, h.blk]
theorem OrdSt.c1 (h : OrdSt w W T gx A ca x B cb y) : W.cell? ⟨gx, 0 + 1, none⟩ = some (.slice B y.length cb) := by simp [World.cell?, h.blk]
end

theorem zipL_len {x : List Int} (y : List Int) (h : x.length ≤ 17592186044416) : (joinL x y).length ≤ 17592186044416 := by
  unfold joinL
  split
  · simp; omega
  · simp
theorem zipM_len {x : List Int} (y : List Int) (h : x.length ≤ 17592186044416) : (meetL x y).length ≤ 17592186044416 := by
  unfold meetL
  split
  · simp; omega
  · simp

theorem pairs5 {w W : World} {a b : Option Addr} {la lb ca cb n : Nat} {xa xb p q : List Int} {bp bq : Nat} (ea : xa.length = la) (eb : xb.length = lb) (ep : p.length = n) (eq : q.length = n) (ra : la ≤ 17592186044416) (rb : lb ≤ 17592186044416) (hn : n ≤ 1000)
    (ia : Ints W (fun b => b < w.heap.size) a xa) (ib : Ints W (fun b => b < w.heap.size) b xb) (hw : w.heap.size ≤ W.heap.size) (rp : Row W bp p) (rq : Row W bq q) :
    ∀ j, j < 5 → PairAt (W.alloc (.cells #[.slice a la ca, .slice b lb cb, .slice a la ca, .slice a la ca, .slice (some ⟨bp, 0, none⟩) n n, .slice (some ⟨bq, 0, none⟩) n n, .slice (some ⟨bq, 0, none⟩) n n, .slice (some ⟨bp, 0, none⟩) n n, .slice (some ⟨bp, 0, none⟩) n n, .slice b lb cb] 56)) W.heap.size j := by
  subst ea eb ep
  have hblk := heap_alloc_new W (.cells #[.slice a xa.length ca, .slice b xb.length cb, .slice a xa.length ca, .slice a xa.length ca, .slice (some ⟨bp, 0, none⟩) p.length p.length, .slice (some ⟨bq, 0, none⟩) p.length p.length, .slice (some ⟨bq, 0, none⟩) p.length p.length, .slice (some ⟨bp, 0, none⟩) p.length p.length, .slice (some ⟨bp, 0, none⟩) p.length p.length, .slice b xb.length cb] 56)
  have kp : ∀ (X : Obj) c, c < W.heap.size → (W.alloc X).heap[c]? = W.heap[c]? := fun X c hc => Below.heap_alloc _ _ _ hc
  have ja : ∀ X, Ints (W.alloc X) (fun b => b < W.heap.size) a xa := fun X => (ia.keep (fun c hc => kp X c (Nat.lt_of_lt_of_le hc hw))).more (fun c hc => Nat.lt_of_lt_of_le hc hw)
  have jb : ∀ X, Ints (W.alloc X) (fun b => b < W.heap.size) b xb := fun X => (ib.keep (fun c hc => kp X c (Nat.lt_of_lt_of_le hc hw))).more (fun c hc => Nat.lt_of_lt_of_le hc hw)
  have jp : ∀ X, Ints (W.alloc X) (fun b => b < W.heap.size) (some ⟨bp, 0, none⟩) p := fun X => (rp.keep (kp X _ rp.lt)).ints.more (fun c e => by subst e; exact rp.lt)
  have jq : ∀ X, Ints (W.alloc X) (fun b => b < W.heap.size) (some ⟨bq, 0, none⟩) q := fun X => (rq.keep (kp X _ rq.lt)).ints.more (fun c e => by subst e; exact rq.lt)
  intro j hj
  have hj5 : j = 0 ∨ j = 1 ∨ j = 2 ∨ j = 3 ∨ j = 4 := by omega
  rcases hj5 with rfl | rfl | rfl | rfl | rfl
  · exact ⟨a, ca, xa, b, cb, xb, (cell_of_row _ _ _ _ _ _ hblk).trans rfl, (cell_of_row _ _ _ _ _ _ hblk).trans rfl, ja _, jb _, ra, rb⟩
  · exact ⟨a, ca, xa, a, ca, xa, (cell_of_row _ _ _ _ _ _ hblk).trans rfl, (cell_of_row _ _ _ _ _ _ hblk).trans rfl, ja _, ja _, ra, ra⟩
  · exact ⟨_, _, p, _, p.length, q, (cell_of_row _ _ _ _ _ _ hblk).trans rfl, (by rw [eq]; exact (cell_of_row _ _ _ _ _ _ hblk).trans rfl), jp _, jq _, by omega, by omega⟩
  · exact ⟨_, p.length, q, _, _, p, (by rw [eq]; exact (cell_of_row _ _ _ _ _ _ hblk).trans rfl), (cell_of_row _ _ _ _ _ _ hblk).trans rfl, jq _, jp _, by omega, by omega⟩
  · exact ⟨_, _, p, b, cb, xb, (cell_of_row _ _ _ _ _ _ hblk).trans rfl, (cell_of_row _ _ _ _ _ _ hblk).trans rfl, jp _, jb _, by omega, rb⟩

set_option maxRecDepth 100000 in
set_option maxHeartbeats 4000000 in
theorem orders_walk (a0 : Option Addr) (len0 cap0 : Nat) (z0 : List Int) (a1 : Option Addr) (len1 cap1 : Nat) (z1 : List Int) (a2 : Option Addr) (len2 cap2 : Nat) (z2 : List Int) (w : World)
    (w0 : IsRow .i64 w a0 len0 cap0 z0) (w1 : IsRow .i64 w a1 len1 cap1 z1) (w2 : IsRow .u8 w a2 len2 cap2 z2) (r0 : len0 ≤ 17592186044416) (r1 : len1 ≤ 17592186044416) :
    Calls Try.prog 10 #[.slice a0 len0 cap0, .slice a1 len1 cap1, .slice a2 len2 cap2] w fun e w' => e = .returned (.bool true) ∧ Below w.heap.size w w' := by
  obtain ⟨e0, i0⟩ := isRow_ints w0
  obtain ⟨e1, i1⟩ := isRow_ints w1
  generalize z0.take len0 = xa at e0 i0
  generalize z1.take len1 = xb at e1 i1
  have E0 := Lib.hid e0
  have E1 := Lib.hid e1
  have I0 := Lib.hid i0
  have I1 := Lib.hid i1
  clear e0 e1 i0 i1 w0 w1
  go_enter Try.func10, Try.ntmps10
  go_wp2_with fail
  refine (new_any a2 len2 cap2 z2 20 w (by omega) w2).mono ?_
  rintro e W1 ⟨g, rfl, hg, hc1, hb1⟩
  have HB1 := Lib.hid hb1
  have HC1 := Lib.hid hc1
  clear hb1 hc1 w2
  go_wp2_with fail
  refine (int_any g 5 W1 (by omega) HC1.out).mono ?_
  rintro e W2 ⟨r, rfl, hr0, hr1, _, hc2, hg2, hs2⟩
  have hr4 : r < 5 := hr1 (by omega)
  obtain ⟨n, rfl⟩ := Int.eq_ofNat_of_zero_le hr0
  have hn : n ≤ 1000 := by omega
  have HC2 := Lib.hid hc2
  have HB2 := Lib.hid (HB1.out.grown hg2 HB1.out.size (fun k e => by injection e with e; omega))
  have hgw2 := hc2.lt
  clear hr1 hc2 hg2 hs2 HC1 HB1
  go_wp2_with fail
  refine (numbers_any g n W2 hn HC2.out).mono ?_
  rintro e W3 ⟨p, rfl, hpl, hpp, hrow3, hc3, hg3⟩
  have HB3 := Lib.hid (HB2.out.grown hg3 HB2.out.size (fun k e => by injection e with e; omega))
  have HC3 := Lib.hid hc3
  have hz3 := hrow3.lt
  have HR3 := Lib.hid hrow3
  have HPL := Lib.hid hpl
  have hz23 := hg3.size
  clear hpl hpp hrow3 hc3 hg3 HC2
  go_wp2_with fail
  refine (numbers_any g n W3 hn HC3.out).mono ?_
  rintro e W4 ⟨q, rfl, hql, hqp, hrow4, hc4, hg4⟩
  have HB4 := Lib.hid (HB3.out.grown hg4 HB3.out.size (fun k e => by injection e with e; omega))
  have hz4 := hrow4.lt
  have HR3b := Lib.hid (HR3.out.keep (w' := W4) (hg4.block _ hz3 (by simp; omega)))
  have HR4 := Lib.hid hrow4
  have HQL := Lib.hid hql
  have hw4 := HB4.out.size
  have hw2 := HB2.out.size
  clear hql hqp hrow4 hc4 hg4 HC3 HB3 HR3 HB2
  have HT := Lib.hid (pairs5 (W := W4) (a := a0) (b := a1) (ca := cap0) (cb := cap1) (n := n) E0.out E1.out HPL.out HQL.out r0 r1 hn (I0.out.keep (Same.of_below HB4.out (fun b hb => hb))) (I1.out.keep (Same.of_below HB4.out (fun b hb => hb))) hw4 HR3b.out HR4.out)
  go_wp2_with fail
  go_loopg [52] 5 (fun gk i W => ∃ k : Nat, gk = 5 - k ∧ k ≤ 5 ∧ i = .int .i64 k ∧ Below w.heap.size w W ∧ (∀ j, j < 5 → PairAt W W4.heap.size j) ∧ W4.heap.size < W.heap.size)
  case atStart => exact ⟨0, rfl, by omega, rfl, HB4.out.alloc hw4 _, HT.out, by simp⟩
  case round =>
    obtain ⟨k, hgk, hk, rfl, hbel, htab, hlt⟩ := hrel
    have HGK := Lib.hid hgk
    have HBEL := Lib.hid hbel
    have HTAB := Lib.hid htab
    clear hgk hbel htab HT
    by_cases hk5 : k < 5
    · obtain ⟨A, ca, x, B, cb, y, c0, c1, ix, iy, lx, ly⟩ := HTAB.out k hk5
      have hk5' : (k : Int) < 5 := by omega
      have HS := Lib.hid (show OrdSt w (wr.alloc (.cells #[.slice A x.length ca, .slice B y.length cb] 56)) W4.heap.size wr.heap.size A ca x B cb y from
        ⟨HBEL.out.alloc HBEL.out.size _, hw4, hlt, fun j hj => (HTAB.out j hj).keep (fun b hb => Below.heap_alloc _ _ _ (by omega)), heap_alloc_new _ _,
          (ix.keep (fun b hb => Below.heap_alloc _ _ _ (by omega))).more (fun b hb => by simp; omega), (iy.keep (fun b hb => Below.heap_alloc _ _ _ (by omega))).more (fun b hb => by simp; omega), lx, ly⟩)
      clear ix iy HBEL HTAB
      go_wp2_with fail
      refine (compare_any A B ca cb x y _ _ HS.out.ix HS.out.iy (by omega) (by omega)).mono ?_
      rintro e wa ⟨rfl, ka, rfl⟩
      have HSa := Lib.hid (HS.out.keep (below_drewN (Below.refl _ _) ka))
      clear HS
      have d0 := HSa.out.c0
      have d1 := HSa.out.c1
      go_wp2_with fail
      refine (rcompare_any A B ca cb x y _ _ HSa.out.ix HSa.out.iy (by omega) (by omega)).mono ?_
      rintro e wb ⟨rfl, kb, rfl⟩
      have HSb := Lib.hid (HSa.out.keep (below_drewN (Below.refl _ _) kb))
      clear HSa d0 d1
      have d0 := HSb.out.c0
      have d1 := HSb.out.c1
      go_wp2_with fail
      simp only [World.drewN_drewN] at HSb d0 d1
      refine (join_any A B ca cb x y _ _ HSb.out.ix HSb.out.iy (fun b hb => hb) lx ly).mono ?_
      rintro e wc ⟨AJ, cj, rfl, hij, hbj⟩
      have HSc := Lib.hid (HSb.out.keep hbj)
      have HJ := Lib.hid (hij.more (S' := fun b => b < wc.heap.size) (fun b h => h.2))
      clear HSb d0 d1 hij hbj
      have d0 := HSc.out.c0
      have d1 := HSc.out.c1
      go_wp2_with fail
      refine (rjoin_any A B ca cb x y _ _ HSc.out.ix HSc.out.iy (fun b hb => hb) lx ly).mono ?_
      rintro e wd ⟨AK, ck, rfl, hij, hbj⟩
      have HSd := Lib.hid (HSc.out.keep hbj)
      have HJd := Lib.hid ((HJ.out.keep (fun b hb => hbj.block b hb)).more (S' := fun b => b < wd.heap.size) (fun b h => Nat.lt_of_lt_of_le h hbj.size))
      have HK := Lib.hid (hij.more (S' := fun b => b < wd.heap.size) (fun b h => h.2))
      clear HSc d0 d1 hij hbj HJ
      have d0 := HSd.out.c0
      have d1 := HSd.out.c1
      go_wp2_with fail
      refine (meet_any A B ca cb x y _ _ HSd.out.ix HSd.out.iy (fun b hb => hb) lx ly).mono ?_
      rintro e we ⟨AM, cm, rfl, hij, hbj⟩
      have HSe := Lib.hid (HSd.out.keep hbj)
      have HJe := Lib.hid ((HJd.out.keep (fun b hb => hbj.block b hb)).more (S' := fun b => b < we.heap.size) (fun b h => Nat.lt_of_lt_of_le h hbj.size))
      have HKe := Lib.hid ((HK.out.keep (fun b hb => hbj.block b hb)).more (S' := fun b => b < we.heap.size) (fun b h => Nat.lt_of_lt_of_le h hbj.size))
      have HM := Lib.hid (hij.more (S' := fun b => b < we.heap.size) (fun b h => h.2))
      clear HSd d0 d1 hij hbj HJd HK
      have d0 := HSe.out.c0
      have d1 := HSe.out.c1
      go_wp2_with fail
      refine (rmeet_any A B ca cb x y _ _ HSe.out.ix HSe.out.iy (fun b hb => hb) lx ly).mono ?_
      rintro e wf ⟨AN, cn, rfl, hij, hbj⟩
      have HSf := Lib.hid (HSe.out.keep hbj)
      have HJf := Lib.hid ((HJe.out.keep (fun b hb => hbj.block b hb)).more (S' := fun b => b < wf.heap.size) (fun b h => Nat.lt_of_lt_of_le h hbj.size))
      have HKf := Lib.hid ((HKe.out.keep (fun b hb => hbj.block b hb)).more (S' := fun b => b < wf.heap.size) (fun b h => Nat.lt_of_lt_of_le h hbj.size))
      have HMf := Lib.hid ((HM.out.keep (fun b hb => hbj.block b hb)).more (S' := fun b => b < wf.heap.size) (fun b h => Nat.lt_of_lt_of_le h hbj.size))
      have HN := Lib.hid (hij.more (S' := fun b => b < wf.heap.size) (fun b h => h.2))
      clear HSe d0 d1 hij hbj HJe HKe HM
      have hjl : (joinL x y).length ≤ 17592186044416 := zipL_len _ lx
      have hml : (meetL x y).length ≤ 17592186044416 := zipM_len _ lx
      go_wp2_with fail
      refine (equal_any AJ AK cj ck (joinL x y) (joinL x y) _ _ HJf.out HKf.out (by omega) (by omega)).mono ?_
      rintro e wg ⟨rfl, kg, rfl⟩
      rw [decide_eq_true rfl]
      go_wp2_with fail
      refine (equal_any AM AN cm cn (meetL x y) (meetL x y) (fun b => b < wf.heap.size) _ (by exact HMf.out) (by exact HN.out) (by omega) (by omega)).mono ?_
      rintro e wh ⟨rfl, kh, rfl⟩
      rw [decide_eq_true rfl]
      go_wp2_with fail
      go_roundg (5 - (k + 1))
      case measure => rw [HGK.out]; omega
      case rel =>
        have hf := HSf.out.keep (below_drewN (Below.refl _ _) (kg + kh))
        exact ⟨k + 1, rfl, by omega, by go_num, hf.bel, hf.tab, by have := hf.lt; have := hf.tx; omega⟩
    · go_wp2_with fail
      refine (begun_any _).mono ?_
      rintro e wz ⟨rfl, hbz⟩
      have HBZ := Lib.hid (HBEL.out.trans (hbz.mono HBEL.out.size))
      clear hbz
      go_wp2_with fail
      go_ret
      exact ⟨rfl, HBZ.out⟩
end Go.Proofs.Ytjpknhhdkjhjfaa
