/- The state of a law over the generator's logs. -/
import Derived.Test.YtjpknhhdkjhjfaaPush
import Derived.Test.YtjpknhhdkjhjfaaPlain7
import Derived.Test.YtjpknhhdkjhjfaaCut
import Derived.Test.YtjpknhhdkjhjfaaLat
namespace Go.Proofs.Ytjpknhhdkjhjfaa
open Go.RowKit
set_option linter.unusedVariables false

/-- Logs in memory behind the reader at g; nothing before the law has turned. -/
structure LSt (w W : World) (g H : Nat) (base : Int) (L : List (List Stp)) : Prop where
  bel : Below w.heap.size w W
  cs : CaseOk W g
  gw : w.heap.size ≤ g
  logs : Logs W (fun b => g < b ∧ b < W.heap.size) (some ⟨H, 0, none⟩) L
  val : Valid base L
  b0 : 0 ≤ base
  b1 : base ≤ 1073741824
  m1 : 1 ≤ L.length
  m4 : L.length ≤ 4
  ll : ∀ i, i < L.length → (L.getD i []).length ≤ 8
  hH : g < H ∧ H < W.heap.size
  caps : ∀ i, i < L.length → ∃ A c, W.cell? ⟨H, i, none⟩ = some (.slice A (L.getD i []).length c) ∧ (L.getD i []).length ≤ c
section
variable {w W W' : World} {g H : Nat} {base : Int} {L : List (List Stp)}
theorem LSt.keep (h : LSt w W g H base L) (hb : Below W.heap.size W W') : LSt w W' g H base L :=
  ⟨h.bel.trans (hb.mono h.bel.size), h.cs.keep (fun b hb' => hb.block b (by have := h.cs.lt; omega)), h.gw, (h.logs.keep (fun b hb' => hb.block b hb'.2)).more (fun b hb' => ⟨hb'.1, Nat.lt_of_lt_of_le hb'.2 hb.size⟩), h.val, h.b0, h.b1, h.m1, h.m4, h.ll, ⟨h.hH.1, Nat.lt_of_lt_of_le h.hH.2 hb.size⟩, fun i hi => by
    obtain ⟨A, c, h1, h2⟩ := h.caps i hi
    exact ⟨A, c, (World.cell?_of_block (w := W) (hb.block H h.hH.2)).trans h1, h2⟩⟩
theorem LSt.keepG (h : LSt w W g H base L) (hc : CaseOk W' g) (hg : W.grownBy W' (some g)) : LSt w W' g H base L :=
  ⟨h.bel.grown hg h.bel.size (fun k e => by injection e with e; have := h.gw; omega), hc, h.gw, (h.logs.keep (fun b hb' => hg.block b hb'.2 (fun e => by injection e with e; omega))).more (fun b hb' => ⟨hb'.1, Nat.lt_of_lt_of_le hb'.2 hg.size⟩), h.val, h.b0, h.b1, h.m1, h.m4, h.ll, ⟨h.hH.1, Nat.lt_of_lt_of_le h.hH.2 hg.size⟩, fun i hi => by
    obtain ⟨A, c, h1, h2⟩ := h.caps i hi
    exact ⟨A, c, (World.cell?_of_block (w := W) (hg.block H h.hH.2 (fun e => by injection e with e; have := h.hH.1; omega))).trans h1, h2⟩⟩
theorem LSt.err (h : LSt w W g H base L) : errOf base L = 0 := errOf_ok (by have := h.b0; have := h.b1; have := h.m1; have := h.m4; unfold BadArg; omega) h.val
theorem LSt.cutErr (h : LSt w W g H base L) {c : List Int} (hc : IsCut L c) : cutErr base L c = 0 := cutErr_ok h.err hc
theorem LSt.lT (h : LSt w W g H base L) : Logs W (fun b => b < W.heap.size) (some ⟨H, 0, none⟩) L := h.logs.more (fun b hb => hb.2)

/-- A cut in memory, behind the reader. -/
def HasC (W : World) (g : Nat) (L : List (List Stp)) (A : Option Addr) (x : List Int) : Prop := IsCut L x ∧ Ints W (fun b => g < b ∧ b < W.heap.size) A x
theorem HasC.keep {A : Option Addr} {x : List Int} (h : HasC W g L A x) (hb : Below W.heap.size W W') : HasC W' g L A x :=
  ⟨h.1, (h.2.keep (fun b hb' => hb.block b hb'.2)).more (fun b hb' => ⟨hb'.1, Nat.lt_of_lt_of_le hb'.2 hb.size⟩)⟩
theorem HasC.keepG {A : Option Addr} {x : List Int} (h : HasC W g L A x) (hg : W.grownBy W' (some g)) : HasC W' g L A x :=
  ⟨h.1, (h.2.keep (fun b hb' => hg.block b hb'.2 (fun e => by injection e with e; omega))).more (fun b hb' => ⟨hb'.1, Nat.lt_of_lt_of_le hb'.2 hg.size⟩)⟩
theorem cut_pos {x : List Int} (h : IsCut L x) : ∀ y ∈ x, 0 ≤ y := by
  intro y hy
  obtain ⟨i, hi, rfl⟩ := List.mem_iff_getElem.1 hy
  have := (h.2 i (by rw [← h.1]; exact hi)).1
  rwa [getD_get _ _ _ hi] at this
theorem HasC.has {A : Option Addr} {x : List Int} (h : HasC W g L A x) : Has W L.length A x := ⟨h.1.1, cut_pos h.1, h.2.more (fun b hb => hb.2)⟩

theorem cut_l {cl : Nat} (h : LSt w W g H base L) : Calls Try.prog 20 #[.pointer (some ⟨g, 0, none⟩), .slice (some ⟨H, 0, none⟩) L.length cl] W
    fun e W' => ∃ l, e = .returned (.slice (some ⟨W.heap.size, 0, none⟩) L.length L.length) ∧ HasC W' g L (some ⟨W.heap.size, 0, none⟩) l ∧ LSt w W' g H base L ∧ W.grownBy W' (some g) :=
  (cut_any g _ cl L (fun b => g < b ∧ b < W.heap.size) W h.cs h.logs (fun b hb => ⟨hb.2, by omega⟩) (by have := h.m4; omega) (fun i hi => by have := h.ll i hi; omega)).mono
    fun e W' ⟨l, he, hc, hr, hcs, hg⟩ => ⟨l, he, ⟨hc, hr.ints.more (fun b e => by subst e; exact ⟨h.cs.lt, hr.lt⟩)⟩, h.keepG hcs hg, hg⟩

theorem close_l {cl cc : Nat} {A : Option Addr} {c : List Int} (h : LSt w W g H base L) (hc : HasC W g L A c) : Calls Try.prog 27 #[.int .i64 base, .slice (some ⟨H, 0, none⟩) L.length cl, .slice A L.length cc] W
    fun e W' => ∃ A' cap y, e = .returned (.tuple #[.slice A' L.length cap, .int .i64 0]) ∧ IsClose L c y ∧ HasC W' g L A' y ∧ Below W.heap.size W W' := by
  have h1 := close_any (some ⟨H, 0, none⟩) A cl cc L c base (fun b => b < W.heap.size) W h.lT (hc.2.more (fun b hb => hb.2)) (fun b hb => hb) (by rw [hc.1.1]; have := h.m4; omega)
  rw [hc.1.1] at h1
  refine h1.mono ?_
  rintro e W' ⟨A', cap, y, rfl, hy, _, hi, hb⟩
  have hcl := hy (h.cutErr hc.1)
  rw [h.cutErr hc.1, hcl.1.1]
  exact ⟨A', cap, y, rfl, hcl, ⟨hcl.1, hi.more (fun b hb => ⟨by have := h.cs.lt; omega, hb.2⟩)⟩, hb⟩
theorem closed_l {cl cc : Nat} {A : Option Addr} {c : List Int} (r : Bool) (h : LSt w W g H base L) (hc : HasC W g L A c) (hr : r = true ↔ ClosedC L c) : Calls Try.prog 25 #[.int .i64 base, .slice (some ⟨H, 0, none⟩) L.length cl, .slice A L.length cc] W
    fun e W' => e = .returned (.tuple #[.bool r, .int .i64 0]) ∧ Below W.heap.size W W' := by
  have h1 := closed_any (some ⟨H, 0, none⟩) A cl cc L c base (fun b => b < W.heap.size) W h.lT (hc.2.more (fun b hb => hb.2)) (fun b hb => hb) (by rw [hc.1.1]; have := h.m4; omega)
  rw [hc.1.1] at h1
  refine h1.mono ?_
  rintro e W' ⟨r', rfl, hr', _, hb⟩
  have e1 : r' = r := by
    have := hr' (h.cutErr hc.1)
    cases r <;> cases r' <;> simp_all
  rw [h.cutErr hc.1, e1]
  exact ⟨rfl, hb⟩
theorem floor_l {cl cc : Nat} {A : Option Addr} {c : List Int} (h : LSt w W g H base L) (hc : HasC W g L A c) : Calls Try.prog 21 #[.int .i64 base, .slice (some ⟨H, 0, none⟩) L.length cl, .slice A L.length cc] W
    fun e W' => ∃ n : Int, e = .returned (.tuple #[.int .i64 n, .int .i64 0]) ∧ IsFloor base L c n ∧ Below W.heap.size W W' := by
  have h1 := floor_any (some ⟨H, 0, none⟩) A cl cc L c base (fun b => b < W.heap.size) W h.lT (hc.2.more (fun b hb => hb.2)) (fun b hb => hb) (by rw [hc.1.1]; have := h.m4; omega)
  rw [hc.1.1] at h1
  refine h1.mono ?_
  rintro e W' ⟨n, rfl, hn, _, hb⟩
  rw [h.cutErr hc.1]
  exact ⟨n, rfl, hn (h.cutErr hc.1), hb⟩
theorem join_l {ca cb : Nat} {A B : Option Addr} {x y : List Int} (h : LSt w W g H base L) (hx : HasC W g L A x) (hy : HasC W g L B y) : Calls Try.prog 32 #[.slice A L.length ca, .slice B L.length cb] W
    fun e W' => ∃ A' c, e = .returned (.tuple #[.slice A' L.length c, .int .i64 0]) ∧ HasC W' g L A' (List.zipWith max x y) ∧ Below W.heap.size W W' := by
  have h1 := join_any A B ca cb x y (fun b => b < W.heap.size) W (hx.2.more (fun b hb => hb.2)) (hy.2.more (fun b hb => hb.2)) (fun b hb => hb) (by rw [hx.1.1]; have := h.m4; omega) (by rw [hy.1.1]; have := h.m4; omega)
  rw [hx.1.1, hy.1.1, show joinL x y = List.zipWith max x y by simp [joinL, hx.has.paired hy.has], show pairE x y = 0 by simp [pairE, hx.has.paired hy.has]] at h1
  refine h1.mono ?_
  rintro e W' ⟨A', c, rfl, hi, hb⟩
  rw [zip_len max hx.1.1 hy.1.1]
  exact ⟨A', c, rfl, ⟨cut_max hx.1 hy.1, hi.more (fun b hb => ⟨by have := h.cs.lt; omega, hb.2⟩)⟩, hb⟩
theorem meet_l {ca cb : Nat} {A B : Option Addr} {x y : List Int} (h : LSt w W g H base L) (hx : HasC W g L A x) (hy : HasC W g L B y) : Calls Try.prog 33 #[.slice A L.length ca, .slice B L.length cb] W
    fun e W' => ∃ A' c, e = .returned (.tuple #[.slice A' L.length c, .int .i64 0]) ∧ HasC W' g L A' (List.zipWith min x y) ∧ Below W.heap.size W W' := by
  have h1 := meet_any A B ca cb x y (fun b => b < W.heap.size) W (hx.2.more (fun b hb => hb.2)) (hy.2.more (fun b hb => hb.2)) (fun b hb => hb) (by rw [hx.1.1]; have := h.m4; omega) (by rw [hy.1.1]; have := h.m4; omega)
  rw [hx.1.1, hy.1.1, show meetL x y = List.zipWith min x y by simp [meetL, hx.has.paired hy.has], show pairE x y = 0 by simp [pairE, hx.has.paired hy.has]] at h1
  refine h1.mono ?_
  rintro e W' ⟨A', c, rfl, hi, hb⟩
  rw [zip_len min hx.1.1 hy.1.1]
  exact ⟨A', c, rfl, ⟨cut_min hx.1 hy.1, hi.more (fun b hb => ⟨by have := h.cs.lt; omega, hb.2⟩)⟩, hb⟩
theorem equal_l {ca cb : Nat} {A B : Option Addr} {x y : List Int} (b : Bool) (h : LSt w W g H base L) (hx : HasC W g L A x) (hy : HasC W g L B y) (hb : decide (x = y) = b) : Calls Try.prog 29 #[.slice A L.length ca, .slice B L.length cb] W (BoolStill b W) :=
  equal_has b (by have := h.m4; omega) hx.has hy.has hb
theorem under_l {ca cb : Nat} {A B : Option Addr} {x y : List Int} (b : Bool) (h : LSt w W g H base L) (hx : HasC W g L A x) (hy : HasC W g L B y) (hb : leB x y = b) : Calls Try.prog 34 #[.slice A L.length ca, .slice B L.length cb] W (BoolStill b W) :=
  under_has b (by have := h.m4; omega) hx.has hy.has hb
theorem leB_of {x y : List Int} (hx : x.length = L.length) (h : LeC L.length x y) : leB x y = true := leB_iff.2 fun i hi => h i (by omega)
end

theorem lst_of {w w1 w2 : World} {g : Nat} (hb : Below w.heap.size w w1) (hg : w.heap.size ≤ g) (hgl : g < w1.heap.size) {base : Int} {H : Nat} {L : List (List Stp)} {vs : List Value} (h0 : 0 ≤ base) (h1 : base ≤ 1073741824) (m1 : 1 ≤ L.length) (m4 : L.length ≤ 4) (ll : ∀ i, i < L.length → (L.getD i []).length ≤ 8)
    (hv : Valid base L) (hm : LogsMem w1.heap.size H w2 L vs) (hc : CaseOk w2 g) (hgr : w1.grownBy w2 (some g)) : LSt w w2 g H base L :=
  ⟨hb.grown hgr hb.size (fun k e => by injection e with e; omega), hc, hg, (hm.logs (by omega) (fun i hi => by have := ll i hi; omega)).more (fun b hb => ⟨by omega, hb.2⟩), hv, h0, h1, m1, m4, ll, ⟨by have := hm.hb; omega, lt_of_heap hm.hd⟩, fun i hi => by
    obtain ⟨A, c, e, _, hc⟩ := hm.val hi
    exact ⟨A, c, by rw [hm.cell hi, e], hc⟩⟩
end Go.Proofs.Ytjpknhhdkjhjfaa
