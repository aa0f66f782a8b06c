/- Contracts of stands and next. -/
import Derived.Test.YtjpknhhdkjhjfaaLog
namespace Go.Proofs.Ytjpknhhdkjhjfaa
open Go.RowKit
set_option linter.unusedVariables false

/-- The stamp at place k of list i. -/
def stampOf (L : List (List Stp)) (i : Nat) (k : Int) : Stp := (L.getD i []).getD k.toNat nilS
def standsB (L : List (List Stp)) (c p : List Int) (i : Nat) (cm : Int) : Bool := decide (p.getD i 0 < c.getD i 0) && ((stampOf L i (p.getD i 0)).1 == cm)

/-- Places p and a cut c of logs. -/
structure CutOk (L : List (List Stp)) (c p : List Int) : Prop where
  lc : c.length = L.length
  lp : p.length = L.length
  pos : ∀ i, i < L.length → 0 ≤ p.getD i 0
  top : ∀ i, i < L.length → c.getD i 0 ≤ (L.getD i []).length

set_option maxHeartbeats 400000 in
theorem stands_any (AL AC AP : Option Addr) (cl cc cp : Nat) (L : List (List Stp)) (c p : List Int) (sh cm : Int) (S T : Nat → Prop) (w : World)
    (hL : Logs w S AL L) (hC : Ints w T AC c) (hP : Ints w T AP p) (hok : CutOk L c p) (h0 : 0 ≤ sh) (h1 : sh < L.length) :
    Calls Try.prog 52 #[.slice AL L.length cl, .slice AC c.length cc, .slice AP p.length cp, .int .i64 sh, .int .i64 cm] w fun e w' => e = .returned (.bool (standsB L c p sh.toNat cm)) ∧ ∃ k, w' = w.drewN k := by
  obtain ⟨i, rfl⟩ := Int.eq_ofNat_of_zero_le h0
  have hi : i < L.length := by omega
  have hlc := hok.lc
  have hlp := hok.lp
  have hbd := hL.1
  obtain ⟨b1, o1, rfl, _, c1⟩ := hC.at_ (show i < c.length by omega)
  obtain ⟨b2, o2, rfl, _, c2⟩ := hP.at_ (show i < p.length by omega)
  obtain ⟨b3, o3, A', c', rfl, _, c3, hs⟩ := hL.at_ hi
  have hp0 := hok.pos i hi
  have htop := hok.top i hi
  have HE := Lib.hid (show standsB L c p i cm = (decide (p.getD i 0 < c.getD i 0) && (((L.getD i []).getD (p.getD i 0).toNat nilS).1 == cm)) from rfl)
  have hic : (i : Int) < c.length := by omega
  have hip : (i : Int) < p.length := by omega
  have hiL : (i : Int) < L.length := by omega
  have H1 := Lib.hid hlc
  have H2 := Lib.hid hlp
  clear hlc hlp hok hL hC hP
  generalize p.getD i 0 = x at c2 hp0 HE
  generalize c.getD i 0 = y at c1 htop HE
  generalize L.getD i [] = l at c3 hs htop HE
  rw [Int.toNat_natCast, HE.out]
  obtain ⟨k, rfl⟩ := Int.eq_ofNat_of_zero_le hp0
  by_cases hlt : (k : Int) < y
  · have hkl : k < l.length := by omega
    obtain ⟨b4, o4, rfl, _, c4, A5, c5, c6, _, _⟩ := hs.at_ hkl
    have hls := hs.1
    have hd : decide ((k : Int) < y) = true := by simp [hlt]
    rw [Int.toNat_natCast]
    generalize l.getD k nilS = s at c4 c6
    obtain ⟨cm', sh'⟩ := s
    simp only at c4 c6
    clear hs HE
    go_enter Try.func52, Try.ntmps52
    go_wp2
    go_quiet (fail)
    go_wp2
    go_ret
    refine ⟨?_, _, rfl⟩
    simp [hlt]
  · have hd : decide ((k : Int) < y) = false := by simpa using hlt
    clear hs HE
    go_enter Try.func52, Try.ntmps52
    go_wp2
    go_quiet (fail)
    go_wp2
    go_ret
    refine ⟨?_, _, rfl⟩
    show Ending.returned (.bool false) = _
    rw [hd]
    rfl

/-- Of the lists below k: the least stamp behind p within c. -/
def LeastTo (L : List (List Stp)) (c p : List Int) (k : Nat) (found : Bool) (s : Stp) : Prop :=
  (found = false ∧ ∀ i, i < k → ¬ p.getD i 0 < c.getD i 0) ∨
  (found = true ∧ (∃ i, i < k ∧ p.getD i 0 < c.getD i 0 ∧ s = stampOf L i (p.getD i 0)) ∧ ∀ i, i < k → p.getD i 0 < c.getD i 0 → s.1 ≤ (stampOf L i (p.getD i 0)).1)
theorem least_skip {L : List (List Stp)} {c p : List Int} {k : Nat} {found : Bool} {s : Stp} (h : LeastTo L c p k found s) (hk : ¬ p.getD k 0 < c.getD k 0 ∨ (found = true ∧ s.1 ≤ (stampOf L k (p.getD k 0)).1)) : LeastTo L c p (k + 1) found s := by
  rcases h with ⟨hf, h⟩ | ⟨hf, ⟨i, hi, hl, hs⟩, h⟩
  · refine .inl ⟨hf, fun i hi => ?_⟩
    rcases Nat.lt_succ_iff_lt_or_eq.1 hi with h' | h'
    · exact h i h'
    · rcases hk with hk | hk
      · rw [h']; exact hk
      · rw [hf] at hk; simp at hk
  · refine .inr ⟨hf, ⟨i, by omega, hl, hs⟩, fun j hj hjl => ?_⟩
    rcases Nat.lt_succ_iff_lt_or_eq.1 hj with h' | h'
    · exact h j h' hjl
    · subst h'
      rcases hk with hk | hk
      · exact absurd hjl hk
      · exact hk.2
theorem least_take {L : List (List Stp)} {c p : List Int} {k : Nat} {found : Bool} {s : Stp} (h : LeastTo L c p k found s) (hk : p.getD k 0 < c.getD k 0) (hn : found = false ∨ (stampOf L k (p.getD k 0)).1 < s.1) : LeastTo L c p (k + 1) true (stampOf L k (p.getD k 0)) := by
  refine .inr ⟨rfl, ⟨k, by omega, hk, rfl⟩, fun j hj hjl => ?_⟩
  rcases Nat.lt_succ_iff_lt_or_eq.1 hj with h' | h'
  · rcases h with ⟨hf, h⟩ | ⟨hf, _, h⟩
    · exact absurd hjl (h j h')
    · have := h j h' hjl
      rcases hn with hn | hn
      · rw [hf] at hn; simp at hn
      · omega
  · subst h'; exact Int.le_refl _

def NextPost (L : List (List Stp)) (c p : List Int) (S : Nat → Prop) (w : World) (e : Ending) (w' : World) : Prop :=
  ∃ (found : Bool) (s : Stp) (A : Option Addr) (cap : Nat), e = .returned (.tuple #[.agg #[.int .i64 s.1, .slice A s.2.length cap], .bool found]) ∧ LeastTo L c p L.length found s ∧ Ints w' S A s.2 ∧ s.2.length ≤ 17592186044416 ∧ Below w.heap.size w w'

def Cell2 (w : World) (g : Nat) (x y : Value) : Prop := w.heap[g]? = some (.cells #[x, y] 36 (0, 0))
theorem Cell2.c0 {w : World} {g : Nat} {x y : Value} (h : Cell2 w g x y) : w.cell? ⟨g, 0, none⟩ = some x := by unfold Cell2 at h; simp [World.cell?, h]
theorem Cell2.c1 {w : World} {g : Nat} {x y : Value} (h : Cell2 w g x y) : w.cell? ⟨g, 0 + 1, none⟩ = some y := by unfold Cell2 at h; simp [World.cell?, h]
theorem Cell2.f {w : World} {g : Nat} {x y : Value} (h : Cell2 w g x y) (k : Nat) : w.frozen? ⟨g, k, none⟩ = false := by unfold Cell2 at h; simp [World.frozen?, h]
theorem Cell2.lt {w : World} {g : Nat} {x y : Value} (h : Cell2 w g x y) : g < w.heap.size := by
  rcases Nat.lt_or_ge g w.heap.size with hlt | hge
  · exact hlt
  · unfold Cell2 at h; rw [Array.getElem?_eq_none hge] at h; cases h

theorem Cell2.set2 {w : World} {g : Nat} {x y : Value} (h : Cell2 w g x y) (a b : Value) : Cell2 ((w.setCell ⟨g, 0, none⟩ a).setCell ⟨g, 1, none⟩ b) g a b := by
  unfold Cell2 at h ⊢
  simp [World.setCell, Array.getElem?_modify, h]
theorem set2_block (w : World) (g : Nat) (a b : Value) (i : Nat) (hi : i ≠ g) : ((w.setCell ⟨g, 0, none⟩ a).setCell ⟨g, 1, none⟩ b).heap[i]? = w.heap[i]? :=
  (Below.heap_setCell _ ⟨g, 1, none⟩ b i hi).trans (Below.heap_setCell _ ⟨g, 0, none⟩ a i hi)
theorem set2_below {B : Nat} {w wr : World} (h : Below B w wr) (g : Nat) (hg : B ≤ g) (a b : Value) : Below B w ((wr.setCell ⟨g, 0, none⟩ a).setCell ⟨g, 1, none⟩ b) := (h.setCell (p := ⟨g, 0, none⟩) hg a).setCell (p := ⟨g, 1, none⟩) hg b

theorem next_take {L : List (List Stp)} {c p : List Int} {S : Nat → Prop} {w wr : World} {k q : Nat} {found : Bool} {cm cm' : Int} {sh sh' : List Int} {A A5 : Option Addr} {cap c5 : Nat} (nq : Nat) (hlt : k < L.length) (hS : ∀ b, S b → b < w.heap.size)
    (h : LeastTo L c p k found (cm, sh)) (hx : p.getD k 0 = (q : Int)) (hk : p.getD k 0 < c.getD k 0) (hst : stampOf L k (q : Int) = (cm', sh')) (hn : found = false ∨ cm' < cm)
    (h0 : Cell2 wr w.heap.size (.int .i64 0) (.slice none 0 0)) (h1 : Cell2 wr (w.heap.size + 1) (.int .i64 cm) (.slice A sh.length cap)) (hb : Below w.heap.size w wr) (hi : Ints wr S A5 sh') (hl : sh'.length ≤ 17592186044416) :
    ∃ (k1 : Nat) (found : Bool) (s : Stp) (A : Option Addr) (cap : Nat), k1 ≤ L.length ∧ Value.int .i64 ((k : Int) + 1) = .int .i64 k1 ∧ Value.bool true = .bool found ∧ LeastTo L c p k1 found s ∧
      Ints (((wr.drewN nq).setCell ⟨w.heap.size + 1, 0, none⟩ (.int .i64 cm')).setCell ⟨w.heap.size + 1, 1, none⟩ (.slice A5 sh'.length c5)) S A s.2 ∧ s.2.length ≤ 17592186044416 ∧
      Cell2 (((wr.drewN nq).setCell ⟨w.heap.size + 1, 0, none⟩ (.int .i64 cm')).setCell ⟨w.heap.size + 1, 1, none⟩ (.slice A5 sh'.length c5)) w.heap.size (.int .i64 0) (.slice none 0 0) ∧
      Cell2 (((wr.drewN nq).setCell ⟨w.heap.size + 1, 0, none⟩ (.int .i64 cm')).setCell ⟨w.heap.size + 1, 1, none⟩ (.slice A5 sh'.length c5)) (w.heap.size + 1) (.int .i64 s.1) (.slice A s.2.length cap) ∧
      Below w.heap.size w (((wr.drewN nq).setCell ⟨w.heap.size + 1, 0, none⟩ (.int .i64 cm')).setCell ⟨w.heap.size + 1, 1, none⟩ (.slice A5 sh'.length c5)) := by
  have hb' : Below w.heap.size w (wr.drewN nq) := below_drewN hb nq
  have h1' : Cell2 (wr.drewN nq) (w.heap.size + 1) (.int .i64 cm) (.slice A sh.length cap) := h1
  have hle := least_take h hk (by rw [hx, hst]; exact hn)
  rw [hx, hst] at hle
  refine ⟨k + 1, true, (cm', sh'), A5, c5, by omega, by simp, rfl, hle, hi.keep (fun b hb => ?_), hl, ?_, h1'.set2 _ _, set2_below hb' _ (by omega) _ _⟩
  · exact set2_block (wr.drewN nq) _ _ _ b (by have := hS b hb; omega)
  · exact (set2_block (wr.drewN nq) _ _ _ _ (by omega)).trans h0

set_option maxHeartbeats 1000000 in
theorem next_any (AL AC AP : Option Addr) (cl cc cp : Nat) (L : List (List Stp)) (c p : List Int) (S T : Nat → Prop) (w : World)
    (hL : Logs w S AL L) (hC : Ints w T AC c) (hP : Ints w T AP p) (hok : CutOk L c p) (hS : ∀ b, S b → b < w.heap.size) (hT : ∀ b, T b → b < w.heap.size) :
    Calls Try.prog 51 #[.slice AL L.length cl, .slice AC c.length cc, .slice AP p.length cp] w (NextPost L c p S w) := by
  have hbd := hL.1
  go_enter Try.func51, Try.ntmps51
  go_wp2
  go_loopw [9, 14] (fun f i wr => ∃ (k : Nat) (found : Bool) (s : Stp) (A : Option Addr) (cap : Nat), k ≤ L.length ∧ i = .int .i64 k ∧ f = .bool found ∧ LeastTo L c p k found s ∧ Ints wr S A s.2 ∧ s.2.length ≤ 17592186044416 ∧
      Cell2 wr w.heap.size (.int .i64 0) (.slice none 0 0) ∧ Cell2 wr (w.heap.size + 1) (.int .i64 s.1) (.slice A s.2.length cap) ∧ Below w.heap.size w wr) (fun _ i _ => L.length - (intOf i).toNat)
  case atStart =>
    refine ⟨0, false, nilS, none, 0, Nat.zero_le _, rfl, rfl, .inl ⟨rfl, fun i hi => absurd hi (by omega)⟩, Reads.none_, by simp, ?_, ?_, ?_⟩
    · exact (Below.heap_alloc _ _ _ (by simp)).trans (heap_alloc_new w _)
    · have := heap_alloc_new (w.alloc (.cells #[.int .i64 0, .slice none 0 0] 36)) (.cells #[.int .i64 0, .slice none 0 0] 36)
      simpa [Cell2] using this
    · exact ((Below.refl _ _).alloc (Nat.le_refl _) _).alloc (by simp) _
  case round =>
    obtain ⟨k, found, s, A, cap, hk, rfl, rfl, hle, hints, hsl, hr0, hr1, hbel⟩ := hrel
    obtain ⟨cm, sh⟩ := s
    simp only at hints hsl hr1
    have HLE := Lib.hid hle
    have HI := Lib.hid hints
    have HR0 := Lib.hid hr0
    have HR1 := Lib.hid hr1
    have HB := Lib.hid hbel
    by_cases hlt : k < L.length
    · have hsame := Same.of_below hbel hS
      have hsameT := Same.of_below hbel hT
      have hlc := hok.lc
      have hlp := hok.lp
      obtain ⟨b1, o1, rfl, hb1, c1⟩ := (hC.keep hsameT).at_ (show k < c.length by omega)
      obtain ⟨b2, o2, rfl, hb2, c2⟩ := (hP.keep hsameT).at_ (show k < p.length by omega)
      obtain ⟨b3, o3, A', c', rfl, hb3, c3, hs⟩ := (hL.keep hsame).at_ hlt
      have hp0 := hok.pos k hlt
      have htop := hok.top k hlt
      have hic : (k : Int) < c.length := by omega
      have hip : (k : Int) < p.length := by omega
      have HX := Lib.hid (show p.getD k 0 = p.getD k 0 from rfl)
      have HST := Lib.hid (show stampOf L k (p.getD k 0) = (L.getD k []).getD (p.getD k 0).toNat nilS from rfl)
      have HPC := Lib.hid (show (p.getD k 0 < c.getD k 0) ↔ (p.getD k 0 < c.getD k 0) from Iff.rfl)
      have H1 := Lib.hid hlc
      have H2 := Lib.hid hlp
      have HOK := Lib.hid hok
      have m0 := hr1.c0
      have m1 := hr1.c1
      have mf0 := hr1.f 0
      have mf1 := hr1.f (0 + 1)
      have hz := hr1.lt
      clear hlc hlp hle hints hr0 hr1 hbel hok hsame hsameT hL hC hP
      generalize hpx : p.getD k 0 = x at c2 hp0 HST HPC
      generalize hcy : c.getD k 0 = y at c1 htop HPC
      generalize L.getD k [] = l at c3 hs htop HST
      have HPX := Lib.hid hpx
      have HCY := Lib.hid hcy
      clear hpx hcy HX HPC
      obtain ⟨q, rfl⟩ := Int.eq_ofNat_of_zero_le hp0
      rw [Int.toNat_natCast] at HST
      by_cases hpc : (q : Int) < y
      · have hd : decide ((q : Int) < y) = true := by simp [hpc]
        have hql : q < l.length := by omega
        obtain ⟨b4, o4, rfl, hb4, c4, A5, c5, c6, hi5, hl5⟩ := hs.at_ hql
        have hls := hs.1
        generalize hst : l.getD q nilS = s at c4 c6 hi5 hl5 HST
        obtain ⟨cm', sh'⟩ := s
        simp only at c4 c6 hi5 hl5
        have HI5 := Lib.hid hi5
        clear hs hi5 hst
        have hqi : (q : Int) < l.length := by omega
        cases found
        · go_wp2
          go_quiet (fail)
          go_wp2
          go_roundw
          case rel => exact next_take _ hlt hS HLE.out HPX.out (by rw [HPX.out, HCY.out]; exact hpc) HST.out (.inl rfl) HR0.out HR1.out HB.out HI5.out hl5
          case measure => simp [intOf]; omega
        · by_cases hcm : cm' < cm
          · have hd2 : decide (cm' < cm) = true := by simp [hcm]
            go_wp2
            go_quiet (fail)
            go_wp2
            go_roundw
            case rel => exact next_take _ hlt hS HLE.out HPX.out (by rw [HPX.out, HCY.out]; exact hpc) HST.out (.inr hcm) HR0.out HR1.out HB.out HI5.out hl5
            case measure => simp [intOf]; omega
          · have hd2 : decide (cm' < cm) = false := by simpa using hcm
            go_wp2
            go_quiet (fail)
            go_wp2
            go_roundw
            case rel => exact ⟨k + 1, true, (cm, sh), A, cap, by omega, by go_num, rfl, least_skip HLE.out (.inr ⟨rfl, by rw [HPX.out, HST.out]; show cm ≤ cm'; omega⟩), HI.out, hsl, HR0.out, HR1.out, below_drewN HB.out _⟩
            case measure => simp [intOf]; omega
      · have hd : decide ((q : Int) < y) = false := by simpa using hpc
        clear hs
        go_wp2
        go_quiet (fail)
        go_wp2
        go_roundw
        case rel => exact ⟨k + 1, found, (cm, sh), A, cap, by omega, by go_num, rfl, least_skip HLE.out (.inl (by rw [HPX.out, HCY.out]; omega)), HI.out, hsl, HR0.out, HR1.out, below_drewN HB.out _⟩
        case measure => simp [intOf]; omega
    · have m0 := hr1.c0
      have m1 := hr1.c1
      have n0 := hr0.c0
      have n1 := hr0.c1
      have nf0 := hr0.f 0
      have nf1 := hr0.f (0 + 1)
      clear hle hints hr0 hr1 hbel
      have hkL : k = L.length := by omega
      have HKL := Lib.hid hkL
      clear hkL
      go_wp2
      refine bodyPost_ret (v := .tuple #[.agg #[.int .i64 cm, .slice A sh.length cap], .bool found]) (by simp [results, Try.results51, go_sem, n0, n1]) rfl ?_
      have hf := HLE.out
      rw [HKL.out] at hf
      refine ⟨found, (cm, sh), A, cap, rfl, hf, HI.out.keep (fun b hb => ?_), hsl, set2_below HB.out _ (Nat.le_refl _) _ _⟩
      exact set2_block wr _ _ _ b (by have := hS b hb; omega)

theorem next_len (AL AC AP : Option Addr) (cl cc cp nC nP : Nat) (L : List (List Stp)) (c p : List Int) (S T : Nat → Prop) (w : World) (e1 : c.length = nC) (e2 : p.length = nP)
    (hL : Logs w S AL L) (hC : Ints w T AC c) (hP : Ints w T AP p) (hok : CutOk L c p) (hS : ∀ b, S b → b < w.heap.size) (hT : ∀ b, T b → b < w.heap.size) :
    Calls Try.prog 51 #[.slice AL L.length cl, .slice AC nC cc, .slice AP nP cp] w (NextPost L c p S w) := by
  subst e1 e2
  exact next_any AL AC AP cl cc cp L c p S T w hL hC hP hok hS hT
theorem stands_len (AL AC AP : Option Addr) (cl cc cp nC nP : Nat) (L : List (List Stp)) (c p : List Int) (sh cm : Int) (S T : Nat → Prop) (w : World) (e1 : c.length = nC) (e2 : p.length = nP)
    (hL : Logs w S AL L) (hC : Ints w T AC c) (hP : Ints w T AP p) (hok : CutOk L c p) (h0 : 0 ≤ sh) (h1 : sh < L.length) :
    Calls Try.prog 52 #[.slice AL L.length cl, .slice AC nC cc, .slice AP nP cp, .int .i64 sh, .int .i64 cm] w fun e w' => e = .returned (.bool (standsB L c p sh.toNat cm)) ∧ ∃ k, w' = w.drewN k := by
  subst e1 e2
  exact stands_any AL AC AP cl cc cp L c p sh cm S T w hL hC hP hok h0 h1
end Go.Proofs.Ytjpknhhdkjhjfaa
