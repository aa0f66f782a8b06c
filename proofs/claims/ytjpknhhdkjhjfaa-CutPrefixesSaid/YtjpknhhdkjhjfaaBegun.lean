/- The sanity check begun returns true; under. -/
import Derived.Test.YtjpknhhdkjhjfaaWhole
namespace Go.Proofs.Ytjpknhhdkjhjfaa
open Go.RowKit
set_option linter.unusedVariables false

def L0 : List (List Stp) := [[(1, [0, 1]), (3, [0])], [(1, [0, 1]), (2, [1])]]
theorem L0_bad : ¬ BadArg 0 L0 := by unfold BadArg L0; simp
theorem two_cases {i : Nat} (h : i < 2) : i = 0 ∨ i = 1 := by omega
theorem L0_valid : Valid 0 L0 := by
  refine ⟨fun i hi => ?_, ?_⟩
  · rcases two_cases (show i < 2 from hi) with rfl | rfl
    · refine ⟨⟨?_, ?_⟩, ?_⟩ <;> simp [L0, Fits]
    · refine ⟨⟨?_, ?_⟩, ?_⟩ <;> simp [L0, Fits]
  · unfold Agree L0
    simp
theorem L0_len {i : Nat} (h : i < L0.length) : (L0.getD i []).length = 2 := by
  rcases two_cases (show i < 2 from h) with rfl | rfl <;> rfl
theorem L0_err : errOf 0 L0 = 0 := errOf_ok L0_bad L0_valid
theorem L0_whole (n : Int) (h : n = 1 ∨ n = 2 ∨ n = 3) : WholeC L0 n := by
  refine ⟨?_, fun i k hi hk e => ?_⟩
  · rcases h with rfl | rfl | rfl
    · exact ⟨0, 0, by decide, by decide, rfl⟩
    · exact ⟨1, 1, by decide, by decide, rfl⟩
    · exact ⟨0, 1, by decide, by decide, rfl⟩
  · rw [L0_len hi] at hk
    rcases two_cases (show i < 2 from hi) with rfl | rfl <;> rcases two_cases hk with rfl | rfl <;> (simp [stp, L0] at e; subst e; simp [stp, L0])
    · exact ⟨⟨0, by decide, rfl⟩, ⟨0, by decide, rfl⟩⟩
    · exact ⟨1, by decide, rfl⟩
    · exact ⟨⟨0, by decide, rfl⟩, ⟨0, by decide, rfl⟩⟩
    · exact ⟨1, by decide, rfl⟩
theorem L0_last : IsLast 0 L0 3 := by
  refine ⟨by decide, fun c h1 h2 => L0_whole c (by omega), fun h => ?_⟩
  obtain ⟨⟨i, k, hi, hk, e⟩, _⟩ := h
  rw [L0_len hi] at hk
  rcases two_cases (show i < 2 from hi) with rfl | rfl <;> rcases two_cases hk with rfl | rfl <;> simp [stp, L0] at e
theorem L0_cut1 : IsCut L0 [1, 0] := ⟨rfl, fun i hi => by rcases two_cases (show i < 2 from hi) with rfl | rfl <;> simp [L0]⟩
theorem L0_cut2 : IsCut L0 [2, 1] := ⟨rfl, fun i hi => by rcases two_cases (show i < 2 from hi) with rfl | rfl <;> simp [L0]⟩
theorem L0_close : IsClose L0 [1, 0] [0, 0] := by
  refine ⟨⟨rfl, fun i hi => by rcases two_cases (show i < 2 from hi) with rfl | rfl <;> simp [L0]⟩, fun i hi => by rcases two_cases (show i < 2 from hi) with rfl | rfl <;> simp, fun i hi k hk => ?_, fun z hz hzc hzl => ?_⟩
  · rcases two_cases (show i < 2 from hi) with rfl | rfl <;> simp at hk <;> omega
  · have h0 := hzc 0 (by decide)
    have h1 := hzc 1 (by decide)
    simp only [List.getD_cons_zero, List.getD_cons_succ] at h0 h1
    intro i hi
    rcases two_cases (show i < 2 from hi) with rfl | rfl
    · show z.getD 0 0 ≤ 0
      rcases Int.lt_or_le 0 (z.getD 0 0) with h | h
      · exfalso
        obtain ⟨k, hk, _⟩ := hzl 0 (by decide) 0 h (by decide) 1 (by simp [stp, L0])
        have : (k : Int) < z.getD 1 0 := hk
        omega
      · exact h
    · exact h1
theorem L0_floor : IsFloor 0 L0 [2, 1] 1 := by
  refine ⟨3, L0_last, by decide, by decide, fun i hi hl => ?_, .inr ⟨1, by decide, by decide, rfl⟩⟩
  rcases two_cases (show i < 2 from hi) with rfl | rfl
  · simp [L0] at hl
  · simp [L0]

/-- The seven blocks of begun's logs. -/
structure Blocks (w : World) (h : Nat) : Prop where
  r0 : Row w h [0, 1]
  r1 : Row w (h + 1) [0]
  s0 : w.heap[h + 2]? = some (.cells #[.int .i64 1, .slice (some ⟨h, 0, none⟩) 2 2, .int .i64 3, .slice (some ⟨h + 1, 0, none⟩) 1 1] 36 (0, 0))
  r2 : Row w (h + 3) [0, 1]
  r3 : Row w (h + 4) [1]
  s1 : w.heap[h + 5]? = some (.cells #[.int .i64 1, .slice (some ⟨h + 3, 0, none⟩) 2 2, .int .i64 2, .slice (some ⟨h + 4, 0, none⟩) 1 1] 36 (0, 0))
  t : w.heap[h + 6]? = some (.cells #[.slice (some ⟨h + 2, 0, none⟩) 2 2, .slice (some ⟨h + 5, 0, none⟩) 2 2] 31 (0, 0))
theorem blocks_logs {w : World} {h : Nat} (hb : Blocks w h) : Logs w (fun b => b ≤ h + 6) (some ⟨h + 6, 0, none⟩) L0 := by
  have st : ∀ (b off x y : Nat) (s : Stp), (w.cell? ⟨b, off, none⟩ = some (.int .i64 s.1)) → w.cell? ⟨b, off + 1, none⟩ = some (.slice (some ⟨x, 0, none⟩) s.2.length y) → Row w x s.2 → x ≤ h + 6 → s.2.length ≤ 4 → StampAt w (fun b => b ≤ h + 6) b off s := by
    intro b off x y s h1 h2 h3 h4 h5
    exact ⟨h1, _, _, h2, h3.ints.more (fun b e => by subst e; exact h4), by omega⟩
  refine ⟨by simp [L0], fun _ => ⟨h + 6, 0, rfl, Nat.le_refl _, fun k hk => ?_⟩⟩
  rcases two_cases (show k < 2 from hk) with rfl | rfl
  · refine ⟨some ⟨h + 2, 0, none⟩, 2, by simp [World.cell?, hb.t, L0], by simp [L0], fun _ => ⟨h + 2, 0, rfl, by omega, fun k hk => ?_⟩⟩
    rcases two_cases (show k < 2 from hk) with rfl | rfl
    · exact st _ _ h 2 (1, [0, 1]) (by simp [World.cell?, hb.s0]) (by simp [World.cell?, hb.s0]) hb.r0 (by omega) (by simp)
    · exact st _ _ (h + 1) 1 (3, [0]) (by simp [World.cell?, hb.s0]) (by simp [World.cell?, hb.s0]) hb.r1 (by omega) (by simp)
  · refine ⟨some ⟨h + 5, 0, none⟩, 2, by simp [World.cell?, hb.t, L0], by simp [L0], fun _ => ⟨h + 5, 0, rfl, by omega, fun k hk => ?_⟩⟩
    rcases two_cases (show k < 2 from hk) with rfl | rfl
    · exact st _ _ (h + 3) 2 (1, [0, 1]) (by simp [World.cell?, hb.s1]) (by simp [World.cell?, hb.s1]) hb.r2 (by omega) (by simp)
    · exact st _ _ (h + 4) 1 (2, [1]) (by simp [World.cell?, hb.s1]) (by simp [World.cell?, hb.s1]) hb.r3 (by omega) (by simp)

theorem Blocks.keep {w w' : World} {h : Nat} (hb : Blocks w h) (hk : ∀ b, b ≤ h + 6 → w'.heap[b]? = w.heap[b]?) : Blocks w' h :=
  ⟨hb.r0.keep (hk _ (by omega)), hb.r1.keep (hk _ (by omega)), (hk _ (by omega)).trans hb.s0, hb.r2.keep (hk _ (by omega)), hb.r3.keep (hk _ (by omega)), (hk _ (by omega)).trans hb.s1, (hk _ (by omega)).trans hb.t⟩
theorem alloc7 (w : World) (o0 o1 o2 o3 o4 o5 o6 : Obj) : (((((((w.alloc o0).alloc o1).alloc o2).alloc o3).alloc o4).alloc o5).alloc o6).heap[w.heap.size]? = some o0 ∧ (((((((w.alloc o0).alloc o1).alloc o2).alloc o3).alloc o4).alloc o5).alloc o6).heap[w.heap.size + 1]? = some o1 ∧
    (((((((w.alloc o0).alloc o1).alloc o2).alloc o3).alloc o4).alloc o5).alloc o6).heap[w.heap.size + 2]? = some o2 ∧ (((((((w.alloc o0).alloc o1).alloc o2).alloc o3).alloc o4).alloc o5).alloc o6).heap[w.heap.size + 3]? = some o3 ∧
    (((((((w.alloc o0).alloc o1).alloc o2).alloc o3).alloc o4).alloc o5).alloc o6).heap[w.heap.size + 4]? = some o4 ∧ (((((((w.alloc o0).alloc o1).alloc o2).alloc o3).alloc o4).alloc o5).alloc o6).heap[w.heap.size + 5]? = some o5 ∧
    (((((((w.alloc o0).alloc o1).alloc o2).alloc o3).alloc o4).alloc o5).alloc o6).heap[w.heap.size + 6]? = some o6 := by
  have e1 : (w.alloc o0).heap.size = w.heap.size + 1 := by simp
  have n0 := heap_alloc_new w o0
  have n1 := heap_alloc_new (w.alloc o0) o1
  have n2 := heap_alloc_new ((w.alloc o0).alloc o1) o2
  have n3 := heap_alloc_new (((w.alloc o0).alloc o1).alloc o2) o3
  have n4 := heap_alloc_new ((((w.alloc o0).alloc o1).alloc o2).alloc o3) o4
  have n5 := heap_alloc_new (((((w.alloc o0).alloc o1).alloc o2).alloc o3).alloc o4) o5
  have n6 := heap_alloc_new ((((((w.alloc o0).alloc o1).alloc o2).alloc o3).alloc o4).alloc o5) o6
  have a0 : ∀ (W : World) (o : Obj) (k : Nat), k < W.heap.size → (W.alloc o).heap[k]? = W.heap[k]? := fun W o k h => Below.heap_alloc W o k h
  refine ⟨?_, ?_, ?_, ?_, ?_, ?_, ?_⟩
  · rw [a0 _ _ _ (by simp <;> omega), a0 _ _ _ (by simp <;> omega), a0 _ _ _ (by simp <;> omega), a0 _ _ _ (by simp <;> omega), a0 _ _ _ (by simp <;> omega), a0 _ _ _ (by simp)]; exact n0
  · rw [a0 _ _ _ (by simp <;> omega), a0 _ _ _ (by simp <;> omega), a0 _ _ _ (by simp <;> omega), a0 _ _ _ (by simp <;> omega), a0 _ _ _ (by simp)]; simpa using n1
  · rw [a0 _ _ _ (by simp <;> omega), a0 _ _ _ (by simp <;> omega), a0 _ _ _ (by simp <;> omega), a0 _ _ _ (by simp <;> omega)]; simpa using n2
  · rw [a0 _ _ _ (by simp <;> omega), a0 _ _ _ (by simp <;> omega), a0 _ _ _ (by simp <;> omega)]; simpa using n3
  · rw [a0 _ _ _ (by simp <;> omega), a0 _ _ _ (by simp <;> omega)]; simpa using n4
  · rw [a0 _ _ _ (by simp <;> omega)]; simpa using n5
  · simpa using n6

set_option maxHeartbeats 1000000 in
theorem begun_any (w : World) : Calls Try.prog 19 #[] w fun e w' => e = .returned (.bool true) ∧ Below w.heap.size w w' := by
  go_enter Try.func19, Try.ntmps19
  go_wp2_with fail
  refine (Whole_any (some ⟨w.heap.size + 1 + 1 + 1 + 1 + 1 + 1, 0, none⟩) 2 L0 0 (fun b => b ≤ w.heap.size + 6) _ ?hl ?hs).mono ?_
  case hs => intro b hb; simp; omega
  case hl =>
    obtain ⟨a0, a1, a2, a3, a4, a5, a6⟩ := alloc7 w (.cells #[.int .i64 0, .int .i64 1] 3) (.cells #[.int .i64 0] 3) (.cells #[.int .i64 1, .slice (some ⟨w.heap.size, 0, none⟩) 2 2, .int .i64 3, .slice (some ⟨w.heap.size + 1, 0, none⟩) 1 1] 36)
      (.cells #[.int .i64 0, .int .i64 1] 3) (.cells #[.int .i64 1] 3) (.cells #[.int .i64 1, .slice (some ⟨w.heap.size + 3, 0, none⟩) 2 2, .int .i64 2, .slice (some ⟨w.heap.size + 4, 0, none⟩) 1 1] 36) (.cells #[.slice (some ⟨w.heap.size + 2, 0, none⟩) 2 2, .slice (some ⟨w.heap.size + 5, 0, none⟩) 2 2] 31)
    exact blocks_logs ⟨a0, a1, a2, a3, a4, a5, a6⟩
  rintro e w1 ⟨n, rfl, hw1, hw2, hb1⟩
  obtain ⟨hw3, hw4⟩ := hw1 L0_err
  have e3 : n = 3 := isLast_unique hw3 L0_last
  subst e3
  have hbl : Blocks w1 w.heap.size := by
    obtain ⟨a0, a1, a2, a3, a4, a5, a6⟩ := alloc7 w (.cells #[.int .i64 0, .int .i64 1] 3) (.cells #[.int .i64 0] 3) (.cells #[.int .i64 1, .slice (some ⟨w.heap.size, 0, none⟩) 2 2, .int .i64 3, .slice (some ⟨w.heap.size + 1, 0, none⟩) 1 1] 36)
      (.cells #[.int .i64 0, .int .i64 1] 3) (.cells #[.int .i64 1] 3) (.cells #[.int .i64 1, .slice (some ⟨w.heap.size + 3, 0, none⟩) 2 2, .int .i64 2, .slice (some ⟨w.heap.size + 4, 0, none⟩) 1 1] 36) (.cells #[.slice (some ⟨w.heap.size + 2, 0, none⟩) 2 2, .slice (some ⟨w.heap.size + 5, 0, none⟩) 2 2] 31)
    exact Blocks.keep ⟨a0, a1, a2, a3, a4, a5, a6⟩ (fun b hb => hb1.block b (by simp; omega))
  have hbw : Below w.heap.size w w1 := by
    refine Below.trans ?_ (hb1.mono (by simp; omega))
    exact ((((((((Below.refl _ w).alloc (Nat.le_refl _) _).alloc (by simp) _).alloc (by simp; omega) _).alloc (by simp; omega) _).alloc (by simp; omega) _).alloc (by simp; omega) _).alloc (by simp; omega) _)
  have hz1 : w.heap.size + 7 ≤ w1.heap.size := by have := hb1.size; simp at this; omega
  have HBL := Lib.hid hbl
  have HBW := Lib.hid hbw
  rw [L0_err]
  clear hw1 hw2 hw3 hw4 hb1 hbl hbw
  go_wp2_with fail
  refine (close_any (some ⟨w.heap.size + 1 + 1 + 1 + 1 + 1 + 1, 0, none⟩) (some ⟨w1.heap.size, 0, none⟩) 2 2 L0 [1, 0] 0 (fun b => b ≤ w1.heap.size) _ ?hl ?hc ?hs (by simp)).mono ?_
  case hs => intro b hb; simp; omega
  case hl => exact ((blocks_logs HBL.out).keep (fun b hb => Below.heap_alloc _ _ _ (by omega))).more (fun b hb => by omega)
  case hc => exact (Row.new w1 [1, 0]).ints.more (fun b e => by subst e; exact Nat.le_refl _)
  rintro e w2 ⟨A, cap, y, rfl, hy0, _, hyi, hb2⟩
  have hce1 : cutErr 0 L0 [1, 0] = 0 := cutErr_ok L0_err L0_cut1
  have ey : y = [0, 0] := isClose_unique (hy0 hce1) L0_close
  subst ey
  have hz2 := hb2.size
  simp at hz2
  have HBL2 := Lib.hid (HBL.out.keep (w' := w2) (fun b hb => (hb2.block b (by simp; omega)).trans (Below.heap_alloc _ _ _ (by omega))))
  have HBW2 := Lib.hid ((HBW.out.alloc (by omega) _).trans (hb2.mono (by simp; omega)))
  have HYI := Lib.hid (hyi.more (S' := fun b => b < w2.heap.size) (fun b h => h.2))
  rw [hce1]
  clear hy0 hyi hb2 hce1 HBL HBW
  go_wp2_with fail
  refine (floor_any (some ⟨w.heap.size + 1 + 1 + 1 + 1 + 1 + 1, 0, none⟩) (some ⟨w2.heap.size, 0, none⟩) 2 2 L0 [2, 1] 0 (fun b => b ≤ w2.heap.size) _ ?hl ?hc ?hs (by simp)).mono ?_
  case hs => intro b hb; simp; omega
  case hl => exact ((blocks_logs HBL2.out).keep (fun b hb => Below.heap_alloc _ _ _ (by omega))).more (fun b hb => by omega)
  case hc => exact (Row.new w2 [2, 1]).ints.more (fun b e => by subst e; exact Nat.le_refl _)
  rintro e w3 ⟨n, rfl, hn0, _, hb3⟩
  have hce2 : cutErr 0 L0 [2, 1] = 0 := cutErr_ok L0_err L0_cut2
  have en : n = 1 := isFloor_unique (hn0 hce2) L0_floor
  subst en
  have hz3 := hb3.size
  simp at hz3
  have HBW3 := Lib.hid ((HBW2.out.alloc (by omega) _).trans (hb3.mono (by simp; omega)))
  have HYI3 := Lib.hid (HYI.out.keep (w' := w3) (fun b hb => (hb3.block b (by simp; omega)).trans (Below.heap_alloc _ _ _ hb)))
  rw [hce2]
  clear hn0 hb3 hce2 HBW2 HBL2 HYI
  go_wp2_with fail
  refine (equal_any A (some ⟨w3.heap.size, 0, none⟩) cap 2 [0, 0] [0, 0] (fun b => b ≤ w3.heap.size) _ ?hl ?hc (by simp) (by simp)).mono ?_
  case hl => exact (HYI3.out.keep (fun b hb => Below.heap_alloc _ _ _ (by omega))).more (fun b hb => by omega)
  case hc => exact (Row.new w3 [0, 0]).ints.more (fun b e => by subst e; exact Nat.le_refl _)
  rintro e w4 ⟨rfl, k, rfl⟩
  rw [decide_eq_true rfl]
  go_wp2_with fail
  go_ret
  exact ⟨rfl, below_drewN (HBW3.out.alloc (by omega) _) _⟩

/-- a is nowhere above b. -/
def underB (xs ys : List Int) : Bool := pairedB xs ys && !lessB ys xs xs.length
set_option maxHeartbeats 400000 in
theorem under_any (A B : Option Addr) (ca cb : Nat) (xs ys : List Int) (S : Nat → Prop) (w : World) (ha : Ints w S A xs) (hb : Ints w S B ys) (hx : xs.length ≤ 9223372036854775807) (hy : ys.length ≤ 9223372036854775807) :
    Calls Try.prog 34 #[.slice A xs.length ca, .slice B ys.length cb] w fun e w' => e = .returned (.bool (underB xs ys)) ∧ ∃ k, w' = w.drewN k := by
  go_enter Try.func34, Try.ntmps34
  go_wp2_with fail
  refine (compare_any A B ca cb xs ys S w ha hb hx hy).mono ?_
  rintro e w1 ⟨rfl, k, rfl⟩
  have HU := Lib.hid (show underB xs ys = (pairedB xs ys && !lessB ys xs xs.length) from rfl)
  have HC := Lib.hid (show cmpC xs ys = if pairedB xs ys then cmpN (lessB xs ys xs.length) (lessB ys xs xs.length) else 0 from rfl)
  have HP := Lib.hid (show pairE xs ys = if pairedB xs ys then 0 else 1 from rfl)
  rw [HC.out, HP.out]
  generalize pairedB xs ys = a at HU ⊢
  generalize lessB xs ys xs.length = b at HU ⊢
  generalize lessB ys xs xs.length = c at HU ⊢
  clear HC HP
  cases a <;> cases b <;> cases c
  all_goals
    simp only [cmpN, if_true, if_false, Bool.false_eq_true]
    go_wp2_with fail
    go_ret
    exact ⟨by rw [HU.out]; rfl, _, rfl⟩
end Go.Proofs.Ytjpknhhdkjhjfaa
