/- Logs that came in: what an argument of type [][]Stamp reads as. -/
import Derived.Test.YtjpknhhdkjhjfaaOrd
import Derived.Test.YtjpknhhdkjhjfaaRClose
import Derived.Deep.Slices
import Derived.ChangeSame
import Derived.SizedLaws
namespace Go.Proofs.Ytjpknhhdkjhjfaa
open Go.RowKit Go.ChangeShapes Go.Deep
set_option linter.unusedVariables false

section
variable {H : Type} {enc : TypeId × Value → H} {W : World} {fuel : Nat} {cs : List Value} {x : DataW H × List MemPlace}
abbrev Lt (W : World) : Nat → Prop := fun b => b < W.heap.size

theorem spot_none {a : Addr} {v : Value} (h : W.cell? a = some v) : ∃ b off, a = ⟨b, off, none⟩ ∧ b < W.heap.size := by
  have hb := World.block_lt_of_cell? W _ h
  have hs : a.spot = none := by
    unfold World.cell? at h
    split at h
    · by_cases hs : a.spot.isSome
      · simp [hs] at h
      · simpa using hs
    · cases h
  obtain ⟨b, off, sp⟩ := a
  simp only at hs hb
  subst hs
  exact ⟨b, off, rfl, hb⟩
theorem weightsAll_mem {P : Program} {e : TypeId} : ∀ {ds : List (DataW H)} {d : DataW H}, d ∈ ds → ∀ n ∈ d.weights P e, n ∈ DataW.weightsAll P e ds
  | [], _, h, _, _ => by cases h
  | a :: r, d, h, n, hn => by
    unfold DataW.weightsAll
    rcases List.mem_cons.1 h with h' | h'
    · subst h'; exact List.mem_append.2 (.inl hn)
    · exact List.mem_append.2 (.inr (weightsAll_mem h' n hn))
theorem wbytes3 : Try.prog.bytesOf 3 = 8 := by kernel_rfl
theorem wbytes31 : Try.prog.bytesOf 31 = 24 := by kernel_rfl
theorem wbytes36 : Try.prog.bytesOf 36 = 32 := by kernel_rfl
theorem wcells36 : Try.prog.cellsOf 36 = 2 := by kernel_rfl

theorem raw_ints (h : DataW.trod enc Try.prog W 0 (fun _ => true) true fuel 34 cs = some x) (hw : ∀ n ∈ x.1.weights Try.prog 34, n ≤ reachBytes) :
    ∃ A cap l, cs = [.slice A (l : List Int).length cap] ∧ l.length ≤ cap ∧ Ints W (Lt W) A l ∧ l.length ≤ 17592186044416 := by
  rcases open_ints Try.underlying34 Try.underlying3 (by kernel_rfl) h with ⟨hcs, _⟩ | ⟨a, len, cap, zs, hcs, _, hl, hm, hz, hx, hcell, hwz⟩
  · exact ⟨none, 0, [], hcs, by simp, Reads.none_, by simp⟩
  · have hz' : zs.length = cap := by simpa using hz
    obtain ⟨h1, h2⟩ := isRow_ints (w := W) (a := some a) (len := len) (cap := cap) (zs := zs) (.inr ⟨a, rfl, hl, hm, hz', hcell, hwz⟩)
    refine ⟨some a, cap, zs.take len, by rw [h1]; exact hcs, by rw [h1]; exact hl, h2, ?_⟩
    rw [h1]
    have hb := hw ((len + (cap - len)) * 8) (by
      rw [hx]
      simp only [DataW.weights, Try.underlying34]
      refine List.mem_cons.2 (.inl ?_)
      simp only [lits, List.length_map, List.length_take, List.length_drop, wbytes3, hz']
      rw [Nat.min_eq_left hl])
    unfold reachBytes at hb
    omega

theorem raw_stamp (h : DataW.trod enc Try.prog W 0 (fun _ => true) true fuel 36 cs = some x) (hw : ∀ n ∈ x.1.weights Try.prog 36, n ≤ reachBytes) :
    ∃ (cm : Int) (A : Option Addr) (cap : Nat) (l : List Int), cs = [.int .i64 cm, .slice A l.length cap] ∧ Ints W (Lt W) A l ∧ l.length ≤ 17592186044416 := by
  obtain ⟨y0, y1, n, rfl, hl, h0, h1⟩ := trod_struct2 Try.underlying36 h
  rw [wcells36] at hl
  match cs, hl with
  | [c0, c1], _ =>
    have h0' : DataW.trod enc Try.prog W 0 (fun _ => true) true n 3 [c0] = some y0 := h0
    have h1' : DataW.trod enc Try.prog W 0 (fun _ => true) true n 34 [c1] = some y1 := h1
    obtain ⟨cm, e0, _, _⟩ := DataW.trod_int Try.underlying3 h0'
    obtain ⟨A, cap, l, e1, _, hi, hb⟩ := raw_ints h1' (fun k hk => hw k (by
      simp only [DataW.weights, Try.underlying36]
      show k ∈ DataW.weightsEach Try.prog [3, 34] [y0.1, y1.1]
      simp only [DataW.weightsEach, List.mem_append]
      exact .inr (.inl hk)))
    injection e0 with e0
    injection e1 with e1
    subst e0 e1
    exact ⟨cm, A, cap, l, rfl, hi, hb⟩

theorem raw_stamps (h : DataW.trod enc Try.prog W 0 (fun _ => true) true fuel 31 cs = some x) (hw : ∀ n ∈ x.1.weights Try.prog 31, n ≤ reachBytes) :
    ∃ A cap l, cs = [.slice A (l : List Stp).length cap] ∧ l.length ≤ cap ∧ Stamps W (Lt W) A l := by
  rcases open_slice Try.underlying31 h with ⟨hcs, _⟩ | ⟨a, len, cap, m, n, D, Pl, hcs, _, hl, hm, hmm, rfl, hx⟩
  · exact ⟨none, 0, [], hcs, by simp, by simp, fun h => absurd h (by simp)⟩
  · simp only [if_true] at hmm
    subst hmm
    have hwl : len ≤ 17592186044416 := by
      have hb := hw ((len + (m - len)) * 32) (by
        simp only [DataW.weights, Try.underlying31]
        refine List.mem_cons.2 (.inl ?_)
        simp only [List.length_map, List.length_range, wbytes36])
      unfold reachBytes at hb
      omega
    have each : ∀ i, i < len → ∃ s : Stp, W.cell? (a.add (i * 2)) = some (.int .i64 s.1) ∧ ∃ A c, W.cell? ((a.add (i * 2)).add 1) = some (.slice A s.2.length c) ∧ Ints W (Lt W) A s.2 ∧ s.2.length ≤ 17592186044416 := by
      intro i hi
      obtain ⟨cs', h1, h2⟩ := hx i (by omega)
      rw [wcells36] at h1
      obtain ⟨cm, A, c, l, rfl, hint, hb⟩ := raw_stamp h2 (fun k hk => hw k (by
        simp only [DataW.weights, Try.underlying31]
        refine List.mem_cons.2 (.inr (List.mem_append.2 (.inl (weightsAll_mem (List.mem_map.2 ⟨i, List.mem_range.2 hi, rfl⟩) k hk)))))
        )
      obtain ⟨_, _, hc⟩ := World.cells?_some h1
      have hc0 := hc 0 (by omega)
      have hc1 := hc 1 (by omega)
      exact ⟨(cm, l), by simpa [Addr.add] using hc0, A, c, hc1, hint, hb⟩
    obtain ⟨f, hf⟩ := choose_lt (α := Stp) each
    refine ⟨some a, m, (List.range len).map f, by rw [List.length_map, List.length_range]; exact hcs, by simpa using hl, by simpa using hwl, fun hn => ?_⟩
    have hn' : 0 < len := by simpa using hn
    obtain ⟨h0, _⟩ := hf 0 hn'
    obtain ⟨b, off, ha, hb⟩ := spot_none h0
    have ha' : a = ⟨b, off, none⟩ := by simpa [Addr.add] using ha
    subst ha'
    refine ⟨b, off, rfl, hb, fun k hk => ?_⟩
    rw [List.length_map, List.length_range] at hk
    have e : ((List.range len).map f).getD k nilS = f k := by simp [List.getD, hk]
    rw [e]
    obtain ⟨h1, A, c, h2, h3, h4⟩ := hf k hk
    rw [add_none] at h1 h2
    rw [add_none] at h2
    exact ⟨h1, A, c, h2, h3, h4⟩

theorem raw_logs (h : DataW.trod enc Try.prog W 0 (fun _ => true) true fuel 22 cs = some x) (hw : ∀ n ∈ x.1.weights Try.prog 22, n ≤ reachBytes) :
    ∃ A cap L, cs = [.slice A (L : List (List Stp)).length cap] ∧ L.length ≤ cap ∧ Logs W (Lt W) A L ∧ CapsOk W A L := by
  rcases open_slice1 Try.underlying22 (by kernel_rfl) h with ⟨hcs, _⟩ | ⟨a, len, cap, m, n, V, D, Pl, hcs, _, hl, hm, hmm, rfl, hx⟩
  · exact ⟨none, 0, [], hcs, by simp, ⟨by simp, fun h => absurd h (by simp)⟩, fun b off e => by cases e⟩
  · simp only [if_true] at hmm
    subst hmm
    have hwl : len ≤ 17592186044416 := by
      have hb := hw ((len + (m - len)) * 24) (by
        simp only [DataW.weights, Try.underlying22]
        refine List.mem_cons.2 (.inl ?_)
        simp only [List.length_map, List.length_range, wbytes31])
      unfold reachBytes at hb
      omega
    have each : ∀ i, i < len → ∃ l : List Stp, ∃ A c, W.cell? (a.add i) = some (.slice A l.length c) ∧ l.length ≤ c ∧ Stamps W (Lt W) A l := by
      intro i hi
      obtain ⟨h1, h2⟩ := hx i (by omega)
      obtain ⟨A, c, l, e, hlc, hst⟩ := raw_stamps h2 (fun k hk => hw k (by
        simp only [DataW.weights, Try.underlying22]
        exact List.mem_cons.2 (.inr (List.mem_append.2 (.inl (weightsAll_mem (List.mem_map.2 ⟨i, List.mem_range.2 hi, rfl⟩) k hk))))))
      injection e with e
      exact ⟨l, A, c, by rw [h1, e], hlc, hst⟩
    obtain ⟨f, hf⟩ := choose_lt (α := List Stp) each
    have hlen : ((List.range len).map f).length = len := by simp
    have hget : ∀ k, k < len → ((List.range len).map f).getD k [] = f k := fun k hk => by simp [List.getD, hk]
    refine ⟨some a, m, (List.range len).map f, by rw [hlen]; exact hcs, by rw [hlen]; exact hl, ⟨by rw [hlen]; exact hwl, fun hn => ?_⟩, ?_⟩
    · have hn' : 0 < len := by simpa using hn
      obtain ⟨A0, c0, h0, _⟩ := hf 0 hn'
      obtain ⟨b, off, ha, hb⟩ := spot_none h0
      have ha' : a = ⟨b, off, none⟩ := by simpa [Addr.add] using ha
      subst ha'
      refine ⟨b, off, rfl, hb, fun k hk => ?_⟩
      rw [hlen] at hk
      rw [hget k hk]
      obtain ⟨A, c, h1, h2, h3⟩ := hf k hk
      rw [add_none] at h1
      exact ⟨A, c, h1, h3⟩
    · intro b off e k hk A' n' c' hc
      injection e with e
      subst e
      rw [hlen] at hk
      obtain ⟨A, c, h1, h2, h3⟩ := hf k hk
      rw [add_none, hc] at h1
      injection h1 with h1
      injection h1 with _ e2 e3
      omega
end
end Go.Proofs.Ytjpknhhdkjhjfaa
