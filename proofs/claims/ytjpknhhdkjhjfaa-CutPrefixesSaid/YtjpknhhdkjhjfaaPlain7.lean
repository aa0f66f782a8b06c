/- Plain: closed cuts under max and min; truncated logs. Nothing of the program. -/
import Derived.Test.YtjpknhhdkjhjfaaPlain6
namespace Go.Proofs.Ytjpknhhdkjhjfaa

section
variable {base : Int} {L : List (List Stp)} {p q x y z : List Int}
theorem zipGet (f : Int → Int → Int) {i : Nat} (hx : i < x.length) (hy : i < y.length) : (List.zipWith f x y).getD i 0 = f (x.getD i 0) (y.getD i 0) := by
  simp [List.getD, List.getElem?_zipWith, hx, hy]
theorem cut_max (hp : IsCut L p) (hq : IsCut L q) : IsCut L (List.zipWith max p q) := by
  have h1 := hp.1
  have h2 := hq.1
  refine ⟨by simp; omega, fun i hi => ?_⟩
  rw [zipGet max (by omega) (by omega)]
  have := hp.2 i hi
  have := hq.2 i hi
  omega
theorem cut_min (hp : IsCut L p) (hq : IsCut L q) : IsCut L (List.zipWith min p q) := by
  have h1 := hp.1
  have h2 := hq.1
  refine ⟨by simp; omega, fun i hi => ?_⟩
  rw [zipGet min (by omega) (by omega)]
  have := hp.2 i hi
  have := hq.2 i hi
  omega
theorem closed_max (hv : Valid base L) (hp : IsCut L p) (hq : IsCut L q) (cp : ClosedC L p) (cq : ClosedC L q) : ClosedC L (List.zipWith max p q) := by
  have h1 := hp.1
  have h2 := hq.1
  intro i hi k hk hkl t ht
  have htr := hv.range hi hkl ht
  have htm : t.toNat < L.length := by omega
  rw [zipGet max (by omega) (by omega)] at hk
  have hor : (k : Int) < p.getD i 0 ∨ (k : Int) < q.getD i 0 := by omega
  rcases hor with h | h
  · obtain ⟨k', a, b, c⟩ := cp i hi k h hkl t ht
    exact ⟨k', by rw [zipGet max (by omega) (by omega)]; omega, b, c⟩
  · obtain ⟨k', a, b, c⟩ := cq i hi k h hkl t ht
    exact ⟨k', by rw [zipGet max (by omega) (by omega)]; omega, b, c⟩
theorem closed_min (hv : Valid base L) (hp : IsCut L p) (hq : IsCut L q) (cp : ClosedC L p) (cq : ClosedC L q) : ClosedC L (List.zipWith min p q) := by
  have h1 := hp.1
  have h2 := hq.1
  intro i hi k hk hkl t ht
  have htr := hv.range hi hkl ht
  have htm : t.toNat < L.length := by omega
  rw [zipGet min (by omega) (by omega)] at hk
  obtain ⟨k1, a1, b1, c1⟩ := cp i hi k (by omega) hkl t ht
  obtain ⟨k2, a2, b2, c2⟩ := cq i hi k (by omega) hkl t ht
  have := hv.inj htm b1 b2 (c1.trans c2.symm)
  subst this
  exact ⟨k1, by rw [zipGet min (by omega) (by omega)]; omega, b1, c1⟩
theorem isClose_of_closed {c : List Int} (hc : IsCut L c) (h : ClosedC L c) : IsClose L c c := ⟨hc, fun _ _ => Int.le_refl _, h, fun _ _ hz _ => hz⟩

/-- Logs that lost the ends of their lists. -/
def truncL (L : List (List Stp)) (x : List Int) : List (List Stp) := L.mapIdx fun i l => l.take (x.getD i 0).toNat
theorem trunc_len : (truncL L x).length = L.length := by simp [truncL]
theorem trunc_getD {i : Nat} (hi : i < L.length) : (truncL L x).getD i [] = (L.getD i []).take (x.getD i 0).toNat := by
  simp [truncL, List.getD, hi]
theorem trunc_stp {i k : Nat} (hi : i < L.length) (hk : k < (x.getD i 0).toNat) : stp (truncL L x) i k = stp L i k := by
  unfold stp
  rw [trunc_getD hi]
  generalize L.getD i [] = l
  generalize (x.getD i 0).toNat = m at hk
  simp only [List.getD, List.getElem?_take_of_lt hk]
theorem trunc_lt {i k : Nat} (hx : IsCut L x) (hi : i < L.length) : k < ((truncL L x).getD i []).length ↔ (k : Int) < x.getD i 0 := by
  rw [trunc_getD hi, List.length_take]
  have := hx.2 i hi
  omega
theorem trunc_valid (hv : Valid base L) : Valid base (truncL L x) := by
  refine ⟨fun i hi => ?_, ?_⟩
  · rw [trunc_len] at hi ⊢
    obtain ⟨⟨a1, a2⟩, a3⟩ := hv.ok i hi
    rw [trunc_getD hi]
    exact ⟨⟨fun s hs => a1 s (List.mem_of_mem_take hs), a2.take⟩, fun s hs => a3 s (List.mem_of_mem_take hs)⟩
  · intro s hs t ht e
    obtain ⟨a, ha, hs⟩ := mem_flatten_getD.1 hs
    obtain ⟨b, hb, ht⟩ := mem_flatten_getD.1 ht
    rw [trunc_len] at ha hb
    rw [trunc_getD ha] at hs
    rw [trunc_getD hb] at ht
    exact hv.agree s (mem_flatten_getD.2 ⟨a, ha, List.mem_of_mem_take hs⟩) t (mem_flatten_getD.2 ⟨b, hb, List.mem_of_mem_take ht⟩) e
theorem trunc_last {n : Int} (hv : Valid base L) (hx : IsCut L x) (h : IsFloor base L x n) : IsLast base (truncL L x) n := by
  obtain ⟨m, hm, h1, h2, h3, h4⟩ := h
  have inC : ∀ i k, i < L.length → k < (L.getD i []).length → (stp L i k).1 ≤ n → (k : Int) < x.getD i 0 := fun i k hi hk hle => by
    rcases Int.lt_or_le (k : Int) (x.getD i 0) with h | h
    · exact h
    · exfalso
      have hx0 := hx.2 i hi
      have hlt := h3 i hi (by omega)
      have := hv.le hi (show (x.getD i 0).toNat ≤ k by omega) hk
      omega
  have top : ∀ i, i < L.length → ∀ k : Nat, (k : Int) < x.getD i 0 → k < (L.getD i []).length := fun i hi k hk => by
    have := hx.2 i hi
    omega
  refine ⟨h1, fun c hc1 hc2 => ?_, fun hw => ?_⟩
  · obtain ⟨⟨i, k, hi, hk, e⟩, hall⟩ := hm.2.1 c hc1 (by omega)
    have hkx := inC i k hi hk (by omega)
    refine ⟨⟨i, k, by rw [trunc_len]; exact hi, (trunc_lt hx hi).2 hkx, by rw [trunc_stp hi (by omega)]; exact e⟩, fun i' k' hi' hk' e' t ht => ?_⟩
    rw [trunc_len] at hi'
    have hkx' := (trunc_lt hx hi').1 hk'
    rw [trunc_stp hi' (by omega)] at e' ht
    obtain ⟨k2, hk2, e2⟩ := hall i' k' hi' (top i' hi' k' hkx') e' t ht
    have htr := hv.range hi' (top i' hi' k' hkx') ht
    have htm : t.toNat < L.length := by omega
    have hk2x := inC t.toNat k2 htm hk2 (by omega)
    exact ⟨k2, (trunc_lt hx htm).2 hk2x, by rw [trunc_stp htm (by omega)]; exact e2⟩
  · obtain ⟨⟨i, k, hi, hk, e⟩, hall⟩ := hw
    have hall0 := hall i k hi hk e
    rw [trunc_len] at hi
    have hkx := (trunc_lt hx hi).1 hk
    rw [trunc_stp hi (by omega)] at e hall0
    have hkl := top i hi k hkx
    have key : ∀ t ∈ (stp L i k).2, ∃ k' : Nat, (k' : Int) < x.getD t.toNat 0 ∧ k' < (L.getD t.toNat []).length ∧ (stp L t.toNat k').1 = n + 1 := fun t ht => by
      obtain ⟨k', hk', e'⟩ := hall0 t ht
      have htr := hv.range hi hkl ht
      have htm : t.toNat < L.length := by omega
      have hx' := (trunc_lt hx htm).1 hk'
      rw [trunc_stp htm (by omega)] at e'
      exact ⟨k', hx', top _ htm k' hx', e'⟩
    rcases h4 with rfl | ⟨i', hi', hl', e'⟩
    · refine hm.2.2 ⟨⟨i, k, hi, hkl, e⟩, fun i' k' hi' hk' e' t ht => ?_⟩
      rw [hv.same hi' hi hk' hkl (e'.trans e.symm)] at ht
      obtain ⟨k2, _, h2, h3⟩ := key t ht
      exact ⟨k2, h2, h3⟩
    · have hx0 := hx.2 i' hi'
      have hkl' : (x.getD i' 0).toNat < (L.getD i' []).length := by omega
      have hown := hv.own hi' hkl'
      rw [hv.same hi' hi hkl' hkl (e'.trans e.symm)] at hown
      obtain ⟨k2, a, b, c⟩ := key _ hown
      rw [Int.toNat_natCast] at a b c
      have := hv.inj hi' b hkl' (c.trans e'.symm)
      omega
end
end Go.Proofs.Ytjpknhhdkjhjfaa
