/- Plain: closed cuts and the steps of Close. Nothing of the program. -/
import Derived.Test.YtjpknhhdkjhjfaaPlain2
namespace Go.Proofs.Ytjpknhhdkjhjfaa

/-- The stamp k of list i. -/
abbrev stp (L : List (List Stp)) (i k : Nat) : Stp := (L.getD i []).getD k (0, [])
def InCut (L : List (List Stp)) (x : List Int) (i : Nat) (cm : Int) : Prop := ∃ k : Nat, (k : Int) < x.getD i 0 ∧ k < (L.getD i []).length ∧ (stp L i k).1 = cm
def ClosedC (L : List (List Stp)) (x : List Int) : Prop := ∀ i, i < L.length → ∀ k : Nat, (k : Int) < x.getD i 0 → k < (L.getD i []).length → ∀ t ∈ (stp L i k).2, InCut L x t.toNat (stp L i k).1
def IsCut (L : List (List Stp)) (x : List Int) : Prop := x.length = L.length ∧ ∀ i, i < L.length → 0 ≤ x.getD i 0 ∧ x.getD i 0 ≤ (L.getD i []).length
def LeC (m : Nat) (x y : List Int) : Prop := ∀ i, i < m → x.getD i 0 ≤ y.getD i 0
def IsClose (L : List (List Stp)) (c y : List Int) : Prop := IsCut L y ∧ LeC L.length y c ∧ ClosedC L y ∧ ∀ z, IsCut L z → LeC L.length z c → ClosedC L z → LeC L.length z y

theorem ext_getD {x y : List Int} (hl : x.length = y.length) (h : ∀ i, i < x.length → x.getD i 0 = y.getD i 0) : x = y := by
  apply List.ext_getElem hl
  intro i h1 h2
  have := h i h1
  rwa [getD_get x i 0 h1, getD_get y i 0 h2] at this
theorem isClose_unique {L : List (List Stp)} {c y z : List Int} (hy : IsClose L c y) (hz : IsClose L c z) : y = z := by
  refine ext_getD (hy.1.1.trans hz.1.1.symm) fun i hi => ?_
  have h1 := hy.2.2.2 z hz.1 hz.2.1 hz.2.2.1 i (by rw [← hy.1.1]; exact hi)
  have h2 := hz.2.2.2 y hy.1 hy.2.1 hy.2.2.1 i (by rw [← hy.1.1]; exact hi)
  omega
theorem isClose_self {L : List (List Stp)} {c y : List Int} (hc : IsCut L c) (h : IsClose L c y) : ClosedC L c ↔ y = c := by
  constructor
  · intro hcl
    refine ext_getD (h.1.1.trans hc.1.symm) fun i hi => ?_
    have hi' : i < L.length := by rw [← h.1.1]; exact hi
    have h1 := h.2.2.2 c hc (fun _ _ => Int.le_refl _) hcl i hi'
    have h2 := h.2.1 i hi'
    omega
  · rintro rfl
    exact h.2.2.1

section
variable {base : Int} {L : List (List Stp)}
theorem stp_mem {i k : Nat} (hk : k < (L.getD i []).length) : stp L i k ∈ L.getD i [] := getD_in _ _ _ hk
theorem Valid.lt (hv : Valid base L) {i k k' : Nat} (hi : i < L.length) (h : k < k') (hk : k' < (L.getD i []).length) : (stp L i k).1 < (stp L i k').1 := by
  have := List.pairwise_iff_getElem.1 (hv.ok i hi).1.2 k k' (by omega) hk h
  rwa [← getD_get _ _ (0, []) (by omega), ← getD_get _ _ (0, []) hk] at this
theorem Valid.le (hv : Valid base L) {i k k' : Nat} (hi : i < L.length) (h : k ≤ k') (hk : k' < (L.getD i []).length) : (stp L i k).1 ≤ (stp L i k').1 := by
  rcases Nat.lt_or_eq_of_le h with h' | h'
  · have := hv.lt hi h' hk; omega
  · subst h'; exact Int.le_refl _
theorem Valid.inj (hv : Valid base L) {i k k' : Nat} (hi : i < L.length) (hk : k < (L.getD i []).length) (hk' : k' < (L.getD i []).length) (h : (stp L i k).1 = (stp L i k').1) : k = k' := by
  rcases Nat.lt_trichotomy k k' with h' | h' | h'
  · have := hv.lt hi h' hk'; omega
  · exact h'
  · have := hv.lt hi h' hk; omega
theorem Valid.same (hv : Valid base L) {i j k k' : Nat} (hi : i < L.length) (hj : j < L.length) (hk : k < (L.getD i []).length) (hk' : k' < (L.getD j []).length) (h : (stp L i k).1 = (stp L j k').1) : (stp L i k).2 = (stp L j k').2 :=
  hv.agree _ (getD_take_mem hi (stp_mem hk)) _ (getD_take_mem hj (stp_mem hk')) h
theorem Valid.own (hv : Valid base L) {i k : Nat} (hi : i < L.length) (hk : k < (L.getD i []).length) : (i : Int) ∈ (stp L i k).2 := ((hv.ok i hi).2 _ (stp_mem hk)).2.2
theorem Valid.range (hv : Valid base L) {i k : Nat} (hi : i < L.length) (hk : k < (L.getD i []).length) {t : Int} (ht : t ∈ (stp L i k).2) : 0 ≤ t ∧ t < L.length := ((hv.ok i hi).2 _ (stp_mem hk)).2.1 t ht
theorem Valid.asc (hv : Valid base L) {i k : Nat} (hi : i < L.length) (hk : k < (L.getD i []).length) : (stp L i k).2.Pairwise (· < ·) := ((hv.ok i hi).2 _ (stp_mem hk)).1
theorem Valid.bd (hv : Valid base L) {i k : Nat} (hi : i < L.length) (hk : k < (L.getD i []).length) : base < (stp L i k).1 ∧ (stp L i k).1 ≤ 1073741824 := (hv.ok i hi).1.1 _ (stp_mem hk)
end

/-- List i stands at commit cm: the cut c contains it, at the place where p stands. -/
def Stands (L : List (List Stp)) (c p : List Int) (i : Nat) (cm : Int) : Prop := p.getD i 0 < c.getD i 0 ∧ (stp L i (p.getD i 0).toNat).1 = cm

/-- What Close keeps. -/
structure CloseInv (L : List (List Stp)) (c o p : List Int) : Prop where
  lo : o.length = L.length
  lp : p.length = L.length
  pos : ∀ i, i < L.length → 0 ≤ p.getD i 0
  po : LeC L.length p o
  oc : LeC L.length o c
  top : ∀ i, i < L.length → c.getD i 0 ≤ (L.getD i []).length
  cl : ClosedC L p
  gr : ∀ z, IsCut L z → LeC L.length z c → ClosedC L z → LeC L.length z o

/-- s is the least stamp behind p within o. -/
def Least (L : List (List Stp)) (o p : List Int) (s : Stp) : Prop :=
  (∃ i, i < L.length ∧ p.getD i 0 < o.getD i 0 ∧ s = stp L i (p.getD i 0).toNat) ∧ ∀ i, i < L.length → p.getD i 0 < o.getD i 0 → s.1 ≤ (stp L i (p.getD i 0).toNat).1

section
variable {base : Int} {L : List (List Stp)} {c o p : List Int} {s : Stp}
theorem CloseInv.plt (h : CloseInv L c o p) {i : Nat} (hi : i < L.length) (hl : p.getD i 0 < o.getD i 0) : (p.getD i 0).toNat < (L.getD i []).length := by
  have := h.pos i hi
  have := h.oc i hi
  have := h.top i hi
  omega
/-- Where the least commit stands in a shard that the cut lacks, no closed cut goes beyond p. -/
theorem close_cut (hv : Valid base L) (h : CloseInv L c o p) (hs : Least L o p s) {t : Int} (ht : t ∈ s.2) (hns : ¬ Stands L o p t.toNat s.1) {z : List Int} (hz : IsCut L z) (hzc : LeC L.length z c) (hzl : ClosedC L z)
    {j : Nat} (hj : j < L.length) (hst : Stands L o p j s.1) : z.getD j 0 ≤ p.getD j 0 := by
  obtain ⟨⟨i, hi, hil, rfl⟩, hle⟩ := hs
  have hik := h.plt hi hil
  have hjk := h.plt hj hst.1
  have hpj := h.pos j hj
  have hpi := h.pos i hi
  rcases Int.lt_or_le (p.getD j 0) (z.getD j 0) with hlt | hge
  · exfalso
    have hsame := hv.same hj hi hjk hik hst.2
    have htr := hv.range hi hik ht
    obtain ⟨k', hk1, hk2, hk3⟩ := hzl j hj (p.getD j 0).toNat (by omega) hjk t (by rw [hsame]; exact ht)
    have htm : t.toNat < L.length := by omega
    have hzo := h.gr z hz hzc hzl t.toNat htm
    have hpt := h.pos t.toNat htm
    rw [hst.2] at hk3
    rcases Int.lt_or_le (k' : Int) (p.getD t.toNat 0) with h1 | h1
    · have hs2 := hv.same htm hi hk2 hik hk3
      obtain ⟨k2, g1, g2, g3⟩ := h.cl t.toNat htm k' h1 hk2 (i : Int) (by rw [hs2]; exact hv.own hi hik)
      rw [Int.toNat_natCast] at g1 g2 g3
      have := hv.inj hi g2 hik (g3.trans hk3)
      omega
    · have hpo : p.getD t.toNat 0 < o.getD t.toNat 0 := by omega
      have h2 := hle t.toNat htm hpo
      have h3 := hv.le htm (show (p.getD t.toNat 0).toNat ≤ k' by omega) hk2
      exact hns ⟨hpo, by omega⟩
  · exact hge

theorem close_trunc (hv : Valid base L) (h : CloseInv L c o p) (hs : Least L o p s) {t : Int} (ht : t ∈ s.2) (hns : ¬ Stands L o p t.toNat s.1) {o' : List Int} (ho : o'.length = L.length)
    (h1 : ∀ i, i < L.length → Stands L o p i s.1 → o'.getD i 0 = p.getD i 0) (h2 : ∀ i, i < L.length → ¬ Stands L o p i s.1 → o'.getD i 0 = o.getD i 0) : CloseInv L c o' p := by
  have hle : LeC L.length o' o := fun i hi => by
    by_cases hst : Stands L o p i s.1
    · rw [h1 i hi hst]; exact h.po i hi
    · rw [h2 i hi hst]; exact Int.le_refl _
  refine ⟨ho, h.lp, h.pos, fun i hi => ?_, fun i hi => Int.le_trans (hle i hi) (h.oc i hi), h.top, h.cl, fun z hz hzc hzl i hi => ?_⟩
  · by_cases hst : Stands L o p i s.1
    · rw [h1 i hi hst]; exact Int.le_refl _
    · rw [h2 i hi hst]; exact h.po i hi
  · by_cases hst : Stands L o p i s.1
    · rw [h1 i hi hst]; exact close_cut hv h hs ht hns hz hzc hzl hi hst
    · rw [h2 i hi hst]; exact h.gr z hz hzc hzl i hi

theorem close_adv (hv : Valid base L) (h : CloseInv L c o p) (hs : Least L o p s) (hst : ∀ t ∈ s.2, Stands L o p t.toNat s.1) {p' : List Int} (hp : p'.length = L.length)
    (h1 : ∀ i, i < L.length → (i : Int) ∈ s.2 → p'.getD i 0 = p.getD i 0 + 1) (h2 : ∀ i, i < L.length → (i : Int) ∉ s.2 → p'.getD i 0 = p.getD i 0) : CloseInv L c o p' := by
  obtain ⟨⟨i0, hi0, hil0, rfl⟩, hle⟩ := hs
  have hk0 := h.plt hi0 hil0
  have hge : LeC L.length p p' := fun i hi => by
    by_cases hm : (i : Int) ∈ (stp L i0 (p.getD i0 0).toNat).2
    · rw [h1 i hi hm]; omega
    · rw [h2 i hi hm]; exact Int.le_refl _
  refine ⟨h.lo, hp, fun i hi => Int.le_trans (h.pos i hi) (hge i hi), fun i hi => ?_, h.oc, h.top, ?_, h.gr⟩
  · by_cases hm : (i : Int) ∈ (stp L i0 (p.getD i0 0).toNat).2
    · rw [h1 i hi hm]
      have := (hst _ hm).1
      rw [Int.toNat_natCast] at this
      omega
    · rw [h2 i hi hm]; exact h.po i hi
  · intro i hi k hk hkl t ht
    have htr := hv.range hi hkl ht
    have htm : t.toNat < L.length := by omega
    rcases Int.lt_or_le (k : Int) (p.getD i 0) with hlt | hlt
    · obtain ⟨k2, g1, g2, g3⟩ := h.cl i hi k hlt hkl t ht
      exact ⟨k2, Int.lt_of_lt_of_le g1 (hge _ htm), g2, g3⟩
    · by_cases hm : (i : Int) ∈ (stp L i0 (p.getD i0 0).toNat).2
      · rw [h1 i hi hm] at hk
        have hkp : k = (p.getD i 0).toNat := by omega
        have hsti := hst _ hm
        rw [Int.toNat_natCast] at hsti
        subst hkp
        have hsame := hv.same hi hi0 hkl hk0 hsti.2
        rw [hsame] at ht
        have hstt := hst t ht
        refine ⟨(p.getD t.toNat 0).toNat, ?_, h.plt htm hstt.1, hstt.2.trans hsti.2.symm⟩
        have e : ((t.toNat : Nat) : Int) = t := by omega
        rw [h1 t.toNat htm (by rw [e]; exact ht)]
        have := h.pos t.toNat htm
        omega
      · rw [h2 i hi hm] at hk
        omega

theorem close_start (hc : IsCut L c) : CloseInv L c c (List.replicate L.length 0) := by
  have hz : ∀ i, i < L.length → (List.replicate L.length (0 : Int)).getD i 0 = 0 := fun i hi => by simp [List.getD, hi]
  refine ⟨hc.1, by simp, fun i hi => by rw [hz i hi]; exact Int.le_refl _, fun i hi => by rw [hz i hi]; exact (hc.2 i hi).1, fun i _ => Int.le_refl _, fun i hi => (hc.2 i hi).2, ?_, fun z _ hzc _ => hzc⟩
  intro i hi k hk
  rw [hz i hi] at hk
  omega
theorem close_end (h : CloseInv L c o p) (hn : ∀ i, i < L.length → ¬ p.getD i 0 < o.getD i 0) : IsClose L c o := by
  have e : p = o := ext_getD (h.lp.trans h.lo.symm) fun i hi => by
    have h1 := h.po i (by rw [← h.lp]; exact hi)
    have h2 := hn i (by rw [← h.lp]; exact hi)
    omega
  subst e
  exact ⟨⟨h.lo, fun i hi => ⟨h.pos i hi, Int.le_trans (h.oc i hi) (h.top i hi)⟩⟩, h.oc, h.cl, h.gr⟩
end

/-- The room between p and o. -/
def room : List Int → List Int → Nat
  | x :: xs, y :: ys => (y - x).toNat + room xs ys
  | _, _ => 0
theorem room_lt : ∀ (p o p' o' : List Int), p.length = o.length → p'.length = p.length → o'.length = o.length → (∀ i, i < p.length → (o'.getD i 0 - p'.getD i 0).toNat ≤ (o.getD i 0 - p.getD i 0).toNat) →
    (∃ i, i < p.length ∧ (o'.getD i 0 - p'.getD i 0).toNat < (o.getD i 0 - p.getD i 0).toNat) → room p' o' < room p o
  | [], [], p', o', _, _, _, _, ⟨i, hi, _⟩ => by simp at hi
  | x :: p, y :: o, x' :: p', y' :: o', h1, h2, h3, hle, ⟨i, hi, hlt⟩ => by
    have h0 := hle 0 (by simp)
    simp at h0
    have hrest : ∀ i, i < p.length → (o'.getD i 0 - p'.getD i 0).toNat ≤ (o.getD i 0 - p.getD i 0).toNat := fun i hi => by
      have := hle (i + 1) (by simpa using hi)
      simpa using this
    have hrle : room p' o' ≤ room p o := room_le p o p' o' (by simpa using h1) (by simpa using h2) (by simpa using h3) hrest
    simp only [room]
    cases i with
    | zero => simp at hlt; omega
    | succ i =>
      have := room_lt p o p' o' (by simpa using h1) (by simpa using h2) (by simpa using h3) hrest ⟨i, by simpa using hi, by simpa using hlt⟩
      omega
  | [], _ :: _, _, _, h, _, _, _, _ => by simp at h
  | _ :: _, [], _, _, h, _, _, _, _ => by simp at h
  | _ :: _, _ :: _, [], _, _, h, _, _, _ => by simp at h
  | _ :: _, _ :: _, _ :: _, [], _, _, h, _, _ => by simp at h
where
  room_le : ∀ (p o p' o' : List Int), p.length = o.length → p'.length = p.length → o'.length = o.length → (∀ i, i < p.length → (o'.getD i 0 - p'.getD i 0).toNat ≤ (o.getD i 0 - p.getD i 0).toNat) → room p' o' ≤ room p o
  | [], _, [], _, _, _, _, _ => by simp [room]
  | x :: p, y :: o, x' :: p', y' :: o', h1, h2, h3, hle => by
    have h0 := hle 0 (by simp)
    simp at h0
    have hrest : ∀ i, i < p.length → (o'.getD i 0 - p'.getD i 0).toNat ≤ (o.getD i 0 - p.getD i 0).toNat := fun i hi => by
      have := hle (i + 1) (by simpa using hi)
      simpa using this
    have := room_le p o p' o' (by simpa using h1) (by simpa using h2) (by simpa using h3) hrest
    simp only [room]
    omega
  | _ :: _, [], _, _, h, _, _, _ => by simp at h
  | [], _, _ :: _, _, _, h, _, _ => by simp at h
  | _ :: _, _ :: _, [], _, _, h, _, _ => by simp at h
  | _ :: _, _ :: _, _ :: _, [], _, _, h, _ => by simp at h
end Go.Proofs.Ytjpknhhdkjhjfaa
