/- Words for memory: slices of stamps and of logs; the contract of find. -/
import Derived.Test.YtjpknhhdkjhjfaaFit
namespace Go.Proofs.Ytjpknhhdkjhjfaa
open Go.RowKit
set_option linter.unusedVariables false

abbrev nilS : Stp := (0, [])
/-- A stamp's two cells. -/
def StampAt (w : World) (S : Nat → Prop) (b off : Nat) (s : Stp) : Prop :=
  w.cell? ⟨b, off, none⟩ = some (.int .i64 s.1) ∧ ∃ A c, w.cell? ⟨b, off + 1, none⟩ = some (.slice A s.2.length c) ∧ Ints w S A s.2 ∧ s.2.length ≤ 17592186044416
def Stamps (w : World) (S : Nat → Prop) (A : Option Addr) (l : List Stp) : Prop :=
  l.length ≤ 17592186044416 ∧ (0 < l.length → ∃ b off, A = some ⟨b, off, none⟩ ∧ S b ∧ ∀ k, k < l.length → StampAt w S b (off + k * 2) (l.getD k nilS))
def Logs (w : World) (S : Nat → Prop) (A : Option Addr) (L : List (List Stp)) : Prop :=
  L.length ≤ 17592186044416 ∧ (0 < L.length → ∃ b off, A = some ⟨b, off, none⟩ ∧ S b ∧ ∀ k, k < L.length → ∃ A' c, w.cell? ⟨b, off + k, none⟩ = some (.slice A' (L.getD k []).length c) ∧ Stamps w S A' (L.getD k []))

section
variable {w w' : World} {S S' : Nat → Prop} {A : Option Addr} {l : List Stp} {L : List (List Stp)}
theorem StampAt.keep {b off : Nat} {s : Stp} (h : StampAt w S b off s) (hk : Same S w w') (hb : S b) : StampAt w' S b off s := by
  obtain ⟨h1, A, c, h2, h3, h4⟩ := h
  exact ⟨(hk.cell hb).trans h1, A, c, (hk.cell hb).trans h2, h3.keep hk, h4⟩
theorem StampAt.more {b off : Nat} {s : Stp} (h : StampAt w S b off s) (hS : ∀ b, S b → S' b) : StampAt w S' b off s := by
  obtain ⟨h1, A, c, h2, h3, h4⟩ := h
  exact ⟨h1, A, c, h2, h3.more hS, h4⟩
theorem Stamps.keep (h : Stamps w S A l) (hk : Same S w w') : Stamps w' S A l :=
  ⟨h.1, fun hn => by
    obtain ⟨b, off, e, hb, hc⟩ := h.2 hn
    exact ⟨b, off, e, hb, fun k hl => (hc k hl).keep hk hb⟩⟩
theorem Stamps.more (h : Stamps w S A l) (hS : ∀ b, S b → S' b) : Stamps w S' A l :=
  ⟨h.1, fun hn => by
    obtain ⟨b, off, e, hb, hc⟩ := h.2 hn
    exact ⟨b, off, e, hS b hb, fun k hl => (hc k hl).more hS⟩⟩
theorem Stamps.at_ {k : Nat} (h : Stamps w S A l) (hk : k < l.length) : ∃ b off, A = some ⟨b, off, none⟩ ∧ S b ∧ StampAt w S b (off + k * 2) (l.getD k nilS) := by
  obtain ⟨b, off, e, hb, hc⟩ := h.2 (by omega)
  exact ⟨b, off, e, hb, hc k hk⟩
theorem Logs.keep (h : Logs w S A L) (hk : Same S w w') : Logs w' S A L :=
  ⟨h.1, fun hn => by
    obtain ⟨b, off, e, hb, hc⟩ := h.2 hn
    refine ⟨b, off, e, hb, fun k hl => ?_⟩
    obtain ⟨A', c, h1, h2⟩ := hc k hl
    exact ⟨A', c, (hk.cell hb).trans h1, h2.keep hk⟩⟩
theorem Logs.more (h : Logs w S A L) (hS : ∀ b, S b → S' b) : Logs w S' A L :=
  ⟨h.1, fun hn => by
    obtain ⟨b, off, e, hb, hc⟩ := h.2 hn
    refine ⟨b, off, e, hS b hb, fun k hl => ?_⟩
    obtain ⟨A', c, h1, h2⟩ := hc k hl
    exact ⟨A', c, h1, h2.more hS⟩⟩
theorem Logs.at_ {k : Nat} (h : Logs w S A L) (hk : k < L.length) : ∃ b off A' c, A = some ⟨b, off, none⟩ ∧ S b ∧ w.cell? ⟨b, off + k, none⟩ = some (.slice A' (L.getD k []).length c) ∧ Stamps w S A' (L.getD k []) := by
  obtain ⟨b, off, e, hb, hc⟩ := h.2 (by omega)
  obtain ⟨A', c, h1, h2⟩ := hc k hk
  exact ⟨b, off, A', c, e, hb, h1, h2⟩
end

/-- What find returns. -/
def IsFind (l : List Stp) (c r : Int) : Prop := (∃ k : Nat, k < l.length ∧ r = k ∧ (l.getD k nilS).1 = c) ∨ (r = -1 ∧ ∀ s ∈ l, s.1 ≠ c)
def FindPost (l : List Stp) (c : Int) (w : World) (e : Ending) (w' : World) : Prop := ∃ r : Int, e = .returned (.int .i64 r) ∧ IsFind l c r ∧ Below w.heap.size w w'

theorem none_step {l : List Stp} {k : Nat} {c : Int} (hk : k < l.length) (h : ∀ s ∈ l.take k, s.1 ≠ c) (he : (l.getD k nilS).1 ≠ c) : ∀ s ∈ l.take (k + 1), s.1 ≠ c := by
  intro s hs
  rw [take_snoc l k hk] at hs
  rcases List.mem_append.1 hs with h' | h'
  · exact h s h'
  · rw [List.mem_singleton.1 h']
    simpa [List.getD, hk] using he

set_option maxHeartbeats 400000 in
theorem find_any (A : Option Addr) (ca : Nat) (l : List Stp) (c : Int) (S : Nat → Prop) (w : World) (ha : Stamps w S A l) (hS : ∀ b, S b → b < w.heap.size) :
    Calls Try.prog 42 #[.slice A l.length ca, .int .i64 c] w (FindPost l c w) := by
  have hlen := ha.1
  go_enter Try.func42, Try.ntmps42
  go_wp2
  go_loopw [9] (fun i wr => ∃ k : Nat, k ≤ l.length ∧ i = .int .i64 k ∧ (∀ s ∈ l.take k, s.1 ≠ c) ∧ Below w.heap.size w wr) (fun i _ => l.length - (intOf i).toNat)
  case atStart => exact ⟨0, Nat.zero_le _, rfl, by simp, Below.refl _ _⟩
  case round =>
    obtain ⟨k, hk, rfl, ht, hbel⟩ := hrel
    have HT := Lib.hid ht
    clear ht
    by_cases hlt : k < l.length
    · obtain ⟨b, off, rfl, hb, hs⟩ := (ha.keep (Same.of_below hbel hS)).at_ hlt
      generalize hg : l.getD k nilS = s at hs
      have HG := Lib.hid hg
      clear hg
      obtain ⟨cm, sh⟩ := s
      obtain ⟨h1, A', c', h2, h3, h4⟩ := hs
      simp only at h1 h2 h3 h4
      have HB := Lib.hid hbel
      have hsz := hbel.size
      clear ha h3 hbel
      by_cases he : cm = c
      · subst he
        have hd : (cm == cm) = true := by simp
        go_wp2
        go_ret
        exact ⟨k, rfl, .inl ⟨k, hlt, rfl, by rw [HG.out]⟩, HB.out.alloc hsz _⟩
      · have hd : (cm == c) = false := by simp [he]
        go_wp2
        go_roundw
        case rel => exact ⟨k + 1, by omega, by go_num, none_step hlt HT.out (by rw [HG.out]; exact he), HB.out.alloc hsz _⟩
        case measure => simp [intOf]; omega
    · have HB := Lib.hid hbel
      have HN := Lib.hid (show ∀ s ∈ l, s.1 ≠ c by have := HT.out; rwa [List.take_of_length_le (by omega)] at this)
      clear hbel
      go_wp2
      go_ret
      exact ⟨-1, rfl, .inr ⟨rfl, HN.out⟩, HB.out⟩
end Go.Proofs.Ytjpknhhdkjhjfaa
