/- Contracts: slices.Backward over changes. -/
import Derived.Test.YtkpjjfhfbpfjpaaNet
import Derived.Test.YtkpjjfhfbpfjpaaRnd
namespace Go.Proofs.Ytkpjjfhfbpfjpaa
open Go.RowKit Go.Shelf
set_option linter.unusedVariables false
set_option linter.unusedSimpArgs false
attribute [local go_sem] Oper.semAt_some

/-- The numbers below len from the last one on: the first k of them. -/
def dn (len : Nat) : Nat → List { x : Nat // x < len }
  | 0 => []
  | k + 1 => dn len k ++ (if h : len - 1 - k < len then [⟨len - 1 - k, h⟩] else [])
theorem dn_succ {len k : Nat} (h : k < len) : dn len (k + 1) = dn len k ++ [⟨len - 1 - k, by omega⟩] := by
  rw [dn, dif_pos (show len - 1 - k < len by omega)]
theorem dn_length {len : Nat} : ∀ {k : Nat}, k ≤ len → (dn len k).length = k
  | 0, _ => rfl
  | k + 1, h => by rw [dn_succ (by omega), List.length_append, dn_length (by omega)]; rfl

/-- Below n₀ nothing has turned, nor the block Bs. -/
def BK (n₀ Bs : Nat) (W W' : World) : Prop := Below n₀ W W' ∧ W'.heap[Bs]? = W.heap[Bs]?
theorem BK.refl (n₀ Bs : Nat) (W : World) : BK n₀ Bs W W := ⟨Below.refl _ _, rfl⟩
theorem BK.trans {n₀ Bs : Nat} {A B C : World} (h : BK n₀ Bs A B) (k : BK n₀ Bs B C) : BK n₀ Bs A C := ⟨h.1.trans k.1, k.2.trans h.2⟩
theorem BK.put {n₀ Bs B : Nat} (hn : n₀ ≤ B) (hB : Bs < B) (W : World) (l : Nat) (o o' : Obj) (hl : B ≤ l) (ho : W.heap[l]? = some o) (h1 : o.isCells = false) (h2 : o.isWalk = false) : BK n₀ Bs W (W.putObj l o') := by
  have hg := grownBy_putObj' W l o'
  have hlt := lt_of_heap ho
  exact ⟨⟨hg.os, hg.tape, hg.output, hg.size, fun b hb => hg.block b (by omega) (fun e => by injection e with e; omega)⟩, hg.block Bs (by omega) (fun e => by injection e with e; omega)⟩

set_option maxRecDepth 100000 in
set_option maxHeartbeats 2000000 in
theorem back1_in (F : Fence) (n : Nat) (h7 : F.fn 101) (hro : F.round = none) (hn : 1 ≤ n) (l Bs n₀ b off len cap : Nat) (f0 f1 f2 : Nat → Value) (hlen : len ≤ 2513169434916) (hb : b < n₀) (J Jx : List { x : Nat // x < len } → World → Prop)
    (hY : ∀ pre x W, J pre W → pre.length < len → YieldAt F (n - 1) Try.prog l #[.int .i64 (x.1 : Int), .agg #[f0 x.1, f1 x.1, f2 x.1]] W fun e W' =>
      (e = .returned (.bool true) ∧ J (pre ++ [x]) W' ∧ BK n₀ Bs W W') ∨ (e = .returned (.bool false) ∧ Jx (pre ++ [x]) W'))
    (W : World) (hBs : W.cell? ⟨Bs, 0, none⟩ = some (.slice (some ⟨b, off, none⟩) len cap)) (hc : ∀ j, j < len → W.cell? ⟨b, off + j * 3, none⟩ = some (f0 j) ∧ W.cell? ⟨b, off + j * 3 + 1, none⟩ = some (f1 j) ∧ W.cell? ⟨b, off + j * 3 + 2, none⟩ = some (f2 j)) (h0 : J [] W) :
    CallsIn F n Try.prog 101 #[.func (.yield l) #[] #[], .pointer (some ⟨Bs, 0, none⟩)] W fun e W' => (∃ v, e = .returned v) ∧
      ((∃ ys, ys = dn len len ∧ J ys W') ∨ (∃ pre, (∃ k, k ≤ len ∧ pre = dn len k) ∧ Jx pre W')) := by
  refine callsIn_of_wp Try.func101 rfl h7 ?_ hro
  simp only [Try.ntmps101, List.size_toArray, List.length_cons, List.length_nil, Nat.reduceAdd, Nat.reduceSub, Array.replicate_succ, Array.replicate_zero, List.push_toArray, List.append_toArray, List.nil_append, List.cons_append]
  gi_wp2
  gi_loopw [3] (fun i wr => ∃ k : Nat, k ≤ len ∧ i = .int .i64 ((len : Int) - 1 - k) ∧ J (dn len k) wr ∧ BK n₀ Bs W wr)
    (fun i _ => (intOf i + 1).toNat)
  case atStart => exact ⟨0, Nat.zero_le _, by simp, h0, BK.refl _ _ _⟩
  case round =>
    obtain ⟨k, hk, rfl, hJs, hnx⟩ := hrel
    by_cases hlt : k < len
    · obtain ⟨q, hq, hqlt⟩ : ∃ q, len - 1 - k = q ∧ q < len := ⟨_, rfl, by omega⟩
      have HS := Lib.hid (show dn len (k + 1) = dn len k ++ [⟨q, hqlt⟩] by subst hq; exact dn_succ hlt)
      obtain ⟨c0, c1, c2⟩ := hc q hqlt
      obtain ⟨fn, tmps, assign, body, hy, hR⟩ := hY _ ⟨q, hqlt⟩ wr hJs (by rw [dn_length hk]; exact hlt)
      dsimp only at hy
      have hcs : wr.cell? ⟨Bs, 0, none⟩ = some (.slice (some ⟨b, off, none⟩) len cap) := (World.cell?_of_block (w := W) (a := ⟨Bs, 0, none⟩) hnx.2).trans hBs
      have d0 := (hnx.1.cell (p := ⟨b, off + q * 3, none⟩) hb).trans c0
      have d1 := (hnx.1.cell (p := ⟨b, off + q * 3 + 1, none⟩) hb).trans c1
      have d2 := (hnx.1.cell (p := ⟨b, off + q * 3 + 2, none⟩) hb).trans c2
      have HNX := Lib.hid hnx
      have HC := Lib.hid hc
      clear c0 c1 c2 hc hnx
      have hqi : (len : Int) - 1 - k = q := by omega
      rw [hqi]
      have hql : (q : Int) < len := by omega
      have hq0 : decide ((0 : Int) ≤ (q : Int)) = true := decide_eq_true (by omega)
      have HQ := Lib.hid hq
      clear hqi hq
      gi_wp2
      refine hR.mono ?_
      rintro e W3 (⟨rfl, hJ3, hk3⟩ | ⟨rfl, hJx3⟩)
      · gi_wp2
        go_roundw
        case rel => exact ⟨k + 1, by omega, by have := HQ.out; congr 1; omega, by rw [HS.out]; exact hJ3, HNX.out.trans hk3⟩
        case measure => simp [intOf]
      · gi_wp2
        refine bodyPost_ret (results_none rfl _ _ _) rfl ?_
        exact ⟨⟨_, rfl⟩, .inr ⟨_, ⟨k + 1, by omega, HS.out.symm⟩, hJx3⟩⟩
    · obtain rfl : k = len := by omega
      have hq0 : decide ((0 : Int) ≤ (k : Int) - 1 - k) = false := decide_eq_false (by omega)
      gi_wp2
      go_end0
      exact ⟨⟨_, rfl⟩, .inl ⟨_, rfl, hJs⟩⟩

set_option maxRecDepth 100000 in
set_option maxHeartbeats 1000000 in
theorem back1_nil (F : Fence) (n : Nat) (h7 : F.fn 101) (hro : F.round = none) (l Bs : Nat) (A : Option Addr) (cap : Nat) (J : List { x : Nat // x < 0 } → World → Prop) (W : World) (hBs : W.cell? ⟨Bs, 0, none⟩ = some (.slice A 0 cap)) (h0 : J [] W) :
    CallsIn F n Try.prog 101 #[.func (.yield l) #[] #[], .pointer (some ⟨Bs, 0, none⟩)] W fun e W' => (∃ v, e = .returned v) ∧ J [] W' := by
  refine callsIn_of_wp Try.func101 rfl h7 ?_ hro
  simp only [Try.ntmps101, List.size_toArray, List.length_cons, List.length_nil, Nat.reduceAdd, Nat.reduceSub, Array.replicate_succ, Array.replicate_zero, List.push_toArray, List.append_toArray, List.nil_append, List.cons_append]
  gi_wp2
  gi_loopw [3] (fun i wr => i = .int .i64 (-1) ∧ J [] wr) (fun _ _ => 0)
  case atStart => exact ⟨by simp, h0⟩
  case round =>
    obtain ⟨rfl, hJs⟩ := hrel
    gi_wp2
    go_end0
    exact ⟨⟨_, rfl⟩, hJs⟩

set_option maxHeartbeats 1000000 in
theorem back_in (F : Fence) (n : Nat) (h5 : F.fn 65) (hro : F.round = none) (a : Option Addr) (len cap : Nat) (w : World) :
    CallsIn F n Try.prog 65 #[.slice a len cap] w fun e w' => e = .returned (.func (.func 101) #[] #[.pointer (some ⟨w.heap.size, 0, none⟩)]) ∧ w' = w.alloc (.cells #[.slice a len cap] 48) := by
  refine callsIn_of_wp Try.func65 rfl h5 ?_ hro
  simp only [Try.ntmps65, List.size_toArray, List.length_cons, List.length_nil, Nat.reduceAdd, Nat.reduceSub, Array.replicate_succ, Array.replicate_zero, List.push_toArray, List.append_toArray, List.nil_append, List.cons_append]
  gi_wp2
  go_ret
  exact ⟨rfl, rfl⟩

/-- slices.Backward hands back a value that comes to every element, from the last one on. -/
theorem back_stops (F : Fence) (n : Nat) (h7 : F.fn 101) (hro : F.round = none) (hn : 1 ≤ n) (Bs n₀ : Nat) (A : Option Addr) (len cap : Nat) (f0 f1 f2 : Nat → Value) (hlen : len ≤ 2513169434916) (w : World) (hBs : Bs < w.heap.size) (hn₀ : n₀ ≤ w.heap.size)
    (hc : w.cell? ⟨Bs, 0, none⟩ = some (.slice A len cap)) (hI : 0 < len → ∃ b off, A = some ⟨b, off, none⟩ ∧ b < n₀ ∧ ∀ j, j < len → w.cell? ⟨b, off + j * 3, none⟩ = some (f0 j) ∧ w.cell? ⟨b, off + j * 3 + 1, none⟩ = some (f1 j) ∧ w.cell? ⟨b, off + j * 3 + 2, none⟩ = some (f2 j)) :
    SeqStopsK F n Try.prog 101 #[.pointer (some ⟨Bs, 0, none⟩)] (fun x : { x : Nat // x < len } => #[Value.int .i64 (x.1 : Int), .agg #[f0 x.1, f1 x.1, f2 x.1]]) (BK n₀ Bs) (fun ys => ys = dn len len) (fun pre => ∃ k, k ≤ len ∧ pre = dn len k) len w := fun l J Jx W hW _ _ hY h0 => by
  have hc' := (hW.cell (p := ⟨Bs, 0, none⟩) hBs).trans hc
  rcases Nat.eq_zero_or_pos len with h | h
  · subst h
    exact (back1_nil F n h7 hro l Bs A cap J W hc' h0).mono fun e W' ⟨he, hj⟩ => ⟨he, .inl ⟨_, rfl, hj⟩⟩
  · obtain ⟨b, off, rfl, hb, hcs⟩ := hI h
    have hk : ∀ o, W.cell? ⟨b, o, none⟩ = w.cell? ⟨b, o, none⟩ := fun o => hW.cell (p := ⟨b, o, none⟩) (by show b < _; omega)
    exact back1_in F n h7 hro hn l Bs n₀ b off len cap f0 f1 f2 hlen hb J Jx hY W hc' (fun j hj => by rw [hk, hk, hk]; exact hcs j hj) h0
end Go.Proofs.Ytkpjjfhfbpfjpaa
