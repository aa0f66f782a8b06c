import Derived.Test.YtkpjjfhfbpfjpaaK660fb2
import Derived.Deep.Slices
import Derived.Deep.Strs
import Derived.ChangeSame
import Derived.SizedLaws
import Derived.Test.YtkpjjfhfbpfjpaaK485e93
import Derived.Test.YtkpjjfhfbpfjpaaK005887
import Derived.Test.YtkpjjfhfbpfjpaaK1188ff
set_option linter.unusedVariables false
set_option linter.unusedSimpArgs false
set_option maxRecDepth 100000
namespace Go.Proofs.Ytkpjjfhfbpfjpaa
open Go.RowKit Go.ChangeShapes Go.Deep
abbrev Lt (W : World) : Nat → Prop := fun b => b < W.heap.size
section
variable {H : Type} {enc : TypeId × Value → H} {W : World} {fuel : Nat} {cs : List Value} {x : DataW H × List MemPlace}
theorem spot_none {a : Addr} {v : Value} (h : W.cell? a = some v) : ∃ b off, a = ⟨b, off, none⟩ ∧ b < W.heap.size := by
 have hb := World.block_lt_of_cell? W _ h
 have hs : a.spot = none := by
  unfold World.cell? at h
  split at h
  · by_cases hs : a.spot.isSome
    · simp [hs] at h
    · simpa using hs
  · cases h
 obtain ⟨b, off, sp⟩ := a
 simp only at hs hb
 subst hs
 exact ⟨b, off, rfl, hb⟩
theorem weightsAll_mem {P : Program} {e : TypeId} : ∀ {ds : List (DataW H)} {d : DataW H}, d ∈ ds → ∀ n ∈ d.weights P e, n ∈ DataW.weightsAll P e ds
 | [], _, h, _, _ => by cases h
 | a :: r, d, h, n, hn => by
  unfold DataW.weightsAll
  rcases List.mem_cons.1 h with h' | h'
  · subst h'; exact List.mem_append.2 (.inl hn)
  · exact List.mem_append.2 (.inr (weightsAll_mem h' n hn))
theorem raw_slice {α : Type} [Inhabited α] (ed : α → Dat) {T E : TypeId} {n by_ : Nat} (hu : Try.prog.underlying T = some (.slice E)) (hn : Try.prog.cellsOf E = n) (hn0 : 0 < n) (hb : Try.prog.bytesOf E = by_) (hsz : ∀ a, (ed a).size = n) (hby : ∀ a, (ed a).bytes = by_)
  (each : ∀ (fuel : Nat) (cs : List Value) (x : DataW H × List MemPlace), DataW.trod enc Try.prog W 0 (fun _ => true) true fuel E cs = some x → (∀ k ∈ x.1.weights Try.prog E, k ≤ reachBytes) → ∃ a, Dat.Vals W (Lt W) (ed a) cs)
  (h : DataW.trod enc Try.prog W 0 (fun _ => true) true fuel T cs = some x) (hw : ∀ k ∈ x.1.weights Try.prog T, k ≤ reachBytes) :
  ∃ A cap l, cs = [.slice A (l : List α).length cap] ∧ l.length ≤ cap ∧ Sl W (Lt W) A (l.map ed) := by
 rcases open_slice hu h with ⟨hcs, _⟩ | ⟨a, len, cap, m, f, D, Pl, hcs, _, hl, hm, hmm, rfl, hx⟩
 · exact ⟨none, 0, [], hcs, by simp, Sl.nil_⟩
 · simp only [if_true] at hmm
   subst hmm
   have hwl : len * by_ ≤ 140737488355328 := by
    have h1 := hw ((len + (m - len)) * by_) (by
     simp only [DataW.weights, hu]
     refine List.mem_cons.2 (.inl ?_)
     simp only [List.length_map, List.length_range, hb])
    have h2 : len * by_ ≤ (len + (m - len)) * by_ := Nat.mul_le_mul_right _ (by omega)
    unfold reachBytes at h1
    omega
   have each' : ∀ i, i < len → ∃ v : α, ∃ vs, Dat.Vals W (Lt W) (ed v) vs ∧ ∀ j u, vs[j]? = some u → W.cell? ((a.add (i * n)).add j) = some u := by
    intro i hi
    obtain ⟨cs', h1, h2⟩ := hx i (by omega)
    rw [hn] at h1
    obtain ⟨v, hv⟩ := each _ _ _ h2 (fun k hk => hw k (by
     simp only [DataW.weights, hu]
     exact List.mem_cons.2 (.inr (List.mem_append.2 (.inl (weightsAll_mem (List.mem_map.2 ⟨i, List.mem_range.2 hi, rfl⟩) k hk))))))
    refine ⟨v, cs', hv, fun j u hu' => ?_⟩
    obtain ⟨hlen, _, hc⟩ := World.cells?_some h1
    have hj : j < cs'.length := (List.getElem?_eq_some_iff.1 hu').1
    have hjn : j < n := by rw [Dat.Vals.len _ _ hv, hsz] at hj; exact hj
    have := hc j hjn
    rw [this]
    simpa using hu'
   obtain ⟨f, hf⟩ := choose_lt (α := α) each'
   refine ⟨some a, m, (List.range len).map f, by rw [List.length_map, List.length_range]; exact hcs, by simpa using hl, by rw [bytesAll_map (n := by_) hby, List.length_map, List.length_range]; exact hwl, fun hn' => ?_⟩
   have hl0 : 0 < len := by simpa using hn'
   obtain ⟨vs0, hv0, hc0⟩ := hf 0 hl0
   have hvl : 0 < vs0.length := by rw [Dat.Vals.len _ _ hv0, hsz]; exact hn0
   have hcell := hc0 0 vs0[0] (by simp)
   obtain ⟨b, off, ha, hb'⟩ := spot_none hcell
   have ha' : a = ⟨b, off, none⟩ := by simpa [Addr.add] using ha
   subst ha'
   refine ⟨b, off, rfl, hb', heldAll_of (n := n) (fun d hd => by obtain ⟨v, _, rfl⟩ := List.mem_map.1 hd; exact hsz v) (fun k hk => ?_)⟩
   have hk' : k < len := by simpa using hk
   have e : ((((List.range len).map f)).map ed)[k] = ed (f k) := by simp
   rw [e]
   obtain ⟨vs, hv, hc⟩ := hf k hk'
   refine held_of_cells _ vs _ _ hv (fun j u hu' => ?_)
   have := hc j u hu'
   rw [add_none, add_none] at this
   exact this
instance : Inhabited V := ⟨v0⟩
instance : Inhabited Chg := ⟨chg0⟩
theorem raw_val (h : DataW.trod enc Try.prog W 0 (fun _ => true) true fuel 51 cs = some x) : ∃ v : V, Dat.Vals W (Lt W) (encV v) cs := by
 obtain ⟨y0, y1, y2, n, rfl, hl, h0, h1, h2⟩ := trod_struct3 Try.underlying51 h
 rw [show Try.prog.cellsOf 51 = 3 by kernel_rfl] at hl
 match cs, hl with
 | [c0, c1, c2], _ =>
  have h0' : DataW.trod enc Try.prog W 0 (fun _ => true) true n 3 [c0] = some y0 := h0
  have h1' : DataW.trod enc Try.prog W 0 (fun _ => true) true n 2 [c1] = some y1 := h1
  have h2' : DataW.trod enc Try.prog W 0 (fun _ => true) true n 9 [c2] = some y2 := h2
  obtain ⟨a, e0, _, _⟩ := DataW.trod_int Try.underlying3 h0'
  obtain ⟨b, e1, _, _⟩ := DataW.trod_int Try.underlying2 h1'
  obtain ⟨t, e2, _, ht⟩ := DataW.trod_string Try.underlying9 h2'
  injection e0 with e0
  injection e1 with e1
  injection e2 with e2
  subst e0 e1 e2
  refine ⟨⟨a, b, t⟩, ?_⟩
  unfold maxLen at ht
  simp only [encV, Dat.Vals, Dat.ValsAll, litOk_int, litOk_string]
  exact ⟨[.int .i64 a], _, rfl, ⟨rfl, trivial⟩, [.int .i64 b], _, rfl, ⟨rfl, trivial⟩, [.string t], [], rfl, ⟨rfl, by omega⟩, rfl⟩
theorem raw_row (h : DataW.trod enc Try.prog W 0 (fun _ => true) true fuel 27 cs = some x) (hw : ∀ k ∈ x.1.weights Try.prog 27, k ≤ reachBytes) : ∃ A cap r, cs = [.slice A (r : Row).length cap] ∧ r.length ≤ cap ∧ RowS W (Lt W) A r :=
 raw_slice (n := 3) (by_ := 32) encV Try.underlying27 (by kernel_rfl) (by decide) (by kernel_rfl) encV_size (fun _ => rfl) (fun fuel cs x h _ => raw_val h) h hw
theorem raw_chg (h : DataW.trod enc Try.prog W 0 (fun _ => true) true fuel 53 cs = some x) (hw : ∀ k ∈ x.1.weights Try.prog 53, k ≤ reachBytes) : ∃ c : Chg, Dat.Vals W (Lt W) (encChg c) cs := by
 obtain ⟨y0, y1, y2, n, rfl, hl, h0, h1, h2⟩ := trod_struct3 Try.underlying53 h
 rw [show Try.prog.cellsOf 53 = 3 by kernel_rfl] at hl
 match cs, hl with
 | [c0, c1, c2], _ =>
  have h0' : DataW.trod enc Try.prog W 0 (fun _ => true) true n 3 [c0] = some y0 := h0
  have h1' : DataW.trod enc Try.prog W 0 (fun _ => true) true n 27 [c1] = some y1 := h1
  have h2' : DataW.trod enc Try.prog W 0 (fun _ => true) true n 27 [c2] = some y2 := h2
  obtain ⟨a, e0, _, _⟩ := DataW.trod_int Try.underlying3 h0'
  obtain ⟨B, cb, r, e1, hb, hr⟩ := raw_row h1' (fun k hk => hw k (by
   simp only [DataW.weights, Try.underlying53]
   show k ∈ DataW.weightsEach Try.prog [3, 27, 27] [y0.1, y1.1, y2.1]
   simp only [DataW.weightsEach, List.mem_append]
   exact .inr (.inl hk)))
  obtain ⟨C, cc, q, e2, hc, hq⟩ := raw_row h2' (fun k hk => hw k (by
   simp only [DataW.weights, Try.underlying53]
   show k ∈ DataW.weightsEach Try.prog [3, 27, 27] [y0.1, y1.1, y2.1]
   simp only [DataW.weightsEach, List.mem_append]
   exact .inr (.inr (.inl hk))))
  injection e0 with e0
  injection e1 with e1
  injection e2 with e2
  subst e0 e1 e2
  exact ⟨⟨a, r, q⟩, vals_chg ⟨hb, hr⟩ ⟨hc, hq⟩⟩
theorem raw_chgs (h : DataW.trod enc Try.prog W 0 (fun _ => true) true fuel 48 cs = some x) (hw : ∀ k ∈ x.1.weights Try.prog 48, k ≤ reachBytes) : ∃ A cap l, cs = [.slice A (l : List Chg).length cap] ∧ l.length ≤ cap ∧ ChgS W (Lt W) A l :=
 raw_slice (n := 3) (by_ := 56) encChg Try.underlying48 (by kernel_rfl) (by decide) (by kernel_rfl) encChg_size (fun _ => rfl) (fun fuel cs x h hw => raw_chg h hw) h hw
end
end Go.Proofs.Ytkpjjfhfbpfjpaa
namespace Go.Proofs.Ytkpjjfhfbpfjpaa
open Go.RowKit
abbrev Rng (g : Nat) (W : World) : Nat → Prop := fun b => g < b ∧ b < W.heap.size
section
variable {w W W' : World} {g n : Nat}
theorem below_grown (h : Below n w W) (hg : W.grownBy W' (some g)) (hn : n ≤ g) (hw : n ≤ W.heap.size) : Below n w W' :=
 h.trans ⟨hg.os, hg.tape, hg.output, hg.size, fun b hb => hg.block b (by omega) (fun e => by injection e with e; omega)⟩
theorem rng_grown (hg : W.grownBy W' (some g)) : Same (Rng g W) W W' := fun b hb => hg.block b hb.2 (fun e => by injection e with e; have := hb.1; omega)
theorem rng_more (hs : W.heap.size ≤ W'.heap.size) : ∀ b, Rng g W b → Rng g W' b := fun b hb => ⟨hb.1, Nat.lt_of_lt_of_le hb.2 hs⟩
theorem countF_le : ∀ (st : St) (k : Nat), (∀ j, (st.getD j []).length ≤ k) → countF st ≤ st.length * k
 | [], k, _ => by simp [countF]
 | l :: st, k, h => by
  have h0 := h 0
  have ih := countF_le st k (fun j => by have := h (j + 1); simpa using this)
  have h0' : l.length ≤ k := by simpa using h0
  simp only [countF, List.length_cons, Nat.succ_mul]
  omega
end
set_option maxHeartbeats 8000000 in
theorem inverts_walk (a : Option Addr) (len cap0 : Nat) (zs : List Int) (AR : Option Addr) (cr : Nat) (raw : List Chg) (w : World) (hrow : IsRow .u8 w a len cap0 zs) (hraw : ChgS w (Lt w) AR raw) :
  Calls Try.prog 5 #[.slice a len cap0, .slice AR raw.length cr] w (BoolBel true w) := by
 have hrl := hraw.len
 have HRAW := Lib.hid hraw
 have HROW := Lib.hid hrow
 clear hrow hraw
 go_enter Try.func5, Try.ntmps5
 go_wp2_with fail
 refine (new_any a len cap0 zs 160 _ (by omega) HROW.out).mono ?_
 rintro e w1 ⟨g, rfl, hg0, hc1, hb1⟩
 have hgl1 := hc1.lt
 have HC1 := Lib.hid hc1
 have HB1 := Lib.hid hb1
 have hz1 := hb1.size
 clear hc1 hb1
 go_wp2_with fail
 refine (schema_any g _ HC1.out).mono ?_
 rintro e w2 ⟨s, A0, c0', rfl, hgs, hcap, hts, hc2, hg2⟩
 have hz2 := hg2.size
 have hsl := hgs.len
 have HGS := Lib.hid hgs
 have HTS := Lib.hid (hts.more (S' := Rng g w2) (fun b hb => ⟨by have := hb.1; omega, hb.2⟩))
 have HC2 := Lib.hid hc2
 have HB2 := Lib.hid (below_grown HB1.out hg2 hg0 (by omega))
 clear hgs hts hc2 hg2 HC1 HB1
 obtain ⟨W2, hW2⟩ : ∃ W2, w2.alloc (.cells #[.int .i64 s.version, .slice A0 s.tabs.length c0'] 25) = W2 := ⟨_, rfl⟩
 obtain ⟨sb, hsb⟩ : ∃ sb, w2.heap.size = sb := ⟨_, rfl⟩
 have hbW2 : Below w2.heap.size w2 W2 := by rw [← hW2]; exact (Below.refl _ _).alloc (Nat.le_refl _) _
 have SB := Lib.hid (show W2.heap[sb]? = some (.cells #[.int .i64 s.version, .slice A0 s.tabs.length c0'] 25 (0, 0)) by rw [← hW2, ← hsb]; exact heap_alloc_new w2 _)
 have HTS := Lib.hid ((HTS.out.keep (Same.of_below hbW2 (fun b hb => hb.2))).more (rng_more hbW2.size))
 have HC2 := Lib.hid (HC2.out.keep (fun b hb => hbW2.block b (by omega)))
 have HB2 := Lib.hid (HB2.out.trans (hbW2.mono (by omega)))
 have hzW2 : W2.heap.size = sb + 1 := by rw [← hW2, ← hsb]; simp
 have hgs2 : g < sb := by omega
 go_wp2_with fail
 skip
 clear hW2 hbW2 hsb
 refine (int_any g 3 _ (by omega) HC2.out).mono ?_
 rintro e w3 ⟨r, rfl, r0, r1, -, hc3, hg3, hs3⟩
 have hr3 := r1 (by omega)
 obtain ⟨m, hm⟩ : ∃ m, 1 + r = m := ⟨_, rfl⟩
 have HMO := Lib.hid (show modeOk m = true by rw [← hm]; have : r = 0 ∨ r = 1 ∨ r = 2 := (by omega); rcases this with rfl | rfl | rfl <;> rfl)
 have HTS := Lib.hid ((HTS.out.keep (rng_grown hg3)).more (rng_more hg3.size))
 have SB := Lib.hid ((hg3.block sb (by omega) (fun e => by injection e with e; omega)).trans SB.out)
 have HC3 := Lib.hid hc3
 have HB3 := Lib.hid (below_grown HB2.out hg3 hg0 (by omega))
 have hz3 : w3.heap.size = sb + 1 := by omega
 have s0 : w3.cell? ⟨sb, 0, none⟩ = some (.int .i64 s.version) := cells_of_block SB.out 0 _ rfl
 have s1 : w3.cell? ⟨sb, 1, none⟩ = some (.slice A0 s.tabs.length c0') := cells_of_block SB.out 1 _ rfl
 clear hc3 hg3 hs3 r1 HC2 HB2
 go_wp2_with fail
 try rw [hm]
 refine (state_any g A0 c0' s m (Rng g w3) _ HTS.out (fun b hb => ⟨hb.2, by have := hb.1; omega⟩) HGS.out HMO.out HC3.out).mono ?_
 rintro e w4 ⟨gt, st, rfl, hso, hs4, hgt, hstc, hc4, hg4⟩
 have hz4 := hg4.size
 have HSO := Lib.hid hso
 have HS4 := Lib.hid (show countF st ≤ 16 by have h9 := countF_le st 4 hs4; have h8 := hso.1; have := hsl.2; rw [h8] at h9; omega)
 have HSTC := Lib.hid (hstc.slice (S' := Rng g w4) (by have h8 := hso.1; omega) (fun b hb => by rcases hb with hb | hb; { exact ⟨hb.1, by have := hb.2; omega⟩ }; exact ⟨by have := hb.1; omega, hb.2⟩) ⟨by omega, hstc.lt⟩)
 have HTS := Lib.hid ((HTS.out.keep (rng_grown hg4)).more (rng_more hg4.size))
 have SB := Lib.hid ((hg4.block sb (by omega) (fun e => by injection e with e; omega)).trans SB.out)
 have HC4 := Lib.hid hc4
 have HB4 := Lib.hid (below_grown HB3.out hg4 hg0 (by omega))
 have hstl : st.length ≤ 4 := by have h8 := hso.1; omega
 clear hso hs4 hstc hc4 hg4 HC3 HB3 s0 s1 hgt
 obtain ⟨W4, hW4⟩ : ∃ W4, w4.alloc (.cells #[.slice (some ⟨gt, 0, none⟩) st.length st.length] 56) = W4 := ⟨_, rfl⟩
 obtain ⟨tb, htb⟩ : ∃ tb, w4.heap.size = tb := ⟨_, rfl⟩
 have hbW4 : Below w4.heap.size w4 W4 := by rw [← hW4]; exact (Below.refl _ _).alloc (Nat.le_refl _) _
 have TB := Lib.hid (show W4.heap[tb]? = some (.cells #[.slice (some ⟨gt, 0, none⟩) st.length st.length] 56 (0, 0)) by rw [← hW4, ← htb]; exact heap_alloc_new w4 _)
 have SB := Lib.hid ((hbW4.block sb (by omega)).trans SB.out)
 have HTS := Lib.hid ((HTS.out.keep (Same.of_below hbW4 (fun b hb => hb.2))).more (rng_more hbW4.size))
 have HSTC := Lib.hid ((HSTC.out.keep (Same.of_below hbW4 (fun b hb => hb.2))).more (rng_more hbW4.size))
 have HC4 := Lib.hid (HC4.out.keep (fun b hb => hbW4.block b (by omega)))
 have HB4 := Lib.hid (HB4.out.trans (hbW4.mono (by omega)))
 have hzW4 : W4.heap.size = tb + 1 := by rw [← hW4, ← htb]; simp
 have hst' : sb < tb := by omega
 have s0 : W4.cell? ⟨sb, 0, none⟩ = some (.int .i64 s.version) := cells_of_block SB.out 0 _ rfl
 have s1 : W4.cell? ⟨sb, 1, none⟩ = some (.slice A0 s.tabs.length c0') := cells_of_block SB.out 1 _ rfl
 have t0' : W4.cell? ⟨tb, 0, none⟩ = some (.slice (some ⟨gt, 0, none⟩) st.length st.length) := cells_of_block TB.out 0 _ rfl
 clear hbW4
 go_wp2_with fail
 try rw [htb]
 clear htb hW4
 refine (changes_any g A0 c0' s m (some ⟨gt, 0, none⟩) st.length st 6 (Rng g W4) _ HTS.out HSTC.out (fun b hb => ⟨hb.2, by have := hb.1; omega⟩) HGS.out HMO.out HSO.out (by have := HS4.out; omega) (by omega) HC4.out).mono ?_
 rintro e w5 ⟨B0, gt2, cap, l, AL, cl, rfl, hcap2, hl6, hfit, hmk, hstc, hgt2, hgtB, hc5, hg5⟩
 have hz5 := hg5.size
 have HFIT := Lib.hid hfit
 have hl6' : l.length ≤ 6 := hl6
 have HLs := Lib.hid (((hmk.slice (by rw [bytesAll_map (n := 56) (fun _ => rfl)]; omega)).2.2).more (S' := Rng g w5) (fun b hb => hb.elim (fun h => h.elim) (fun hb => ⟨by have := hb.1; omega, hb.2⟩)))
 have HSTC2 := Lib.hid (hstc.slice (S' := Rng g w5) (by rw [after_len]; omega) (fun b hb => by
  have h9 := (hstc.mem b hb).1
  rcases hb with hb | hb | hb
  · exact ⟨hb.1, h9⟩
  · exact ⟨by have := hb.1; omega, h9⟩
  · exact ⟨by have := hb.1; omega, h9⟩) ⟨by omega, hstc.lt⟩)
 have HSTC := Lib.hid ((HSTC.out.keep (rng_grown hg5)).more (rng_more hg5.size))
 have HTS := Lib.hid ((HTS.out.keep (rng_grown hg5)).more (rng_more hg5.size))
 have SB := Lib.hid ((hg5.block sb (by omega) (fun e => by injection e with e; omega)).trans SB.out)
 have TB := Lib.hid ((hg5.block tb (by omega) (fun e => by injection e with e; omega)).trans TB.out)
 have HB5 := Lib.hid (below_grown HB4.out hg5 hg0 (by omega))
 clear hfit hmk hstc hc5 hg5 HC4 HB4 s0 s1 t0' hgt2 hgtB hl6
 obtain ⟨W6, hW6⟩ : ∃ W6, w5.alloc (.cells #[.slice (some ⟨gt2, 0, none⟩) st.length cap] 56) = W6 := ⟨_, rfl⟩
 obtain ⟨ab, hab⟩ : ∃ ab, w5.heap.size = ab := ⟨_, rfl⟩
 have hbW6 : Below w5.heap.size w5 W6 := by rw [← hW6]; exact (Below.refl _ _).alloc (Nat.le_refl _) _
 have AB := Lib.hid (show W6.heap[ab]? = some (.cells #[.slice (some ⟨gt2, 0, none⟩) st.length cap] 56 (0, 0)) by rw [← hW6, ← hab]; exact heap_alloc_new w5 _)
 have SB := Lib.hid ((hbW6.block sb (by omega)).trans SB.out)
 have TB := Lib.hid ((hbW6.block tb (by omega)).trans TB.out)
 have toW : ∀ b, Rng g w5 b → b < W6.heap.size := fun b hb => by have := hb.2; have := hbW6.size; omega
 have HTS := Lib.hid ((HTS.out.keep (Same.of_below hbW6 (fun b hb => hb.2))).more toW)
 have HSTC := Lib.hid ((HSTC.out.keep (Same.of_below hbW6 (fun b hb => hb.2))).more toW)
 have HSTC2 := Lib.hid ((HSTC2.out.keep (Same.of_below hbW6 (fun b hb => hb.2))).more toW)
 have HLs := Lib.hid (((show ChgS w5 (Rng g w5) AL l from HLs.out).keep (Same.of_below hbW6 (fun b hb => hb.2))).more (S' := fun b => b < W6.heap.size) toW)
 have HB6 := Lib.hid (HB5.out.trans (hbW6.mono (by omega)))
 have hzW6 : W6.heap.size = ab + 1 := by rw [← hW6, ← hab]; simp
 have hta : tb < ab := by omega
 have lsb : sb < W6.heap.size := by omega
 have ltb : tb < W6.heap.size := by omega
 have lab : ab < W6.heap.size := by omega
 have k0 : W6.cell? ⟨sb, 0, none⟩ = some (.int .i64 s.version) := cells_of_block SB.out 0 _ rfl
 have k1 : W6.cell? ⟨sb, 1, none⟩ = some (.slice A0 s.tabs.length c0') := cells_of_block SB.out 1 _ rfl
 have k2 : W6.cell? ⟨ab, 0, none⟩ = some (.slice (some ⟨gt2, 0, none⟩) st.length cap) := cells_of_block AB.out 0 _ rfl
 have kt : W6.cell? ⟨tb, 0, none⟩ = some (.slice (some ⟨gt, 0, none⟩) st.length st.length) := cells_of_block TB.out 0 _ rfl
 have HRW := Lib.hid (HRAW.out.keep (w' := W6) (fun b hb => HB6.out.block b hb))
 have hwW : w.heap.size ≤ W6.heap.size := HB6.out.size
 clear hbW6 toW
 have hAP : ∀ (Wx : World) (IA : Option Addr) (ic : Nat), Below W6.heap.size W6 Wx → ChgS Wx (fun b => b < Wx.heap.size) IA (invF l) → Calls Try.prog 18 #[sAgg s.version A0 s.tabs.length c0', .int .i64 m, stAgg (some ⟨gt2, 0, none⟩) st.length cap, .slice IA (invF l).length ic] Wx (ApPost (0, st) Wx) := fun Wx IA ic hb hc => by
  have hmore : ∀ b, b < W6.heap.size → b < Wx.heap.size := fun b h9 => by have := hb.size; omega
  have hfo := fit_ok HSO.out HFIT.out
  have h9 := apply_any pcF A0 c0' s m (some ⟨gt2, 0, none⟩) cap (after s st l) IA ic (invF l) (fun b => b < Wx.heap.size) Wx ((HTS.out.keep (fun b h => hb.block b h)).more hmore) ((HSTC2.out.keep (fun b h => hb.block b h)).more hmore) hc (fun b h => h) (sch_preds s) (by have := hfo.2; have := HS4.out; omega)
  rw [after_len] at h9
  have hfb := fit_back HSO.out HFIT.out
  have hchk := hfo.1.check HMO.out (by have := hfo.2; have := HS4.out; omega)
  have hap : applyF (schF pcF s) s m (after s st l) (invF l) = (0, st) := by
   unfold applyF
   rw [HGS.out.check, hchk]
   simp only [ne_eq, not_true, if_false]
   rw [fit_apply hfo.1 hfb.1 (by rw [invF_len]; have := hfo.2; have := HS4.out; omega), hfb.2]
  rw [hap] at h9
  exact h9
 go_wp2_with fail
 try rw [hab]
 try rw [hW6]
 clear hab hW6
 refine hideQ (fun c a d v w h => by cases d <;> exact h) (fun Q' HQ HP => ?_)
 refine regionT_until (fun w' => w'.cell? ⟨sb, 0, none⟩ = some (.int .i64 s.version) ∧ w'.cell? ⟨sb, 1, none⟩ = some (.slice A0 s.tabs.length c0') ∧ w'.cell? ⟨ab, 0, none⟩ = some (.slice (some ⟨gt2, 0, none⟩) st.length cap)) 11 12 (bA 12 0) (by kernel_rfl) (by kernel_rfl) (by kernel_rfl) ?_
 obtain ⟨wd, hwd⟩ : ∃ wd, W6.drew = wd := ⟨_, rfl⟩
 have HBwd := Lib.hid (show Below W6.heap.size W6 wd by rw [← hwd]; exact (Below.refl _ W6).drew)
 rw [hwd]
 clear hwd
 have y0 := (HBwd.out.cell (p := ⟨sb, 0, none⟩) (by show sb < _; omega)).trans k0
 have y1 := (HBwd.out.cell (p := ⟨sb, 1, none⟩) (by show sb < _; omega)).trans k1
 have y2 := (HBwd.out.cell (p := ⟨ab, 0, none⟩) (by show ab < _; omega)).trans k2
 refine tk 0 33 (bA 12 1) ?_ rfl (by kernel_rfl) (by kernel_rfl) HP.out (by rfl) ?_ ⟨y0, y1, y2⟩ ?_
 rotate_left
 · intro w' hSw
   (try dsimp only at hSw)
   go_simp
   (try with_reducible rfl)
 simp only [psA, psB, psC]
 refine tk 1 34 (bA 12 3) ?_ rfl (by kernel_rfl) (by kernel_rfl) HP.out (by rfl) ?_ ⟨y0, y1, y2⟩ ?_
 rotate_left
 · intro w' hSw
   (try dsimp only at hSw)
   go_simp
   (try with_reducible rfl)
 simp only [psA, psB, psC]
 refine tk 2 35 (bA 12 7) ?_ rfl (by kernel_rfl) (by kernel_rfl) HP.out (by rfl) ?_ ⟨y0, y1, y2⟩ ?_
 rotate_left
 · intro w' hSw
   (try dsimp only at hSw)
   go_simp
   (try with_reducible rfl)
 simp only [psA, psB, psC]
 refine tk 3 36 (bA 12 15) ?_ rfl (by kernel_rfl) (by kernel_rfl) HP.out (by rfl) ?_ ⟨y0, y1, y2⟩ ?_
 rotate_left
 · intro w' hSw
   (try dsimp only at hSw)
   go_simp
   (try with_reducible rfl)
 simp only [psA, psB, psC]
 refine anyT_two (i := 4) (j := 9) (oi := ⟨some 37, _, _, _, _, _⟩) (oj := ⟨some 11, _, _, _, _, _⟩) (Li := (bA 12 31)) (Lj := (bA 12 527)) rfl rfl (by kernel_rfl) (by kernel_rfl) (by kernel_rfl) (fun K hK => ?_) (fun K hK => ?_)
 · have HK := Lib.hid hK
   clear hK
   go_simp
   refine (invert_any AL cl l (fun b => b < wd.heap.size) wd ((HLs.out.keep (Same.of_below HBwd.out (fun b hb => hb))).more (fun b hb => by have := HBwd.out.size; omega)) (fun b hb => hb)).mono ?_
   rintro e x1 ⟨IA, ic, rfl, hicap, hinv, hbx1⟩
   have hzx1 : wd.heap.size ≤ x1.heap.size := hbx1.size
   have HBx1 := Lib.hid (show Below W6.heap.size W6 x1 from HBwd.out.trans (hbx1.mono (by have := HBwd.out.size; omega)))
   have qx10 := (HBx1.out.cell (p := ⟨sb, 0, none⟩) (by show sb < _; omega)).trans k0
   have qx11 := (HBx1.out.cell (p := ⟨sb, 1, none⟩) (by show sb < _; omega)).trans k1
   have qx12 := (HBx1.out.cell (p := ⟨ab, 0, none⟩) (by show ab < _; omega)).trans k2
   have HINV := Lib.hid (hinv.more (S' := fun b => b < x1.heap.size) (fun b hb => hb.2))
   clear hinv hicap
   clear hbx1
   refine HK.out _ _ (fun _ => ⟨qx10, qx11, qx12⟩) ?_
   clear HK K
   try simp only [Act.put, psA, psB, psC]
   refine anyT_two (i := 5) (j := 9) (oi := ⟨some 38, _, _, _, _, _⟩) (oj := ⟨some 11, _, _, _, _, _⟩) (Li := (bA 12 63)) (Lj := (bA 12 543)) rfl rfl (by kernel_rfl) (by kernel_rfl) (by kernel_rfl) (fun K hK => ?_) (fun K hK => ?_)
   · have HK := Lib.hid hK
     clear hK
     go_simp
     refine (show Calls _ _ _ _ _ from hAP x1 IA ic HBx1.out HINV.out).mono ?_
     rintro e x2 ⟨XA, xc, rfl, hxcap, hxst, hbx2⟩
     have hzx2 : x1.heap.size ≤ x2.heap.size := hbx2.size
     have HBx2 := Lib.hid (show Below W6.heap.size W6 x2 from HBx1.out.trans (hbx2.mono (by have := HBx1.out.size; omega)))
     have qx20 := (HBx2.out.cell (p := ⟨sb, 0, none⟩) (by show sb < _; omega)).trans k0
     have qx21 := (HBx2.out.cell (p := ⟨sb, 1, none⟩) (by show sb < _; omega)).trans k1
     have qx22 := (HBx2.out.cell (p := ⟨ab, 0, none⟩) (by show ab < _; omega)).trans k2
     have HINV := Lib.hid (ChgS.more (ChgS.keep HINV.out (Same.of_below hbx2 (fun b hb => hb))) (S' := fun b => b < x2.heap.size) (fun b hb => by have := hbx2.size; omega))
     have HXST := Lib.hid (show StS x2 (fun b => x1.heap.size ≤ b ∧ b < x2.heap.size) XA st from hxst)
     clear hxst hxcap
     clear hbx2
     refine HK.out _ _ (fun _ => ⟨qx20, qx21, qx22⟩) ?_
     clear HK K
     try simp only [Act.put, psA, psB, psC]
     refine tk 6 32 (bA 12 127) ?_ rfl (by kernel_rfl) (by kernel_rfl) HP.out (by rfl) ?_ ⟨qx20, qx21, qx22⟩ ?_
     rotate_left
     · intro w' hSw
       (try dsimp only at hSw)
       go_simp
       (try with_reducible rfl)
     simp only [psA, psB, psC]
     refine tk 7 39 (bA 12 255) ?_ rfl (by kernel_rfl) (by kernel_rfl) HP.out (by rfl) ?_ ⟨qx20, qx21, qx22⟩ ?_
     rotate_left
     · intro w' hSw
       (try dsimp only at hSw)
       go_simp
       (try with_reducible rfl)
     simp only [psA, psB, psC]
     refine tk 8 40 (bA 12 511) ?_ rfl (by kernel_rfl) (by kernel_rfl) HP.out (by rfl) ?_ ⟨qx20, qx21, qx22⟩ ?_
     rotate_left
     · intro w' hSw
       (try dsimp only at hSw)
       go_simp
       (try with_reducible rfl)
     simp only [psA, psB, psC]
     refine anyT_one (i := 9) (o := ⟨some 11, _, _, _, _, _⟩) (L' := (bA 12 1023)) rfl (by kernel_rfl) (by kernel_rfl) (fun K hK => ?_)
     have HK := Lib.hid hK
     clear hK
     go_simp
     obtain ⟨x3, hx3⟩ : ∃ x3, x2.alloc (.cells #[.slice none 0 0] 56) = x3 := ⟨_, rfl⟩
     have hbx3 : Below x2.heap.size x2 x3 := by rw [← hx3]; exact (Below.refl _ _).alloc (Nat.le_refl _) _
     have HAL := Lib.hid (show x3.heap[x2.heap.size]? = some (.cells #[.slice none 0 0] 56 (0, 0)) by rw [← hx3]; exact heap_alloc_new x2 _)
     rw [hx3]
     clear hx3
     have hzx3 : x2.heap.size ≤ x3.heap.size := hbx3.size
     have HBx3 := Lib.hid (show Below W6.heap.size W6 x3 from HBx2.out.trans (hbx3.mono (by have := HBx2.out.size; omega)))
     have qx30 := (HBx3.out.cell (p := ⟨sb, 0, none⟩) (by show sb < _; omega)).trans k0
     have qx31 := (HBx3.out.cell (p := ⟨sb, 1, none⟩) (by show sb < _; omega)).trans k1
     have qx32 := (HBx3.out.cell (p := ⟨ab, 0, none⟩) (by show ab < _; omega)).trans k2
     have hsx3 : x2.heap.size < x3.heap.size := lt_of_heap HAL.out
     have HXST := Lib.hid (StS.keep HXST.out (Same.of_below hbx3 (fun b hb => hb.2)))
     clear hbx3
     refine HK.out _ _ (fun _ => ⟨qx30, qx31, qx32⟩) ?_
     clear HK K
     try simp only [Act.put, psA, psB, psC]
     refine anyT_one (i := 10) (o := ⟨none, _, _, _, _, _⟩) (L' := (bA 12 2047)) rfl (by kernel_rfl) (by kernel_rfl) (fun K hK => ?_)
     have HK := Lib.hid hK
     clear hK
     have hal := HAL.out
     have ca : x3.cell? ⟨x2.heap.size, 0, none⟩ = some (.slice none 0 0) := cells_of_block hal 0 _ rfl
     have fa : x3.frozen? ⟨x2.heap.size, 0, none⟩ = false := by simp [World.frozen?, hal]
     have hla : x2.heap.size < x3.heap.size := lt_of_heap hal
     clear hal
     go_simp
     obtain ⟨W9, hW9⟩ : ∃ W9, x3.setCell ⟨x2.heap.size, 0, none⟩ (.slice XA st.length xc) = W9 := ⟨_, rfl⟩
     have xa : W9.cell? ⟨x2.heap.size, 0, none⟩ = some (.slice XA st.length xc) := by rw [← hW9]; exact World.cell?_setCell_same _ _ _ ca
     have HB9 := Lib.hid (show Below W6.heap.size W6 W9 by rw [← hW9]; exact HBx3.out.trans (Fr.below ((Fr.refl (fun b => b = x2.heap.size) x3).setCell _ (fun _ => rfl)) (by have := HBx3.out.size; omega) (fun b hb e => by have := HBx2.out.size; omega)))
     have HX9 := Lib.hid (show StS W9 (fun b => b < W9.heap.size) XA st by rw [← hW9]; exact (StS.keep HXST.out (fun b hb => Below.heap_setCell _ ⟨x2.heap.size, 0, none⟩ _ b (by have h1 := hb.1; have h2 := hb.2; show b ≠ x2.heap.size; omega))).more (fun b hb => by have h2 := hb.2; have := HBx3.out.size; simp; omega))
     rw [hW9]
     clear hW9 ca fa
     have z0 := (HB9.out.cell (p := ⟨sb, 0, none⟩) (by show sb < _; omega)).trans k0
     have z1 := (HB9.out.cell (p := ⟨sb, 1, none⟩) (by show sb < _; omega)).trans k1
     have z2 := (HB9.out.cell (p := ⟨ab, 0, none⟩) (by show ab < _; omega)).trans k2
     refine HK.out _ _ (fun _ => ⟨z0, z1, z2⟩) ?_
     clear HK K
     try simp only [Act.put, psA, psB, psC]
     refine anyT_one (i := 11) (o := ⟨some 12, _, _, _, _, _⟩) (L' := (bA 12 4095)) rfl (by kernel_rfl) (by kernel_rfl) (fun K hK => ?_)
     have HK := Lib.hid hK
     clear hK
     go_simp
     refine HK.out _ _ (fun h => absurd rfl h) ?_
     clear HK K
     refine anyU_done (by kernel_rfl) ?_
     rw [HQ.out]
     clear HQ HP Q'
     obtain ⟨al, hale⟩ : ∃ al, x2.heap.size = al := ⟨_, rfl⟩
     rw [hale] at xa ⊢
     clear hale
     have HW9 := Lib.hid (HB6.out.trans (HB9.out.mono hwW))
     have hzW9 : W6.heap.size ≤ W9.heap.size := HB9.out.size
     have hal9 : al < W9.heap.size := World.block_lt_of_cell? W9 _ xa
     have t9 := (HB9.out.cell (p := ⟨tb, 0, none⟩) (by show tb < W6.heap.size; omega)).trans kt
     have HS9 := Lib.hid ((HSTC.out.keep (fun b hb => HB9.out.block b hb)).more (S' := fun b => b < W9.heap.size) (fun b hb => by have h9 : b < W6.heap.size := hb; show b < W9.heap.size; omega))
     have HR9 := Lib.hid ((HRW.out.keep (w' := W9) (fun b hb => HB9.out.block b (by have h9 : b < w.heap.size := hb; omega))).more (S' := fun b => b < W9.heap.size) (fun b hb => by have h9 : b < w.heap.size := hb; show b < W9.heap.size; omega))
     have HL9 := Lib.hid ((HLs.out.keep (w' := W9) (fun b hb => HB9.out.block b hb)).more (S' := fun b => b < W9.heap.size) (fun b hb => by have h9 : b < W6.heap.size := hb; show b < W9.heap.size; omega))
     go_wp2_with fail
     refine (begun8_any W9).mono ?_
     rintro e wA ⟨rfl, hbA⟩
     have HBA := Lib.hid hbA
     have hzA := hbA.size
     have xa := (hbA.cell (p := ⟨al, 0, none⟩) (by show al < W9.heap.size; omega)).trans xa
     have t9 := (hbA.cell (p := ⟨tb, 0, none⟩) (by show tb < W9.heap.size; omega)).trans t9
     clear hbA
     go_wp2_with fail
     refine (rsame_any XA (some ⟨gt, 0, none⟩) xc st.length st st (fun b => b < W9.heap.size) wA (HX9.out.keep (fun b hb => HBA.out.block b hb)) (HS9.out.keep (fun b hb => HBA.out.block b hb)) (fun b hb => by have h9 : b < W9.heap.size := hb; omega)).mono ?_
     rintro e wB ⟨rfl, hbB⟩
     rw [decide_eq_true (rfl : st = st)]
     have HBB := Lib.hid (HBA.out.trans (hbB.mono hzA))
     have hzB := HBB.out.size
     clear hbB
     go_wp2_with fail
     refine (invert_any AR cr raw (fun b => b < W9.heap.size) wB (HR9.out.keep (fun b hb => HBB.out.block b hb)) (fun b hb => by have h9 : b < W9.heap.size := hb; omega)).mono ?_
     rintro e wC ⟨RA, rc, rfl, -, hra, hbC⟩
     have HBC := Lib.hid (HBB.out.trans (hbC.mono hzB))
     have hzC := HBC.out.size
     have HRA := Lib.hid (hra.more (S' := fun b => b < wC.heap.size) (fun b hb => hb.2))
     clear hbC hra
     go_wp2_with fail
     refine (rinvert_any AR cr raw (fun b => b < W9.heap.size) wC (HR9.out.keep (fun b hb => HBC.out.block b hb)) (fun b hb => by have h9 : b < W9.heap.size := hb; omega)).mono ?_
     rintro e wD ⟨RB, rd, rfl, -, hrb, hbD⟩
     have HBD := Lib.hid (HBC.out.trans (hbD.mono hzC))
     have hzD : wC.heap.size ≤ wD.heap.size := hbD.size
     have HRA := Lib.hid ((show ChgS wC (fun b => b < wC.heap.size) RA (invF raw) from HRA.out).keep (fun b hb => hbD.block b hb))
     have HRB := Lib.hid (hrb.more (S' := fun b => b < wD.heap.size) (fun b hb => hb.2))
     clear hbD hrb
     go_wp2_with fail
     refine (rsameChanges_any RA RB rc rd (invF raw) (invF raw) (fun b => b < wD.heap.size) wD (Sl.more HRA.out (fun b hb => by have h9 : b < wC.heap.size := hb; show b < wD.heap.size; omega)) HRB.out (fun b hb => hb)).mono ?_
     rintro e wE ⟨rfl, hbE⟩
     rw [decide_eq_true (rfl : invF raw = invF raw)]
     have HBE := Lib.hid (HBD.out.trans (hbE.mono (by omega)))
     have hzE := HBE.out.size
     clear hbE
     go_wp2_with fail
     refine (invert_any AL cl l (fun b => b < W9.heap.size) wE (HL9.out.keep (fun b hb => HBE.out.block b hb)) (fun b hb => by have h9 : b < W9.heap.size := hb; omega)).mono ?_
     rintro e wF ⟨IF, ifc, rfl, -, hif, hbF⟩
     have HBF := Lib.hid (HBE.out.trans (hbF.mono hzE))
     have hzF := HBF.out.size
     have HIF := Lib.hid (hif.more (S' := fun b => b < wF.heap.size) (fun b hb => hb.2))
     clear hbF hif
     go_wp2_with fail
     refine (invert_any IF ifc (invF l) (fun b => b < wF.heap.size) wF HIF.out (fun b hb => hb)).mono ?_
     rintro e wG ⟨IG, ig, rfl, -, hig, hbG⟩
     have HBG := Lib.hid (HBF.out.trans (hbG.mono hzF))
     have hzG := HBG.out.size
     have HIG := Lib.hid (hig.more (S' := fun b => b < wG.heap.size) (fun b hb => hb.2))
     clear hbG hig
     rw [invF_inv] at HIG ⊢
     go_wp2_with fail
     refine (rsameChanges_any IG AL ig cl l l (fun b => b < wG.heap.size) wG HIG.out ((HL9.out.keep (fun b hb => HBG.out.block b hb)).more (fun b hb => by have h9 : b < W9.heap.size := hb; show b < wG.heap.size; omega)) (fun b hb => hb)).mono ?_
     rintro e wH ⟨rfl, hbH⟩
     rw [decide_eq_true (rfl : l = l)]
     have HBH := Lib.hid (HW9.out.trans ((HBG.out.mono (by omega)).trans (hbH.mono (by omega))))
     clear hbH
     go_wp2_with fail
     go_ret
     exact ⟨rfl, HBH.out⟩
   · have HK := Lib.hid hK
     clear hK
     go_simp
     obtain ⟨x4, hx4⟩ : ∃ x4, x1.alloc (.cells #[.slice none 0 0] 56) = x4 := ⟨_, rfl⟩
     have hbx4 : Below x1.heap.size x1 x4 := by rw [← hx4]; exact (Below.refl _ _).alloc (Nat.le_refl _) _
     have HAL := Lib.hid (show x4.heap[x1.heap.size]? = some (.cells #[.slice none 0 0] 56 (0, 0)) by rw [← hx4]; exact heap_alloc_new x1 _)
     rw [hx4]
     clear hx4
     have hzx4 : x1.heap.size ≤ x4.heap.size := hbx4.size
     have HBx4 := Lib.hid (show Below W6.heap.size W6 x4 from HBx1.out.trans (hbx4.mono (by have := HBx1.out.size; omega)))
     have qx40 := (HBx4.out.cell (p := ⟨sb, 0, none⟩) (by show sb < _; omega)).trans k0
     have qx41 := (HBx4.out.cell (p := ⟨sb, 1, none⟩) (by show sb < _; omega)).trans k1
     have qx42 := (HBx4.out.cell (p := ⟨ab, 0, none⟩) (by show ab < _; omega)).trans k2
     have HINV := Lib.hid (ChgS.more (ChgS.keep HINV.out (Same.of_below hbx4 (fun b hb => hb))) (S' := fun b => b < x4.heap.size) (fun b hb => by have := hbx4.size; omega))
     have hsx4 : x1.heap.size < x4.heap.size := lt_of_heap HAL.out
     clear hbx4
     refine HK.out _ _ (fun _ => ⟨qx40, qx41, qx42⟩) ?_
     clear HK K
     try simp only [Act.put, psA, psB, psC]
     refine anyT_one (i := 5) (o := ⟨some 38, _, _, _, _, _⟩) (L' := (bA 12 575)) rfl (by kernel_rfl) (by kernel_rfl) (fun K hK => ?_)
     have HK := Lib.hid hK
     clear hK
     go_simp
     refine (show Calls _ _ _ _ _ from hAP x4 IA ic HBx4.out HINV.out).mono ?_
     rintro e x5 ⟨XA, xc, rfl, hxcap, hxst, hbx5⟩
     have hzx5 : x4.heap.size ≤ x5.heap.size := hbx5.size
     have HBx5 := Lib.hid (show Below W6.heap.size W6 x5 from HBx4.out.trans (hbx5.mono (by have := HBx4.out.size; omega)))
     have qx50 := (HBx5.out.cell (p := ⟨sb, 0, none⟩) (by show sb < _; omega)).trans k0
     have qx51 := (HBx5.out.cell (p := ⟨sb, 1, none⟩) (by show sb < _; omega)).trans k1
     have qx52 := (HBx5.out.cell (p := ⟨ab, 0, none⟩) (by show ab < _; omega)).trans k2
     have HINV := Lib.hid (ChgS.more (ChgS.keep HINV.out (Same.of_below hbx5 (fun b hb => hb))) (S' := fun b => b < x5.heap.size) (fun b hb => by have := hbx5.size; omega))
     have HXST := Lib.hid (show StS x5 (fun b => x4.heap.size ≤ b ∧ b < x5.heap.size) XA st from hxst)
     clear hxst hxcap
     have HAL := Lib.hid ((hbx5.block _ (lt_of_heap HAL.out)).trans HAL.out)
     clear hbx5
     refine HK.out _ _ (fun _ => ⟨qx50, qx51, qx52⟩) ?_
     clear HK K
     try simp only [Act.put, psA, psB, psC]
     refine tk 6 32 (bA 12 639) ?_ rfl (by kernel_rfl) (by kernel_rfl) HP.out (by rfl) ?_ ⟨qx50, qx51, qx52⟩ ?_
     rotate_left
     · intro w' hSw
       (try dsimp only at hSw)
       go_simp
       (try with_reducible rfl)
     simp only [psA, psB, psC]
     refine tk 7 39 (bA 12 767) ?_ rfl (by kernel_rfl) (by kernel_rfl) HP.out (by rfl) ?_ ⟨qx50, qx51, qx52⟩ ?_
     rotate_left
     · intro w' hSw
       (try dsimp only at hSw)
       go_simp
       (try with_reducible rfl)
     simp only [psA, psB, psC]
     refine tk 8 40 (bA 12 1023) ?_ rfl (by kernel_rfl) (by kernel_rfl) HP.out (by rfl) ?_ ⟨qx50, qx51, qx52⟩ ?_
     rotate_left
     · intro w' hSw
       (try dsimp only at hSw)
       go_simp
       (try with_reducible rfl)
     simp only [psA, psB, psC]
     refine anyT_one (i := 10) (o := ⟨none, _, _, _, _, _⟩) (L' := (bA 12 2047)) rfl (by kernel_rfl) (by kernel_rfl) (fun K hK => ?_)
     have HK := Lib.hid hK
     clear hK
     have hal := HAL.out
     have ca : x5.cell? ⟨x1.heap.size, 0, none⟩ = some (.slice none 0 0) := cells_of_block hal 0 _ rfl
     have fa : x5.frozen? ⟨x1.heap.size, 0, none⟩ = false := by simp [World.frozen?, hal]
     have hla : x1.heap.size < x5.heap.size := lt_of_heap hal
     clear hal
     go_simp
     obtain ⟨W9, hW9⟩ : ∃ W9, x5.setCell ⟨x1.heap.size, 0, none⟩ (.slice XA st.length xc) = W9 := ⟨_, rfl⟩
     have xa : W9.cell? ⟨x1.heap.size, 0, none⟩ = some (.slice XA st.length xc) := by rw [← hW9]; exact World.cell?_setCell_same _ _ _ ca
     have HB9 := Lib.hid (show Below W6.heap.size W6 W9 by rw [← hW9]; exact HBx5.out.trans (Fr.below ((Fr.refl (fun b => b = x1.heap.size) x5).setCell _ (fun _ => rfl)) (by have := HBx5.out.size; omega) (fun b hb e => by have := HBx1.out.size; omega)))
     have HX9 := Lib.hid (show StS W9 (fun b => b < W9.heap.size) XA st by rw [← hW9]; exact (StS.keep HXST.out (fun b hb => Below.heap_setCell _ ⟨x1.heap.size, 0, none⟩ _ b (by have h1 := hb.1; have h2 := hb.2; show b ≠ x1.heap.size; omega))).more (fun b hb => by have h2 := hb.2; have := HBx5.out.size; simp; omega))
     rw [hW9]
     clear hW9 ca fa
     have z0 := (HB9.out.cell (p := ⟨sb, 0, none⟩) (by show sb < _; omega)).trans k0
     have z1 := (HB9.out.cell (p := ⟨sb, 1, none⟩) (by show sb < _; omega)).trans k1
     have z2 := (HB9.out.cell (p := ⟨ab, 0, none⟩) (by show ab < _; omega)).trans k2
     refine HK.out _ _ (fun _ => ⟨z0, z1, z2⟩) ?_
     clear HK K
     try simp only [Act.put, psA, psB, psC]
     refine anyT_one (i := 11) (o := ⟨some 12, _, _, _, _, _⟩) (L' := (bA 12 4095)) rfl (by kernel_rfl) (by kernel_rfl) (fun K hK => ?_)
     have HK := Lib.hid hK
     clear hK
     go_simp
     refine HK.out _ _ (fun h => absurd rfl h) ?_
     clear HK K
     refine anyU_done (by kernel_rfl) ?_
     rw [HQ.out]
     clear HQ HP Q'
     obtain ⟨al, hale⟩ : ∃ al, x1.heap.size = al := ⟨_, rfl⟩
     rw [hale] at xa ⊢
     clear hale
     have HW9 := Lib.hid (HB6.out.trans (HB9.out.mono hwW))
     have hzW9 : W6.heap.size ≤ W9.heap.size := HB9.out.size
     have hal9 : al < W9.heap.size := World.block_lt_of_cell? W9 _ xa
     have t9 := (HB9.out.cell (p := ⟨tb, 0, none⟩) (by show tb < W6.heap.size; omega)).trans kt
     have HS9 := Lib.hid ((HSTC.out.keep (fun b hb => HB9.out.block b hb)).more (S' := fun b => b < W9.heap.size) (fun b hb => by have h9 : b < W6.heap.size := hb; show b < W9.heap.size; omega))
     have HR9 := Lib.hid ((HRW.out.keep (w' := W9) (fun b hb => HB9.out.block b (by have h9 : b < w.heap.size := hb; omega))).more (S' := fun b => b < W9.heap.size) (fun b hb => by have h9 : b < w.heap.size := hb; show b < W9.heap.size; omega))
     have HL9 := Lib.hid ((HLs.out.keep (w' := W9) (fun b hb => HB9.out.block b hb)).more (S' := fun b => b < W9.heap.size) (fun b hb => by have h9 : b < W6.heap.size := hb; show b < W9.heap.size; omega))
     go_wp2_with fail
     refine (begun8_any W9).mono ?_
     rintro e wA ⟨rfl, hbA⟩
     have HBA := Lib.hid hbA
     have hzA := hbA.size
     have xa := (hbA.cell (p := ⟨al, 0, none⟩) (by show al < W9.heap.size; omega)).trans xa
     have t9 := (hbA.cell (p := ⟨tb, 0, none⟩) (by show tb < W9.heap.size; omega)).trans t9
     clear hbA
     go_wp2_with fail
     refine (rsame_any XA (some ⟨gt, 0, none⟩) xc st.length st st (fun b => b < W9.heap.size) wA (HX9.out.keep (fun b hb => HBA.out.block b hb)) (HS9.out.keep (fun b hb => HBA.out.block b hb)) (fun b hb => by have h9 : b < W9.heap.size := hb; omega)).mono ?_
     rintro e wB ⟨rfl, hbB⟩
     rw [decide_eq_true (rfl : st = st)]
     have HBB := Lib.hid (HBA.out.trans (hbB.mono hzA))
     have hzB := HBB.out.size
     clear hbB
     go_wp2_with fail
     refine (invert_any AR cr raw (fun b => b < W9.heap.size) wB (HR9.out.keep (fun b hb => HBB.out.block b hb)) (fun b hb => by have h9 : b < W9.heap.size := hb; omega)).mono ?_
     rintro e wC ⟨RA, rc, rfl, -, hra, hbC⟩
     have HBC := Lib.hid (HBB.out.trans (hbC.mono hzB))
     have hzC := HBC.out.size
     have HRA := Lib.hid (hra.more (S' := fun b => b < wC.heap.size) (fun b hb => hb.2))
     clear hbC hra
     go_wp2_with fail
     refine (rinvert_any AR cr raw (fun b => b < W9.heap.size) wC (HR9.out.keep (fun b hb => HBC.out.block b hb)) (fun b hb => by have h9 : b < W9.heap.size := hb; omega)).mono ?_
     rintro e wD ⟨RB, rd, rfl, -, hrb, hbD⟩
     have HBD := Lib.hid (HBC.out.trans (hbD.mono hzC))
     have hzD : wC.heap.size ≤ wD.heap.size := hbD.size
     have HRA := Lib.hid ((show ChgS wC (fun b => b < wC.heap.size) RA (invF raw) from HRA.out).keep (fun b hb => hbD.block b hb))
     have HRB := Lib.hid (hrb.more (S' := fun b => b < wD.heap.size) (fun b hb => hb.2))
     clear hbD hrb
     go_wp2_with fail
     refine (rsameChanges_any RA RB rc rd (invF raw) (invF raw) (fun b => b < wD.heap.size) wD (Sl.more HRA.out (fun b hb => by have h9 : b < wC.heap.size := hb; show b < wD.heap.size; omega)) HRB.out (fun b hb => hb)).mono ?_
     rintro e wE ⟨rfl, hbE⟩
     rw [decide_eq_true (rfl : invF raw = invF raw)]
     have HBE := Lib.hid (HBD.out.trans (hbE.mono (by omega)))
     have hzE := HBE.out.size
     clear hbE
     go_wp2_with fail
     refine (invert_any AL cl l (fun b => b < W9.heap.size) wE (HL9.out.keep (fun b hb => HBE.out.block b hb)) (fun b hb => by have h9 : b < W9.heap.size := hb; omega)).mono ?_
     rintro e wF ⟨IF, ifc, rfl, -, hif, hbF⟩
     have HBF := Lib.hid (HBE.out.trans (hbF.mono hzE))
     have hzF := HBF.out.size
     have HIF := Lib.hid (hif.more (S' := fun b => b < wF.heap.size) (fun b hb => hb.2))
     clear hbF hif
     go_wp2_with fail
     refine (invert_any IF ifc (invF l) (fun b => b < wF.heap.size) wF HIF.out (fun b hb => hb)).mono ?_
     rintro e wG ⟨IG, ig, rfl, -, hig, hbG⟩
     have HBG := Lib.hid (HBF.out.trans (hbG.mono hzF))
     have hzG := HBG.out.size
     have HIG := Lib.hid (hig.more (S' := fun b => b < wG.heap.size) (fun b hb => hb.2))
     clear hbG hig
     rw [invF_inv] at HIG ⊢
     go_wp2_with fail
     refine (rsameChanges_any IG AL ig cl l l (fun b => b < wG.heap.size) wG HIG.out ((HL9.out.keep (fun b hb => HBG.out.block b hb)).more (fun b hb => by have h9 : b < W9.heap.size := hb; show b < wG.heap.size; omega)) (fun b hb => hb)).mono ?_
     rintro e wH ⟨rfl, hbH⟩
     rw [decide_eq_true (rfl : l = l)]
     have HBH := Lib.hid (HW9.out.trans ((HBG.out.mono (by omega)).trans (hbH.mono (by omega))))
     clear hbH
     go_wp2_with fail
     go_ret
     exact ⟨rfl, HBH.out⟩
 · have HK := Lib.hid hK
   clear hK
   go_simp
   obtain ⟨x6, hx6⟩ : ∃ x6, wd.alloc (.cells #[.slice none 0 0] 56) = x6 := ⟨_, rfl⟩
   have hbx6 : Below wd.heap.size wd x6 := by rw [← hx6]; exact (Below.refl _ _).alloc (Nat.le_refl _) _
   have HAL := Lib.hid (show x6.heap[wd.heap.size]? = some (.cells #[.slice none 0 0] 56 (0, 0)) by rw [← hx6]; exact heap_alloc_new wd _)
   rw [hx6]
   clear hx6
   have hzx6 : wd.heap.size ≤ x6.heap.size := hbx6.size
   have HBx6 := Lib.hid (show Below W6.heap.size W6 x6 from HBwd.out.trans (hbx6.mono (by have := HBwd.out.size; omega)))
   have qx60 := (HBx6.out.cell (p := ⟨sb, 0, none⟩) (by show sb < _; omega)).trans k0
   have qx61 := (HBx6.out.cell (p := ⟨sb, 1, none⟩) (by show sb < _; omega)).trans k1
   have qx62 := (HBx6.out.cell (p := ⟨ab, 0, none⟩) (by show ab < _; omega)).trans k2
   have hsx6 : wd.heap.size < x6.heap.size := lt_of_heap HAL.out
   clear hbx6
   refine HK.out _ _ (fun _ => ⟨qx60, qx61, qx62⟩) ?_
   clear HK K
   try simp only [Act.put, psA, psB, psC]
   refine anyT_one (i := 4) (o := ⟨some 37, _, _, _, _, _⟩) (L' := (bA 12 543)) rfl (by kernel_rfl) (by kernel_rfl) (fun K hK => ?_)
   have HK := Lib.hid hK
   clear hK
   go_simp
   refine (invert_any AL cl l (fun b => b < x6.heap.size) x6 ((HLs.out.keep (Same.of_below HBx6.out (fun b hb => hb))).more (fun b hb => by have := HBx6.out.size; omega)) (fun b hb => hb)).mono ?_
   rintro e x7 ⟨IA, ic, rfl, hicap, hinv, hbx7⟩
   have hzx7 : x6.heap.size ≤ x7.heap.size := hbx7.size
   have HBx7 := Lib.hid (show Below W6.heap.size W6 x7 from HBx6.out.trans (hbx7.mono (by have := HBx6.out.size; omega)))
   have qx70 := (HBx7.out.cell (p := ⟨sb, 0, none⟩) (by show sb < _; omega)).trans k0
   have qx71 := (HBx7.out.cell (p := ⟨sb, 1, none⟩) (by show sb < _; omega)).trans k1
   have qx72 := (HBx7.out.cell (p := ⟨ab, 0, none⟩) (by show ab < _; omega)).trans k2
   have HINV := Lib.hid (hinv.more (S' := fun b => b < x7.heap.size) (fun b hb => hb.2))
   clear hinv hicap
   have HAL := Lib.hid ((hbx7.block _ (lt_of_heap HAL.out)).trans HAL.out)
   clear hbx7
   refine HK.out _ _ (fun _ => ⟨qx70, qx71, qx72⟩) ?_
   clear HK K
   try simp only [Act.put, psA, psB, psC]
   refine anyT_one (i := 5) (o := ⟨some 38, _, _, _, _, _⟩) (L' := (bA 12 575)) rfl (by kernel_rfl) (by kernel_rfl) (fun K hK => ?_)
   have HK := Lib.hid hK
   clear hK
   go_simp
   refine (show Calls _ _ _ _ _ from hAP x7 IA ic HBx7.out HINV.out).mono ?_
   rintro e x8 ⟨XA, xc, rfl, hxcap, hxst, hbx8⟩
   have hzx8 : x7.heap.size ≤ x8.heap.size := hbx8.size
   have HBx8 := Lib.hid (show Below W6.heap.size W6 x8 from HBx7.out.trans (hbx8.mono (by have := HBx7.out.size; omega)))
   have qx80 := (HBx8.out.cell (p := ⟨sb, 0, none⟩) (by show sb < _; omega)).trans k0
   have qx81 := (HBx8.out.cell (p := ⟨sb, 1, none⟩) (by show sb < _; omega)).trans k1
   have qx82 := (HBx8.out.cell (p := ⟨ab, 0, none⟩) (by show ab < _; omega)).trans k2
   have HINV := Lib.hid (ChgS.more (ChgS.keep HINV.out (Same.of_below hbx8 (fun b hb => hb))) (S' := fun b => b < x8.heap.size) (fun b hb => by have := hbx8.size; omega))
   have HXST := Lib.hid (show StS x8 (fun b => x7.heap.size ≤ b ∧ b < x8.heap.size) XA st from hxst)
   clear hxst hxcap
   have HAL := Lib.hid ((hbx8.block _ (lt_of_heap HAL.out)).trans HAL.out)
   clear hbx8
   refine HK.out _ _ (fun _ => ⟨qx80, qx81, qx82⟩) ?_
   clear HK K
   try simp only [Act.put, psA, psB, psC]
   refine tk 6 32 (bA 12 639) ?_ rfl (by kernel_rfl) (by kernel_rfl) HP.out (by rfl) ?_ ⟨qx80, qx81, qx82⟩ ?_
   rotate_left
   · intro w' hSw
     (try dsimp only at hSw)
     go_simp
     (try with_reducible rfl)
   simp only [psA, psB, psC]
   refine tk 7 39 (bA 12 767) ?_ rfl (by kernel_rfl) (by kernel_rfl) HP.out (by rfl) ?_ ⟨qx80, qx81, qx82⟩ ?_
   rotate_left
   · intro w' hSw
     (try dsimp only at hSw)
     go_simp
     (try with_reducible rfl)
   simp only [psA, psB, psC]
   refine tk 8 40 (bA 12 1023) ?_ rfl (by kernel_rfl) (by kernel_rfl) HP.out (by rfl) ?_ ⟨qx80, qx81, qx82⟩ ?_
   rotate_left
   · intro w' hSw
     (try dsimp only at hSw)
     go_simp
     (try with_reducible rfl)
   simp only [psA, psB, psC]
   refine anyT_one (i := 10) (o := ⟨none, _, _, _, _, _⟩) (L' := (bA 12 2047)) rfl (by kernel_rfl) (by kernel_rfl) (fun K hK => ?_)
   have HK := Lib.hid hK
   clear hK
   have hal := HAL.out
   have ca : x8.cell? ⟨wd.heap.size, 0, none⟩ = some (.slice none 0 0) := cells_of_block hal 0 _ rfl
   have fa : x8.frozen? ⟨wd.heap.size, 0, none⟩ = false := by simp [World.frozen?, hal]
   have hla : wd.heap.size < x8.heap.size := lt_of_heap hal
   clear hal
   go_simp
   obtain ⟨W9, hW9⟩ : ∃ W9, x8.setCell ⟨wd.heap.size, 0, none⟩ (.slice XA st.length xc) = W9 := ⟨_, rfl⟩
   have xa : W9.cell? ⟨wd.heap.size, 0, none⟩ = some (.slice XA st.length xc) := by rw [← hW9]; exact World.cell?_setCell_same _ _ _ ca
   have HB9 := Lib.hid (show Below W6.heap.size W6 W9 by rw [← hW9]; exact HBx8.out.trans (Fr.below ((Fr.refl (fun b => b = wd.heap.size) x8).setCell _ (fun _ => rfl)) (by have := HBx8.out.size; omega) (fun b hb e => by have := HBwd.out.size; omega)))
   have HX9 := Lib.hid (show StS W9 (fun b => b < W9.heap.size) XA st by rw [← hW9]; exact (StS.keep HXST.out (fun b hb => Below.heap_setCell _ ⟨wd.heap.size, 0, none⟩ _ b (by have h1 := hb.1; have h2 := hb.2; show b ≠ wd.heap.size; omega))).more (fun b hb => by have h2 := hb.2; have := HBx8.out.size; simp; omega))
   rw [hW9]
   clear hW9 ca fa
   have z0 := (HB9.out.cell (p := ⟨sb, 0, none⟩) (by show sb < _; omega)).trans k0
   have z1 := (HB9.out.cell (p := ⟨sb, 1, none⟩) (by show sb < _; omega)).trans k1
   have z2 := (HB9.out.cell (p := ⟨ab, 0, none⟩) (by show ab < _; omega)).trans k2
   refine HK.out _ _ (fun _ => ⟨z0, z1, z2⟩) ?_
   clear HK K
   try simp only [Act.put, psA, psB, psC]
   refine anyT_one (i := 11) (o := ⟨some 12, _, _, _, _, _⟩) (L' := (bA 12 4095)) rfl (by kernel_rfl) (by kernel_rfl) (fun K hK => ?_)
   have HK := Lib.hid hK
   clear hK
   go_simp
   refine HK.out _ _ (fun h => absurd rfl h) ?_
   clear HK K
   refine anyU_done (by kernel_rfl) ?_
   rw [HQ.out]
   clear HQ HP Q'
   obtain ⟨al, hale⟩ : ∃ al, wd.heap.size = al := ⟨_, rfl⟩
   rw [hale] at xa ⊢
   clear hale
   have HW9 := Lib.hid (HB6.out.trans (HB9.out.mono hwW))
   have hzW9 : W6.heap.size ≤ W9.heap.size := HB9.out.size
   have hal9 : al < W9.heap.size := World.block_lt_of_cell? W9 _ xa
   have t9 := (HB9.out.cell (p := ⟨tb, 0, none⟩) (by show tb < W6.heap.size; omega)).trans kt
   have HS9 := Lib.hid ((HSTC.out.keep (fun b hb => HB9.out.block b hb)).more (S' := fun b => b < W9.heap.size) (fun b hb => by have h9 : b < W6.heap.size := hb; show b < W9.heap.size; omega))
   have HR9 := Lib.hid ((HRW.out.keep (w' := W9) (fun b hb => HB9.out.block b (by have h9 : b < w.heap.size := hb; omega))).more (S' := fun b => b < W9.heap.size) (fun b hb => by have h9 : b < w.heap.size := hb; show b < W9.heap.size; omega))
   have HL9 := Lib.hid ((HLs.out.keep (w' := W9) (fun b hb => HB9.out.block b hb)).more (S' := fun b => b < W9.heap.size) (fun b hb => by have h9 : b < W6.heap.size := hb; show b < W9.heap.size; omega))
   go_wp2_with fail
   refine (begun8_any W9).mono ?_
   rintro e wA ⟨rfl, hbA⟩
   have HBA := Lib.hid hbA
   have hzA := hbA.size
   have xa := (hbA.cell (p := ⟨al, 0, none⟩) (by show al < W9.heap.size; omega)).trans xa
   have t9 := (hbA.cell (p := ⟨tb, 0, none⟩) (by show tb < W9.heap.size; omega)).trans t9
   clear hbA
   go_wp2_with fail
   refine (rsame_any XA (some ⟨gt, 0, none⟩) xc st.length st st (fun b => b < W9.heap.size) wA (HX9.out.keep (fun b hb => HBA.out.block b hb)) (HS9.out.keep (fun b hb => HBA.out.block b hb)) (fun b hb => by have h9 : b < W9.heap.size := hb; omega)).mono ?_
   rintro e wB ⟨rfl, hbB⟩
   rw [decide_eq_true (rfl : st = st)]
   have HBB := Lib.hid (HBA.out.trans (hbB.mono hzA))
   have hzB := HBB.out.size
   clear hbB
   go_wp2_with fail
   refine (invert_any AR cr raw (fun b => b < W9.heap.size) wB (HR9.out.keep (fun b hb => HBB.out.block b hb)) (fun b hb => by have h9 : b < W9.heap.size := hb; omega)).mono ?_
   rintro e wC ⟨RA, rc, rfl, -, hra, hbC⟩
   have HBC := Lib.hid (HBB.out.trans (hbC.mono hzB))
   have hzC := HBC.out.size
   have HRA := Lib.hid (hra.more (S' := fun b => b < wC.heap.size) (fun b hb => hb.2))
   clear hbC hra
   go_wp2_with fail
   refine (rinvert_any AR cr raw (fun b => b < W9.heap.size) wC (HR9.out.keep (fun b hb => HBC.out.block b hb)) (fun b hb => by have h9 : b < W9.heap.size := hb; omega)).mono ?_
   rintro e wD ⟨RB, rd, rfl, -, hrb, hbD⟩
   have HBD := Lib.hid (HBC.out.trans (hbD.mono hzC))
   have hzD : wC.heap.size ≤ wD.heap.size := hbD.size
   have HRA := Lib.hid ((show ChgS wC (fun b => b < wC.heap.size) RA (invF raw) from HRA.out).keep (fun b hb => hbD.block b hb))
   have HRB := Lib.hid (hrb.more (S' := fun b => b < wD.heap.size) (fun b hb => hb.2))
   clear hbD hrb
   go_wp2_with fail
   refine (rsameChanges_any RA RB rc rd (invF raw) (invF raw) (fun b => b < wD.heap.size) wD (Sl.more HRA.out (fun b hb => by have h9 : b < wC.heap.size := hb; show b < wD.heap.size; omega)) HRB.out (fun b hb => hb)).mono ?_
   rintro e wE ⟨rfl, hbE⟩
   rw [decide_eq_true (rfl : invF raw = invF raw)]
   have HBE := Lib.hid (HBD.out.trans (hbE.mono (by omega)))
   have hzE := HBE.out.size
   clear hbE
   go_wp2_with fail
   refine (invert_any AL cl l (fun b => b < W9.heap.size) wE (HL9.out.keep (fun b hb => HBE.out.block b hb)) (fun b hb => by have h9 : b < W9.heap.size := hb; omega)).mono ?_
   rintro e wF ⟨IF, ifc, rfl, -, hif, hbF⟩
   have HBF := Lib.hid (HBE.out.trans (hbF.mono hzE))
   have hzF := HBF.out.size
   have HIF := Lib.hid (hif.more (S' := fun b => b < wF.heap.size) (fun b hb => hb.2))
   clear hbF hif
   go_wp2_with fail
   refine (invert_any IF ifc (invF l) (fun b => b < wF.heap.size) wF HIF.out (fun b hb => hb)).mono ?_
   rintro e wG ⟨IG, ig, rfl, -, hig, hbG⟩
   have HBG := Lib.hid (HBF.out.trans (hbG.mono hzF))
   have hzG := HBG.out.size
   have HIG := Lib.hid (hig.more (S' := fun b => b < wG.heap.size) (fun b hb => hb.2))
   clear hbG hig
   rw [invF_inv] at HIG ⊢
   go_wp2_with fail
   refine (rsameChanges_any IG AL ig cl l l (fun b => b < wG.heap.size) wG HIG.out ((HL9.out.keep (fun b hb => HBG.out.block b hb)).more (fun b hb => by have h9 : b < W9.heap.size := hb; show b < wG.heap.size; omega)) (fun b hb => hb)).mono ?_
   rintro e wH ⟨rfl, hbH⟩
   rw [decide_eq_true (rfl : l = l)]
   have HBH := Lib.hid (HW9.out.trans ((HBG.out.mono (by omega)).trans (hbH.mono (by omega))))
   clear hbH
   go_wp2_with fail
   go_ret
   exact ⟨rfl, HBH.out⟩
end Go.Proofs.Ytkpjjfhfbpfjpaa
