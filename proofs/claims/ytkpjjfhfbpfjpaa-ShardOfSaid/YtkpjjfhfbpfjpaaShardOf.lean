/- ShardOf: for every input the law returns true, and each argument reads afterwards as it did. The frame follows the shell of proof-skeleton.mjs; the walk is shardOf_walk. -/
import Derived.Test.YtkpjjfhfbpfjpaaRows
import Derived.WalkKit
import Derived.ProofKit
import Derived.OpenShut
import Derived.ShutString
import Derived.ChangeOld
import Derived.Below
import Derived.SizedLaws
import Derived.Test.YtkpjjfhfbpfjpaaK25401f
import Derived.Test.YtkpjjfhfbpfjpaaK243a57
set_option linter.unusedVariables false
set_option linter.unusedSimpArgs false
set_option maxRecDepth 100000
set_option maxHeartbeats 8000000
namespace Go.Proofs.Ytkpjjfhfbpfjpaa.shardOf
open Go.ChangeShapes Go.WideShapes Go.ChangeAt Go.RowKit
open Go.ChangeMaps (open_string shut_string)
theorem own:ownKnob Try.prog.godebug=none:=by kernel_rfl
theorem laidOut:laidOutB Try.prog=true:=by kernel_rfl
theorem lifted (os:Os) (started:os.Started) (H:Type) (enc:TypeId × Value→H) :
  ReturnsInHanded {} Try.checked os 3 .any (Rows.shardOfSpec.pre6 enc Try.prog Try.f3 Rows.shardOfRow.domain false) (Rows.shardOfSpec.post enc Try.prog Try.f3 false true false false):=by
 refine returnsInHanded_of_change_sized (C:=Try.checked) own started (by kernel_rfl) Try.func3
  (ChangeSpec.witness6 (enc:=enc) (C:=Try.checked) false ⟨#[],#[.slice none 0 0,.agg #[.int .i64 0,.slice none 0 0],.int .i64 0,.int .i64 0,.slice none 0 0],[]⟩ 8 (by kernel_rfl) (by kernel_rfl) (by kernel_rfl) (by kernel_rfl)) ?_
 intro W base args ds gs before hval0 hW hcnd hsz0 _;have hsz:(DataW.weightsEach Try.prog (Try.f3.params.toList++Rows.shardOfSpec.plain.varTypes Try.prog) (ds++gs)).all (·≤reachBytes)=true:=hsz0;have hval:∀ (j:Nat) t v,Try.f3.params[j]?=some t→args[j]?=some v→Value.okWide Try.prog W .any base t v:=hval0;have hW':=hW;obtain⟨p,q,hA0,hV,rfl,hfz,hnd⟩:=hW;have hA:DataW.TrodAll enc Try.prog W 0 (fun _=>true) true Try.f3.params.toList args.toList ds p:=hA0;rw [Try.params3] at hA hval hsz;obtain⟨v0,vs0,d0,ds0,p0,q0,hargs,rfl,rfl,h0,r0⟩:=trodAll_cons hA;obtain⟨v1,vs1,d1,ds1,p1,q1,rfl,rfl,rfl,h1,r1⟩:=trodAll_cons r0;obtain⟨v2,vs2,d2,ds2,p2,q2,rfl,rfl,rfl,h2,r2⟩:=trodAll_cons r1;obtain⟨v3,vs3,d3,ds3,p3,q3,rfl,rfl,rfl,h3,r3⟩:=trodAll_cons r2;obtain⟨v4,vs4,d4,ds4,p4,q4,rfl,rfl,rfl,h4,r4⟩:=trodAll_cons r3;obtain⟨rfl,rfl,rfl⟩:=trodAll_nil r4;obtain rfl:args=#[v0,v1,v2,v3,v4]:=(by cases args;simp_all);obtain⟨rfl,rfl⟩:=trodVars_none hV;have k0:=h0;have lt0:∀ x ∈ p0,x.block<W.heap.size:=(by obtain⟨m,hm⟩:=k0;exact DataW.trod_lt m _ _ _ hm);obtain⟨a0,len0,cap0,rfl⟩:=okWide_slice Try.underlying22 (hval 0 22 v0 rfl rfl)
 obtain⟨z0,w0⟩:∃ zs,IsRow .u8 W a0 len0 cap0 zs:=by
  obtain⟨fuel,hf⟩:=h0;rcases open_ints Try.underlying22 Try.underlying5 (by kernel_rfl) hf with ⟨hcs,_⟩ | ⟨x,l,c,zs,hcs,_,hl,hm,hz,_,hcell,hwz⟩
  · simp [Value.cells] at hcs;obtain⟨rfl,rfl,rfl⟩:=hcs;exact⟨[],.inl ⟨rfl,rfl,rfl,rfl⟩⟩
  · simp [Value.cells] at hcs;obtain⟨rfl,rfl,rfl⟩:=hcs;exact⟨zs,.inr ⟨_,rfl,hl,hm,by simpa using hz,hcell,hwz⟩⟩
 have k1:=h1;have lt1:∀ x ∈ p1,x.block<W.heap.size:=(by obtain⟨m,hm⟩:=k1;exact DataW.trod_lt m _ _ _ hm);have hw1:∀ n ∈ d1.weights Try.prog 25,n≤reachBytes:=fun n hn=>of_decide_eq_true (List.all_eq_true.1 hsz n (DataW.weights_mem_each (j:=1) (t:=25) rfl rfl n hn));obtain⟨s1,A1,c1,rfl,hl1⟩:=raw_schema (hval 1 25 v1 rfl rfl) h1 hw1;have k2:=h2;have lt2:∀ x ∈ p2,x.block<W.heap.size:=(by obtain⟨m,hm⟩:=k2;exact DataW.trod_lt m _ _ _ hm);obtain⟨n2,rfl,_,_,wf2⟩:=open_int Try.underlying3 (hval 2 3 v2 rfl rfl) h2;have k3:=h3;have lt3:∀ x ∈ p3,x.block<W.heap.size:=(by obtain⟨m,hm⟩:=k3;exact DataW.trod_lt m _ _ _ hm);obtain⟨n3,rfl,_,_,wf3⟩:=open_int Try.underlying3 (hval 3 3 v3 rfl rfl) h3;have k4:=h4;have lt4:∀ x ∈ p4,x.block<W.heap.size:=(by obtain⟨m,hm⟩:=k4;exact DataW.trod_lt m _ _ _ hm);obtain⟨a4,len4,cap4,rfl⟩:=okWide_slice Try.underlying27 (hval 4 27 v4 rfl rfl);have hw4:∀ n ∈ d4.weights Try.prog 27,n≤reachBytes:=fun n hn=>of_decide_eq_true (List.all_eq_true.1 hsz n (DataW.weights_mem_each (j:=4) (t:=27) rfl rfl n hn));obtain⟨f4,hf4⟩:=h4;obtain⟨A4,c4,l4,e4,hc4,hl4⟩:=raw_row hf4 hw4;obtain⟨rfl,rfl,rfl⟩:a4=A4∧len4=l4.length∧cap4=c4:=(by simpa [Value.cells] using e4);clear hA0 hval0;refine(shardOf_walk a0 len0 cap0 z0 s1 A1 c1 n2 n3 a4 cap4 l4 W w0 hl1 hl4).mono fun e W' ⟨he,bel⟩=>?_;subst he;exact⟨_,rfl,_,_,_,[],_,[],hW',trodAll_mk1 (shut_bool Try.underlying4 _),(trodAll_cons_mk (Below.trod laidOut (by kernel_rfl) (of_decide_eq_true (by kernel_rfl)) k0 bel lt0) (trodAll_cons_mk (Below.trod laidOut (by kernel_rfl) (of_decide_eq_true (by kernel_rfl)) k1 bel lt1) (trodAll_cons_mk (Below.trod laidOut (by kernel_rfl) (of_decide_eq_true (by kernel_rfl)) k2 bel lt2) (trodAll_cons_mk (Below.trod laidOut (by kernel_rfl) (of_decide_eq_true (by kernel_rfl)) k3 bel lt3) (trodAll_cons_mk (Below.trod laidOut (by kernel_rfl) (of_decide_eq_true (by kernel_rfl)) k4 bel lt4) trodAll_mk0))))),rfl,bel.frame _,fun h=>by cases h⟩
theorem over:Rows.shardOfRow.holds Try.pinned (OpenSpec.ofChange Rows.shardOfSpec) :=
 OpenClaim.holds_of_wide 3 Try.f3 rfl rfl rfl rfl rfl rfl rfl ⟨rfl,rfl,rfl,rfl,rfl⟩ rfl rfl rfl rfl rfl (by kernel_rfl) Try.func3 (by kernel_rfl)
  (of_decide_eq_true (by kernel_rfl)) (by unfold Func.isWrapper;first | (rw [if_pos (by decide +kernel)];kernel_rfl) | (rw [if_neg (by decide +kernel)];exact⟨rfl,rfl⟩))
  (fun os started H enc _=>lifted os started H enc)
theorem proved:Rows.ShardOfSaid:=over
#print axioms proved
end Go.Proofs.Ytkpjjfhfbpfjpaa.shardOf
