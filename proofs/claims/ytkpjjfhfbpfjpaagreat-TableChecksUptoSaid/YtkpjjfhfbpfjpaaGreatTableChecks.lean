/- TableChecks: for every input the law returns true, and each argument reads afterwards as it did. The frame follows the shell of proof-skeleton.mjs; the walk is checks_walk. -/
import Derived.Test.YtkpjjfhfbpfjpaaGreatRows
import Derived.WalkKit
import Derived.ProofKit
import Derived.OpenShut
import Derived.ShutString
import Derived.ChangeOld
import Derived.Below
import Derived.SizedLaws
import Derived.JoinedCond
import Derived.Deep.CondSized
import Derived.Test.YtkpjjfhfbpfjpaaGreatKfde3e9
import Derived.Test.YtkpjjfhfbpfjpaaGreatK6ccd8f
set_option linter.unusedVariables false
set_option linter.unusedSimpArgs false
set_option maxRecDepth 100000
set_option maxHeartbeats 8000000
namespace Go.Proofs.YtkpjjfhfbpfjpaaGreat.tableChecks
open Go.ChangeShapes Go.WideShapes Go.ChangeAt Go.RowKit
open Go.ChangeMaps (open_string shut_string)
open Go.Proofs.YtkpjjfhfbpfjpaaGreat.Rows (uptoBulk uptoBulkAll uptoSmall)
theorem ZeL {H:Type}:∀ ds:List (DataW H),uptoBulkAll ds=(ds.map uptoBulk).sum
 | []=>by unfold uptoBulkAll;rfl
 | d :: r=>by unfold uptoBulkAll;rw [ZeL r];rfl
theorem bulk_one {H:Type} (d:DataW H):1≤uptoBulk d:=by
 cases d with
 | lit l=>cases l<;>simp [uptoBulk]
 | _=>simp [uptoBulk]
theorem bulk_of {H:Type} {ds:List (DataW H)} {j:Nat} {d:DataW H} (h:uptoSmall H ds=true) (hj:ds[j]?=some d):uptoBulk d≤1048576:=by
 have h1:uptoBulkAll ds≤1048576:=of_decide_eq_true h;rw [ZeL] at h1;obtain⟨hl,rfl⟩:=List.getElem?_eq_some_iff.1 hj
 have h3:∀ (l:List (DataW H)) (i:Nat) (hi:i<l.length),uptoBulk l[i]≤(l.map uptoBulk).sum:=by
  intro l;induction l with
  | nil=>intro i hi;simp at hi
  | cons a r ih =>
   intro i hi;cases i with
   | zero=>simp
   | succ i=>have:=ih i (by simpa using hi);simp only [List.getElem_cons_succ,List.map_cons,List.sum_cons];omega
 have:=h3 ds j hl;omega
theorem own:ownKnob Tryz.prog.godebug=none:=by kernel_rfl
theorem laidOut:laidOutB Tryz.prog=true:=by kernel_rfl
theorem lifted (os:Os) (started:os.Started) (H:Type) (enc:TypeId × Value→H) (F0:Stop.Interp) :
  ReturnsInHanded {} Tryz.checked os 5 .any ((Rows.OpenSpec.upto Rows.tableChecksSpec).pre6 enc Tryz.prog Tryz.f5 Rows.tableChecksUptoRow.domain false) (((Rows.OpenSpec.upto Rows.tableChecksSpec).at F0).post enc Tryz.prog Tryz.f5 false true false false):=by
 refine returnsInHanded_of_cond_sized (C:=Tryz.checked) (s:=Rows.OpenSpec.upto Rows.tableChecksSpec) (k:=uptoSmall) rfl own started (by kernel_rfl) Tryz.func5
  (OpenSpec.witness (enc:=enc) (C:=Tryz.checked) (s:=Rows.OpenSpec.upto Rows.tableChecksSpec) (k:=uptoSmall) rfl false ⟨#[],#[.slice none 0 0,.agg #[.slice none 0 0],.agg #[.int .i64 0,.slice none 0 0],.int .i64 0],[]⟩ 8 (by kernel_rfl) (by kernel_rfl) (by kernel_rfl)
   (x:=([.nil,.agg [.nil],.agg [.lit (.int .i64 0),.nil],.lit (.int .i64 0)],[],[])) (by kernel_rfl) (by kernel_rfl) (by kernel_rfl)) ?_
 intro W base args ds gs Zcc hval0 hW _ hcnd hsz0 _;have hsz:(DataW.weightsEach Tryz.prog (Tryz.f5.params.toList++(Rows.OpenSpec.upto Rows.tableChecksSpec).bare.plain.varTypes Tryz.prog) (ds++gs)).all (·≤reachBytes)=true:=hsz0;have hval:∀ (j:Nat) t v,Tryz.f5.params[j]?=some t→args[j]?=some v→Value.okWide Tryz.prog W .any base t v:=hval0;have hW':=hW;obtain⟨p,q,hA0,hV,rfl,hfz,hnd⟩:=hW;have hA:DataW.TrodAll enc Tryz.prog W 0 (fun _=>true) true Tryz.f5.params.toList args.toList ds p:=hA0;rw [Tryz.params5] at hA hval hsz;obtain⟨v0,vs0,d0,ds0,p0,q0,hargs,rfl,rfl,h0,r0⟩:=trodAll_cons hA;obtain⟨v1,vs1,d1,ds1,p1,q1,rfl,rfl,rfl,h1,r1⟩:=trodAll_cons r0;obtain⟨v2,vs2,d2,ds2,p2,q2,rfl,rfl,rfl,h2,r2⟩:=trodAll_cons r1;obtain⟨v3,vs3,d3,ds3,p3,q3,rfl,rfl,rfl,h3,r3⟩:=trodAll_cons r2;obtain⟨rfl,rfl,rfl⟩:=trodAll_nil r3;obtain rfl:args=#[v0,v1,v2,v3]:=(by cases args;simp_all);obtain⟨rfl,rfl⟩:=trodVars_none hV;have k0:=h0;have lt0:∀ x ∈ p0,x.block<W.heap.size:=(by obtain⟨m,hm⟩:=k0;exact DataW.trod_lt m _ _ _ hm);obtain⟨a0,len0,cap0,rfl⟩:=okWide_slice Tryz.underlying22 (hval 0 22 v0 rfl rfl)
 obtain⟨z0,w0⟩:∃ zs,IsRow .u8 W a0 len0 cap0 zs:=by
  obtain⟨fuel,hf⟩:=h0;rcases open_ints Tryz.underlying22 Tryz.underlying5 (by kernel_rfl) hf with ⟨hcs,_⟩ | ⟨x,l,c,zs,hcs,_,hl,hm,hz,_,hcell,hwz⟩
  · simp [Value.cells] at hcs;obtain⟨rfl,rfl,rfl⟩:=hcs;exact⟨[],.inl ⟨rfl,rfl,rfl,rfl⟩⟩
  · simp [Value.cells] at hcs;obtain⟨rfl,rfl,rfl⟩:=hcs;exact⟨zs,.inr ⟨_,rfl,hl,hm,by simpa using hz,hcell,hwz⟩⟩
 have k1:=h1;have lt1:∀ x ∈ p1,x.block<W.heap.size:=(by obtain⟨m,hm⟩:=k1;exact DataW.trod_lt m _ _ _ hm);have hw1:∀ n ∈ d1.weights Tryz.prog 33,n≤reachBytes:=fun n hn=>of_decide_eq_true (List.all_eq_true.1 hsz n (DataW.weights_mem_each (j:=1) (t:=33) rfl rfl n hn));obtain⟨A1,c1,l1,rfl,hc1,hl1,hm1⟩:=raw_state2 uptoBulk (fun a b=>by simp only [uptoBulk,ZeL];omega) (fun a=>by simp only [uptoBulk,ZeL];omega) bulk_one (hval 1 33 v1 rfl rfl) h1 hw1;have k2:=h2;have lt2:∀ x ∈ p2,x.block<W.heap.size:=(by obtain⟨m,hm⟩:=k2;exact DataW.trod_lt m _ _ _ hm);have hw2:∀ n ∈ d2.weights Tryz.prog 28,n≤reachBytes:=fun n hn=>of_decide_eq_true (List.all_eq_true.1 hsz n (DataW.weights_mem_each (j:=2) (t:=28) rfl rfl n hn));obtain⟨s2,A2,c2,rfl,hl2⟩:=raw_schema (hval 2 28 v2 rfl rfl) h2 hw2;have k3:=h3;have lt3:∀ x ∈ p3,x.block<W.heap.size:=(by obtain⟨m,hm⟩:=k3;exact DataW.trod_lt m _ _ _ hm);obtain⟨n3,rfl,_,_,wf3⟩:=open_int Tryz.underlying3 (hval 3 3 v3 rfl rfl) h3;clear hA0 hval0;refine(checks_walk a0 len0 cap0 z0 A1 c1 l1 s2 A2 c2 n3 W w0 hl1 (Nat.le_trans hm1 (Nat.le_trans (bulk_of (j:=1) (d:=d1) hcnd rfl) (by decide))) hl2).mono fun e W' ⟨he,bel⟩=>?_;subst he;exact⟨_,rfl,_,_,_,[],_,[],hW',trodAll_mk1 (shut_bool Tryz.underlying4 _),(trodAll_cons_mk (Below.trod laidOut (by kernel_rfl) (of_decide_eq_true (by kernel_rfl)) k0 bel lt0) (trodAll_cons_mk (Below.trod laidOut (by kernel_rfl) (of_decide_eq_true (by kernel_rfl)) k1 bel lt1) (trodAll_cons_mk (Below.trod laidOut (by kernel_rfl) (of_decide_eq_true (by kernel_rfl)) k2 bel lt2) (trodAll_cons_mk (Below.trod laidOut (by kernel_rfl) (of_decide_eq_true (by kernel_rfl)) k3 bel lt3) trodAll_mk0)))),rfl,bel.frame _,fun h=>by cases h⟩
theorem over:Rows.tableChecksUptoRow.holds Tryz.pinned (Rows.OpenSpec.upto Rows.tableChecksSpec) :=
 OpenClaim.holds_of_cond 5 Tryz.f5 rfl rfl rfl rfl rfl rfl rfl ⟨rfl,rfl,rfl,rfl,rfl⟩ rfl rfl rfl rfl rfl (by kernel_rfl) Tryz.func5 (by kernel_rfl)
  (of_decide_eq_true (by kernel_rfl)) (by unfold Func.isWrapper;first | (rw [if_pos (by decide +kernel)];kernel_rfl) | (rw [if_neg (by decide +kernel)];exact⟨rfl,rfl⟩))
  (fun os started H enc _ F0=>lifted os started H enc F0)
theorem proved:Rows.TableChecksUptoSaid:=over
#print axioms proved
end Go.Proofs.YtkpjjfhfbpfjpaaGreat.tableChecks
