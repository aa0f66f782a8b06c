/- HistoryOpens: for every input the law returns true, and each argument reads afterwards as it did. The frame follows the shell of proof-skeleton.mjs; the walk is opens_walk. -/
import Derived.Test.YtjadnfodboepeaaGreatRows
import Derived.Deep.CondSized
import Derived.Test.YtjadnfodboepeaaGreatK7i
import Derived.Test.YtjadnfodboepeaaGreatK0h
set_option linter.all false
set_option maxRecDepth 100000
set_option maxHeartbeats 8000000
namespace Go.Proofs.YtjadnfodboepeaaGreat.historyOpens
open Tryz
open Go.ChangeShapes Go.WideShapes Go.ChangeAt Go.RowKit
open Go.ChangeMaps (open_string shut_string)
open Go.Proofs.YtjadnfodboepeaaGreat.Rows (uptoBulk uptoBulkAll uptoSmall)
variable {n:Nat}
theorem Zfq {E:Type}:∀ z:List (DataW E),uptoBulkAll z=(z.map uptoBulk).sum
 | []=>by unfold uptoBulkAll;rfl
 | d :: r=>by unfold uptoBulkAll;rw [Zfq r];rfl
theorem bulk_one {z:Type} (d:DataW z):1<=uptoBulk d:=by
 cases d with
 | lit l=>cases l<;>simp [uptoBulk]
 | _=>simp [uptoBulk]
theorem bulk_of {z:Type} {E:List (DataW z)} {d:DataW z} (h:uptoSmall z E=true) (H:E[n]?=some d):uptoBulk d<=1048576:=by
 have L:uptoBulkAll E<=1048576:=of_decide_eq_true h;rw [Zfq] at L;obtain⟨I,rfl⟩:=qR.1 H
 have M:∀ (l:List (DataW z)) (i:Nat) (F:i<l),uptoBulk l[i]<=(l.map uptoBulk).sum:=by
  intro l;induction l with
  | nil=>intro i F;simp at F
  | cons a r K =>
   intro i F;cases i with
   | zero=>simp
   | succ i=>have:=K i (by simpa using F);simp only [List.getElem_cons_succ,qL,List.sum_cons];omega
 have:=M E n I;omega
theorem own:ownKnob Tryz.prog.godebug=none:=by kernel_rfl
theorem laidOut:laidOutB Tryz.prog=true:=by kernel_rfl
theorem lifted {aa:Os} (aw:aa.Started) (bb:Type) {enc:TypeId × Value->bb} {aH:Stop.Interp} :
 ReturnsInHanded {} Tryz.checked aa 3 .any ((Rows.OpenSpec.upto Rows.historyOpensSpec).pre6 enc Tryz.prog Tryz.f3 Rows.historyOpensUptoRow.domain false) (((Rows.OpenSpec.upto Rows.historyOpensSpec).at aH).post enc Tryz.prog Tryz.f3 false true false false):=by
 refine returnsInHanded_of_cond_sized (C:=Tryz.checked) (s:=Rows.OpenSpec.upto Rows.historyOpensSpec) (k:=uptoSmall) rfl own aw ye Tryz.func3
  (OpenSpec.witness (enc:=enc) (C:=Tryz.checked) (s:=Rows.OpenSpec.upto Rows.historyOpensSpec) (k:=uptoSmall) rfl false ⟨#[],#[.slice none 0 0,.agg #[.int .i64 0,.slice none 0 0],.int .i64 0,.agg #[.slice none 0 0]],[]⟩ 8 ye ye ye
   (x:=([.nil,.agg [.lit (.int .i64 0),.nil],.lit (.int .i64 0),.agg [.nil]],[],[])) ye ye ye) ?_
 intro E base args ap ay Zbj ai am _ aC aR _;have K:(DataW.weightsEach Tryz.prog (Tryz.f3.params.toList++(Rows.OpenSpec.upto Rows.historyOpensSpec).bare.plain.varTypes Tryz.prog) (ap++ay)).all (·<=reachBytes)=true:=aR;have I:∀ (j:Nat) t v,Tryz.f3.params[j]?=some t->args[j]?=some v->Value.okWide Tryz.prog E .any base t v:=ai;have aT:=am;obtain⟨p,q,ab,aW,rfl,bp,bD⟩:=am;have ac:DataW.TrodAll enc Tryz.prog E 0 (fun _=>true) true Tryz.f3.params.toList args.toList ap p:=ab;rw [Tryz.params3] at ac I K;obtain⟨v0,bk,bi,bg,p0,bw,bn,rfl,rfl,ak,r0⟩:=trodAll_cons ac;obtain⟨N,bf,aI,br,ba,bC,rfl,rfl,rfl,ao,aX⟩:=trodAll_cons r0;obtain⟨ah,bB,be,bl,av,bt,rfl,rfl,rfl,ae,bc⟩:=trodAll_cons aX;obtain⟨W,bz,U,bm,ar,bh,rfl,rfl,rfl,O,aP⟩:=trodAll_cons bc;obtain⟨rfl,rfl,rfl⟩:=trodAll_nil aP;obtain rfl:args=#[v0,N,ah,W]:=(by cases args;simp_all);obtain⟨rfl,rfl⟩:=trodVars_none aW;have an:=ak;have au:∀ x ∈ p0,x.block<E:=(by obtain⟨m,z⟩:=an;exact DataW.trod_lt m _ _ _ z);obtain⟨a0,aq,Z,rfl⟩:=okWide_slice Tryz.underlying22 (I 0 22 v0 rfl rfl)
 obtain⟨aD,w0⟩:∃ L,IsRow .u8 E a0 aq Z L:=by
  obtain⟨bj,aK⟩:=ak;rcases open_ints Tryz.underlying22 Tryz.underlying5 ye aK with ⟨H,_⟩ | ⟨x,l,c,L,H,_,aS,z,az,_,aJ,aL⟩
  .simp [Value.cells] at H;obtain⟨rfl,rfl,rfl⟩:=H;exact⟨[],.inl ⟨rfl,rfl,rfl,rfl⟩⟩
  simp [Value.cells] at H;obtain⟨rfl,rfl,rfl⟩:=H;exact⟨L,.inr ⟨_,rfl,aS,z,by simpa using az,aJ,aL⟩⟩
 have aj:=ao;have aG:∀ x ∈ ba,x.block<E:=(by obtain⟨m,z⟩:=aj;exact DataW.trod_lt m _ _ _ z);have aB:∀ n ∈ aI.weights Tryz.prog 25,n<=reachBytes:=fun n M=>of_decide_eq_true (List.all_eq_true.1 K n (DataW.weights_mem_each (j:=1) (t:=25) rfl rfl n M));obtain⟨aU,ax,c1,rfl,aF⟩:=raw_schema (I 1 25 N rfl rfl) ao aB;have R:=ae;have aZ:∀ x ∈ av,x.block<E:=(by obtain⟨m,z⟩:=R;exact DataW.trod_lt m _ _ _ z);obtain⟨n2,rfl,_,_,bo⟩:=open_int Tryz.underlying3 (I 2 3 ah rfl rfl) ae;have af:=O;have aO:∀ x ∈ ar,x.block<E:=(by obtain⟨m,z⟩:=af;exact DataW.trod_lt m _ _ _ z);have aQ:∀ n ∈ U.weights Tryz.prog 28,n<=reachBytes:=fun n M=>of_decide_eq_true (List.all_eq_true.1 K n (DataW.weights_mem_each (j:=3) (t:=28) rfl rfl n M));obtain⟨aE,aM,aA,rfl,bq,aN,aY⟩:=raw_state2 uptoBulk (fun a b=>by simp only [uptoBulk,Zfq];omega) (fun a=>by simp only [uptoBulk,Zfq];omega) bulk_one (I 3 28 W rfl rfl) O aQ;clear ab ai;refine(opens_walk a0 aq Z aD aU ax c1 n2 aE aM aA E w0 aF aN (qD aY (qD (bulk_of (n:=3) (d:=U) aC rfl) yf))).mono fun e bu ⟨aV,F⟩=>?_;subst aV;exact⟨_,rfl,_,_,_,[],_,[],aT,trodAll_mk1 (shut_bool Tryz.underlying4 _),(trodAll_cons_mk (Below.trod laidOut ye (of_decide_eq_true ye) an F au) (trodAll_cons_mk (Below.trod laidOut ye (of_decide_eq_true ye) aj F aG) (trodAll_cons_mk (Below.trod laidOut ye (of_decide_eq_true ye) R F aZ) (trodAll_cons_mk (Below.trod laidOut ye (of_decide_eq_true ye) af F aO) trodAll_mk0)))),rfl,F.frame _,fun h=>by cases h⟩
theorem lInPlace:(Rows.historyOpensUptoRow.inPlace == Tryz.checked.prog.inPlace 3)=true:=by kernel_rfl
theorem lUnfollowed:(Rows.historyOpensUptoRow.unfollowed == Tryz.checked.prog.unfollowed 3)=true:=by kernel_rfl
theorem lRecurses:(Rows.historyOpensUptoRow.recurses == Tryz.checked.prog.recurses 3)=true:=by kernel_rfl
theorem lNamed:(Rows.historyOpensUptoRow.named == Tryz.checked.prog.varsNamed 3)=true:=by kernel_rfl
theorem closed:joinedFacts Tryz.checked.prog 3 Tryz.f3 (Rows.OpenSpec.upto Rows.historyOpensSpec).bare Rows.historyOpensUptoRow=true:=by
 unfold joinedFacts;rw [lInPlace,lUnfollowed,lRecurses,lNamed]
 kernel_rfl
theorem over:Rows.historyOpensUptoRow.holds Tryz.pinned (Rows.OpenSpec.upto Rows.historyOpensSpec) :=
 OpenClaim.holds_of_cond 3 Tryz.f3 rfl rfl rfl rfl rfl rfl rfl ⟨rfl,rfl,rfl,rfl,rfl⟩ rfl rfl rfl rfl rfl ye Tryz.func3 closed
  (of_decide_eq_true ye) (by unfold Func.isWrapper;first | (rw [qr (by decide +kernel)];kernel_rfl) | (rw [qo (by decide +kernel)];exact⟨rfl,rfl⟩))
  (fun z H F enc _ E=>lifted H F)
theorem proved:Rows.HistoryOpensUptoSaid:=over
#print axioms proved
end Go.Proofs.YtjadnfodboepeaaGreat.historyOpens
