import Derived.Test.YtjadnfodboepeaaGreatKch
import Derived.RecoverIn
set_option linter.all false
set_option maxRecDepth 100000
set_option maxHeartbeats 8000000
namespace Go.Proofs.YtjadnfodboepeaaGreat
open Go Go.RowKit
section
variable {F:Fence} {n:Nat} {P:Program}
theorem yield_round {l:Nat} {r:Loop} {args:Array Value} {E:World} {J:World->Prop} (R:F.fn r.fn) (O:E.heap[l]?=some (.loop r)) (U:r.state=.ready) (ae:r.pending=none) (aa:args.size=r.params.size)
 (h:r.assign.wpIn (F.inRound l) n P (Exit.then (fun Z I=>I.heap[l]?=some (.loop r)/\r.body.wpIn (F.inRound l) n P (fun e _ z=>e=.normal/\z.heap[l]?=some (.loop { r with state:=.busy })/\J z) Z (I.putObj l (.loop { r with state:=.busy }))) (fun _ _ _=>False))
  { tmps:=(r.params.zip args).foldl (fun tmps (t,a)=>tmps.setIfInBounds t a) r.tmps,defers:=[] } E) :
 YieldAt F n P l args E fun e ab=>e=.returned (.bool true)/\∃ z,J z/\z.heap[l]?=some (.loop { r with state:=.busy })/\ab=z.putObj l (.loop r):=by
 refine⟨r.fn,_,r.assign,r.body,run_yield O aa,roundIn_of_wpIn R (wpIn_mono h ?_)⟩;intro e a w H;cases e with
 | normal =>
  obtain⟨W,M⟩:=H;refine⟨_,run_beginRound W U,wpIn_mono M ?_⟩;rintro e a3 z ⟨rfl,L,N⟩;have K:=run_endRound (P:=P) none L
  have ac:({ { r with state:=.busy } with state:=if (none:Option Code).isNone then .ready else .done,pending:=none }:Loop)=r:=by
   cases r
   simp_all
  rw [ac] at K;exact⟨_,_,K,rfl,z,N,L,rfl⟩
 | _=>exact H.elim
theorem range_whole {g:Operand} {H:Array Tmp} {assign body:Code} {Q:Exit->Act->World->Prop} {a:Act} {w:World} {J:World->Prop} (U:F.round=none) (Z:1<=n) {gf:Nat} {lb:Array Value} (R:a.eval g=.func (.func gf) #[] lb) (ai:F.fn gf) (aa:∀ args w,(callFunc gf args).run P w=.ok (.enter gf args) w)
 (aj:∀ r:Loop,F.fn r.fn->r.state=.ready->r.pending=none->r.tmps=a.tmps->r.params=H->r.assign=assign->r.body=body ->
  CallsIn F (n - 1) P gf (#[.func (.yield (w+1)) #[] #[]]++lb) ((w.alloc (.deferred (some []))).alloc (.loop r)) fun e K=>(∃ v,e=.returned v)/\K.heap[w.heap.size+1]?=some (.loop r)/\K.heap[w.heap.size]?=some (.deferred (some []))/\J K)
 (ab:∀ (E:World) (r:Loop),J E->E.heap[w.heap.size+1]?=some (.loop r)->E.heap[w.heap.size]?=some (.deferred (some []))->Q .normal { a with defers:={ target:=.collected w,args:=#[] } :: a.defers } (E.putObj (w+1) (.loop { r with state:=.exhausted }))) :
 (Code.rangeFunc g H assign body).wpIn F n P Q a w:=by
 refine wpIn_rangeFunc ?_;intro fn ah;rw [U];obtain⟨r,z⟩:∃ r:Loop,r={ state:=.ready,pending:=none,fn,tmps:=a.tmps,params:=H,assign,body,defers:=w.heap.size }:=⟨_,rfl⟩;obtain⟨I,M⟩:=yp ((w.alloc (.deferred (some []))).alloc (.loop r))
 refine⟨w.heap.size+1,[{ target:=.collected w,args:=#[] }],I,{ target:=.fn (.func gf) lb,args:=#[.func (.yield (w+1)) #[] #[]] },I,gf,
  #[.func (.yield (w+1)) #[] #[]]++lb,I,?_,?_,?_,?_,fun _=>Z,?_⟩
 .rw [<-M,z];exact run_enterLoop_outer _ _ _ _ _
 .simp only [resolve,R];simp [go_sem]
 .intro ak O;simp [Target.leads] at O;subst O;exact ai
 .simp [invoke,go_sem,aa]
 rw [<-M];refine(aj r (by rw [z];exact ah) (by rw [z]) (by rw [z]) (by rw [z]) (by rw [z]) (by rw [z]) (by rw [z])).mono ?_;rintro e ae ⟨⟨v,rfl⟩,L,ac,W⟩;refine⟨r.pending,_,run_endLoop L (by rw [z];simp),?_⟩;have af:=ab ae r W L ac;have N:r.pending=none:=(by rw [z]);cases r
 simp only at N;subst N;exact af
end
end Go.Proofs.YtjadnfodboepeaaGreat
