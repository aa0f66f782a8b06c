import Derived.Test.YtjadnfodboepeaaGreatKws
set_option linter.all false
set_option maxRecDepth 100000
set_option maxHeartbeats 8000000
namespace Go.Proofs.YtjadnfodboepeaaGreat
open Tryz
open Go.RowKit
variable {w:World} {n k m i:Nat} {A B A':Option Addr} {S:Nat->Prop} {a t:Int} {l p:List Int} {s:Sch} {Z:List Pred}
theorem Zgz (op cmp I l2 N F K z H E:Int) (L M:ByteArray) (A:Option Addr) (n c:Nat) :
 Calls prog 205 #[pAgg op cmp ⟨I,l2,⟨N,F,L⟩⟩ ⟨K,z,⟨H,E,M⟩⟩ A n c] w (ZH (ZeF cmp ⟨I,l2,⟨N,F,L⟩⟩ ⟨K,z,⟨H,E,M⟩⟩) w):=by
 go_enter func205,ntmps205
 go_wp2_with fail
 all_goals
  go_ret;exact⟨by rw [Zeg];simp [*],(qa _ _).alloc nR _⟩
theorem rvalid_cmp (cmp:Int) (args r:Opd) (c:Nat) (ai:IntS w S A l) (ak:IntS w S B p) (ay:PredS w S A' Z) (ac:∀ x,S x->x<w) (au:args.value.t.size<=9223372036854775807) (aw:r.value.t.size<=9223372036854775807) :
 Calls prog 151 #[.slice A l n,.slice B p k,pAgg 3 cmp args r A' Z c] w (ZH (predOk l p (.mk 3 cmp args r Z)) w):=by
 obtain⟨O,l2,⟨L,M,H⟩⟩:=args;obtain⟨F,N,⟨E,I,K⟩⟩:=r;simp only at au aw;replace ai:=hI ai;replace ak:=hI ak;clear ay;have am:=hI ((qa w w).alloc nR (.cells #[.int .i64 3,.int .i64 cmp,.int .i64 O,.int .i64 l2,.int .i64 L,.int .i64 M,.string H,.int .i64 F,.int .i64 N,.int .i64 E,.int .i64 I,.string K,.slice A' Z c] 112));go_enter func151,ntmps151
 go_wp2_with fail
 refine(ZhH ⟨O,l2,⟨L,M,H⟩⟩ (ai.keep (qS am ac)) (ak.keep (qS am ac)) (fun x aq=>by have:=ac x aq;simp;omega) au).mono ?_;rintro e ax ⟨rfl,R⟩;have cols:=hI (am.trans (R.mono yb));have:w.heap.size<ax:=(by have:=R.size;simp at this;omega);have aE:=(R.cell (p:=⟨w,1,none⟩) yb).trans (Zm (w:=w) (cs:=#[.int .i64 3,.int .i64 cmp,.int .i64 O,.int .i64 l2,.int .i64 L,.int .i64 M,.string H,.int .i64 F,.int .i64 N,.int .i64 E,.int .i64 I,.string K,.slice A' Z c]) (g:=112) (k:=1) rfl rfl);have aC:=(R.cell (p:=⟨w,7,none⟩) yb).trans (Zm (w:=w) (cs:=#[.int .i64 3,.int .i64 cmp,.int .i64 O,.int .i64 l2,.int .i64 L,.int .i64 M,.string H,.int .i64 F,.int .i64 N,.int .i64 E,.int .i64 I,.string K,.slice A' Z c]) (g:=112) (k:=7) rfl rfl);have aF:=(R.cell (p:=⟨w,8,none⟩) yb).trans (Zm (w:=w) (cs:=#[.int .i64 3,.int .i64 cmp,.int .i64 O,.int .i64 l2,.int .i64 L,.int .i64 M,.string H,.int .i64 F,.int .i64 N,.int .i64 E,.int .i64 I,.string K,.slice A' Z c]) (g:=112) (k:=8) rfl rfl);have aG:=(R.cell (p:=⟨w,9,none⟩) yb).trans (Zm (w:=w) (cs:=#[.int .i64 3,.int .i64 cmp,.int .i64 O,.int .i64 l2,.int .i64 L,.int .i64 M,.string H,.int .i64 F,.int .i64 N,.int .i64 E,.int .i64 I,.string K,.slice A' Z c]) (g:=112) (k:=9) rfl rfl);have aD:=(R.cell (p:=⟨w,10,none⟩) yb).trans (Zm (w:=w) (cs:=#[.int .i64 3,.int .i64 cmp,.int .i64 O,.int .i64 l2,.int .i64 L,.int .i64 M,.string H,.int .i64 F,.int .i64 N,.int .i64 E,.int .i64 I,.string K,.slice A' Z c]) (g:=112) (k:=10) rfl rfl);have aI:=(R.cell (p:=⟨w,11,none⟩) yb).trans (Zm (w:=w) (cs:=#[.int .i64 3,.int .i64 cmp,.int .i64 O,.int .i64 l2,.int .i64 L,.int .i64 M,.string H,.int .i64 F,.int .i64 N,.int .i64 E,.int .i64 I,.string K,.slice A' Z c]) (g:=112) (k:=11) rfl rfl);have aH:=(R.cell (p:=⟨w,12,none⟩) yb).trans (Zm (w:=w) (cs:=#[.int .i64 3,.int .i64 cmp,.int .i64 O,.int .i64 l2,.int .i64 L,.int .i64 M,.string H,.int .i64 F,.int .i64 N,.int .i64 E,.int .i64 I,.string K,.slice A' Z c]) (g:=112) (k:=12) rfl rfl);obtain⟨z,ap⟩:=yp (Zj l p ⟨O,l2,⟨L,M,H⟩⟩);obtain⟨W,af⟩:=yp (Zj l p ⟨F,N,⟨E,I,K⟩⟩);have ae:=hI (show predOk l p (.mk 3 cmp ⟨O,l2,⟨L,M,H⟩⟩ ⟨F,N,⟨E,I,K⟩⟩ Z)=(decide (Z.length=0)&&decide (1<=cmp)&&decide (cmp<=6)&&decide (z≠0)&&decide (z=W)) by rw [ZkV,ap,af]);replace af:=hI af;rw [ap];clear R ap
 by_cases aa:Z.length=0
 .have aB:((Z:Int) == 0)=true:=(by simp [aa]);replace aa:=hI aa
  by_cases an:1<=cmp
  .by_cases ar:cmp<=6
   .by_cases ab:z=0
    .have az:(z != 0)=false:=(by simp [ab]);have U:=hI (show (decide (Z.length=0)&&decide (1<=cmp)&&decide (cmp<=6)&&decide (z≠0)&&decide (z=W))=false by simp [ab]);clear ab
     go_wp2
     go_ret;exact⟨by rw [ae,U];rfl,cols⟩
    have az:(z != 0)=true:=(by simp [ab]);have U:=hI (show (decide (Z.length=0)&&decide (1<=cmp)&&decide (cmp<=6)&&decide (z≠0)&&decide (z=W))=(z == W) by simp [aa.out,ab,an,ar];rfl);clear ab
    go_wp2_with fail
    refine(ZhH ⟨F,N,⟨E,I,K⟩⟩ (ai.keep (qS cols ac)) (ak.keep (qS cols ac)) (fun x aq=>yl (ac x aq)) aw).mono ?_;rintro e w2 ⟨rfl,av⟩;have aA:=hI (cols.trans (av.mono ya));clear av;rw [af]
    go_wp2
    go_ret;exact⟨by rw [ae,U];rfl,aA⟩
   have U:=hI (show (decide (Z.length=0)&&decide (1<=cmp)&&decide (cmp<=6)&&decide (z≠0)&&decide (z=W))=false by simp [ar]);have:decide (cmp<=6)=false:=qe ar
   go_wp2
   go_ret;exact⟨by rw [ae,U];rfl,cols⟩
  have U:=hI (show (decide (Z.length=0)&&decide (1<=cmp)&&decide (cmp<=6)&&decide (z≠0)&&decide (z=W))=false by simp [an]);have:decide (1<=cmp)=false:=qe an
  go_wp2
  go_ret;exact⟨by rw [ae,U];rfl,cols⟩
 have aB:((Z:Int) == 0)=false:=(by rw [qf];omega);have U:=hI (show (decide (Z.length=0)&&decide (1<=cmp)&&decide (cmp<=6)&&decide (z≠0)&&decide (z=W))=false by simp [aa]);clear aa
 go_wp2
 go_ret;exact⟨by rw [ae,U];rfl,cols⟩
theorem ok_leaf (cols params:List Int) {op cmp:Int} {l r:Opd} (h:op=1\/op=2):predOk cols params (.mk op cmp l r Z)=(ZeF cmp l r&&decide (Z.length=0)):=by
 unfold predOk;rcases h with rfl | rfl<;>simp [Bool.and_comm]
theorem rvalid_p (az aL:Option Addr) (aV cb:Nat) (cols params:List Int):∀ (n:Nat) (op cmp:Int) (l r:Opd) (args:List Pred) (A:Option Addr) (c:Nat) (S:Nat->Prop) (w:World),SizeOf.sizeOf (Pred.mk op cmp l r args)<=n->IntS w S az cols->IntS w S aL params->PredS w S A args->(∀ x,S x->x<w)->l.value.t.size<=9223372036854775807->r.value.t.size<=9223372036854775807 ->
 Calls prog 151 #[.slice az cols aV,.slice aL params cb,pAgg op cmp l r A args c] w (ZH (predOk cols params (.mk op cmp l r args)) w):=by
 intro n;induction n with
 | zero=>intro op cmp l r args A c S w ay;simp at ay
 | succ n aA =>
  intro op cmp l r args A c S w ay ap ar am an aR aP
  by_cases ab:op=3
  .subst ab;exact rvalid_cmp cmp l r c ap ar am an aR aP
  obtain⟨R,l2,⟨F,H,I⟩⟩:=l;obtain⟨L,O,⟨K,M,N⟩⟩:=r;simp only at aR aP;have bF:=am.len;replace am:=hI am;replace ap:=hI ap;replace ar:=hI ar;replace aA:=hI aA;have bq:=hI (show SizeOf.sizeOf args<=n by simp at ay;omega);clear ay;have av:=hI ((qa w w).alloc nR (.cells #[.int .i64 op,.int .i64 cmp,.int .i64 R,.int .i64 l2,.int .i64 F,.int .i64 H,.string I,.int .i64 L,.int .i64 O,.int .i64 K,.int .i64 M,.string N,.slice A args c] 112));have aU:=hI (fun (k:Nat) (v:Value) (aS:(#[.int .i64 op,.int .i64 cmp,.int .i64 R,.int .i64 l2,.int .i64 F,.int .i64 H,.string I,.int .i64 L,.int .i64 O,.int .i64 K,.int .i64 M,.string N,.slice A args c]:Array Value)[k]?=some v)=>(Zm (w:=w) (cs:=#[.int .i64 op,.int .i64 cmp,.int .i64 R,.int .i64 l2,.int .i64 F,.int .i64 H,.string I,.int .i64 L,.int .i64 O,.int .i64 K,.int .i64 M,.string N,.slice A args c]) (g:=112) (k:=k) rfl aS:yr (w.alloc (.cells #[.int .i64 op,.int .i64 cmp,.int .i64 R,.int .i64 l2,.int .i64 F,.int .i64 H,.string I,.int .i64 L,.int .i64 O,.int .i64 K,.int .i64 M,.string N,.slice A args c] 112)) w k v))
  by_cases W:op=4\/op=5\/(op=6/\args.length=1)
  .have bt:=hI (ZiD (l:=cols) (p:=params) (cmp:=cmp) (cols:=⟨R,l2,⟨F,H,I⟩⟩) (r:=⟨L,O,⟨K,M,N⟩⟩) (Z:=args) (.inr (.inr (W.imp id (fun h=>h.imp id And.left)))));have bB:=hI (ZiE (l:=cols) (p:=params) (cmp:=cmp) (cols:=⟨R,l2,⟨F,H,I⟩⟩) (r:=⟨L,O,⟨K,M,N⟩⟩) (Z:=args) (.inr (.inr W)));clear ab;rcases W with rfl | rfl | ⟨rfl,Z⟩;rotate_left 2
   have aF:((args:Int) != 1)=false:=(by simp [Z]);clear Z
   all_goals
    go_enter func151,ntmps151
    go_wp2_with fail
    refine(Zgz _ cmp R l2 F H L O K M I N A args c).mono ?_;rintro e ba ⟨rfl,aa⟩;have ae:=hI (av.trans (aa.mono yb));have aj:=(aa.cell (p:=⟨w,12,none⟩) yb).trans (aU 12 _ rfl);have aK:w.heap.size<ba:=(by have:=aa.size;simp at this;omega);clear aa;cases E:ZeF cmp ⟨R,l2,⟨F,H,I⟩⟩ ⟨L,O,⟨K,M,N⟩⟩
    .have U:=hI (bt E);clear E
     go_wp2
     go_ret;exact⟨by rw [U];rfl,ae⟩
    have U:=hI (bB E);clear E
    go_wp2
    go_loopw [71] (fun i wr=>∃ k:Nat,k<=args/\i=.int .i64 k/\predsOk cols params args=predsOk cols params (args.drop k)/\Below w w wr/\yr wr w 12 (.slice A args c)/\w.heap.size<wr) (fun i _=>args.length - (intOf i).toNat)
    case atStart=>exact⟨0,qk _,rfl,yb,ae,aj,aK⟩
    obtain⟨k,aS,rfl,ah,aB,aj,aK⟩:=hrel;replace ah:=hI ah;have ak:=hI aB;have bg:=aB.size;clear aB
    by_cases aG:k<args
    .obtain⟨bH,ai,rfl,bG,aT,aM,⟨aZ,bb,⟨aW,aQ,aN⟩⟩,⟨n1,n2,⟨aD,aJ,aC⟩⟩,aO,A',bz,aI,z⟩:=(am.keep (qS ak an)).at_ aG;have aw:=hI (ZeU cols params args k aG);rw [aI] at aw;have br:=hI (Zdd aG aI);have f1:=z.fop;have bj:=z.fcmp;have f3:=z.lk;have bk:=z.li;have bp:=z.lvk;have bl:=z.lvi;have bc:=z.lvt;have bw:=z.rk;have bm:=z.ri;have bC:=z.rvk;have bh:=z.rvi;have bf:=z.rvt;have bE:=z.fargs;replace z:=hI z;clear aI;simp only at f1 bj f3 bk bp bl bc bw bm bC bh bf bE
     go_wp2_with fail
     refine(aA aT aM ⟨aZ,bb,⟨aW,aQ,aN⟩⟩ ⟨n1,n2,⟨aD,aJ,aC⟩⟩ aO A' bz S _ (ym br.out bq.out) (ap.keep (qS ak an)) (ar.keep (qS ak an)) z.pS (fun x bi=>yl (an x bi)) z.lt z.rt).mono ?_;rintro e w2 ⟨rfl,au⟩;have aX:=hI (ak.trans (au.mono bg));have bu:=c9Q au aK aj;have be:w.heap.size<w2:=(yl au.size);clear au aj;obtain⟨aH,E⟩:=yp (predOk cols params (.mk aT aM ⟨aZ,bb,⟨aW,aQ,aN⟩⟩ ⟨n1,n2,⟨aD,aJ,aC⟩⟩ aO));rw [E] at aw ⊢;clear E;cases aH
     .go_wp2
      go_ret;exact⟨by rw [U,ah,aw];rfl,aX⟩
     go_wp2
     go_roundw
     case rel=>exact⟨k+1,ya,by go_num,by rw [ah,aw];rfl,aX,bu,be⟩
     simp [intOf];omega
    have bn:=hI (show predsOk cols params args=true by rw [ah,show k=args.length by omega,qQ];unfold predsOk;rfl)
    go_wp2
    go_ret;exact⟨by rw [U,bn];rfl,ak⟩
  by_cases af:op=1\/op=2
  .have bo:=hI (ok_leaf cols params (cmp:=cmp) (l:=⟨R,l2,⟨F,H,I⟩⟩) (r:=⟨L,O,⟨K,M,N⟩⟩) (Z:=args) af);clear ab W;obtain⟨aH,E⟩:=yp (ZeF cmp ⟨R,l2,⟨F,H,I⟩⟩ ⟨L,O,⟨K,M,N⟩⟩);replace E:=hI E;rcases af with rfl | rfl
   all_goals
    have U:=hI bo.out;go_enter func151,ntmps151
    go_wp2_with fail
    refine(Zgz _ cmp R l2 F H L O K M I N A args c).mono ?_;rintro e ba ⟨rfl,aa⟩;have ae:=hI (av.trans (aa.mono yb));have aj:=(aa.cell (p:=⟨w,12,none⟩) yb).trans (aU 12 _ rfl);rw [E];clear aa;cases aH
    .go_wp2
     go_ret;exact⟨by rw [U,E];rfl,ae⟩
    by_cases Z:args.length=0
    .have aF:((args:Int) == 0)=true:=(by simp [Z]);have aE:=hI (show (true&&decide (args.length=0))=true by simp [Z]);clear Z
     go_wp2
     go_ret;exact⟨by rw [U,E,aE];rfl,ae⟩
    have aF:((args:Int) == 0)=false:=(by rw [qf];omega);have aE:=hI (show (true&&decide (args.length=0))=false by simp [Z]);clear Z
    go_wp2
    go_ret;exact⟨by rw [U,E,aE];rfl,ae⟩
  have aq:op≠1:=fun h=>af (.inl h);have ai:op≠2:=fun h=>af (.inr h);have ax:op≠4:=fun h=>W (.inl h);have ao:op≠5:=fun h=>W (.inr (.inl h));have n1:(op == 1)=false:=qf.2 aq;have n2:(op == 2)=false:=qf.2 ai;have aD:(op == 3)=false:=qf.2 ab;have aJ:(op == 4)=false:=qf.2 ax;have aC:(op == 5)=false:=qf.2 ao
  by_cases ac:op=6
  .have aY:args.length≠1:=fun h=>W (.inr (.inr ⟨ac,h⟩));have aF:((args:Int) != 1)=true:=(by rw [bne_iff_ne];omega);have U:=hI (show predOk cols params (.mk op cmp ⟨R,l2,⟨F,H,I⟩⟩ ⟨L,O,⟨K,M,N⟩⟩ args)=false from Zkf (.inr (.inr ⟨ac,aY⟩)));have bD:(op == 6)=true:=(by simp [ac]);clear W af aq ai ab ax ao ac aY;go_enter func151,ntmps151
   go_wp2
   go_ret;exact⟨by rw [U];rfl,av⟩
  have bD:(op == 6)=false:=qf.2 ac;have U:=hI (Zkg (l:=cols) (p:=params) (cmp:=cmp) (cols:=⟨R,l2,⟨F,H,I⟩⟩) (r:=⟨L,O,⟨K,M,N⟩⟩) (Z:=args) aq ai ab ax ao ac);clear W af aq ai ab ax ao ac;go_enter func151,ntmps151
  go_wp2
  go_ret;exact⟨by rw [U];rfl,av⟩
theorem Zfy (Z cb:Nat) (op cmp:Int) (E r:Opd) (args:List Pred) (z:Option Addr) (c:Nat) (ai:IntS w S A l) (an:IntS w S B p) (aa:PredS w S z args) (N:∀ b,S b->b<w) (aQ:E.value.t.size<=9223372036854775807) (bg:r.value.t.size<=9223372036854775807) :
 Calls prog 95 #[.slice A l Z,.slice B p cb,pAgg op cmp E r z args c] w (Zaz (pcFF l p (.mk op cmp E r args)) w):=by
 replace ai:=hI ai;replace an:=hI an;replace aa:=hI aa;have W:Below w w (w.alloc (.cells #[.int .i64 op,.int .i64 cmp,.int .i64 E.kind,.int .i64 E.index,.int .i64 E.value.k,.int .i64 E.value.i,.string E.value.t,.int .i64 r.kind,.int .i64 r.index,.int .i64 r.value.k,.int .i64 r.value.i,.string r.value.t,.slice z args c] 112)):=(qa _ _).alloc nR _;have I:=hI (fun (k:Nat) (v:Value) (M:(#[.int .i64 op,.int .i64 cmp,.int .i64 E.kind,.int .i64 E.index,.int .i64 E.value.k,.int .i64 E.value.i,.string E.value.t,.int .i64 r.kind,.int .i64 r.index,.int .i64 r.value.k,.int .i64 r.value.i,.string r.value.t,.slice z args c]:Array Value)[k]?=some v)=>(Zm (w:=w) (cs:=#[.int .i64 op,.int .i64 cmp,.int .i64 E.kind,.int .i64 E.index,.int .i64 E.value.k,.int .i64 E.value.i,.string E.value.t,.int .i64 r.kind,.int .i64 r.index,.int .i64 r.value.k,.int .i64 r.value.i,.string r.value.t,.slice z args c]) (g:=112) (k:=k) rfl M:yr (w.alloc (.cells #[.int .i64 op,.int .i64 cmp,.int .i64 E.kind,.int .i64 E.index,.int .i64 E.value.k,.int .i64 E.value.i,.string E.value.t,.int .i64 r.kind,.int .i64 r.index,.int .i64 r.value.k,.int .i64 r.value.i,.string r.value.t,.slice z args c] 112)) w k v));have aj:=rnodes_any (SizeOf.sizeOf (Pred.mk op cmp E r args)) op cmp E r args z c 0 S _ nR (aa.keep (qS W N)) (fun x ab=>by have:=N x ab;simp;omega) ya ya;have am:=fun w2 (O:Below w w w2)=>rdeep_any (SizeOf.sizeOf (Pred.mk op cmp E r args)) op cmp E r args z c 8 S w2 nR (aa.keep (qS O N)) (fun x ab=>ym (N x ab) O.size) ya ya;have af:=fun w2 (O:Below w w w2)=>rvalid_p A B Z cb l p (SizeOf.sizeOf (Pred.mk op cmp E r args)) op cmp E r args z c S w2 nR (ai.keep (qS O N)) (an.keep (qS O N)) (aa.keep (qS O N)) (fun x ab=>ym (N x ab) O.size) aQ bg;obtain⟨U,ay⟩:=yp (Pred.mk op cmp E r args);rw [ay] at aj am af ⊢;clear ay;replace aj:=hI aj;replace am:=hI am;replace af:=hI af;have aq:=hI W;have ap:=hI (ai.keep (qS W N));have aF:=hI (an.keep (qS W N));clear W;rw [<-rpcFF_eq];cases M:ZG l with
 | false =>
  have L:=hI (show Zek l p U=1 by unfold Zek;rw [qr (.inl M)]);replace M:=hI M;go_enter func95,ntmps95
  go_wp2_with fail
  refine(Zaj ap).mono ?_;rintro e ae ⟨rfl,rfl⟩;rw [M]
  go_wp2
  go_ret;exact⟨by rw [L];rfl,aq⟩
 | true =>
  have aw:=hI M;cases R:ZG p with
  | false =>
   have L:=hI (show Zek l p U=1 by unfold Zek;rw [qr (.inr R)]);replace R:=hI R;clear M;go_enter func95,ntmps95
   go_wp2_with fail
   refine(Zaj ap).mono ?_;rintro e ae ⟨rfl,rfl⟩;rw [aw]
   go_wp2_with fail
   refine(Zaj aF).mono ?_;rintro e ae ⟨rfl,rfl⟩;rw [R]
   go_wp2
   go_ret;exact⟨by rw [L];rfl,aq⟩
  | true =>
   have bh:=hI R;have ah:=hI (show Zek l p U=if 24<nodesP U 0\/deepP U 8=true then 2 else if predOk l p U=false then 50 else 0 by unfold Zek;rw [qo (by simp [M,R])]);clear M R;go_enter func95,ntmps95
   go_wp2_with fail
   refine(Zaj ap).mono ?_;rintro e ae ⟨rfl,rfl⟩;rw [aw]
   go_wp2_with fail
   refine(Zaj aF).mono ?_;rintro e ae ⟨rfl,rfl⟩;rw [bh]
   go_wp2_with fail
   refine aj.mono ?_;rintro e w2 ⟨rfl,F⟩;have ar:=hI (aq.trans (F.mono yb));have aJ:=(F.cell (p:=⟨w,0,none⟩) yb).trans (I 0 _ rfl);have az:=(F.cell (p:=⟨w,1,none⟩) yb).trans (I 1 _ rfl);have aP:=(F.cell (p:=⟨w,2,none⟩) yb).trans (I 2 _ rfl);have aA:=(F.cell (p:=⟨w,3,none⟩) yb).trans (I 3 _ rfl);have aI:=(F.cell (p:=⟨w,4,none⟩) yb).trans (I 4 _ rfl);have aD:=(F.cell (p:=⟨w,5,none⟩) yb).trans (I 5 _ rfl);have aE:=(F.cell (p:=⟨w,6,none⟩) yb).trans (I 6 _ rfl);have av:=(F.cell (p:=⟨w,7,none⟩) yb).trans (I 7 _ rfl);have aC:=(F.cell (p:=⟨w,8,none⟩) yb).trans (I 8 _ rfl);have aH:=(F.cell (p:=⟨w,9,none⟩) yb).trans (I 9 _ rfl);have ax:=(F.cell (p:=⟨w,10,none⟩) yb).trans (I 10 _ rfl);have aO:=(F.cell (p:=⟨w,11,none⟩) yb).trans (I 11 _ rfl);have aG:=(F.cell (p:=⟨w,12,none⟩) yb).trans (I 12 _ rfl);have K:w.heap.size<w2:=(by have:=F.size;simp at this;omega);clear F;obtain⟨aB,aM⟩:=yp (nodesP U 0);rw [aM] at ah ⊢;clear aM
   by_cases au:24<aB
   .have L:=hI (show Zek l p U=2 by rw [ah,qr (.inl au)])
    go_wp2
    go_ret;exact⟨by rw [L];rfl,ar⟩
   have:decide (24<aB)=false:=qe au;have aY:=hI au
   go_wp2_with fail
   refine(am _ ar).mono ?_;rintro e aT ⟨rfl,H⟩;have ao:=hI (ar.trans (H.mono ya));have be:=c9Q H K aJ;have aX:=c9Q H K az;have aV:=c9Q H K aP;have bc:=c9Q H K aA;have aW:=c9Q H K aI;have aU:=c9Q H K aD;have ba:=c9Q H K aE;have aS:=c9Q H K av;have bf:=c9Q H K aC;have aZ:=c9Q H K aH;have aR:=c9Q H K ax;have bi:=c9Q H K aO;have bb:=c9Q H K aG;have:w.heap.size<aT:=(yl H.size);clear H aJ az aP aA aI aD aE av aC aH ax aO aG;cases ac:deepP U 8 with
   | true =>
    have L:=hI (show Zek l p U=2 by rw [ah,qr (.inr ac)]);clear ac
    go_wp2
    go_ret;exact⟨by rw [L];rfl,ao⟩
   | false =>
    have aN:=hI (show Zek l p U=if predOk l p U=false then 50 else 0 by rw [ah,qo (by rw [ac];simp;have:=aY.out;omega)]);clear ac
    go_wp2_with fail
    refine(af _ ao).mono ?_;rintro e bj ⟨rfl,aL⟩;have aK:=hI (ao.trans (aL.mono ya));clear aL be aX aV bc aW aU ba aS bf aZ aR bi bb;cases ak:predOk l p U with
    | false =>
     have L:=hI (show Zek l p U=50 by rw [aN,qr ak]);clear ak
     go_wp2
     go_ret;exact⟨by rw [L];rfl,aK⟩
    | true =>
     have L:=hI (show Zek l p U=0 by rw [aN,qo (by simp [ak])]);clear ak
     go_wp2
     go_ret;exact⟨by rw [L];rfl,aK⟩
theorem ZiU (g:Nat) (z B:Option Addr) (E cb:Nat) (cols params:List Int) (H:cols.length<=100000) (F:params.length<=100000) (I:0<cols.length) (K:ZG cols=true):∀ (d:Nat),d<=1000->∀ (S:Nat->Prop) (w:World),IntS w S z cols->IntS w S B params->(∀ b,S b->b<w/\b≠g)->CaseOk w g ->
 Calls prog 94 #[.pointer (some ⟨g,0,none⟩),.slice z cols E,.slice B params cb,.int .i64 (d:Int)] w (Zei cols params d w g)
 | 0=>fun _=>tree_zero g z B E cb cols params H F I K
 | d+1=>fun hd S w N L O M=>by
  have h:=tree_succ H F I K ya (ZiU g z B E cb cols params H F I K d ya) S w N L O M;rw [show ((d+1:Nat):Int)=(d:Int)+1 by push_cast;rfl];exact h
theorem ND_le (h:n<=2):ND n<=24:=by
 have:n=0\/n=1\/n=2:=ya;rcases this with rfl | rfl | rfl<;>decide
theorem predicate_any (aZ:l.length<=100000) (aW:p.length<=100000) (aQ:0<l.length) (ay:ZG l=true) (bg:ZG p=true) (hd:i<=2) (ax:IntS w S A l) (av:IntS w S B p) (af:∀ b,S b->b<w/\b≠n) (ap:CaseOk w n) :
 Calls prog 42 #[.pointer (some ⟨n,0,none⟩),.slice A l k,.slice B p m,.int .i64 (i:Int)] w (Zei l p i w n):=by
 have E:=ap.lt;have aU:=hI ax;have bi:=hI av;have ak:=hI af;have aK:=hI (ap.keep (w':=w.alloc zP) (fun b z=>qd _ _ _ ya));have:(w.alloc zP).heap.size=w.heap.size+1:=yb;have bb:=hI (qY w zP (some n));have aG:=hI (qb w zP);have ba:=hI (ZiU n A B k m l p aZ aW aQ ay i ya S (w.alloc zP) (ax.keep (fun b z=>qd _ _ _ (af b z).1)) (av.keep (fun b z=>qd _ _ _ (af b z).1)) (fun b z=>⟨yl ((af b z).1),(af b z).2⟩) aK);clear ax av ap af;go_enter func42,ntmps42
 go_wp2_with fail
 refine ba.mono ?_;rintro e F ⟨L,ac,⟨Z,O,⟨R,N,K⟩⟩,⟨ab,U,⟨W,aa,H⟩⟩,args,I,M,rfl,ao,aB,au,ai,ah,aF,am⟩;simp only at ai ah;have bq:=hI ao;have aV:=hI (ao.ok (ND_le hd) ya ay bg);replace au:=hI au;replace ai:=hI ai;replace ah:=hI ah;have bp:=hI (bb.trans am);have aT:=hI ((am.block w ya yj).trans aG);have aY:w.heap.size<F:=(yl am.size);have aE:PredS F (fun b=>w<b/\b<F) I args:=aB.more (fun b z=>⟨yl z.1,z.2⟩);have aC:=hI (aE.keep (w':=(F.alloc (.cells #[.int .i64 L,.int .i64 ac,.int .i64 Z,.int .i64 O,.int .i64 R,.int .i64 N,.string K,.int .i64 ab,.int .i64 U,.int .i64 W,.int .i64 aa,.string H,.slice I args M] 112))) (fun b z=>qd _ _ _ z.2));have bj:=hI (aF.keep (w':=(F.alloc (.cells #[.int .i64 L,.int .i64 ac,.int .i64 Z,.int .i64 O,.int .i64 R,.int .i64 N,.string K,.int .i64 ab,.int .i64 U,.int .i64 W,.int .i64 aa,.string H,.slice I args M] 112))) (fun b z=>qd _ _ _ ya));have bk:=hI ((qd F (.cells #[.int .i64 L,.int .i64 ac,.int .i64 Z,.int .i64 O,.int .i64 R,.int .i64 N,.string K,.int .i64 ab,.int .i64 U,.int .i64 W,.int .i64 aa,.string H,.slice I args M] 112) _ aY).trans aT);have aw:=hI (bp.trans (qY F (.cells #[.int .i64 L,.int .i64 ac,.int .i64 Z,.int .i64 O,.int .i64 R,.int .i64 N,.string K,.int .i64 ab,.int .i64 U,.int .i64 W,.int .i64 aa,.string H,.slice I args M] 112) (some n)));have br:=hI (qb F (.cells #[.int .i64 L,.int .i64 ac,.int .i64 Z,.int .i64 O,.int .i64 R,.int .i64 N,.string K,.int .i64 ab,.int .i64 U,.int .i64 W,.int .i64 aa,.string H,.slice I args M] 112));clear ao aB aF am aE
 go_wp2_with fail
 have aq:=Zfy k m L ac ⟨Z,O,⟨R,N,K⟩⟩ ⟨ab,U,⟨W,aa,H⟩⟩ args I M ((aU.keep ((Zcc aw).same ak)).more (fun b z=>yl ((ak b z).1))) ((bi.keep ((Zcc aw).same ak)).more (fun b z=>yl ((ak b z).1))) (aC.more (fun b z=>z.2)) (fun b z=>yd) (by have:=ai.out;show K.size<=_;omega) (by have:=ah.out;show H.size<=_;omega);rw [aV] at aq;refine(show Calls _ _ _ _ _ from aq).mono ?_;rintro e aj ⟨rfl,ae⟩;clear aq;have aI:=ae.size;have:F.heap.size<aj:=(by simp at aI;omega);have aO:=hI ((aC.keep (w':=aj) (fun b z=>ae.block b (by have:=z.2;simp;omega))).more (S':=fun b=>w<b/\b<aj) (fun b z=>⟨z.1,yl z.2⟩));have aR:=hI (bj.keep (w':=aj) (fun b z=>ae.block b yd));have aD:=hI ((ae.block w yd).trans bk);have aP:=hI ((ae.block F yb).trans br);have bm:=hI (aw.trans (qW (X:=fun b=>b=n) ae).grown);clear ae;have az:=aP.out;have aA:=aD.out;obtain⟨b4,b8,bR,f1,cn,bK,bC,f3,ck,bL,ce,b2,cf,bT,bX,bz,bE,b7,b3,bW,bw,b9,bN,bI,bH,bF⟩:=ZY az;obtain⟨bJ,b6,bY,cc,ca,b5,bU,bD,bB,cg,bQ,bZ,ch,bS,bP,bO,bV,bM,b1,bt,bu,b0,cm,ci,cj,bG⟩:=ZY aA;clear az aA
 go_wp2_with fail
 have bo:=Ziw (a0:=.int .i64 L) (a1:=.int .i64 ac) (a2:=.int .i64 Z) (a3:=.int .i64 O) (a4:=.int .i64 R) (a5:=.int .i64 N) (a6:=.string K) (a7:=.int .i64 ab) (a8:=.int .i64 U) (a9:=.int .i64 W) (a10:=.int .i64 aa) (a11:=.string H) (a12:=.slice I args M) aD;obtain⟨bh,-,aH,-,bf,-,aX,-,aS,-,bl,-,aJ,-,aN,-,bc,-,bn,-,aM,-,be,-,aL,-⟩:=ZY bo;exact qw (v:=.agg #[.int .i64 L,.int .i64 ac,.int .i64 Z,.int .i64 O,.int .i64 R,.int .i64 N,.string K,.int .i64 ab,.int .i64 U,.int .i64 W,.int .i64 aa,.string H,.slice I args M]) (by simp [results,results42,go_sem,bh,aH,bf,aX,aS,bl,aJ,aN,bc,bn,aM,be,aL]) rfl ⟨L,ac,⟨Z,O,⟨R,N,K⟩⟩,⟨ab,U,⟨W,aa,H⟩⟩,args,I,M,rfl,bq,(qZ (qU aO (fun b z=>by have cd:=z.1;refine(qc _ ⟨w,_,none⟩ _ b (by show b≠w.heap.size;omega)).trans ?_;refine(qc _ ⟨w,_,none⟩ _ b (by show b≠w.heap.size;omega)).trans ?_;refine(qc _ ⟨w,_,none⟩ _ b (by show b≠w.heap.size;omega)).trans ?_;refine(qc _ ⟨w,_,none⟩ _ b (by show b≠w.heap.size;omega)).trans ?_;refine(qc _ ⟨w,_,none⟩ _ b (by show b≠w.heap.size;omega)).trans ?_;refine(qc _ ⟨w,_,none⟩ _ b (by show b≠w.heap.size;omega)).trans ?_;refine(qc _ ⟨w,_,none⟩ _ b (by show b≠w.heap.size;omega)).trans ?_;refine(qc _ ⟨w,_,none⟩ _ b (by show b≠w.heap.size;omega)).trans ?_;refine(qc _ ⟨w,_,none⟩ _ b (by show b≠w.heap.size;omega)).trans ?_;refine(qc _ ⟨w,_,none⟩ _ b (by show b≠w.heap.size;omega)).trans ?_;refine(qc _ ⟨w,_,none⟩ _ b (by show b≠w.heap.size;omega)).trans ?_;refine(qc _ ⟨w,_,none⟩ _ b (by show b≠w.heap.size;omega)).trans ?_;refine(qc _ ⟨w,_,none⟩ _ b (by show b≠w.heap.size;omega)).trans ?_;rfl)) (fun b z=>⟨z.1,by have:=z.2;simp;omega⟩)),au,ai,ah,Zf (Zf (Zf (Zf (Zf (Zf (Zf (Zf (Zf (Zf (Zf (Zf (Zf (aR) E) E) E) E) E) E) E) E) E) E) E) E) E,Zg (Zg (Zg (Zg (Zg (Zg (Zg (Zg (Zg (Zg (Zg (Zg (Zg (bm) nR) nR) nR) nR) nR) nR) nR) nR) nR) nR) nR) nR) nR⟩
def SchPost (w:World) (g:Nat) (e:Ending) (w':World):Prop:=∃ (s:Sch) (A:Option Addr) (c:Nat),e=.returned (sAgg s.vv A s.tt c)/\GenS s/\s.tt.length<=c/\TabS w' (fun b=>w<b/\b<w') A s.tt/\CaseOk w' g/\w.grownBy w' (some g)
theorem kinds_gen {H F E:List Rfr} (L:2<=n) (M:n<=4):Zav (⟨a,(ZS t H F E Z).take n⟩:Sch) 1=[t,4,5,3]:=by
 have I:n=2\/n=3\/n=4:=ya;rcases I with rfl | rfl | rfl<;>rfl
theorem schema_any (aX:CaseOk w n):Calls prog 10 #[.pointer (some ⟨n,0,none⟩)] w (SchPost w n):=by
 have aq:=aX.lt;have bt:=hI (aX.keep (w':=w.alloc (.cells #[.int .i64 0,.slice none 0 0] 25)) (fun b H=>qd _ _ _ ya));have:(w.alloc (.cells #[.int .i64 0,.slice none 0 0] 25)).heap.size=w.heap.size+1:=yb;have bD:=hI (qY w (.cells #[.int .i64 0,.slice none 0 0] 25) (some n));have bo:=hI (qb w (.cells #[.int .i64 0,.slice none 0 0] 25));clear aX;go_enter func10,ntmps10
 go_wp2_with fail
 refine(Zal (n:=n) (a:=3) ya bt).mono ?_;rintro e bW ⟨r,rfl,b9,bG,-,ab,ao,bk⟩;have cc:=bG ya;obtain⟨g,cd⟩:∃ g:Nat,2+r=g:=⟨(2+r).toNat,ya⟩;have bI:2<=g:=ya;have aR:g<=4:=ya;replace ab:=hI ab;have ar:=hI (bD.trans ao);have av:=hI ((ao.block w ya yj).trans bo);have b1:bW.heap.size=w.heap.size+1:=ya;clear ao bk bG bt bD bo
 go_wp2_with fail
 refine(Zap (n:=n) (a:=5) ya ya ab).mono ?_;rintro e w2 ⟨bS,rfl,ab,N,am⟩;replace ab:=hI ab;have av:=hI ((N.block w ya yj).trans av);have ar:=hI (ar.trans N);have bR:w2.heap.size=w.heap.size+1:=ya;clear N am;go_upto_if 10 with fail
 go_cut [4] (fun v O=>∃ I:Int,v=.int .i64 I/\(I=4\/I=5)/\O=w2)
 case first =>
  cases bS
  .go_wp2
   go_meet;exact⟨4,rfl,.inl rfl,rfl⟩
  go_wp2
  go_meet;exact⟨5,rfl,.inr rfl,rfl⟩
 obtain⟨I,rfl,aP,rfl⟩:=hcut;replace aP:=hI aP
 go_wp2_with fail
 refine(Zal (n:=n) (a:=3) ya ab).mono ?_;rintro e Z ⟨v,rfl,b3,br,-,ab,ao,bk⟩;have b8:=br ya;replace ab:=hI ab;have av:=hI ((ao.block w ya yj).trans av);have ar:=hI (ar.trans ao);have bX:=hI (show Z.heap.size=w.heap.size+1 by omega);clear ao bk br b1 bR
 go_wp2_with (go_at_call 41;refine(column_any).mono ?_;rintro e w' ⟨rfl,rfl⟩)
 change Calls prog _ _ ((Zku v I g Z).foldl World.alloc Z) _;obtain⟨O,bl⟩:=yp ((Zku v I g Z).foldl World.alloc Z);obtain⟨z,bT⟩:=schI_start bX aq bl ab ar av;rw [bl];replace z:=hI z;clear bl ab ar av bT;refine(Zap (n:=n) (a:=2) ya ya z.case).mono ?_;rintro e ae ⟨L,rfl,af,N,am⟩;have z:=hI (z.keep N af);clear af N am;go_upto_if 40 with fail
 go_cut [5] (fun p O=>∃ E aH,p=.pointer (some ⟨E+1,0,none⟩)/\SchI w O n E g v I aH false false [])
 case first =>
  cases L
  .go_wp2
   go_meet;exact⟨Z.heap.size+13,false,rfl,z⟩
  obtain⟨⟨bu,bE⟩,bw⟩:=z.cell (k:=8) ya;have au:yr ae (Z.heap.size+1+1+1+1+1+1+1+1+1+1+1+1+1+1) 1 (.slice (some ⟨Z+13,0,none⟩) g 4):=Za z.sb 1 _ rfl;have bF:Z.heap.size+13<ae:=(by obtain⟨_,q,_⟩:=z.tb;exact Zb q);have ak:Z.heap.size+1+1+1+1+1+1+1+1+1+1+1+1+1+1<ae:=Zb z.sb;have bJ:Z.heap.size+13<ae+1:=ya;have ap:w.heap.size<ae:=by have:=z.lo;omega
  go_wp2
  go_meet;have H:Below ae ae ((ae.alloc (.cells #[.int .i64 1] 3)).alloc (.cells #[.slice (some ⟨ae,0,none⟩) 1 1,.int .i64 0] 106)):=((qa _ _).alloc nR _).alloc yb _;have aa:=(z.below H).ref1 nR (Ziu ap ak aq);rw [World.setCell_alloc_past _ _ _ _ yd,World.setCell_alloc_past _ _ _ _ ya] at aa;exact⟨Z.heap.size+13,true,rfl,aa⟩
 case rest =>
 obtain⟨E,M,rfl,z⟩:=hcut;replace z:=hI z;obtain⟨F,U⟩:=yp wc;rw [U] at z ⊢;clear U;go_upto_region 9 with fail
 go_cut [5,53] (fun p b O=>∃ L,p=.pointer (some ⟨E+1,0,none⟩)/\b=.bool L/\(L=true->2<g)/\SchI w O n E g v I M false false [])
 case first =>
  by_cases aw:2<g
  .have bg:((2:Nat):Int)<(g:Int):=by omega
   go_wp2_with fail
   refine(Zap (n:=n) (a:=3) ya ya z.case).mono ?_;rintro e ae ⟨L,rfl,af,N,am⟩;have z:=hI (z.keep N af);clear af N am
   go_wp2
   go_meet;exact⟨L,rfl,rfl,fun _=>aw,z⟩
  have bg:decide ((2:Int)<(g:Int))=false:=qe ya
  go_wp2
  go_meet;exact⟨false,rfl,rfl,(fun h=>by cases h),z⟩
 case rest =>
 obtain⟨L,rfl,rfl,bj,z⟩:=hcut;replace bj:=hI bj;replace z:=hI z;obtain⟨F,U⟩:=yp wc;rw [U] at z ⊢;clear U;go_upto_if 53 with fail
 go_cut [5] (fun p O=>∃ aH,p=.pointer (some ⟨E+1,0,none⟩)/\SchI w O n E g v I M aH false [])
 case first =>
  cases L
  .go_wp2
   go_meet;exact⟨false,rfl,z⟩
  have aw:=bj rfl;obtain⟨⟨bu,bE⟩,bw⟩:=z.cell (k:=13) ya;have au:yr F (E+1) 1 (.slice (some ⟨E,0,none⟩) g 4):=Za z.sb 1 _ rfl;have bF:E<F:=(by obtain⟨_,q,_⟩:=z.tb;exact Zb q);have ak:E+1<F:=Zb z.sb;have bJ:E<F+1:=ya;have ap:w.heap.size<F:=by have:=z.lo;omega
  go_wp2
  go_meet;have H:Below F F ((F.alloc (.cells #[.int .i64 0] 3)).alloc (.cells #[.slice (some ⟨F,0,none⟩) 1 1,.int .i64 0] 106)):=((qa _ _).alloc nR _).alloc yb _;have aa:=(z.below H).ref2 nR (Ziu ap ak aq);rw [World.setCell_alloc_past _ _ _ _ yd,World.setCell_alloc_past _ _ _ _ ya] at aa;exact⟨true,rfl,aa⟩
 case rest =>
 obtain⟨W,rfl,z⟩:=hcut;replace z:=hI z;obtain⟨F,U⟩:=yp wc;rw [U] at z ⊢;clear U;go_upto_region 11 with fail
 go_cut [5,66] (fun p b O=>∃ L,p=.pointer (some ⟨E+1,0,none⟩)/\b=.bool L/\(L=true->3<g)/\SchI w O n E g v I M W false [])
 case first =>
  by_cases aw:3<g
  .have bg:((3:Nat):Int)<(g:Int):=by omega
   go_wp2_with fail
   refine(Zap (n:=n) (a:=3) ya ya z.case).mono ?_;rintro e ae ⟨L,rfl,af,N,am⟩;have z:=hI (z.keep N af);clear af N am
   go_wp2
   go_meet;exact⟨L,rfl,rfl,fun _=>aw,z⟩
  have bg:decide ((3:Int)<(g:Int))=false:=qe ya
  go_wp2
  go_meet;exact⟨false,rfl,rfl,(fun h=>by cases h),z⟩
 case rest =>
 obtain⟨L,rfl,rfl,bn,z⟩:=hcut;replace bn:=hI bn;replace z:=hI z;obtain⟨F,U⟩:=yp wc;rw [U] at z ⊢;clear U;go_upto_if 66 with fail
 go_cut [5] (fun p O=>∃ aH,p=.pointer (some ⟨E+1,0,none⟩)/\SchI w O n E g v I M W aH [])
 case first =>
  cases L
  .go_wp2
   go_meet;exact⟨false,rfl,z⟩
  have aw:=bn rfl;obtain⟨⟨bu,bE⟩,bw⟩:=z.cell (k:=18) ya;have au:yr F (E+1) 1 (.slice (some ⟨E,0,none⟩) g 4):=Za z.sb 1 _ rfl;have bF:E<F:=(by obtain⟨_,q,_⟩:=z.tb;exact Zb q);have ak:E+1<F:=Zb z.sb;have bJ:E<F+1:=ya;have ap:w.heap.size<F:=by have:=z.lo;omega
  go_wp2
  go_meet;have H:Below F F ((F.alloc (.cells #[.int .i64 0] 3)).alloc (.cells #[.slice (some ⟨F,0,none⟩) 1 1,.int .i64 1] 106)):=((qa _ _).alloc nR _).alloc yb _;have aa:=(z.below H).ref3 nR (Ziu ap ak aq);rw [World.setCell_alloc_past _ _ _ _ yd,World.setCell_alloc_past _ _ _ _ ya] at aa;exact⟨true,rfl,aa⟩
 case rest =>
 obtain⟨ac,rfl,z⟩:=hcut;replace z:=hI z;obtain⟨F,U⟩:=yp wc;rw [U] at z ⊢;clear U
 go_wp2_with fail
 refine(Zap (n:=n) (a:=3) ya ya z.case).mono ?_;rintro e F ⟨L,rfl,af,N,am⟩;have z:=hI (z.keep N af);clear af N am;go_upto_if 75 with fail
 go_cut [5] (fun p O=>∃ an,p=.pointer (some ⟨E+1,0,none⟩)/\SchI w O n E g v I M W ac an/\an.length<=1/\∀ p ∈ an,GenP [I,4,5,3] [] 4 2 p)
 case first =>
  cases L
  .go_wp2
   go_meet;exact⟨[],rfl,z,yb,fun p aU=>by simp at aU⟩
  have aY:yr F (E+1) 0 (.int .i64 v):=Za z.sb 0 _ rfl;have au:yr F (E+1) 1 (.slice (some ⟨E,0,none⟩) g 4):=Za z.sb 1 _ rfl;have ak:E+1<F:=Zb z.sb;have:(1:Int)<(g:Int):=ya;have ap:=z.lo;have:n<F:=ya;have aM:(Sch.tt ⟨v,(ZS I (rf0 M 1 0) (rf0 W 0 0) (rf0 ac 0 1) []).take g⟩).length=g:=(by show (List.take g _).length=g;rw [qG];have:(ZS I (rf0 M 1 0) (rf0 W 0 0) (rf0 ac 0 1) []).length=4:=rfl;omega);have aQ:=hI (show Zav (⟨v,(ZS I (rf0 M 1 0) (rf0 W 0 0) (rf0 ac 0 1) []).take g⟩:Sch) 1=[I,4,5,3] from kinds_gen bI aR);have aS:=Zel (some ⟨E,0,none⟩) 4 ⟨v,(ZS I (rf0 M 1 0) (rf0 W 0 0) (rf0 ac 0 1) []).take g⟩ 1 (fun b=>b<F) (w:=F.drew) (((z.tabS aR).more (fun b H=>H.2.1)).keep (fun _ _=>rfl)) (fun b H=>H);rw [aM] at aS;replace aS:=hI aS;clear aM
  go_wp2
  refine uS (fun w'=>w'.cell? ⟨E+1,0,none⟩=some (.int .i64 v)/\w'.cell? ⟨E+1,1,none⟩=some (.slice (some ⟨E,0,none⟩) g 4)) 9 10 fun Q' bp bL=>?_;refine uR [0,4] bL ⟨aY,au⟩ ?_;refine uQ 4 fun ah K=>?_;have R:=hI K;clear K;go_simp;refine(show Calls _ _ _ _ _ from aS).mono ?_;rintro e aZ ⟨b2,bU,rfl,bi,bQ,bY,bK⟩;have az:Below F F aZ:=(qa _ F).drew.trans bK;have bq:=hI (z.below az);replace bi:=hI bi;have ca:=az.size;have bZ:=c9Q az ak aY;have bV:=c9Q az ak au;clear bK az bQ bY;refine R _ _ (fun _=>⟨bZ,bV⟩) ?_;clear R ah
  try simp only [Act.put,psA,psB,psC]
  refine uQ 5 fun ah K=>?_;have R:=hI K;clear K;go_simp;refine(show Calls _ _ _ _ _ from predicate_any (n:=n) (A:=b2) (B:=none) (k:=bU) (m:=0) (l:=Zav (⟨v,(ZS I (rf0 M 1 0) (rf0 W 0 0) (rf0 ac 0 1) []).take g⟩:Sch) 1) (p:=[]) (by rw [aQ];simp) yb (by rw [aQ];simp) (by rw [aQ];rcases aP.out with rfl | rfl<;>rfl) rfl (i:=1) ya (S:=fun b=>F<=b/\b<aZ) (w:=aZ) (bi.more (fun b H=>H)) Qk (fun b H=>⟨H.2,yl H.1⟩) bq.case).mono ?_;rintro e ai ⟨ay,aK,⟨aG,aB,⟨aC,aA,aD⟩⟩,⟨aJ,aE,⟨aF,aI,ax⟩⟩,args,bc,ba,rfl,aL,be,bf,aO,aN,bH,bh⟩;simp only at aO aN;rw [aQ] at aL;replace aL:=hI aL;replace be:=hI be;replace bf:=hI bf;replace aO:=hI aO;replace aN:=hI aN;have aT:=hI (bq.keep bh bH);have b6:=bh.size;have bz:yr ai (E+1) 0 (.int .i64 v):=Za aT.sb 0 _ rfl;have bC:yr ai (E+1) 1 (.slice (some ⟨E,0,none⟩) g 4):=Za aT.sb 1 _ rfl;clear bH bh;refine R _ _ (fun _=>⟨bz,bC⟩) ?_;clear R ah
  try simp only [Act.put,psA,psB,psC]
  refine uQ 6 fun ah K=>?_;have R:=hI K;clear K;go_simp;have aW:(ai.alloc (.cells #[.int .i64 ay,.int .i64 aK,.int .i64 aG,.int .i64 aB,.int .i64 aC,.int .i64 aA,.string aD,.int .i64 aJ,.int .i64 aE,.int .i64 aF,.int .i64 aI,.string ax,.slice bc args ba] 112)).cell? ⟨E+1,0,none⟩=_:=(Zh ya).trans bz;have bm:(ai.alloc (.cells #[.int .i64 ay,.int .i64 aK,.int .i64 aG,.int .i64 aB,.int .i64 aC,.int .i64 aA,.string aD,.int .i64 aJ,.int .i64 aE,.int .i64 aF,.int .i64 aI,.string ax,.slice bc args ba] 112)).cell? ⟨E+1,1,none⟩=_:=(Zh ya).trans bC;refine R _ _ (fun _=>⟨aW,bm⟩) ?_;clear R ah
  try simp only [Act.put,psA,psB,psC]
  refine uQ 7 fun ah K=>?_;have R:=hI K;clear K;go_simp;refine R _ _ (fun _=>⟨aW,bm⟩) ?_;clear R ah
  try simp only [Act.put,psA,psB,psC]
  refine uQ 8 fun ah K=>?_;have R:=hI K;clear K;go_simp;refine R _ _ (fun _=>⟨aW,bm⟩) ?_;clear R ah
  try simp only [Act.put,psA,psB,psC]
  obtain⟨⟨b5,b7⟩,b4⟩:=aT.cell (k:=9) ya;have:E<ai:=ya;refine uQ 9 fun ah K=>?_;replace K:=hI K;go_simp;refine K _ _ nD ?_;clear K ah;refine uE bp ?_;clear bp bL Q';have bP:=hI (show SchI w ((ai.alloc (.cells #[.int .i64 ay,.int .i64 aK,.int .i64 aG,.int .i64 aB,.int .i64 aC,.int .i64 aA,.string aD,.int .i64 aJ,.int .i64 aE,.int .i64 aF,.int .i64 aI,.string ax,.slice bc args ba] 112)).setCell ⟨E,9,none⟩ (.slice (some ⟨ai,0,none⟩) 1 1)) n E g v I M W ac [(.mk ay aK ⟨aG,aB,⟨aC,aA,aD⟩⟩ ⟨aJ,aE,⟨aF,aI,ax⟩⟩ args)] from (aT.below ((qa _ ai).alloc nR _)).chk1 nR (Qb (by rw [Ze (n:=136) ZL];simp) (Zw (ZdJ bf (yl aO.out) (yl aN.out) ((be.keep (fun b H=>qd _ _ _ H.2)).more (fun b H=>⟨yl H.1,by have:=H.2;simp;omega,yl H.1,yl H.1,yl H.1⟩)))) (fun _=>⟨ai.heap.size,0,rfl,⟨ya,yb,ya,ya,ya⟩,Za (qb ai _)⟩)))
  go_wp2
  go_meet;have aa:=bP.out;refine⟨[(.mk ay aK ⟨aG,aB,⟨aC,aA,aD⟩⟩ ⟨aJ,aE,⟨aF,aI,ax⟩⟩ args)],rfl,?_,yb,fun p aU=>by rw [qy] at aU;rw [aU];exact aL⟩
  first | exact aa | (rw [World.setCell_alloc_past _ _ _ _ ya] at aa;exact aa)
 case rest =>
 obtain⟨an,rfl,aj,bb,aV⟩:=hcut;have z:=hI aj;replace bb:=hI bb;replace aV:=hI aV;have aY:yr wc (E+1) 0 (.int .i64 v):=Za aj.sb 0 _ rfl;have au:yr wc (E+1) 1 (.slice (some ⟨E,0,none⟩) g 4):=Za aj.sb 1 _ rfl;have:yr wc w 0 (.int .i64 0):=Za aj.rb 0 _ rfl;have:yr wc w 1 (.slice none 0 0):=Za aj.rb 1 _ rfl;have:wc.frozen? ⟨w,0,none⟩=false:=(by simp [World.frozen?,aj.rb]);have:wc.frozen? ⟨w,1,none⟩=false:=(by simp [World.frozen?,aj.rb]);have ak:E+1<wc:=Zb aj.sb;clear aj
 go_wp2_with fail
 have bO:wc.heap[w.heap.size]?=some (.cells [.int .i64 0,.slice none 0 0].toArray 25 (0,0)):=z.rb;have bB:=Zc (k:=1) (v:=.slice (some ⟨E,0,none⟩) g 4) (Zc (k:=0) (v:=.int .i64 v) bO);have b0:=Za (cs:=#[.int .i64 v,.slice (some ⟨E,0,none⟩) g 4]) bB 0 _ rfl;have bN:=Za (cs:=#[.int .i64 v,.slice (some ⟨E,0,none⟩) g 4]) bB 1 _ rfl;have aM:((ZS I (rf0 M 1 0) (rf0 W 0 0) (rf0 ac 0 1) an).take g).length=g:=(by rw [qG];have:(ZS I (rf0 M 1 0) (rf0 W 0 0) (rf0 ac 0 1) an).length=4:=rfl;omega);have bM:=(z.tabS aR).keep (w':=(wc.setCell ⟨w,0,none⟩ (.int .i64 v)).setCell ⟨w,1,none⟩ (.slice (some ⟨E,0,none⟩) g 4)) (fun b H=>(qc _ ⟨w,1,none⟩ _ b (by have:=H.1;show b≠w.heap.size;omega)).trans (qc _ ⟨w,0,none⟩ _ b (by have:=H.1;show b≠w.heap.size;omega)));exact qw (v:=.agg #[.int .i64 v,.slice (some ⟨E,0,none⟩) g 4]) (by simp [results,results10,go_sem,b0,bN]) rfl ⟨⟨v,(ZS I (rf0 M 1 0) (rf0 W 0 0) (rf0 ac 0 1) an).take g⟩,some ⟨E,0,none⟩,4,by show _=Ending.returned (.agg #[.int .i64 v,.slice (some ⟨E,0,none⟩) (List.take g _).length 4]);rw [aM],⟨g,v,I,M,W,ac,an,⟨rfl,bI,aR,b3,ya,aP,bb,aV⟩⟩,by show (List.take g _).length<=4;omega,bM.more (fun b H=>⟨H.1,by have:=H.2.1;simp;omega⟩),Zf (Zf z.case aq) aq,Zg (Zg z.gr nR) nR⟩
section
variable {w W W':World} {g n:Nat}
theorem ZdG (h:Below n w W) (z:W.grownBy W' (some g)) (F:n<=g) (E:n<=W):Below n w W' :=
 h.trans ⟨z.os,z.tape,z.output,z.size,fun b H=>z.block b ya (fun e=>by injection e with e;omega)⟩
theorem Zik:∀ (st:St) (k:Nat),(∀ j,(st.getD j []).length<=k)->Zi st<=st.length*k
 | [],k,_=>by simp [Zi]
 | l :: st,k,h=>by
  have z:=h 0;have E:=Zik st k (fun j=>by have:=h (j+1);simpa using this);have:l.length<=k:=(by simpa using z);simp only [Zi,qK,Nat.succ_mul];omega
end
section
variable {s:Sch} {t:Int}
theorem asc_pw {l:List Row}:Asc s t l↔l.Pairwise (fun x y=>cmpR (keyF s t x) (keyF s t y)<0):=by
 constructor
 .induction l with
  | nil=>intro _;exact List.Pairwise.nil
  | cons r l E =>
   intro h;obtain⟨z,F⟩:=Zhq h;exact List.pairwise_cons.2 ⟨F,E z⟩
 induction l with
 | nil=>intro _ i j _ H;simp at H
 | cons r l E =>
  intro h;obtain⟨z,F⟩:=List.pairwise_cons.1 h;exact asc_cons (E F) z
end
section
variable {s:Sch} {m:Int}
def look (s:Sch) (st:St) (t:Nat) (k:Row):Row:=(findK s t k (st.getD t [])).getD []
theorem StOk.asc {st:St} (h:StOk s m st):∀ k,k<st.length->Asc s ((0+k:Nat):Int) (st.getD k []):=fun k z=>by rw [qx];exact(h.2 k z).2
end
section
variable {s:Sch} {m:Int}
end
theorem ZfO {α:Type} {l:List α} {d:α} (h:n<l):l.getD n d=l[n]:=by simp [List.getD,h]
def TabG (z:Tab):Prop:=1<=z.cols.length/\z.cols.length<=4/\1<=z.key/\z.key<=z.cols/\∀ c ∈ z.cols,c.kind=3\/c.kind=4\/c.kind=5
theorem gen_tabs (F:a=4\/a=5) {L H I:List Rfr} :∀ E ∈ ZS a L H I Z,TabG E:=by
 intro E h;simp only [ZS,Qs,qX,or_false] at h;rcases h with rfl | rfl | rfl | rfl
 .refine⟨yf,yf,yf,yf,fun c z=>?_⟩;simp only [ZfR,Qs,qX,or_false] at z;rcases z with rfl | rfl<;>simp
 .refine⟨by simp [ZcP],by simp [ZcP],yb,by simp [ZcP],fun c z=>?_⟩;simp only [ZcP,Qs,qX,or_false] at z;rcases z with rfl | rfl | rfl | rfl
  .rcases F with h | h<;>simp [h]
  all_goals simp
 .refine⟨by simp [Zds],by simp [Zds],yb,by simp [Zds],fun c z=>?_⟩;simp only [Zds,Qs,qX,or_false] at z;rcases z with rfl | rfl<;>simp
 refine⟨by simp [ZcO],by simp [ZcO],yb,by simp [ZcO],fun c z=>?_⟩;simp only [ZcO,Qs,qX,or_false] at z;rcases z with rfl;rcases F with h | h<;>simp [h]
theorem GenS.len (h:GenS s):2<=s.tt.length/\s.tt.length<=4:=by
 obtain⟨n,v,id,z,F,H,E,rfl,I,K,_⟩:=h;have:(ZS id (rf0 z 1 0) (rf0 F 0 0) (rf0 H 0 1) E).length=4:=rfl;show 2<=(List.take n _).length/\(List.take n _).length<=4;rw [qG];omega
theorem GenS.tab {s:Sch} (h:GenS s) {t:Nat} (z:t<s.tt):TabG (s.tt.getD t t0):=by
 obtain⟨n,v,id,E,H,I,F,rfl,L,M,_,_,K,_⟩:=h;have e:(Sch.tt ⟨v,(ZS id (rf0 E 1 0) (rf0 H 0 0) (rf0 I 0 1) F).take n⟩).getD t t0=(List.take n (ZS id (rf0 E 1 0) (rf0 H 0 0) (rf0 I 0 1) F))[t]'z:=ZfO z;rw [e];exact gen_tabs K _ (List.mem_of_mem_take (qJ z))
theorem GenS.wide (h:GenS s):∀ t,t<s.tt.length->0<(s.tt.getD t t0).cols.length:=fun t z=>(h.tab z).1
theorem GenS.kinds {s:Sch} (h:GenS s) {t:Nat} (z:t<s.tt):Zav s t=(s.tt.getD t t0).cols.map (·.kind)/\(Zav s t).length<=4:=by
 have e:Zav s t=(s.tt.getD t t0).cols.map (·.kind):=by
  unfold Zav hasN;rw [qr yd,qu]
 rw [e,qg];exact⟨rfl,(h.tab z).2.1⟩
theorem ZfW {m key:Int}:∀ {cs:List Col} {r:Row} {i:Nat},r.length=cs.length->(∀ j,j<cs.length->Zcd m key (cs.getD j c0).kind (i+j) (r.getD j v0)=true)->ZI m key i cs r=true
 | [],r,i,_,_=>by cases r<;>simp [ZI]
 | c :: cs,[],i,h,_=>by simp at h
 | c :: cs,v :: r,i,h,z=>by
  have F:=z 0 yb
  have E:=ZfW (m:=m) (key:=key) (cs:=cs) (r:=r) (i:=i+1) (by simpa using h) (fun j H=>by
   have:=z (j+1) (by simpa using H);rw [show i+(j+1)=i+1+j by omega] at this;simpa using this)
  simp only [ZI,qE];exact⟨by simpa using F,E⟩
theorem rowGen_fits (h:GenS s) (K:Zao a=true) (I:n<s.tt) {r:Row} (O:ZjH (s.tt.getD n t0).key a (Zav s n) r):ZB s n r a=true:=by
 obtain⟨E,F⟩:=O;obtain⟨R,_⟩:=h.kinds I;have L:=(h.tab I).2.2.2.2;rw [R] at E F;rw [qg] at E F;unfold ZB hasN;rw [qu];simp only [qE,qT];refine⟨⟨⟨K,ya,ya⟩,E⟩,ZfW E (fun j z=>?_)⟩;have H:=F j z;have M:((s.tt.getD n t0).cols.map (·.kind)).getD j 0=((s.tt.getD n t0).cols.getD j c0).kind:=(by rw [ZfO z,ZfO (by simpa using z),List.getElem_map])
 have U:ZcL ((s.tt.getD n t0).cols.getD j c0).kind=((s.tt.getD n t0).cols.getD j c0).kind:=by
  have N:(s.tt.getD n t0).cols.getD j c0 ∈ (s.tt.getD n t0).cols:=by
   rw [ZfO z];exact qJ z
  rcases L _ N with e | e | e<;>rw [e]<;>rfl
 rw [M,U] at H;rw [qx];exact H
theorem put_ok {st:St} (h:StOk s a st) (F:n<st) {key row:Row} (E:0<row.length->keyF s n row=key) (H:0<row.length->ZB s n row a=true):StOk s a (st.set n (putR s n key row (st.getD n [])))/\putR s n key row (st.getD n [])=putL s n key row (st.getD n []):=by
 have z:=h.2 n F;have e:=putR_eq z.2 key row;rw [e];exact⟨h.set (ZgA z E H),rfl⟩
theorem putL_len (s:Sch) (t:Int) (row:Row) {l:List Row}:(putL s t (keyF s t row) row l).length<=l+1:=by
 have:=Ziv s ⟨t,[],row⟩ l;have e:putC s ⟨t,[],row⟩ l=putL s t (keyF s t row) row l:=(by rw [putC_eq];simp [keyC]);rwa [e] at this
theorem stOk_nil (n:Nat) (h:n=s.tt.length):StOk s a (List.replicate n []):=by
 refine⟨by simpa using h,fun t E=>?_⟩
 have e:(List.replicate n ([]:List Row)).getD t []=[]:=by
  have:t<n:=(by simpa using E);simp [List.getD,this]
 rw [e];exact⟨fun r F=>by simp at F,fun i j _ z=>by simp at z⟩
end Go.Proofs.YtjadnfodboepeaaGreat
