import Derived.Test.YtjadnfodboepeaaGreatKyh
set_option linter.all false
set_option maxRecDepth 100000
set_option maxHeartbeats 8000000
namespace Go.Proofs.YtjadnfodboepeaaGreat
open Tryz
open Go.RowKit
variable {w w':World} {n k m i:Nat} {A B A':Option Addr} {S:Nat->Prop} {a t z y:Int} {l p:List Int} {x xA xB:Value} {g:TypeId} {s:Sch} {h:ByteArray} {M:V} {Z:List Pred}
theorem ZjR (t:ByteArray):(t=⟨#[]⟩)=(t.toList=[]):=by
 apply propext;constructor
 .rintro rfl;rw [ByteArray.toList_eq]
 intro h;cases t
 rw [ByteArray.toList_eq] at h;simpa using h
theorem v0_nil (a b:Int) (t:ByteArray):((⟨a,b,t⟩:V)=v0)=(a=0/\b=0/\t.toList=[]):=by rw [<-ZjR];simp
theorem Zeg (cmp I l2 N F K z H E:Int) (L M:ByteArray):ZeF cmp ⟨I,l2,⟨N,F,L⟩⟩ ⟨K,z,⟨H,E,M⟩⟩=(decide (cmp=0)&&(decide (I=0)&&decide (l2=0)&&decide (N=0/\F=0/\L.toList=[]))&&(decide (K=0)&&decide (z=0)&&decide (H=0/\E=0/\M.toList=[]))):=by
 simp only [ZeF,Zlg,v0_nil]
theorem ZiD {op cmp:Int} {cols r:Opd} (h:op=1\/op=2\/op=4\/op=5\/op=6) (z:ZeF cmp cols r=false):predOk l p (.mk op cmp cols r Z)=false:=by
 unfold predOk;rcases h with rfl | rfl | rfl | rfl | rfl<;>simp [z]
theorem ZiE {op cmp:Int} {cols r:Opd} (h:op=1/\Z.length=0\/op=2/\Z.length=0\/op=4\/op=5\/op=6/\Z.length=1) (E:ZeF cmp cols r=true):predOk l p (.mk op cmp cols r Z)=predsOk l p Z:=by
 unfold predOk;rcases h with ⟨rfl,z⟩ | ⟨rfl,z⟩ | rfl | rfl | ⟨rfl,z⟩
 .have:Z=[]:=qN z;subst this;simp [E,predsOk]
 .have:Z=[]:=qN z;subst this;simp [E,predsOk]
 .simp [E]
 .simp [E]
 simp [E,z]
theorem ZkV {cmp:Int} {cols r:Opd} :predOk l p (.mk 3 cmp cols r Z)=(decide (Z.length=0)&&decide (1<=cmp)&&decide (cmp<=6)&&decide (Zj l p cols≠0)&&decide (Zj l p cols=Zj l p r)):=by
 unfold predOk;rfl
theorem Zkg {op cmp:Int} {cols r:Opd} (H:op≠1) (E:op≠2) (K:op≠3) (F:op≠4) (I:op≠5) (z:op≠6):predOk l p (.mk op cmp cols r Z)=false:=by
 unfold predOk;simp [H,E,K,F,I,z]
theorem Zkf {op cmp:Int} {cols r:Opd} (h:op=1/\Z.length≠0\/op=2/\Z.length≠0\/op=6/\Z.length≠1):predOk l p (.mk op cmp cols r Z)=false:=by
 unfold predOk;rcases h with ⟨rfl,h⟩ | ⟨rfl,h⟩ | ⟨rfl,h⟩<;>simp [h]
structure LK (w wr:World) (A1 A2:Option Addr) (n ca m cb:Nat):Prop where
 a:wr.cell? ⟨w,0,none⟩=some (.slice A1 n ca)
 b:wr.cell? ⟨w,1,none⟩=some (.slice A2 m cb)
 s:w.heap.size<wr
theorem LK.below {w wr F:World} {E H:Option Addr} {n I m cb:Nat} (h:LK w wr E H n I m cb) (z:Below wr wr F):LK w F E H n I m cb :=
 ⟨c9Q z h.s h.a,c9Q z h.s h.b,qC h.s z.size⟩
theorem Zjj (x:Unit) {o:Obj}:LK w ((w.alloc (.cells #[.slice A n k,.slice B m i] 318)).alloc o) A B n k m i :=
 ⟨(Zh yb).trans (Zm rfl rfl),(Zh yb).trans (Zm rfl rfl),yd⟩
theorem valid_cmp (aa cb:Nat) (cmp:Int) (args r:Opd) (c:Nat) (aF:IntS w S A l) (aJ:IntS w S B p) (aY:PredS w S A' Z) (aI:∀ x,S x->x<w) (bf:Z.length<=c) (aK:args.value.t.size<=9223372036854775807) (aS:r.value.t.size<=9223372036854775807) :
 Calls prog 247 #[kAgg A B l p aa cb,pAgg 3 cmp args r A' Z c] w (ZH (predOk l p (.mk 3 cmp args r Z)) w):=by
  obtain⟨ah,l2,⟨ac,ae,U⟩⟩:=args;obtain⟨R,af,⟨O,W,ab⟩⟩:=r;simp only at aK aS;replace aF:=hI aF;replace aJ:=hI aJ;clear aY;have aU:=hI (((qa w w).alloc nR (.cells #[.slice A l aa,.slice B p cb] 318)).alloc yb (.cells #[.int .i64 3,.int .i64 cmp,.int .i64 ah,.int .i64 l2,.int .i64 ac,.int .i64 ae,.string U,.int .i64 R,.int .i64 af,.int .i64 O,.int .i64 W,.string ab,.slice A' Z c] 112));obtain⟨z,H⟩:=yp ((w.alloc (.cells #[.slice A l aa,.slice B p cb] 318)).alloc (.cells #[.int .i64 3,.int .i64 cmp,.int .i64 ah,.int .i64 l2,.int .i64 ac,.int .i64 ae,.string U,.int .i64 R,.int .i64 af,.int .i64 O,.int .i64 W,.string ab,.slice A' Z c] 112));have aG:=hI (show Below w w z by rw [<-H];exact aU);have aZ:z.heap.size=w.heap.size+2:=(by rw [<-H];simp);have an:z.cell? ⟨w,0,none⟩=some (.slice A l aa):=(by rw [<-H];exact(Zh yb).trans (Zm rfl rfl));have aA:z.cell? ⟨w,1,none⟩=some (.slice B p cb):=(by rw [<-H];exact(Zh yb).trans (Zm rfl rfl));have bb:z.cell? ⟨w+1,0,none⟩=some (.int .i64 3):=(by rw [<-H];exact Zm yb rfl);have aL:z.cell? ⟨w+1,1,none⟩=some (.int .i64 cmp):=(by rw [<-H];exact Zm yb rfl);have aC:z.cell? ⟨w+1,2,none⟩=some (.int .i64 ah):=(by rw [<-H];exact Zm yb rfl);have aq:z.cell? ⟨w+1,3,none⟩=some (.int .i64 l2):=(by rw [<-H];exact Zm yb rfl);have az:z.cell? ⟨w+1,4,none⟩=some (.int .i64 ac):=(by rw [<-H];exact Zm yb rfl);have aw:z.cell? ⟨w+1,5,none⟩=some (.int .i64 ae):=(by rw [<-H];exact Zm yb rfl);have ax:z.cell? ⟨w+1,6,none⟩=some (.string U):=(by rw [<-H];exact Zm yb rfl);have ao:z.cell? ⟨w+1,7,none⟩=some (.int .i64 R):=(by rw [<-H];exact Zm yb rfl);have av:z.cell? ⟨w+1,8,none⟩=some (.int .i64 af):=(by rw [<-H];exact Zm yb rfl);have ay:z.cell? ⟨w+1,9,none⟩=some (.int .i64 O):=(by rw [<-H];exact Zm yb rfl);have ap:z.cell? ⟨w+1,10,none⟩=some (.int .i64 W):=(by rw [<-H];exact Zm yb rfl);have aB:z.cell? ⟨w+1,11,none⟩=some (.string ab):=(by rw [<-H];exact Zm yb rfl);have aP:z.cell? ⟨w+1,12,none⟩=some (.slice A' Z c):=(by rw [<-H];exact Zm yb rfl);have ar:∀ b,S b->b<z:=(fun b aD=>yl (aI b aD));have aT:=hI (aF.keep (qS aG aI));have aO:=hI (aJ.keep (qS aG aI));have au:w.heap.size<z:=ya;have E:w.heap.size+1<z:=ya;clear aZ;go_enter func247,ntmps247
  go_wp2_with fail
  clear H
  go_region_held3 (fun w'=>Below z z w'/\w'.cell? ⟨w,0,none⟩=some (.slice A l aa)/\w'.cell? ⟨w,1,none⟩=some (.slice B p cb)/\w'.cell? ⟨w+1,2,none⟩=some (.int .i64 ah)/\w'.cell? ⟨w+1,3,none⟩=some (.int .i64 l2)/\w'.cell? ⟨w+1,4,none⟩=some (.int .i64 ac)/\w'.cell? ⟨w+1,5,none⟩=some (.int .i64 ae)/\w'.cell? ⟨w+1,6,none⟩=some (.string U)/\w'.cell? ⟨w+1,7,none⟩=some (.int .i64 R)/\w'.cell? ⟨w+1,8,none⟩=some (.int .i64 af)/\w'.cell? ⟨w+1,9,none⟩=some (.int .i64 O)/\w'.cell? ⟨w+1,10,none⟩=some (.int .i64 W)/\w'.cell? ⟨w+1,11,none⟩=some (.string ab))
   (first | exact⟨(qa _ _).drew,an,aA,aC,aq,az,aw,ax,ao,av,ay,ap,aB⟩ | exact⟨I,c9Q I au an,c9Q I au aA,c9Q I E aC,c9Q I E aq,c9Q I E az,c9Q I E aw,c9Q I E ax,c9Q I E ao,c9Q I E av,c9Q I E ay,c9Q I E ap,c9Q I E aB⟩ | exact⟨F,c9Q F au an,c9Q F au aA,c9Q F E aC,c9Q F E aq,c9Q F E az,c9Q F E aw,c9Q F E ax,c9Q F E ao,c9Q F E av,c9Q F E ay,c9Q F E ap,c9Q F E aB⟩)
   (first
    | (go_at_call 266;have aW:=F;clear aW;refine(ZkW A B aa cb l p ⟨R,af,⟨O,W,ab⟩⟩ S (aT.keep (qS F ar)) (aO.keep (qS F ar)) (fun b aD=>qC (ar b aD) F.size) aS).mono ?_;rintro e aV ⟨rfl,aM⟩;have I:Below z z aV:=F.trans (aM.mono F.size))
    | (go_at_call 266;refine(ZkW A B aa cb l p ⟨ah,l2,⟨ac,ae,U⟩⟩ S (w:=z.drew) (aT.keep (fun _ _=>rfl)) (aO.keep (fun _ _=>rfl)) ar aK).mono ?_;rintro e aX ⟨rfl,aQ⟩;have F:Below z z aX:=(qa _ z).drew.trans aQ))
  have ak:=hI (aG.trans (I.mono ya));have be:=c9Q I E aL;have bg:=c9Q I E aP;obtain⟨K,aH⟩:=yp (Zj l p ⟨ah,l2,⟨ac,ae,U⟩⟩);obtain⟨cols,aE⟩:=yp (Zj l p ⟨R,af,⟨O,W,ab⟩⟩);have am:=hI (show predOk l p (.mk 3 cmp ⟨ah,l2,⟨ac,ae,U⟩⟩ ⟨R,af,⟨O,W,ab⟩⟩ Z)=(decide (Z.length=0)&&decide (1<=cmp)&&decide (cmp<=6)&&decide (K≠0)&&decide (K=cols)) by rw [ZkV,aH,aE]);rw [aH,aE];clear F I aQ aM aH aE an aA bb aL aC aq az aw ax ao av ay ap aB aP
  by_cases ai:Z.length=0
  .have bc:((Z:Int) == 0)=true:=(by simp [ai]);replace ai:=hI ai
   by_cases aN:1<=cmp
   .by_cases aR:cmp<=6
    .by_cases aj:K=0
     .have ba:(K != 0)=false:=(by simp [aj]);have L:=hI (show (decide (Z.length=0)&&decide (1<=cmp)&&decide (cmp<=6)&&decide (K≠0)&&decide (K=cols))=false by simp [aj]);clear aj
      go_wp2
      go_ret;exact⟨by rw [am,L];rfl,ak⟩
     have ba:(K != 0)=true:=(by simp [aj]);have L:=hI (show (decide (Z.length=0)&&decide (1<=cmp)&&decide (cmp<=6)&&decide (K≠0)&&decide (K=cols))=(K == cols) by simp [ai.out,aj,aN,aR];rfl);clear aj
     go_wp2
     go_ret;exact⟨by rw [am,L];rfl,ak⟩
    have L:=hI (show (decide (Z.length=0)&&decide (1<=cmp)&&decide (cmp<=6)&&decide (K≠0)&&decide (K=cols))=false by simp [aR])
    go_wp2
    go_ret;exact⟨by rw [am,L];rfl,ak⟩
   have L:=hI (show (decide (Z.length=0)&&decide (1<=cmp)&&decide (cmp<=6)&&decide (K≠0)&&decide (K=cols))=false by simp [aN])
   go_wp2
   go_ret;exact⟨by rw [am,L];rfl,ak⟩
  have bc:((Z:Int) == 0)=false:=(by rw [qf];omega);have L:=hI (show (decide (Z.length=0)&&decide (1<=cmp)&&decide (cmp<=6)&&decide (K≠0)&&decide (K=cols))=false by simp [ai]);clear ai
  go_wp2
  go_ret;exact⟨by rw [am,L];rfl,ak⟩
theorem valid_p (ai ak:Option Addr) (am cb:Nat) (cols params:List Int):∀ (n:Nat) (op cmp:Int) (l r:Opd) (args:List Pred) (A:Option Addr) (c:Nat) (S:Nat->Prop) (w:World),SizeOf.sizeOf (Pred.mk op cmp l r args)<=n->IntS w S ai cols->IntS w S ak params->PredS w S A args->(∀ x,S x->x<w)->args.length<=c->l.value.t.size<=9223372036854775807->r.value.t.size<=9223372036854775807 ->
 Calls prog 247 #[kAgg ai ak cols params am cb,pAgg op cmp l r A args c] w (ZH (predOk cols params (.mk op cmp l r args)) w):=by
 intro n;induction n with
 | zero=>intro op cmp l r args A c S w aC;simp at aC
 | succ n aD =>
  intro op cmp l r args A c S w aC av ax aq ac aY aR aP;obtain⟨ab,l2,⟨K,L,N⟩⟩:=l;obtain⟨U,aa,⟨O,W,Z⟩⟩:=r;simp only at aR aP;have bt:=aq.len;replace aq:=hI aq;replace av:=hI av;replace ax:=hI ax;replace aD:=hI aD;have bk:=hI (show SizeOf.sizeOf args<=n by simp at aC;omega);clear aC;have aG:=hI (((qa w w).alloc nR (.cells #[.slice ai cols am,.slice ak params cb] 318)).alloc yb (.cells #[.int .i64 op,.int .i64 cmp,.int .i64 ab,.int .i64 l2,.int .i64 K,.int .i64 L,.string N,.int .i64 U,.int .i64 aa,.int .i64 O,.int .i64 W,.string Z,.slice A args c] 112))
  by_cases M:op=3
  .subst M;exact valid_cmp am cb cmp _ _ c av ax aq ac aY aR aP
  have ah:(op == 3)=false:=qf.2 M
  by_cases I:op=4\/op=5\/(op=6/\args.length=1)
  .have aE:=hI (ZiD (l:=cols) (p:=params) (cmp:=cmp) (cols:=⟨ab,l2,⟨K,L,N⟩⟩) (r:=⟨U,aa,⟨O,W,Z⟩⟩) (Z:=args) (.inr (.inr (I.imp id (fun h=>h.imp id And.left)))));have aI:=hI (ZiE (l:=cols) (p:=params) (cmp:=cmp) (cols:=⟨ab,l2,⟨K,L,N⟩⟩) (r:=⟨U,aa,⟨O,W,Z⟩⟩) (Z:=args) (.inr (.inr I)));clear M ah;rcases I with rfl | rfl | ⟨rfl,ap⟩
   all_goals
    go_enter func247,ntmps247
    go_wp2_with fail
    all_goals try (go_ret;exact⟨by rw [aE (by rw [Zeg];simp [*])];rfl,((qa _ _).alloc nR _).alloc yb _⟩)
    have E:=hI (aI (by rw [Zeg];simp [*]))
    go_loopw [78] (fun i wr=>∃ k:Nat,k<=args/\i=.int .i64 k/\predsOk cols params args=predsOk cols params (args.drop k)/\Below w w wr/\LK w wr ai ak cols am params cb) (fun i _=>args.length - (intOf i).toNat)
    case atStart=>exact⟨0,qk _,rfl,yb,((qa _ _).alloc nR _).alloc yb _,Zjj ()⟩
    obtain⟨k,be,rfl,F,af,ae⟩:=hrel;replace F:=hI F;have aj:=hI af;have aL:=af.size;have bh:=hI ae;have bz:=ae.a;have bB:=ae.b;have bw:=ae.s;clear af ae
    by_cases az:k<args
    .obtain⟨bC,an,rfl,bu,aS,aK,⟨aV,aW,⟨aU,aQ,aN⟩⟩,⟨n1,n2,⟨ah,aA,au⟩⟩,aO,A',bo,aH,z⟩:=(aq.keep (qS aj ac)).at_ az;have ay:=hI (ZeU cols params args k az);rw [aH] at ay;have bl:=hI (Zdd az aH);have f1:=z.fop;have bb:=z.fcmp;have f3:=z.lk;have bc:=z.li;have bj:=z.lvk;have bf:=z.lvi;have aX:=z.lvt;have bn:=z.rk;have bg:=z.ri;have bq:=z.rvk;have ba:=z.rvi;have aZ:=z.rvt;have br:=z.fargs;replace z:=hI z;clear aH;simp only at f1 bb f3 bc bj bf aX bn bg bq ba aZ br
     go_wp2_with fail
     refine(aD aS aK ⟨aV,aW,⟨aU,aQ,aN⟩⟩ ⟨n1,n2,⟨ah,aA,au⟩⟩ aO A' bo S _ (ym bl.out bk.out) (av.keep (fun x H=>(qd _ _ _ (yl (ac x H))).trans (aj.block x (ac x H)))) (ax.keep (fun x H=>(qd _ _ _ (yl (ac x H))).trans (aj.block x (ac x H)))) (z.pS.keep (fun x H=>qd _ _ _ (yl (ac x H)))) (fun x H=>by have:=ac x H;simp;omega) z.pc z.lt z.rt).mono ?_;rintro e w2 ⟨rfl,aT⟩;have aJ:=hI (show Below wr wr w2 from ((qa _ wr).alloc nR _).trans (aT.mono yb));clear aT;obtain⟨bp,aM⟩:=yp (predOk cols params (.mk aS aK ⟨aV,aW,⟨aU,aQ,aN⟩⟩ ⟨n1,n2,⟨ah,aA,au⟩⟩ aO));rw [aM] at ay ⊢;clear aM;cases bp
     .go_wp2
      go_ret;exact⟨by rw [E,F,ay];rfl,aj.trans (aJ.mono aL)⟩
     go_wp2
     go_roundw
     case rel=>exact⟨k+1,ya,by go_num,by rw [F,ay];rfl,aj.trans (aJ.mono aL),bh.below aJ⟩
     simp [intOf];omega
    have aF:=hI (show predsOk cols params args=true by rw [F,show k=args.length by omega,qQ];unfold predsOk;rfl)
    go_wp2
    go_ret;exact⟨by rw [E,aF];rfl,aj⟩
  by_cases R:op=1\/op=2
  .by_cases ap:args.length=0
   .have aE:=hI (ZiD (l:=cols) (p:=params) (cmp:=cmp) (cols:=⟨ab,l2,⟨K,L,N⟩⟩) (r:=⟨U,aa,⟨O,W,Z⟩⟩) (Z:=args) (R.imp id .inl));have aI:=hI (ZiE (l:=cols) (p:=params) (cmp:=cmp) (cols:=⟨ab,l2,⟨K,L,N⟩⟩) (r:=⟨U,aa,⟨O,W,Z⟩⟩) (Z:=args) (R.imp (fun h=>⟨h,ap⟩) (fun h=>.inl ⟨h,ap⟩)));clear M ah I;rcases R with rfl | rfl
    all_goals
     go_enter func247,ntmps247
     go_wp2_with fail
     all_goals try (go_ret;exact⟨by rw [aE (by rw [Zeg];simp [*])];rfl,((qa _ _).alloc nR _).alloc yb _⟩)
     have E:=hI (aI (by rw [Zeg];simp [*]))
     go_loopw [78] (fun i wr=>∃ k:Nat,k<=args/\i=.int .i64 k/\predsOk cols params args=predsOk cols params (args.drop k)/\Below w w wr/\LK w wr ai ak cols am params cb) (fun i _=>args.length - (intOf i).toNat)
     case atStart=>exact⟨0,qk _,rfl,yb,((qa _ _).alloc nR _).alloc yb _,Zjj ()⟩
     obtain⟨k,be,rfl,F,af,ae⟩:=hrel;replace F:=hI F;replace af:=hI af;clear ae
     by_cases az:k<args
     .omega
     have aF:=hI (show predsOk cols params args=true by rw [F,show k=args.length by omega,qQ];unfold predsOk;rfl)
     go_wp2
     go_ret;exact⟨by rw [E,aF];rfl,af⟩
   have bm:((args:Int) != 0)=true:=(by rw [bne_iff_ne];omega);have E:=hI (show predOk cols params (.mk op cmp ⟨ab,l2,⟨K,L,N⟩⟩ ⟨U,aa,⟨O,W,Z⟩⟩ args)=false from Zkf (R.imp (fun h=>⟨h,ap⟩) (fun h=>.inl ⟨h,ap⟩)));clear M ah I;rcases R with rfl | rfl
   all_goals
    go_enter func247,ntmps247
    go_wp2
    go_ret;exact⟨by rw [E];rfl,aG⟩
  have aw:op≠1:=fun h=>R (.inl h);have an:op≠2:=fun h=>R (.inr h);have aB:op≠4:=fun h=>I (.inl h);have ar:op≠5:=fun h=>I (.inr (.inl h));have n1:(op == 1)=false:=qf.2 aw;have n2:(op == 2)=false:=qf.2 an;have aA:(op == 4)=false:=qf.2 aB;have au:(op == 5)=false:=qf.2 ar
  by_cases ao:op=6
  .have bi:args.length≠1:=fun h=>I (.inr (.inr ⟨ao,h⟩));clear I R aw an M aB ar n1 n2 ah aA au;subst ao;have bm:((args:Int) != 1)=true:=(by rw [bne_iff_ne];omega);have E:=hI (show predOk cols params (.mk 6 cmp ⟨ab,l2,⟨K,L,N⟩⟩ ⟨U,aa,⟨O,W,Z⟩⟩ args)=false from Zkf (.inr (.inr ⟨rfl,bi⟩)));go_enter func247,ntmps247
   go_wp2
   go_ret;exact⟨by rw [E];rfl,aG⟩
  have:(op == 6)=false:=qf.2 ao;have E:=hI (Zkg (l:=cols) (p:=params) (cmp:=cmp) (cols:=⟨ab,l2,⟨K,L,N⟩⟩) (r:=⟨U,aa,⟨O,W,Z⟩⟩) (Z:=args) aw an M aB ar ao);clear aw an M aB ar ao;go_enter func247,ntmps247
  go_wp2
  go_ret;exact⟨by rw [E];rfl,aG⟩
theorem Zgm:∀ (z:List Obj) (w:World) (k:Nat),k<z->(z.foldl World.alloc w).heap[w.heap.size+k]?=z[k]?
 | [],_,k,h=>by simp at h
 | o :: z,w,0,_=>by
  have F:∀ (z:List Obj) (w:World) (b:Nat),b<w->(z.foldl World.alloc w).heap[b]?=w.heap[b]?:=by
   intro z;induction z with
   | nil=>intro w b E;rfl
   | cons o z H=>intro w b E;rw [List.foldl_cons,H _ _ yd];exact qd w o b E
  rw [List.foldl_cons,F z _ _ yb];exact qb w o
 | o :: z,w,k+1,h=>by
  have:=Zgm z (w.alloc o) k (by simpa using h);rw [Qt,show w.heap.size+1+k=w.heap.size+(k+1) by omega] at this;exact this
theorem ZcZ:∀ (z:List Obj) (w:World),Below w w (z.foldl World.alloc w)/\(z.foldl World.alloc w).heap.size=w.heap.size+z.length
 | [],w=>⟨qa _ _,rfl⟩
 | o :: z,w=>by
  obtain⟨E,F⟩:=ZcZ z (w.alloc o);refine⟨((qa _ w).alloc nR o).trans (E.mono yb),?_⟩;rw [List.foldl_cons,F,Qt,qK];omega
abbrev tA:ByteArray:=⟨#[97]⟩
abbrev tB:ByteArray:=⟨#[98]⟩
section
variable {w:World} {S:Nat->Prop}
theorem Za {b:Nat} {cs:Array Value} {t:TypeId} (h:w.heap[b]?=some (.cells cs t (0,0))):CellsAt w b 0 cs.toList:=fun j u z=>by
 rw [qx];simp only [World.cell?,h];simpa using z
theorem st_block {b:Nat} {A:Option Addr} {c:Nat} {l:List Row} (h:w.heap[b]?=some (.cells #[.slice A l c] 145 (0,0))) (E:S b) (z:l.length<=c) (F:RowsS w S A l):StS w S (some ⟨b,0,none⟩) [l]:=by
 refine Qb (vs:=[.slice A l c]) (by rw [Ze (n:=24) (fun _=>rfl)];simp) (Zw ?_) (fun _=>⟨b,0,rfl,E,Za h⟩);unfold Zx Dat.Vs;exact⟨A,c,yb,by simpa using z,F⟩
theorem tab_block {b:Nat} {A:Option Addr} {cols:List Col} {key:Int} {E:ByteArray} {n c:Nat} (h:w.heap[b]?=some (.cells #[.string E,.slice A n c,.int .i64 key,.slice none 0 0,.slice none 0 0] 104 (0,0))) (L:n=cols.length) (M:E.size<=64) (H:S b) (K:cols.length<=c) (F:ColS w S A cols):TabS w S (some ⟨b,0,none⟩) [⟨E,cols,key,[],[]⟩]:=by
 subst L;have z:=Za h;refine⟨by rw [Ze (n:=96) (fun _=>rfl)];simp,fun _=>⟨b,0,rfl,H,?_⟩⟩;simp only [qL,Qn,ZP,Dat.Ha,Dat.Held,Dat.size,Dat.sizes,and_true,ZC,ZA,qg,Qp];refine⟨⟨z 0 _ rfl,ya⟩,⟨A,c,z 1 _ rfl,K,F.1,fun I=>F.2 (by simpa using I)⟩,z 2 _ rfl,⟨none,0,z 3 _ rfl,ya,by simp [Dat.bytesAll],fun h=>ya⟩,⟨none,0,z 4 _ rfl,ya,by simp [Dat.bytesAll],fun h=>ya⟩⟩
end
theorem pcheck_any (op cmp:Int) (U r:Opd) (c:Nat) (ae:IntS w S A l) (aj:IntS w S B p) (af:PredS w S A' Z) (L:∀ b,S b->b<w) (aQ:Z.length<=c) (aP:U.value.t.size<=9223372036854775807) (aS:r.value.t.size<=9223372036854775807) :
 Calls prog 210 #[.slice A l n,.slice B p k,pAgg op cmp U r A' Z c] w (Zaz (pcFF l p (.mk op cmp U r Z)) w):=by
 replace ae:=hI ae;replace aj:=hI aj;replace af:=hI af;obtain⟨cb,am⟩:=yp (Pred.mk op cmp U r Z);have au:=hI am;rw [am];clear am;have ab:Below w w (w.alloc (.cells #[.int .i64 op,.int .i64 cmp,.int .i64 U.kind,.int .i64 U.index,.int .i64 U.value.k,.int .i64 U.value.i,.string U.value.t,.int .i64 r.kind,.int .i64 r.index,.int .i64 r.value.k,.int .i64 r.value.i,.string r.value.t,.slice A' Z c] 112)):=(qa _ _).alloc nR _;have ap:=hI ab;have ao:=hI (ae.keep (qS ab L));have aF:=hI (aj.keep (qS ab L));clear ab;cases K:ZG l with
 | false =>
  have I:=hI (show pcFF l p cb=1 by unfold pcFF;rw [qr (.inl K)]);replace K:=hI K;go_enter func210,ntmps210
  go_wp2_with fail
  refine(Zay ao).mono ?_;rintro e z ⟨rfl,rfl⟩;rw [K]
  go_wp2
  go_ret;exact⟨by rw [I];rfl,ap⟩
 | true =>
  have aw:=hI K;cases N:ZG p with
  | false =>
   have I:=hI (show pcFF l p cb=1 by unfold pcFF;rw [qr (.inr N)]);replace N:=hI N;clear K;go_enter func210,ntmps210
   go_wp2_with fail
   refine(Zay ao).mono ?_;rintro e z ⟨rfl,rfl⟩;rw [aw]
   go_wp2_with fail
   refine(Zay aF).mono ?_;rintro e z ⟨rfl,rfl⟩;rw [N]
   go_wp2
   go_ret;exact⟨by rw [I];rfl,ap⟩
  | true =>
   have aT:=hI N;have aA:=hI (show pcFF l p cb=if (smallP cb 1 24).1=false then 2 else if predOk l p cb=false then 50 else 0 by unfold pcFF;rw [qo (by simp [K,N])]);clear K N;go_enter func210,ntmps210
   go_wp2_with fail
   refine(Zay ao).mono ?_;rintro e z ⟨rfl,rfl⟩;rw [aw]
   go_wp2_with fail
   refine(Zay aF).mono ?_;rintro e z ⟨rfl,rfl⟩;rw [aT]
   go_wp2_with fail
   obtain⟨W,M⟩:=yp ((w.alloc (.cells #[.int .i64 op,.int .i64 cmp,.int .i64 U.kind,.int .i64 U.index,.int .i64 U.value.k,.int .i64 U.value.i,.string U.value.t,.int .i64 r.kind,.int .i64 r.index,.int .i64 r.value.k,.int .i64 r.value.i,.string r.value.t,.slice A' Z c] 112)).alloc (.cells #[.int .i64 24] 3));have aq:Below w w W:=(by rw [<-M];exact ap.alloc yb _);have:W.heap.size=w.heap.size+2:=(by rw [<-M];simp)
   have aC:W.heap[w.heap.size+1]?=some (.cells #[.int .i64 24] 3 (0,0)):=by
    rw [<-M];have h:=qb (w.alloc (.cells #[.int .i64 op,.int .i64 cmp,.int .i64 U.kind,.int .i64 U.index,.int .i64 U.value.k,.int .i64 U.value.i,.string U.value.t,.int .i64 r.kind,.int .i64 r.index,.int .i64 r.value.k,.int .i64 r.value.i,.string r.value.t,.slice A' Z c] 112)) (.cells #[.int .i64 24] 3);rwa [Qt] at h
   have an:W.heap[w.heap.size]?=some (.cells #[.int .i64 op,.int .i64 cmp,.int .i64 U.kind,.int .i64 U.index,.int .i64 U.value.k,.int .i64 U.value.i,.string U.value.t,.int .i64 r.kind,.int .i64 r.index,.int .i64 r.value.k,.int .i64 r.value.i,.string r.value.t,.slice A' Z c] 112 (0,0)):=(by rw [<-M];exact(qd _ _ _ yb).trans (qb w _));have aR:=hI aq;have ak:=small_any (SizeOf.sizeOf (Pred.mk op cmp U r Z)) op cmp U r Z A' c 1 24 (w+1) S W nR (af.keep (qS aq L)) (fun x ar=>yl (L x ar)) aC ya ya ya ya;rw [au] at ak;replace an:=hI an;replace M:=hI M;clear aq aC;change Calls prog _ _ ((w.alloc (.cells #[.int .i64 op,.int .i64 cmp,.int .i64 U.kind,.int .i64 U.index,.int .i64 U.value.k,.int .i64 U.value.i,.string U.value.t,.int .i64 r.kind,.int .i64 r.index,.int .i64 r.value.k,.int .i64 r.value.i,.string r.value.t,.slice A' Z c] 112)).alloc (.cells #[.int .i64 24] 3)) _;rw [M];refine(show Calls _ _ _ _ _ from ak).mono ?_;clear ak;rintro e E ⟨rfl,-,ac⟩;have R:=hI (show Below w w E from aR.grown ac ya (fun g e=>by injection e with e;omega));have H:E.heap[w.heap.size]?=some (.cells #[.int .i64 op,.int .i64 cmp,.int .i64 U.kind,.int .i64 U.index,.int .i64 U.value.k,.int .i64 U.value.i,.string U.value.t,.int .i64 r.kind,.int .i64 r.index,.int .i64 r.value.k,.int .i64 r.value.i,.string r.value.t,.slice A' Z c] 112 (0,0)):=(ac.block _ ya yj).trans an;have aJ:yr E w 0 (.int .i64 op):=Za H 0 _ rfl;have ay:yr E w 1 (.int .i64 cmp):=Za H 1 _ rfl;have aO:yr E w 2 (.int .i64 U.kind):=Za H 2 _ rfl;have az:yr E w 3 (.int .i64 U.index):=Za H 3 _ rfl;have aI:yr E w 4 (.int .i64 U.value.k):=Za H 4 _ rfl;have aD:yr E w 5 (.int .i64 U.value.i):=Za H 5 _ rfl;have aE:yr E w 6 (.string U.value.t):=Za H 6 _ rfl;have av:yr E w 7 (.int .i64 r.kind):=Za H 7 _ rfl;have aB:yr E w 8 (.int .i64 r.index):=Za H 8 _ rfl;have aG:yr E w 9 (.int .i64 r.value.k):=Za H 9 _ rfl;have ax:yr E w 10 (.int .i64 r.value.i):=Za H 10 _ rfl;have aN:yr E w 11 (.string r.value.t):=Za H 11 _ rfl;have aH:yr E w 12 (.slice A' Z c):=Za H 12 _ rfl;have:w.heap.size<E:=(yl ac.size);clear ac H;cases ah:(smallP cb 1 24).1 with
   | false =>
    have I:=hI (show pcFF l p cb=2 by rw [aA,qr ah]);clear ah aJ ay aO az aI aD aE av aB aG ax aN aH
    go_wp2
    go_ret;exact⟨by rw [I];rfl,R⟩
   | true =>
    have aM:=hI (show pcFF l p cb=if predOk l p cb=false then 50 else 0 by rw [aA,qo (by simp [ah])]);clear ah;have aa:=valid_p A B n k l p (SizeOf.sizeOf (Pred.mk op cmp U r Z)) op cmp U r Z A' c S E nR (ae.keep (qS R L)) (aj.keep (qS R L)) (af.keep (qS R L)) (fun x ar=>yl (L x ar)) aQ aP aS;rw [au] at aa;replace aa:=hI aa
    go_wp2_with fail
    refine(show Calls _ _ _ _ _ from aa).mono ?_;rintro e aU ⟨rfl,aL⟩;have aK:=hI (R.trans (aL.mono ya));clear aL aJ ay aO az aI aD aE av aB aG ax aN aH;cases ai:predOk l p cb with
    | false =>
     have I:=hI (show pcFF l p cb=50 by rw [aM,qr ai]);clear ai
     go_wp2
     go_ret;exact⟨by rw [I];rfl,aK⟩
    | true =>
     have I:=hI (show pcFF l p cb=0 by rw [aM,qo (by simp [ai])]);clear ai
     go_wp2
     go_ret;exact⟨by rw [I];rfl,aK⟩
theorem pred_calls {p:Pred}:Zgo pcF l p:=by
 intro H O op cmp z r args A c S w E L N K M F I;subst E;exact pcheck_any op cmp z r c L Qk N K M F I
theorem ZU:ZbZ pcF s:=fun t _ p _=>pred_calls
theorem infoO:(prog.info? 110).map (fun i=>(i.zero,i.size,i.bytes))=some (some (.agg #[.int .i64 0,.int .i64 0,.int .i64 0,.int .i64 0,.string ⟨#[]⟩]),5,48):=by kernel_rfl
theorem encOpd_size (o:Opd):(ZaL o).size=5:=rfl
theorem encOpd_bytes (o:Opd):(ZaL o).bytes=48:=rfl
theorem Zfa (o:Opd):(ZaL o).Plain:=by simp [ZaL,encV,Dat.Plain,Dat.Pa,Value.oneCell']
theorem ZiR (E:h.size<=9223372036854775807):Dat.Vs w S (ZaL ⟨a,t,⟨z,y,h⟩⟩) [.int .i64 a,.int .i64 t,.int .i64 z,.int .i64 y,.string h]:=by
 simp only [ZaL,encV,Dat.Vs,Dat.Va,ZC,ZA];exact⟨[.int .i64 a],_,rfl,⟨rfl,trivial⟩,[.int .i64 t],_,rfl,⟨rfl,trivial⟩,[.int .i64 z,.int .i64 y,.string h],[],rfl,⟨[.int .i64 z],_,rfl,⟨rfl,trivial⟩,[.int .i64 y],_,rfl,⟨rfl,trivial⟩,[.string h],[],rfl,⟨rfl,E⟩,rfl⟩,rfl⟩
theorem Zg (z:w.grownBy w' (some n)) (I:w<=k):w.grownBy (w'.setCell ⟨k,m,none⟩ x) (some n) :=
 ⟨z.os,z.tape,z.output,by have:=z.size;simpa using this,fun b H F=>(qc w' ⟨k,m,none⟩ x b (by show b≠k;omega)).trans (z.block b H F)⟩
def Zhs (cols params:List Int) (z:Int) (o:Opd):Prop:=Zj cols params o=z/\o.value.t.size<=64
theorem opd_col (F:n<l) (h:l.getD n 0=a):Zhs l p a ⟨1,n,v0⟩:=by
 refine⟨?_,by show v0.t.size<=64;decide⟩;have E:¬ ((n:Int)<0\/(l:Int)<=n\/v0≠v0):=yd;have e:Zj l p ⟨1,n,v0⟩=if (n:Int)<0\/(l:Int)<=n\/v0≠v0 then 0 else l.getD (n:Int).toNat 0:=rfl;rw [e,qo E,qu,h]
theorem opd_par (F:n<p) (h:p.getD n 0=a):Zhs l p a ⟨2,n,v0⟩:=by
 refine⟨?_,by show v0.t.size<=64;decide⟩;have E:¬ ((n:Int)<0\/(p:Int)<=n\/v0≠v0):=yd;have e:Zj l p ⟨2,n,v0⟩=if (n:Int)<0\/(p:Int)<=n\/v0≠v0 then 0 else p.getD (n:Int).toNat 0:=rfl;rw [e,qo E,qu,h]
theorem ZeJ (h:Zp M=true):M.t.size<=64:=by
 by_cases z:M.t.size<=64
 .exact z
 exfalso;obtain⟨k,i,t⟩:=M;have E:¬ t=⟨#[]⟩:=(by rintro rfl;exact z (by show (⟨#[]⟩:ByteArray).size<=64;decide));rw [ZjR] at E;simp only at z;unfold Zp at h;have:decide ((t.size:Int)<=64)=false:=qe ya
 revert h
 simp only
 repeat' split
 all_goals simp_all
theorem ZiC (E:ZX a=true) (h:ZgU (ZcL a) M):Zhs l p a ⟨3,0,M⟩:=by
 have K:ZcL a=a:=by
  simp only [ZX,Bool.or_eq_true,qT] at E;unfold ZcL;rcases E with (h | h) | h<;>simp [h]
 have:3<=a/\a<=5:=by
  simp only [ZX,Bool.or_eq_true,qT] at E;omega
 obtain⟨H,F⟩:=h;rw [K] at F
 have I:Zdx M=true:=by
  unfold Zdx;rw [H,F];simp;omega
 refine⟨?_,ZeJ H⟩;unfold Zj;rw [qr rfl,qo (by simp [I]),F]
def OpdPost (cols params:List Int) (z:Int) (w:World) (g:Nat) (e:Ending) (w':World):Prop:=∃ o:Opd,e=.returned (oAgg o)/\Zhs cols params z o/\CaseOk w' g/\w.grownBy w' (some g)
structure OpI (w wr:World) (cols params:List Int) (kd:Int) (k:Nat) (A:Option Addr) (n c:Nat) (L:List Opd):Prop where
 mkl:Mk wr (w+1) (fun _=>False) 110 5 (.slice A n c) (L.map ZaL)
 le:L.length<=k
 ok:∀ o ∈ L,Zhs cols params kd o
 bel:Below w w wr
 res:wr.heap[w.heap.size]?=some (.cells #[.int .i64 0,.int .i64 0,.int .i64 0,.int .i64 0,.string ⟨#[]⟩] 110 (0,0))
theorem OpI.len {w wr:World} {cols params:List Int} {E:Int} {k:Nat} {A:Option Addr} {n c:Nat} {z:List Opd} (h:OpI w wr cols params E k A n c z):n=z.length:=by have:=h.mkl.len;simpa using this
theorem OpI.push {w wr F:World} {cols params:List Int} {H:Int} {k g:Nat} {A:Option Addr} {n c cap:Nat} {E:List Opd} {o:Opd} (h:OpI w wr cols params H k A n c E) (K:Mk F (w+1) (fun _=>False) 110 5 (.slice (some ⟨g,0,none⟩) (n+1) cap) (E.map ZaL++[ZaL o])) (I:Below (w+1) wr F) (L:Zhs cols params H o):OpI w F cols params H (k+1) (some ⟨g,0,none⟩) (n+1) cap (E++[o]) :=
 ⟨by rw [qm];exact K,by have:=h.le;simp;omega,fun x z=>by
  rcases qH.1 z with z | z
  .exact h.ok x z
  rw [qy] at z;rw [z];exact L,h.bel.trans (I.mono ya),(I.block _ ya).trans h.res⟩
theorem opd_at {E:List Opd} (h:Sl w S A (E.map ZaL)) (M:n<E):∃ b z,A=some ⟨b,z,none⟩/\S b/\∃ ok oi F I H,(⟨ok,oi,⟨F,I,H⟩⟩:Opd) ∈ E/\yr w b (z+n*5) (.int .i64 ok)/\yr w b (z+n*5+1) (.int .i64 oi)/\yr w b (z+n*5+2) (.int .i64 F)/\yr w b (z+n*5+3) (.int .i64 I)/\w.cell? ⟨b,z+n*5+4,none⟩=some (.string H):=by
 obtain⟨b,z,e,N,K⟩:=Qf encOpd_size ⟨0,0,v0⟩ h M;have L:E.getD n ⟨0,0,v0⟩ ∈ E:=(by simp [List.getD,M]);generalize E.getD n ⟨0,0,v0⟩=q at K L;obtain⟨ok,oi,⟨F,I,H⟩⟩:=q;simp only [ZaL,encV,Dat.Held,Dat.Ha,Dat.size,Dat.sizes,and_true,ZC,ZA,Nat.add_assoc,Nat.reduceAdd,Nat.add_zero] at K;obtain⟨a1,a2,a3,a4,a5,-⟩:=K;exact⟨b,z,e,N,ok,oi,F,I,H,L,a1,by rw [Nat.add_assoc];exact a2,by rw [Nat.add_assoc];exact a3,by rw [Nat.add_assoc];exact a4,by rw [Nat.add_assoc];exact a5⟩
theorem put5 {H E a b c d e:Value} (h:w.heap[n]?=some (.cells #[x,xA,xB,H,E] g (0,0))):(((((w.setCell ⟨n,0,none⟩ a).setCell ⟨n,1,none⟩ b).setCell ⟨n,2,none⟩ c).setCell ⟨n,3,none⟩ d).setCell ⟨n,4,none⟩ e).heap[n]?=some (.cells #[a,b,c,d,e] g (0,0)):=by
 have L:w.heap[n]?=some (.cells [x,xA,xB,H,E].toArray g (0,0)):=h;have K:=Zc (k:=4) (v:=e) (Zc (k:=3) (v:=d) (Zc (k:=2) (v:=c) (Zc (k:=1) (v:=b) (Zc (k:=0) (v:=a) L))));simpa using K
theorem Zcx (aT:IntS w S A l) (aJ:IntS w S B p) (bz:∀ b,S b->b<w/\b≠n) (bM:l.length<=100000) (bK:p.length<=100000) (bo:ZX a=true) (ai:CaseOk w n) :
 Calls prog 147 #[.pointer (some ⟨n,0,none⟩),.slice A l k,.slice B p m,.int .i64 a] w (OpdPost l p a w n):=by
 obtain⟨aG,aN,aC,aq,aL⟩:=qA infoO;have L:=ai.lt;have bi:=hI aT;have bt:=hI aJ;have bu:=hI ai;clear aT aJ ai;have aw:=hI (fun b (af:S b)=>(bz b af).1);have bw:=hI (show OpI w (w.alloc (.cells #[.int .i64 0,.int .i64 0,.int .i64 0,.int .i64 0,.string ⟨#[]⟩] 110)) l p a 0 none 0 0 [] from ⟨Qe (fun _ h=>h.elim) yb _ _,yb,yb,(qa _ _).alloc nR _,qb w _⟩);go_enter func147,ntmps147
 go_wp2
 go_loopw [9,17] (fun aQ i wr=>∃ (cols:Nat) (K:Option Addr) (cb c:Nat) (W:List Opd),cols<=l/\i=.int .i64 cols/\aQ=.slice K cb c/\OpI w wr l p a cols K cb c W) (fun _ i _=>l.length - (intOf i).toNat)
 case atStart=>exact⟨0,none,0,0,[],qk _,rfl,rfl,bw⟩
 obtain⟨cols,K,cb,c,W,bc,rfl,rfl,I⟩:=hrel;have E:=hI I;have ay:=I.mkl.hi;have ae:=I.len;have am:=I.le;have aM:cb<=cols:=ya;clear I ae am
 by_cases aa:cols<l
 .obtain⟨bb,bf,rfl,bB,aj⟩:=(bi.keep (qS E.bel aw)).at_ aa;obtain⟨x,M⟩:=yp (l.getD cols 0);have av:=hI M;rw [M] at aj;clear M
  by_cases O:x=a
  .subst O;have ab:=hI (opd_col (p:=p) aa av)
   go_wp2_with (at_builtin;refine Zl rfl (.tmp 25) (.tmp 28) 290 rfl 48 underlying290 aN aC aq aL rfl yf E.mkl rfl #[.int .i64 1,.int .i64 cols,.int .i64 0,.int .i64 0,.string ⟨#[]⟩] (ZiR yf) (Zfa _) rfl 1 rfl ya ya ?_;intro bj bq bC Z F br;have ao:=hI (E.push Z F ab);clear Z F)
   go_roundw
   case rel=>exact⟨cols+1,_,_,_,_,ya,by go_num,rfl,ao⟩
   simp [intOf];omega
  have hd:(x == a)=false:=qf.2 O;clear O
  go_wp2
  go_roundw
  case rel=>exact⟨cols+1,_,_,_,_,ya,by go_num,rfl,⟨E.mkl,yl E.le,E.ok,E.bel,E.res⟩⟩
  simp [intOf];omega
 obtain rfl:cols=l.length:=by omega
 go_wp2
 go_loopw [9,33] (fun aQ i wr=>∃ (cols:Nat) (K:Option Addr) (cb c:Nat) (W:List Opd),cols<=p/\i=.int .i64 cols/\aQ=.slice K cb c/\OpI w wr l p a (l.length+cols) K cb c W) (fun _ i _=>p.length - (intOf i).toNat)
 case atStart=>exact⟨0,_,_,_,_,qk _,rfl,rfl,E⟩
 clear E aM ay;obtain⟨cols,K,cb,c,W,bc,rfl,rfl,I⟩:=hrel;have E:=hI I;have ay:=I.mkl.hi;have ae:=I.len;have am:=I.le;have aK:=hI ae;have aM:cb<=l+cols:=ya;clear I ae am
 by_cases aa:cols<p
 .obtain⟨bb,bf,rfl,bB,aj⟩:=(bt.keep (qS E.bel aw)).at_ aa;obtain⟨x,M⟩:=yp (p.getD cols 0);have av:=hI M;rw [M] at aj;clear M
  by_cases O:x=a
  .subst O;have ab:=hI (opd_par (l:=l) aa av)
   go_wp2_with (at_builtin;refine Zl rfl (.tmp 41) (.tmp 44) 290 rfl 48 underlying290 aN aC aq aL rfl yf E.mkl rfl #[.int .i64 2,.int .i64 cols,.int .i64 0,.int .i64 0,.string ⟨#[]⟩] (ZiR yf) (Zfa _) rfl 1 rfl ya ya ?_;intro bj bq bC Z F br;have ao:=hI (E.push Z F ab);clear Z F)
   go_roundw
   case rel=>exact⟨cols+1,_,_,_,_,ya,by go_num,rfl,ao⟩
   simp [intOf];omega
  have hd:(x == a)=false:=qf.2 O;clear O
  go_wp2
  go_roundw
  case rel=>exact⟨cols+1,_,_,_,_,ya,by go_num,rfl,⟨E.mkl,yl E.le,E.ok,E.bel,E.res⟩⟩
  simp [intOf];omega
 have bD:=hI (bu.keep (w':=wr) (fun b af=>E.bel.block b ya))
 go_wp2_with fail
 refine(Zal ya bD).mono ?_;rintro e H ⟨r,rfl,aR,aU,-,aY,ac,bL⟩;have aD:=hI aY;have aW:=hI (show w.grownBy H (some n) from (qW (X:=fun b=>b=n) E.bel).grown.trans ac);have bP:=aU ya;have z:H.heap[w.heap.size]?=some (.cells #[.int .i64 0,.int .i64 0,.int .i64 0,.int .i64 0,.string ⟨#[]⟩] 110 (0,0)):=(ac.block _ ya yj).trans E.res;have aB:=hI z;have aS:H.frozen? ⟨w,0,none⟩=false:=(by simp [World.frozen?,z]);have f1:H.frozen? ⟨w,1,none⟩=false:=(by simp [World.frozen?,z]);have az:H.frozen? ⟨w,2,none⟩=false:=(by simp [World.frozen?,z]);have f3:H.frozen? ⟨w,3,none⟩=false:=(by simp [World.frozen?,z]);have aA:H.frozen? ⟨w,4,none⟩=false:=(by simp [World.frozen?,z]);have aO:yr H w 0 (.int .i64 0):=Za z 0 _ rfl;have aE:yr H w 1 (.int .i64 0):=Za z 1 _ rfl;have aX:yr H w 2 (.int .i64 0):=Za z 2 _ rfl;have ax:yr H w 3 (.int .i64 0):=Za z 3 _ rfl;have aV:yr H w 4 (.string ⟨#[]⟩):=Za z 4 _ rfl;have aq:w.heap.size<H:=ya;have bm:=hI (E.mkl.keep (Zcc ac) (fun b af=>⟨ya,fun h=>h⟩));clear aY ac aU z
 by_cases bE:r<cb
 .obtain⟨ba,rfl⟩:=qn aR;have bg:ba<W:=(yl aK.out);obtain⟨-,bp,aF⟩:=bm.slice (by rw [Ze (n:=48) encOpd_bytes];have:=aK.out;omega);obtain⟨bF,bG,rfl,bk,ok,oi,R,U,N,aI,bI,bN,bO,bJ,bH⟩:=opd_at aF bg;have bl:=hI (E.ok _ aI);clear aF aI bk aR bp
  go_wp2_with fail
  have F:=put5 (a:=.int .i64 ok) (b:=.int .i64 oi) (c:=.int .i64 R) (d:=.int .i64 U) (e:=.string N) aB;have ar:=Za F 0 _ rfl;have ah:=Za F 1 _ rfl;have ap:=Za F 2 _ rfl;have an:=Za F 3 _ rfl;have ak:=Za F 4 _ rfl;exact qw (v:=.agg #[.int .i64 ok,.int .i64 oi,.int .i64 R,.int .i64 U,.string N]) (by simp [results,results147,go_sem,ar,ah,ap,an,ak]) rfl ⟨⟨ok,oi,⟨R,U,N⟩⟩,rfl,bl,Zf (Zf (Zf (Zf (Zf aD L) L) L) L) L,Zg (Zg (Zg (Zg (Zg aW nR) nR) nR) nR) nR⟩
 go_wp2_with fail
 refine(Zbx aD).mono ?_;rintro e w2 ⟨⟨R,U,N⟩,rfl,aP,aH,au⟩;have ab:=hI (ZiC (l:=l) (p:=p) bo aP);have bh:=hI aH;have bn:=hI (aW.trans au);have z:w2.heap[w.heap.size]?=some (.cells #[.int .i64 0,.int .i64 0,.int .i64 0,.int .i64 0,.string ⟨#[]⟩] 110 (0,0)):=(au.block _ ya yj).trans aB;clear aO aE aX ax aV aS f1 az f3 aA;have aZ:=hI z;have aS:w2.frozen? ⟨w,0,none⟩=false:=(by simp [World.frozen?,z]);have f1:w2.frozen? ⟨w,1,none⟩=false:=(by simp [World.frozen?,z]);have az:w2.frozen? ⟨w,2,none⟩=false:=(by simp [World.frozen?,z]);have f3:w2.frozen? ⟨w,3,none⟩=false:=(by simp [World.frozen?,z]);have aA:w2.frozen? ⟨w,4,none⟩=false:=(by simp [World.frozen?,z]);have aO:yr w2 w 0 (.int .i64 0):=Za z 0 _ rfl;have aE:yr w2 w 1 (.int .i64 0):=Za z 1 _ rfl;have aX:yr w2 w 2 (.int .i64 0):=Za z 2 _ rfl;have ax:yr w2 w 3 (.int .i64 0):=Za z 3 _ rfl;have aV:yr w2 w 4 (.string ⟨#[]⟩):=Za z 4 _ rfl;clear aP aH au z
 go_wp2_with fail
 have F:=put5 (a:=.int .i64 3) (b:=.int .i64 0) (c:=.int .i64 R) (d:=.int .i64 U) (e:=.string N) aZ;have ar:=Za F 0 _ rfl;have ah:=Za F 1 _ rfl;have ap:=Za F 2 _ rfl;have an:=Za F 3 _ rfl;have ak:=Za F 4 _ rfl;exact qw (v:=.agg #[.int .i64 3,.int .i64 0,.int .i64 R,.int .i64 U,.string N]) (by simp [results,results147,go_sem,ar,ah,ap,an,ak]) rfl ⟨⟨3,0,⟨R,U,N⟩⟩,rfl,ab,Zf (Zf (Zf (Zf (Zf bh L) L) L) L) L,Zg (Zg (Zg (Zg (Zg bn nR) nR) nR) nR) nR⟩
end Go.Proofs.YtjadnfodboepeaaGreat
