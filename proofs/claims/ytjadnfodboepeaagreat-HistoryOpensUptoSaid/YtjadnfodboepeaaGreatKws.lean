import Derived.Test.YtjadnfodboepeaaGreatKdl
set_option linter.all false
set_option maxRecDepth 100000
set_option maxHeartbeats 8000000
namespace Go.Proofs.YtjadnfodboepeaaGreat
open Tryz
open Go.RowKit
variable {w:World} {n k m i:Nat} {A B:Option Addr} {S:Nat->Prop} {a t z y tC:Int} {l p:List Int} {x xA xB:Value} {h hA:ByteArray} {Z:List Pred}
theorem infoP:(prog.info? 112).map (fun i=>(i.zero,i.size,i.bytes))=some (some (.agg #[.int .i64 0,.int .i64 0,.int .i64 0,.int .i64 0,.int .i64 0,.int .i64 0,.string ⟨#[]⟩,.int .i64 0,.int .i64 0,.int .i64 0,.int .i64 0,.string ⟨#[]⟩,.slice none 0 0]),13,136):=by kernel_rfl
theorem Zec (p:Pred):(encPred p).Plain:=by cases p;unfold encPred;simp [ZaL,encV,Dat.Plain,Dat.Pa,Value.oneCell']
theorem ZdJ {H M L I F:Int} (ac:Z.length<=n) (ab:h.size<=9223372036854775807) (aa:hA.size<=9223372036854775807) (K:PredS w S A Z):Dat.Vs w S (encPred (.mk a t ⟨z,y,⟨tC,H,h⟩⟩ ⟨M,L,⟨I,F,hA⟩⟩ Z)) #[.int .i64 a,.int .i64 t,.int .i64 z,.int .i64 y,.int .i64 tC,.int .i64 H,.string h,.int .i64 M,.int .i64 L,.int .i64 I,.int .i64 F,.string hA,.slice A Z n].toList:=by
 unfold encPred;simp only [Dat.Vs,Dat.Va,ZaL,encV,ZC,ZA];refine⟨[.int .i64 a],_,rfl,⟨rfl,trivial⟩,[.int .i64 t],_,rfl,⟨rfl,trivial⟩,[.int .i64 z,.int .i64 y,.int .i64 tC,.int .i64 H,.string h],_,rfl,?_,[.int .i64 M,.int .i64 L,.int .i64 I,.int .i64 F,.string hA],_,rfl,?_,[.slice A Z n],[],rfl,?_,rfl⟩
 .exact⟨[.int .i64 z],_,rfl,⟨rfl,trivial⟩,[.int .i64 y],_,rfl,⟨rfl,trivial⟩,[.int .i64 tC,.int .i64 H,.string h],[],rfl,⟨[.int .i64 tC],_,rfl,⟨rfl,trivial⟩,[.int .i64 H],_,rfl,⟨rfl,trivial⟩,[.string h],[],rfl,⟨rfl,ab⟩,rfl⟩,rfl⟩
 .exact⟨[.int .i64 M],_,rfl,⟨rfl,trivial⟩,[.int .i64 L],_,rfl,⟨rfl,trivial⟩,[.int .i64 I,.int .i64 F,.string hA],[],rfl,⟨[.int .i64 I],_,rfl,⟨rfl,trivial⟩,[.int .i64 F],_,rfl,⟨rfl,trivial⟩,[.string hA],[],rfl,⟨rfl,aa⟩,rfl⟩,rfl⟩
 rw [ZbV];exact⟨A,n,by rw [qg],by rw [qg];exact ac,K⟩
theorem wrap_d (h:n<=1000):IntKind.i64.wrap (n:Int)=n:=by
 simp [IntKind.wrap,IntKind.bits,IntKind.signed];omega
theorem fr13 {a3 a4 a5 a6 a7 a8 a9 a10 a11 a12:Value}:Fr (fun b=>b=n) w (((((((((((((w.setCell ⟨n,0,none⟩ x).setCell ⟨n,1,none⟩ xA).setCell ⟨n,2,none⟩ xB).setCell ⟨n,3,none⟩ a3).setCell ⟨n,4,none⟩ a4).setCell ⟨n,5,none⟩ a5).setCell ⟨n,6,none⟩ a6).setCell ⟨n,7,none⟩ a7).setCell ⟨n,8,none⟩ a8).setCell ⟨n,9,none⟩ a9).setCell ⟨n,10,none⟩ a10).setCell ⟨n,11,none⟩ a11).setCell ⟨n,12,none⟩ a12):=by
 repeat (refine Fr.setCell (X:=fun b=>b=n) ?_ _ (fun _=>rfl))
 exact Qa _ _
structure AoI (w w1 wr:World) (g:Nat) (op:Int) (cols params:List Int) (d m:Nat) (A:Option Addr) (n c:Nat) (L:List Pred):Prop where
 mkl:Mk wr (w1+1) (fun _=>False) 112 13 (.slice A n c) (L.map encPred)
 ml:L.length=m
 gen:∀ p ∈ L,GenP cols params (ND d) (d+1) p
 pb:wr.heap[w1.heap.size]?=some (.cells #[.int .i64 op,.int .i64 0,.int .i64 0,.int .i64 0,.int .i64 0,.int .i64 0,.string ⟨#[]⟩,.int .i64 0,.int .i64 0,.int .i64 0,.int .i64 0,.string ⟨#[]⟩,.slice A n c] 112 (0,0))
 case:CaseOk wr g
 gr:w.grownBy wr (some g)
 rb:wr.heap[w.heap.size]?=some zP
theorem AoI.len {w E wr:World} {g:Nat} {op:Int} {cols params:List Int} {d m:Nat} {A:Option Addr} {n c:Nat} {z:List Pred} (h:AoI w E wr g op cols params d m A n c z):n=z.length:=by have:=h.mkl.len;simpa using this
theorem AoI.next {w z wr N F:World} {g:Nat} {op:Int} {cols params:List Int} {d m:Nat} {A A':Option Addr} {n K c L:Nat} {R:List Pred} {p:Pred} (h:AoI w z wr g op cols params d m A n c R) (ai:g<w) (af:w.heap.size<z) (U:wr.grownBy N (some g)) (ae:CaseOk N g) (E:Below (z+1) N F) (ac:Mk F (z+1) (fun _=>False) 112 13 (.slice A' K L) (R.map encPred++[encPred p])) (ab:GenP cols params (ND d) (d+1) p) :
 AoI w z (F.setCell ⟨z,12,none⟩ (.slice A' K L)) g op cols params d (m+1) A' K L (R++[p]):=by
 have ah:=h.mkl.hi;have aa:Fr (fun b=>b=z.heap.size) F (F.setCell ⟨z,12,none⟩ (.slice A' K L)):=Fr.setCell (X:=fun b=>b=z.heap.size) (Qa _ _) _ (fun _=>rfl);have W:∀ b,b<z.heap.size+1->b≠g->F.heap[b]?=wr.heap[b]?:=fun b M O=>(E.block b M).trans (U.block b ya (fun e=>O (by injection e)));refine⟨by rw [qm];exact ac.keep aa (fun b E=>⟨ya,fun h=>h⟩),by simp [h.ml],fun q I=>?_,?_,?_,?_,?_⟩
 .rcases qH.1 I with I | I
  .exact h.gen q I
  rw [qy] at I;rw [I];exact ab
 .have H:F.heap[z.heap.size]?=some (.cells [.int .i64 op,.int .i64 0,.int .i64 0,.int .i64 0,.int .i64 0,.int .i64 0,.string ⟨#[]⟩,.int .i64 0,.int .i64 0,.int .i64 0,.int .i64 0,.string ⟨#[]⟩,.slice A n c].toArray 112 (0,0)):=(W _ ya ya).trans h.pb;have Z:=Zc (k:=12) (v:=.slice A' K L) H;simpa using Z
 .exact Zf (ae.keep (fun b M=>E.block b ya)) ya
 .have H:w.grownBy N (some g):=h.gr.trans U;exact Zg ⟨E.os.trans H.os,E.tape.trans H.tape,E.output.trans H.output,qD H.size E.size,fun b M O=>(E.block b ya).trans (H.block b M O)⟩ ya
 exact ZaD ya ((W _ ya ya).trans h.rb)
theorem tree_succ (dl:l.length<=100000) (di:p.length<=100000) (dU:0<l.length) (cD:ZG l=true) (c9:i<=1000) (cg:∀ (S:Nat->Prop) (w:World),IntS w S A l->IntS w S B p->(∀ b,S b->b<w/\b≠n)->CaseOk w n ->
 Calls prog 94 #[.pointer (some ⟨n,0,none⟩),.slice A l k,.slice B p m,.int .i64 (i:Int)] w (Zei l p i w n)):∀ (S:Nat->Prop) (w:World),IntS w S A l->IntS w S B p->(∀ b,S b->b<w/\b≠n)->CaseOk w n ->
 Calls prog 94 #[.pointer (some ⟨n,0,none⟩),.slice A l k,.slice B p m,.int .i64 ((i:Int)+1)] w (Zei l p (i+1) w n):=by
 obtain⟨dX,ee,dY,ew,dE⟩:=qA infoP;replace cD:=hI cD;replace cg:=hI cg;intro S w L bf K cG;have:decide ((i:Int)+1<1)=false:=qe ya;have:(i:Int)<=1000:=ya;have eI:=wrap_d c9;clear c9;obtain⟨ci,db,rfl,ez,-⟩:=L.at_ dU;have z:=cG.lt;have dM:∀ b,S b->b<w:=fun b E=>(K b E).1;have bM:=hI L;replace bf:=hI bf;replace K:=hI K;have c6:=hI (cG.keep (w':=w.alloc zP) (fun b E=>qd _ _ _ ya));have eb:(w.alloc zP).heap.size=w.heap.size+1:=yb;have dq:=hI (qY w zP (some n));have cZ:=hI (qb w zP);have:ci<w:=dM ci ez;clear L cG;go_enter func94,ntmps94
 go_wp2_with fail
 refine(Zal ya c6).mono ?_;rintro e ej ⟨r,rfl,eQ,aU,-,cA,cK,d6⟩;have eT:=aU ya;replace cA:=hI cA;have dj:=hI (dq.trans cK);have dw:=hI ((cK.block w ya yj).trans cZ);have eo:w.heap.size<ej:=ya;clear cK aU c6 dq cZ;go_upto_region 2 with fail
 go_cut [9,16] from 14 to 22 (fun dW em ay=>∃ c1:Bool,dW=.int .i64 r/\em=.bool c1/\CaseOk ay n/\w.grownBy ay (some n)/\ay.heap[w.heap.size]?=some zP/\w.heap.size<ay)
 case first =>
  by_cases cQ:r=0
  .subst cQ
   go_wp2_with fail
   refine(Zap ya ya cA).mono ?_;rintro e w2 ⟨el,rfl,cx,an,cr⟩
   go_wp2
   go_meet;exact⟨el,rfl,rfl,cx,dj.trans an,(an.block w ya yj).trans dw,ya⟩
  have:(r == 0)=false:=qf.2 cQ;clear cQ
  go_wp2
  go_meet;exact⟨false,rfl,rfl,cA,dj,dw,eo⟩
 obtain⟨c1,rfl,rfl,au,F,H,d5⟩:=hcut;obtain⟨w2,rfl⟩:∃ w2:World,w2=wc:=⟨_,rfl⟩;replace au:=hI au;replace F:=hI F;replace H:=hI H;cases c1
 .by_cases dT:r<6
  .go_wp2_with fail
   refine(Zal ya au).mono ?_;rintro e dt ⟨j,rfl,dA,aX,-,aC,aL,d1⟩;have eF:=aX ya;obtain⟨dv,rfl⟩:=qn dA;have c5:dv<l:=ya;replace aC:=hI aC;have H:=hI ((aL.block w ya yj).trans H);have F:=hI (F.trans aL);obtain⟨-,da⟩:=ZhW (bM.keep ((Zcc F).same K)) c5;have b4:=hI (Zew cD c5);generalize l.getD dv 0=aR at da b4;have ec:=hI (show aR≠0 by intro e;have:=b4.out;rw [e] at this;cases this);have:w.heap.size<dt:=ya;clear aL aX
   go_wp2_with fail
   refine(Zal ya aC).mono ?_;rintro e wc ⟨ao,rfl,p0,dy,-,cV,cF,eE⟩;have eU:=dy ya;replace cV:=hI cV;have H:=hI ((cF.block w ya yj).trans H);have F:=hI (F.trans cF);clear cF dy da
   go_wp2_with fail
   refine(Zcx (bM.keep ((Zcc F).same K)) (bf.keep ((Zcc F).same K)) (fun b E=>⟨yl ((K b E).1),(K b E).2⟩) dl di b4 cV).mono ?_;rintro e eR ⟨⟨ba,aY,⟨bh,aZ,bi⟩⟩,rfl,ch,cE,cz⟩;replace ch:=hI ch;replace cE:=hI cE;have H:=hI ((cz.block w ya yj).trans H);have F:=hI (F.trans cz);have eV:=cz.size;clear cz
   go_wp2_with fail
   refine(Zbx cE).mono ?_;rintro e M ⟨⟨bb,bj,bl⟩,rfl,dp,ar,cp⟩;have dm:=hI (ZiC (l:=l) (p:=p) b4 dp);replace ar:=hI ar;have H:=hI ((cp.block w ya yj).trans H);have F:=hI (F.trans cp);have eC:=cp.size;have ei:w.heap.size<M:=ya;have cv:n<M:=ya;have cq:w.heap.size<=M:=ya;have ca:w.heap.size≠M.heap.size:=ya;clear cp dp
   go_wp2_with fail
   have aN:=hI (qb M (.cells #[.int .i64 3,.int .i64 (1+ao),.int .i64 ba,.int .i64 aY,.int .i64 bh,.int .i64 aZ,.string bi,.int .i64 3,.int .i64 0,.int .i64 bb,.int .i64 bj,.string bl,.slice none 0 0] 112));have ar:=hI (ar.keep (w':=M.alloc (.cells #[.int .i64 3,.int .i64 (1+ao),.int .i64 ba,.int .i64 aY,.int .i64 bh,.int .i64 aZ,.string bi,.int .i64 3,.int .i64 0,.int .i64 bb,.int .i64 bj,.string bl,.slice none 0 0] 112)) (fun b E=>qd _ _ _ ya));have H:=hI ((qd M (.cells #[.int .i64 3,.int .i64 (1+ao),.int .i64 ba,.int .i64 aY,.int .i64 bh,.int .i64 aZ,.string bi,.int .i64 3,.int .i64 0,.int .i64 bb,.int .i64 bj,.string bl,.slice none 0 0] 112) _ ei).trans H);have F:=hI (F.trans (qY M (.cells #[.int .i64 3,.int .i64 (1+ao),.int .i64 ba,.int .i64 aY,.int .i64 bh,.int .i64 aZ,.string bi,.int .i64 3,.int .i64 0,.int .i64 bb,.int .i64 bj,.string bl,.slice none 0 0] 112) (some n)));refine(Zap ya ya ar).mono ?_;rintro e c7 ⟨dH,rfl,ar,an,cr⟩;have aN:=hI ((an.block M yb yj).trans aN);have H:=hI ((an.block w yd yj).trans H);replace ar:=hI ar;have F:=hI (F.trans an);have:M.heap.size<c7:=(by have:=an.size;simp at this;omega);clear an cr;have bg:=hI (show CmpI w c7 n M (1+ao) l p aR ⟨ba,aY,⟨bh,aZ,bi⟩⟩ ⟨3,0,⟨bb,bj,bl⟩⟩ from ⟨aN,H,ar,F,ch,dm⟩);clear aN H ar F ch dm;go_upto_if 58 with fail
   go_cut [11] (fun g ay=>∃ (cc ck co ct:Int) (cd:ByteArray),g=.pointer (some ⟨M,0,none⟩)/\CmpI w ay n M (1+ao) l p aR ⟨ba,aY,⟨bh,aZ,bi⟩⟩ ⟨cc,ck,⟨co,ct,cd⟩⟩)
   case first =>
    cases dH
    .go_wp2
     go_meet;exact⟨3,0,bb,bj,bl,rfl,bg⟩
    go_wp2_with fail
    refine(Zcx (bM.keep ((Zcc bg.gr).same K)) (bf.keep ((Zcc bg.gr).same K)) (fun b E=>⟨yl ((K b E).1),(K b E).2⟩) dl di b4 bg.case).mono ?_;rintro e eJ ⟨⟨cc,ck,⟨co,ct,cd⟩⟩,rfl,cS,dd,de⟩;have dh:=hI (bg.keep cq cv ca de dd z);replace cS:=hI cS;have aw:=dh.pb;obtain⟨bY,b2,bJ,f1,b9,bE,bt,f3,b7,bF,b5,bU,b6,bL,bR,br,bw,b1,bV,bO,bq,b3,bH,bD,bC,bz⟩:=ZY aw;clear dd de aw
    go_wp2
    go_meet;exact⟨cc,ck,co,ct,cd,rfl,dh.right cq cv ca cS⟩
   obtain⟨cc,ck,co,ct,cd,rfl,bu⟩:=hcut;replace bu:=hI bu;clear bg
   go_wp2_with fail
   refine(Zap ya ya bu.case).mono ?_;rintro e eG ⟨ep,rfl,cx,an,cr⟩;have cu:=hI (bu.keep cq cv ca an cx z);clear cx an cr bu;go_upto_if 66 with fail
   go_cut [11] (fun g ay=>∃ (bW bG bS b0:Int) (bZ:ByteArray) (bQ bT bN bI:Int) (bX:ByteArray),g=.pointer (some ⟨M,0,none⟩)/\CmpI w ay n M (1+ao) l p aR ⟨bW,bG,⟨bS,b0,bZ⟩⟩ ⟨bQ,bT,⟨bN,bI,bX⟩⟩)
   case first =>
    cases ep
    .go_wp2
     go_meet;exact⟨_,_,_,_,_,_,_,_,_,_,rfl,cu⟩
    have aw:=cu.pb;obtain⟨bY,b2,bJ,f1,b9,bE,bt,f3,b7,bF,b5,bU,b6,bL,bR,br,bw,b1,bV,bO,bq,b3,bH,bD,bC,bz⟩:=ZY aw;clear aw
    go_wp2
    go_meet;exact⟨_,_,_,_,_,_,_,_,_,_,rfl,cu.swap cq cv ca⟩
   obtain⟨bW,bG,bS,b0,bZ,bQ,bT,bN,bI,bX,rfl,cm⟩:=hcut;have aD:=hI cm;have aw:=cm.pb;have O:=cm.rb;obtain⟨bY,b2,bJ,f1,b9,bE,bt,f3,b7,bF,b5,bU,b6,bL,bR,br,bw,b1,bV,bO,bq,b3,bH,bD,bC,bz⟩:=ZY aw;obtain⟨dJ,du,d2,cy,en,eh,dZ,dG,dF,er,dQ,d4,et,dR,dO,dN,d0,dL,d8,dC,dD,d3,ey,eu,ev,dI⟩:=ZY O;have:M.heap.size<wc:=Zb aw;clear cm cu aw O
   go_wp2_with fail
   have b8:=Ziw (a0:=.int .i64 3) (a1:=.int .i64 (1+ao)) (a2:=.int .i64 bW) (a3:=.int .i64 bG) (a4:=.int .i64 bS) (a5:=.int .i64 b0) (a6:=.string bZ) (a7:=.int .i64 bQ) (a8:=.int .i64 bT) (a9:=.int .i64 bN) (a10:=.int .i64 bI) (a11:=.string bX) (a12:=.slice none 0 0) aD.rb;obtain⟨aT,-,aE,-,aS,-,aO,-,aK,-,aV,-,aF,-,aI,-,aP,-,aW,-,aH,-,aQ,-,aG,-⟩:=ZY b8;exact qw (v:=.agg #[.int .i64 3,.int .i64 (1+ao),.int .i64 bW,.int .i64 bG,.int .i64 bS,.int .i64 b0,.string bZ,.int .i64 bQ,.int .i64 bT,.int .i64 bN,.int .i64 bI,.string bX,.slice none 0 0]) (by simp [results,results94,go_sem,aT,aE,aS,aO,aK,aV,aF,aI,aP,aW,aH,aQ,aG]) rfl ⟨3,1+ao,⟨bW,bG,⟨bS,b0,bZ⟩⟩,⟨bQ,bT,⟨bN,bI,bX⟩⟩,[],none,0,rfl,(GenP.cmp ya ya ec aD.lo.1 aD.ro.1).more ZjJ ya,Qd,qp _,aD.lo.2,aD.ro.2,Zf (Zf (Zf (Zf (Zf (Zf (Zf (Zf (Zf (Zf (Zf (Zf (Zf (aD.case) z) z) z) z) z) z) z) z) z) z) z) z) z,Zg (Zg (Zg (Zg (Zg (Zg (Zg (Zg (Zg (Zg (Zg (Zg (Zg (aD.gr) nR) nR) nR) nR) nR) nR) nR) nR) nR) nR) nR) nR) nR⟩
  have:decide (r<6)=false:=qe dT;clear d6 eb
  by_cases cH:r=6
  .subst cH
   go_wp2_with fail
   refine(cg S _ (bM.keep ((Zcc F).same K)) (bf.keep ((Zcc F).same K)) (fun b E=>⟨yl ((K b E).1),(K b E).2⟩) au).mono ?_;rintro e I ⟨W,am,⟨ai,ab,⟨ac,Z,ae⟩⟩,⟨ak,af,⟨ah,aj,U⟩⟩,args,be,bc,rfl,ax,az,aA,aq,ap,aB,aa⟩;simp only at aq ap;replace ax:=hI ax;replace az:=hI az;replace aA:=hI aA;replace aq:=hI aq;replace ap:=hI ap;replace aB:=hI aB;have H:=hI ((aa.block w ya yj).trans H);have F:=hI (F.trans aa);have d7:=aa.size;have:w.heap.size<I:=ya;clear aa;have O:=H.out;obtain⟨bY,b2,bJ,f1,b9,bE,bt,f3,b7,bF,b5,bU,b6,bL,bR,br,bw,b1,bV,bO,bq,b3,bH,bD,bC,bz⟩:=ZY O;clear O
   go_wp2_with fail
   obtain⟨bK,cL⟩:=yp ((((((((((((((I.setCell ⟨w,0,none⟩ (.int .i64 6)).setCell ⟨w,1,none⟩ (.int .i64 0)).setCell ⟨w,2,none⟩ (.int .i64 0)).setCell ⟨w,3,none⟩ (.int .i64 0)).setCell ⟨w,4,none⟩ (.int .i64 0)).setCell ⟨w,5,none⟩ (.int .i64 0)).setCell ⟨w,6,none⟩ (.string ⟨#[]⟩)).setCell ⟨w,7,none⟩ (.int .i64 0)).setCell ⟨w,8,none⟩ (.int .i64 0)).setCell ⟨w,9,none⟩ (.int .i64 0)).setCell ⟨w,10,none⟩ (.int .i64 0)).setCell ⟨w,11,none⟩ (.string ⟨#[]⟩)).setCell ⟨w,12,none⟩ (.slice (some ⟨I,0,none⟩) 1 1)));have c8:=Ziw (a0:=.int .i64 6) (a1:=.int .i64 0) (a2:=.int .i64 0) (a3:=.int .i64 0) (a4:=.int .i64 0) (a5:=.int .i64 0) (a6:=.string ⟨#[]⟩) (a7:=.int .i64 0) (a8:=.int .i64 0) (a9:=.int .i64 0) (a10:=.int .i64 0) (a11:=.string ⟨#[]⟩) (a12:=.slice (some ⟨I,0,none⟩) 1 1) H;have bP:=fr13 (w:=I) (n:=w) (x:=.int .i64 6) (xA:=.int .i64 0) (xB:=.int .i64 0) (a3:=.int .i64 0) (a4:=.int .i64 0) (a5:=.int .i64 0) (a6:=.string ⟨#[]⟩) (a7:=.int .i64 0) (a8:=.int .i64 0) (a9:=.int .i64 0) (a10:=.int .i64 0) (a11:=.string ⟨#[]⟩) (a12:=.slice (some ⟨I,0,none⟩) 1 1);rw [cL] at c8 bP ⊢;have ds:bK.heap.size=I.heap.size:=(by rw [<-cL];simp);clear cL;obtain⟨av,aJ⟩:=yp (bK.alloc (.cells #[.int .i64 W,.int .i64 am,.int .i64 ai,.int .i64 ab,.int .i64 ac,.int .i64 Z,.string ae,.int .i64 ak,.int .i64 af,.int .i64 ah,.int .i64 aj,.string U,.slice be args bc] 112));have cJ:∀ b,b<I.heap.size->b≠w.heap.size->av.heap[b]?=I.heap[b]?:=(fun b aU cM=>by rw [<-aJ];exact(qd bK _ b ya).trans (bP.block b aU cM));have ex:av.heap[I.heap.size]?=some (.cells #[.int .i64 W,.int .i64 am,.int .i64 ai,.int .i64 ab,.int .i64 ac,.int .i64 Z,.string ae,.int .i64 ak,.int .i64 af,.int .i64 ah,.int .i64 aj,.string U,.slice be args bc] 112 (0,0)):=(by rw [<-aJ,<-ds];exact qb bK _);have ef:av.heap[w.heap.size]?=some (.cells #[.int .i64 6,.int .i64 0,.int .i64 0,.int .i64 0,.int .i64 0,.int .i64 0,.string ⟨#[]⟩,.int .i64 0,.int .i64 0,.int .i64 0,.int .i64 0,.string ⟨#[]⟩,.slice (some ⟨I,0,none⟩) 1 1] 112 (0,0)):=(by rw [<-aJ];exact(qd bK _ _ ya).trans c8);have:av.heap.size=I.heap.size+1:=(by rw [<-aJ];simp [ds]);have cI:av.os=I.os/\av.tape=I.tape/\av.output=I.output:=(by rw [<-aJ];exact⟨bP.os,bP.tape,bP.output⟩);rw [aJ];clear aJ;have d9:=hI (show PredS av (fun b=>w<b/\b<av) (some ⟨I,0,none⟩) [(.mk W am ⟨ai,ab,⟨ac,Z,ae⟩⟩ ⟨ak,af,⟨ah,aj,U⟩⟩ args)] from Qb (by rw [Ze (n:=136) ZL];simp) (Zw (ZdJ aA (yl aq.out) (yl ap.out) ((az.keep (fun b E=>cJ b E.2 (yl E.1))).more (fun b E=>⟨yl E.1,yl E.2⟩)))) (fun _=>⟨I.heap.size,0,rfl,⟨ya,ya⟩,Za ex⟩));obtain⟨aT,-,aE,-,aS,-,aO,-,aK,-,aV,-,aF,-,aI,-,aP,-,aW,-,aH,-,aQ,-,aG,-⟩:=ZY ef;have bk:=F.out;exact qw (v:=.agg #[.int .i64 6,.int .i64 0,.int .i64 0,.int .i64 0,.int .i64 0,.int .i64 0,.string ⟨#[]⟩,.int .i64 0,.int .i64 0,.int .i64 0,.int .i64 0,.string ⟨#[]⟩,.slice (some ⟨I,0,none⟩) 1 1]) (by simp [results,results94,go_sem,aT,aE,aS,aO,aK,aV,aF,aI,aP,aW,aH,aQ,aG]) rfl ⟨6,0,⟨0,0,v0⟩,⟨0,0,v0⟩,[(.mk W am ⟨ai,ab,⟨ac,Z,ae⟩⟩ ⟨ak,af,⟨ah,aj,U⟩⟩ args)],some ⟨I,0,none⟩,1,rfl,(GenP.node (m:=3) (l:=[(.mk W am ⟨ai,ab,⟨ac,Z,ae⟩⟩ ⟨ak,af,⟨ah,aj,U⟩⟩ args)]) (fun g dx=>by rw [qy] at dx;rw [dx];exact ax) yb (.inl ⟨rfl,rfl⟩)),d9,qp _,yf,yf,aB.keep (fun b E=>cJ b ya ya),⟨cI.1.trans bk.os,cI.2.1.trans bk.tape,cI.2.2.trans bk.output,yl bk.size,fun b aU cM=>(cJ b (yl bk.size) ya).trans (bk.block b aU cM)⟩⟩
  have:(r == 6)=false:=qf.2 cH;have:7<=r:=ya;clear cH
  go_wp2_with fail
  have aN:=hI (qb w2 (.cells #[.int .i64 (4+r - 7),.int .i64 0,.int .i64 0,.int .i64 0,.int .i64 0,.int .i64 0,.string ⟨#[]⟩,.int .i64 0,.int .i64 0,.int .i64 0,.int .i64 0,.string ⟨#[]⟩,.slice none 0 0] 112));have au:=hI (au.keep (w':=w2.alloc (.cells #[.int .i64 (4+r - 7),.int .i64 0,.int .i64 0,.int .i64 0,.int .i64 0,.int .i64 0,.string ⟨#[]⟩,.int .i64 0,.int .i64 0,.int .i64 0,.int .i64 0,.string ⟨#[]⟩,.slice none 0 0] 112)) (fun b E=>qd _ _ _ ya));have H:=hI ((qd w2 (.cells #[.int .i64 (4+r - 7),.int .i64 0,.int .i64 0,.int .i64 0,.int .i64 0,.int .i64 0,.string ⟨#[]⟩,.int .i64 0,.int .i64 0,.int .i64 0,.int .i64 0,.string ⟨#[]⟩,.slice none 0 0] 112) _ d5).trans H);have F:=hI (F.trans (qY w2 (.cells #[.int .i64 (4+r - 7),.int .i64 0,.int .i64 0,.int .i64 0,.int .i64 0,.int .i64 0,.string ⟨#[]⟩,.int .i64 0,.int .i64 0,.int .i64 0,.int .i64 0,.string ⟨#[]⟩,.slice none 0 0] 112) (some n)));refine(Zal ya au).mono ?_;rintro e dP ⟨c4,rfl,du,cy,-,df,cj,cY⟩;have eM:=cy ya;have eg:=hI (show AoI w w2 dP n (4+r - 7) l p i 0 none 0 0 [] from ⟨Qe (fun _ h=>h.elim) (by simp at cY;omega) _ _,rfl,yb,(cj.block w2 yb yj).trans aN,df,F.trans cj,(cj.block w yd yj).trans H⟩);clear df cj cY cy aN au H F
  go_wp2
  go_loopw [13] (fun cP wr=>∃ (cn:Int) (cols:Nat) (d:Option Addr) (cb c:Nat) (aM:List Pred),cP=.int .i64 cn/\-1<=cn/\cn<=2/\(cols:Int)=c4 - cn/\AoI w w2 wr n (4+r - 7) l p i cols d cb c aM) (fun cP _=>(intOf cP+1).toNat)
  case atStart=>exact⟨c4,0,none,0,0,[],rfl,ya,ya,yb,eg⟩
  obtain⟨cn,cols,d,cb,c,aM,rfl,eO,eN,eL,bm⟩:=hrel;have N:=hI bm;have bp:=bm.pb;have eD:=bm.mkl.hi;have dz:=bm.len;have dc:=bm.ml;have dk:=hI (show cb=aM.length/\aM.length=cols from ⟨dz,dc⟩);have dK:cb=cols:=ya;have:cb<=3:=ya;clear bm dz dc dK
  by_cases eP:0<=cn
  .have cX:yr wr w2 12 (.slice d cb c):=Za bp 12 _ rfl;have cW:wr.frozen? ⟨w2,12,none⟩=false:=(by simp [World.frozen?,bp]);have cC:=hI N.mkl;have cT:=hI (show w.grownBy wr.drew (some n) from ⟨N.gr.os,N.gr.tape,N.gr.output,N.gr.size,N.gr.block⟩);have dg:=hI (show CaseOk wr.drew n from N.case.keep (fun _ _=>rfl));clear bp
   go_wp2
   refine uS (fun w'=>w'.cell? ⟨w2,12,none⟩=some (.slice d cb c)/\w'.frozen? ⟨w2,12,none⟩=false) 11 12 fun Q' c3 cO=>?_;refine uR [0,7] cO ⟨cX,cW⟩ ?_;refine uQ 7 fun A L=>?_;have bB:=hI L;clear L;go_simp;refine(cg S _ (bM.keep ((Zcc cT).same K)) (bf.keep ((Zcc cT).same K)) (fun b E=>⟨by have:=(K b E).1;simp;omega,(K b E).2⟩) dg).mono ?_;rintro e I ⟨W,am,⟨ai,ab,⟨ac,Z,ae⟩⟩,⟨ak,af,⟨ah,aj,U⟩⟩,args,be,bc,rfl,ax,az,aA,aq,ap,aB,aa⟩;simp only at aq ap;replace ax:=hI ax;replace az:=hI az;replace aA:=hI aA;replace aq:=hI aq;replace ap:=hI ap;replace aB:=hI aB;have bo:=hI (show wr.grownBy I (some n) from ⟨aa.os,aa.tape,aa.output,aa.size,aa.block⟩);have d7:wr.heap.size<=I:=bo.size;have cw:=(ql (w:=wr) (bo.block w2 ya yj)).trans cX;have cf:=(World.frozen?_of_block (w:=wr) (bo.block w2 ya yj)).trans cW;clear aa;refine bB _ _ (fun _=>⟨cw,cf⟩) ?_;clear bB A
   try simp only [Act.put,psA,psB,psC]
   refine uQ 8 fun A L=>?_;have bB:=hI L;clear L;go_simp;have dB:(I.alloc (.cells #[.int .i64 W,.int .i64 am,.int .i64 ai,.int .i64 ab,.int .i64 ac,.int .i64 Z,.string ae,.int .i64 ak,.int .i64 af,.int .i64 ah,.int .i64 aj,.string U,.slice be args bc] 112)).cell? ⟨w2,12,none⟩=_:=(Zh ya).trans cw;have l2:(I.alloc (.cells #[.int .i64 W,.int .i64 am,.int .i64 ai,.int .i64 ab,.int .i64 ac,.int .i64 Z,.string ae,.int .i64 ak,.int .i64 af,.int .i64 ah,.int .i64 aj,.string U,.slice be args bc] 112)).frozen? ⟨w2,12,none⟩=_:=(ZK ya).trans cf;refine bB _ _ (fun _=>⟨dB,l2⟩) ?_;clear bB A
   try simp only [Act.put,psA,psB,psC]
   refine uQ 9 fun A L=>?_;refine Zbc yg (.tmp 96) (.tmp 103) _ yg 136 underlying102 ee dY ew dE rfl yf (cC.keep (Zcc bo) (fun b E=>⟨ya,fun h=>h⟩)) yg #[.int .i64 W,.int .i64 am,.int .i64 ai,.int .i64 ab,.int .i64 ac,.int .i64 Z,.string ae,.int .i64 ak,.int .i64 af,.int .i64 ah,.int .i64 aj,.string U,.slice be args bc] (ZdJ aA (yl aq.out) (yl ap.out) (az.more (fun b E=>.inr ⟨by have:=E.1;simp at this;omega,E.2,fun e=>by have:=(cC.base_le e.symm).2;have:=E.1;simp at this;omega⟩))) (Zec _) (ZbW _) 1 yg ya ya ?_;intro eB eS eA ce bn eH;have cR:=c9J bn cw;have cU:=(bn.frozen (p:=⟨w2,12,none⟩) (by show w2.heap.size<_;omega)).trans cf;replace ce:=hI ce;replace bn:=hI bn;refine L _ _ (fun _=>⟨cR,cU⟩) ?_;clear L A
   try simp only [Act.put,psA,psB,psC]
   refine uR [10,1] cO ⟨cR,cU⟩ ?_;refine uQ 11 fun A L=>?_;replace L:=hI L;go_simp;refine L _ _ nD ?_;clear L A;refine uE c3 ?_;clear c3 cO Q';have dV:=hI (N.next (p:=(.mk W am ⟨ai,ab,⟨ac,Z,ae⟩⟩ ⟨ak,af,⟨ah,aj,U⟩⟩ args)) z ya bo aB bn ce ax);clear cC cT dg bo aB bn ce ax az aA aq ap cw cf dB l2 cR cU cX cW
   go_wp2
   go_roundw
   case rel=>exact⟨cn - 1,cols+1,_,_,_,_,rfl,ya,ya,by push_cast;omega,dV⟩
   simp [intOf];omega
  have O:=N.rb;obtain⟨bY,b2,bJ,f1,b9,bE,bt,f3,b7,bF,b5,bU,b6,bL,bR,br,bw,b1,bV,bO,bq,b3,bH,bD,bC,bz⟩:=ZY bp;obtain⟨dJ,du,d2,cy,en,eh,dZ,dG,dF,er,dQ,d4,et,dR,dO,dN,d0,dL,d8,dC,dD,d3,ey,eu,ev,dI⟩:=ZY O;replace O:=hI O;clear bp
  go_wp2_with fail
  obtain⟨-,ea,dS⟩:=N.mkl.slice (by rw [Ze (n:=136) ZL];have:=dk.out;omega);have cN:=hI (show aM.length=cb by have:=dk.out;omega);have b8:=Ziw (a0:=.int .i64 (4+r - 7)) (a1:=.int .i64 0) (a2:=.int .i64 0) (a3:=.int .i64 0) (a4:=.int .i64 0) (a5:=.int .i64 0) (a6:=.string ⟨#[]⟩) (a7:=.int .i64 0) (a8:=.int .i64 0) (a9:=.int .i64 0) (a10:=.int .i64 0) (a11:=.string ⟨#[]⟩) (a12:=.slice d cb c) O;obtain⟨aT,-,aE,-,aS,-,aO,-,aK,-,aV,-,aF,-,aI,-,aP,-,aW,-,aH,-,aQ,-,aG,-⟩:=ZY b8;exact qw (v:=.agg #[.int .i64 (4+r - 7),.int .i64 0,.int .i64 0,.int .i64 0,.int .i64 0,.int .i64 0,.string ⟨#[]⟩,.int .i64 0,.int .i64 0,.int .i64 0,.int .i64 0,.string ⟨#[]⟩,.slice d cb c]) (by simp [results,results94,go_sem,aT,aE,aS,aO,aK,aV,aF,aI,aP,aW,aH,aQ,aG]) rfl ⟨4+r - 7,0,⟨0,0,v0⟩,⟨0,0,v0⟩,aM,d,c,by rw [cN],(GenP.node (m:=3) N.gen (yl cN.out) ya),(qZ (qU dS (fun b E=>by have aU:w2.heap.size+1<=b:=E.elim (fun h=>h.elim) (fun h=>h.1);refine(qc _ ⟨w,_,none⟩ _ b (by show b≠w.heap.size;omega)).trans ?_;refine(qc _ ⟨w,_,none⟩ _ b (by show b≠w.heap.size;omega)).trans ?_;refine(qc _ ⟨w,_,none⟩ _ b (by show b≠w.heap.size;omega)).trans ?_;refine(qc _ ⟨w,_,none⟩ _ b (by show b≠w.heap.size;omega)).trans ?_;refine(qc _ ⟨w,_,none⟩ _ b (by show b≠w.heap.size;omega)).trans ?_;refine(qc _ ⟨w,_,none⟩ _ b (by show b≠w.heap.size;omega)).trans ?_;refine(qc _ ⟨w,_,none⟩ _ b (by show b≠w.heap.size;omega)).trans ?_;refine(qc _ ⟨w,_,none⟩ _ b (by show b≠w.heap.size;omega)).trans ?_;refine(qc _ ⟨w,_,none⟩ _ b (by show b≠w.heap.size;omega)).trans ?_;refine(qc _ ⟨w,_,none⟩ _ b (by show b≠w.heap.size;omega)).trans ?_;refine(qc _ ⟨w,_,none⟩ _ b (by show b≠w.heap.size;omega)).trans ?_;refine(qc _ ⟨w,_,none⟩ _ b (by show b≠w.heap.size;omega)).trans ?_;refine(qc _ ⟨w,_,none⟩ _ b (by show b≠w.heap.size;omega)).trans ?_;rfl)) (fun b E=>E.elim (fun h=>h.elim) (fun h=>⟨yl h.1,by have:=h.2;simp;omega⟩))),by rw [cN];exact ea,yf,yf,Zf (Zf (Zf (Zf (Zf (Zf (Zf (Zf (Zf (Zf (Zf (Zf (Zf (N.case) z) z) z) z) z) z) z) z) z) z) z) z) z,Zg (Zg (Zg (Zg (Zg (Zg (Zg (Zg (Zg (Zg (Zg (Zg (Zg (N.gr) nR) nR) nR) nR) nR) nR) nR) nR) nR) nR) nR) nR) nR⟩
 go_wp2_with fail
 refine(Zal ya au).mono ?_;rintro e dt ⟨j,rfl,dA,aX,-,aC,aL,d1⟩;have ek:=hI (show 1+j=1\/1+j=2 by have:=aX ya;omega);replace aC:=hI aC;have H:=hI ((aL.block w ya yj).trans H);have F:=hI (F.trans aL);have eK:=aX ya;clear aL aX;have O:=H.out;obtain⟨bY,b2,bJ,f1,b9,bE,bt,f3,b7,bF,b5,bU,b6,bL,bR,br,bw,b1,bV,bO,bq,b3,bH,bD,bC,bz⟩:=ZY O;clear O
 go_wp2_with fail
 have b8:=Ziw (a0:=.int .i64 (1+j)) (a1:=.int .i64 0) (a2:=.int .i64 0) (a3:=.int .i64 0) (a4:=.int .i64 0) (a5:=.int .i64 0) (a6:=.string ⟨#[]⟩) (a7:=.int .i64 0) (a8:=.int .i64 0) (a9:=.int .i64 0) (a10:=.int .i64 0) (a11:=.string ⟨#[]⟩) (a12:=.slice none 0 0) H;obtain⟨aT,-,aE,-,aS,-,aO,-,aK,-,aV,-,aF,-,aI,-,aP,-,aW,-,aH,-,aQ,-,aG,-⟩:=ZY b8;exact qw (v:=.agg #[.int .i64 (1+j),.int .i64 0,.int .i64 0,.int .i64 0,.int .i64 0,.int .i64 0,.string ⟨#[]⟩,.int .i64 0,.int .i64 0,.int .i64 0,.int .i64 0,.string ⟨#[]⟩,.slice none 0 0]) (by simp [results,results94,go_sem,aT,aE,aS,aO,aK,aV,aF,aI,aP,aW,aH,aQ,aG]) rfl ⟨1+j,0,⟨0,0,v0⟩,⟨0,0,v0⟩,[],none,0,rfl,(GenP.leaf ek).more ZjJ ya,Qd,qp _,yf,yf,Zf (Zf (Zf (Zf (Zf (Zf (Zf (Zf (Zf (Zf (Zf (Zf (Zf (aC) z) z) z) z) z) z) z) z) z) z) z) z) z,Zg (Zg (Zg (Zg (Zg (Zg (Zg (Zg (Zg (Zg (Zg (Zg (Zg (F) nR) nR) nR) nR) nR) nR) nR) nR) nR) nR) nR) nR) nR⟩
theorem ZeR:Calls prog 204 #[.int .i64 a] w (fun e w'=>e=.returned (.bool (ZX a))/\w'=w):=by
 by_cases E:a=3
 .subst E;go_enter func204,ntmps204
  go_wp2
  go_ret;exact⟨rfl,rfl⟩
 have:(a == 3)=false:=qf.2 E
 by_cases z:a=4
 .subst z;go_enter func204,ntmps204
  go_wp2
  go_ret;exact⟨rfl,rfl⟩
 have:(a == 4)=false:=qf.2 z;have F:=hI (show ZX a=(a == 5) by unfold ZX;simp [E,z];rfl);clear E z;go_enter func204,ntmps204
 go_wp2
 go_ret;exact⟨by rw [F];rfl,rfl⟩
theorem Zaj (h:IntS w S A l):Calls prog 148 #[.slice A l n] w (fun e w'=>e=.returned (.bool (ZG l))/\w'=w):=by
 have U:=h.len;replace h:=hI h;go_enter func148,ntmps148
 go_wp2
 go_loopw [7] (fun i wr=>∃ k:Nat,k<=l/\i=.int .i64 k/\ZG l=ZG (l.drop k)/\wr=w) (fun i _=>l.length - (intOf i).toNat)
 case atStart=>exact⟨0,qk _,rfl,yb,rfl⟩
 obtain⟨k,O,rfl,z,rfl⟩:=hrel;replace z:=hI z
 by_cases H:k<l
 .obtain⟨R,Z,rfl,W,I⟩:=h.at_ H;have E:=hI (ZeV l k H);generalize l.getD k 0=x at I E
  go_wp2_with fail
  refine(ZeR).mono ?_;rintro e N ⟨rfl,rfl⟩;obtain⟨K,F⟩:=yp (ZX x);rw [F] at E ⊢;clear F;cases K
  .go_wp2
   go_ret;exact⟨by rw [z,E];rfl,rfl⟩
  go_wp2
  go_roundw
  case rel=>exact⟨k+1,ya,by go_num,by rw [z,E];rfl,trivial⟩
  simp [intOf];omega
 have M:=hI (show ZG l=true by rw [z,show k=l.length by omega,qQ];rfl)
 go_wp2
 go_ret;exact⟨by rw [M];rfl,rfl⟩
theorem nodesP_range (p:Pred) (n:Int) (F:0<=n) (h:n<=24):0<=nodesP p n/\nodesP p n<=25:=by
 have z:=nodesP_spec p n h
 by_cases E:cntP p+n<=24
 .rw [z.1 E];omega
 rw [z.2 ya];omega
theorem rnodes_any:∀ (n:Nat) (op cmp:Int) (l r:Opd) (args:List Pred) (A:Option Addr) (c:Nat) (m:Int) (S:Nat->Prop) (w:World),SizeOf.sizeOf (Pred.mk op cmp l r args)<=n->PredS w S A args->(∀ x,S x->x<w)->0<=m->m<=24 ->
 Calls prog 149 #[pAgg op cmp l r A args c,.int .i64 m] w (Zaz (nodesP (.mk op cmp l r args) m) w):=by
 intro n;induction n with
 | zero=>intro op cmp l r args A c m S w I;simp at I
 | succ n ac =>
  intro op cmp l r args A c m S w I H ae aI aJ;have aT:=H.len;replace H:=hI H;replace ac:=hI ac;have ay:=hI (show SizeOf.sizeOf args<=n by simp at I;omega);have aj:=hI (show nodesP (.mk op cmp l r args) m=nodesL args (m+1) by unfold nodesP;rfl);clear I;have ao:=hI ((qa w w).alloc nR (.cells #[.int .i64 op,.int .i64 cmp,.int .i64 l.kind,.int .i64 l.index,.int .i64 l.value.k,.int .i64 l.value.i,.string l.value.t,.int .i64 r.kind,.int .i64 r.index,.int .i64 r.value.k,.int .i64 r.value.i,.string r.value.t,.slice A args c] 112));go_enter func149,ntmps149
  go_wp2
  go_loopw [1,5] (fun v i wr=>∃ (k:Nat) (x:Int),k<=args/\i=.int .i64 k/\v=.int .i64 x/\0<=x/\x<=25/\nodesL args (m+1)=nodesL (args.drop k) x/\Below w w wr/\yr wr w 12 (.slice A args c)/\w.heap.size<wr) (fun _ i _=>args.length - (intOf i).toNat)
  case atStart=>exact⟨0,m+1,qk _,rfl,rfl,ya,ya,yb,ao,Zm rfl rfl,yb⟩
  obtain⟨k,x,aH,rfl,rfl,an,aL,E,ab,ai,av⟩:=hrel;replace E:=hI E;have F:=hI ab;have ax:=ab.size;clear ab
  by_cases N:k<args
  .by_cases aa:x<=24
   .have M:=hI (nodesL_drop args x k N);obtain⟨am,aK,rfl,aA,U,R,W,L,Z,A',ap,O,z⟩:=(H.keep (qS F ae)).at_ N;have f1:=z.fop;have aR:=z.fcmp;have f3:=z.lk;have aS:=z.li;have aN:=z.lvk;have aO:=z.lvi;have aG:=z.lvt;have aE:=z.rk;have aU:=z.ri;have aF:=z.rvk;have aP:=z.rvi;have aM:=z.rvt;have aV:=z.fargs;have aB:=hI z;have az:=hI (Zdd N O);have:am<wr:=(yl (ae am aA));have aQ:=z.pS.len;rw [O] at M;have ah:=hI (nodesP_range (.mk U R W L Z) x an aa);clear z O
    go_wp2_with fail
    refine(ac U R W L Z A' ap x S _ (ym az.out ay.out) aB.pS (fun b ar=>yl (ae b ar)) an aa).mono ?_;rintro e w2 ⟨rfl,K⟩;have au:=hI (F.trans (K.mono ax));have aD:=c9Q K av ai;have aw:w.heap.size<w2:=(yl K.size);clear K ai;obtain⟨y,ak⟩:=yp (nodesP (.mk U R W L Z) x);rw [ak] at M ah ⊢;clear ak;obtain⟨aC,aq⟩:=ah.out
    go_wp2
    go_roundw
    case rel=>exact⟨k+1,y,ya,by go_num,rfl,aC,aq,by rw [E,M,qr aa],au,aD,aw⟩
    simp [intOf];omega
   have af:=hI (show nodesL args (m+1)=x by rw [E,Zer _ _ ya])
   go_wp2
   go_ret;exact⟨by rw [aj,af];rfl,F⟩
  have af:=hI (show nodesL args (m+1)=x by rw [E,show k=args.length by omega,qQ];unfold nodesL;rfl)
  go_wp2
  go_ret;exact⟨by rw [aj,af];rfl,F⟩
theorem rdeep_any:∀ (n:Nat) (op cmp:Int) (l r:Opd) (args:List Pred) (A:Option Addr) (c:Nat) (m:Int) (S:Nat->Prop) (w:World),SizeOf.sizeOf (Pred.mk op cmp l r args)<=n->PredS w S A args->(∀ x,S x->x<w)->0<=m->m<=100 ->
 Calls prog 150 #[pAgg op cmp l r A args c,.int .i64 m] w (ZH (deepP (.mk op cmp l r args) m) w):=by
 intro n;induction n with
 | zero=>intro op cmp l r args A c m S w L;simp at L
 | succ n W =>
  intro op cmp l r args A c m S w L K Z aE aF;have aO:=K.len;replace K:=hI K;replace W:=hI W;have au:=hI (show SizeOf.sizeOf args<=n by simp at L;omega);clear L;have ac:=hI ((qa w w).alloc nR (.cells #[.int .i64 op,.int .i64 cmp,.int .i64 l.kind,.int .i64 l.index,.int .i64 l.value.k,.int .i64 l.value.i,.string l.value.t,.int .i64 r.kind,.int .i64 r.index,.int .i64 r.value.k,.int .i64 r.value.i,.string r.value.t,.slice A args c] 112))
  by_cases I:m=0
  .have H:=hI (show deepP (.mk op cmp l r args) m=true by unfold deepP;rw [qr I]);subst I;go_enter func150,ntmps150
   go_wp2
   go_ret;exact⟨by rw [H];rfl,ac⟩
  have H:=hI (show deepP (.mk op cmp l r args) m=deepL args (m - 1) by unfold deepP;rw [qo I]);have:(m == 0)=false:=qf.2 I;have:1<=m:=ya;go_enter func150,ntmps150
  go_wp2
  go_loopw [11] (fun i wr=>∃ (k:Nat),k<=args/\i=.int .i64 k/\deepL args (m - 1)=deepL (args.drop k) (m - 1)/\Below w w wr/\yr wr w 12 (.slice A args c)/\w.heap.size<wr) (fun i _=>args.length - (intOf i).toNat)
  case atStart=>exact⟨0,qk _,rfl,yb,ac,Zm rfl rfl,yb⟩
  obtain⟨k,aC,rfl,E,U,ab,ap⟩:=hrel;replace E:=hI E;have R:=hI U;have ar:=U.size;clear U
  by_cases N:k<args
  .have F:=hI (deepL_drop args (m - 1) k N);obtain⟨ak,aG,rfl,aw,af,ae,aj,aa,am,A',an,O,z⟩:=(K.keep (qS R Z)).at_ N;have f1:=z.fop;have aM:=z.fcmp;have f3:=z.lk;have aN:=z.li;have aI:=z.lvk;have aJ:=z.lvi;have aD:=z.lvt;have aA:=z.rk;have aP:=z.ri;have aB:=z.rvk;have aK:=z.rvi;have aH:=z.rvt;have aQ:=z.fargs;have ax:=hI z;have av:=hI (Zdd N O);have:ak<wr:=(yl (Z ak aw));have aL:=z.pS.len;rw [O] at F;clear z O
   go_wp2_with fail
   refine(W af ae aj aa am A' an (m - 1) S _ (ym av.out au.out) ax.pS (fun b ao=>yl (Z b ao)) ya ya).mono ?_;rintro e w2 ⟨rfl,M⟩;have ah:=hI (R.trans (M.mono ar));have az:=c9Q M ap ab;have aq:w.heap.size<w2:=(yl M.size);clear M ab;obtain⟨y,ai⟩:=yp (deepP (.mk af ae aj aa am) (m - 1));rw [ai] at F ⊢;clear ai;cases y
   .go_wp2
    go_roundw
    case rel=>exact⟨k+1,ya,by go_num,by rw [E,F];rfl,ah,az,aq⟩
    simp [intOf];omega
   go_wp2
   go_ret;exact⟨by rw [H,E,F];rfl,ah⟩
  have ay:=hI (show deepL args (m - 1)=false by rw [E,show k=args.length by omega,qQ];unfold deepL;rfl)
  go_wp2
  go_ret;exact⟨by rw [H,ay];rfl,R⟩
end Go.Proofs.YtjadnfodboepeaaGreat
