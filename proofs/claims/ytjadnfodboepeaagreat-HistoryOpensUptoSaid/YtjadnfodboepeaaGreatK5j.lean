import Derived.Test.YtjadnfodboepeaaGreatKze
set_option linter.all false
set_option maxRecDepth 100000
set_option maxHeartbeats 8000000
namespace Go.Proofs.YtjadnfodboepeaaGreat
open Tryz
open Go Go.RowKit
variable {w:World} {n k m i:Nat} {A B A':Option Addr} {S:Nat->Prop} {x xA xB:Value} {s:Sch} {F:Nat->Value}
theorem infoStb:(prog.info? 28).map (fun i=>(i.zero,i.size,i.bytes))=some (some (.agg #[.slice none 0 0]),1,24):=by kernel_rfl
theorem vals_sts {st:St} (z:st.length<=n) (E:StS w S A st):Dat.Vs w S (Zbg st) [.slice A st n]:=by
 unfold Zbg Dat.Vs;exact⟨A,n,yb,by simpa using z,E⟩
theorem found_any (h:Nat) {df:Value} (ea:Nat) {ac:List Lg} {st:St}  
 (b0:w.heap[h]?=some (.cells (hisL A n k s B m i x xA xB df).toArray 131 (0,0))) (cK:TabS w S B s.tt) (c7:LgsS w S A' ac) (cu:ac.length=n) (dx:∀ b,S b->b<w/\b≠h)
 (cH:∀ q,q<n->(ac.getD q lg0).state=prtS s (qh n q) st) (cE:∀ q,q<n->(ac.getD q lg0).notes=[]) (du:∀ q,q<n->∀ cn,cn<(ac.getD q lg0).parts.length->(i:Int)<((ac.getD q lg0).parts.getD cn ent0).co) (cY:∀ q,q<n->(ac.getD q lg0).parts.length<=1000000)
 (dz:1<=n) (d9:n<=4) (cC:schF pcF s=0) (cz:StOk s 1 st) (cj:Zi st<=512) :
 Calls prog 111 #[.pointer (some ⟨h,0,none⟩),.slice A' n ea] w fun e w'=>e=.returned (.bool true)/\∃ da cN,w'.heap[h]?=some (.cells (hisL A n k s B m i (.slice da st cN) xA xB df).toArray 131 (0,0))/\st.length<=cN/\StS w' (fun b=>w<=b/\b<w') da st/\Fr (fun b=>b=h) w w':=by
 obtain⟨dR,d8,dP,d7,dO⟩:=qA infoStb;have bR:=hI b0;have di:=hI cK;have db:=hI c7;have cZ:=hI cu;have R:=hI dx;have ej:=hI cH;have dL:=hI cE;have dv:=hI du;have cO:=hI cY;have aL:=hI cC;have cW:=hI cz;have cG:=hI cj;have bB:=Zb b0;clear b0 cK c7 cu dx cH cE du cY cC cz cj;go_enter func111,ntmps111
 go_wp2
 go_loopw [5,23] (fun ec cs ah=>∃ (q:Nat) (aO:Option Addr) (bf:Nat),q<=n/\cs=.int .i64 (q:Int)/\ec=.slice aO q bf/\Mk ah w (fun _=>False) 28 1 (.slice aO q bf) (((Zar s n st).take q).map Zbg)/\Below w w ah) (fun _ cs _=>n - (intOf cs).toNat)
 case atStart=>exact⟨0,none,0,qk _,rfl,rfl,by simpa using Qe (w:=w) (fun b z=>z.elim) nR _ _,qa _ _⟩
 obtain⟨Z,rfl⟩:∃ Z:World,Z=wr:=⟨_,rfl⟩;obtain⟨q,aO,bf,ew,rfl,rfl,b1,cT⟩:=hrel;have b7:=hI b1;have aj:=hI cT;have et:=b1.hi;clear b1 cT;have c9:=hI ((aj.block _ bB).trans bR);rcases qv q n with ba | cd
 .obtain⟨dI,dQ,au,aw,bn,aW,aT,aP,rfl,ei,ao,aK,aJ,aF,ax,aH⟩:=Ql (show LgsS Z S A' ac from qU db (qS aj (fun b z=>(R b z).1))) (k:=q) (yl cZ.out);have bE:=ej q ba;have b9:=dL q ba;have an:=dv q ba;have bl:=cO q ba;have cp:=hI (show (Zar s n st).take (q+1)=(Zar s n st).take q++[prtS s (qh n q) st] by rw [qj (by rw [ZaK];exact ba)];simp [Zar]);generalize ac.getD q lg0=l at ao aK aJ aF ax aH bE b9 an bl;obtain⟨lb,bJ,F,dd,O⟩:=l;simp only at ao aK aJ aF ax aH bE b9 an bl;have bY:=Zix (qh n q) cW (s:=s);have b4:Zi (prtS s (qh n q) st)<=512:=qD (Zen _) cG;rw [<-bE] at bY b4 cp;clear bE;subst b9;have bS:=hI ao;have de:=hI bY;have bL:=hI b4;have bW:=hI an;clear ao bY b4 an;simp only [Qp] at ax;obtain⟨aI,U,bt,aZ,bP,aG⟩:=ag Z (.cells #[.bool lb,.int .i64 bJ,.slice au F aw,.slice bn 0 aW,.slice aT O aP] 197);have bP:=bP.out;have ap:=hI bP;clear bP;have ee:Z<=U/\U<=Z:=ya;have dk:=Zb aG;have d0:yr aI U 3 (.slice bn 0 aW):=Za aG 3 _ rfl;have bZ:yr aI U 4 (.slice aT O aP):=Za aG 4 _ rfl
  go_upto_block 2 with fail
  try rw [bt]
  try rw [aZ]
  clear bt aZ aK aJ aF ax aH
  go_wp2
  go_loopw [30] (fun cs ah=>cs=.int .i64 0/\ah=aI) (fun cs _=>0)
  case atStart=>exact⟨rfl,rfl⟩
  obtain⟨rfl,rfl⟩:=hrel;obtain⟨w2,rfl⟩:∃ w2:World,w2=wr:=⟨_,rfl⟩
  go_upto_block 4 with fail
  go_cut [8] from 43 to 61 (fun c aa=>c=.slice none 0 0/\Below w2 w2 aa)
  case first =>
   go_wp2
   go_loopw [8,46] (fun c cs ah=>c=.slice none 0 0/\cs=.int .i64 0/\ah=w2) (fun _ cs _=>0)
   case atStart=>exact⟨rfl,rfl,rfl⟩
   obtain⟨rfl,rfl,rfl⟩:=hrel;obtain⟨M,rfl⟩:∃ M:World,M=wr:=⟨_,rfl⟩;rcases qF O.length with ay | ay
   .obtain rfl:O=[]:=qN ay;clear ay
    go_wp2
    go_meet;exact⟨rfl,qa _ _⟩
   obtain⟨dJ,dA,cL,dq,cM,cm,cJ,ci,b6,ef,-,be,bk,bo,bh,aY⟩:=Qh (bS.s3.keep (qS ap (fun b z=>ym ((R b z).1) aj.size))) (k:=0) ay;subst b6;have b5:=bW 0 ay;generalize O.getD 0 ent0=bp at be bk bo bh aY b5;simp only [Nat.zero_mul,Nat.add_zero] at be bk bo bh aY;have:yr M h 4 (.int .i64 (i:Int)):=c9Q ap (by have:=aj.size;show h<_;omega) (Za c9 4 _ rfl);have:h<M:=by have:=aj.size;have:=ap.size;omega
   go_wp2
   go_quiet (fail)
   go_wp2
   go_meet;exact⟨rfl,below_drewN ((qa _ _).alloc nR _) _⟩
  obtain⟨rfl,bT⟩:=hcut;have ca:=ap.size;have cf:=aj.size;have c4:=hI (show Below Z Z wc from ap.trans (bT.mono ca));have c3:=hI ((bT.block _ dk).trans aG);clear d0 bZ;obtain⟨E,ak⟩:=yp wc.drew;have bD:=hI (show Below Z Z E by rw [<-ak];exact c4.drew);have cI:=hI (aj.trans (bD.mono cf));have aC:=hI ((bD.block _ ya).trans c9);have cy:=hI (show E.heap[U]?=some (.cells #[.bool lb,.int .i64 bJ,.slice au F aw,.slice bn 0 aW,.slice aT O aP] 197 (0,0)) by rw [<-ak];exact c3);have aE:=Zb cy;have N:=Zb aC;have az:yr E h 2 (.int .i64 s.vv):=Za aC 2 _ rfl;have aB:yr E h 3 (.slice B s.tt m):=Za aC 3 _ rfl;have aU:yr E U 2 (.slice au F aw):=Za cy 2 _ rfl;have cU:=hI (bS.s1.keep (qS bD (fun b z=>yl ((R b z).1))));have bH:=hI (show TabS E S B s.tt from qU di (qS cI (fun b z=>(R b z).1)));have ds:=hI (b7.below bD);clear bT c3 c4;go_upto_region 17 with fail
  refine uS (fun w'=>w'.cell? ⟨h,2,none⟩=some (.int .i64 s.vv)/\w'.cell? ⟨h,3,none⟩=some (.slice B s.tt m)/\w'.cell? ⟨U,2,none⟩=some (.slice au F aw)) 13 14 fun Q' aX aN=>?_
  try rw [ak]
  clear ak;refine uR [0,7] aN ⟨az,aB,aU⟩ ?_;refine Zeh (β:=StN) 2 (bA 14 4095) (fun b dU=>(((((dU.put (some 70) (.tuple #[.agg #[.slice b.A F b.c],.int .i64 0])).put (some 62) (.tuple #[.agg #[.slice b.A F b.c],.int .i64 0])).put (some 71) (.agg #[.slice b.A F b.c])).put (some 72) (.int .i64 0)).put (some 13) (.pointer (some ⟨b.gb,0,none⟩)))) (fun b aa=>StE E aa F b) (fun b aa bF=>?_) (fun b8=>?_)
  .simp only [Act.put,psA,psB,psC];obtain⟨W,H,L⟩:=b;simp only at bF ⊢;have av:=hI bF;have ce:=bF.box;simp only at ce;have aQ:=hI ce;clear bF ce;have dG:=av.lo;simp only at dG;have eo:=av.bel.size;have dB:yr aa W 0 (.slice none 0 0):=Za aQ 0 _ rfl;have dE:aa.frozen? ⟨W,0,none⟩=false:=Zd aQ (k:=0);have ay:=c9Q av.bel (N) az;have dm:=c9Q av.bel (N) aB;have cX:=c9Q av.bel (aE) aU;refine uQ 12 fun ae K=>?_;go_simp;have aq:Fr (fun ab=>ab=W) aa (aa.setCell ⟨W,0,none⟩ (.slice H F L)):=(Qa _ aa).setCell _ (fun _=>rfl);have bg:(aa.setCell ⟨W,0,none⟩ (.slice H F L)).heap[W]?=some (.cells #[.slice H F L] 28 (0,0)):=Zc (k:=0) aQ;obtain⟨aV,c6⟩:=yp (aa.setCell ⟨W,0,none⟩ (.slice H F L));rw [c6] at aq bg ⊢;have bU:=hI aq;have d3:=hI bg;have dw:=(aq.cell (b:=h) (o:=2) (by have:h<E:=N;omega) (by have:h<E:=N;omega)).trans ay;have ck:=(aq.cell (b:=h) (o:=3) (by have:h<E:=N;omega) (by have:h<E:=N;omega)).trans dm;have cS:=(aq.cell (b:=U) (o:=2) (by have:U<E:=aE;omega) (by have:U<E:=aE;omega)).trans cX;clear aq bg c6 dB dE ay dm cX;refine K _ _ (fun _=>⟨dw,ck,cS⟩) ?_;clear K ae
   try simp only [Act.put,psA,psB,psC]
   refine uQ 13 fun ae K=>?_;go_simp;refine K _ _ nD ?_;clear K ae;refine uE aX ?_;clear aX aN Q';have dC:yr aV W 0 (.slice H F L):=Za d3 0 _ rfl;have bc:=hI (show Below E E aV from av.bel.trans (bU.below ya (fun ab I e=>ya)));have dZ:=hI (show StS aV (fun ab=>E<=ab/\ab<aV/\ab≠W) H F from qZ (qU av.val (fun ab I=>bU.block ab I.2.1 I.2.2)) (fun ab I=>⟨I.1,ym bU.size I.2.1,I.2.2⟩));have bG:=av.cap;simp only at bG;clear dw ck cS;have dl:=ds.below bc;have d2:=hI dl;clear dl;have cA:Dat.Vs aV (fun b=>False\/Beh w aV (.slice aO q bf) b) (Zbg F) [.slice H F L]:=vals_sts bG (qZ dZ (fun b z=>.inr ⟨yl z.1,z.2.1,fun e=>ym ((ds.base_le e.symm).2) z.1⟩));have dX:=hI cA;clear cA
   go_wp2_with (at_builtin;refine Zl rfl (.tmp 75) (.tmp 77) 62 rfl (base:=w.heap.size) (S0:=fun _=>False) (e:=28) (i:=dR) (size:=1) 24 underlying62 d8 dP d7 dO rfl yf d2 rfl (d:=Zbg F) #[.slice H F L] dX (by simp [Zbg,Dat.Plain]) rfl 1 rfl ya ya ?_;intro dH dy em cV c5 ep;have eg:=hI cV;have dK:=hI c5;clear cV c5)
   go_roundw
   case rel=>exact⟨q+1,some ⟨dH,0,none⟩,dy,ya,by go_num,rfl,by rw [cp,qm,List.map_singleton];exact eg,(cI.trans (bc.mono ya)).trans dK⟩
   simp [intOf];omega
  try simp only [Act.put,psA,psB,psC] at b8
  have aM:=hI (qa E E);refine anyL_two (k:=7) (m:=11) (oi:=⟨some 70,_,_,_,_,_⟩) (oj:=⟨some 13,_,_,_,_,_⟩) (Li:=(bA 14 255)) (Lj:=(bA 14 2175)) rfl rfl ye ye ye (fun ae br=>?_) (fun ae br=>?_)
  .have K:=hI br;clear br;go_simp;refine(ZbK (A:=B) m (s:=s) (B:=au) aw (st:=F) (A':=none) (n:=0) (L:=[]) (LA:=[]) (S:=S) (w:=E) (qU bH (qS aM (fun b z=>yl ((R b z).1)))) (qU cU (qS aM (fun b z=>yl ((R b z).1)))) ChgS.nil_ (fun b z=>ym ((R b z).1) aM.size) (ZU (s:=s)) (yl bL.out) (ZcF aL) yb (Zjh aL) yb).mono ?_;rw [ZjF aL.out de.out bL.out];rintro e aD ⟨H,L,rfl,bq,ai,cv⟩;dsimp only at bq ai ⊢;have bz:=hI ai;clear ai;have bu:=hI (show Below E E aD from aM.trans (cv.mono aM.size));have cq:=c9Q bu (N) az;have dh:=c9Q bu (N) aB;have cx:=c9Q bu (aE) aU;have el:=cv.size;refine K _ _ (fun _=>⟨cq,dh,cx⟩) ?_;clear K ae
   try simp only [Act.put,psA,psB,psC]
   refine uR [8,3] aN ⟨cq,dh,cx⟩ ?_;refine uQ 11 fun ae K=>?_;go_simp;obtain⟨bj,bM,bQ,-⟩:=al aD (.cells #[.slice none 0 0] 28);have bQ:=bQ.out;have aS:=hI (show bj.heap[aD.heap.size]?=some zSt by rw [<-bM];exact qb aD _);have dV:bj.heap.size<=aD+1/\aD.heap.size+1<=bj:=(by rw [<-bM];simp);rw [bM];clear bM;have bO:=hI (show Below E E bj from bu.trans (bQ.mono bu.size));have dM:=c9Q bO (N) az;have eb:=c9Q bO (N) aB;have d5:=c9Q bO (aE) aU;have bz:=hI (StS.keep bz (qS bQ (fun b z=>z.2)));refine K _ _ (fun _=>⟨dM,eb,d5⟩) ?_;clear K ae
   try simp only [Act.put,psA,psB,psC]
   exact b8 ⟨aD.heap.size,H,L⟩ bj ⟨bO,aS,by simp only;omega,bq,bz.more (fun ab I=>⟨yl I.1,yl I.2,by have:=I.1;have:=I.2;simp only;omega⟩)⟩
  have K:=hI br;clear br;go_simp;obtain⟨bb,bN,ch,-⟩:=al E (.cells #[.slice none 0 0] 28);have ch:=ch.out;have aS:=hI (show bb.heap[E.heap.size]?=some zSt by rw [<-bN];exact qb E _);have dV:bb.heap.size<=E+1/\E.heap.size+1<=bb:=(by rw [<-bN];simp);rw [bN];clear bN;have aA:=hI (show Below E E bb from aM.trans (ch.mono aM.size));have dW:=c9Q aA (N) az;have d1:=c9Q aA (N) aB;have dN:=c9Q aA (aE) aU;refine K _ _ (fun _=>⟨dW,d1,dN⟩) ?_;clear K ae
  try simp only [Act.put,psA,psB,psC]
  refine uQ 7 fun ae K=>?_;go_simp;refine(ZbK (A:=B) m (s:=s) (B:=au) aw (st:=F) (A':=none) (n:=0) (L:=[]) (LA:=[]) (S:=S) (w:=bb) (qU bH (qS aA (fun b z=>yl ((R b z).1)))) (qU cU (qS aA (fun b z=>yl ((R b z).1)))) ChgS.nil_ (fun b z=>ym ((R b z).1) aA.size) (ZU (s:=s)) (yl bL.out) (ZcF aL) yb (Zjh aL) yb).mono ?_;rw [ZjF aL.out de.out bL.out];rintro e cP ⟨H,L,rfl,bq,ai,co⟩;dsimp only at bq ai ⊢;have bz:=hI ai;clear ai;have bC:=hI (show Below E E cP from aA.trans (co.mono aA.size));have cw:=c9Q bC (N) az;have cD:=c9Q bC (N) aB;have dp:=c9Q bC (aE) aU;have aS:=hI ((co.block _ (Zb aS)).trans aS);refine K _ _ (fun _=>⟨cw,cD,dp⟩) ?_;clear K ae
  try simp only [Act.put,psA,psB,psC]
  refine uR [8,3] aN ⟨cw,cD,dp⟩ ?_;exact b8 ⟨E.heap.size,H,L⟩ cP ⟨bC,aS,by simp only;omega,bq,bz.more (fun ab I=>⟨yl I.1,yl I.2,by have:=I.1;have:=I.2;simp only;omega⟩)⟩
 obtain rfl:q=n:=ya;have bV:=b7.out;rw [qs (by rw [ZaK];exact qp _)] at bV;obtain⟨-,er,cR⟩:=bV.slice (by rw [Ze (n:=24) (fun _=>rfl),ZaK];omega);have dY:=hI cR;clear bV cR b7;have cf:=aj.size
 go_wp2
 go_loopw [82] (fun cs ah=>∃ (cn:Nat),cn<=q/\cs=.int .i64 (cn:Int)/\Below Z Z ah) (fun cs _=>q - (intOf cs).toNat)
 case atStart=>exact⟨0,qk _,rfl,qa _ _⟩
 obtain⟨w2,rfl⟩:∃ w2:World,w2=wr:=⟨_,rfl⟩;obtain⟨cn,en,rfl,b3⟩:=hrel;have b2:=hI b3;have ca:=b3.size;clear b3;have bw:=hI (aj.trans (b2.mono cf));rcases qv cn q with dj | ek
 .obtain⟨dI,dQ,au,aw,bn,aW,aT,aP,rfl,ei,ao,aK,aJ,aF,ax,aH⟩:=Ql (show LgsS w2 S A' ac from qU db (qS bw (fun b z=>(R b z).1))) (k:=cn) (yl cZ.out);have an:=dv cn dj;have bl:=cO cn dj;generalize ac.getD cn lg0=l at ao aK aJ aF ax aH an bl;obtain⟨lb,bJ,F,dd,O⟩:=l;simp only at ao aK aJ aF ax aH an bl;have bS:=hI ao;have bW:=hI an;clear ao an;obtain⟨aI,U,bt,aZ,ap,aG⟩:=ag w2 (.cells #[.bool lb,.int .i64 bJ,.slice au F aw,.slice bn dd aW,.slice aT O aP] 197);have ee:w2<=U/\U<=w2:=ya;have dk:=Zb aG;have d4:=ap.size;have bZ:yr aI U 4 (.slice aT O aP):=Za aG 4 _ rfl;go_upto_region 25 with fail
  try rw [bt]
  try rw [aZ]
  clear bt aZ aK aJ aF ax aH
  go_wp2
  go_loopw [90] (fun cs ah=>∃ (p:Nat),p<=O/\cs=.int .i64 (p:Int)/\Below aI aI ah) (fun cs _=>O.length - (intOf cs).toNat)
  case atStart=>exact⟨0,qk _,rfl,qa _ _⟩
  obtain⟨M,rfl⟩:∃ M:World,M=wr:=⟨_,rfl⟩;obtain⟨p,ex,rfl,aR⟩:=hrel;have bi:=hI aR;have dD:=aR.size;clear aR bZ;have bX:=hI (ap.trans (bi.mono d4));rcases qv p O.length with cQ | ev
  .obtain⟨dJ,dA,cL,dq,cM,cm,cJ,ci,b6,ef,-,be,bk,bo,bh,aY⟩:=Qh (bS.s3.keep (qS bX (fun b z=>yl ((R b z).1)))) (k:=p) cQ;subst b6;have b5:=bW p cQ;generalize O.getD p ent0=bp at be bk bo bh aY b5;have:decide (bp.co<=(i:Int))=false:=qe ya;obtain⟨ar,bI,am,cd,bm,eh⟩:=ag M (.cells (Zdl bp cL dq cM cm cJ ci).toArray 67);have cc:=hI am;have dT:=hI cd;have:M<=bI/\bI<=M:=ya;clear am cd;go_upto_region 28 with fail
   have am:=cc.out;simp only [Zdl] at am;rw [am,dT];clear am be bk bo bh aY;obtain⟨E,ak⟩:=yp ar.drew;have c8:=hI (show Below M M E by rw [<-ak];exact bm.drew);have cr:E.cell? ⟨bI,0,none⟩=some (.int .i64 bp.co):=(by rw [<-ak];exact Za eh 0 _ rfl);have n1:yr E h 4 (.int .i64 (i:Int)):=((bw.trans ((bX.trans (c8.mono ya)).mono ya)).cell (p:=⟨h,4,none⟩) bB).trans (Za bR 4 _ rfl);refine uS (fun w'=>w'.cell? ⟨bI,0,none⟩=some (.int .i64 bp.co)/\w'.cell? ⟨h,4,none⟩=some (.int .i64 (i:Int))) 21 21 fun Q' aX aN=>?_;rw [ak];clear ak;refine uR [0,21] aN ⟨cr,n1⟩ ?_;refine uE aX ?_;clear aX aN Q';clear cr n1
   go_wp2
   go_roundw
   case rel=>exact⟨p+1,ya,by go_num,bi.trans (c8.mono ya)⟩
   simp [intOf];omega
  obtain rfl:p=O.length:=by omega
  go_wp2
  go_roundw
  case rel=>exact⟨cn+1,ya,by go_num,b2.trans (bX.mono ca)⟩
  simp [intOf];omega
 obtain rfl:cn=q:=ya;have aC:=hI ((bw.block _ bB).trans bR);have N:=Zb aC;have az:yr w2 h 2 (.int .i64 s.vv):=Za aC 2 _ rfl;have aB:yr w2 h 3 (.slice B s.tt m):=Za aC 3 _ rfl;have bH:=hI (show TabS w2 (fun b=>b<w2) B s.tt from qZ (qU di (qS bw (fun b z=>(R b z).1))) (fun b z=>yl ((R b z).1)));have d6:=hI (show Sl w2 (fun b=>b<w2) aO ((Zar s cn st).map Zbg) from qZ (qU dY (qS b2 (fun b z=>by rcases z with z | z;exact z.elim;exact z.2))) (fun b z=>by rcases z with z | z;exact z.elim;have:=z.2;omega))
 go_wp2_with fail
 refine(join_any (A:=B) m (s:=s) (B:=aO) (n:=cn) (k:=bf) (st:=st) (S:=fun b=>b<w2) (w:=w2) bH d6 (fun b z=>z) dz d9 aL cW cG).mono ?_;rintro e M ⟨H,L,rfl,bG,ai,aR⟩;have dS:=hI ai;have bi:=hI aR;clear ai aR az aB;have dD:=bi.size;obtain⟨ar,W,am,dt,bm,aQ⟩:=ag M (.cells #[.slice H st L] 28);have:M<=W/\W<=M:=ya;have cc:=hI am;have dF:=hI dt;clear am dt;go_upto_region 34 with fail
 have dC:yr ar W 0 (.slice H st L):=Za aQ 0 _ rfl;rw [cc,dF];have bc:=hI (show Below w w ar from (bw.trans (bi.mono ya)).trans (bm.mono ya));have cg:=hI ((bc.block _ bB).trans bR);have eu:=Zb aQ;have:yr ar h 5 x:=Za cg 5 _ rfl;have:ar.frozen? ⟨h,5,none⟩=false:=Zd cg (k:=5)
 go_wp2_with fail
 have bg:=Zc (k:=5) (v:=.slice H st L) cg;have aq:Fr (fun b=>b=h) w (ar.setCell ⟨h,5,none⟩ (.slice H st L)):=(qW bc).setCell _ (fun _=>rfl);refine qw (v:=.bool true) (by simp [results,results111,go_sem]) rfl ⟨rfl,H,L,bg,bG,?_,aq⟩;exact qZ (qU dS (fun b z=>(qc ar ⟨h,5,none⟩ _ b (by have:=z.1;show b≠h;omega)).trans (bm.block b z.2))) (fun b z=>⟨yl z.1,by have:=z.2;have:=bm.size;simp;omega⟩)
def fnL (n:Nat) (f:Nat->Value):List Value:=(List.range n).map f
theorem Zkx {f:Nat->Value}:(fnL n f).length=n:=by simp [fnL]
theorem Zjp {f:Nat->Value} (h:k<n):(fnL n f)[k]?=some (f k):=by simp [fnL,h]
theorem Zky {f:Nat->Value} :(fnL n f)[k]?=if k<n then some (f k) else none:=by
 by_cases h:k<n
 .rw [qr h];exact Zjp h
 rw [qo h];exact List.getElem?_eq_none (by rw [Zkx];omega)
theorem ZiI {f:Nat->Value} (v:Value):(fnL n f).set k v=fnL n (updF f k v):=by
 apply List.ext_getElem?;intro j;rw [List.getElem?_set,Zky,Zky,Zkx];unfold updF
 by_cases e:k=j
 .subst e;simp
 have z:¬ j=k:=fun h=>e h.symm;simp [e,z]
theorem fnL_congr {f:Nat->Value} (h:∀ i,i<n->f i=F i):fnL n f=fnL n F:=by
 unfold fnL;exact List.map_congr_left fun i z=>h i (List.mem_range.1 z)
theorem Zib:fnL n (fun _=>x)=List.replicate n x:=by
 induction n with
 | zero=>rfl
 | succ n z=>unfold fnL at *;rw [List.range_succ,qm,z,List.replicate_succ'];rfl
def ChgVal (w:World) (S:Nat->Prop) (l:List Chg) (v:Value):Prop:=∃ A c,v=.slice A l c/\l.length<=c/\ChgS w S A l
theorem ChgVal.keep {w w':World} {S:Nat->Prop} {l:List Chg} {v:Value} (h:ChgVal w S l v) (E:Same S w w'):ChgVal w' S l v:=by
 obtain⟨A,c,H,z,F⟩:=h;exact⟨A,c,H,z,qU F E⟩
theorem Zge {X:Nat->List Chg} :∀ {n:Nat},(∀ j,j<n->ChgVal w S (X j) (F j))->Dat.Va w S (((List.range n).map X).map ZW) (fnL n F)
 | 0,_=>by unfold fnL;simp only [List.range_zero,Qn];unfold Dat.Va;rfl
 | n+1,h=>by
  have z:=Zge (n:=n) (fun j I=>h j ya);unfold fnL at *;rw [List.range_succ,qm,qm,qm];refine Zu z (Zw ?_);obtain⟨A,c,e,E,H⟩:=h n ya;show Dat.Vs w S (ZW (X n)) [F n];rw [e];unfold ZW Dat.Vs;exact⟨A,c,yb,by simpa using E,H⟩
def intL (n:Nat) (f:Nat->Nat):List Value:=fnL n fun j=>.int .i64 (f j:Int)
structure FoI (wr wi:World) (gA ge gp:Nat) (S:Nat->Prop) (s:Sch) (n:Nat) (es:List Ent) (k:Nat) (cm:Int) (e:Ent) (i:Nat) (f:Nat->Nat) (PV:Nat->Value) (ow:Int) (AS:Option Addr) (ls cS:Nat) (AN:Option Addr) (ln cN:Nat):Prop where
 fr:Fr (fun b=>b=gA) wr wi
 atb:wi.heap[gA]?=some (.cells (intL n f).toArray 3 (0,0))
 atl:∀ j,j<n->f j<=posI es j k
 enb:wi.heap[ge]?=some (.cells #[.int .i64 cm,.int .i64 ow,.slice AS ls cS,.slice none 0 0,.slice AN ln cN] 67 (0,0))
 own:ow=-1\/ow=e.wn
 sh1:(∃ j,j<i/\inSh j e=true)->ow=e.wn/\ls=e.sd.length/\ls<=cS/\IntS wi S AS e.sd
 no1:e.wn % (n:Int)<i->ln=e.note.length/\ln<=cN/\BtS wi S AN e.note
 gpb:wi.heap[gp]?=some (.cells (fnL n PV).toArray 56 (0,0))
 gpv:∀ j,j<n->ChgVal wi S (if j<i then prtI s n j e else []) (PV j)
section
variable {wr wi w':World} {gA ge gp:Nat} {S:Nat->Prop} {s:Sch} {n:Nat} {es:List Ent} {k:Nat} {cm:Int} {e:Ent} {i:Nat} {f:Nat->Nat} {PV:Nat->Value} {ow:Int} {AS:Option Addr} {ls cS:Nat} {AN:Option Addr} {ln cN:Nat}
theorem FoI.below (h:FoI wr wi gA ge gp S s n es k cm e i f PV ow AS ls cS AN ln cN) (z:Below wi wi w') (H:∀ b,S b->b<wi):FoI wr w' gA ge gp S s n es k cm e i f PV ow AS ls cS AN ln cN:=by
 have E:Same S wi w':=qS z H
 exact⟨h.fr.trans (qW (X:=fun b=>b=gA) z) (fun _ _ e=>e),(z.block _ (Zb h.atb)).trans h.atb,h.atl,(z.block _ (Zb h.enb)).trans h.enb,h.own,
  fun x=>by obtain⟨a,b,c,d⟩:=h.sh1 x;exact⟨a,b,c,qU d E⟩,fun x=>by obtain⟨a,b,c⟩:=h.no1 x;exact⟨a,b,qU c E⟩,(z.block _ (Zb h.gpb)).trans h.gpb,fun j F=>(h.gpv j F).keep E⟩
theorem FoI.at_ (h:FoI wr wi gA ge gp S s n es k cm e i f PV ow AS ls cS AN ln cN) {j:Nat} (z:j<n):yr wi gA j (.int .i64 (f j:Int))/\wi.frozen? ⟨gA,j,none⟩=false:=by
 refine⟨?_,Zd h.atb⟩;have:=Za h.atb j (.int .i64 (f j:Int)) (by unfold intL;exact Zjp z);rwa [qx] at this
theorem FoI.step (h:FoI wr wi gA ge gp S s n es k cm e i f PV ow AS ls cS AN ln cN) {j q:Nat} (K:q<=posI es j k) (M:ge≠gA) (I:gp≠gA) (N:∀ b,S b->b≠gA):FoI wr (wi.setCell ⟨gA,j,none⟩ (.int .i64 (q:Int))) gA ge gp S s n es k cm e i (updF f j q) PV ow AS ls cS AN ln cN:=by
 have E:∀ b,b≠gA->(wi.setCell ⟨gA,j,none⟩ (.int .i64 (q:Int))).heap[b]?=wi.heap[b]?:=fun b H=>qc wi ⟨gA,j,none⟩ _ b H;have F:Same S wi (wi.setCell ⟨gA,j,none⟩ (.int .i64 (q:Int))):=fun b H=>E b (N b H);refine⟨h.fr.setCell _ (fun _=>rfl),?_,fun m z=>?_,(E ge M).trans h.enb,h.own,fun x=>by obtain⟨a,b,c,d⟩:=h.sh1 x;exact⟨a,b,c,qU d F⟩,fun x=>by obtain⟨a,b,c⟩:=h.no1 x;exact⟨a,b,qU c F⟩,(E gp I).trans h.gpb,fun m z=>(h.gpv m z).keep F⟩
 .have O:=Zc (k:=j) (v:=.int .i64 (q:Int)) h.atb;rw [O]
  have L:(intL n f).set j (.int .i64 (q:Int))=intL n (updF f j q):=by
   unfold intL;rw [ZiI];refine fnL_congr fun m _=>?_;unfold updF
   by_cases e:m=j
   .simp [e]
   simp [e]
  rw [L]
 unfold updF
 by_cases e:m=j
 .rw [qr e,e];exact K
 rw [qo e];exact h.atl m z
theorem FoI.take {z:World} {M:Option Addr} {H N:Nat} {L:Option Addr} {F R:Nat} {v:Value} {O:Int} (h:FoI wr wi gA ge gp S s n es k cm e i f PV ow AS ls cS AN ln cN) (K:Fr (fun b=>b=ge\/b=gp) wi z) (aj:wr<=ge/\wr<=gp) (ak:ge≠gA/\gp≠gA/\gp≠ge) (U:∀ b,S b->b<wi/\b≠ge/\b≠gp)
 (E:z.heap[ge]?=some (.cells #[.int .i64 cm,.int .i64 O,.slice M H N,.slice none 0 0,.slice L F R] 67 (0,0))) (aa:O=e.wn) (af:H=e.sd.length/\H<=N/\IntS z S M e.sd)
 (ab:e.wn % (n:Int)<(i+1:Nat)->F=e.note.length/\F<=R/\BtS z S L e.note) (ae:z.heap[gp]?=some (.cells (fnL n (updF PV i v)).toArray 56 (0,0))) (ah:ChgVal z S (prtI s n i e) v):FoI wr z gA ge gp S s n es k cm e (i+1) f (updF PV i v) O M H N L F R:=by
 have ac:Same S wi z:=fun b E=>K.block b (U b E).1 (fun e=>by rcases e with e | e;exact(U b E).2.1 e;exact(U b E).2.2 e);refine⟨h.fr.trans K (fun b E e=>by rcases e with e | e<;>omega),(K.block gA (Zb h.atb) (by rintro(e | e)<;>omega)).trans h.atb,h.atl,E,.inr aa,fun _=>⟨aa,af⟩,ab,ae,fun j ai=>?_⟩;unfold updF
 by_cases Z:j=i
 .subst Z;rw [qr rfl,qr ya];exact ah
 rw [qo Z];have I:=(h.gpv j ai).keep ac
 by_cases W:j<i
 .rw [qr W] at I;rw [qr ya];exact I
 rw [qo W] at I;rw [qo ya];exact I
theorem FoI.skip (h:FoI wr wi gA ge gp S s n es k cm e i f PV ow AS ls cS AN ln cN) (I:inSh i e=false) (K:e.wn % (n:Int) ∈ e.sd) (M:prtI s n i e=[]):FoI wr wi gA ge gp S s n es k cm e (i+1) f PV ow AS ls cS AN ln cN:=by
 refine⟨h.fr,h.atb,h.atl,h.enb,h.own,fun x=>?_,fun x=>?_,h.gpb,fun j L=>?_⟩
 .obtain⟨j,L,H⟩:=x;rcases qv j i with z | z
  .exact h.sh1 ⟨j,z,H⟩
  have:j=i:=ya;subst this;rw [I] at H;cases H
 .refine h.no1 ?_;rcases Int.lt_or_le (e.wn % (n:Int)) i with z | z
  .exact z
  have F:e.wn % (n:Int)=(i:Int):=ya;rw [F] at K;unfold inSh at I;simp [K] at I
 have E:=h.gpv j L
 by_cases F:j<i
 .rw [qr F] at E;rw [qr ya];exact E
 rw [qo F] at E
 by_cases N:j=i
 .subst N;rw [qr ya,M];exact E
 rw [qo ya];exact E
end
end Go.Proofs.YtjadnfodboepeaaGreat
