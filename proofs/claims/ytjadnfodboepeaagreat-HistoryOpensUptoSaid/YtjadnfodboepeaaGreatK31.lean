import Derived.Test.YtjadnfodboepeaaGreatKdg
import Derived.Test.YtjadnfodboepeaaGreatKkf
set_option linter.all false
set_option maxRecDepth 100000
set_option maxHeartbeats 8000000
namespace Go.Proofs.YtjadnfodboepeaaGreat
open Tryz
open Go Go.RowKit
variable {w:World} {n k m i j:Nat} {A B A':Option Addr} {S:Nat->Prop} {a t:Int} {l:List Int} {x xA xB:Value} {s:Sch} {L LA:List Chg} {H:Ent}
theorem ZkL:(prog.info? 67).map (fun i=>(i.zero,i.size,i.bytes))=some (some (.agg #[.int .i64 0,.int .i64 0,.slice none 0 0,.slice none 0 0,.slice none 0 0]),5,88):=by kernel_rfl
theorem OwnD.base_le {w:World} {base size:Nat} {e:TypeId} {S:Nat->Prop} {v:Value} {l:List Dat} (h:OwnD w base e size S v l) {g:Nat} (E:v.ownBlock=some g):base<=g/\g<w:=by
 obtain⟨vals,z,_⟩:=h;exact⟨Zs z E,ZN z E⟩
theorem OwnD.sub {w:World} {base size:Nat} {e:TypeId} {S:Nat->Prop} {v:Value} {l:List Dat} (h:OwnD w base e size S v l):∀ q,S q->q<w/\some q≠v.ownBlock:=by
 obtain⟨_,_,_,z⟩:=h;exact z
def Zgp (b:Int) (z:List Ent):Int:=if z.length=0 then b else (z.getD (z.length - 1) ent0).co
def hisL (K:Option Addr) (n F:Nat) (s:Sch) (H:Option Addr) (cs:Nat) (base:Int) (z L I E:Value):List Value:=[.slice K n F,.bool false,.int .i64 s.vv,.slice H s.tt cs,.int .i64 base,z,L,I,E]
theorem step_any (h n i B:Nat) (s:Sch) (b6:Option Addr) (cD:Nat) (aH:Option Addr) (cs:Nat) (cQ:Int) (cY da dD dG:Value) (e:Ent) (l:List Chg) (aB:Option Addr) (aE:Nat) (rec:List Int) (ae:Bool) (b:Int) (U:Option Addr) (ab af:Nat) (W:Option Addr) (ah ac:Nat) (R:Option Addr) (aa:Nat) (E:List Ent) (S0 S:Nat->Prop) (PL:List (List Chg)) (w:World)
 (bn:w.heap[h]?=some (.cells (hisL b6 n cD s aH cs cQ cY da dD dG).toArray 131 (0,0))) (dY:h<B) (bL:TabS w S aH s.tt) (aI:∀ b,S b->b<B) (dl:B<=w) (bj:rec=ZbL e i n l) (bH:BtS w S aB rec) (ck:rec.length<=aE) (bk:PartOk e i n l)
 (aj:OwnD w B 67 5 S0 (.slice R E aa) (E.map encE)) (d5:E.length<=1000) (bR:Zgp b E<e.co)
 (bS:Zbm s n l=(0,PL)) (dO:i<PL) (bI:(PL.getD i []).length=l.length) (bF:schF pcF s=0->(netF 0 s 1 l).1=0->∀ c ∈ (netF 0 s 1 l).2,ChgN s c) (b0:(netF (schF pcF s) s 1 l).2.length<=1) (d6:PL.length<=1000) :
 Calls prog 110 #[.pointer (some ⟨h,0,none⟩),.agg #[.bool ae,.int .i64 b,(.slice U ab af),(.slice W ah ac),.slice R E aa],.slice aB rec aE,.int .i64 (i:Int)] w fun f w'=>∃ bC bE,f=.returned (.tuple #[.agg #[.bool ae,.int .i64 b,(.slice U ab af),(.slice W ah ac),.slice bC (E.length+1) bE],.bool true])/\OwnD w' B 67 5 (fun q=>S0 q\/(w<=q/\q<w'/\some q≠(Value.slice bC (E.length+1) bE).ownBlock)) (.slice bC (E.length+1) bE) ((E++[Zcl e i n l]).map encE)/\Below B w w'/\Fr (fun q=>some q=(Value.slice R E aa).ownBlock) w w'/\(∀ g,(Value.slice bC (E.length+1) bE).ownBlock=some g->(Value.slice R E aa).ownBlock=some g\/w.heap.size<=g):=by
 obtain⟨dh,dI,c8,bY,dz⟩:=qA ZkL;have bf:rec.drop 0=lebF 2++ZhQ e i n l:=(by rw [List.drop_zero,bj,ZiA,Zeu yf];rfl);have bo:rec.length=1+(ZhQ e i n l).length:=(by rw [bj,ZiA];simp;omega);have bB:rec.drop 1=ZhQ e i n l++[]:=(by rw [bj,ZiA];simp);have b2:=hI bn;replace bL:=hI bL;replace aI:=hI aI;replace bH:=hI bH;replace bk:=hI bk;replace aj:=hI aj;replace bR:=hI bR;replace bS:=hI bS;replace bI:=hI bI;replace bF:=hI bF;replace b0:=hI b0;replace bf:=hI bf;replace bo:=hI bo;replace bB:=hI bB;obtain⟨c6,aT⟩:=yp rec.length;rw [aT] at ck ⊢;replace aT:=hI aT;obtain⟨H,bz⟩:=yp (Zcl e i n l);have aS:=hI (show H.co=e.co/\H.cx=l from by rw [<-bz];exact⟨rfl,rfl⟩);have c5:=hI bz;rw [bz];have dL:yr w h 0 (.slice b6 n cD):=Za bn 0 _ rfl;have bM:yr w h 2 (.int .i64 s.vv):=Za bn 2 _ rfl;clear bn bj bz;go_enter func110,ntmps110;have cP:=Zb b2;go_upto_region 3 with fail
 obtain⟨w0,aF⟩:=yp (((w.alloc (.cells #[.bool ae,.int .i64 b,(.slice U ab af),(.slice W ah ac),.slice R E aa] 197)).alloc (.cells #[.bool false,.int .i64 0,.slice none 0 0,.slice none 0 0,.slice none 0 0] 197)).alloc (.cells #[.slice aB c6 aE,.int .i64 0,.bool false] 253));have ba:Below w w w0:=(by rw [<-aF];exact(((qa _ w).alloc nR _).alloc yb _).alloc yd _);have dg:w0.heap.size=w.heap.size+3:=(by rw [<-aF];simp);have cg:=hI (show w0.heap[w.heap.size]?=some (.cells #[.bool ae,.int .i64 b,(.slice U ab af),(.slice W ah ac),.slice R E aa] 197 (0,0)) by rw [<-aF];exact(qd _ _ _ yd).trans ((qd _ _ _ yb).trans (qb w _)));have b8:=hI (show w0.heap[w.heap.size+1]?=some (.cells #[.bool false,.int .i64 0,.slice none 0 0,.slice none 0 0,.slice none 0 0] 197 (0,0)) by rw [<-aF];exact(qd _ _ _ yb).trans (heap_alloc_new' yb));have cp:=hI (show RdM w0 (w.heap.size+1+1) aB aE rec 0 S from ⟨by rw [<-aF,aT];exact heap_alloc_new' yb,qU bH (fun q z=>ba.block q (yl (aI q z))),fun q z=>⟨yl (aI q z),yl (aI q z)⟩,by rw [aT];exact ck⟩);replace ba:=hI ba;rw [aF];clear aF;have ds:w0.heap.size<=w+3/\w.heap.size+3<=w0:=ya;clear dg
 go_wp2_with fail
 refine(Zaq (n:=w.heap.size+1+1) (k:=aE) (m:=0) (i:=2) (j:=2) (A:=aB) (l:=rec) _ (S:=S) (w:=w0) cp ya ya bf).mono ?_;rintro f cF ⟨rfl,aW⟩;have b5:=hI (show RdM cF (w.heap.size+1+1) aB aE rec 1 S by have:=aW.1;rwa [Zeu yf] at this);have ch:=hI ((qW (X:=fun q=>q=w.heap.size+1+1) ba).trans aW.2 (fun _ _ e=>e));have cO:=hI ((aW.2.block _ ya ya).trans cg);have ci:=hI ((aW.2.block _ ya ya).trans b8);have bY:=aW.2.size;clear aW cp cg b8 ba bf
 go_wp2_with fail
 refine(rpart_any (n:=w.heap.size+1+1) (k:=aE) (m:=1) (i:=n) (a:=i) (H:=e) (L:=l) (A:=aB) (l:=rec) [] (S:=S) (w:=cF) b5 bk bB).mono ?_;rw [c5];rintro f w2 ⟨⟨aN,aU,Z,ai,aM,aJ,rfl,cr⟩,az⟩;rw [<-bo] at az;rw [aT] at az;have cj:=hI az.1;have cJ:=hI (ch.trans az.2 (fun _ _ e=>e));have bO:=hI ((az.2.block _ ya ya).trans cO);have bW:=hI ((az.2.block _ ya ya).trans ci);have dc:=az.2.size;go_upto_region 14 with fail
 obtain⟨av,bt,aA,-⟩:=al w2 (.cells #[.int .i64 H.co,.int .i64 H.wn,.slice aN H.sd aU,.slice Z H.cx ai,.slice aM H.note aJ] 67);have aA:=aA.out;have bc:=hI (show av.heap[w2.heap.size]?=some (.cells (Zdl H aN aU Z ai aM aJ).toArray 67 (0,0)) by rw [<-bt];exact qb w2 _);obtain⟨K,bg⟩:=yp w2.heap.size;have cZ:av=K+1:=(by rw [<-bt,<-bg];simp);rw [bt,bg];rw [bg] at bc;have bi:EntV av (fun q=>w.heap.size+3<=q/\q<K) H aN aU Z ai aM aJ:=(cr.keep (fun q z=>aA.block q z.2)).more (fun q z=>⟨ya,ya⟩);replace bi:=hI bi;have cy:=hI (cj.below aA);have aY:=hI ((aA.block _ (Zb bO)).trans bO);have cC:=hI ((aA.block _ (Zb bW)).trans bW);have cK:=hI (cJ.trans (Y:=fun _=>False) (qW aA) (fun _ _ e=>e.elim));have:w.heap.size+3<=K:=ya;have:av<=K+1/\K+1<=av:=ya;clear cr az b5 cO ci ch bB bo cZ aA bt bg cj cJ bO bW dc bY ds;have bw:=hI (cK.below (n:=w) nR (fun q z e=>ya));have bZ:=hI (aj.below bw);have dJ:yr av w 1 (.int .i64 b):=Za aY 1 _ rfl;have bT:yr av w 4 (.slice R E aa):=Za aY 4 _ rfl;have c4:=Zb aY;go_upto_region 15 with fail
 go_upto_if 99 with fail
 go_cut [13] (fun dq cR=>dq=.int .i64 (Zgp b E)/\cR=av)
 case first =>
  rcases qF E.length with M | M
  .have ax:Zgp b E=b:=(by unfold Zgp;rw [qr M]);replace ax:=hI ax;replace M:=hI M
   go_wp2_with fail
   .next aO=>exact absurd aO (yl M.out)
   go_meet;exact⟨by rw [ax],rfl⟩
  obtain⟨m,cq⟩:=yp (E.length - 1);obtain⟨-,dA,cG⟩:=bZ.slice (S':=fun _=>True) (by rw [Ze (n:=88) (fun _=>rfl)];omega) (fun _ _=>trivial) (fun _ _ _ _=>trivial);obtain⟨d3,d2,_,_,_,_,_,_,dd,_,_,de,_⟩:=Qh cG (k:=m) ya;have ax:Zgp b E=(E.getD m ent0).co:=(by unfold Zgp;rw [qo ya,cq]);subst dd;have:IntKind.i64.wrap ((E:Int) - 1)=(m:Int):=(by rw [IntKind.wrap_i64];omega);have:(m:Int)<(E:Int):=ya;obtain⟨dZ,cH⟩:=yp ((E.getD m ent0).co);rw [cH] at de ax;replace ax:=hI ax;clear M cq cG dA cH
  go_wp2
  go_meet;exact⟨by rw [ax],rfl⟩
 obtain⟨rfl,rfl⟩:=hcut;have dK:=cy.c1;have dT:=cy.c2;have p0:yr wc K 0 (.int .i64 H.co):=Za bc 0 _ rfl;have cx:=Zb bc;have dk:decide (H.co<=Zgp b E)=false:=qe (by rw [aS.1];have:=bR.out;omega);clear dJ bT;go_upto_region 19 with fail
 obtain⟨aC,ct,ao,-⟩:=dr wc;have ao:=ao.out;have bl:Below w w aC:=bw.trans (ao.mono bw.size);have bP:=hI ((ao.block _ cx).trans bc);have cn:=hI ((ao.block _ c4).trans aY);have cL:=hI ((ao.block _ ya).trans cC);have ea:=hI (bZ.below ao);have cu:=hI (bi.keep (fun q z=>ao.block q ya));have cv:=hI bl;have aK:=hI ((bl.block _ cP).trans b2);have b4:yr aC h 2 (.int .i64 s.vv):=Za aK 2 _ rfl;have cm:yr aC h 3 (.slice aH s.tt cs):=Za aK 3 _ rfl;have b9:yr aC K 3 (.slice Z H.cx ai):=Za bP 3 _ rfl;have d8:=ao.size;have di:=hI (show TabS aC (fun q=>S q\/(w.heap.size+3<=q/\q<K)) aH s.tt from qZ (qU bL (fun q z=>bl.block q (yl (aI q z)))) (fun q z=>.inl z));have dp:=hI (show ChgS aC (fun q=>S q\/(w.heap.size+3<=q/\q<K)) Z H.cx from qZ cu.s2 (fun q z=>.inr z))
 have dV:=hI (ZhC (A:=aH) cs s n (B:=Z) ai (L:=H.cx) (w:=aC) di dp (fun q z=>by
  rcases z with z | z
  .have:=aI q z;omega
  omega) (by rw [aS.2];have:=bk.many;omega) (by rw [aS.2];exact bF) (by rw [aS.2];exact b0))
 clear ao bl bc aY cC bZ bi cK bw dK dT p0 dk cx dL bM b2
 go_wp2
 refine uS (fun w'=>w'.cell? ⟨h,2,none⟩=some (.int .i64 s.vv)/\w'.cell? ⟨h,3,none⟩=some (.slice aH s.tt cs)/\w'.cell? ⟨K,3,none⟩=some (.slice Z H.cx ai)) 13 13 fun Q' aX aV=>?_;rw [ct];clear ct;refine uR [0,7] aV ⟨b4,cm,b9⟩ ?_;refine uQ 7 fun be aw=>?_;go_simp;refine dV.mono ?_;rw [aS.2,bS];rintro f N ⟨d1,d9,rfl,dN,bm,O⟩;simp only at dN bm;have aG:=hI ((O.block _ (Zb bP)).trans bP);have bp:=hI ((O.block _ (Zb cn)).trans cn);have dt:=hI ((O.block _ (Zb cL)).trans cL);have dB:=hI (cu.keep (fun q z=>O.block q ya));have ar:=hI (cv.trans (O.mono cv.size));replace bm:=hI bm;have d0:=O.size;have bU:yr N h 2 (.int .i64 s.vv):=Za ((O.block _ (Zb aK)).trans aK) 2 _ rfl;have b3:yr N h 3 (.slice aH s.tt cs):=Za ((O.block _ (Zb aK)).trans aK) 3 _ rfl;have br:yr N K 3 (.slice Z H.cx ai):=Za aG 3 _ rfl;clear O;refine aw _ _ (fun _=>⟨bU,b3,br⟩) ?_;clear aw be
 try simp only [Act.put,psA,psB,psC]
 refine uR [8,5] aV ⟨bU,b3,br⟩ ?_;refine uE aX ?_;clear aX aV Q';have bT:yr N w 4 (.slice R E aa):=Za bp 4 _ rfl;have v0:yr N K 0 (.int .i64 H.co):=Za aG 0 _ rfl;have cW:yr N K 1 (.int .i64 H.wn):=Za aG 1 _ rfl;have dC:yr N K 2 (.slice aN H.sd aU):=Za aG 2 _ rfl;have c7:yr N K 3 (.slice Z H.cx ai):=Za aG 3 _ rfl;have dj:yr N K 4 (.slice aM H.note aJ):=Za aG 4 _ rfl;have dX:=Zb bp;obtain⟨aR,bh⟩:∃ aR:Nat->Prop,(fun q=>S0 q\/(w.heap.size+3<=q/\q<K))=aR:=⟨_,rfl⟩;have bb:∀ q,aR q->S0 q\/(w.heap.size+3<=q/\q<K):=(fun q z=>by rw [<-bh] at z;exact z);have dP:=hI (show Dat.Vs N aR (encE H) (Zdl H aN aU Z ai aM aJ) from Dat.Vs.more (fun q z=>by rw [<-bh];exact .inr z) _ _ dB.vals)
 have dy:=hI (show OwnD N B 67 5 aR (.slice R E aa) (E.map encE) from ((aj.below ar).more (fun q z=>by rw [<-bh];exact .inl z) (fun q z=>by
  rcases bb q z with M | M
  .exact⟨ym ar.size ((aj.sub q M).1),(aj.sub q M).2⟩
  exact⟨ya,fun F=>yl ((aj.base_le F.symm).2)⟩)))
 replace bb:=hI bb;clear bh;clear bU b3 br b4 cm b9
 go_wp2_with (at_builtin;refine ZcA rfl (.tmp 141) (.tmp 143) 73 rfl (base:=B) (e:=67) (i:=dh) (size:=5) 88 underlying73 dI c8 bY dz rfl yf dy (by rw [qg]) (yl ar.size) rfl (d:=encE H) (Zdl H aN aU Z ai aM aJ).toArray dP (Zez _) (ZfZ _) 1 rfl ya ya ?_;intro L ak aD cw d4 aP b7;have b1:=hI cw;have aq:=hI (And.intro aP b7);have bJ:∀ q,q<N.heap.size->w<=q->aD.heap[q]?=N.heap[q]?:=(fun q bX bM=>aP.block q bX (fun F=>yl ((aj.base_le F.symm).2)));have dU:=hI bJ;have bq:=hI ((bJ _ (Zb bp) nR).trans bp);have df:=Zd bq (k:=4);have du:yr aD w 4 (.slice R E aa):=Za bq 4 _ rfl;have d7:=Zb bq;clear cw aP b7 bJ)
 obtain⟨I,aZ⟩:=yp ((aD.setCell ⟨w,4,none⟩ (.slice (some ⟨L,0,none⟩) (E.length+1) ak)).drew);have bD:Fr (fun q=>q=w.heap.size) aD I:=(by rw [<-aZ];exact((Qa (fun q=>q=w.heap.size) aD).setCell _ (fun _=>rfl)).drew);have ap:=hI (show I.heap[w.heap.size]?=some (.cells #[.bool ae,.int .i64 b,(.slice U ab af),(.slice W ah ac),.slice (some ⟨L,0,none⟩) (E.length+1) ak] 197 (0,0)) by rw [<-aZ];exact Zc (vs:=[.bool ae,.int .i64 b,(.slice U ab af),(.slice W ah ac),.slice R E aa]) (k:=4) bq);have bu:∀ q,q<N.heap.size->w<q->I.heap[q]?=N.heap[q]?:=fun q bX bM=>(bD.block q ya ya).trans (dU q bX ya);have cE:=hI ((bu K ya ya).trans aG);have am:=hI ((bu (w+1) ya ya).trans dt);obtain⟨aL,bG,dM,O,cd⟩:=Qf (n:=1) (fun _=>rfl) [] bm dO;simp only [ZW,Dat.Held,qg,Nat.mul_one] at cd;obtain⟨cM,cz,bQ,-,-,-⟩:=cd;rw [bI] at bQ;subst dM;have cf:yr I aL (bG+i) (.slice cM l cz):=(ql (bu aL O.2 (yl O.1))).trans bQ;have cA:I.cell? ⟨K,3,none⟩=some (.slice Z l ai):=(by rw [<-aS.2];exact Za cE 3 _ rfl);have ce:yr I w 0 (.bool ae):=Za ap 0 _ rfl;have cN:yr I w 1 (.int .i64 b):=Za ap 1 _ rfl;have l2:yr I w 2 (.slice U ab af):=Za ap 2 _ rfl;have ca:yr I w 3 (.slice W ah ac):=Za ap 3 _ rfl;have cc:yr I w 4 (.slice (some ⟨L,0,none⟩) (E.length+1) ak):=Za ap 4 _ rfl;have dv:=hI bD;replace aZ:=hI aZ;have:(i:Int)<(PL:Int):=ya;have:I.frozen? ⟨w+1,0,none⟩=false:=Zd am (k:=0);have:I.frozen? ⟨w+1,1,none⟩=false:=Zd am (k:=1);have:I.frozen? ⟨w+1,2,none⟩=false:=Zd am (k:=2);have br:I.frozen? ⟨w+1,3,none⟩=false:=Zd am (k:=3);have:I.frozen? ⟨w+1,4,none⟩=false:=Zd am (k:=4);have:yr I (w+1) 0 (.bool false):=Za am 0 _ rfl;have:yr I (w+1) 1 (.int .i64 0):=Za am 1 _ rfl;have:yr I (w+1) 2 (.slice none 0 0):=Za am 2 _ rfl;have:yr I (w+1) 3 (.slice none 0 0):=Za am 3 _ rfl;have:yr I (w+1) 4 (.slice none 0 0):=Za am 4 _ rfl;have:K<aL:=(yl O.1);have dQ:aL<I:=(ym O.2 bD.size);clear bD bu bQ O bT v0 cW dC c7 dj du df;refine uS (fun w'=>w'.cell? ⟨w,0,none⟩=some (.bool ae)/\w'.cell? ⟨w,1,none⟩=some (.int .i64 b)/\w'.cell? ⟨w,2,none⟩=some ((.slice U ab af))/\w'.cell? ⟨w,3,none⟩=some ((.slice W ah ac))/\w'.cell? ⟨w,4,none⟩=some (.slice (some ⟨L,0,none⟩) (E.length+1) ak)/\w'.cell? ⟨aL,bG+i,none⟩=some (.slice cM l cz)/\w'.cell? ⟨K,3,none⟩=some (.slice Z l ai)) 15 16 fun Q' aX aV=>?_;rw [aZ];refine uR [0,14] aV ⟨ce,cN,l2,ca,cc,cf,cA⟩ ?_;refine uQ 14 fun be aw=>?_;go_simp;have an:Fr (fun q=>q=w.heap.size+1) I (((((I.setCell ⟨w+1,0,none⟩ (.bool ae)).setCell ⟨w+1,1,none⟩ (.int .i64 b)).setCell ⟨w+1,2,none⟩ (.slice U ab af)).setCell ⟨w+1,3,none⟩ (.slice W ah ac)).setCell ⟨w+1,4,none⟩ (.slice (some ⟨L,0,none⟩) (E.length+1) ak)):=(((((Qa (fun q=>q=w.heap.size+1) I).setCell _ (fun _=>rfl)).setCell _ (fun _=>rfl)).setCell _ (fun _=>rfl)).setCell _ (fun _=>rfl)).setCell _ (fun _=>rfl);have ay:=Zc (k:=4) (v:=.slice (some ⟨L,0,none⟩) (E.length+1) ak) (Zc (k:=3) (v:=(.slice W ah ac)) (Zc (k:=2) (v:=(.slice U ab af)) (Zc (k:=1) (v:=.int .i64 b) (Zc (k:=0) (v:=.bool ae) (vs:=[.bool false,.int .i64 0,.slice none 0 0,.slice none 0 0,.slice none 0 0]) am))));obtain⟨au,bN⟩:=yp ((((((I.setCell ⟨w+1,0,none⟩ (.bool ae)).setCell ⟨w+1,1,none⟩ (.int .i64 b)).setCell ⟨w+1,2,none⟩ (.slice U ab af)).setCell ⟨w+1,3,none⟩ (.slice W ah ac)).setCell ⟨w+1,4,none⟩ (.slice (some ⟨L,0,none⟩) (E.length+1) ak)));rw [bN] at an ay;have dx:=hI bN
 try rw [dx]
 replace ay:=hI ay;have cS:=hI an;have dE:=(an.cell (b:=w) (o:=0) (Zb ap) ya).trans ce;have c3:=(an.cell (b:=w) (o:=1) (Zb ap) ya).trans cN;have dW:=(an.cell (b:=w) (o:=2) (Zb ap) ya).trans l2;have cT:=(an.cell (b:=w) (o:=3) (Zb ap) ya).trans ca;have cU:=(an.cell (b:=w) (o:=4) (Zb ap) ya).trans cc;have dm:=(an.cell (b:=aL) (o:=bG+i) dQ ya).trans cf;have cX:=(an.cell (b:=K) (o:=3) (Zb cE) ya).trans cA;clear an bN;refine aw _ _ (fun _=>⟨dE,c3,dW,cT,cU,dm,cX⟩) ?_;clear aw be
 try simp only [Act.put,psA,psB,psC]
 refine uQ 15 fun be aw=>?_;go_simp;refine aw _ _ nD ?_;clear aw be;refine uE aX ?_;clear aX aV Q'
 go_wp2_with fail
 have dF:yr au (w+1) 0 (.bool ae):=Za ay 0 _ rfl;have c9:yr au (w+1) 1 (.int .i64 b):=Za ay 1 _ rfl;have dH:yr au (w+1) 2 (.slice U ab af):=Za ay 2 _ rfl;have cV:yr au (w+1) 3 (.slice W ah ac):=Za ay 3 _ rfl;have dS:yr au (w+1) 4 (.slice (some ⟨L,0,none⟩) (E.length+1) ak):=Za ay 4 _ rfl;have aQ:Fr (fun q=>q=w.heap.size\/q=w.heap.size+1) aD au:=(dv.mono (fun q _ e=>.inl e)).trans cS (fun q _ e=>.inr e);have dw:Below B N aD:=⟨aq.1.os,aq.1.tape,aq.1.output,aq.1.size,fun q z=>aq.1.block q (yl ar.size) (fun F=>yl ((aj.base_le F.symm).1))⟩;have db:Below B N au:=dw.trans (aQ.below (n:=B) ya (fun q z e=>by rcases e with e | e<;>omega));refine qw (v:=.tuple #[.agg #[.bool ae,.int .i64 b,.slice U ab af,.slice W ah ac,.slice (some ⟨L,0,none⟩) (E.length+1) ak],.bool true]) (by simp [results,results110,go_sem,dF,c9,dH,cV,dS]) rfl ⟨some ⟨L,0,none⟩,ak,rfl,?_,(ar.mono dl).trans db,?_,fun g bK=>?_⟩
 .have aP:B<=L/\L≠w.heap.size/\L≠w.heap.size+1:=by
   rcases aq.2 with F | F
   .have M:=aj.base_le F;exact⟨M.1,ya,ya⟩
   exact⟨ya,ya,ya⟩
  have bV:OwnD au B 67 5 aR (.slice (some ⟨L,0,none⟩) (E.length+1) ak) (E.map encE++[encE H]):=b1.keep aQ.size (fun q z=>aQ.block q (by obtain⟨_,_,_,M⟩:=b1.out;exact(M q z).1) (fun F=>by
   rcases bb.out q z with M | M
   .have cI:=(aj.sub q M).1;rcases F with F | F<;>omega
   .rcases F with F | F<;>omega)) (fun g bK=>by
   have F:L=g:=(by simpa [Value.ownBlock] using bK);subst F;exact aQ.block _ (by obtain⟨_,aO,_⟩:=b1.out;exact ZN aO rfl) (fun F=>by rcases F with F | F;exact aP.2.1 F;exact aP.2.2 F))
  rw [qm,List.map_singleton];refine bV.more (fun q z=>?_) (fun q z=>?_)
  .rcases bb.out q z with aO | aO
   .exact .inl aO
   exact .inr ⟨ya,(bV.sub q z).1,(bV.sub q z).2⟩
  rcases z with z | z
  .have cI:=aj.sub q z;refine⟨ym ar.size aQ.size,fun F=>?_⟩;have dR:q=L:=(by simpa [Value.ownBlock] using F);subst dR;rcases aq.2 with co | co
   .exact cI.2 co.symm
   have:=ar.size;omega
  exact z.2
 .exact((qW (X:=fun q=>some q=(Value.slice R E aa).ownBlock) ar).trans (Qc (X:=fun q=>some q=(Value.slice R E aa).ownBlock) aq.1 (fun q _ e=>e)) (fun q _ e=>e)).trans aQ (fun q z e=>by rcases e with e | e<;>omega)
 have F:L=g:=(by simpa [Value.ownBlock] using bK);subst F;exact aq.2.imp id (fun e=>yl ar.size)
theorem logs1_any (B aF y:Nat) (aZ:Nat) (aC:Option Addr) (aE:Int) (aI:Value) (aY:Value) (ar:Option Addr) (az:Nat) (N:Bool) (h:Option Addr) (K O:Nat) (I:Option Addr) (R M:Nat) (Z:Option Addr) (aa:Nat) (E:List Ent) (S0:Nat->Prop) {PL:List (List Chg)} 
 (aw:w.heap[n]?=some (.cells (hisL A k aZ s aC i aE aI x xA aY).toArray 131 (0,0))) (bk:n<B) (aO:TabS w S aC s.tt) (ap:∀ a,S a->a<B) (bu:B<=w.heap.size) (aK:l=ZbL H m k L) (aG:BtS w S ar l) (bp:l.length<=az) (aL:PartOk H m k L)
 (ax:OwnD w B 67 5 S0 (.slice Z E.length aa) (E.map encE)) (bz:E.length<=1000) (aU:Zgp a E<H.co)
 (aX:Zbm s k L=(0,PL)) (bL:m<PL.length) (aH:(PL.getD m []).length=L.length) (aD:schF pcF s=0->(netF 0 s 1 L).1=0->∀ c ∈ (netF 0 s 1 L).2,ChgN s c) (bc:(netF (schF pcF s) s 1 L).2.length<=1) (bB:PL.length<=1000)
 (au:w.heap[aF]?=some (.cells #[.pointer (some ⟨n,0,none⟩)] 40 (0,0))) (av:w.heap[y]?=some (.cells #[.int .i64 (m:Int)] 3 (0,0))) :
 Calls prog 109 #[.agg #[.bool N,.int .i64 a,.slice h K O,.slice I R M,.slice Z E.length aa],.slice ar l.length az,.pointer (some ⟨aF,0,none⟩),.pointer (some ⟨y,0,none⟩)] w fun f w'=>∃ ao aq,f=.returned (.tuple #[.agg #[.bool N,.int .i64 a,.slice h K O,.slice I R M,.slice ao (E.length+1) aq],.bool true])/\OwnD w' B 67 5 (fun q=>S0 q\/(w.heap.size<=q/\q<w'.heap.size/\some q≠(Value.slice ao (E.length+1) aq).ownBlock)) (.slice ao (E.length+1) aq) ((E++[Zcl H m k L]).map encE)/\Below B w w'/\Fr (fun q=>some q=(Value.slice Z E.length aa).ownBlock) w w'/\(∀ g,(Value.slice ao (E.length+1) aq).ownBlock=some g->(Value.slice Z E.length aa).ownBlock=some g\/w.heap.size<=g):=by
 have ay:=hI ax;have bq:=Zb au;have bK:=Zb av;have aM:yr w aF 0 (.pointer (some ⟨n,0,none⟩)):=Za au 0 _ rfl;have aW:yr w y 0 (.int .i64 (m:Int)):=Za av 0 _ rfl;obtain⟨w2,ai⟩:=yp ((w.alloc (.cells #[.bool N,.int .i64 a,.slice h K O,.slice I R M,.slice Z E.length aa] 197)).alloc (.cells #[.bool false,.int .i64 0,.slice none 0 0,.slice none 0 0,.slice none 0 0] 197));have ae:Below w.heap.size w w2:=(by rw [<-ai];exact((qa _ w).alloc nR _).alloc yb _);have bg:=hI (show w2.heap[w.heap.size+1]?=some (.cells #[.bool false,.int .i64 0,.slice none 0 0,.slice none 0 0,.slice none 0 0] 197 (0,0)) by rw [<-ai];exact heap_alloc_new' yb);have bE:w2.heap.size=w.heap.size+2:=(by rw [<-ai];simp);have be:=hI (step_any n k m B s A aZ aC i aE aI x xA aY H L ar az l N a h K O I R M Z aa E S0 S PL w2 ((ae.block _ (Zb aw)).trans aw) bk (qU aO (fun q z=>ae.block q (yl (ap q z)))) ap ya aK (qU aG (fun q z=>ae.block q (yl (ap q z)))) bp aL (ax.below ae) bz aU aX bL aH aD bc bB);have an:=hI ae;have:w2.heap.size<=w.heap.size+2/\w.heap.size+2<=w2.heap.size:=ya;have aJ:=hI ai;clear aw au av ax ap aO aK aG aL aU aX aH aD bc bE ae ai;go_enter func109,ntmps109;go_upto_region 1 with fail
 rw [aJ];have bM:yr w2 aF 0 (.pointer (some ⟨n,0,none⟩)):=c9Q an.out bq aM;have bi:yr w2 y 0 (.int .i64 (m:Int)):=c9Q an.out bK aW;have aj:=hI (show w2.heap[w.heap.size]?=some (.cells #[.bool N,.int .i64 a,.slice h K O,.slice I R M,.slice Z E.length aa] 197 (0,0)) by rw [<-aJ];exact(qd _ _ _ yb).trans (qb w _));have bm:yr w2 w.heap.size 0 (.bool N):=Za aj.out 0 _ rfl;have bP:yr w2 w.heap.size 1 (.int .i64 a):=Za aj.out 1 _ rfl;have l2:yr w2 w.heap.size 2 (.slice h K O):=Za aj.out 2 _ rfl;have bj:yr w2 w.heap.size 3 (.slice I R M):=Za aj.out 3 _ rfl;have bl:yr w2 w.heap.size 4 (.slice Z E.length aa):=Za aj.out 4 _ rfl;clear aM aW
 go_wp2_with fail
 refine be.out.mono ?_;rintro f F ⟨W,U,rfl,ba,aQ,am,bb⟩;have aP:=hI bb;have aB:=hI ba;have aT:=hI aQ;have bN:=hI am;have bQ:=am.size;have aV:=hI ((am.block _ ya (fun aR=>yl ((ay.out.base_le aR.symm).2))).trans bg.out);have bh:yr F (w.heap.size+1) 0 (.bool false):=Za aV.out 0 _ rfl;have n1:yr F (w.heap.size+1) 1 (.int .i64 0):=Za aV.out 1 _ rfl;have n2:yr F (w.heap.size+1) 2 (.slice none 0 0):=Za aV.out 2 _ rfl;have bC:yr F (w.heap.size+1) 3 (.slice none 0 0):=Za aV.out 3 _ rfl;have bJ:yr F (w.heap.size+1) 4 (.slice none 0 0):=Za aV.out 4 _ rfl;have br:F.frozen? ⟨w.heap.size+1,0,none⟩=false:=Zd aV.out (k:=0);have bF:F.frozen? ⟨w.heap.size+1,1,none⟩=false:=Zd aV.out (k:=1);have bI:F.frozen? ⟨w.heap.size+1,2,none⟩=false:=Zd aV.out (k:=2);have bw:F.frozen? ⟨w.heap.size+1,3,none⟩=false:=Zd aV.out (k:=3);have bo:F.frozen? ⟨w.heap.size+1,4,none⟩=false:=Zd aV.out (k:=4);clear ba aQ am bb be bM bi bm bP l2 bj bl
 go_wp2_with fail
 have ab:Fr (fun q=>q=w.heap.size+1) F (((((F.setCell ⟨w.heap.size+1,0,none⟩ (.bool N)).setCell ⟨w.heap.size+1,1,none⟩ (.int .i64 a)).setCell ⟨w.heap.size+1,2,none⟩ (.slice h K O)).setCell ⟨w.heap.size+1,3,none⟩ (.slice I R M)).setCell ⟨w.heap.size+1,4,none⟩ (.slice W (E.length+1) U)):=(((((Qa (fun q=>q=w.heap.size+1) F).setCell _ (fun _=>rfl)).setCell _ (fun _=>rfl)).setCell _ (fun _=>rfl)).setCell _ (fun _=>rfl)).setCell _ (fun _=>rfl);have af:=Zc (k:=4) (v:=.slice W (E.length+1) U) (Zc (k:=3) (v:=.slice I R M) (Zc (k:=2) (v:=.slice h K O) (Zc (k:=1) (v:=.int .i64 a) (Zc (k:=0) (v:=.bool N) (vs:=[.bool false,.int .i64 0,.slice none 0 0,.slice none 0 0,.slice none 0 0]) aV.out))));obtain⟨ak,aS⟩:=yp ((((((F.setCell ⟨w.heap.size+1,0,none⟩ (.bool N)).setCell ⟨w.heap.size+1,1,none⟩ (.int .i64 a)).setCell ⟨w.heap.size+1,2,none⟩ (.slice h K O)).setCell ⟨w.heap.size+1,3,none⟩ (.slice I R M)).setCell ⟨w.heap.size+1,4,none⟩ (.slice W (E.length+1) U)));rw [aS] at ab af ⊢;have bf:yr ak (w.heap.size+1) 0 (.bool N):=Za af 0 _ rfl;have bn:yr ak (w.heap.size+1) 1 (.int .i64 a):=Za af 1 _ rfl;have bD:yr ak (w.heap.size+1) 2 (.slice h K O):=Za af 2 _ rfl;have bO:yr ak (w.heap.size+1) 3 (.slice I R M):=Za af 3 _ rfl;have bG:yr ak (w.heap.size+1) 4 (.slice W (E.length+1) U):=Za af 4 _ rfl;clear bh n1 n2 bC bJ br bF bI bw bo aS;have bt:=ab.size
 have aA:∀ q,(S0 q\/(w2.heap.size<=q/\q<F.heap.size/\some q≠(Value.slice W (E.length+1) U).ownBlock))->q<F.heap.size/\q≠w.heap.size+1/\some q≠(Value.slice W (E.length+1) U).ownBlock:=fun q z=>by
  have ah:=aB.out.sub q z;refine⟨ah.1,?_,ah.2⟩;rcases z with z | z
  .have:=(ay.out.sub q z).1;omega
  omega
 have bH:∀ g,(Value.slice W (E.length+1) U).ownBlock=some g->g≠w.heap.size+1:=fun g ac aR=>by
  rcases aP.out g ac with ah | ah
  .have:=(ay.out.base_le ah).2;omega
  omega
 refine qw (v:=.tuple #[.agg #[.bool N,.int .i64 a,.slice h K O,.slice I R M,.slice W (E.length+1) U],.bool true]) (by simp [results,results109,go_sem,bf,bn,bD,bO,bG]) rfl ⟨W,U,rfl,?_,((an.out.mono bu).trans aT.out).trans (ab.below (yl aT.out.size) (fun q z H=>ya)),((qW an.out).trans bN.out (fun q _ H=>H)).trans ab (fun q z H=>ya),fun g ac=>(aP.out g ac).imp id (fun ah=>ya)⟩;refine(aB.out.keep bt (fun q z=>ab.block q (aA q z).1 (aA q z).2.1) (fun g ac=>ab.block g (aB.out.base_le ac).2 (bH g ac))).more (fun q z=>?_) (fun q z=>?_)
 .rcases z with z | z
  .exact .inl z
  exact .inr ⟨ya,ya,z.2.2⟩
 rcases z with z | z
 .have:=aA q (.inl z);exact⟨ya,this.2.2⟩
 exact z.2
abbrev Prt:=Ent × List Chg
def prt0:Prt:=(ent0,[])
def prtE (i n:Int) (es:List Prt):List Ent:=es.map fun p=>Zcl p.1 i n p.2
structure FoldOk (s:Sch) (i n:Nat) (b:Int) (es:List Prt):Prop where
 ok:∀ k,k<es.length->PartOk (es.getD k prt0).1 i n (es.getD k prt0).2
 last:∀ k,k<es.length->Zgp b (prtE i n (es.take k))<(es.getD k prt0).1.co
 split:∀ k,k<es.length->∃ PL,Zbm s n (es.getD k prt0).2=(0,PL)/\i<PL/\PL.length<=1000/\(PL.getD i []).length=(es.getD k prt0).2.length
 gd:∀ k,k<es.length->schF pcF s=0->(netF 0 s 1 (es.getD k prt0).2).1=0->∀ c ∈ (netF 0 s 1 (es.getD k prt0).2).2,ChgN s c
 nl:∀ k,k<es.length->(netF (schF pcF s) s 1 (es.getD k prt0).2).2.length<=1
 few:es.length<=1000
theorem fold_any (bh y:Nat) {bm:Value} {es:List Prt} (bU:Nat) (K:Bool) (E:Option Addr) (H L:Nat) (F:Option Addr) (M I:Nat)  
 (aq:w.heap[n]?=some (.cells (hisL A k i s B j a x xA xB bm).toArray 131 (0,0))) (aL:TabS w S B s.tt) (ax:∀ t,S t->t<w) (aT:BysS w S A' (es.map fun p=>ZbL p.1 m k p.2)) (aI:FoldOk s m k t es)
 (aC:w.heap[bh]?=some (.cells #[.pointer (some ⟨n,0,none⟩)] 40 (0,0))) (aE:w.heap[y]?=some (.cells #[.int .i64 (m:Int)] 3 (0,0))) :
 Calls prog 107 #[.slice A' es bU,.agg #[.bool K,.int .i64 t,.slice E H L,.slice F M I,.slice none 0 0],.func (.func 109) #[] #[.pointer (some ⟨bh,0,none⟩),.pointer (some ⟨y,0,none⟩)]] w fun f w'=>∃ O R,f=.returned (.tuple #[.agg #[.bool K,.int .i64 t,.slice E H L,.slice F M I,.slice O es R],.bool true])/\OwnD w' w 67 5 (fun q=>w<=q/\q<w'/\some q≠(Value.slice O es R).ownBlock) (.slice O es R) ((prtE m k es).map encE)/\Below w w w':=by
 replace aq:=hI aq;replace aL:=hI aL;replace ax:=hI ax;replace aT:=hI aT;have au:=hI aI;replace aC:=hI aC;replace aE:=hI aE;have b8:=aI.few;clear aI;go_enter func107,ntmps107
 go_wp2_with fail
 obtain⟨w0,aw⟩:=yp ((w.alloc (.cells #[.bool K,.int .i64 t,.slice E H L,.slice F M I,.slice none 0 0] 197)).alloc (.cells #[.bool false,.int .i64 0,.slice none 0 0,.slice none 0 0,.slice none 0 0] 197));have bg:Below w w w0:=(by rw [<-aw];exact((qa _ w).alloc nR _).alloc yb _);have bq:w0.heap[w.heap.size]?=some (.cells #[.bool K,.int .i64 t,.slice E H L,.slice F M I,.slice none 0 0] 197 (0,0)):=(by rw [<-aw];exact(qd _ _ _ yb).trans (qb w _));have bi:w0.heap[w.heap.size+1]?=some (.cells #[.bool false,.int .i64 0,.slice none 0 0,.slice none 0 0,.slice none 0 0] 197 (0,0)):=(by rw [<-aw];exact heap_alloc_new' yb);rw [aw];clear aw
 go_loopw [14] (fun h ay=>∃ (q:Nat) (O:Option Addr) (R:Nat) (S0:Nat->Prop),q<=es/\h=.int .i64 (q:Int)/\ay.heap[w.heap.size]?=some (.cells #[.bool K,.int .i64 t,.slice E H L,.slice F M I,.slice O q R] 197 (0,0))/\ay.heap[w.heap.size+1]?=some (.cells #[.bool false,.int .i64 0,.slice none 0 0,.slice none 0 0,.slice none 0 0] 197 (0,0))/\OwnD ay w 67 5 S0 (.slice O q R) ((prtE m k (es.take q)).map encE)/\(∀ g,S0 g\/(Value.slice O q R).ownBlock=some g->w.heap.size+2<=g)/\Below w w ay) (fun h _=>es.length - (intOf h).toNat)
 case atStart=>exact⟨0,none,0,fun _=>False,qk _,rfl,bq,bi,Qg (fun q aF=>aF.elim),fun g N=>by rcases N with N | N;exact N.elim;simp [Value.ownBlock] at N,bg⟩
 obtain⟨q,O,R,S0,aF,rfl,am,aR,aB,ah,aQ⟩:=hrel;have bF:=hI am;have Z:=hI aR;replace aB:=hI aB;replace ah:=hI ah;have ak:=hI aQ;have bc:=aQ.size;have b6:=Zb aR;have ba:yr wr w 0 (.bool K):=Za am 0 _ rfl;have bu:yr wr w 1 (.int .i64 t):=Za am 1 _ rfl;have l2:yr wr w 2 (.slice E H L):=Za am 2 _ rfl;have aX:yr wr w 3 (.slice F M I):=Za am 3 _ rfl;have aY:yr wr w 4 (.slice O q R):=Za am 4 _ rfl;clear am aR aQ bq bi bg;rcases qv q es.length with af | b5
 .obtain⟨b3,b4,rfl,b7,b1,c2,bf,aG,aJ⟩:=BysS.at_ (qU aT (qS ak ax)) (k:=q) (by rw [qg];exact af);have aN:(es.map fun p=>ZbL p.1 m k p.2).getD q []=ZbL (es.getD q prt0).1 m k (es.getD q prt0).2:=(by simp [List.getD,af]);obtain⟨rec,bb⟩:=yp ((es.map fun p=>ZbL p.1 m k p.2).getD q []);rw [bb] at bf aG aJ aN;obtain⟨aH,ar⟩:=yp (prtE m k (es.take q));have bj:aH.length=q:=(by rw [<-ar];unfold prtE;rw [qg,qG];omega);obtain⟨PL,br,bp,bz,bk⟩:=au.split q af;have aK:=logs1_any w bh y i B a x bm b1 c2 K E H L F M I O R aH S0 ((ak.block _ (Zb aq)).trans aq) (Zb aq) (qU aL (fun q aF=>ak.block q (ax q aF))) ax bc aN aJ aG (au.ok q af) (by rw [bj,<-ar];exact aB) ya (by rw [<-ar];exact au.last q af) br bp bk (au.gd q af) (au.nl q af) bz ((ak.block _ (Zb aC)).trans aC) ((ak.block _ (Zb aE)).trans aE);rw [bj] at aK;have bw:=hI aK
  have bI:=hI (show aH++[Zcl (es.getD q prt0).1 m k (es.getD q prt0).2]=prtE m k (es.take (q+1)) by
   have aj:es.getD q prt0=es[q]:=gD af;rw [<-ar,qj af,aj];unfold prtE;rw [qm,List.map_singleton])
  clear aK ar aG aJ aN bb br bp bz bk
  go_wp2_with fail
  refine bw.mono ?_;rintro f W ⟨ae,ac,rfl,ap,aP,aD,aM⟩;rw [bI] at ap;replace ap:=hI ap;replace aP:=hI aP;replace aM:=hI aM;have b2:=aD.size;have aU:∀ z,z<w.heap.size+2->some z≠(Value.slice O q R).ownBlock:=(fun z U aj=>yl (ah z (.inr aj.symm)));have aa:=hI ((aD.block _ ya (aU _ ya)).trans bF);have bO:=hI ((aD.block _ ya (aU _ ya)).trans Z);have bH:W.frozen? ⟨w,0,none⟩=false:=Zd aa;have bQ:W.frozen? ⟨w,1,none⟩=false:=Zd aa;have bV:W.frozen? ⟨w,2,none⟩=false:=Zd aa;have bK:W.frozen? ⟨w,3,none⟩=false:=Zd aa;have bG:W.frozen? ⟨w,4,none⟩=false:=Zd aa;have bC:yr W w 0 (.bool K):=Za aa 0 _ rfl;have n1:yr W w 1 (.int .i64 t):=Za aa 1 _ rfl;have n2:yr W w 2 (.slice E H L):=Za aa 2 _ rfl;have bM:yr W w 3 (.slice F M I):=Za aa 3 _ rfl;have bX:yr W w 4 (.slice O q R):=Za aa 4 _ rfl;have bD:w.heap.size<W:=ya;clear aD bw ba bu l2 aX aY bf
  go_wp2_with fail
  have ab:Fr (fun z=>z=w.heap.size) W ((((((W.setCell ⟨w,0,none⟩ (.bool K)).setCell ⟨w,1,none⟩ (.int .i64 t)).setCell ⟨w,2,none⟩ (.slice E H L)).setCell ⟨w,3,none⟩ (.slice F M I)).setCell ⟨w,4,none⟩ (.slice ae (q+1) ac)).alloc (.cells #[.bool K,.int .i64 t,.slice E H L,.slice F M I,.slice ae (q+1) ac] 197)):=((((((Qa (fun z=>z=w.heap.size) W).setCell _ (fun _=>rfl)).setCell _ (fun _=>rfl)).setCell _ (fun _=>rfl)).setCell _ (fun _=>rfl)).setCell _ (fun _=>rfl)).alloc _;have ai:=Zc (k:=4) (v:=.slice ae (q+1) ac) (Zc (k:=3) (v:=.slice F M I) (Zc (k:=2) (v:=.slice E H L) (Zc (k:=1) (v:=.int .i64 t) (Zc (k:=0) (v:=.bool K) (vs:=[.bool K,.int .i64 t,.slice E H L,.slice F M I,.slice O q R]) aa))));have az:((((((W.setCell ⟨w,0,none⟩ (.bool K)).setCell ⟨w,1,none⟩ (.int .i64 t)).setCell ⟨w,2,none⟩ (.slice E H L)).setCell ⟨w,3,none⟩ (.slice F M I)).setCell ⟨w,4,none⟩ (.slice ae (q+1) ac)).alloc (.cells #[.bool K,.int .i64 t,.slice E H L,.slice F M I,.slice ae (q+1) ac] 197)).heap[w.heap.size]?=_:=(heap_alloc_old (((((W.setCell ⟨w,0,none⟩ (.bool K)).setCell ⟨w,1,none⟩ (.int .i64 t)).setCell ⟨w,2,none⟩ (.slice E H L)).setCell ⟨w,3,none⟩ (.slice F M I)).setCell ⟨w,4,none⟩ (.slice ae (q+1) ac)) _ (by simpa using bD)).trans ai;obtain⟨an,av⟩:=yp (((((((W.setCell ⟨w,0,none⟩ (.bool K)).setCell ⟨w,1,none⟩ (.int .i64 t)).setCell ⟨w,2,none⟩ (.slice E H L)).setCell ⟨w,3,none⟩ (.slice F M I)).setCell ⟨w,4,none⟩ (.slice ae (q+1) ac)).alloc (.cells #[.bool K,.int .i64 t,.slice E H L,.slice F M I,.slice ae (q+1) ac] 197)));rw [av] at ab az ⊢;have aA:=hI ab;replace az:=hI az;have aO:=ab.size;clear ab ai av bH bQ bV bK bG bC n1 n2 bM bX
  have bo:∀ g,(Value.slice ae (q+1) ac).ownBlock=some g->w.heap.size+2<=g:=fun g N=>by
   rcases aM.out g N with bt | bt
   .exact ah g (.inr bt)
   omega
  go_roundw
  case rel => exact ⟨q + 1, ae, ac, _, by omega, by go_num, az, (aA.block _ ya ya).trans bO, ap.keep aO (fun z U => aA.block z (ap.sub z U).1 (fun aj => by
   rcases U with U | U
   .have:=ah z (.inl U);omega
   .omega)) (fun g N=>aA.block g (ap.base_le N).2 (fun aj=>yl (bo g N))),fun g N=>by
   rcases N with (N | N) | N
   .exact ah g (.inl N)
   .omega
   exact bo g N,(ak.trans aP).trans (aA.below ya (fun z U aj=>ya))⟩
  simp [intOf];omega
 obtain rfl:q=es.length:=ya;have r0:wr.frozen? ⟨w+1,0,none⟩=false:=Zd Z;have bW:wr.frozen? ⟨w+1,1,none⟩=false:=Zd Z;have bZ:wr.frozen? ⟨w+1,2,none⟩=false:=Zd Z;have bJ:wr.frozen? ⟨w+1,3,none⟩=false:=Zd Z;have bY:wr.frozen? ⟨w+1,4,none⟩=false:=Zd Z;have t0:yr wr (w+1) 0 (.bool false):=Za Z 0 _ rfl;have bP:yr wr (w+1) 1 (.int .i64 0):=Za Z 1 _ rfl;have bS:yr wr (w+1) 2 (.slice none 0 0):=Za Z 2 _ rfl;have bT:yr wr (w+1) 3 (.slice none 0 0):=Za Z 3 _ rfl;have bL:yr wr (w+1) 4 (.slice none 0 0):=Za Z 4 _ rfl
 go_wp2_with fail
 have ab:Fr (fun z=>z=w.heap.size+1) wr (((((wr.setCell ⟨w+1,0,none⟩ (.bool K)).setCell ⟨w+1,1,none⟩ (.int .i64 t)).setCell ⟨w+1,2,none⟩ (.slice E H L)).setCell ⟨w+1,3,none⟩ (.slice F M I)).setCell ⟨w+1,4,none⟩ (.slice O es R)):=(((((Qa (fun z=>z=w.heap.size+1) wr).setCell _ (fun _=>rfl)).setCell _ (fun _=>rfl)).setCell _ (fun _=>rfl)).setCell _ (fun _=>rfl)).setCell _ (fun _=>rfl);have ai:=Zc (k:=4) (v:=.slice O es R) (Zc (k:=3) (v:=.slice F M I) (Zc (k:=2) (v:=.slice E H L) (Zc (k:=1) (v:=.int .i64 t) (Zc (k:=0) (v:=.bool K) (vs:=[.bool false,.int .i64 0,.slice none 0 0,.slice none 0 0,.slice none 0 0]) Z))));obtain⟨an,av⟩:=yp ((((((wr.setCell ⟨w+1,0,none⟩ (.bool K)).setCell ⟨w+1,1,none⟩ (.int .i64 t)).setCell ⟨w+1,2,none⟩ (.slice E H L)).setCell ⟨w+1,3,none⟩ (.slice F M I)).setCell ⟨w+1,4,none⟩ (.slice O es R)));rw [av] at ab ai ⊢;have bB:yr an (w+1) 0 (.bool K):=Za ai 0 _ rfl;have bE:yr an (w+1) 1 (.int .i64 t):=Za ai 1 _ rfl;have bN:yr an (w+1) 2 (.slice E H L):=Za ai 2 _ rfl;have b0:yr an (w+1) 3 (.slice F M I):=Za ai 3 _ rfl;have bR:yr an (w+1) 4 (.slice O es R):=Za ai 4 _ rfl;clear r0 bW bZ bJ bY t0 bP bS bT bL ba bu l2 aX aY av;have aO:=ab.size;have ao:=aB.out;rw [qM] at ao;refine qw (v:=.tuple #[.agg #[.bool K,.int .i64 t,.slice E H L,.slice F M I,.slice O es R],.bool true]) (by simp [results,results107,go_sem,bB,bE,bN,b0,bR]) rfl ⟨O,R,rfl,(ao.keep aO (fun z U=>ab.block z (ao.sub z U).1 (fun aj=>yl (ah z (.inl U)))) (fun g N=>ab.block g (ao.base_le N).2 (fun aj=>yl (ah g (.inr N))))).more (fun z U=>⟨yl (ah z (.inl U)),yl ((ao.sub z U).1),(ao.sub z U).2⟩) (fun z U=>U.2),ak.trans (ab.below bc (fun z U aj=>ya))⟩
theorem hbase_any (z:yr w n 4 (.int .i64 a)) :
 Calls prog 17 #[.pointer (some ⟨n,0,none⟩)] w fun e w'=>e=.returned (.int .i64 a)/\w'=w:=by
 go_enter func17,ntmps17
 go_wp2
 go_ret;simp
theorem Zcn (z:yr w n 4 (.int .i64 a)) (hd:yr w n 7 (.slice A k m)) (E:0<=a/\a+k<=1000000000000) :
 Calls prog 18 #[.pointer (some ⟨n,0,none⟩)] w fun e w'=>e=.returned (.int .i64 (a+k))/\∃ h,w'=w.drewN h:=by
 have:IntKind.i64.wrap (a+k)=a+k:=(by rw [IntKind.wrap_i64];omega);go_enter func18,ntmps18
 go_wp2
 go_quiet (fail)
 go_wp2
 go_ret;exact⟨rfl,_,rfl⟩
theorem kept_any (I:yr w n 4 (.int .i64 t)) (hd:yr w n 7 (.slice A k m)) (F:0<=t/\t+k<=1000000000000) :
 Calls prog 55 #[.pointer (some ⟨n,0,none⟩),.int .i64 a] w fun e w'=>e=.returned (.bool (decide (t<=a/\a<=t+k)))/\∃ h,w'=w.drewN h:=by
 have E:=hI (Zcn I hd F);obtain⟨L,H⟩:=yp (t+(k:Int));rw [H] at E ⊢;clear H F hd
 by_cases z:t<=a
 .go_enter func55,ntmps55
  go_wp2_with fail
  refine E.mono ?_;rintro e K ⟨rfl,h,rfl⟩
  go_wp2
  go_ret;exact⟨by simp [z],h,rfl⟩
 have:decide (t<=a)=false:=qe z;go_enter func55,ntmps55
 go_wp2
 go_ret;exact⟨by simp [z],0,rfl⟩
theorem ZfD:
 Calls prog 128 #[.pointer (some ⟨n,0,none⟩),.int .i64 0] w fun e w'=>e=.returned (.int .i64 0)/\w'=w:=by
 go_enter func128,ntmps128
 go_wp2
 go_ret;simp
def advL (l:List Chg):List Chg:=(l.filter fun c=>decide (c.new.length=0))++(l.filter fun c=>decide (0<c.new.length))
theorem ZbK (aq:Nat) (aI:Nat) {st:St} (aZ:TabS w S A s.tt) (bj:StS w S B st) (bn:ChgS w S A' L) (an:∀ b,S b->b<w) (bb:ZbZ pcF s) (bh:Zi st<=4611686018427387904) (ca:s.tt.length<=1000000) (b9:L.length<=1) (bw:netF (schF pcF s) s 1 L=(0,LA)) (cm:LA.length<=1) :
 Calls prog 56 #[sAgg s.vv A s.tt aq,ZaM B st aI,.slice A' L n] w (ApPost (Zak (schF pcF s) s 1 st (advL LA)) w):=by
 obtain⟨bF,bN,bE,bM,bD⟩:=qA ZhY;replace aZ:=hI aZ;replace bj:=hI bj;replace bn:=hI bn;replace an:=hI an;replace bb:=hI bb;replace bw:=hI bw;replace bh:=hI bh;go_enter func56,ntmps56;go_upto_region 1 with fail
 obtain⟨w0,av⟩:=yp (((w.alloc (.cells #[.int .i64 s.vv,.slice A s.tt aq] 25)).alloc (.cells #[.slice B st aI] 28)).alloc (.cells #[.slice none 0 0] 28));have aY:Below w w w0:=(by rw [<-av];exact(((qa _ w).alloc nR _).alloc yb _).alloc yd _);have bV:w0.heap.size=w.heap.size+3:=(by rw [<-av];simp);have aV:=hI (show w0.heap[w.heap.size]?=some (.cells #[.int .i64 s.vv,.slice A s.tt aq] 25 (0,0)) by rw [<-av];exact(qd _ _ _ yd).trans ((qd _ _ _ yb).trans (qb w _)));have b5:=hI (show w0.heap[w.heap.size+1]?=some (.cells #[.slice B st aI] 28 (0,0)) by rw [<-av];exact(qd _ _ _ yb).trans (heap_alloc_new' yb));have b2:=hI (show w0.heap[w.heap.size+1+1]?=some (.cells #[.slice none 0 0] 28 (0,0)) by rw [<-av];exact heap_alloc_new' yb);have b0:=hI aY;have:w0.heap.size<=w+3/\w.heap.size+3<=w0:=ya;have bK:=hI (Zhb (aK:=pcF) (A:=A) aq (s:=s) 1 (B:=A') n (L:=L) (S:=S) (w:=w0) (qU aZ (fun q z=>aY.block q (an q z))) (qU bn (fun q z=>aY.block q (an q z))) (fun q z=>yl (an q z)) bb ca b9);rw [av];have bk:yr w0 w 0 (.int .i64 s.vv):=Za aV 0 _ rfl;have bm:yr w0 w 1 (.slice A s.tt aq):=Za aV 1 _ rfl;clear av aY bV
 go_wp2_with fail
 refine bK.mono ?_;rw [bw];rintro e bo ⟨cj,cn,rfl,cc,aH,bt⟩;simp only at cc aH;replace aH:=hI aH;have ce:=hI bt;have ci:=bt.size;clear bt bK bk bm;obtain⟨l,ck⟩:=yp bo.heap.size
 go_wp2
 go_loopw [10,27] (fun br i aE=>∃ (q:Nat) (aG:Option Addr) (aJ:Nat) (R:List Chg),q<=LA/\i=.int .i64 (q:Int)/\br=.slice aG R aJ/\R=(LA.take q).filter (fun c=>decide (c.new.length=0))/\Mk aE l (fun b=>w0<=b/\b<l) 148 3 (.slice aG R aJ) (R.map ZF)/\Below l bo aE) (fun _ i _=>LA.length - (intOf i).toNat)
 case atStart=>exact⟨0,none,0,[],qk _,rfl,rfl,yb,Qe (fun b bQ=>bQ.2) ya _ _,qa _ _⟩
 obtain⟨q,aG,aJ,R,z,rfl,rfl,au,N,aa⟩:=hrel;replace N:=hI N;replace aa:=hI aa;have bq:R.length<=LA:=(by rw [au];exact qD (qI _ _) yd);replace au:=hI au;rcases qv q LA.length with ap | b8
 .obtain⟨bU,bY,bl,cg,aQ,ac,ab,ae,aj,aO,aw,Z,aF,ax,W⟩:=(ChgS.keep aH (qS aa (fun O F=>yl F.2))).at_ ap;have ao:=hI (show LA.take (q+1)=LA.take q++[LA.getD q chg0] by rw [qj ap];simp [List.getD,ap]);subst bl;generalize LA.getD q chg0=x at aQ aO aw Z aF ax W ao;obtain⟨M,E,H⟩:=x;simp only at aQ aO aw Z aF ax W;replace Z:=hI Z;replace W:=hI W;obtain⟨K,ah,I,-⟩:=al wr (.cells #[.int .i64 M,.slice ac E ab,.slice ae H aj] 148);have I:=I.out;have ak:K.heap[wr.heap.size]?=some (.cells #[.int .i64 M,.slice ac E ab,.slice ae H aj] 148 (0,0)):=(by rw [<-ah];exact qb wr _);have bT:yr K wr 0 (.int .i64 M):=Za ak 0 _ rfl;have b7:yr K wr 1 (.slice ac E ab):=Za ak 1 _ rfl;have bR:yr K wr 2 (.slice ae H aj):=Za ak 2 _ rfl;have aP:=hI (N.below I);have aM:=hI (aa.trans (I.mono N.hi));have b6:=N.hi;have bf:=hI (Z.keep (w':=K) (fun O F=>I.block O (yl F.2)));have bJ:=hI (W.keep (w':=K) (fun O F=>I.block O (yl F.2)));replace ah:=hI ah;clear I ak;go_upto_region 8 with fail
  rw [ah];rcases qF H.length with U | U
  .obtain rfl:H=[]:=qN U;clear U
   go_wp2_with (at_builtin;refine Zl rfl (.tmp 35) (.tmp 37) 56 rfl (base:=l) (S0:=fun b=>w0<=b/\b<l) (e:=148) (i:=bF) (size:=3) 56 underlying56 bN bE bM bD rfl yf aP rfl (d:=ZF ⟨M,E,[]⟩) #[.int .i64 M,.slice ac E ab,.slice ae 0 aj] (ZbP ⟨aw,bf.more (fun O F=>.inl ⟨F.1,yl F.2⟩)⟩ ⟨yb,Qi⟩) (Zaw _) (Zab _) 1 rfl ya ya ?_;intro bi bc bW aL ai b1;have bu:=hI aL;have ay:=hI ai;clear aL ai)
   go_roundw
   case rel=>exact⟨q+1,some ⟨bi,0,none⟩,bc,R++[⟨M,E,[]⟩],ya,by go_num,yb,by rw [ao,au];simp,by rw [qm];simpa using bu.out,aM.trans ay⟩
   simp [intOf];omega
  have aU:H≠[]:=List.length_pos_iff.1 U;have:((H:Int) == 0)=false:=(by simp [aU]);replace aU:=hI aU;clear U
  go_wp2
  go_roundw
  case rel=>exact⟨q+1,_,_,R,ya,by go_num,rfl,by rw [ao,au,List.filter_append];simp [aU.out],aP,aM⟩
  simp [intOf];omega
 obtain rfl:q=LA.length:=ya;have af:=au.out;rw [qM] at af;have bC:=hI af;clear af
 go_wp2_with fail
 obtain⟨bg,aX⟩:=yp R;have bZ:=hI (show bg=LA.filter (fun c=>decide (c.new.length=0)) by rw [<-aX];exact bC);have bP:=hI (show Mk wr l (fun b=>w0<=b/\b<l) 148 3 (.slice aG R aJ) (R.map ZF) from N)
 go_loopw [10,42] (fun br i aE=>∃ (q:Nat) (aS:Option Addr) (aN:Nat) (L':List Chg),q<=LA/\i=.int .i64 (q:Int)/\br=.slice aS L' aN/\L'=bg++(LA.take q).filter (fun c=>decide (0<c.new.length))/\Mk aE l (fun b=>w0<=b/\b<l) 148 3 (.slice aS L' aN) (L'.map ZF)/\Below l bo aE) (fun _ i _=>LA.length - (intOf i).toNat)
 case atStart=>exact⟨0,aG,aJ,R,qk _,rfl,rfl,by rw [aX];simp,bP,aa⟩
 have:bg.length<=LA:=(by rw [<-aX];exact bq);clear aX bq N aa bP bC au;obtain⟨q,aS,aN,L',z,rfl,rfl,aC,bG,bI⟩:=hrel;have N:=hI bG;have aa:=hI bI
 have bq:L'.length<=LA+LA.length:=by
  have co:=qD (qI (fun c:Chg=>decide (0<c.new.length)) (LA.take q)) (show (LA.take q).length<=LA.length by simp;omega);rw [aC,qi];omega
 replace aC:=hI aC;clear bG bI;rcases qv q LA.length with ap | b8
 .obtain⟨bU,bY,bl,cg,aQ,ac,ab,ae,aj,aO,aw,Z,aF,ax,W⟩:=(ChgS.keep aH (qS aa (fun O F=>yl F.2))).at_ ap;have ao:=hI (show LA.take (q+1)=LA.take q++[LA.getD q chg0] by rw [qj ap];simp [List.getD,ap]);subst bl;generalize LA.getD q chg0=x at aQ aO aw Z aF ax W ao;obtain⟨M,E,H⟩:=x;simp only at aQ aO aw Z aF ax W;replace Z:=hI Z;replace W:=hI W;obtain⟨K,ah,I,-⟩:=al wr (.cells #[.int .i64 M,.slice ac E ab,.slice ae H aj] 148);have I:=I.out;have ak:K.heap[wr.heap.size]?=some (.cells #[.int .i64 M,.slice ac E ab,.slice ae H aj] 148 (0,0)):=(by rw [<-ah];exact qb wr _);have bT:yr K wr 0 (.int .i64 M):=Za ak 0 _ rfl;have b7:yr K wr 1 (.slice ac E ab):=Za ak 1 _ rfl;have bR:yr K wr 2 (.slice ae H aj):=Za ak 2 _ rfl;have aP:=hI (N.below I);have aM:=hI (aa.trans (I.mono N.hi));have b6:=N.hi;have bf:=hI (Z.keep (w':=K) (fun O F=>I.block O (yl F.2)));have bJ:=hI (W.keep (w':=K) (fun O F=>I.block O (yl F.2)));replace ah:=hI ah;clear I ak;go_upto_region 14 with fail
  rw [ah];rcases qF H.length with U | U
  .obtain rfl:H=[]:=qN U;clear U
   go_wp2
   go_roundw
   case rel=>exact⟨q+1,aS,aN,L',ya,by go_num,rfl,by rw [ao,aC,List.filter_append];simp,aP,aM⟩
   simp [intOf];omega
  replace U:=hI U
  go_wp2_with (at_builtin;refine Zl rfl (.tmp 50) (.tmp 52) 56 rfl (base:=l) (S0:=fun b=>w0<=b/\b<l) (e:=148) (i:=bF) (size:=3) 56 underlying56 bN bE bM bD rfl yf aP rfl (d:=ZF ⟨M,E,H⟩) #[.int .i64 M,.slice ac E ab,.slice ae H aj] (ZbP ⟨aw,bf.more (fun O F=>.inl ⟨F.1,yl F.2⟩)⟩ ⟨ax,bJ.more (fun O F=>.inl ⟨F.1,yl F.2⟩)⟩) (Zaw _) (Zab _) 1 rfl ya ya ?_;intro bi bc bW aL ai b1;have bu:=hI aL;have ay:=hI ai;clear aL ai)
  go_roundw
  case rel=>exact⟨q+1,some ⟨bi,0,none⟩,bc,L'++[⟨M,E,H⟩],ya,by go_num,yb,by rw [ao,aC,List.filter_append,qB];simp [U.out],by rw [qm];simpa using bu.out,aM.trans ay⟩
  simp [intOf];omega
 obtain rfl:q=LA.length:=ya;have af:=aC.out;rw [qM,bZ] at af;replace af:=hI af;have ar:Below w0 w0 wr:=ce.trans (aa.mono ya);have aA:Below w w wr:=b0.trans (ar.mono ya);have bk:yr wr w 0 (.int .i64 s.vv):=Za ((ar.block _ ya).trans aV) 0 _ rfl;have bm:yr wr w 1 (.slice A s.tt aq):=Za ((ar.block _ ya).trans aV) 1 _ rfl;have cd:yr wr (w+1) 0 (.slice B st aI):=Za ((ar.block _ ya).trans b5) 0 _ rfl;have bz:=hI ((ar.block _ ya).trans b2);obtain⟨-,b3,bO⟩:=N.slice (by rw [Ze (n:=56) (fun _=>rfl)];omega)
 have aB:=Zgj (E:=pcF) (A:=A) aq (s:=s) 1 (B:=B) aI (st:=st) (A':=aS) (n:=aN) (L:=L') (S:=fun q=>S q\/(w0<=q/\q<wr)) (w:=wr) (qZ (qU aZ (fun q z=>aA.block q (an q z))) (fun q z=>.inl z)) (qZ (qU bj (fun q z=>aA.block q (an q z))) (fun q z=>.inl z)) (qZ bO (fun q z=>.inr (by have:=N.hi;rcases z with z | z<;>omega))) (fun q z=>by
  rcases z with z | z
  .have:=an q z;have:=aA.size;omega
  exact z.2) bb bh
 rw [show L'=advL LA by unfold advL;exact af.out] at aB;replace aB:=hI aB;have cf:=hI aA;have bX:=aA.size;have cp:=ar.size;have ba:=hI (show L'=advL LA by unfold advL;exact af);rw [<-ba] at aB;clear ar aA bO b3
 go_wp2_with fail
 refine aB.mono ?_;rintro e az ⟨aT,aK,rfl,bH,aW,ai⟩;replace aW:=hI aW;have ay:=hI ai;have bL:=hI ((ai.block _ (Zb bz)).trans bz);have bS:yr az (w.heap.size+1+1) 0 (.slice none 0 0):=Za bL 0 _ rfl;have:az.frozen? ⟨w.heap.size+1+1,0,none⟩=false:=Zd bL (k:=0);obtain⟨aR,aD⟩:=yp (Zak (schF pcF s) s 1 st L');rw [aD] at bH aW ⊢;replace aD:=hI aD;clear ai aB bk bm cd
 go_wp2_with fail
 have bp:Fr (fun q=>q=w.heap.size+1+1) az (az.setCell ⟨w.heap.size+1+1,0,none⟩ (.slice aT aR.2 aK)):=(Qa _ az).setCell _ (fun _=>rfl);have b4:yr (az.setCell ⟨w.heap.size+1+1,0,none⟩ (.slice aT aR.2 aK)) (w.heap.size+1+1) 0 (.slice aT aR.2 aK):=Qr _ _ _ bS;have ch:=ay.size;refine qw (v:=.tuple #[.agg #[.slice aT aR.2 aK],.int .i64 aR.1]) (by simp [results,results56,go_sem,b4]) rfl ⟨aT,aK,by rw [<-ba,aD],by rw [<-ba,aD];exact bH,?_,(cf.trans (ay.mono bX)).trans (bp.below ya (fun q z e=>ya))⟩;rw [<-ba,aD];exact qZ (qU aW (bp.same (fun q z=>⟨z.2,yl z.1⟩))) (fun q z=>⟨yl z.1,ym z.2 bp.size⟩)
end Go.Proofs.YtjadnfodboepeaaGreat
