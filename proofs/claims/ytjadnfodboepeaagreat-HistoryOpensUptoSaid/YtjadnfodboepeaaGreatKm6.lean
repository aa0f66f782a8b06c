import Derived.Test.YtjadnfodboepeaaGreatKh0
set_option linter.all false
set_option maxRecDepth 100000
set_option maxHeartbeats 8000000
namespace Go.Proofs.YtjadnfodboepeaaGreat
open Go.RowKit
variable {w:World} {n k:Nat} {A:Option Addr} {S:Nat->Prop} {s:Sch} {L:List Chg} {H:Ent}
theorem partRecord_any (af:Option Addr) (c1:Nat) (aR:Option Addr) (c2:Nat) (ah:Option Addr) (ar:Nat) (i:Int) (n:Nat) (cR:Nat) (E:EntB H) (bC:IntS w S af H.sd) (bk:BtS w S ah H.note) (cc:ChgS w S A L) (cJ:∀ b,S b->b<w) (bB:∀ c ∈ L,ChgB c) (dq:L.length<=2000) (dj:0<n) (dd:n<=1000) :
 Calls Tryz.prog 119 #[.agg #[.int .i64 H.co,.int .i64 H.wn,.slice af H.sd c1,.slice aR H.cx c2,.slice ah H.note ar],.int .i64 i,.int .i64 (n:Int),.slice A L cR] w (PutP w (ZbL H i n L) w):=by
 obtain⟨dk,ow,R,aw,ab⟩:=H;simp only;obtain⟨⟨b5,cL⟩,⟨bI,cy⟩,aS,cI,br,cF⟩:=E;simp only at b5 cL bI cy aS cI br cF bC bk;obtain⟨Z,rfl⟩:=qn b5;obtain⟨own,rfl⟩:=qn bI;replace bC:=hI bC;replace bk:=hI bk;replace cc:=hI cc;replace aS:=hI aS;replace br:=hI br;replace bB:=hI bB;have:Z<1000000000000:=ya;have:own<1000000000000:=ya;clear b5 bI cL cy;go_enter Tryz.func119,Tryz.ntmps119;go_upto_region 2 with fail
 obtain⟨bL,aq⟩:=yp w.heap.size;obtain⟨aY,aN⟩:=yp (((w.alloc (.cells #[.int .i64 (Z:Int),.int .i64 (own:Int),.slice af R c1,.slice aR aw c2,.slice ah ab ar] 67)).alloc (.cells #[.int .u8 2] 5)).alloc (.cells #[.slice (some ⟨w+1,0,none⟩) 1 1] 270));have cr:Below bL w aY:=(by rw [<-aN,<-aq];exact(((qa _ w).alloc nR _).alloc yb _).alloc yd _);have bY:=hI (show aY.heap[bL]?=some (.cells #[.int .i64 (Z:Int),.int .i64 (own:Int),.slice af R c1,.slice aR aw c2,.slice ah ab ar] 67 (0,0)) by rw [<-aN,<-aq];exact(qd _ _ _ yd).trans ((qd _ _ _ yb).trans (qb w _)))
 have bN:=hI (show WrM aY (bL+2) bL (some ⟨bL+1,0,none⟩) 1 [2] by
  refine⟨?_,⟨rfl,.inr ⟨bL+1,1,#[bv 2],rfl,ya,?_,yb,yh,rfl,rfl⟩⟩,ya⟩
  .rw [<-aN,<-aq];simpa using qb ((w.alloc (.cells #[.int .i64 (Z:Int),.int .i64 (own:Int),.slice af R c1,.slice aR aw c2,.slice ah ab ar] 67)).alloc (.cells #[.int .u8 2] 5)) (.cells #[.slice (some ⟨w+1,0,none⟩) 1 1] 270)
  rw [<-aN,<-aq];exact(qd _ _ _ yb).trans (by simpa using qb (w.alloc (.cells #[.int .i64 (Z:Int),.int .i64 (own:Int),.slice af R c1,.slice aR aw c2,.slice ah ab ar] 67)) (.cells #[bv 2] 5)))
 have cE:=hI cr;obtain⟨g,cq⟩:=yp (bL+2);have M:∀ b,S b->b<bL:=(fun b I=>by rw [<-aq];exact cJ b I);have dh:=Zz (n:=Z) ya;have df:=Zz (n:=own) ya;have dm:=Zz (n:=R) ya;have de:=Zz (n:=ab) ya;have dv:=Zz (n:=L) ya;have dg:=Zdf (l:=R) (f:=fun x=>lebF x.toNat) (n:=10) (fun x an=>Zz (yl (aS x an)));rw [aN,aq];have cA:bL+1+1=g:=by omega
 try rw [cA]
 rw [cq] at bN;clear aN;have aE:=hI aq.symm;clear aq cJ cr cA;clear cq;have v0:yr aY bL 0 (.int .i64 (Z:Int)):=Za bY 0 _ rfl
 go_wp2_with fail
 refine(Zaa (n:=g) (k:=bL) (A:=some ⟨bL+1,0,none⟩) (m:=1) (l:=[2]) (i:=Z) (w:=aY) bN yb ya).mono ?_;rintro H cC ⟨rfl,cW,cX,z,E,F⟩;obtain⟨bW,bE⟩:=yp ([2]++lebF Z);have cP:=hI bE;have:bW.length<=20:=(by rw [<-bE];simp only [qi,qK,Qp];omega);rw [bE] at z;have cz:=hI z;have co:=hI (cE.trans E);have bX:=hI (F bL _ _ bY yf yf);clear z E F bE;clear v0;have aa:yr cC bL 1 (.int .i64 (own:Int)):=Za bX 1 _ rfl
 go_wp2_with fail
 refine(Zaa (n:=g) (k:=bL) (A:=cW) (m:=cX) (l:=bW) (i:=own) (w:=cC) cz ya ya).mono ?_;rintro H w2 ⟨rfl,cS,c4,z,E,F⟩;obtain⟨ck,bn⟩:=yp (bW++lebF own);have cN:=hI bn;have:ck.length<=40:=(by rw [<-bn];simp only [qi,qK,Qp];omega);rw [bn] at z;have cG:=hI z;have bJ:=hI (co.trans E);have bG:=hI (F bL _ _ bX yf yf);clear z E F bn;clear aa;have ae:yr w2 bL 2 (.slice af R c1):=Za bG 2 _ rfl;have aU:bL<w2:=Zb bG
 go_wp2_with fail
 refine(wnumbers_any (n:=g) (k:=bL) (A:=cS) (m:=c4) (l:=ck) (B:=af) (i:=c1) (p:=R) (S:=S) (w:=w2) cG ya (qU bC (fun b I=>bJ.block b (M b I))) (fun b I=>⟨yl (M b I),M b I⟩) aS cI).mono ?_;rintro H aX ⟨rfl,cK,cD,z,E,F⟩;obtain⟨aV,bo⟩:=yp (ck++(lebF R.length++R.flatMap fun x=>lebF x.toNat));have c9:=hI bo;have:aV.length<=11000:=(by rw [<-bo];simp only [qi,qK,Qp];omega);rw [bo] at z;have cg:=hI z;have bu:=hI (bJ.trans E);have aM:=hI (F bL _ _ bG yf yf);clear z E F bo;clear ae aU;have aa:yr aX bL 1 (.int .i64 (own:Int)):=Za aM 1 _ rfl;have cV:yr aX bL 4 (.slice ah ab ar):=Za aM 4 _ rfl;have aU:bL<aX:=Zb aM;obtain⟨am,bU⟩:=yp ((if i=((own:Nat):Int) % (n:Int) then ab else []));have bQ:=hI bU;go_upto_if 33 with fail
 have:(lebF am.length++am).length<=1000020:=by
  rw [<-bU,qi];split
  .omega
  rw [Zeu yf];simp
 clear bU
 go_cut [] (fun wr=>∃ l c,WrM wr g bL l c (aV++(lebF am.length++am))/\Below bL w wr/\wr.heap[bL]?=some (.cells #[.int .i64 (Z:Int),.int .i64 (own:Int),.slice af R c1,.slice aR aw c2,.slice ah ab ar] 67 (0,0)))
 case first =>
  by_cases aK:i=((own:Nat):Int) % (n:Int)
  .have cO:(i == ((own:Nat):Int) % (n:Int))=true:=(by simp [aK]);have bM:am=ab:=(by rw [<-bQ];simp [aK]);subst bM;clear aK
   go_wp2_with fail
   refine(Zhu (n:=g) (k:=bL) (A:=cK) (m:=cD) (l:=aV) (B:=ah) (i:=ar) (p:=am) (S:=S) (w:=aX) cg ya (qU bk (fun b I=>bu.block b (M b I))) br (fun b I=>yl (M b I)) M cF).mono ?_;rintro H aZ ⟨rfl,be,bb,z,E,F⟩;replace z:=hI z;have ap:=hI (bu.trans E);have b9:=hI (F bL _ _ aM yf yf);clear E F
   go_wp2
   go_meet;exact⟨be,bb,z,ap,b9⟩
  have cO:(i == ((own:Nat):Int) % (n:Int))=false:=(by simp [aK]);have bM:am=[]:=(by rw [<-bQ];simp [aK]);subst bM;clear aK
  go_wp2_with fail
  refine(Zhu (n:=g) (k:=bL) (A:=cK) (m:=cD) (l:=aV) (B:=none) (i:=0) (p:=[]) (S:=fun _=>False) (w:=aX) cg ya BtS.nil_ (fun x an=>by simp at an) (fun b I=>I.elim) (fun b I=>I.elim) yb).mono ?_;rintro H aZ ⟨rfl,be,bb,z,E,F⟩;replace z:=hI z;have ap:=hI (bu.trans E);have b9:=hI (F bL _ _ aM yf yf);clear E F
  go_wp2
  go_meet;exact⟨be,bb,z,ap,b9⟩
 obtain⟨be,bb,z,ap,F⟩:=hcut;obtain⟨aZ,rfl⟩:∃ aZ,aZ=wc:=⟨_,rfl⟩;obtain⟨b7,bF⟩:=yp (aV++(lebF am.length++am));have dc:=hI bF;have:b7.length<=1100001:=(by rw [<-bF,qi];omega);rw [bF] at z;have cu:=hI z;replace ap:=hI ap;clear z F bF cg bu aM cG bJ bG cz co bX bN cE bY
 try clear aa cV aU
 go_wp2_with fail
 refine(Zaa (n:=g) (k:=bL) (A:=be) (m:=bb) (l:=b7) (i:=L) (w:=aZ) cu ya ya).mono ?_;rintro H du ⟨rfl,cT,da,z,E,F⟩;obtain⟨ao,bj⟩:=yp (b7++lebF L);have c8:=hI bj;have:ao.length<=1200000:=(by rw [<-bj,qi];omega);rw [bj] at z;have cn:=hI z;have cx:=hI (ap.trans E);clear z E F bj
 have cZ:=hI (show ZbL ⟨(Z:Int),(own:Int),R,aw,ab⟩ i (n:Int) L=ao++L.flatMap chgB by
  rw [<-c8,<-dc,<-c9,<-cN,<-cP,<-bQ];rfl)
 go_wp2
 go_loopw [46] (fun i wr=>∃ (k:Nat) (l:Option Addr) (c:Nat),k<=L/\i=.int .i64 k/\WrM wr g bL l c (ao++(L.take k).flatMap chgB)/\Below bL w wr) (fun i _=>L.length - (intOf i).toNat)
 case atStart=>exact⟨0,cT,da,qk _,rfl,by simpa using cn.out,cx⟩
 clear cu ap cn cx;obtain⟨k,ch,b2,F,rfl,au,E⟩:=hrel;replace au:=hI au;have aB:=hI E;have c5:bL<=wr:=(ym E.size aE.out);clear E;rcases qv k L.length with aW | dp
 .have:(0:Int)<=(k:Int):=ya;have:(k:Int)<(L:Int):=ya;obtain⟨ds,di,rfl,dt,bO,az,aC,aG,av,bT,cw,aQ,ca,ct,aL⟩:=(show ChgS wr S A L from qU cc (fun b I=>aB.block b (M b I))).at_ aW;have cp:=bB (L.getD k chg0) (by rw [show L.getD k chg0=L[k] by simp [List.getD,aW]];exact qJ aW)
  have aT:=hI (show (L.take (k+1)).flatMap chgB=(L.take k).flatMap chgB++chgB (L.getD k chg0) by
   rw [qj aW,List.flatMap_append,show L.getD k chg0=L[k] by simp [List.getD,aW]]
   try simp)
  have cU:=Zdf (l:=L.take k) (f:=chgB) (n:=2000) (fun x an=>chgB_len (bB x (List.mem_of_mem_take an)));have cQ:(L.take k).length*2000<=4000000:=(by rw [qG];omega);obtain⟨x,an⟩:=yp (L.getD k chg0);rw [an] at bO bT cw aQ ca ct aL cp aT;clear an;obtain⟨dl,K,new⟩:=x;obtain⟨cf,cH,aH,bi,ba,b0⟩:=cp;simp only at bO bT cw aQ ca ct aL cf cH aH bi ba b0;obtain⟨O,rfl⟩:=qn cf;have:O<1000000:=ya;replace aQ:=hI aQ;replace aL:=hI aL;replace aH:=hI aH;replace bi:=hI bi;clear cf cH;obtain⟨bV,bq⟩:=yp (ao++(L.take k).flatMap chgB);have bH:=hI bq;have:bV.length<=6000000:=(by rw [<-bq,qi];omega);rw [bq] at au;clear bq cU cQ;go_upto_region 12 with fail
  obtain⟨N,b8⟩:=yp wr.heap.size;obtain⟨bK,ci,bg,-⟩:=al wr (.cells #[.int .i64 (O:Int),.slice az K aC,.slice aG new av] 148);have bg:=bg.out;have b6:=hI (show bK.heap[N]?=some (.cells #[.int .i64 (O:Int),.slice az K aC,.slice aG new av] 148 (0,0)) by rw [<-ci,<-b8];exact qb wr _);have cv:=hI (au.below bg);have c6:=hI (aB.trans (bg.mono c5));rw [ci,b8];clear ci b8 bg bO bT ca au;have v0:yr bK N 0 (.int .i64 (O:Int)):=Za b6 0 _ rfl
  go_wp2_with fail
  refine(Zaa (n:=g) (k:=bL) (A:=ch) (m:=b2) (l:=bV) (i:=O) (w:=bK) cv ya ya).mono ?_;rintro H aO ⟨rfl,bp,bl,z,E,F⟩;have c3:=Zz (n:=O) ya;obtain⟨ak,bD⟩:=yp (bV++lebF O);have bm:=hI bD;have:ak.length<=6000020:=(by rw [<-bD,qi];omega);rw [bD] at z;have bw:=hI z;have bt:=hI (c6.trans E);have aP:=hI (F N _ _ b6 yf yf);clear z E F v0 bD c3 cv b6;have aa:yr aO N 1 (.slice az K aC):=Za aP 1 _ rfl;have ae:yr aO N 2 (.slice aG new av):=Za aP 2 _ rfl;have:bits .or .i64 0 1=1:=yf;have:bits .or .i64 0 2=2:=yf;have:bits .or .i64 1 2=3:=yf;have:bits .and .i64 1 1=1:=yf;have:bits .and .i64 1 2=0:=yf;have:bits .and .i64 2 1=0:=yf;have:bits .and .i64 2 2=2:=yf;have:bits .and .i64 3 1=1:=yf;have:bits .and .i64 3 2=2:=yf;have:bits .and .i64 0 1=0:=yf;have:bits .and .i64 0 2=0:=yf;rcases qF K.length with ay | ay<;>rcases qF new.length with aJ | aJ
  .have bS:decide (0<K.length)=false:=qe ya;have cm:decide (0<new.length)=false:=qe ya
   have aA:=hI (show chgB ⟨(O:Int),K,new⟩=lebF O++lebF 0 by
    unfold chgB Zet;simp only [qu,qr ay,qr aJ]
    try simp)
   clear ay aJ
   go_wp2_with fail
   refine(Zaa (n:=g) (k:=bL) (A:=bp) (m:=bl) (l:=ak) (i:=0) (w:=aO) bw ya ya).mono ?_;rintro H ac ⟨rfl,aD,ax,z,E,F⟩;obtain⟨W,e⟩:=yp (ak++lebF 0);have aF:=hI e;have cj:W.length<=6000040:=(by rw [<-e,qi];have:=Zz (n:=0) ya;omega);rw [e] at z;replace z:=hI z;have U:=hI (bt.trans E);have ai:=hI (F N _ _ aP yf yf);have aU:N<ac:=Zb ai;clear E F aa ae e
   go_wp2
   go_roundw
   case rel=>exact⟨k+1,aD,ax,ya,by go_num,by rw [aT,aA,<-qB ao,bH];rw [<-aF,<-bm] at z;simpa [qB] using z.out,U⟩
   (simp [intOf];omega)
  .have bS:decide (0<K.length)=false:=qe ya;have cm:decide (0<new.length)=true:=qt ya
   have aA:=hI (show chgB ⟨(O:Int),K,new⟩=lebF O++lebF 2++rowB new by
    unfold chgB Zet;simp only [qu,qr ay,qo (show ¬ new.length=0 by omega)]
    try simp)
   clear ay aJ
   go_wp2_with fail
   refine(Zaa (n:=g) (k:=bL) (A:=bp) (m:=bl) (l:=ak) (i:=2) (w:=aO) bw ya ya).mono ?_;rintro H ac ⟨rfl,aD,ax,z,E,F⟩;obtain⟨W,e⟩:=yp (ak++lebF 2);have aF:=hI e;have cj:W.length<=6000040:=(by rw [<-e,qi];have:=Zz (n:=2) ya;omega);rw [e] at z;have bf:=hI z;have U:=hI (bt.trans E);have ai:=hI (F N _ _ aP yf yf);clear z E F aa ae e;have ae:yr ac N 2 (.slice aG new av):=Za ai 2 _ rfl
   go_wp2_with fail
   refine(Zfg (n:=g) (k:=bL) (A:=aD) (m:=ax) (l:=W) (B:=aG) (i:=av) (r:=new) (S:=S) (w:=ac) bf ya (qU aL (fun b I=>(U.block b (M b I)).trans (aB.block b (M b I)).symm)) (fun b I=>by have:=M b I;have:=U.size;have:=aE.out;omega) bi b0).mono ?_;rintro H cY ⟨rfl,bR,ce,z,E,F⟩;obtain⟨c7,aI⟩:=yp (W++rowB new);have b1:=hI aI;rw [aI] at z;replace z:=hI z;have bZ:=hI (U.trans E);clear E F ae aI
   go_wp2
   go_roundw
   case rel=>exact⟨k+1,bR,ce,ya,by go_num,by rw [aT,aA,<-qB ao,bH];rw [<-b1] at z;rw [<-aF,<-bm] at z;simpa [qB] using z.out,bZ⟩
   (simp [intOf];omega)
  .have bS:decide (0<K.length)=true:=qt ya;have cm:decide (0<new.length)=false:=qe ya
   have aA:=hI (show chgB ⟨(O:Int),K,new⟩=lebF O++lebF 1++rowB K by
    unfold chgB Zet;simp only [qu,qo (show ¬ K.length=0 by omega),qr aJ]
    try simp)
   clear ay aJ
   go_wp2_with fail
   refine(Zaa (n:=g) (k:=bL) (A:=bp) (m:=bl) (l:=ak) (i:=1) (w:=aO) bw ya ya).mono ?_;rintro H ac ⟨rfl,aD,ax,z,E,F⟩;obtain⟨W,e⟩:=yp (ak++lebF 1);have aF:=hI e;have cj:W.length<=6000040:=(by rw [<-e,qi];have:=Zz (n:=1) ya;omega);rw [e] at z;have bf:=hI z;have U:=hI (bt.trans E);have ai:=hI (F N _ _ aP yf yf);clear z E F aa ae e;have aa:yr ac N 1 (.slice az K aC):=Za ai 1 _ rfl
   go_wp2_with fail
   refine(Zfg (n:=g) (k:=bL) (A:=aD) (m:=ax) (l:=W) (B:=az) (i:=aC) (r:=K) (S:=S) (w:=ac) bf ya (qU aQ (fun b I=>(U.block b (M b I)).trans (aB.block b (M b I)).symm)) (fun b I=>by have:=M b I;have:=U.size;have:=aE.out;omega) aH ba).mono ?_;rintro H bz ⟨rfl,b3,bP,z,E,F⟩;obtain⟨bh,aj⟩:=yp (W++rowB K);have b4:=hI aj;have cM:bh.length<=6001100:=(by rw [<-aj,qi];have:=Zfl aH ba;omega);rw [aj] at z;replace z:=hI z;have bc:=hI (U.trans E);have cd:=hI (F N _ _ ai yf yf);have aU:N<bz:=Zb cd;clear E F aa aj
   go_wp2
   go_roundw
   case rel=>exact⟨k+1,b3,bP,ya,by go_num,by rw [aT,aA,<-qB ao,bH];rw [<-b4] at z;rw [<-aF,<-bm] at z;simpa [qB] using z.out,bc⟩
   (simp [intOf];omega)
  have bS:decide (0<K.length)=true:=qt ya;have cm:decide (0<new.length)=true:=qt ya
  have aA:=hI (show chgB ⟨(O:Int),K,new⟩=lebF O++lebF 3++rowB K++rowB new by
   unfold chgB Zet;simp only [qu,qo (show ¬ K.length=0 by omega),qo (show ¬ new.length=0 by omega)]
   try simp)
  clear ay aJ
  go_wp2_with fail
  refine(Zaa (n:=g) (k:=bL) (A:=bp) (m:=bl) (l:=ak) (i:=3) (w:=aO) bw ya ya).mono ?_;rintro H ac ⟨rfl,aD,ax,z,E,F⟩;obtain⟨W,e⟩:=yp (ak++lebF 3);have aF:=hI e;have cj:W.length<=6000040:=(by rw [<-e,qi];have:=Zz (n:=3) ya;omega);rw [e] at z;have bf:=hI z;have U:=hI (bt.trans E);have ai:=hI (F N _ _ aP yf yf);clear z E F aa ae e;have aa:yr ac N 1 (.slice az K aC):=Za ai 1 _ rfl
  go_wp2_with fail
  refine(Zfg (n:=g) (k:=bL) (A:=aD) (m:=ax) (l:=W) (B:=az) (i:=aC) (r:=K) (S:=S) (w:=ac) bf ya (qU aQ (fun b I=>(U.block b (M b I)).trans (aB.block b (M b I)).symm)) (fun b I=>by have:=M b I;have:=U.size;have:=aE.out;omega) aH ba).mono ?_;rintro H bz ⟨rfl,b3,bP,z,E,F⟩;obtain⟨bh,aj⟩:=yp (W++rowB K);have b4:=hI aj;have cM:bh.length<=6001100:=(by rw [<-aj,qi];have:=Zfl aH ba;omega);rw [aj] at z;have db:=hI z;have bc:=hI (U.trans E);have cd:=hI (F N _ _ ai yf yf);clear z E F aa aj;have ae:yr bz N 2 (.slice aG new av):=Za cd 2 _ rfl
  go_wp2_with fail
  refine(Zfg (n:=g) (k:=bL) (A:=b3) (m:=bP) (l:=bh) (B:=aG) (i:=av) (r:=new) (S:=S) (w:=bz) db ya (qU aL (fun b I=>(bc.block b (M b I)).trans (aB.block b (M b I)).symm)) (fun b I=>by have:=M b I;have:=bc.size;have:=aE.out;omega) bi b0).mono ?_;rintro H cY ⟨rfl,bR,ce,z,E,F⟩;obtain⟨c7,aI⟩:=yp (bh++rowB new);have b1:=hI aI;rw [aI] at z;replace z:=hI z;have bZ:=hI (bc.trans E);clear E F ae aI
  go_wp2
  go_roundw
  case rel=>exact⟨k+1,bR,ce,ya,by go_num,by rw [aT,aA,<-qB ao,bH];rw [<-b1] at z;rw [<-b4] at z;rw [<-aF,<-bm] at z;simpa [qB] using z.out,bZ⟩
  (simp [intOf];omega)
 obtain rfl:k=L.length:=ya;have:decide ((L:Int)<(L:Int))=false:=qe ya;have:decide (L.length<L)=false:=yb;rw [qM,<-cZ] at au;have v0:yr wr g 0 (.slice ch (ZbL ⟨(Z:Int),(own:Int),R,aw,ab⟩ i (n:Int) L).length b2):=Za au.blk 0 _ rfl
 go_wp2
 go_ret;exact⟨ch,b2,yb,by rw [<-aE];exact au.own,by rw [<-aE];exact aB⟩
theorem of_row (N:GenS s) (ae:schF pcF s=0) (ai:1<=n) (af:n<=4) (I:k<s.tt) {r:Row} (h:ZB s k r 1=true):ofF s n k (keyF s k r)=(Zcb n k (keyF s k r),0):=by
 have e:ZaV s (n:Int)=0:=(by unfold ZaV;rw [qo ya];exact ae);have aa:hasN s.tt (k:Int)=true:=(by simp [hasN];omega);unfold ofF;rw [e,aa,qo yb,qo yb,qr ?_];have F:=h;unfold ZB at F;simp only [qE,qT,qu] at F;obtain⟨⟨⟨aj,ah⟩,H⟩,W⟩:=F;have O:=Zlr W H;have U:=N.kinds I;rw [keyF_in I];unfold keyKF;rw [U.1,qg,qu];have M:keyN (s.tt.getD k t0).key r=(max 0 (min (s.tt.getD k t0).key ((s.tt.getD k t0).cols.length:Int))).toNat:=(by unfold keyN;rw [H]);rw [M];obtain⟨t,R⟩:=yp ((max 0 (min (s.tt.getD k t0).key ((s.tt.getD k t0).cols.length:Int))).toNat);rw [R];refine⟨by rw [qG,qG,qg,H],fun i ab=>?_⟩;rw [qG] at ab;have:i<r:=ya;have L:i<t:=ya;have K:i<(s.tt.getD k t0).cols.length:=ya;have E:=O i K;have ac:(r.take t).getD i v0=r.getD i v0:=(by simp [List.getD,L])
 have Z:∀ cs:List Col,i<cs->((cs.map (·.kind)).take t).getD i 0=(cs.getD i c0).kind:=fun cs h=>by
  simp only [List.getD];rw [List.getElem?_take_of_lt L,List.getElem?_map,List.getElem?_eq_getElem h];rfl
 rw [ac,Z _ K];unfold Zcd at E;simp only [qE,Bool.or_eq_true,qT] at E;refine⟨E.1,?_⟩;rcases E.2 with (z | z) | z
 .exact z
 .exact absurd rfl z.1.2
 exact absurd z.1.2 yf
def rC:Row:=[⟨4,7,⟨#[]⟩⟩]
def oneS:List Chg:=[⟨0,[],rC⟩]
theorem colS_block (h:w.heap[n]?=some (.cells #[.string tB,.int .i64 4] 98 (0,0))) (E:S n):ColS w S (some ⟨n,0,none⟩) [⟨tB,4⟩]:=by
 have z:=Za h;refine⟨by rw [Ze (n:=24) (fun _=>rfl)];simp,fun _=>⟨n,0,rfl,E,?_⟩⟩;simp only [qL,Qn,Zbh,Dat.Ha,Dat.Held,Dat.size,Dat.sizes,and_true,ZC,ZA];exact⟨⟨z 0 _ rfl,yf⟩,z 1 _ rfl⟩
theorem rowS_block (h:w.heap[n]?=some (.cells #[.int .i64 4,.int .i64 7,.string ⟨#[]⟩] 108 (0,0))) (F:S n):RowS w S (some ⟨n,0,none⟩) rC:=by
 refine⟨by rw [Ze (n:=32) (fun _=>rfl)];simp [rC],fun _=>⟨n,0,rfl,F,Zbf _ n 0 (fun v z=>?_) (fun j u E=>Za h j u E)⟩⟩;simp only [rC,Qs,qX,or_false] at z;subst z;show (⟨#[]⟩:ByteArray).size<=_;decide
theorem chgS_block (h:w.heap[n]?=some (.cells #[.int .i64 0,.slice none 0 0,.slice (some ⟨k,0,none⟩) 1 1] 148 (0,0))) (z:S n) (E:RowS w S (some ⟨k,0,none⟩) rC):ChgS w S (some ⟨n,0,none⟩) oneS :=
 Qb (vs:=[.int .i64 0,.slice none 0 0,.slice (some ⟨k,0,none⟩) 1 1]) (by rw [Ze (n:=56) (fun _=>rfl)];simp [oneS]) (Zw (ZbP (A:=none) (n:=0) (B:=some ⟨k,0,none⟩) (k:=1) ⟨qp _,Qi⟩ ⟨qp _,E⟩)) (fun _=>⟨n,0,rfl,z,Za h⟩)
end Go.Proofs.YtjadnfodboepeaaGreat
