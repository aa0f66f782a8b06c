import Derived.Test.YtjadnfodboepeaaGreatK54
set_option linter.all false
set_option maxRecDepth 100000
set_option maxHeartbeats 8000000
namespace Go.Proofs.YtjadnfodboepeaaGreat
open Tryz
open Go Go.RowKit
variable {n k:Nat} {a:Int} {l:List Int} {s:Sch} {L:List Chg}
theorem infoByS:(prog.info? 22).map (fun i=>(i.zero,i.size,i.bytes))=some (some (.slice none 0 0),1,24):=by kernel_rfl
theorem infoUb:(prog.info? 5).map (fun i=>(i.zero,i.size,i.bytes))=some (some (.int .u8 0),1,1):=by kernel_rfl
def cmtE (z:Hist) (n ow:Nat) (D:List Chg) (PL:List (List Chg)) (E:List Int):Ent:=⟨(z.base:Int)+z.es.length+1,ow,shT n ow PL n,D,E⟩
def cmtR (e:Ent) (n:Nat) (PL:List (List Chg)) (i:Nat):List Int:=ZbL e i n (PL.getD i [])
def cmtH (z:Hist) (n ow:Nat) (D:List Chg) (PL:List (List Chg)) (E:List Int) (F:St):Hist:=⟨z.base,z.first,F,z.es++[cmtE z n ow D PL E],z.nts,Zcj z.recs (cmtR (cmtE z n ow D PL E) n PL) (shT n ow PL n)⟩
theorem commit_ok (h d room n ow:Nat) (s:Sch) (H:Hist) (a:HisA) (V:Nat->Value) (eI:Nat->Int) (bK:List (List Int)) (bI:Option Addr) (cG:Nat) (l:List Chg) (cF:Option Addr) (em:Nat) (M:List Int) (an:St) (D:List Chg) (PL:List (List Chg)) (S:Nat->Prop) (w:World)
 (cA:HdM w h d s n H a room V eI bK) (e8:ChgS w S bI l) (e2:BtS w S cF M) (eL:∀ b,S b->b<w.heap.size) (iC:1<=n) (gi:n<=4) (iQ:ow<=8) (iJ:M.length<=4096) (e5:H.base+H.es.length<1073741824) (fJ:H.es.length<=900) (fy:schF pcF s=0) (el:Zi H.final<=4611686018427387904) (gS:l.length<=1)
 (fL:Zak (schF pcF s) s 1 H.final l=(0,an)) (fp:netF (schF pcF s) s 1 l=(0,D)) (gG:D.length<=1) (gh:Zbm s n D=(0,PL)) (ew:PL.length=n) (fm:schF pcF s=0->(netF 0 s 1 D).1=0->∀ c ∈ (netF 0 s 1 D).2,ChgN s c) (fT:(netF (schF pcF s) s 1 D).2.length<=1)
 (ey:EntB (cmtE H n ow D PL M)) (fb:∀ i,i<n->(PL.getD i []).length<=2000/\∀ c ∈ PL.getD i [],ChgB c) (fk:∀ i,i<n->Zbn (cmtR (cmtE H n ow D PL M) n PL i)/\(cmtR (cmtE H n ow D PL M) n PL i).length<=1000000/\0<(cmtR (cmtE H n ow D PL M) n PL i).length)
 (fN:Zby bK+Zhc (cmtR (cmtE H n ow D PL M) n PL) (shT n ow PL n)<=room) (h7:room<=16777216) (fX:∀ k,k<n->(H.recs k).length<=900) :
 Calls prog 58 #[.pointer (some ⟨h,0,none⟩),.int .i64 (ow:Int),.slice bI l.length cG,.slice cF M.length em] w fun e w'=>e=.returned (.tuple #[.int .i64 ((H.base:Int)+H.es.length+1),.int .i64 0])/\∃ fK da ej,HdM w' h d s n (cmtH H n ow D PL M an) fK room da ej (fsP bK (cmtR (cmtE H n ow D PL M) n PL) (shT n ow PL n))/\Fr (HdX h d a n H.es.length V) w w'/\∀ b,HdB h d fK n (H.es.length+1) da b->HdB h d a n H.es.length V b\/w.heap.size<=b:=by
 obtain⟨gM,gA,gs,ht,hl⟩:=qA ZkL;obtain⟨ba,gW,gR,hv,g2⟩:=qA Zhe;obtain⟨ib,gw,g6,hQ,gu⟩:=qA infoUb;obtain⟨gI,ii,hx,gr,gL⟩:=qA infoByS;have R:=hI cA;have h5:=hI e8;have hs:=hI e2;have cR:=hI eL;have hj:=hI fy;have er:=hI el;have fR:=hI fL;have gO:=hI fp;have gx:=hI gh;have dJ:=hI ew;have hp:=hI fm;have hM:=hI fT;have hA:=hI ey;have en:=hI fb;have hi:=hI fk;have im:=hI fN;have hW:=hI fX;have dY:=cA.his.lt;have bN:=hI cA.his.blk;clear cA e8 e2 eL fy el fL fp gh ew fm fT ey fb fk fN fX;obtain⟨U,cC⟩:=yp H.es.length;have aE:=hI cC;have:H.base+U<1073741824/\U<=900:=(by rw [<-cC];exact⟨e5,fJ⟩);have c1:yr w h 1 (.bool false):=Za bN 1 _ rfl;have fP:yr w h 4 (.int .i64 (H.base:Int)):=Za bN 4 _ rfl;have ff:w.cell? ⟨h,7,none⟩=some (.slice a.AE U a.cE):=(by rw [<-cC];exact Za bN 7 _ rfl);obtain⟨Z,eO⟩:∃ Z:Nat,H.base+U=Z:=⟨_,rfl⟩;have dP:=hI eO;have ez:=hI (show ∀ aA:World,yr aA h 4 (.int .i64 (H.base:Int))->yr aA h 7 (.slice a.AE U a.cE)->Calls prog 18 #[.pointer (some ⟨h,0,none⟩)] aA fun e w'=>e=.returned (.int .i64 (Z:Int))/\∃ k,w'=aA.drewN k from fun aA dc c8=>by have L:=Zcn dc c8 ⟨ya,ya⟩;rwa [show (H.base:Int)+(U:Int)=(Z:Int) by rw [<-dP];exact(Int.natCast_add _ _).symm] at L);have:Z<1073741824:=ya;have hc:decide ((ow:Int)<0)=false:=qe ya;have gJ:decide ((8:Int)<(ow:Int))=false:=qe ya;have g0:decide ((4096:Int)<(M.length:Int))=false:=qe ya;have gQ:decide ((1073741824:Int)<=(Z:Int))=false:=qe ya;clear cC e5 fJ eO;go_enter func58,ntmps58
 go_wp2_with fail
 refine(ez w fP ff).mono ?_;rintro e iN ⟨rfl,fa,rfl⟩;go_upto_region 7 with fail
 clear hc gJ g0 gQ;obtain⟨I,cS⟩:=yp ((w.drewN fa).drew);have bT:=hI (show Below w.heap.size w I by rw [<-cS];exact(below_drewN (qa _ _) fa).drew);have:I.heap.size<=w.heap.size/\w.heap.size<=I.heap.size:=(by rw [<-cS];exact⟨qp _,qp _⟩);have ch:=hI ((bT.block _ dY).trans bN);have ac:=Zb ch;have af:yr I h 2 (.int .i64 s.vv):=Za ch 2 _ rfl;have ai:yr I h 3 (.slice a.As s.tt.length a.cs):=Za ch 3 _ rfl;have ap:yr I h 6 (.slice a.Ag H.final.length a.cg):=Za ch 6 _ rfl;have bH:=hI (show ∀ b,a.D b->b<w.heap.size from fun b z=>(R.his.dx b z).1);have c7:=hI (show TabS I (fun b=>b<I.heap.size) a.As s.tt from qZ (qU R.his.tab (qS bT bH)) (fun b z=>yl (bH b z)));have ga:=hI (show StS I (fun b=>b<I.heap.size) a.Ag H.final from qZ (qU R.his.fin (qS bT bH)) (fun b z=>yl (bH b z)));have dM:=hI (show ChgS I (fun b=>b<I.heap.size) bI l from qZ (qU h5 (qS bT cR)) (fun b z=>yl (cR b z)));clear c1 fP ff;refine uS (fun w'=>w'.cell? ⟨h,2,none⟩=some (.int .i64 s.vv)/\w'.cell? ⟨h,3,none⟩=some (.slice a.As s.tt.length a.cs)/\w'.cell? ⟨h,6,none⟩=some (.slice a.Ag H.final.length a.cg)) 15 16 fun Q' aM aw=>?_
 try rw [cS]
 clear cS;refine uR [0,9] aw ⟨af,ai,ap⟩ ?_;refine Zeh (β:=StN) 2 (bA 16 16383) (fun b ig=>(((((ig.put (some 51) (.tuple #[.agg #[.slice b.A an.length b.c],.int .i64 0])).put (some 41) (.tuple #[.agg #[.slice b.A an.length b.c],.int .i64 0])).put (some 52) (.agg #[.slice b.A an.length b.c])).put (some 53) (.int .i64 0)).put (some 10) (.pointer (some ⟨b.gb,0,none⟩)))) (fun b aL=>StE I aL an b) (fun b aL c6=>?_) (fun dI=>?_)
 .simp only [Act.put,psA,psB,psC];obtain⟨ae,ar,aB⟩:=b;simp only at c6 ⊢;have bp:=hI c6;have eg:=c6.box;simp only at eg;have ea:=hI eg;clear c6 eg;have gz:=bp.lo;simp only at gz;have iv:=bp.bel.size;have g1:yr aL ae 0 (.slice none 0 0):=Za ea 0 _ rfl;have hu:aL.frozen? ⟨ae,0,none⟩=false:=Zd ea;have fc:=c9Q bp.bel (ac) af;have dc:=c9Q bp.bel (ac) ai;have c8:=c9Q bp.bel (ac) ap;refine uQ 14 fun O K=>?_;go_simp;have bM:Fr (fun aP=>aP=ae) aL (aL.setCell ⟨ae,0,none⟩ (.slice ar an.length aB)):=(Qa _ aL).setCell _ (fun _=>rfl);have dL:(aL.setCell ⟨ae,0,none⟩ (.slice ar an.length aB)).heap[ae]?=some (.cells #[.slice ar an.length aB] 28 (0,0)):=Zc (k:=0) ea;obtain⟨bG,e3⟩:=yp (aL.setCell ⟨ae,0,none⟩ (.slice ar an.length aB));rw [e3] at bM dL ⊢;have de:=hI bM;have e4:=hI dL;have eK:=(bM.cell (b:=h) (o:=2) (by have:h<I.heap.size:=ac;omega) (by have:h<I.heap.size:=ac;omega)).trans fc;have fq:=(bM.cell (b:=h) (o:=3) (by have:h<I.heap.size:=ac;omega) (by have:h<I.heap.size:=ac;omega)).trans dc;have e0:=(bM.cell (b:=h) (o:=6) (by have:h<I.heap.size:=ac;omega) (by have:h<I.heap.size:=ac;omega)).trans c8;clear bM dL e3 g1 hu fc dc c8;refine K _ _ (fun _=>⟨eK,fq,e0⟩) ?_;clear K O
  try simp only [Act.put,psA,psB,psC]
  refine uQ 15 fun O K=>?_;go_simp;refine K _ _ nD ?_;clear K O;refine uE aM ?_;clear aM aw Q';have:ae<bG.heap.size:=Zb e4;have bO:=hI (show Below I.heap.size I bG from bp.bel.trans (de.below ya (fun aP ak e=>ya)));have gK:=hI (show StS bG (fun aP=>I.heap.size<=aP/\aP<bG.heap.size/\aP≠ae) ar an from qZ (qU bp.val (fun aP ak=>de.block aP ak.2.1 ak.2.2)) (fun aP ak=>⟨ak.1,ym de.size ak.2.1,ak.2.2⟩));have et:=bp.cap;simp only at et;clear eK fq e0;clear af ai ap;have gn:=hI (bT.trans (bO.mono ya));have cK:=hI ((bO.block _ ac).trans ch);have h6:=Zb cK;have iK:=bO.size;have dj:yr bG h 2 (.int .i64 s.vv):=Za cK 2 _ rfl;have ec:yr bG h 3 (.slice a.As s.tt.length a.cs):=Za cK 3 _ rfl;have d1:=Zhb a.cs 1 cG (qU c7 (qS bO (fun b z=>z))) (qU dM (qS bO (fun b z=>z))) (fun b z=>ya) (ZU) (ZcF hj) gS;rw [gO] at d1;have eB:=hI d1;clear d1
  go_wp2_with fail
  refine eB.mono ?_;rintro e b3 ⟨aD,aF,rfl,fh,dK,b9⟩;dsimp only at fh dK ⊢;have e9:=hI dK;have cp:=hI b9;have iH:=b9.size;clear dK b9 eB dj ec;have ce:=hI ((cp.block _ h6).trans cK);have gC:=Zb ce;have ex:=hI (bO.trans (cp.mono ya));have h4:yr b3 h 0 (.slice (some ⟨a.gJ,a.oJ,none⟩) n a.cJ):=Za ce 0 _ rfl;have dj:yr b3 h 2 (.int .i64 s.vv):=Za ce 2 _ rfl;have ec:yr b3 h 3 (.slice a.As s.tt.length a.cs):=Za ce 3 _ rfl;have ei:=ZhC a.cs s (n:Int) aF (qZ (qU c7 (qS ex (fun b z=>z))) (fun b z=>ya)) (qZ e9 (fun b z=>z.2)) (fun b z=>z) gG hp hM;rw [gx] at ei;have eJ:=hI ei;clear ei
  go_wp2_with fail
  refine eJ.mono ?_;rintro e ao ⟨he,iE,rfl,eV,ek,am⟩;dsimp only at eV ek ⊢;rw [dJ] at eV ⊢;have hk:=hI ek;have bJ:=hI am;have iu:=am.size;clear ek am eJ h4 dj ec;have d5:=hI ((bJ.block _ gC).trans ce);have iM:=Zb d5;have gB:=hI (show Below I.heap.size I ao from ex.trans (bJ.mono ya));have eW:yr ao h 4 (.int .i64 (H.base:Int)):=Za d5 4 _ rfl;have ep:ao.cell? ⟨h,7,none⟩=some (.slice a.AE U a.cE):=(by rw [<-aE];exact Za d5 7 _ rfl);have gq:=hI (ez ao eW ep);clear eW ep;have:IntKind.i64.wrap ((Z:Int)+1)=(Z:Int)+1:=(by rw [IntKind.wrap_i64];omega);have hy:=hI (show BtS ao S cF M from qU hs (fun b z=>(gB.block b (yl (cR b z))).trans (bT.block b (cR b z))));go_upto_region 18 with (first | (refine gq.mono ?_;rintro e ir ⟨rfl,fE,rfl⟩) | (at_builtin;refine ZJ rfl (.const (.slice none 0 0)) (.tmp 93) 22 rfl 1 1 underlying22 gw g6 hQ gu rfl yf rfl M.length em (qU hy (fun _ _=>rfl)) (Zic M) (fun d hd=>by obtain⟨x,_,rfl⟩:=qO.1 hd;exact⟨by simp [encB,bv,Dat.Plain,Value.oneCell'],rfl⟩) (by rw [qg]) rfl ya ya ?_;intro aC aI bg fW f6;have fv:=hI fW;have fH:=hI f6;clear fW f6))
  have h3:=fH.size;have hZ:ao.heap.size<=bg.heap.size:=h3;obtain⟨-,hX,eP⟩:=fv.slice (by rw [Ze (n:=8) (fun _=>rfl)];omega);have fZ:=hI (show BtS bg (fun b=>ao.heap.size<=b/\b<bg.heap.size) aC M from qZ eP (fun b z=>by rcases z with z | z;exact z.elim;exact z));clear eP fv;obtain⟨aS,F,dF,dD,d8,fj⟩:=ag bg (.cells #[.int .i64 ((Z:Int)+1),.int .i64 (ow:Int),.slice none 0 0,.slice aD D.length aF,.slice aC M.length aI] 67);have:bg.heap.size<=F/\F<=bg.heap.size/\aS.heap.size<=F+1/\F+1<=aS.heap.size:=(by refine⟨ya,ya,?_,?_⟩<;>(rw [<-dF,<-dD];simp));rw [dF,dD];clear dF dD;have ck:=hI (show Below ao.heap.size ao aS from (show Below ao.heap.size ao bg from (below_drewN (qa ao.heap.size ao) fE).trans fH).trans (d8.mono hZ));have gd:=hI (show Sl aS (fun b=>b3.heap.size<=b/\b<ao.heap.size) he (PL.map ZW) from qU hk (qS ck (fun b z=>z.2)))
  go_wp2
  go_loopw [98] (fun ba aA=>∃ (i:Nat) (aj:Option Addr) (ah:Nat),i<=n/\ba=.int .i64 (i:Int)/\Fr (fun b=>b=F) aS aA/\aA.heap[F]?=some (.cells #[.int .i64 ((Z:Int)+1),.int .i64 (ow:Int),.slice aj (shT n ow PL i).length ah,.slice aD D.length aF,.slice aC M.length aI] 67 (0,0))/\Mk aA aS.heap.size (fun _=>False) 3 1 (.slice aj (shT n ow PL i).length ah) ((shT n ow PL i).map ZaT)) (fun ba _=>n - (intOf ba).toNat)
  case atStart=>exact⟨0,none,0,qk _,rfl,Qa _ _,fj,Qe (fun b z=>z.elim) nR _ _⟩
  clear fj;obtain⟨w2,rfl⟩:∃ w2:World,w2=wr:=⟨_,rfl⟩;obtain⟨i,aj,ah,iy,rfl,d4,dT,bX⟩:=hrel;have aT:=hI d4;have bn:=hI dT;have cT:=hI bX;have iB:=d4.size;have hR:=Zb dT;clear d4 dT bX;rcases qv i n with hV | iA
  .obtain⟨bj,d9,rfl,dd,dV,c2,cu,dU,cM⟩:=Zjy (qU gd (fun b z=>aT.block b (yl z.2) (yl z.2))) (n:=i) (by rw [dJ];exact hV);obtain⟨d0,du⟩:=yp ((PL.getD i []).length);rw [du] at cu;have dN:=hI (show shB n ow PL i=(decide (0<d0)||decide ((ow:Int) % (n:Int)=(i:Int))) by unfold shB;rw [du]);clear du dU cM;have eM:bj<w2.heap.size:=(yl dd.2);have:(i:Int)<(n:Int):=ya;go_upto_region 22 with fail
   go_cut [112] from 103 to 112 (fun v aL=>v=.bool (shB n ow PL i)/\aL=w2)
   case first =>
    by_cases hn:0<d0
    .go_wp2
     go_meet;exact⟨congrArg Value.bool (by rw [dN];simp [hn]),rfl⟩
    obtain rfl:d0=0:=by omega
    by_cases f9:(ow:Int) % (n:Int)=(i:Int)
    .go_wp2
     go_meet;exact⟨congrArg Value.bool (by rw [dN];simp [f9]),rfl⟩
    have:((i:Int) == (ow:Int) % (n:Int))=false:=by rw [qf];omega
    go_wp2
    go_meet;exact⟨congrArg Value.bool (by rw [dN];simp [f9]),rfl⟩
   obtain⟨rfl,rfl⟩:=hcut;clear cu;have cZ:=hI (shT_next (n:=n) (ow:=ow) (PL:=PL) (k:=i));have ia:=ZjT (n:=n) (ow:=ow) (PL:=PL) (k:=i);have cV:yr wc F 2 (.slice aj (shT n ow PL i).length ah):=Za bn 2 _ rfl;obtain⟨hq,dx⟩:=yp (shB n ow PL i);rw [dx];have cy:=hI dx;clear dx;obtain⟨sl,dG⟩:=yp ((shT n ow PL i).length);have fA:=hI dG;have dq:=cT.out;rw [dG] at cV ia dq;have hL:=hI dq;clear dq dG;cases hq
   .go_wp2
    go_roundw
    case rel=>exact⟨i+1,aj,ah,ya,by go_num,aT,by rw [cZ,cy];simpa using bn.out,by rw [cZ,cy];simpa using cT.out⟩
    simp [intOf];omega
   go_upto_region 24 with (at_builtin;refine Zl rfl (.tmp 114) (.tmp 116) 65 rfl 8 underlying65 gW gR hv g2 rfl yf hL rfl (d:=ZaT (i:Int)) #[.int .i64 (i:Int)] (by unfold ZaT Dat.Vs;exact⟨rfl,trivial⟩) (ZcU _) rfl 1 rfl ya ya ?_;intro cc ca bz cr am hF;have dA:=hI cr;have bE:=hI am;have cX:=hI ((am.block F ya).trans bn);have io:yr bz F 2 (.slice aj (shT n ow PL i).length ah):=Za cX 2 _ rfl;have ip:bz.frozen? ⟨F,2,none⟩=false:=Zd cX;have iI:=Zb cX;clear cr am)
   obtain⟨df,cJ⟩:=yp (bz.setCell ⟨F,2,none⟩ (.slice (some ⟨cc,0,none⟩) (sl+1) ca));have hE:=hI (show df.heap[F]?=some (.cells #[.int .i64 ((Z:Int)+1),.int .i64 (ow:Int),.slice (some ⟨cc,0,none⟩) (sl+1) ca,.slice aD D.length aF,.slice aC M.length aI] 67 (0,0)) by rw [<-cJ];exact Zc (k:=2) cX);have eC:=hI (show Fr (fun b=>b=F) bz df by rw [<-cJ];exact(Qa _ bz).setCell _ (fun _=>rfl));rw [cJ];clear cJ io ip cV;have g5:=hI (dA.keep eC (fun b z=>⟨ya,fun h=>h⟩));have hz:=hI (show Fr (fun b=>b=F) aS df from (aT.trans (Y:=fun b=>aS.heap.size<=b) ⟨bE.os,bE.tape,bE.output,bE.size,fun b z aa=>bE.block b ya⟩ (fun b z L=>absurd z ya)).trans eC (fun _ _ E=>E))
   go_wp2
   go_roundw
   case rel=>exact⟨i+1,some ⟨cc,0,none⟩,ca,ya,by go_num,hz,by rw [cZ,cy];simpa [fA.out] using hE.out,by rw [cZ,cy];simpa [fA.out] using g5.out⟩
   simp [intOf];omega
  obtain rfl:i=n:=ya;obtain⟨N,bb⟩:=yp (shT i ow PL i);have cd:=hI bb;have bX:=cT.out;have dg:=bn.out;rw [bb] at bX dg;have:N.length<=4:=(by rw [<-bb];exact qD ZjT gi);have eo:∀ x ∈ N,0<=x/\x<(i:Int):=(by rw [<-bb];exact shT_rng);have dO:=hI eo;clear bb eo bn cT;have bn:=hI dg;clear dg;obtain⟨-,ik,eX⟩:=bX.slice (by rw [Ze (n:=8) (fun _=>rfl)];omega);have eh:=hI (show IntS w2 (fun b=>aS.heap.size<=b/\b<w2.heap.size) aj N from qZ eX (fun b z=>by rcases z with z | z;exact z.elim;exact z));clear eX bX;obtain⟨b2,bo⟩:=yp (cmtE H i ow D PL M);have cP:=hI (show b2=⟨(Z:Int)+1,(ow:Int),N,D,M⟩ from by rw [<-bo];unfold cmtE;rw [cd,aE,<-dP];push_cast;rfl);have cj:=hI bo;have h8:=hI (show EntB b2 by rw [<-bo];exact hA);clear bo;obtain⟨au,dm⟩:∃ au:Nat->List Int,cmtR b2 i PL=au:=⟨_,rfl⟩;have ic:=hI (show ∀ k,au k=ZbL b2 (k:Int) i (PL.getD k []) from fun k=>by rw [<-dm];rfl);have cO:=hI dm;clear dm;have fV:=hI (show ∀ k,k<i->Zbn (au k)/\(au k).length<=1000000/\0<(au k).length from fun k ab=>by rw [<-cO,<-cj];exact hi k ab);have cV:yr w2 F 2 (.slice aj N.length ah):=Za bn 2 _ rfl
  go_wp2
  go_loopw [16,123] (fun o ba aA=>∃ (q:Nat) (bm:Option Addr) (bP:Nat),q<=N.length/\ba=.int .i64 (q:Int)/\o=.slice bm q bP/\Mk aA w2.heap.size (fun _=>False) 22 1 (.slice bm q bP) ((N.take q).map fun (x:Int)=>ZcV (au x.toNat))/\Below w2.heap.size w2 aA) (fun _ ba _=>N.length - (intOf ba).toNat)
  case atStart=>exact⟨0,none,0,qk _,rfl,rfl,by simpa using Qe (w:=w2) (fun b z=>z.elim) nR _ _,qa _ _⟩
  clear cV;obtain⟨bk,rfl⟩:∃ bk:World,bk=wr:=⟨_,rfl⟩;obtain⟨q,bm,bP,iG,rfl,rfl,eT,dt⟩:=hrel;have cY:=hI eT;have b1:=hI dt;have dH:=dt.size;clear eT dt;have dw:=hI ((b1.block F hR).trans bn);have eQ:=Zb dw;rcases qv q N.length with dE | iL
  .obtain⟨cN,dh,rfl,b9,eY⟩:=(eh.keep (qS b1 (fun b z=>z.2))).at_ dE;have eb:=ZbG (d:=(0:Int)) dE;have fs:=hI (show N.take (q+1)=N.take q++[N.getD q 0] from ZaI dE);have dQ:=dO _ eb;generalize N.getD q 0=x at eY fs eb dQ;obtain⟨k,rfl⟩:=qn dQ.1;clear eb;have cz:k<i:=ya;have:(k:Int)<(i:Int):=ya;clear dQ;obtain⟨bj,d9,rfl,dd,dV,c2,cu,dU,cM⟩:=Zjy (qU gd (fun b z=>(b1.block b (yl z.2)).trans (aT.block b (yl z.2) (yl z.2)))) (n:=k) (by rw [dJ];exact cz);have fM:=hI cM;clear cM dU;obtain⟨dR,d3⟩:=yp (PL.getD k []);rw [d3] at cu fM;have ds:=hI d3;clear d3;have:cN<bk.heap.size:=(yl b9.2);have eM:bj<bk.heap.size:=(yl dd.2);have:(q:Int)<(N.length:Int):=ya;go_upto_region 28 with fail
   clear eY;obtain⟨aZ,fo,aN,-⟩:=dr bk;have hY:=aN.size;have bU:=hI ((aN.block F eQ).trans dw);have ix:=Zb bU;have af:yr aZ F 0 (.int .i64 ((Z:Int)+1)):=Za bU 0 _ rfl;have ai:yr aZ F 1 (.int .i64 (ow:Int)):=Za bU 1 _ rfl;have ap:yr aZ F 2 (.slice (some ⟨cN,dh,none⟩) N.length ah):=Za bU 2 _ rfl;have bB:yr aZ F 3 (.slice aD D.length aF):=Za bU 3 _ rfl;have bD:yr aZ F 4 (.slice aC M.length aI):=Za bU 4 _ rfl;have bu:=c9Q aN eM cu;have dX:=hI (show Below w2.heap.size w2 aZ from b1.trans (aN.mono dH));have f7:∀ b,b<bg.heap.size->aZ.heap[b]?=bg.heap[b]?:=fun b z=>(dX.block b ya).trans ((aT.block b ya ya).trans (d8.block b z));have ho:=hI f7;clear f7;have cE:=partRecord_any (some ⟨cN,dh,none⟩) ah aD aF aC aI (k:Int) i c2 h8 (by rw [cP];exact qZ (qU eh (qS dX (fun b z=>z.2))) (fun b z=>yl z.2)) (by rw [cP];exact qZ (qU fZ (fun b z=>ho b z.2)) (fun b z=>yl z.2)) (qZ (qU fM (qS aN (fun b z=>yl z.2))) (fun b z=>yl z.2)) (fun b z=>z) (by rw [<-ds];exact(en k cz).2) (by rw [<-ds];exact(en k cz).1) ya ya;have bQ:ZbL b2 (k:Int) i dR=au k:=(by rw [ic,ds]);rw [bQ,cP] at cE;dsimp only at cE;have dZ:=hI cE;have ie:=(fV k cz).2.1;clear cE bQ;obtain⟨aG,bQ⟩:=yp (au k);rw [bQ] at dZ ie;have hm:=hI bQ;clear bQ;refine uS (fun w'=>w'.cell? ⟨F,0,none⟩=some (.int .i64 ((Z:Int)+1))/\w'.cell? ⟨F,1,none⟩=some (.int .i64 (ow:Int))/\w'.cell? ⟨F,2,none⟩=some (.slice (some ⟨cN,dh,none⟩) N.length ah)/\w'.cell? ⟨F,3,none⟩=some (.slice aD D.length aF)/\w'.cell? ⟨F,4,none⟩=some (.slice aC M.length aI)/\w'.cell? ⟨bj,d9+k,none⟩=some (.slice dV dR.length c2)) 11 12 fun Q' aM aw=>?_;rw [fo];clear fo;refine uR [0,8] aw ⟨af,ai,ap,bB,bD,bu⟩ ?_;refine uQ 8 fun O K=>?_;go_simp;refine dZ.mono ?_;rintro e W ⟨aW,cB,rfl,dp,bc⟩;have gt:=hI dp;have eD:=hI bc;have gV:=bc.size;have eS:=dp.bts ya;have gT:=hI eS;have p0:=c9J bc af;have bi:=c9J bc ai;have bf:=c9J bc ap;have be:=c9J bc bB;have aV:=c9J bc bD;have aY:=c9J bc bu;clear dp bc eS dZ;refine K _ _ (fun _=>⟨p0,bi,bf,be,aV,aY⟩) ?_;clear K O
   try simp only [Act.put,psA,psB,psC]
   refine uQ 9 fun O K=>?_;go_simp;have ci:F<W.heap.size:=ya;have hg:bj<W.heap.size:=ya;have r0:(W.alloc (.cells #[.slice aW aG.length cB] 22)).cell? ⟨F,0,none⟩=_:=(Zh ci).trans p0;have fQ:(W.alloc (.cells #[.slice aW aG.length cB] 22)).cell? ⟨F,1,none⟩=_:=(Zh ci).trans bi;have fU:(W.alloc (.cells #[.slice aW aG.length cB] 22)).cell? ⟨F,2,none⟩=_:=(Zh ci).trans bf;have fG:(W.alloc (.cells #[.slice aW aG.length cB] 22)).cell? ⟨F,3,none⟩=_:=(Zh ci).trans be;have fd:(W.alloc (.cells #[.slice aW aG.length cB] 22)).cell? ⟨F,4,none⟩=_:=(Zh ci).trans aV;have fS:(W.alloc (.cells #[.slice aW aG.length cB] 22)).cell? ⟨bj,d9+k,none⟩=_:=(Zh hg).trans aY;refine K _ _ (fun _=>⟨r0,fQ,fU,fG,fd,fS⟩) ?_;clear K O
   try simp only [Act.put,psA,psB,psC]
   have hT:=hI (cY.below (aN.trans (eD.mono hY)));have ih:aG.length<=cB:=Zas gt rfl;have hh:=hI (show Dat.Vs W (fun b=>False\/Beh w2.heap.size W (.slice bm q bP) b) (ZcV aG) [.slice aW aG.length cB] from by unfold ZcV Dat.Vs;exact⟨aW,cB,yb,by simpa using ih,qZ gT (fun b z=>.inr ⟨yl z.1,z.2,fun E=>ym ((cY.base_le E.symm).2) z.1⟩)⟩);refine uQ 10 fun O aJ=>?_;refine Zbc yg (.tmp 127) (.tmp 136) 190 yg 24 underlying190 ii hx gr gL rfl yf hT yg #[.slice aW aG.length cB] hh (by simp [ZcV,Dat.Plain]) yg 1 yg ya ya ?_;intro cc ca bz cr am hF;have dA:=hI cr;have bE:=hI am;have t0:=c9J am p0;have gg:=c9J am bi;have gj:=c9J am bf;have eG:=c9J am be;have eA:=c9J am aV;have gp:=c9J am aY;clear cr am;refine aJ _ _ (fun _=>⟨t0,gg,gj,eG,eA,gp⟩) ?_;clear aJ O
   try simp only [Act.put,psA,psB,psC]
   refine uQ 11 fun O K=>?_;go_simp;refine K _ _ nD ?_;clear K O;refine uE aM ?_;clear aM aw Q';have hb:=hI (show Below w2.heap.size w2 bz from (dX.trans (eD.mono ya)).trans bE);clear t0 gg gj eG eA gp p0 bi bf be aV aY af ai ap bB bD bu r0 fQ fU fG fd fS
   go_wp2
   go_roundw
   case rel=>exact⟨q+1,some ⟨cc,0,none⟩,ca,ya,by go_num,rfl,by rw [fs,qm,List.map_singleton,qu,hm];exact dA,hb⟩
   simp [intOf];omega
  obtain rfl:q=N.length:=ya;have dC:=cY.out;rw [qM] at dC;obtain⟨-,iD,eH⟩:=dC.slice (by rw [Ze (n:=24) (fun _=>rfl)];omega);have hU:=hI (show BysS bk (fun b=>w2.heap.size<=b/\b<bk.heap.size) bm (N.map fun (x:Int)=>au x.toNat) from qZ (by rw [List.map_map];exact eH) (fun b z=>by rcases z with z | z;exact z.elim;exact z));clear dC eH cY;go_upto_region 30 with fail
  obtain⟨aq,fD,aN,iw⟩:=dr bk;have hJ:=gn.size;have bF:=hI (show Below w.heap.size w aq from ((((gn.trans (cp.mono hJ)).trans (bJ.mono ya)).trans (ck.mono ya)).trans (aT.below ya (fun b z E=>ya))).trans ((b1.trans (aN.mono dH)).mono ya));have cm:=hI (show ∀ b,b<w2.heap.size->aq.heap[b]?=w2.heap[b]? from fun b z=>(b1.trans (aN.mono dH)).block b z);have dB:=hI ((aN.block F eQ).trans dw);have f0:=Zb dB;have af:yr aq F 2 (.slice aj N.length ah):=Za dB 2 _ rfl;have hB:=hI (R.jd.below bF nR);have co:=hI (show ∀ b,JdX d i a.J a.V1 a.V2 V b->b<w.heap.size from R.jd.xlt);have d6:=hI (show ¬ JdX d i a.J a.V1 a.V2 V h from fun E=>E.elim R.his.hx R.hd);have db:=hI (show ∀ b,a.D b->¬ JdX d i a.J a.V1 a.V2 V b from fun b z E=>E.elim (fun cL=>(R.his.dx b z).2 (.inr (.inr cL))) (R.dd b z));have f2:=hI (show IntS aq (fun b=>w.heap.size<=b/\b<aq.heap.size) aj N from qZ (qU eh (fun b z=>cm b z.2)) (fun b z=>⟨yl z.1,yl z.2⟩));have gX:=hI (show BysS aq (fun b=>w.heap.size<=b/\b<aq.heap.size) bm (N.map fun (x:Int)=>au x.toNat) from qZ (qU hU (qS aN (fun b z=>z.2))) (fun b z=>⟨yl z.1,yl z.2⟩));have ge:=hI (extend_any ah bP au ((bF.cell (p:=⟨h,0,none⟩) dY).trans (Za bN 0 _ rfl)) (fun k ab=>(bF.cell (p:=⟨a.gJ,a.oJ+k,none⟩) (R.his.dx _ R.his.jblk).1).trans (R.his.jptr k ab)) hB f2 gX (fun b z=>⟨z.2,fun E=>ym (co b E) z.1⟩) d6 (db _ R.his.jblk) (by rw [<-cd];exact shT_asc) dO gi (fun x aa=>by have L:=dO x aa;exact fV x.toNat ya) (by have L:=im.out;rw [cj,cO,cd] at L;exact L) h7 hW);refine uS (fun w'=>w'.cell? ⟨F,2,none⟩=some (.slice aj N.length ah)) 7 8 fun Q' aM aw=>?_;rw [fD];clear fD;refine uR [0,6] aw af ?_;refine uQ 6 fun O K=>?_;go_simp;refine ge.mono ?_;rintro e W ⟨rfl,b6,cv,cQ,da,ej,fF,cH,f8,eu,hN⟩;have bq:=hI fF;have cq:=hI cH;have ee:=hI f8;have gc:=hI eu;have gV:=cH.size;have ai:=(cH.cell (b:=F) (o:=2) f0 (fun E=>yl (co F E))).trans af;clear fF cH f8 eu hN ge;refine K _ _ (fun _=>ai) ?_;clear K O
  try simp only [Act.put,psA,psB,psC]
  refine uQ 7 fun O K=>?_;go_simp;refine K _ _ nD ?_;clear K O;refine uE aM ?_;clear aM aw Q';clear af ai;have bL:=hI (show ∀ b,w.heap.size<=b->b<aq.heap.size->W.heap[b]?=aq.heap[b]? from fun b dd hC=>cq.block b hC (fun E=>yl (co b E)));have fe:=hI (show Same a.D w W from fun b z=>(cq.block b (yl (bH b z)) (db b z)).trans (bF.block b (bH b z)));have dl:=hI ((cq.block h ya d6).trans ((bF.block h dY).trans bN));have eN:=hI ((bL F ya f0).trans dB);have ij:=hI (show W.heap[ae]?=some (.cells #[.slice ar an.length aB] 28 (0,0)) from (bL ae ya ya).trans ((cm ae ya).trans ((aT.block ae ya ya).trans ((ck.block ae ya).trans ((bJ.block ae ya).trans ((cp.block ae ya).trans e4))))));obtain⟨aQ,fY⟩:∃ aQ:Nat->Prop,aQ=fun b=>a.D b\/(w.heap.size<=b/\b<aq.heap.size):=⟨_,rfl⟩;have aO:=hI (show ∀ b,aQ b↔(a.D b\/(w.heap.size<=b/\b<aq.heap.size)) from fun b=>by rw [fY]);clear fY
  have gm:∀ g,(Value.slice a.AE U a.cE).ownBlock=some g->g<w.heap.size/\g≠h/\¬ JdX d i a.J a.V1 a.V2 V g:=fun g av=>by
   rw [<-aE] at av;exact⟨(R.his.ent.base_le av).2,(R.his.ex g av).1,fun E=>E.elim (R.his.ex g av).2 (R.ed av)⟩
  have ax:=hI gm;clear gm
  have bw:=hI (show ∀ b,aQ b->b<aq.heap.size/\b≠h/\some b≠(Value.slice a.AE U a.cE).ownBlock from fun b z=>by
   rcases(aO b).1 z with L | L
   .have az:=R.his.dx b L;rw [aE] at az;exact⟨yl az.1,fun E=>az.2 (.inl E),fun E=>az.2 (.inr (.inl E.symm))⟩
   exact⟨L.2,ya,fun E=>yl ((ax b E.symm).1)⟩)
  have bo:=R.his.ent;rw [aE] at bo;have e6:=hI ((bo.keep (w':=W) ya fe (fun g av=>(cq.block g (yl ((ax g av).1)) (ax g av).2.2).trans (bF.block g (ax g av).1))).more (S':=aQ) (fun b z=>(aO b).2 (.inl z)) (fun b z=>⟨yl ((bw b z).1),(bw b z).2.2⟩));clear bo;have g3:=hI (show EntV W aQ ⟨(Z:Int)+1,(ow:Int),N,D,M⟩ aj ah aD aF aC aI from ⟨ik,qZ (qU f2 (fun b z=>bL b z.1 z.2)) (fun b z=>(aO b).2 (.inr z)),fh,qZ (qU e9 (fun b z=>(bL b (yl z.1) (yl z.2)).trans ((cm b (yl z.2)).trans ((aT.block b (yl z.2) (yl z.2)).trans ((ck.block b (yl z.2)).trans (bJ.block b z.2)))))) (fun b z=>(aO b).2 (.inr ⟨yl z.1,yl z.2⟩)),hX,qZ (qU fZ (fun b z=>(bL b (yl z.1) (yl z.2)).trans ((cm b (yl z.2)).trans ((aT.block b (yl z.2) (yl z.2)).trans (d8.block b z.2))))) (fun b z=>(aO b).2 (.inr ⟨yl z.1,yl z.2⟩))⟩);go_upto_region 33 with fail
  obtain⟨bh,f4,c4,-⟩:=dr W;have gH:=c4.size;have dy:=hI ((c4.block h (Zb dl)).trans dl);have bt:=hI ((c4.block F (Zb eN)).trans eN);have hS:=Zb dy;have hD:=Zb bt;have af:bh.cell? ⟨h,7,none⟩=some (.slice a.AE U a.cE):=(by rw [<-aE];exact Za dy 7 _ rfl);have ai:yr bh F 0 (.int .i64 ((Z:Int)+1)):=Za bt 0 _ rfl;have ap:yr bh F 1 (.int .i64 (ow:Int)):=Za bt 1 _ rfl;have bB:yr bh F 2 (.slice aj N.length ah):=Za bt 2 _ rfl;have bD:yr bh F 3 (.slice aD D.length aF):=Za bt 3 _ rfl;have bu:yr bh F 4 (.slice aC M.length aI):=Za bt 4 _ rfl;refine uS (fun w'=>w'.cell? ⟨h,7,none⟩=some (.slice a.AE U a.cE)/\w'.cell? ⟨F,0,none⟩=some (.int .i64 ((Z:Int)+1))/\w'.cell? ⟨F,1,none⟩=some (.int .i64 (ow:Int))/\w'.cell? ⟨F,2,none⟩=some (.slice aj N.length ah)/\w'.cell? ⟨F,3,none⟩=some (.slice aD D.length aF)/\w'.cell? ⟨F,4,none⟩=some (.slice aC M.length aI)) 10 11 fun Q' aM aw=>?_;rw [f4];clear f4;refine uR [0,6] aw ⟨af,ai,ap,bB,bD,bu⟩ ?_;refine uQ 6 fun O K=>?_;go_simp;obtain⟨bW,d2,e1,fI,aR,gy⟩:=ag bh (.cells #[.int .i64 ((Z:Int)+1),.int .i64 (ow:Int),.slice aj N.length ah,.slice aD D.length aF,.slice aC M.length aI] 67);have:bh.heap.size<=d2/\d2<=bh.heap.size:=by omega
  try rw [e1]
  try rw [fI]
  clear e1 fI;have iF:=aR.size;have di:=c9J aR af;have n1:=c9J aR ai;have n2:=c9J aR ap;have dv:=c9J aR bB;have dz:=c9J aR bD;have dk:=c9J aR bu;refine K _ _ (fun _=>⟨di,n1,n2,dv,dz,dk⟩) ?_;clear K O
  try simp only [Act.put,psA,psB,psC]
  have ct:=hI (show Below W.heap.size W bW from c4.trans (aR.mono gH));have h0:=hI (e6.below ct);have g4:=hI (Dat.Vs.keep (fun b z=>ct.block b (yl ((bw b z).1))) _ _ g3.vals);have:h<bW.heap.size:=ya;have:F<bW.heap.size:=ya;refine uQ 7 fun O aJ=>?_;refine Zdn yg (.tmp 153) (.tmp 155) 73 yg 88 underlying73 gA gs ht hl rfl yf h0 (by rw [qg];exact aE.symm) (qk _) yg d2 gy g4 (Zez _) (ZfZ _) 1 yg ya ya ?_;intro bY bR ay eF fi fl;have hr:=hI eF;have gl:=hI fi;have gF:=hI fl;clear eF fi fl;have aK:=hI (show Fr (fun b=>(Value.slice a.AE U a.cE).ownBlock=some b) bW ay from Qc gl (fun b z E=>E.symm));have iz:=gl.size;have gb:¬ (Value.slice a.AE U a.cE).ownBlock=some h:=fun E=>(ax h E).2.1 rfl;have bS:¬ (Value.slice a.AE U a.cE).ownBlock=some F:=(fun E=>yl ((ax F E).1));have p0:=(aK.cell (b:=h) (o:=7) ya gb).trans di;have bi:=(aK.cell (b:=F) (o:=0) ya bS).trans n1;have bf:=(aK.cell (b:=F) (o:=1) ya bS).trans n2;have be:=(aK.cell (b:=F) (o:=2) ya bS).trans dv;have aV:=(aK.cell (b:=F) (o:=3) ya bS).trans dz;have aY:=(aK.cell (b:=F) (o:=4) ya bS).trans dk;refine aJ _ _ (fun _=>⟨p0,bi,bf,be,aV,aY⟩) ?_;clear aJ O
  try simp only [Act.put,psA,psB,psC]
  refine uQ 8 fun O K=>?_;go_simp;refine K _ _ (fun _=>⟨p0,bi,bf,be,aV,aY⟩) ?_;clear K O
  try simp only [Act.put,psA,psB,psC]
  refine uR [9,1] aw ⟨p0,bi,bf,be,aV,aY⟩ ?_;have gk:=hI ((aK.block h ya gb).trans ((aR.block h hS).trans dy));have gP:ay.frozen? ⟨h,7,none⟩=false:=Zd gk;refine uQ 10 fun O K=>?_;go_simp;refine K _ _ nD ?_;clear K O;refine uE aM ?_;clear aM aw Q';clear af ai ap bB bD bu di n1 n2 dv dz dk p0 bi bf be aV aY gP;have h2:=hI ((aK.block F ya bS).trans ((aR.block F hD).trans bt));have ha:=hI ((aK.block ae ya (fun E=>yl ((ax ae E).1))).trans ((ct.block ae ya).trans ij));obtain⟨aU,bV⟩:=yp (ay.setCell ⟨h,7,none⟩ (.slice bY (U+1) bR));have ef:=hI (show aU.heap[h]?=some (.cells (hisL (some ⟨a.gJ,a.oJ,none⟩) i a.cJ s a.As a.cs H.base (.slice a.Af H.first.length a.cf) (.slice a.Ag H.final.length a.cg) (.slice bY (U+1) bR) (.slice a.AN H.nts.length a.cN)).toArray 131 (0,0)) by rw [<-bV];exact Zc (k:=7) gk);have fC:∀ b,b≠h->aU.heap[b]?=ay.heap[b]?:=(fun b z=>by rw [<-bV];exact qc ay ⟨h,7,none⟩ _ b z);have fx:=hI fC;clear fC;have:ay.heap.size<=aU.heap.size/\aU.heap.size<=ay.heap.size:=(by rw [<-bV];simp);have hO:=hI (show Fr (fun b=>b=h) ay aU by rw [<-bV];exact(Qa _ ay).setCell _ (fun _=>rfl));rw [bV];clear bV;have iq:=hI ((fx ae ya).trans ha);have e7:yr aU ae 0 (.slice ar an.length aB):=Za iq 0 _ rfl;have hw:yr aU h 6 (.slice a.Ag H.final.length a.cg):=Za ef 6 _ rfl;have gZ:aU.frozen? ⟨h,6,none⟩=false:=Zd ef;go_upto_region 35 with fail
  obtain⟨aH,b0⟩:=yp (aU.setCell ⟨h,6,none⟩ (.slice ar an.length aB));have gY:=hI (show aH.heap[h]?=some (.cells (hisL (some ⟨a.gJ,a.oJ,none⟩) i a.cJ s a.As a.cs H.base (.slice a.Af H.first.length a.cf) (.slice ar an.length aB) (.slice bY (U+1) bR) (.slice a.AN H.nts.length a.cN)).toArray 131 (0,0)) by rw [<-b0];exact Zc (k:=6) ef);have eE:∀ b,b≠h->aH.heap[b]?=ay.heap[b]?:=(fun b z=>by rw [<-b0];exact(qc aU ⟨h,6,none⟩ _ b z).trans (fx b z));have cU:=hI eE;clear eE;have:ay.heap.size<=aH.heap.size/\aH.heap.size<=ay.heap.size:=(by rw [<-b0];simp;omega);have g9:=hI (show Fr (fun b=>b=h) ay aH by rw [<-b0];exact hO.setCell _ (fun _=>rfl));rw [b0];clear b0 e7 hw gZ;have hP:=hI ((cU F ya).trans h2);have e7:yr aH F 0 (.int .i64 ((Z:Int)+1)):=Za hP 0 _ rfl
  go_wp2_with fail
  have hG:(H.base:Int)+(H.es.length:Int)+1=(Z:Int)+1:=(by rw [aE,<-dP];push_cast;rfl);have b7:(cmtH H i ow D PL M an).es.length=U+1:=(by show (H.es++[_]).length=_;rw [qi,List.length_singleton,aE]);have hH:Zcj H.recs (cmtR (cmtE H i ow D PL M) i PL) (shT i ow PL i)=Zcj H.recs au N:=(by rw [cj,cO,cd]);have h1:fsP bK (cmtR (cmtE H i ow D PL M) i PL) (shT i ow PL i)=fsP bK au N:=(by rw [cj,cO,cd]);have b8:∀ b,b<W.heap.size->b≠h->(Value.slice a.AE U a.cE).ownBlock≠some b->aH.heap[b]?=W.heap[b]?:=fun b bj il gv=>(cU b il).trans ((aK.block b ya gv).trans (ct.block b bj))
  have cW:Same a.D w aH:=fun b z=>by
   have L:=bw b ((aO b).2 (.inl z));exact(b8 b ya L.2.1 (fun E=>L.2.2 E.symm)).trans (fe b z)
  have c5:∀ b,a.D b->aQ b:=fun b z=>(aO b).2 (.inl z);have b5:∀ g,(Value.slice bY (U+1) bR).ownBlock=some g->(Value.slice a.AE U a.cE).ownBlock=some g\/g=bW.heap.size:=gF.out;have dS:∀ b,JrsX i a.J b6 cv b->JdX d i a.J a.V1 a.V2 V b\/aq.heap.size<=b:=fun b z=>ee b (.inl z);have ft:∀ b,JrsX i a.J b6 cv b->b<W.heap.size:=fun b z=>bq.xlt b (.inl z)
  have d7:∀ b,JrsX i a.J b6 cv b->b≠h/\(Value.slice a.AE U a.cE).ownBlock≠some b:=fun b z=>by
   rcases dS b z with L | L
   .exact⟨fun E=>d6 (by rw [<-E];exact L),fun E=>(ax b E).2.2 L⟩
   exact⟨ya,fun E=>yl ((ax b E).1)⟩
  have eZ:∀ k,k<i->∀ b,cQ k b->b<W.heap.size:=fun k ab b z=>((bq.jrs.one k ab).own1.sub b z).1
  have bb:∀ k,k<i->∀ b,cQ k b->b≠h/\(Value.slice a.AE U a.cE).ownBlock≠some b:=fun k ab b z=>by
   rcases gc.out k ab b z with L | L
   .have az:=R.his.sx k ab b L;rw [aE] at az;exact az
   exact⟨ya,fun E=>yl ((ax b E).1)⟩
  refine qw (v:=.tuple #[.int .i64 ((Z:Int)+1),.int .i64 0]) (by simp [results,results58,go_sem]) rfl ⟨by rw [hG],⟨a.gJ,a.oJ,a.cJ,a.As,a.cs,a.Af,a.cf,ar,aB,bY,bR,a.AN,a.cN,a.J,b6,cv,cQ,aQ⟩,da,ej,⟨⟨by rw [b7];exact gY,qZ (qU R.his.tab cW) c5,qZ (qU R.his.fst cW) c5,R.his.fcap,?_,et,?_,qZ (qU R.his.nts cW) c5,R.his.ncap,R.his.nine,fun k ab=>(ql (cW _ R.his.jblk)).trans (R.his.jptr k ab),c5 _ R.his.jblk,?_,fun b z=>?_,fun aa=>(d7 h aa).1 rfl,fun g av=>?_,fun k ab b z=>?_⟩,?_,fun b z aa=>?_,bq.ds⟩,?_,fun b z=>?_⟩
  .exact qZ (qU gK (fun b z=>(b8 b (yl z.2.1) (yl z.1) (fun E=>ym ((ax b E).1) z.1)).trans ((bL b (yl z.1) (yl z.2.1)).trans ((cm b (yl z.2.1)).trans ((aT.block b (yl z.2.1) (yl z.2.1)).trans ((ck.block b (yl z.2.1)).trans ((bJ.block b (yl z.2.1)).trans (cp.block b z.2.1)))))))) (fun b z=>(aO b).2 (.inr ⟨yl z.1,yl z.2.1⟩))
  .rw [b7];have L:=hr.keep (w':=aH) ya (fun b z=>cU b (bw b z).2.1) (fun g av=>cU g (by rcases b5 g av with E | E;exact(ax g E).2.1;omega));show OwnD aH 0 67 5 aQ (.slice bY (U+1) bR) ((H.es++[cmtE H i ow D PL M]).map encE);rw [qm,List.map_singleton,cj,cP];exact L
  .show JrsM aH d i a.J b6 cv cQ (Zcj H.recs (cmtR (cmtE H i ow D PL M) i PL) (shT i ow PL i));rw [hH]
   exact bq.jrs.keep ya (fun k b ab z=>by
    rcases z with z | z
    .have L:=d7 b ⟨k,ab,z⟩;exact b8 b (ft b ⟨k,ab,z⟩) L.1 L.2
    have L:=bb k ab b z;exact b8 b (eZ k ab b z) L.1 L.2)
  .have L:=bw b z;refine⟨ya,fun aa=>?_⟩;rw [b7] at aa;rcases aa with aa | aa | aa
   .exact L.2.1 aa
   .rcases b5 b aa with E | E
    .exact L.2.2 E.symm
    omega
   rcases dS b aa with E | E
   .rcases(aO b).1 z with az | az
    .exact db b az E
    have:=co b E;omega
   omega
  .rw [b7] at av;rcases b5 g av with E | E
   .exact⟨(ax g E).2.1,fun aa=>(d7 g aa).2 E⟩
   exact⟨ya,fun aa=>yl (ft g aa)⟩
  .rw [b7];refine⟨(bb k ab b z).1,fun E=>?_⟩;rcases b5 b E with cL | cL
   .exact(bb k ab b z).2 cL
   have:=eZ k ab b z;omega
  .rw [h1];exact bq.dsk.keep (fun b aa=>b8 b (bq.dsk.xlt b aa) (fun E=>bq.dsk.notX ⟨_,dl⟩ yf yf (by rw [<-E];exact aa)) (fun E=>bq.dsk.notX (e6.typ E) yf yf aa))
  .rcases ee.out b (.inr aa) with E | E
   .rcases(aO b).1 z with az | az
    .exact db b az E
    have:=co b E;omega
   have:=(bw b z).1;omega
  .refine((((qW (X:=HdX h d a i H.es.length V) bF).trans cq (fun b z E=>?_)).trans (qW (X:=fun _=>False) ct) (fun b z E=>E.elim)).trans aK (fun b z E=>?_)).trans g9 (fun b z E=>.inl (.inl E))
   .rcases E with E | E
    .exact .inl (.inr (.inr E))
    exact .inr E
   exact .inl (.inr (.inl (by rw [aE];exact E)))
  rcases z with (z | z | ⟨k,ab,z⟩) | z
  .rcases z with z | z | z
   .exact .inl (.inl (.inl (.inl z)))
   .rw [aE] at z ⊢;rcases b5 b z with E | E
    .exact .inl (.inl (.inl (.inr (.inl E))))
    exact .inr ya
   rcases dS b z with E | E
   .rcases E with E | E
    .exact .inl (.inl (.inl (.inr (.inr E))))
    exact .inl (.inr E)
   exact .inr ya
  .rcases(aO b).1 z with L | L
   .exact .inl (.inl (.inr (.inl L)))
   exact .inr L.1
  .rcases gc.out k ab b z with L | L
   .exact .inl (.inl (.inr (.inr ⟨k,ab,L⟩)))
   exact .inr ya
  rcases ee.out b (.inr z) with E | E
  .rcases E with E | E
   .exact .inl (.inl (.inl (.inr (.inr E))))
   exact .inl (.inr E)
  exact .inr ya
 try simp only [Act.put,psA,psB,psC] at dI
 have bl:=hI (qa I.heap.size I);refine anyL_two (k:=9) (m:=13) (oi:=⟨some 51,_,_,_,_,_⟩) (oj:=⟨some 10,_,_,_,_,_⟩) (Li:=(bA 16 1023)) (Lj:=(bA 16 8703)) rfl rfl ye ye ye (fun O aJ=>?_) (fun O aJ=>?_)
 .have K:=hI aJ;clear aJ;go_simp;refine(Zgj a.cs 1 a.cg (qU c7 (qS bl (fun b z=>z))) (qU ga (qS bl (fun b z=>z))) (qU dM (qS bl (fun b z=>z))) (fun b z=>yl bl.size) (ZU) er).mono ?_;rw [fR];rintro e br ⟨ar,aB,rfl,cf,bC,eU⟩;dsimp only at cf bC ⊢;have cw:=hI bC;clear bC;have cg:=hI (show Below I.heap.size I br from bl.trans (eU.mono bl.size));have fu:=c9Q cg (ac) af;have fO:=c9Q cg (ac) ai;have fw:=c9Q cg (ac) ap;have it:=eU.size;refine K _ _ (fun _=>⟨fu,fO,fw⟩) ?_;clear K O
  try simp only [Act.put,psA,psB,psC]
  refine uR [10,3] aw ⟨fu,fO,fw⟩ ?_;refine uQ 13 fun O K=>?_;go_simp;obtain⟨cn,cD,cI,-⟩:=al br (.cells #[.slice none 0 0] 28);have cI:=cI.out;have bZ:=hI (show cn.heap[br.heap.size]?=some zSt by rw [<-cD];exact qb br _);have g7:cn.heap.size<=br.heap.size+1/\br.heap.size+1<=cn.heap.size:=(by rw [<-cD];simp);rw [cD];clear cD;have c3:=hI (show Below I.heap.size I cn from cg.trans (cI.mono cg.size));have h9:=c9Q c3 (ac) af;have gU:=c9Q c3 (ac) ai;have hf:=c9Q c3 (ac) ap;have cw:=hI (StS.keep cw (qS cI (fun b z=>z.2)));refine K _ _ (fun _=>⟨h9,gU,hf⟩) ?_;clear K O
  try simp only [Act.put,psA,psB,psC]
  exact dI ⟨br.heap.size,ar,aB⟩ cn ⟨c3,bZ,by simp only;omega,cf,cw.more (fun aP ak=>⟨yl ak.1,yl ak.2,by have:=ak.1;have:=ak.2;simp only;omega⟩)⟩
 have K:=hI aJ;clear aJ;go_simp;obtain⟨b4,c9,dW,-⟩:=al I (.cells #[.slice none 0 0] 28);have dW:=dW.out;have bZ:=hI (show b4.heap[I.heap.size]?=some zSt by rw [<-c9];exact qb I _);have g7:b4.heap.size<=I.heap.size+1/\I.heap.size+1<=b4.heap.size:=(by rw [<-c9];simp);rw [c9];clear c9;have aX:=hI (show Below I.heap.size I b4 from bl.trans (dW.mono bl.size));have g8:=c9Q aX (ac) af;have hK:=c9Q aX (ac) ai;have gE:=c9Q aX (ac) ap;refine K _ _ (fun _=>⟨g8,hK,gE⟩) ?_;clear K O
 try simp only [Act.put,psA,psB,psC]
 refine uQ 9 fun O K=>?_;go_simp;refine(Zgj a.cs 1 a.cg (qU c7 (qS aX (fun b z=>z))) (qU ga (qS aX (fun b z=>z))) (qU dM (qS aX (fun b z=>z))) (fun b z=>yl aX.size) (ZU) er).mono ?_;rw [fR];rintro e ev ⟨ar,aB,rfl,cf,bC,eR⟩;dsimp only at cf bC ⊢;have cw:=hI bC;clear bC;have cx:=hI (show Below I.heap.size I ev from aX.trans (eR.mono aX.size));have f5:=c9Q cx (ac) af;have fB:=c9Q cx (ac) ai;have fg:=c9Q cx (ac) ap;have bZ:=hI ((eR.block _ (Zb bZ)).trans bZ);refine K _ _ (fun _=>⟨f5,fB,fg⟩) ?_;clear K O
 try simp only [Act.put,psA,psB,psC]
 refine uR [10,3] aw ⟨f5,fB,fg⟩ ?_;exact dI ⟨I.heap.size,ar,aB⟩ ev ⟨cx,bZ,by simp only;omega,cf,cw.more (fun aP ak=>⟨yl ak.1,yl ak.2,by have:=ak.1;have:=ak.2;simp only;omega⟩)⟩
theorem fol_nil (F:k<=1073741824):FolOk s n k [] :=
 ⟨⟨fun base E=>absurd E (Nat.not_lt_zero _),fun e z=>absurd z qX,fun e z=>absurd z qX,fun e z=>absurd z qX,by simpa using F⟩,fun e z=>absurd z qX,fun e z=>absurd z qX,fun e z=>absurd z qX,fun e z=>absurd z qX,fun e z=>absurd z qX,by simp [ZbH]⟩
theorem fld_nil:FoldOk s n k a [] :=
 ⟨fun b z=>absurd z (Nat.not_lt_zero _),fun b z=>absurd z (Nat.not_lt_zero _),fun b z=>absurd z (Nat.not_lt_zero _),fun b z=>absurd z (Nat.not_lt_zero _),fun b z=>absurd z (Nat.not_lt_zero _),yb⟩
theorem Zke {st:St} (F:schF pcF s=0) (z:Zv (schF pcF s) s 1 st=0):OpnOk s n [] st st :=
 ⟨fol_nil ya,fun i E=>fld_nil,yb,fun i E=>⟨fun r H=>absurd H qX,by simp [Zcu,Zdy,Zr]⟩,[],by
  rw [F];rfl,yb,by
  unfold Zak;rw [qo (by rw [z];simp)];rfl⟩
def sH:Sch:=⟨0,[⟨⟨#[97]⟩,[⟨⟨#[98]⟩,4⟩],1,[],[]⟩]⟩
def rH:Row:=[⟨4,7,⟨#[]⟩⟩]
def oneH:List Chg:=[⟨0,[],rH⟩]
def stH:St:=[[]]
def st1H:St:=[[rH]]
def entH:Ent:=⟨1,1,[0,1],oneH,[120]⟩
theorem ZbE (h:n<128):lebF n=[(n:Int)]:=by rw [lebF,qr h]
theorem Zbe:schF pcF sH=0:=by kernel_rfl
theorem ZfI:netF 0 sH 1 oneH=(0,oneH):=by kernel_rfl
theorem Zlf:Zak 0 sH 1 stH oneH=(0,st1H):=by kernel_rfl
theorem zig7:zigF 7=14:=by kernel_rfl
theorem ZkP:rowB rH=[1,4,14]:=by
 unfold rowB rH;simp only [qK,Qp,List.flatMap_cons,List.flatMap_nil,Qq];rw [ZbE yf];unfold valB;simp only [zig7];rw [ZbE (n:=14) yf];rfl
theorem ZiH:ZaO sH 2 ⟨0,[],rH⟩=0:=by
 have z:ZcM sH ⟨0,[],rH⟩=rH:=ye;have h:Zcb 2 0 rH=0:=(by unfold Zcb;rw [ZkP];kernel_rfl);unfold ZaO;rw [z];show (Zcb 2 0 rH).toNat=0;rw [h];rfl
theorem ZkT:prtC sH 2 0 oneH=oneH:=by
 unfold prtC oneH;simp [ZiH]
theorem ZkS:prtC sH 2 1 oneH=[]:=by
 unfold prtC oneH;simp [ZiH]
theorem ZkO:Zbm sH 2 oneH=(0,[oneH,[]]):=by
 unfold Zbm;have z:ZaV sH 2=0:=(by unfold ZaV;rw [qo ya];exact Zbe);rw [z,qo yb,Zbe,ZfI,qo yb]
 have e:ZT (2:Int).toNat (ZaO sH 2) oneH=[oneH,[]]:=by
  show ZT 2 _ _=_;simp [ZT,List.range_succ,oneH,ZiH]
 rw [e]
theorem Zlh:shT 2 1 [oneH,[]] 2=[0,1]:=by kernel_rfl
theorem chgB_H:chgB ⟨0,[],rH⟩=[0,2,1,4,14]:=by
 unfold chgB;have z:Zet ⟨0,[],rH⟩=2:=ye;simp only [z,ZkP];rw [ZbE yf,ZbE yf];rfl
theorem Zkc:ZbL entH 0 2 oneH=[2,1,1,2,0,1,0,1,0,2,1,4,14]:=by
 unfold ZbL ZkJ Zeq ZgX entH oneH;simp only [qK,Qp,List.flatMap_cons,List.flatMap_nil,Qq,chgB_H];rw [qo yf];simp only [Qp];rw [ZbE yf,ZbE (n:=(0:Int).toNat) yf,ZbE (n:=0+1+1) yf,ZbE (n:=0) yf,ZbE (n:=0+1) yf];rfl
theorem Zkb:ZbL entH 1 2 []=[2,1,1,2,0,1,1,120,0]:=by
 unfold ZbL ZkJ Zeq ZgX entH;simp only [qK,Qp,List.flatMap_cons,List.flatMap_nil,Qq];rw [qr yf];simp only [qK,Qp];rw [ZbE yf,ZbE (n:=(0:Int).toNat) yf,ZbE (n:=0+1+1) yf,ZbE (n:=0) yf,ZbE (n:=0+1) yf];rfl
theorem Zai {α:Type} {p:α->Prop} {a:α} (h:p a):∀ x ∈ [a],p x:=fun x z=>by rw [qy.1 z];exact h
theorem ZkD:ChgN sH ⟨0,[],rH⟩:=⟨⟨0,rfl,yf⟩,.inr yf,⟨yb,yb⟩,⟨Zai ye,yf⟩⟩
theorem ZjY:Zdy sH 2 [entH] 0=[(entH,oneH)]:=by
 unfold Zdy prtI;have e:[entH].filter (inSh 0)=[entH]:=ye;rw [e];simp only [qL,Qn];rw [show entH.cx=oneH from rfl,ZkT]
theorem ZjX:Zdy sH 2 [entH] 1=[(entH,[])]:=by
 unfold Zdy prtI;have e:[entH].filter (inSh 1)=[entH]:=ye;rw [e];simp only [qL,Qn];rw [show entH.cx=oneH from rfl,ZkS]
theorem Zgg (h:l.all (fun x=>decide (0<=x)&&decide (x<256))=true):Zbn l:=fun x z=>by
 have:=List.all_eq_true.1 h x z;simpa using this
theorem fol_H:FolOk sH 2 0 [entH]:=by
 refine⟨⟨fun k E=>?_,Zai (by simp [entH]),Zai (by simp [entH]),Zai (by simp [entH]),yb⟩,Zai (fun i z=>?_),Zai (by simp [entH,oneH]),Zai (Zai ⟨ZkD,ye⟩),Zai (by simp [entH,oneH]),Zai (fun i z h=>?_),by simp [ZbH,entH,oneH]⟩
 .obtain rfl:k=0:=(by simp at E;omega);rfl
 .rw [show entH.cx=oneH from rfl];obtain rfl | rfl:i=0\/i=1:=by omega
  .rw [ZkT];exact ZfI
  rw [ZkS];kernel_rfl
 obtain rfl | rfl:i=0\/i=1:=by omega
 .exact absurd h yf
 exact absurd h yf
theorem spl_nil:Zbm sH 2 []=(0,[[],[]]):=by
 unfold Zbm;have z:ZaV sH 2=0:=(by unfold ZaV;rw [qo ya];exact Zbe);have E:netF 0 sH 1 []=(0,[]):=ye;rw [z,qo yb,Zbe,E,qo yb];rfl
theorem partOk_H (H:n<2) (z:L=[]\/L=oneH) (E:n=0->L=oneH):PartOk entH n 2 L:=by
 refine⟨by simp [entH],by simp [entH],by simp [entH],by simp [entH],by simp [entH],?_,by simp [entH],Zgg ye,by simp [entH],?_,?_,?_⟩
 .obtain rfl | rfl:n=0\/n=1:=by omega
  .simp [entH]
  simp [entH]
 .rcases z with rfl | rfl<;>simp [oneH]
 .intro h;obtain rfl | rfl:n=0\/n=1:=by omega
  .rw [E rfl];simp [oneH]
  exact absurd rfl h
 rcases z with rfl | rfl
 .exact fun c F=>absurd F qX
 exact Zai ⟨yf,yf,yb,Zai ⟨ye,yf,yf⟩,yb,yf,⟨yb,yb⟩,⟨by simp [rH],Zai yf⟩⟩
theorem Zlb (l:n<2) (E:L=[]\/L=oneH) (F:n=0->L=oneH) (I:n=1->L=[]):FoldOk sH n 2 0 [(entH,L)]:=by
 have H:netF 0 sH 1 L=(0,L):=(by rcases E with rfl | rfl;kernel_rfl;exact ZfI);have one:∀ k,k<[(entH,L)].length->k=0:=(fun k z=>by simp at z;omega);refine⟨fun k z=>?_,fun k z=>?_,fun k z=>?_,fun k z=>?_,fun k z=>?_,yb⟩
 .obtain rfl:=one k z;exact partOk_H l E F
 .obtain rfl:=one k z;show Zgp 0 []<1
  decide
 .obtain rfl:=one k z;obtain rfl | rfl:n=0\/n=1:=by omega
  .rw [F rfl];exact⟨_,ZkO,yb,yb,rfl⟩
  rw [I rfl];exact⟨_,spl_nil,yb,yb,rfl⟩
 .obtain rfl:=one k z;intro _ _;show ∀ c ∈ (netF 0 sH 1 L).2,ChgN sH c;rw [H];rcases E with rfl | rfl
  .exact fun c K=>absurd K qX
  exact Zai ZkD
 obtain rfl:=one k z;show (netF (schF pcF sH) sH 1 L).2.length<=_;rw [Zbe,H];rcases E with rfl | rfl<;>simp [oneH]
theorem ZkR:Zcu sH 2 [entH] 0=[[2,1,1,2,0,1,0,1,0,2,1,4,14]]:=by
 unfold Zcu;rw [ZjY];show [ZbL entH 0 2 oneH]=_;rw [Zkc]
theorem ZkQ:Zcu sH 2 [entH] 1=[[2,1,1,2,0,1,1,120,0]]:=by
 unfold Zcu;rw [ZjX];show [ZbL entH 1 2 []]=_;rw [Zkb]
theorem frm_s (h:l.length<128):Zr [l]=(l:Int) :: l:=by
 unfold Zr ZbT;rw [List.flatMap_cons,List.flatMap_nil,Qq,ZbE h];rfl
theorem opn_H:OpnOk sH 2 [entH] stH st1H:=by
 refine⟨fol_H,fun i z=>?_,yb,fun i z=>?_,oneH,?_,by simp [oneH],?_⟩
 .obtain rfl | rfl:i=0\/i=1:=by omega
  .rw [ZjY];exact Zlb ya (.inr rfl) (fun _=>rfl) (fun h=>ya)
  rw [ZjX];exact Zlb ya (.inl rfl) (fun h=>ya) (fun _=>rfl)
 .obtain rfl | rfl:i=0\/i=1:=by omega
  .rw [ZkR,frm_s yf];exact⟨Zai ⟨yf,Zgg ye⟩,yb⟩
  rw [ZkQ,frm_s yf];exact⟨Zai ⟨yf,Zgg ye⟩,yb⟩
 .rw [Zbe];exact ZfI
 rw [Zbe];exact Zlf
end Go.Proofs.YtjadnfodboepeaaGreat
