import Derived.Test.YtjadnfodboepeaaGreatKat
set_option linter.all false
set_option maxRecDepth 100000
set_option maxHeartbeats 8000000
namespace Go.Proofs.YtjadnfodboepeaaGreat
open Tryz
open Go.RowKit
variable {w:World} {n k m:Nat} {A B:Option Addr} {S S':Nat->Prop} {s:Sch} {L:List Chg}
theorem infoLC:(prog.info? 56).map (fun i=>(i.zero,i.size,i.bytes))=some (some (.slice none 0 0),1,24):=by kernel_rfl
theorem Zcs (n:Nat) (N:n<=1000) (w:World) :
 (Instr.makeSlice 180 (.int .i64 (n:Int)) (.int .i64 (n:Int))).run prog w=.ok (.slice (some ⟨w,0,none⟩) n n) (w.alloc (.cells (Zk n).toArray 56)):=by
 obtain⟨z,K,H,I,E⟩:=qA infoLC;have F:=run_make (P:=prog) w 180 56 z _ underlying180 K H .i64 .i64 n n ya ya (by rw [E];omega) ya;rw [F,I];simp only [qu]
 congr 3
 apply Array.ext
 .simp [size_madeCells,Zk]
 intro i M L;simp [madeCells,Zk,Value.cells,Nat.mod_one]
theorem ZhC (aj:Nat) (s:Sch) (n:Int) (b7:Nat) (ax:TabS w S A s.tt) (bJ:ChgS w S B L) (aq:∀ b,S b->b<w) (c7:L.length<=1)
 (bS:schF pcF s=0->(netF 0 s 1 L).1=0->∀ c ∈ (netF 0 s 1 L).2,ChgN s c) (cE:(netF (schF pcF s) s 1 L).2.length<=1) :
 Calls prog 93 #[sAgg s.vv A s.tt aj,.int .i64 n,.slice B L b7] w (SplP (Zbm s n L) w):=by
 have dk:=ax.len;replace ax:=hI ax;replace bJ:=hI bJ;obtain⟨cO,cY,cT,cZ,db⟩:=qA ZhY;obtain⟨au,bC⟩:=yp (ZaV s n);have ch:=hI bC;have bo:=hI (show Zbm s n L=if au≠0 then (au,[]) else if (netF (schF pcF s) s 1 L).1≠0 then ((netF (schF pcF s) s 1 L).1,[]) else (0,ZT n.toNat (ZaO s n) (netF (schF pcF s) s 1 L).2) by unfold Zbm;rw [bC]);clear bC;obtain⟨am,aO⟩:=yp (w.alloc (.cells #[.int .i64 s.vv,.slice A s.tt aj] 25));have bw:=hI (show Below w w am by rw [<-aO];exact(qa w w).alloc nR _);have:am.heap.size<=w+1/\w.heap.size+1<=am:=(by rw [<-aO];simp);have br:=hI (show am.heap[w.heap.size]?=some (.cells #[.int .i64 s.vv,.slice A s.tt aj] 25 (0,0)) by rw [<-aO];exact qb w _);have aW:yr am w 0 (.int .i64 s.vv):=Za br 0 _ rfl;have bf:yr am w 1 (.slice A s.tt aj):=Za br 1 _ rfl;have ci:w.heap.size<am:=ya;go_enter func93,ntmps93
 go_wp2_with fail
 try rw [aO]
 clear aO;refine(Zbd aj s (ax.keep (qS bw aq)) (fun b z=>yl (aq b z))).mono ?_;rintro e an ⟨rfl,aB⟩;rw [ch];have cp:=c9Q aB ci aW;have b8:=c9Q aB ci bf;have be:=hI (bw.trans (aB.mono ya));have b2:w.heap.size<an:=(yl aB.size);clear aB aW bf bw br
 by_cases bG:au=0
 .subst bG;obtain⟨bV,c6,aF⟩:=shard_ok ch;have bP:=hI aF;rw [aF] at cE;have cG:=hI (bS aF);have aS:=hI (show Zbm s n L=if (netF 0 s 1 L).1≠0 then ((netF 0 s 1 L).1,[]) else (0,ZT n.toNat (ZaO s n) (netF 0 s 1 L).2) by rw [bo,qo yb,aF]);clear bo aF bS
  go_wp2_with fail
  refine(Zhb aj 1 b7 (ax.keep (qS be aq)) (bJ.keep (qS be aq)) (fun b z=>yl (aq b z)) (ZU) (yl (ZcG bP)) c7).mono ?_;rw [bP];generalize netF 0 s 1 L=r at *;obtain⟨aT,E⟩:=r;simp only at cE aS cG;rintro e w2 ⟨dt,dg,rfl,bE,aP,aK⟩;simp only at bE aP;replace aP:=hI aP;replace bE:=hI bE;have b3:=c9Q aK b2 cp;have co:=c9Q aK b2 b8;have cg:=hI (be.trans (aK.mono ya));have:an.heap.size<=w2:=aK.size;clear aK cp b8
  by_cases bQ:aT=0
  .subst bQ;have cR:=hI (show ∀ c ∈ E,ChgN s c from fun c b5=>cG yb c b5);obtain⟨q,rfl⟩:=qn (show 0<=n by omega);have df:=hI (show Zbm s q L=(0,ZT q (ZaO s q) E) by rw [aS,qo yb,qu]);have cS:=Zcs q ya;clear aS;go_upto_region 8 with fail
   clear cS;obtain⟨ab,F,bH,bR,ao,cf⟩:=ag w2 (.cells (Zk q).toArray 56);have ao:=ao.out;have:F+1<=ab/\ab<=F+1:=(by rw [<-bH,<-bR];simp);rw [bH]
   try rw [bR]
   have aW:=c9J ao b3;have bf:=c9J ao co;have ck:=hI (cg.trans (ao.mono ya));have cP:=hI (aP.keep (qS ao (fun b z=>z.2)));have cq:=hI (Grid.start (w:=ab) (B0:=ab) (n:=1) (T:=q) (G:=fun _=>F) (TT:=56) (e:=148) (size:=3) (S0:=New an w2) (fun i _=>cf) (fun i dw cy ds _=>ya) (fun i _=>ya) (fun b z=>⟨yl z.2,fun i _=>yl z.2⟩) nR);have W:=hI (show ∀ b,New an w2 b->b<F/\w.heap.size<b from fun b z=>⟨yl z.2,yl z.1⟩);have:w<F:=ya;clear bH ao b3 co aP cf bR
   go_wp2
   go_loopw [34] (fun i wr=>∃ (k:Nat) (V:Nat->Nat->Value),k<=E/\i=.int .i64 k/\Fr (fun b=>b=F) ab wr/\Grid wr ab 148 56 3 (New an w2) 1 q (fun _=>F) V V (fun _ j=>((E.take k).filter fun c=>ZaO s q c == j).map ZF)) (fun i _=>E.length - (intOf i).toNat)
   case atStart=>exact⟨0,_,qk _,rfl,Qa _ _,cq.congr (fun i j _ _=>yb)⟩
   clear cq;obtain⟨k,V,dh,rfl,bK,aA⟩:=hrel;have av:=hI bK;replace aA:=hI aA;have di:=bK.size;clear bK
   by_cases aI:k<E
   .have:(0:Int)<=(k:Int):=ya;have:(k:Int)<E:=ya;obtain⟨dj,dl,rfl,aB,bL,O,c1,R,c2,f1,aJ,bD,bp,aL,bB⟩:=(cP.keep (av.same (fun b z=>⟨yl (W b z),yl (W b z)⟩))).at_ aI;have bc:=hI (cR (E.getD k chg0) (by rw [show E.getD k chg0=E[k] by simp [List.getD,aI]];exact qJ aI));have aE:=hI (show E.take (k+1)=E.take k++[E.getD k chg0] by rw [qj aI];simp [List.getD,aI]);have c5:=hI (show ∀ j,((E.take k).filter fun c=>ZaO s q c == j).length<=1 from fun j=>by have cy:=qI (fun c=>ZaO s q c == j) (E.take k);rw [qG] at cy;omega);have aV:=hI bD;have bi:=hI bB;have b4:=bD.len;have cm:=bB.len;generalize E.getD k chg0=x at bL f1 aJ bp aL aV bi bc aE b4 cm;obtain⟨dp,I,H⟩:=x;obtain⟨K,cH,cu⟩:=bc.tab;simp only at bL f1 aJ bp aL aV bi b4 cm cH;subst cH;have da:=Zdw bP cu;have cL:0<I.length\/0<H.length:=bc.some_;have aY:=hI bc.key;have cV:=hI (Zhf (s:=s) (a:=(q:Int)) (C:=⟨K,I,H⟩) bV);replace aJ:=hI aJ;replace aL:=hI aL;clear bD bB;go_upto_region 11 with fail
    obtain⟨bk,bz,ai,bb⟩:=al wr (.cells #[.int .i64 K,.slice O I c1,.slice R H c2] 148);have ai:=ai.out;have:bk.heap.size<=wr+1/\wr.heap.size+1<=bk:=(by rw [<-bz];simp);have bI:=hI ai;have bX:=hI (show Below w w bk from ck.trans ((av.below (n:=w) ya (fun b z=>ya)).trans (ai.mono ya)));have aX:=(ai.cell (p:=⟨w,0,none⟩) (by show w.heap.size<wr;omega)).trans ((av.cell (b:=w) (o:=0) ya ya).trans aW);have ba:=(ai.cell (p:=⟨w,1,none⟩) (by show w.heap.size<wr;omega)).trans ((av.cell (b:=w) (o:=1) ya ya).trans bf);have a0:yr bk wr 0 (.int .i64 K):=Za bb 0 _ rfl;have a1:yr bk wr 1 (.slice O I c1):=Za bb 1 _ rfl;have a2:yr bk wr 2 (.slice R H c2):=Za bb 2 _ rfl;have cd:=hI (aV.keep (qS ai (fun b z=>yl (W b z))));have b9:=hI (bi.keep (qS ai (fun b z=>yl (W b z))));have aw:wr.heap.size<bk:=ya;have aU:w.heap.size<bk:=ya;rw [bz];clear bz ai bL f1 bp aV bi bb;have bZ:I.length<=c1:=aJ.out;have bU:H.length<=c2:=aL.out;refine uS (fun w'=>w'.cell? ⟨wr,0,none⟩=some (.int .i64 K)/\w'.cell? ⟨wr,1,none⟩=some (.slice O I c1)/\w'.cell? ⟨wr,2,none⟩=some (.slice R H c2)/\w'.cell? ⟨w,0,none⟩=some (.int .i64 s.vv)/\w'.cell? ⟨w,1,none⟩=some (.slice A s.tt aj)) 8 8 fun Q' aD ar=>?_;refine uR [0,5] ar ⟨a0,a1,a2,aX,ba⟩ ?_;refine uQ 5 fun ah U=>?_;go_simp;refine(ZhU aj s c1 c2 (((ax.keep (qS bX aq)).keep (w':=bk.drew) (fun _ _=>rfl)).more (fun b z=>Or.inl z)) (((cd).keep (w':=bk.drew) (fun _ _=>rfl)).more (fun b z=>Or.inr z)) bZ (((b9).keep (w':=bk.drew) (fun _ _=>rfl)).more (fun b z=>Or.inr z)) bU (fun b z=>by show b<bk;rcases z with z | z;{ have:=aq b z;omega };have:=W b z;omega) cu da.2.1 cL).mono ?_;rintro e aN ⟨cA,c4,rfl,cn,cF⟩;have ac:Below bk bk aN:=(qa _ bk).drew.trans cF;have cv:=hI (show RowS aN (fun b=>b<aN) cA (ZcM s ⟨K,I,H⟩) from (Zag (Zct aY.1 aY.2) cn).more (fun b z=>z.2));have cD:=ac.size;have ct:=c9Q ac aw a0;have cw:=c9Q ac aw a1;have cr:=c9Q ac aw a2;have b1:=c9Q ac aU aX;have cC:=c9Q ac aU ba;clear cF cn;refine U _ _ (fun _=>⟨ct,cw,cr,b1,cC⟩) ?_;clear U ah
    try simp only [Act.put,psA,psB,psC]
    refine uQ 6 fun ah U=>?_;go_simp;refine(ZdT bV c6 cv (fun b z=>z) aY.1 aY.2).mono ?_;rintro e aC ⟨rfl,cz⟩;have N:Below bk bk aC:=ac.trans (cz.mono cD);have b0:=hI N;have p0:=c9Q N aw a0;have bh:=c9Q N aw a1;have aR:=c9Q N aw a2;have bj:=c9Q N aU aX;have bt:=c9Q N aU ba;clear cz cv ct cw cr b1 cC cD;refine U _ _ (fun _=>⟨p0,bh,aR,bj,bt⟩) ?_;clear U ah
    try simp only [Act.put,psA,psB,psC]
    refine uR [7,1] ar ⟨p0,bh,aR,bj,bt⟩ ?_;refine uE aD ?_;clear aD ar Q';have ay:=hI (aA.below (bI.trans (N.mono ya)));have bg:=hI (av.trans (qW (bI.trans (N.mono ya))) (X:=fun b=>b=F) (Y:=fun _=>False) (fun b z h=>h.elim));have dq:=N.size;clear ac N bj bt bI bX aX ba a0 a1 a2
    go_wp2_with fail
    obtain⟨aa,bT⟩:=cV.out;rw [bT];rw [qu] at aa;obtain⟨j,bq⟩:=yp (ZaO s q ⟨K,I,H⟩);have c9:=hI bq;rw [bq] at aa ⊢;have:(j:Int)<(q:Int):=ya;have:(0:Int)<=(j:Int):=ya;clear bq bT;obtain⟨cI,cN,az⟩:=ay.form (i:=0) (j:=j) ya aa;obtain⟨ap,aQ⟩:=ay.cell (i:=0) (j:=j) ya aa;rw [az] at ap;have bF:=hI (show (V 0 j).ownBlock≠some wr.heap.size from fun e=>yl (((aA.own 0 j ya aa).lt e).2));replace az:=hI az;obtain⟨m,af⟩:=yp ((((E.take k).filter fun c=>ZaO s q c == j).map ZF).length);have:m<=1:=(by rw [<-af,qg];exact c5 j);rw [af] at ap;replace af:=hI af;have aG:F<aC:=ya;have Z:wr.heap.size<aC:=ya;have cM:=hI (show ∀ b,(V 0 j).ownBlock=some b->ab.heap.size<=b from fun b e=>((aA.own 0 j ya aa).lt e).1);have bl:=hI (show ∀ M,Below aC aC M->Dat.Vs M (Oth (New an w2) M ab 1 q V) (ZF ⟨K,I,H⟩) [.int .i64 K,.slice O I c1,.slice R H c2] from fun M aM=>ZbP ⟨bZ,(((cd.keep (qS b0 (fun b z=>yl (W b z)))).keep (qS aM (fun b z=>yl (W b z)))).more (fun b z=>.inl z))⟩ ⟨bU,(((b9.keep (qS b0 (fun b z=>yl (W b z)))).keep (qS aM (fun b z=>yl (W b z)))).more (fun b z=>.inl z))⟩);refine uS (fun w'=>w'.frozen? ⟨F,j,none⟩=false/\w'.cell? ⟨F,j,none⟩=some (.slice cI m cN)/\w'.cell? ⟨wr,0,none⟩=some (.int .i64 K)/\w'.cell? ⟨wr,1,none⟩=some (.slice O I c1)/\w'.cell? ⟨wr,2,none⟩=some (.slice R H c2)) 10 11 fun Q' aD ar=>?_;obtain⟨M,aM,ak,dm⟩:=dr aC;have ay:=hI (ay.below ak);have bg:=hI (bg.trans (qW ak) (Y:=fun _=>False) (fun b z h=>h.elim));have bl:=hI (bl M ak);have ap:=c9Q ak aG ap;have aQ:=(ak.frozen (p:=⟨F,j,none⟩) aG).trans aQ;have bN:=c9Q ak Z p0;have bn:=c9Q ak Z bh;have bM:=c9Q ak Z aR;have aG:F<M:=ya;have Z:wr.heap.size<M:=ya;rw [aM];clear aM p0 bh aR;refine uR [0,7] ar ⟨aQ,ap,bN,bn,bM⟩ ?_;refine uQ 7 fun ah U=>?_;go_simp;have cK:(M.alloc (.cells #[.int .i64 K,.slice O I c1,.slice R H c2] 148)).frozen? ⟨F,j,none⟩=_:=(ZK aG).trans aQ;have l2:(M.alloc (.cells #[.int .i64 K,.slice O I c1,.slice R H c2] 148)).cell? ⟨F,j,none⟩=_:=(Zh aG).trans ap;have cQ:(M.alloc (.cells #[.int .i64 K,.slice O I c1,.slice R H c2] 148)).cell? ⟨wr,0,none⟩=_:=(Zh Z).trans bN;have cX:(M.alloc (.cells #[.int .i64 K,.slice O I c1,.slice R H c2] 148)).cell? ⟨wr,1,none⟩=_:=(Zh Z).trans bn;have c8:(M.alloc (.cells #[.int .i64 K,.slice O I c1,.slice R H c2] 148)).cell? ⟨wr,2,none⟩=_:=(Zh Z).trans bM;refine U _ _ (fun _=>⟨cK,l2,cQ,cX,c8⟩) ?_;clear U ah
    try simp only [Act.put,psA,psB,psC]
    refine uQ 8 fun ah cx=>?_;refine ZaG yg (.tmp 50) (.tmp 52) 56 yg 56 underlying56 cY cT cZ db rfl yf ay (i:=0) (j:=j) ya aa (by rw [az,af];rfl) #[.int .i64 K,.slice O I c1,.slice R H c2] bl (Zaw _) (Zab _) 1 yg (by rw [af];omega) (by rw [af];omega) ?_;rw [af];intro bm bO cJ aZ aH;have bW:=hI aZ;have cc:=hI aH;have n2:=(aZ.cell (i:=0) (j:=j) ya aa).1;rw [az,af] at n2;have cj:=(aZ.cell (i:=0) (j:=j) ya aa).2;have ca:=(aH.cell_far ⟨wr,0,none⟩ Z (fun e=>bF e.symm)).trans bN;have b6:=(aH.cell_far ⟨wr,1,none⟩ Z (fun e=>bF e.symm)).trans bn;have ce:=(aH.cell_far ⟨wr,2,none⟩ Z (fun e=>bF e.symm)).trans bM;clear aZ aH;refine cx _ _ (fun _=>⟨cj,n2,ca,b6,ce⟩) ?_;clear cx ah
    try simp only [Act.put,psA,psB,psC]
    refine uR [9,1] ar ⟨cj,n2,ca,b6,ce⟩ ?_;refine uQ 10 fun ah U=>?_;go_simp;refine U _ _ nD ?_;clear U ah;refine uE aD ?_;clear aD ar Q';have dc:=hI (bW.store (i:=0) (j:=j) ya aa (.slice (some ⟨bm,0,none⟩) (m+1) bO));have de:=hI (show Fr (fun b=>b=F) ab (cJ.setCell ⟨F,j,none⟩ (.slice (some ⟨bm,0,none⟩) (m+1) bO)) from (bg.trans (Y:=fun b=>ab<=b) (Qc cc (fun b z e=>cM b e.symm)) (fun b z h=>absurd z ya)).setCell _ (fun _=>rfl));clear ay bg bW cc az ap aQ
    go_wp2
    go_roundw
    case rel =>
     refine⟨k+1,upd V 0 j (.slice (some ⟨bm,0,none⟩) (m+1) bO),ya,by go_num,de,dc.congr (fun a c du b5=>?_)⟩;obtain rfl:a=0:=ya;rw [aE,filter_snoc,qm,c9]
     by_cases bY:j=c
     .subst bY;rw [qr rfl,ZaF];rfl
     rw [qo bY,Zbz ya];simp
    (simp [intOf];omega)
   have aE:=hI (show E.take k=E from qs ya)
   have dd:=hI (show SplP (Zbm s q L) w (.returned (.tuple #[.slice (some ⟨F,0,none⟩) q q,.int .i64 0])) wr by
    rw [df]
    obtain⟨vs,ac,N⟩:=aA.row (i:=0) ya (fun j _=>by rw [aE,Ze (n:=56) (fun _=>rfl)];have dv:=qI (fun c=>ZaO s q c == j) E;omega) (S':=New w wr) (fun b z=>by
     rcases z with z | z
     .have:=W b z;exact⟨ya,ya⟩
     exact⟨ya,z.2⟩)
    have cU:(List.range q).map (fun j=>Dat.slice (((E.take k).filter fun c=>ZaO s q c == j).map ZF))=(ZT q (ZaO s q) E).map ZW:=by
     unfold ZT ZW;rw [List.map_map,aE];rfl
    rw [cU] at N;refine⟨some ⟨F,0,none⟩,q,by rw [ZQ],by rw [ZQ];exact qp _,Qb (by rw [Ze (n:=24) (fun _=>rfl),ZQ];omega) N (fun _=>⟨F,0,rfl,⟨ya,ya⟩,fun j u cW=>?_⟩),ck.trans (av.below (n:=w) ya (fun b z=>ya))⟩;exact Za ac j u cW)
   go_wp2
   exact qw (v:=.tuple #[.slice (some ⟨F,0,none⟩) q q,.int .i64 0]) (by simp [results,results93,go_sem]) rfl dd
  have c3:(aT != 0)=true:=(by simp [bQ]);have bu:=hI (show Zbm s n L=(aT,[]) by rw [aS,qr bQ])
  go_wp2
  exact qw (v:=.tuple #[.slice none 0 0,.int .i64 aT]) (by simp [results,results93,go_sem]) rfl (SplP.err bu cg)
 have c3:(au != 0)=true:=(by simp [bG]);have bu:=hI (show Zbm s n L=(au,[]) by rw [bo,qr bG])
 go_wp2
 exact qw (v:=.tuple #[.slice none 0 0,.int .i64 au]) (by simp [results,results93,go_sem]) rfl (SplP.err bu be)
section
variable {α:Type} {f:α->α->Int} {cl:α->Nat} {T:List α}
def rest (cl:α->Nat) (T:List α) (k i:Nat):List α:=(T.drop k).filter fun x=>cl x == i
def posn (cl:α->Nat) (T:List α) (k i:Nat):Nat:=((T.take k).filter fun x=>cl x == i).length
theorem ZhJ (k i:Nat):(T.filter fun x=>cl x == i).drop (posn cl T k i)=rest cl T k i:=by
 have h:T.filter (fun x=>cl x == i)=(T.take k).filter (fun x=>cl x == i)++rest cl T k i:=by
  unfold rest;rw [<-List.filter_append,List.take_append_drop]
 rw [h];unfold posn;exact List.drop_left
theorem Zka (k i:Nat):posn cl T k i<=(T.filter fun x=>cl x == i).length:=by
 have h:=congrArg List.length (show T.filter (fun x=>cl x == i)=(T.take k).filter (fun x=>cl x == i)++rest cl T k i by
  unfold rest;rw [<-List.filter_append,List.take_append_drop])
 rw [qi] at h;unfold posn;omega
theorem ZbB {k i:Nat} {x:α} {r:List α} (h:rest cl T k i=x :: r):posn cl T k i<(T.filter fun x=>cl x == i).length/\(T.filter fun x=>cl x == i)[posn cl T k i]?=some x/\x ∈ T.drop k/\cl x=i:=by
 have E:=ZhJ (cl:=cl) (T:=T) k i;rw [h] at E
 have F:(T.filter fun x=>cl x == i)[posn cl T k i]?=some x:=by
  have H:=congrArg (fun l=>l[0]?) E;simpa using H
 have z:x ∈ rest cl T k i:=(by rw [h];simp);unfold rest at z;rw [List.mem_filter] at z;exact⟨(qR.1 F).1,F,z.1,by simpa using z.2⟩
theorem Zjd {k i:Nat} (h:rest cl T k i=[]):¬ posn cl T k i<(T.filter fun x=>cl x == i).length:=by
 have z:=ZhJ (cl:=cl) (T:=T) k i;rw [h] at z;have:=congrArg List.length z;simp at this;omega
theorem ZhP {k:Nat} (h:k<T) (i:Nat):posn cl T (k+1) i=posn cl T k i+if cl T[k]=i then 1 else 0:=by
 unfold posn;rw [qj h,List.filter_append,qi]
 congr 1
 by_cases e:cl T[k]=i
 .simp [e]
 simp [e]
structure Best (f:α->α->Int) (cl:α->Nat) (T:List α) (k i c:Nat) (y:α) (r:List α):Prop where
 lt:c<i
 hd:rest cl T k c=y :: r
 le:∀ j,j<i->∀ z q,rest cl T k j=z :: q->¬ f z y<0
theorem Best.first {k i:Nat} {y:α} {r:List α} (F:TPre f) (h:∀ j,j<i->rest cl T k j=[]) (hd:rest cl T k i=y :: r):Best f cl T k (i+1) i y r:=by
 refine⟨ya,hd,fun j I H q z=>?_⟩;rcases qv j i with E | E
 .rw [h j E] at z;cases z
 obtain rfl:j=i:=ya;rw [hd] at z;injection z with z _;rw [<-z,F.refl];omega
theorem Best.skip {k i c:Nat} {y:α} {r:List α} (h:Best f cl T k i c y r) (hd:rest cl T k i=[]):Best f cl T k (i+1) c y r:=by
 refine⟨yl h.lt,h.hd,fun j H F q z=>?_⟩;rcases qv j i with E | E
 .exact h.le j E F q z
 obtain rfl:j=i:=ya;rw [hd] at z;cases z
theorem Best.stay {k i c:Nat} {y E:α} {r q:List α} (h:Best f cl T k i c y r) (hd:rest cl T k i=E :: q) (K:¬ f E y<0):Best f cl T k (i+1) c y r:=by
 refine⟨yl h.lt,h.hd,fun j L I H z=>?_⟩;rcases qv j i with F | F
 .exact h.le j F I H z
 obtain rfl:j=i:=ya;rw [hd] at z;injection z with z _;rw [<-z];exact K
theorem Best.turn {k i c:Nat} {y E:α} {r q:List α} (H:TPre f) (h:Best f cl T k i c y r) (hd:rest cl T k i=E :: q) (N:f E y<0):Best f cl T k (i+1) i E q:=by
 refine⟨ya,hd,fun j M L K z=>?_⟩;rcases qv j i with F | F
 .intro I;exact h.le j F L K z (H.lt_le I ya)
 obtain rfl:j=i:=ya;rw [hd] at z;injection z with z _;rw [<-z,H.refl];omega
theorem Best.next {n k c:Nat} {y:α} {r:List α} (aa:TPre f) (M:T.Pairwise (fun a b=>f a b<0)) (R:∀ x ∈ T,cl x<n) (h:Best f cl T k n c y r):∃ z:k<T,y=T[k]/\c=cl T[k]:=by
 obtain⟨Z,W,E,L⟩:=ZbB h.hd
 have z:k<T:=by
  rcases qv k T.length with z | z
  .exact z
  rw [Qu z] at E;simp at E
 have F:=qq z;have K:T[k] ∈ T:=qJ z;have U:∃ q,rest cl T k (cl T[k])=T[k] :: q:=⟨_,by unfold rest;rw [F,List.filter_cons,qr yb]⟩;obtain⟨q,I⟩:=U;have N:=h.le (cl T[k]) (R _ K) _ _ I;have H:(T.drop k).Pairwise (fun a b=>f a b<0):=List.Pairwise.sublist (List.drop_sublist _ _) M;rw [F] at E H;refine⟨z,?_⟩;rcases Qs.1 E with e | O
 .exact⟨e,by rw [<-e];exact L.symm⟩
 exact absurd ((List.pairwise_cons.1 H).1 y O) N
theorem Zje {n k:Nat} (H:∀ x ∈ T,cl x<n) (h:∀ j,j<n->rest cl T k j=[]):T.take k=T:=by
 rcases qv k T.length with z | z
 .have F:T[k] ∈ T:=qJ z;have E:=h (cl T[k]) (H _ F);unfold rest at E;rw [qq z,List.filter_cons,qr yb] at E;cases E
 exact qs z
end
section
variable {s:Sch} {m:Int}
theorem Zhx (s:Sch):TPre (cmpC s):=⟨fun a b=>cmpC_flip,fun a b c z E=>cmpC_le_trans z E⟩
theorem Zfv:TPre cmpR:=⟨fun a b=>yl (cmpR_is.flip a b),fun a b c z E=>cmpR_is.trans a b c z E⟩
theorem cmpR_keys {k:Nat}:∀ {a b:Row},cmpR (a.take k) (b.take k)<0->a.length=b.length->cmpR a b<0:=by
 induction k with
 | zero=>intro a b h;simp [cmpR] at h
 | succ k F =>
  intro a b h E
  match a,b with
  | [],[]=>simp [cmpR] at h
  | [],_ :: _=>simp at E
  | _ :: _,[]=>simp at E
  | x :: a,y :: b =>
   simp only [List.take_succ_cons,cmpR] at h ⊢;split
   .rename_i z;rw [qr z] at h;exact h
   rename_i z;rw [qo z] at h;exact F h (by simpa using E)
theorem asc_rows {t:Nat} {l:List Row} (h:ZgT s (t:Int) m l) (M:t<s.tt):l.Pairwise (fun a b=>cmpR a b<0):=by
 refine List.Pairwise.imp_of_mem ?_ (asc_pw.1 h.2);intro a b H L z;have K:=Zjt (h.1 a H);have I:=Zjt (h.1 b L);have F:a.length=b.length:=K.trans I.symm;have E:hasN s.tt (t:Int)=true:=(by simp [hasN];omega);unfold keyF at z;rw [qr E,qr E] at z;unfold keyN at z;rw [F] at z;exact cmpR_keys z F
end
theorem Zho {z:List (List Chg)} (h:Sl w S A (z.map ZW)) (H:n<z):∃ b E,A=some ⟨b,E,none⟩/\S b/\∃ A' c,yr w b (E+n) (.slice A' (z.getD n []).length c)/\(z.getD n []).length<=c/\ChgS w S A' (z.getD n []):=by
 obtain⟨b,E,e,N,F⟩:=Qf (n:=1) (fun _=>rfl) [] h H;rw [Nat.mul_one] at F;simp only [ZW,Dat.Held,qg] at F;obtain⟨A',c,I,M,K,L⟩:=F;exact⟨b,E,e,N,A',c,I,M,⟨by simpa using K,by simpa using L⟩⟩
def ZdH (n:Nat):List Value:=List.replicate n (.int .i64 0)
theorem ZdN (n:Nat) (N:n<=1000) (w:World) :
 (Instr.makeSlice 65 (.int .i64 (n:Int)) (.int .i64 (n:Int))).run prog w=.ok (.slice (some ⟨w,0,none⟩) n n) (w.alloc (.cells (ZdH n).toArray 3)):=by
 obtain⟨z,K,H,I,E⟩:=qA info3;have F:=run_make (P:=prog) w 65 3 z _ underlying65 K H .i64 .i64 n n ya ya (by rw [E];omega) ya;rw [F,I];simp only [qu]
 congr 3
 apply Array.ext
 .simp [size_madeCells,ZdH]
 intro i M L;simp [madeCells,ZdH,Value.cells,Nat.mod_one]
def lenVC:Value->Nat
 | .slice _ n _=>n
 | _=>0
def atVC (cl:Chg->Nat) (T:List Chg) (n k:Nat):List Value:=(List.range n).map fun i=>.int .i64 (posn cl T k i:Int)
theorem ZkF {cl:Chg->Nat} (h:m<n):(atVC cl L n k)[m]?=some (.int .i64 (posn cl L k m:Int)):=by simp [atVC,h]
theorem atVC_set {cl:Chg->Nat} (E:k<L) (z:m=cl L[k]) (K:m<n):(atVC cl L n k).set m (.int .i64 ((posn cl L k m:Int)+1))=atVC cl L n (k+1):=by
 apply List.ext_getElem
 .simp [atVC]
 intro i I F;have:i<n:=(by simpa [atVC] using F);rw [List.getElem_set];simp only [atVC,List.getElem_map,List.getElem_range];rw [ZhP E]
 by_cases e:m=i
 .subst e;rw [qr rfl,qr z.symm];simp
 rw [qo e,qo (fun H=>e (z.trans H))];simp
def BestVC (s:Sch) (cl:Chg->Nat) (T:List Chg) (k j:Nat) (b:Value):Prop:=(b=.int .i64 (-1)/\∀ i,i<j->rest cl T k i=[])\/∃ (c:Nat) (y:Chg) (r:List Chg),b=.int .i64 (c:Int)/\Best (cmpC s) cl T k j c y r
theorem mergeC_any (cx:Nat) {cl:Chg->Nat} (ci:CapS w s A n k) (cp:TabS w S' A s.tt) (cH:∀ b,S' b->b<w) (bG:∀ x ∈ L,ChgN s x/\ZcM s x=keyC s x) (b5:∀ t,t<s.tt.length->1<=(s.tt.getD t t0).key) (aP:Sl w S B ((ZT m cl L).map ZW)) (I:∀ b,S b->b<w) (cS:m<=4) (bf:L.Pairwise (fun a b=>cmpC s a b<0)) (aW:∀ x ∈ L,cl x<m) (b8:L.length<=1) :
 Calls prog 222 #[.slice B m cx,.func (.func 223) #[] #[.pointer (some ⟨k,0,none⟩)]] w (fun e w'=>∃ bX c,e=.returned (.slice bX L c)/\L.length<=c/\ChgS w' (fun b=>S b\/New w w' b) bX L/\Below w w w'):=by
 replace aP:=hI aP;replace bf:=hI bf;replace aW:=hI aW;replace bG:=hI bG;clear ci cp b5;obtain⟨cm,bW,ce,cj,cG⟩:=qA ZhY;have ap:=ZdN m ya;go_enter func222,ntmps222;go_upto_region 2 with fail
 clear ap;obtain⟨w0,E,aQ,az,aK,-⟩:=ag w (.cells (ZdH m).toArray 3);have aK:=aK.out
 have bI:=hI (show w0.heap[E]?=some (.cells (atVC cl L m 0).toArray 3 (0,0)) by
  have e:atVC cl L m 0=ZdH m:=by
   apply List.ext_getElem
   .simp [atVC,ZdH]
   intro i N M;simp [atVC,ZdH,posn]
  rw [e,<-aQ,<-az];exact qb w _)
 have:E+1<=w0/\w0<=E+1:=(by rw [<-aQ,<-az];simp);have bO:=hI aK;have:w<=E/\E<=w:=ya;rw [aQ]
 try rw [az]
 clear aQ az aK;have bV:=hI (Qe (w:=w0) (base:=w0) (S0:=S) (fun b F=>yl (I b F)) nR 148 3)
 go_wp2
 go_loopw [6] (fun v wr=>∃ (bF:Nat) (bX:Option Addr) (c:Nat),bF<=L/\v=.slice bX bF c/\Fr (fun b=>b=E) w0 wr/\wr.heap[E]?=some (.cells (atVC cl L m bF).toArray 3 (0,0))/\Mk wr w0 S 148 3 (.slice bX bF c) ((L.take bF).map ZF)) (fun v _=>L.length+1 - lenVC v)
 case atStart=>exact⟨0,none,0,qk _,rfl,Qa _ _,bI,by rw [List.take_zero];exact bV⟩
 clear bV bI;obtain⟨bF,bX,c,cN,rfl,bq,aU,ap⟩:=hrel;have be:=hI bq;replace aU:=hI aU;replace ap:=hI ap;have cK:=bq.size;clear bq
 go_wp2_with fail
 obtain⟨ah,rfl⟩:∃ ah:World,ah=wr:=⟨_,rfl⟩
 go_loopw [7,15] (fun b i wr=>∃ j:Nat,j<=m/\i=.int .i64 j/\BestVC s cl L bF j b/\Below ah ah wr) (fun _ i _=>m - (intOf i).toNat)
 case atStart=>exact⟨0,qk _,rfl,.inl ⟨rfl,fun i h=>absurd h ya⟩,qa _ _⟩
 obtain⟨j,cM,rfl,av,bE⟩:=hrel;replace bE:=hI bE;have bC:=hI (show Same S w wr from fun b F=>(bE.block b (yl (I b F))).trans ((be.block b (yl (I b F)) (yl (I b F))).trans (bO.block b (I b F))));have aM:=hI ((bE.block E (Zb aU)).trans aU);have cg:=Zb aM
 by_cases aE:j<m
 .have cu:decide (j<m)=true:=(by simp [aE]);have:(0:Int)<=(j:Int):=ya;have:(j:Int)<(m:Int):=ya;have cz:j<(ZT m cl L).length:=(by rw [ZQ];exact aE);obtain⟨an,bj,rfl,bl,cI,cP,aF,aV,l2⟩:=Zho (show Sl wr S B ((ZT m cl L).map ZW) from qU aP bC) cz;rw [ZaH aE] at aF aV l2;have cn:=hI l2
  have p0:wr.cell? ⟨E,j,none⟩=some (.int .i64 (posn cl L bF j:Int)):=by
   have ai:=Za aM j _ (show (atVC cl L m bF).toArray.toList[j]?=_ from ZkF aE);rwa [qx] at ai
  clear aV l2;have cd:(L.filter fun x=>cl x == j).length<=1:=(by have:=qI (fun x=>cl x == j) L;omega);have bQ:=Zka (cl:=cl) (T:=L) bF j;have aB:=hI (fun (h:rest cl L bF j=[])=>Zjd h);have aI:=hI (fun (aq:Chg) (q:List Chg) (h:rest cl L bF j=aq :: q)=>ZbB h);obtain⟨aN,bS⟩:=yp (posn cl L bF j);obtain⟨b0,b3⟩:=yp (L.filter (fun x=>cl x == j));rw [bS] at p0 bQ aB aI;rw [b3] at aF cn cd bQ aB aI;clear bS b3;go_upto_region 7 with fail
  rcases O:rest cl L bF j with _ | ⟨aq,q⟩
  .have cR:=aB O;replace O:=hI O;replace av:=hI av;refine uP (fun w'=>w'.cell? ⟨E,j,none⟩=some (.int .i64 (aN:Int))) 32 32 [0,32] p0 ?_;have bw:=hI (show Below ah ah wr.drew from bE.drew)
   go_wp2
   go_roundw
   case rel =>
    refine⟨j+1,ya,by go_num,?_,bw⟩;rcases av.out with ⟨N,M⟩ | ⟨z,y,r,N,M⟩
    .refine .inl ⟨N,fun i bW=>?_⟩;rcases qv i j with ba | ba
     .exact M i ba
     obtain rfl:i=j:=ya;exact O
    exact .inr ⟨z,y,r,N,M.skip O⟩
   (simp [intOf];omega)
  obtain⟨cQ,bJ,bH,bn⟩:=aI aq q O;have:(aN:Int)<(b0:Int):=ya;replace O:=hI O;have cq:=hI (show aq ∈ L from List.mem_of_mem_drop bH);have cy:b0.getD aN chg0=aq:=(by simp [List.getD,bJ]);replace bn:=hI bn;clear bJ bH aB aI;rcases av with ⟨rfl,ao⟩ | ⟨z,y,r,rfl,ak⟩
  .replace ao:=hI ao;clear cy;refine uP (fun w'=>w'.cell? ⟨E,j,none⟩=some (.int .i64 (aN:Int))) 32 32 [0,32] p0 ?_;have bw:=hI (show Below ah ah wr.drew from bE.drew)
   go_wp2
   go_roundw
   case rel=>exact⟨j+1,ya,by go_num,.inr ⟨j,aq,q,rfl,Best.first (Zhx s) ao O⟩,bw⟩
   (simp [intOf];omega)
  obtain⟨-,-,bo,b1⟩:=ZbB ak.hd;have cJ:=ak.lt;have N:=cq.out;have M:y ∈ L:=List.mem_of_mem_drop bo;have ba:=bn.out;exfalso
  match L,b8,N,M with
  | [x],_,N,M =>
   rw [qy] at N M;subst N M;omega
 have cu:decide (j<m)=false:=yd;obtain rfl:j=m:=ya;rcases av with ⟨rfl,ao⟩ | ⟨z,y,r,rfl,ak⟩
 .have aY:=hI (Zje aW ao);have bU:=hI (show bF=L.length by have ai:=congrArg List.length aY;rw [qG] at ai;omega);have bY:=hI ((ap.below bE).slice (by rw [aY,Ze (n:=56) (fun _=>rfl)];omega));have ct:=hI (show Below w w wr from bO.trans ((be.below (n:=w) ya (fun b F=>ya)).trans (bE.mono ya)));clear ao
  go_wp2
  go_ret;refine⟨bX,c,by rw [<-bU];rfl,by rw [<-bU];exact bY.2.1,?_,ct⟩;have ai:=bY.2.2;rw [aY] at ai;exact qZ ai (fun b F=>F.imp id (fun F=>⟨ya,F.2⟩))
 obtain⟨bR,bL,bK⟩:=ak.next (Zhx s) bf aW;obtain⟨bc,aC,bo,b1⟩:=ZbB ak.hd;have aA:=ak.lt;have cf:=hI (show L.take (bF+1)=L.take bF++[y] by rw [qj bR,bL])
 have aS:wr.cell? ⟨E,z,none⟩=some (.int .i64 (posn cl L bF z:Int)):=by
  have ai:=Za aM z _ (show (atVC cl L j bF).toArray.toList[z]?=_ from ZkF aA);rwa [qx] at ai
 obtain⟨an,bj,rfl,bl,b7,cv,au,_,aT⟩:=Zho (show Sl wr S B ((ZT j cl L).map ZW) from qU aP bC) (n:=z) (by rw [ZQ];exact aA);rw [ZaH aA] at au aT;have cw:an<wr:=(yl (I an bl));have cr:(L.filter fun x=>cl x == z).length<=1:=(by have:=qI (fun x=>cl x == z) L;omega);have bN:=hI (show (atVC cl L j bF).set z (.int .i64 ((posn cl L bF z:Int)+1))=atVC cl L j (bF+1) from atVC_set bR bK aA);obtain⟨H,bT⟩:=yp (posn cl L bF z);obtain⟨aR,b4⟩:=yp (L.filter (fun x=>cl x == z));rw [bT] at aS bc aC bN;rw [b4] at au aT cr bc aC;have bP:aR.getD H chg0=y:=(by simp [List.getD,aC]);have:(0:Int)<=(H:Int):=ya;have:(H:Int)<(aR:Int):=ya;have:(0:Int)<=(z:Int):=ya;have:(z:Int)<(j:Int):=ya;have:decide ((z:Int)<0)=false:=qe ya;obtain⟨by_,am,rfl,aL,aw,Z,W,aa,ae,ar,bk,ay,ax,bt,aG⟩:=ChgS.at_ (show ChgS wr S b7 aR from aT) bc;rw [bP] at aw ar bk ay ax bt aG;have ch:=hI (show ChV wr S y Z W aa ae from ⟨ay,bk,aG,bt⟩);have cA:=ay.len;have co:=aG.len;have bp:by_<wr:=(yl (I by_ aL));obtain⟨ac,U,af⟩:=y;simp only at aw ar ax cA co;clear bk ay bt aG aT bP;clear bT b4 aC bo b1 ak bL bK;have:bF<=1:=by omega
 go_wp2
 refine uS (fun w'=>w'.cell? ⟨E,z,none⟩=some (.int .i64 (H:Int))/\w'.cell? ⟨an,bj+z,none⟩=some (.slice (some ⟨by_,am,none⟩) aR.length cv)/\w'.cell? ⟨by_,am+H*3,none⟩=some (.int .i64 ac)/\w'.cell? ⟨by_,am+H*3+1,none⟩=some (.slice Z U W)/\w'.cell? ⟨by_,am+H*3+2,none⟩=some (.slice aa af ae)) 14 14 fun Q' bD bB=>?_;obtain⟨aj,bi,ab,-⟩:=dr wr;have:wr.heap.size<=aj:=(by rw [<-bi];exact qp _);have cF:=hI ((ap.below bE).below ab);have aJ:=hI (ch.keep (fun b F=>ab.block b (yl (I b F))));have aZ:=c9Q ab cg aS;have bg:=c9Q ab cw au;have aX:=c9Q ab bp aw;have bb:=c9Q ab bp ar;have bh:=c9Q ab bp ax;rw [bi];clear bi;refine uR [0,11] bB ⟨aZ,bg,aX,bb,bh⟩ ?_;refine uQ 11 fun br bM=>?_;go_simp;have aF:(aj.alloc (.cells #[.int .i64 ac,.slice Z U W,.slice aa af ae] 148)).cell? ⟨E,z,none⟩=_:=(Zh ya).trans aZ;have aV:(aj.alloc (.cells #[.int .i64 ac,.slice Z U W,.slice aa af ae] 148)).cell? ⟨an,bj+z,none⟩=_:=(Zh ya).trans bg;have l2:(aj.alloc (.cells #[.int .i64 ac,.slice Z U W,.slice aa af ae] 148)).cell? ⟨by_,am+H*3,none⟩=_:=(Zh ya).trans aX;have ca:(aj.alloc (.cells #[.int .i64 ac,.slice Z U W,.slice aa af ae] 148)).cell? ⟨by_,am+H*3+1,none⟩=_:=(Zh ya).trans bb;have cc:(aj.alloc (.cells #[.int .i64 ac,.slice Z U W,.slice aa af ae] 148)).cell? ⟨by_,am+H*3+2,none⟩=_:=(Zh ya).trans bh;refine bM _ _ (fun _=>⟨aF,aV,l2,ca,cc⟩) ?_;clear bM br
 try simp only [Act.put,psA,psB,psC]
 refine uQ 12 fun br bZ=>?_;refine Zbc yg (.tmp 57) (.tmp 68) 56 yg 56 underlying56 bW ce cj cG rfl yf cF yg #[.int .i64 ac,.slice Z U W,.slice aa af ae] (ZbP ⟨aJ.l1,aJ.r1.more (fun b F=>Or.inl F)⟩ ⟨aJ.l2,aJ.r2.more (fun b F=>Or.inl F)⟩) (Zaw _) (Zab _) 1 yg ya ya ?_;intro b9 cD R aH b2 cO;replace aH:=hI aH;have K:=hI (show Below w0 wr R from (ab.mono ya).trans b2);have bz:=hI (show R.heap[E]?=some (.cells (atVC cl L j bF).toArray 3 (0,0)) from (K.block E ya).trans aM);have aD:yr R E z (.int .i64 (H:Int)):=c9J K aS;have n1:=c9Q K (by show an<w0;have:=I an bl;omega) au;have n2:=c9Q K (by show by_<w0;have:=I by_ aL;omega) aw;have bm:=c9Q K (by show by_<w0;have:=I by_ aL;omega) ar;have bu:=c9Q K (by show by_<w0;have:=I by_ aL;omega) ax;clear b2;refine bZ _ _ (fun _=>⟨aD,n1,n2,bm,bu⟩) ?_;clear bZ br
 try simp only [Act.put,psA,psB,psC]
 refine uR [13,1] bB ⟨aD,n1,n2,bm,bu⟩ ?_;refine uE bD ?_;clear bD bB Q';have cC:=hI (show (R.setCell ⟨E,z,none⟩ (.int .i64 ((H:Int)+1))).heap[E]?=some (.cells (atVC cl L j (bF+1)).toArray 3 (0,0)) by rw [<-bN];exact Zc bz);have b6:=hI (aH.keep ((Qa (fun b=>b=E) R).setCell (.int .i64 ((H:Int)+1)) (g:=E) (o:=z) (fun _=>rfl)) (fun b F=>⟨ya,fun h=>yl (I b h)⟩));have cE:=hI (show Fr (fun b=>b=E) w0 (R.setCell ⟨E,z,none⟩ (.int .i64 ((H:Int)+1))) from ((be.trans (qW bE) (Y:=fun _=>False) (fun b F h=>h.elim)).trans (Y:=fun b=>w0<=b) ⟨K.os,K.tape,K.output,K.size,fun b F cL=>K.block b ya⟩ (fun b F h=>absurd F ya)).setCell _ (fun _=>rfl));have:yr R E z (.int .i64 (H:Int)):=aD;have:R.frozen? ⟨E,z,none⟩=false:=(by simp [World.frozen?,bz.out]);clear aH bz aZ aD bg n1 aX n2 bb bm bh bu aS au aw ar ax
 go_wp2
 go_roundw
 case rel =>
  refine⟨bF+1,some ⟨b9,0,none⟩,cD,ya,yb,cE,cC,?_⟩;rw [cf,qm];exact b6
 (simp [lenVC];omega)
abbrev prtC (s:Sch) (n i:Nat) (D:List Chg):List Chg:=D.filter fun c=>ZaO s n c == i
theorem shMerge_any (I:Nat) (cL:Nat) (af:TabS w S A s.tt) (aj:Sl w S B ((ZT n (ZaO s n) L).map ZW)) (O:∀ b,S b->b<w.heap.size) (cS:1<=n) (c6:n<=4) (ae:schF pcF s=0)
 (bf:∀ i,i<n->netF 0 s 1 (prtC s n i L)=(0,prtC s n i L)) (bb:L.Pairwise (fun a b=>cmpC s a b<0)) (aH:∀ x ∈ L,ChgN s x/\ZcM s x=keyC s x) (cY:L.length<=1) :
 Calls prog 173 #[sAgg s.vv A s.tt.length I,.slice B n cL] w (NetPost (0,L) w):=by
 have cW:=af.len;replace af:=hI af;replace aj:=hI aj;replace ae:=hI ae;replace bf:=hI bf;replace bb:=hI bb;replace aH:=hI aH;obtain⟨W,ax⟩:=yp (w.alloc (.cells #[.int .i64 s.vv,.slice A s.tt.length I] 25));have bl:=hI (show Below w.heap.size w W by rw [<-ax];exact(qa w.heap.size w).alloc nR _);have:W.heap.size<=w.heap.size+1/\w.heap.size+1<=W.heap.size:=(by rw [<-ax];simp);obtain⟨E,bk⟩:=yp w.heap.size;have aK:=hI (show W.heap[E]?=some (.cells #[.int .i64 s.vv,.slice A s.tt.length I] 25 (0,0)) by rw [<-ax,<-bk];exact qb w _);have cr:yr W E 0 (.int .i64 s.vv):=Za aK.out 0 _ rfl;have cM:yr W E 1 (.slice A s.tt.length I):=Za aK.out 1 _ rfl;have cD:E<W.heap.size:=ya;have:w.heap.size<=E:=ya;have cI:=hI (show ZaV s (n:Int)=0 by unfold ZaV;rw [qo ya];exact ae.out);go_enter func173,ntmps173
 go_wp2_with fail
 try rw [ax]
 try rw [bk]
 clear ax bk;refine(Zbd I s (af.out.keep (qS bl.out O)) (fun b z=>yl (O b z))).mono ?_;rintro e b7 ⟨rfl,aD⟩;rw [cI];have b4:=hI (bl.out.trans (aD.mono ya));have bC:=hI ((aD.block E cD).trans aK.out);have co:=Zb bC.out;have cy:=Zcs n ya;clear aD cr cM bl aK;go_upto_region 5 with fail
 clear cy;obtain⟨w2,gN,aR,aF,av,-⟩:=ag b7 (.cells (Zk n).toArray 56);have av:=av.out;have:gN+1<=w2.heap.size/\w2.heap.size<=gN+1:=(by rw [<-aR,<-aF];simp);have bL:=hI (Lst.zero (w:=w2) (base:=w2.heap.size) (gN:=gN) (n:=n) (TT:=56) (D:=(ZT n (ZaO s n) L).map ZW) (by rw [<-aR,<-aF];exact qb b7 _));have cz:=hI (b4.out.trans (av.mono ya));have cE:=hI ((av.block E co).trans bC.out);have:E<gN:=ya;rw [aR]
 try rw [aF]
 clear aR aF av bC b4
 go_wp2
 go_loopw [28] (fun i wr=>∃ k:Nat,k<=n/\i=.int .i64 k/\Fr (fun b=>b=gN) w2 wr/\Lst wr w2.heap.size gN n k 56 ((ZT n (ZaO s n) L).map ZW)) (fun i _=>n - (intOf i).toNat)
 case atStart=>exact⟨0,qk _,rfl,Qa _ _,bL.out⟩
 clear bL;obtain⟨k,cV,rfl,bw,aA⟩:=hrel;have bh:=hI bw;replace aA:=hI aA;have cT:=bw.size;clear bw;have aW:=hI (show Below w.heap.size w wr from cz.out.trans (bh.out.below (n:=w.heap.size) ya (fun b z=>ya)));have aJ:=hI ((bh.out.block E ya ya).trans cE.out);have cu:yr wr E 0 (.int .i64 s.vv):=Za aJ.out 0 _ rfl;have cK:yr wr E 1 (.slice A s.tt.length I):=Za aJ.out 1 _ rfl;have cp:=Zb aJ.out
 by_cases ak:k<n
 .have:(0:Int)<=(k:Int):=ya;have:(k:Int)<(n:Int):=ya;obtain⟨b9,bX,rfl,bY,ab,aU,R,aC,l2⟩:=Zho (show Sl wr S B ((ZT n (ZaO s n) L).map ZW) from qU aj.out (qS aW.out O)) (n:=k) (by rw [ZQ];exact ak);rw [ZaH ak] at R aC l2;have bc:yr wr b9 (bX+k) (.slice ab (prtC s n k L).length aU):=R;clear R;have ar:=hI (show ChgS wr S ab (prtC s n k L) from l2);have bJ:=hI (bf.out k ak);have bS:=hI (show ((ZT n (ZaO s n) L).map ZW)[k]?=some (ZW (prtC s n k L)) by simp [ZT,ak]);have aQ:(prtC s n k L).length<=1:=(by have:=qI (fun c=>ZaO s n c == k) L;show (List.filter _ L).length<=1;omega);clear l2 aC;obtain⟨P,az⟩:=yp (prtC s n k L);rw [az] at bc ar bJ bS aQ;clear az
  go_wp2_with fail
  refine(Zhb I 1 aU (af.out.keep (qS aW.out O)) ar.out (fun b z=>ym (O b z) aW.out.size) (ZU) (yl (ZcG ae.out)) aQ).mono ?_;rw [ae,bJ];rintro e Z ⟨ap,aB,rfl,aO,ai,aq⟩;simp only at aO ai;replace ai:=hI ai;replace aO:=hI aO;have bR:=hI (aA.out.below aq);have cG:=hI (bh.out.trans (qW aq) (Y:=fun _=>False) (fun b z h=>h.elim));obtain⟨c7,da⟩:=bR.out.cell ak;clear aq cu cK;dsimp only
  go_wp2_with fail
  have cF:=hI (bR.out.put ak ya bS.out (show Dat.Vs Z (fun b=>w2.heap.size<=b/\b<Z.heap.size) (ZW P) [.slice ap P.length aB] by
   unfold ZW Dat.Vs;exact⟨ap,aB,yb,by simpa using aO.out,qZ ai.out (fun b z=>⟨yl z.1,z.2⟩)⟩))
  have cP:=hI (cG.out.setCell (.slice ap P.length aB) (g:=gN) (o:=k) (fun _=>rfl));go_roundw
  case rel=>exact⟨k+1,ya,by go_num,cP.out,cF.out⟩
  (simp [intOf];omega)
 have:decide (k<n)=false:=yd;obtain rfl:k=n:=ya;have cN:=hI (aA.out.done (by rw [qg,ZQ]) (by rw [Ze (n:=24) (fun _=>rfl),ZQ];omega) (S':=New w wr) ⟨ya,aA.out.lt⟩ (fun b z=>⟨ya,z.2⟩));obtain⟨N,rfl⟩:∃ N:World,N=wr:=⟨_,rfl⟩
 go_wp2
 go_loopw [49] (fun i wr=>∃ j:Nat,j<=k/\i=.int .i64 j/\Below N.heap.size N wr) (fun i _=>k - (intOf i).toNat)
 case atStart=>exact⟨0,qk _,rfl,qa _ _⟩
 obtain⟨j,cU,rfl,ac⟩:=hrel;have au:=hI ac;have c3:=ac.size;clear ac;have bO:=hI (qU cN.out (fun b z=>au.out.block b z.2));have bF:=hI ((au.out.block E cp).trans aJ.out);have ao:=hI (aW.out.trans (au.out.mono ya));have aZ:=Zb bF.out;have t0:yr wr E 0 (.int .i64 s.vv):=Za bF.out 0 _ rfl;have bp:yr wr E 1 (.slice A s.tt.length I):=Za bF.out 1 _ rfl
 by_cases bN:j<k
 .have:(0:Int)<=(j:Int):=ya;have:(j:Int)<(k:Int):=ya;obtain⟨b9,bX,bn,bY,ab,aU,R,aC,l2⟩:=Zho bO.out (n:=j) (by rw [ZQ];exact bN);injection bn with bn;injection bn with cR cA;subst cR cA;rw [ZaH bN] at R aC l2;rw [qx] at R;have bc:yr wr gN j (.slice ab (prtC s k j L).length aU):=R;clear R;have ar:=hI (show ChgS wr (New w N) ab (prtC s k j L) from l2);have aQ:(prtC s k j L).length<=1:=(by have:=qI (fun c=>ZaO s k c == j) L;show (List.filter _ L).length<=1;omega);have bZ:=hI (show ∀ c ∈ prtC s k j L,c ∈ L/\ZaO s k c=j from fun c cq=>by have:=List.mem_filter.1 cq;exact⟨this.1,by simpa using this.2⟩);have:gN<wr.heap.size:=(yl bY.2);clear l2 aC;obtain⟨P,az⟩:=yp (prtC s k j L);rw [az] at bc ar bZ aQ;clear az;obtain⟨aS,rfl⟩:∃ aS:World,aS=wr:=⟨_,rfl⟩
  go_wp2
  go_loopw [56] (fun i wr=>∃ q:Nat,q<=P.length/\i=.int .i64 q/\Below aS.heap.size aS wr) (fun i _=>P.length - (intOf i).toNat)
  case atStart=>exact⟨0,qk _,rfl,qa _ _⟩
  obtain⟨q,c8,rfl,ac⟩:=hrel;have an:=hI ac;have c4:=ac.size;clear ac
  by_cases bt:q<P.length
  .have:(0:Int)<=(q:Int):=ya;have:(q:Int)<(P.length:Int):=ya;obtain⟨ct,cX,rfl,aD,bz,aE,c1,aX,c2,f1,aN,bo,be,aP,bm⟩:=ChgS.at_ (show ChgS wr (New w N) ab P from qU ar.out (fun b z=>an.out.block b (yl z.2))) bt;have bD:=hI (bZ.out (P.getD q chg0) (by rw [show P.getD q chg0=P[q] by simp [List.getD,bt]];exact qJ bt));have aI:=hI bo;have aV:=hI bm;have bQ:=bo.len;have b2:=bm.len;have:ct<wr.heap.size:=(yl aD.2);generalize P.getD q chg0=x at bz f1 aN be aP aI aV bD bQ b2;obtain⟨cZ,M,bq⟩:=x;have br:=hI (aH.out _ bD.out.1).1;obtain⟨K,cg,b8⟩:=br.out.tab;simp only at bz f1 aN be aP aI aV bQ b2 cg;subst cg;have cO:=Zdw ae.out b8;have cn:0<M.length\/0<bq.length:=br.out.some_;have aM:=hI br.out.key;have cH:=hI (show Zcb (k:Int) K (ZcM s ⟨K,M,bq⟩)=(j:Int) by rw [<-bD.out.2];exact(Zhf (s:=s) (a:=(k:Int)) (C:=⟨K,M,bq⟩) ya).2);have cm:=aN;have ck:=aP;clear bo bm aN aP;have cc:=c9Q an.out aZ t0;have bM:=c9Q an.out aZ bp;have b1:E<wr.heap.size:=ya;go_upto_region 1000000 with fail
   obtain⟨F,b0,aa,ay⟩:=al wr (.cells #[.int .i64 K,.slice aE M.length c1,.slice aX bq.length c2] 148);have aa:=aa.out;have am:wr.heap.size<F.heap.size:=Zb ay.out;have aG:E<F.heap.size:=ya;have b6:=hI (an.out.trans (aa.mono ya));have aL:=c9Q aa b1 cc;have aT:=c9Q aa b1 bM;have a0:yr F wr.heap.size 0 (.int .i64 K):=Za ay.out 0 _ rfl;have a1:yr F wr.heap.size 1 (.slice aE M.length c1):=Za ay.out 1 _ rfl;have a2:yr F wr.heap.size 2 (.slice aX bq.length c2):=Za ay.out 2 _ rfl;have bH:=hI (ao.out.trans (b6.out.mono ya));have cw:=hI (aI.out.keep (qS aa (fun b z=>yl z.2)));have cv:=hI (aV.out.keep (qS aa (fun b z=>yl z.2)));rw [b0];clear b0 aa bz f1 be aI aV ay cc bM;refine uS (fun w'=>w'.cell? ⟨wr.heap.size,0,none⟩=some (.int .i64 K)/\w'.cell? ⟨wr.heap.size,1,none⟩=some (.slice aE M.length c1)/\w'.cell? ⟨wr.heap.size,2,none⟩=some (.slice aX bq.length c2)/\w'.cell? ⟨E,0,none⟩=some (.int .i64 s.vv)/\w'.cell? ⟨E,1,none⟩=some (.slice A s.tt.length I)) 10 10 fun Q' bI aj=>?_;refine uR [0,6,8,1] aj.out ⟨a0,a1,a2,aL,aT⟩ ?_;refine uQ 6 fun bu aw=>?_;go_simp;refine(ZhU I s c1 c2 (((af.out.keep (qS bH.out O)).keep (w':=F.drew) (fun _ _=>rfl)).more (fun b z=>Or.inl z)) (((cw.out).keep (w':=F.drew) (fun _ _=>rfl)).more (fun b z=>Or.inr z)) cm (((cv.out).keep (w':=F.drew) (fun _ _=>rfl)).more (fun b z=>Or.inr z)) ck (fun b z=>by show b<F.heap.size;have:=bH.out.size;rcases z with z | z;{ have:=O b z;omega };have:=z.2;omega) b8 cO.2.1 cn).mono ?_;rintro e Z ⟨ap,aB,rfl,ai,aq⟩;have U:Below F.heap.size F Z:=(qa _ F).drew.trans aq;have ca:=hI (show RowS Z (fun b=>b<Z.heap.size) ap (ZcM s ⟨K,M,bq⟩) from (Zag (Zct aM.out.1 aM.out.2) ai).more (fun b z=>z.2));have ce:=U.size;have bU:=c9Q U am a0;have bP:=c9Q U am a1;have cf:=c9Q U am a2;have b3:=c9Q U aG aL;have bG:=c9Q U aG aT;clear aq ai;refine aw.out _ _ (fun _=>⟨bU,bP,cf,b3,bG⟩) ?_;clear aw bu
   try simp only [Act.put,psA,psB,psC]
   refine uQ 7 fun bu aw=>?_;go_simp;refine(ZdT ya ya ca.out (fun b z=>z) aM.out.1 aM.out.2).mono ?_;rintro e cQ ⟨rfl,cd⟩;have ah:Below F.heap.size F cQ:=U.trans (cd.mono ce);have p0:=c9Q ah am a0;have bB:=c9Q ah am a1;have ba:=c9Q ah am a2;have aY:=c9Q ah aG aL;have bg:=c9Q ah aG aT;clear cd ca bU bP cf b3 bG ce;refine aw.out _ _ (fun _=>⟨p0,bB,ba,aY,bg⟩) ?_;clear aw bu
   try simp only [Act.put,psA,psB,psC]
   refine uR [9,1] aj.out ⟨p0,bB,ba,aY,bg⟩ ?_;refine uE bI ?_;clear bI aj Q';have cJ:=hI (b6.out.trans (ah.mono ya));clear U ah p0 bB ba aY bg aL aT a0 a1 a2;rw [cH]
   go_wp2
   go_roundw
   case rel=>exact⟨q+1,ya,by go_num,cJ.out⟩
   (simp [intOf];omega)
  go_wp2
  go_roundw
  case rel=>first | exact⟨j+1,ya,by go_num,au.out.trans (an.out.mono ya)⟩ | ((repeat apply Exists.intro);exact⟨⟨j+1,ya,by go_num,au.out.trans (an.out.mono ya)⟩,rfl⟩)
  (simp [intOf];omega)
 have ch:=hI (fun t (cj:t<s.tt.length)=>(Zdw ae.out cj).2.1);have cx:=hI (show CapS wr s A I E from ⟨t0,bp,aZ⟩);have b5:=hI (show ∀ b,New w N b->b<wr.heap.size from fun b z=>yl z.2);clear t0 bp
 go_wp2_with fail
 have bW:=mergeC_any k cx.out (af.out.keep (qS ao.out O)) (fun b z=>ym (O b z) ao.out.size) aH.out ch.out bO.out b5.out ya bb.out (fun x _=>by have:=(Zhf (s:=s) (a:=(k:Int)) (C:=x) ya).1;simpa using this) ya;refine bW.mono ?_;rintro e cC ⟨bV,bK,rfl,bj,bE,bi⟩;replace bj:=hI bj;replace bE:=hI bE;have ci:=hI (show wr.heap.size<=cC.heap.size from bi.size);have bT:=hI (ao.out.trans (bi.mono (yl ao.out.size)));clear bW bi
 go_wp2
 exact qw (v:=.tuple #[.slice bV L.length bK,.int .i64 0]) (by simp [results,results173,go_sem]) rfl ⟨bV,bK,rfl,bj.out,qZ bE.out (fun b z=>by have c5:=bT.out.size;have c9:=ao.out.size;rcases z with z | z;{ exact⟨z.1,ym (b5.out b z) ci.out⟩ };exact⟨yl z.1,z.2⟩),bT.out⟩
end Go.Proofs.YtjadnfodboepeaaGreat
