import Derived.Test.YtjadnfodboepeaaGreatKu4
import Derived.Test.YtjadnfodboepeaaGreatKuy
set_option linter.all false
set_option maxRecDepth 100000
set_option maxHeartbeats 8000000
namespace Go.Proofs.YtjadnfodboepeaaGreat
open Tryz
open Go Go.RowKit
variable {w:World} {n k m i j b c d e:Nat} {A B A':Option Addr} {S:Nat->Prop} {a:Int} {l:List Int} {x xA xB:Value} {s:Sch} {L:List Chg} {o:St} {F:Nat->Value} {I:List Ent}
def ZbU (x:Cut.Stp):Dat:=.agg [.lit (.int .i64 x.1),.slice (x.2.map ZaT)]
theorem ZdD (x:Cut.Stp):(ZbU x).size=2:=rfl
theorem encStp_plain (x:Cut.Stp):(ZbU x).Plain:=by simp [ZbU,Dat.Plain,Dat.Pa,Value.oneCell']
theorem ZeZ (x:Cut.Stp):(ZbU x).bytes=32:=rfl
def Zkz (l:List Cut.Stp):Dat:=.slice (l.map ZbU)
theorem vals_stp {cap:Nat} (z:l.length<=cap) (E:IntS w S A l):Dat.Vs w S (ZbU (a,l)) [.int .i64 a,.slice A l cap]:=by
 unfold ZbU;simp only [Dat.Vs,Dat.Va,ZC,qg];exact⟨[_],_,rfl,⟨rfl,trivial⟩,[_],_,rfl,⟨A,cap,rfl,z,E⟩,rfl⟩
theorem ints_of (h:IntS w S A l):Cut.Ints w S A l:=by
 refine⟨yb,fun N=>?_⟩;obtain⟨b,I,e,K,_⟩:=h.at_ N;refine⟨b,I,e,K,fun j u F=>?_⟩
 have z:j<l:=by
  by_cases z:j<l
  .exact z
  rw [List.getElem?_eq_none yd] at F;cases F
 obtain⟨b',O,E,_,L⟩:=h.at_ z;rw [e] at E;injection E with E;injection E with H M;subst H;subst M;rw [L];rw [<-F];simp [List.getD,z]
theorem stamps_of {l:List Cut.Stp} (h:Sl w S A (l.map ZbU)):Cut.Stamps w S A l:=by
 have M:l.length<=17592186044416:=(by have:=h.1;rw [Ze (n:=32) ZeZ] at this;omega);refine⟨M,fun Z=>?_⟩;obtain⟨b,L,e,U,_⟩:=Qf (n:=2) ZdD ((0,[]):Cut.Stp) h Z;refine⟨b,L,e,U,fun k I=>?_⟩;obtain⟨b',aa,z,_,E⟩:=Qf (n:=2) ZdD ((0,[]):Cut.Stp) h I;rw [e] at z;injection z with z;injection z with K W;subst K;subst W;unfold ZbU at E;simp only [Dat.Held,Dat.Ha,Dat.size,qg,ZC,and_true] at E;obtain⟨O,A',c,N,ab,F⟩:=E;have H:IntS w S A' (l.getD k (0,[])).2:=⟨F.1,fun R=>F.2 (by simpa using R)⟩;exact⟨O,A',c,N,ints_of H,H.len⟩
theorem logs_of {E:List (List Cut.Stp)} (h:Sl w S A (E.map Zkz)):Cut.Logs w S A E:=by
 have M:E.length<=17592186044416:=(by have:=h.1;rw [Ze (n:=24) (fun _=>rfl)] at this;omega);refine⟨M,fun W=>?_⟩;obtain⟨b,L,e,R,_⟩:=Qf (n:=1) (fun _=>rfl) ([]:List Cut.Stp) h W;refine⟨b,L,e,R,fun k I=>?_⟩;obtain⟨b',Z,z,_,F⟩:=Qf (n:=1) (fun _=>rfl) ([]:List Cut.Stp) h I;rw [e] at z;injection z with z;injection z with K U;subst K;subst U;unfold Zkz at F;simp only [Dat.Held,qg,Nat.mul_one] at F;obtain⟨A',c,N,aa,H⟩:=F;exact⟨A',c,N,stamps_of ⟨H.1,fun O=>H.2 (by simpa using O)⟩⟩
theorem infoLS:(prog.info? 173).map (fun i=>(i.zero,i.size,i.bytes))=some (some (.slice none 0 0),1,24):=by kernel_rfl
theorem infoSt2:(prog.info? 175).map (fun i=>(i.zero,i.size,i.bytes))=some (some (.agg #[.int .i64 0,.slice none 0 0]),2,32):=by kernel_rfl
theorem run_make_stps (n:Nat) (N:n<=1000) (w:World) :
 (Instr.makeSlice 85 (.int .i64 (n:Int)) (.int .i64 (n:Int))).run prog w=.ok (.slice (some ⟨w,0,none⟩) n n) (w.alloc (.cells (Zk n).toArray 173)):=by
 obtain⟨z,K,H,I,E⟩:=qA infoLS;have F:=run_make (P:=prog) w 85 173 z _ underlying85 K H .i64 .i64 n n ya ya (by rw [E];omega) ya;rw [F,I];simp only [qu]
 congr 3
 apply Array.ext
 .simp [size_madeCells,Zk]
 intro i M L;simp [madeCells,Zk,Value.cells,Nat.mod_one]
def stE (e:Ent):Cut.Stp:=(e.co,e.sd)
def LSf (P:Nat->List Ent) (q p:Nat):Nat->Nat->List Dat:=fun _ j=>if j<q then ((P j).map stE).map ZbU else if j=q then (((P q).take p).map stE).map ZbU else []
section
variable {P:Nat->List Ent} {q p:Nat}
theorem LSf_next (h:(P q).length<=p) {i j:Nat}:LSf P (q+1) 0 i j=LSf P q p i j:=by
 unfold LSf
 by_cases z:j<q
 .rw [qr z,qr ya]
 rw [qo z]
 by_cases E:j=q
 .subst E;rw [qr ya,qr rfl,qs h]
 rw [qo E,qo ya]
 by_cases F:j=q+1
 .rw [qr F];simp
 rw [qo F]
theorem LSf_step (h:p<(P q).length) (j:Nat):LSf P q (p+1) 0 j=upd (LSf P q p) 0 q (LSf P q p 0 q++[ZbU (stE ((P q).getD p ent0))]) 0 j:=by
 by_cases E:j=q
 .subst E;rw [ZaF];unfold LSf;rw [qo ya,qr rfl,qo ya,qr rfl,qj h,qm,qm];simp [List.getD,h]
 rw [Zbz ya];unfold LSf
 by_cases z:j<q
 .rw [qr z,qr z]
 rw [qo z,qo E,qo z,qo E]
theorem LSf_len:(LSf P q p 0 q).length<=p:=by
 unfold LSf;rw [qo ya,qr rfl,qg,qg,qG];omega
end
theorem stmps_parts:(ZZ s n I k).map stE=ZdM I k:=by
 unfold ZZ ZdM;rw [List.map_map];rfl
theorem restore_any (h:Nat) {first:St} (ct:Nat) {N:List Lg}   
 (ce:w.heap[h]?=some (.cells (hisL A n k s B m 0 x xA (.slice none 0 0) xB).toArray 131 (0,0))) (bF:TabS w S B s.tt) (aO:LgsS w S A' N) (aL:N.length=n) (H:∀ b,S b->b<w/\b≠h)
 (cA:∀ q,q<n->(N.getD q lg0).base=i) (b6:∀ q,q<n->(N.getD q lg0).state=prtS s (qh n q) first) (b0:∀ q,q<n->(N.getD q lg0).notes=[]) (aG:∀ q,q<n->(N.getD q lg0).parts=ZZ s n I q)
 (am:FolOk s n i I) (eg:I.length<=1000000) (bY:1<=n) (cr:n<=4) (bz:schF pcF s=0) (ch:StOk s 1 first) (bl:Zi first<=512) (cH:netF (schF pcF s) s 1 (ZbH I)=(0,L)) (d4:L.length<=1) (cp:Zak (schF pcF s) s 1 first (advL L)=(0,o)) :
 Calls prog 51 #[.pointer (some ⟨h,0,none⟩),.slice A' n ct] w fun e w'=>e=.returned (.bool true)/\∃ bc aZ bt bU aP aT D,w'.heap[h]?=some (.cells (hisL A n k s B m i (.slice bc first aZ) (.slice bt o bU) (.slice aP I aT) xB).toArray 131 (0,0))/\first.length<=aZ/\StS w' (fun b=>w<=b/\b<w'/\some b≠(Value.slice aP I aT).ownBlock) bc first/\o.length<=bU/\StS w' (fun b=>w<=b/\b<w'/\some b≠(Value.slice aP I aT).ownBlock) bt o/\OwnD w' w 67 5 D (.slice aP I aT) (I.map encE)/\(∀ b,D b->b≠h/\(S b\/w.heap.size<=b))/\Fr (fun b=>b=h) w w':=by
 obtain⟨dO,dI,dX,dT,dU⟩:=qA infoSt2;replace ce:=hI ce;replace bF:=hI bF;replace aO:=hI aO;replace aL:=hI aL;replace H:=hI H;replace cA:=hI cA;replace b6:=hI b6;replace b0:=hI b0;replace aG:=hI aG;replace am:=hI am;replace bz:=hI bz;replace ch:=hI ch;replace bl:=hI bl;replace cH:=hI cH;replace cp:=hI cp;go_enter func51,ntmps51
 go_wp2
 go_loopw [16] (fun aR ae=>∃ (q:Nat) (af:Int),q<=n/\aR=.int .i64 (q:Int)/\(0<=af/\af<=i)/\(0<q->af=i)/\Fr (fun b=>b=h) w ae/\ae.heap[h]?=some (.cells (hisL A n k s B m af x xA (.slice none 0 0) xB).toArray 131 (0,0))) (fun aR _=>n - (intOf aR).toNat)
 case atStart=>exact⟨0,0,qk _,rfl,⟨ya,ya⟩,fun ab=>absurd ab ya,Qa _ _,ce⟩
 obtain⟨ac,rfl⟩:∃ ac:World,ac=wr:=⟨_,rfl⟩;obtain⟨q,af,el,rfl,ee,bV,cu,cv⟩:=hrel;have b7:=hI cu;have c6:=hI cv;replace bV:=hI bV;have en:=cu.size;have cM:=Zb cv;clear cu cv;have cL:=hI (show Same S w ac from b7.same (fun b z=>H b z));rcases qv q n with dB | ei
 .obtain⟨dC,cd,bu,bG,bQ,bm,bb,aW,rfl,dx,aq,aD,aC,av,ay,aA⟩:=Ql (show LgsS ac S A' N from qU aO cL) (k:=q) (yl aL.out);have aa:=cA q dB;generalize N.getD q lg0=l at aq aD aC av ay aA aa;obtain⟨lb,cg,bL,bN,O⟩:=l;simp only at aq aD aC av ay aA aa;obtain rfl:cg=(i:Int):=aa;clear aq;obtain⟨be,aB,aF,aw,bP,bI⟩:=ag ac (.cells #[.bool lb,.int .i64 (i:Int),.slice bu bL bG,.slice bQ bN bm,.slice bb O aW] 197);replace aF:=hI aF;replace aw:=hI aw;go_upto_region 4 with fail
  rw [aF,aw];clear aD aC av ay aA;obtain⟨aJ,ao⟩:=yp be.drew;have aM:=hI (show Below ac ac aJ by rw [<-ao];exact bP.drew);have dy:=hI (show aJ.heap[aB]?=some (.cells #[.bool lb,.int .i64 (i:Int),.slice bu bL bG,.slice bQ bN bm,.slice bb O aW] 197 (0,0)) by rw [<-ao];exact bI);have bX:=hI ((aM.block h cM).trans c6);have ap:yr aJ h 4 (.int .i64 af):=Za bX 4 _ rfl;have ak:yr aJ aB 1 (.int .i64 (i:Int)):=Za dy 1 _ rfl;have aX:aJ.frozen? ⟨h,4,none⟩=false:=Zd bX;have:max af (i:Int)=(i:Int):=ya;refine uS (fun w'=>w'.cell? ⟨h,4,none⟩=some (.int .i64 af)/\w'.cell? ⟨aB,1,none⟩=some (.int .i64 (i:Int))) 10 11 fun Q' aU aH=>?_;rw [ao];clear ao;refine uR [0,8] aH ⟨ap,ak⟩ ?_;refine uQ 8 fun ai Z=>?_;go_simp;refine Z _ _ (fun _=>⟨ap,ak⟩) ?_;clear Z ai
  try simp only [Act.put,psA,psB,psC]
  refine uR [9,1] aH ⟨ap,ak⟩ ?_;refine uQ 10 fun ai Z=>?_;go_simp;refine Z _ _ nD ?_;clear Z ai;refine uE aU ?_;clear aU aH Q';have d6:=hI (show Fr (fun b=>b=h) w (aJ.setCell ⟨h,4,none⟩ (.int .i64 (i:Int))) from (b7.trans (qW (X:=fun b=>b=h) aM) (fun _ _ M=>M)).setCell _ (fun _=>rfl));have dD:=hI (show (aJ.setCell ⟨h,4,none⟩ (.int .i64 (i:Int))).heap[h]?=some (.cells (hisL A n k s B m i x xA (.slice none 0 0) xB).toArray 131 (0,0)) from Zc (k:=4) bX);clear ap ak aX
  go_wp2
  go_roundw
  case rel=>exact⟨q+1,i,ya,by go_num,⟨ya,ya⟩,fun _=>rfl,d6,dD⟩
  simp [intOf];omega
 obtain rfl:q=n:=ya;obtain rfl:af=(i:Int):=bV ya;clear bV;have dM:=run_make_stps q ya;obtain⟨w2,F,ar,bo,cf,dA⟩:=ag ac (.cells (Zk q).toArray 173);have:w2<=F+1/\F+1<=w2/\ac<=F/\F<=ac:=(by refine⟨?_,?_,ya,ya⟩<;>(rw [<-ar,<-bo];simp));have du:=hI ar;replace bo:=hI bo;clear ar;go_upto_region 7 with fail
 rw [du,bo];clear dM;obtain⟨P,dd⟩:∃ P:Nat->List Ent,P=fun j=>(N.getD j lg0).parts:=⟨_,rfl⟩;have cJ:=hI (show ∀ j,P j=(N.getD j lg0).parts from fun j=>by rw [dd]);clear dd;have de:=hI (show Grid w2 w2 175 173 2 S 1 q (fun _=>F) (fun _ _=>.slice none 0 0) (fun _ _=>.slice none 0 0) (LSf P 0 0) from (Grid.start (w:=w2) (B0:=w2) (n:=1) (T:=q) (G:=fun _=>F) (TT:=173) (e:=175) (size:=2) (S0:=S) (fun aR _=>dA) (fun aR ev em ef _=>ya) (fun aR _=>ya) (fun b z=>⟨yl ((H b z).1),fun aR _=>yl ((H b z).1)⟩) nR).congr (fun aR j dW K=>by unfold LSf;rw [qo ya];split<;>simp));have cy:=hI ((cf.block h cM).trans c6);have c7:=Zb cy
 go_wp2
 go_loopw [36] (fun aI ae=>∃ (r:Nat) (V:Nat->Nat->Value),r<=q/\aI=.int .i64 (r:Int)/\Fr (fun b=>b=F) w2 ae/\Grid ae w2 175 173 2 S 1 q (fun _=>F) V V (LSf P r 0)) (fun aI _=>q - (intOf aI).toNat)
 case atStart=>exact⟨0,_,qk _,rfl,Qa _ _,de⟩
 clear de;obtain⟨U,rfl⟩:∃ U:World,U=wr:=⟨_,rfl⟩;obtain⟨r,V,eu,rfl,b5,bD⟩:=hrel;have bj:=hI b5;replace bD:=hI bD;have d9:=b5.size;clear b5;have dY:=hI (show Same S w U from fun b z=>(bj.block b (yl ((H b z).1)) (yl ((H b z).1))).trans ((cf.block b (yl ((H b z).1))).trans (cL b z)));have b8:=hI ((bj.block h c7 ya).trans cy);rcases qv r q with an | ep
 .obtain⟨dC,cd,bu,bG,bQ,bm,bb,aW,rfl,dx,aq,aD,aC,av,ay,aA⟩:=Ql (show LgsS U S A' N from qU aO dY) (k:=r) (yl aL.out);have az:=cJ r;have aa:=aG r an;generalize N.getD r lg0=l at aq aD aC av ay aA az aa;obtain⟨lb,cg,bL,bN,O⟩:=l;simp only at aq aD aC av ay aA az aa;replace az:=hI az;replace aa:=hI aa;have dL:=hI aq.s3;clear aq;obtain⟨be,aB,aF,aw,bP,bI⟩:=ag U (.cells #[.bool lb,.int .i64 cg,.slice bu bL bG,.slice bQ bN bm,.slice bb O aW] 197);have:U<=aB/\aB<=U:=ya;replace aF:=hI aF;replace aw:=hI aw;have b2:yr be aB 4 (.slice bb O aW):=Za bI 4 _ rfl;have ej:=Zb bI;go_upto_region 10 with fail
  rw [aF,aw];clear aD aC av ay aA;have cV:=hI (bD.below bP);have dZ:=hI (bj.trans (qW (X:=fun b=>b=F) bP) (fun _ _ M=>M))
  go_wp2
  go_loopw [44] (fun aI ae=>∃ (p:Nat) (V:Nat->Nat->Value),p<=O/\aI=.int .i64 (p:Int)/\Fr (fun b=>b=F) w2 ae/\be.heap.size<=ae/\Grid ae w2 175 173 2 S 1 q (fun _=>F) V V (LSf P r p)) (fun aI _=>O.length - (intOf aI).toNat)
  case atStart=>exact⟨0,V,qk _,rfl,dZ,qp _,cV⟩
  clear b2 cV;obtain⟨aE,rfl⟩:∃ aE:World,aE=wr:=⟨_,rfl⟩;obtain⟨p,bO,et,rfl,ax,d3,bg⟩:=hrel;replace ax:=hI ax;replace bg:=hI bg;have aS:=hI (show Same S U aE from fun b z=>((ax.block b (yl ((H b z).1)) (yl ((H b z).1)))).trans (bj.block b (yl ((H b z).1)) (yl ((H b z).1))).symm);have bE:=hI ((ax.block h c7 ya).trans cy);rcases qv p O.length with cj | ek
  .obtain⟨ea,d8,ah,aj,dK,dm,dG,dk,rfl,er,bh,cZ,c8,df,c4,cU⟩:=Qh (qU dL aS) (k:=p) cj
   have dR:(i:Int)<(O.getD p ent0).co:=by
    obtain⟨W,bi,b9,cC⟩:=ZdU (s:=s) am.eok (i:=r) (q:=p) (by rw [<-aa];exact cj);rw [aa,cC,(ZcI bi b9).2];have ab:=am.eok.com W bi;show (i:Int)<(I.getD W ent0).co;omega
   have bf:=LSf_step (P:=P) (q:=r) (p:=p) (by rw [az];exact cj);rw [az] at bf;generalize O.getD p ent0=E at bh cZ c8 df c4 cU dR bf;replace bf:=hI bf;replace bh:=hI bh;obtain⟨aK,R,ck,cI,bn,cF⟩:=ag aE (.cells #[.int .i64 E.co,.int .i64 E.wn,.slice ah E.sd aj,.slice dK E.cx dm,.slice dG E.note dk] 67);have:aE<=R/\R<=aE:=ya;replace ck:=hI ck;replace cI:=hI cI;have cD:aK.heap[h]?=_:=(bn.block h (Zb bE)).trans bE;replace cD:=hI cD;have dt:yr aK R 0 (.int .i64 E.co):=Za cF 0 _ rfl;have n1:yr aK h 4 (.int .i64 (i:Int)):=Za cD 4 _ rfl;have d2:=Zb cF;go_upto_region 13 with fail
   rw [ck,cI];clear cZ c8 df c4 cU
   go_quiet (fail)
   clear dt n1;have d1:=hI (bg.below bn);obtain⟨W,au⟩:=yp ((LSf P r p 0 r).length);have:W<=O:=(by rw [<-au];exact qD LSf_len ya);have:O.length<=1000000:=(by rw [aa,ZaJ];exact qD (qI _ _) yd);replace au:=hI au;go_upto_region 14 with fail
   obtain⟨aJ,ao⟩:=yp ((aK.drewN nq).drew);have aM:=hI (show Below aK aK aJ by rw [<-ao];exact(below_drewN (qa _ _) nq).drew);have bk:=hI (d1.below aM);have ci:=hI ((aM.block _ d2).trans cF);have cc:=hI (show Below aE aE aJ from bn.trans (aM.mono bn.size));have cS:=bk.cell (i:=0) (j:=r) ya an;obtain⟨dl,dH,bR⟩:=bk.form (i:=0) (j:=r) ya an;rw [au] at bR;have dg:=hI bR;rw [bR] at cS;clear bR;obtain⟨ap,aX⟩:=cS;have ak:yr aJ R 0 (.int .i64 E.co):=Za ci 0 _ rfl;have bS:yr aJ R 2 (.slice ah E.sd aj):=Za ci 2 _ rfl;have cP:F<aJ:=(by have eh:=(bk.lo 0 ya);have eo:=bk.hi;omega);have bM:=Zb ci;have:(r:Int)<(q:Int):=ya;have dQ:=hI (show Dat.Vs aJ (Oth S aJ w2 1 q bO) (ZbU (stE E)) [.int .i64 E.co,.slice ah E.sd aj] from vals_stp bh.l1 (qZ (qU bh.s1 (qS cc (fun b z=>ym ((H b z).1) ax.size))) (fun b z=>.inl z)));have co:=hI (show ∀ g,(bO 0 r).ownBlock=some g->w2<=g/\g<aE.heap.size from fun g dF=>((bg.own 0 r ya an).lt dF));refine uS (fun w'=>w'.frozen? ⟨F,r,none⟩=false/\w'.cell? ⟨F,r,none⟩=some (.slice dl W dH)/\w'.cell? ⟨R,0,none⟩=some (.int .i64 E.co)/\w'.cell? ⟨R,2,none⟩=some (.slice ah E.sd aj)) 14 15 fun Q' aU aH=>?_;rw [ao];clear ao;refine uR [0,11] aH ⟨aX,ap,ak,bS⟩ ?_;refine uQ 11 fun ai Z=>?_;go_simp;have cN:(aJ.alloc (.cells #[.int .i64 E.co,.slice ah E.sd aj] 175)).frozen? ⟨F,r,none⟩=_:=(ZK cP).trans aX;have l2:(aJ.alloc (.cells #[.int .i64 E.co,.slice ah E.sd aj] 175)).cell? ⟨F,r,none⟩=_:=(Zh cP).trans ap;have cO:(aJ.alloc (.cells #[.int .i64 E.co,.slice ah E.sd aj] 175)).cell? ⟨R,0,none⟩=_:=(Zh bM).trans ak;have dj:(aJ.alloc (.cells #[.int .i64 E.co,.slice ah E.sd aj] 175)).cell? ⟨R,2,none⟩=_:=(Zh bM).trans bS;refine Z _ _ (fun _=>⟨cN,l2,cO,dj⟩) ?_;clear Z ai
   try simp only [Act.put,psA,psB,psC]
   refine uQ 12 fun ai dh=>?_;refine ZaG yg (.tmp 60) (.tmp 66) 173 yg 32 underlying173 dI dX dT dU rfl yf bk (i:=0) (j:=r) ya an (by rw [dg];rfl) #[.int .i64 E.co,.slice ah E.sd aj] dQ (encStp_plain _) (ZdD _) 1 yg (by rw [au];omega) (by rw [au];omega) ?_;rw [au];intro bp bT cK bJ bB;have dp:=hI bJ;have cY:=hI bB;have n2:=(bJ.cell (i:=0) (j:=r) ya an).1;rw [dg] at n2;have cm:=(bJ.cell (i:=0) (j:=r) ya an).2;have cz:=(bB.cell_far ⟨R,0,none⟩ bM (fun e=>yl ((co R e.symm).2))).trans ak;have b1:=(bB.cell_far ⟨R,2,none⟩ bM (fun e=>yl ((co R e.symm).2))).trans bS;clear bJ bB;refine dh _ _ (fun _=>⟨cm,n2,cz,b1⟩) ?_;clear dh ai
   try simp only [Act.put,psA,psB,psC]
   refine uR [13,1] aH ⟨cm,n2,cz,b1⟩ ?_;refine uQ 14 fun ai Z=>?_;go_simp;refine Z _ _ nD ?_;clear Z ai;refine uE aU ?_;clear aU aH Q';have dq:=hI (dp.store (i:=0) (j:=r) ya an (.slice (some ⟨bp,0,none⟩) (W+1) bT));have ds:=hI (show Fr (fun b=>b=F) w2 (cK.setCell ⟨F,r,none⟩ (.slice (some ⟨bp,0,none⟩) (W+1) bT)) from ((ax.trans (qW (X:=fun b=>b=F) cc) (fun _ _ M=>M)).trans (Y:=fun b=>w2<=b) (Qc cY (fun b z e=>(co b e.symm).1)) (fun b z ab=>absurd z ya)).setCell _ (fun _=>rfl));have dP:be.heap.size<=(cK.setCell ⟨F,r,none⟩ (.slice (some ⟨bp,0,none⟩) (W+1) bT)).heap.size:=(by have:=cY.size;have:=cc.size;simp;omega);clear ap ak bS aX cO dj l2 cN n2 cm cz b1
   go_wp2
   go_roundw
   case rel=>exact⟨p+1,upd bO 0 r (.slice (some ⟨bp,0,none⟩) (W+1) bT),ya,by go_num,ds,dP,dq.congr (fun aR j dW K=>by obtain rfl:aR=0:=ya;exact bf j)⟩
   simp [intOf];omega
  obtain rfl:p=O.length:=ya;have dS:=hI (bg.congr (L':=LSf P (r+1) 0) (fun aR j _ _=>LSf_next (by rw [az];exact qp _)))
  go_wp2
  go_roundw
  case rel=>exact⟨r+1,bO,ya,by go_num,ax,dS⟩
  simp [intOf];omega
 obtain rfl:r=q:=ya;have cn:∀ j,j<r->P j=ZZ s r I j:=(fun j K=>by rw [cJ,aG j K]);have cQ:∀ j,j<r->(P j).length<=1000000:=(fun j K=>by rw [cn j K,ZaJ];exact qD (qI _ _) yd);obtain⟨vs,cx,cG⟩:=bD.row (i:=0) ya (fun j K=>by unfold LSf;rw [qr K,Ze (n:=32) ZeZ,qg];have:=cQ j K;omega) (S':=fun b=>b<U) (fun b z=>by rcases z with z | z;have:=(H b z).1;omega;exact z.2)
 have c3:((List.range r).map fun j=>Dat.slice (LSf P r 0 0 j))=(Zdu r I).map Zkz:=by
  unfold Zdu;rw [List.map_map];refine List.map_congr_left (fun j K=>?_);have K:=List.mem_range.1 K;unfold LSf;rw [qr K,cn j K,stmps_parts];rfl
 rw [c3] at cG;have d5:=hI (logs_of (Qb (A:=some ⟨F,0,none⟩) (by rw [Ze (n:=24) (fun _=>rfl),ZbA];omega) cG (fun _=>⟨F,0,rfl,Zb cx,fun j u dV=>Za cx j u dV⟩)));clear c3 cG cx cQ cn;obtain⟨bw,ar⟩:=am.eok.whole bY cr;replace ar:=hI ar;replace bw:=hI bw;have aV:=Cut.Whole_any (some ⟨F,0,none⟩) r (Zdu r I) (i:Int) (fun b=>b<U) U d5 (fun b z=>z);rw [ZbA] at aV;replace aV:=hI aV;have b2:yr U h 4 (.int .i64 (i:Int)):=Za b8 4 _ rfl;have d0:=Zb b8
 go_wp2_with fail
 refine aV.mono ?_;rintro e aE ⟨d7,rfl,cT,-,cE⟩;rw [bw];have cq:=Cut.isLast_unique (cT bw).1 ar;replace cq:=hI cq;have dc:=hI cE;have d3:=cE.size;clear cT cE b2 aV;have cW:=hI (show Fr (fun b=>b=h) w aE from (((b7.trans (qW (X:=fun b=>b=h) cf) (fun _ _ M=>M)).trans bj (fun b z M=>ya)).trans (qW (X:=fun b=>b=h) dc) (fun _ _ M=>M)));have bE:=hI ((dc.block h d0).trans b8);have aS:=hI (show Same S w aE from cW.same (fun b z=>H b z))
 have c5:=hI (found_any h ct bE (qU bF aS) (qU aO aS) aL (fun b z=>⟨yl ((H b z).1),(H b z).2⟩) b6 b0 (fun j K br cX=>by
  rw [aG j K] at cX ⊢;obtain⟨W,bi,b9,cC⟩:=ZdU (s:=s) am.eok (i:=j) (q:=br) cX;rw [cC,(ZcI bi b9).2];have ab:=am.eok.com W bi;show (i:Int)<(I.getD W ent0).co;omega) (fun j K=>by rw [aG j K,ZaJ];exact qD (qI _ _) yd) bY cr bz ch bl)
 go_wp2_with fail
 refine c5.mono ?_;rintro e bW ⟨rfl,bc,aZ,b3,dz,bC,ca⟩;replace b3:=hI b3;replace bC:=hI bC;have c9:=hI ca;have ec:=ca.size;clear ca c5;have da:=hI (show Same S aE bW from c9.same (fun b z=>⟨yl ((H b z).1),(H b z).2⟩));have di:=hI (show ∀ b,S b->S b\/(aE<=b/\b<bW) from fun b z=>.inl z);have cR:=hI (follow_any h A k B xA xB bc aZ o L A' ct N d7 b3 (qZ (qU (qU bF aS) da) di) (qZ bC (fun b z=>.inr z)) (qZ (qU (qU aO aS) da) di) aL (fun b z=>by rcases z with z | z;exact⟨yl ((H b z).1),(H b z).2⟩;exact⟨z.2,yl z.1⟩) am cq aG bY cr bz bl cH d4 cp)
 go_wp2_with fail
 refine cR.mono ?_;rintro e dE ⟨rfl,bt,bU,aP,aT,D,b4,dw,bZ,bH,bq,cw⟩;replace b4:=hI b4;replace bZ:=hI bZ;replace bH:=hI bH;replace bq:=hI bq;have db:=hI cw;have eb:=cw.size;clear cw cR
 go_wp2_with fail
 have dN:Fr (fun b=>b=h) w dE:=(cW.trans c9 (fun _ _ M=>M)).trans db (fun _ _ M=>M);refine qw (v:=.bool true) (by simp [results,results51,go_sem]) rfl ⟨rfl,bc,aZ,bt,bU,aP,aT,D,b4,dz,?_,dw,?_,?_,fun b z=>⟨(bq b z).1,?_⟩,dN⟩
 .exact qZ (qU bC (fun b z=>db.block b z.2 (yl z.1))) (fun b z=>⟨yl z.1,yl z.2,fun M=>ym ((bH.base_le M.symm).1) z.2⟩)
 .exact qZ bZ (fun b z=>⟨yl z.1,z.2.1,z.2.2⟩)
 .obtain⟨vals,cd,dJ,dv⟩:=bH.out;exact⟨vals,Zcw cd ya,dJ,dv⟩
 rcases(bq b z).2 with ab | ab
 .rcases ab with ab | ab
  .exact .inl ab
  exact .inr (yl ab.1)
 exact .inr ya
theorem raise_any (h:Nat) {aI:Value} (ao:Nat) {E:List Lg}  
 (aa:w.heap[h]?=some (.cells (hisL A n k s B m i x xA xB aI).toArray 131 (0,0))) (R:LgsS w S A' E) (W:E.length=n) (ac:∀ b,S b->b<w) (L:∀ q,q<n->(E.getD q lg0).base=i) (aO:n<=4) :
 Calls prog 115 #[.pointer (some ⟨h,0,none⟩),.slice A' n ao] w fun e w'=>e=.returned (.int .i64 0)/\Below w w w':=by
 have aK:=hI aa;replace R:=hI R;replace W:=hI W;replace ac:=hI ac;replace L:=hI L;have aq:=Zb aa;clear aa;go_enter func115,ntmps115
 go_wp2
 go_loopw [5,18] (fun o H ak=>∃ (q:Nat),q<=n/\H=.int .i64 (q:Int)/\o=.slice none 0 0/\Below w w ak) (fun _ H _=>n - (intOf H).toNat)
 case atStart=>exact⟨0,qk _,rfl,rfl,qa _ _⟩
 obtain⟨z,rfl⟩:∃ z:World,z=wr:=⟨_,rfl⟩;obtain⟨q,aR,rfl,rfl,ae⟩:=hrel;have F:=hI ae;have ax:=ae.size;clear ae;rcases qv q n with an | aP
 .obtain⟨aQ,aS,aD,aw,aN,am,aC,ap,rfl,aT,af,N,I,ab,M,O⟩:=Ql (show LgsS z S A' E from qU R (qS F ac)) (k:=q) (yl W.out);have U:=L q an;generalize E.getD q lg0=l at af N I ab M O U;obtain⟨lb,aG,ay,aH,aL⟩:=l;simp only at af N I ab M O U;obtain rfl:aG=(i:Int):=U;clear af;obtain⟨aj,K,Z,ah,ai,ar⟩:=ag z (.cells #[.bool lb,.int .i64 (i:Int),.slice aD ay aw,.slice aN aH am,.slice aC aL ap] 197);have:z<=K/\K<=z:=ya;replace Z:=hI Z;replace ah:=hI ah;have aA:=hI ((ai.block h ya).trans ((F.block h aq).trans aK));have aM:yr aj K 1 (.int .i64 (i:Int)):=Za ar 1 _ rfl;have aF:yr aj h 4 (.int .i64 (i:Int)):=Za aA 4 _ rfl;go_upto_region 5 with fail
  rw [Z,ah];clear N I ab M O
  go_quiet (fail)
  clear aM aF
  go_wp2
  go_roundw
  case rel=>exact⟨q+1,ya,by go_num,rfl,below_drewN (F.trans (ai.mono ax)) _⟩
  simp [intOf];omega
 obtain rfl:q=n:=by omega
 go_wp2
 exact qw (v:=.int .i64 0) (by simp [results,results115,go_sem]) rfl ⟨rfl,F⟩
theorem mend_any (h:Nat) (br:Nat) {ao:List Lg} {J:Nat->Nat} {V2:Nat->Value} {SJ:Nat->Nat->Prop} {N:Nat->List (List Int)}  
 (aB:w.heap[h]?=some (.cells (hisL (some ⟨m,i,none⟩) n j s A b c x xA (.slice B d e) xB).toArray 131 (0,0))) (an:LgsS w S A' ao) (aj:ao.length=n) (Z:∀ am,S am->am<w) (aq:∀ q,q<n->(ao.getD q lg0).base=c) (bZ:n<=4)
 (ab:∀ aL,aL<n->yr w m (i+aL) (.pointer (some ⟨J aL,0,none⟩))) (aA:JrsM w k n J F V2 SJ N) (cd:c+d<=1000000000000)
 (aR:∀ q,q<n->∀ p ∈ (ao.getD q lg0).parts,p.co<=(c:Int)+d) (aV:∀ q,q<n->(N q).length=(if (ao.getD q lg0).based then 1 else 0)+(ao.getD q lg0).parts.length/\(N q).length<=1000000) :
 Calls prog 52 #[.pointer (some ⟨h,0,none⟩),.slice A' n br] w fun ar w'=>ar=.returned (.int .i64 0)/\Below w w w':=by
 have aS:=hI aB;replace an:=hI an;replace aj:=hI aj;replace Z:=hI Z;replace aq:=hI aq;replace ab:=hI ab;replace aA:=hI aA;replace aR:=hI aR;replace aV:=hI aV;have av:=Zb aB;clear aB;go_enter func52,ntmps52
 go_wp2
 go_loopw [13] (fun bf au=>∃ (q:Nat),q<=n/\bf=.int .i64 (q:Int)/\Below w w au) (fun bf _=>n - (intOf bf).toNat)
 case atStart=>exact⟨0,qk _,rfl,qa _ _⟩
 obtain⟨M,rfl⟩:∃ M:World,M=wr:=⟨_,rfl⟩;obtain⟨q,ch,rfl,aU⟩:=hrel;have ae:=hI aU;have bw:=aU.size;clear aU;rcases qv q n with K | cc
 .obtain⟨b8,ca,bI,bO,bY,bD,bm,be,rfl,b7,ai,aP,aO,ay,aJ,aN⟩:=Ql (show LgsS M S A' ao from qU an (qS ae Z)) (k:=q) (yl aj.out);have aK:=aq q K;have ah:=aR q K;have L:=aV q K;generalize ao.getD q lg0=l at ai aP aO ay aJ aN aK ah L;obtain⟨lb,bS,bV,bX,z⟩:=l;simp only at ai aP aO ay aJ aN aK;obtain rfl:bS=(c:Int):=aK;replace ai:=hI ai;obtain⟨bq,ap,aQ,az,aM,aF⟩:=ag M (.cells #[.bool lb,.int .i64 (c:Int),.slice bI bV bO,.slice bY bX bD,.slice bm z be] 197);have:M<=ap/\ap<=M:=ya;have ce:=Zb aF;have bW:=aM.size;replace aQ:=hI aQ;replace az:=hI az;simp only at ah L;replace ah:=hI ah;replace L:=hI L;have:z.length<=1000000:=(yl L.out);have bK:yr bq ap 0 (.bool lb):=Za aF 0 _ rfl;go_upto_region 5 with fail
  rw [aQ,az];clear aP aO ay aJ aN;go_upto_if 19 with fail
  go_cut [7] from 19 to 21 (fun v bF=>v=.int .i64 (((if lb then 1 else 0:Nat):Nat):Int)/\bF=bq)
  case first =>
   cases lb
   .go_wp2
    go_meet;exact⟨rfl,rfl⟩
   go_wp2
   go_meet;exact⟨rfl,rfl⟩
  obtain⟨rfl,rfl⟩:=hcut;clear bK;obtain⟨I,ak⟩:=yp ((if lb then 1 else 0:Nat));have:I<=1:=(by rw [<-ak];split<;>omega);have aH:(N q).length=I+z.length:=(by rw [<-ak];exact L.1);rw [ak];replace aH:=hI aH;clear ak;have bL:yr wc ap 4 (.slice bm z be):=Za aF 4 _ rfl
  go_wp2
  go_loopw [7,25] (fun b1 aY au=>∃ (p:Nat),p<=z/\aY=.int .i64 (p:Int)/\b1=.int .i64 ((I+p:Nat):Int)/\Below wc wc au) (fun _ aY _=>z.length - (intOf aY).toNat)
  case atStart=>exact⟨0,qk _,rfl,rfl,qa _ _⟩
  obtain⟨E,rfl⟩:∃ E:World,E=wr:=⟨_,rfl⟩;obtain⟨p,cj,rfl,rfl,aD⟩:=hrel;clear bL;have aI:=hI aD;have bJ:=aD.size;clear aD;have W:=hI (show Below w w E from (ae.trans (aM.mono bw)).trans (aI.mono ya));rcases qv p z.length with bk | cg
  .obtain⟨b9,b6,bP,b3,bQ,bE,bN,bC,rfl,ci,-,bg,bo,bu,bj,bc⟩:=Qh (ai.s3.keep (qS (aM.trans (aI.mono bW)) (fun am aw=>yl (Z am aw)))) (k:=p) bk;have bi:=ah _ (ZbG (d:=ent0) bk);generalize z.getD p ent0=H at bg bo bu bj bc bi;obtain⟨bH,ac,aG,aX,aZ,b5⟩:=ag E (.cells #[.int .i64 H.co,.int .i64 H.wn,.slice bP H.sd b3,.slice bQ H.cx bE,.slice bN H.note bC] 67);have:E<=ac/\ac<=E:=ya;replace aG:=hI aG;replace aX:=hI aX;have af:=hI ((aZ.block h ya).trans ((W.block h av).trans aS));go_upto_region 10 with fail
   rw [aG,aX];clear bg bo bu bj bc;obtain⟨R,U⟩:=yp bH.drew;have bM:=hI (show Below E E R by rw [<-U];exact aZ.drew);have ax:R.cell? ⟨ac,0,none⟩=some (.int .i64 H.co):=(by rw [<-U];exact Za b5 0 _ rfl);have n1:R.cell? ⟨h,4,none⟩=some (.int .i64 (c:Int)):=(by rw [<-U];exact Za af 4 _ rfl);have n2:R.cell? ⟨h,7,none⟩=some (.slice B d e):=(by rw [<-U];exact Za af 7 _ rfl);have hd:decide (H.co<=(c:Int)+(d:Int))=true:=qt bi;obtain⟨ck,bn⟩:=yp ((c:Int)+(d:Int));have aE:=hI (Zcn n1 n2 ⟨ya,ya⟩);rw [bn] at hd aE;clear bn;refine uS (fun w'=>w'.cell? ⟨ac,0,none⟩=some (.int .i64 H.co)) 5 5 fun Q' ba aW=>?_;rw [U];clear U;refine uR [0,3] aW ax ?_;refine uQ 3 fun b0 bh=>?_;go_simp;refine aE.mono ?_;rintro ar bT ⟨rfl,b2,rfl⟩;have bt:yr (R.drewN b2) ac 0 (.int .i64 H.co):=ax;refine bh _ _ (fun _=>bt) ?_;clear bh b0
   try simp only [Act.put,psA,psB,psC]
   refine uR [4,1] aW bt ?_;refine uE ba ?_;clear ba aW Q';clear ax n1 n2 aE;have:IntKind.i64.wrap (((I+p:Nat):Int)+1)=((I+(p+1):Nat):Int):=by rw [IntKind.wrap_i64];omega
   go_wp2
   go_roundw
   case rel=>exact⟨p+1,ya,by go_num,rfl,below_drewN (aI.trans (bM.mono bJ)) _⟩
   simp [intOf];omega
  obtain rfl:p=z.length:=ya;have af:=hI ((W.block h av).trans aS);have cf:=Zb af;have:yr E h 0 (.slice (some ⟨m,i,none⟩) n j):=Za af 0 _ rfl;have:yr E m (i+q) (.pointer (some ⟨J q,0,none⟩)):=c9Q W (World.block_lt_of_cell? w _ (ab q K)) (ab q K);have:m<E:=(by have:m<w:=World.block_lt_of_cell? w _ (ab q K);have:=W.size;omega);have:(q:Int)<(n:Int):=ya;have bl:=hI (jlen_any ((aA.below W nR).one q K) L.2);obtain⟨aT,aC⟩:=yp ((N q).length);have bG:aT<=I+z.length:=(by rw [<-aC];exact Nat.le_of_eq aH);rw [aC] at bl;clear aC;have hd:decide (((I+z.length:Nat):Int)<(aT:Int))=false:=qe ya;obtain⟨bU,bz⟩:=yp (I+z.length);rw [bz] at hd ⊢;have:¬ (bU<aT):=ya;clear bz bG
  go_wp2_with fail
  refine bl.mono ?_;rintro ar bT ⟨rfl,rfl⟩
  go_wp2
  go_roundw
  case rel=>exact⟨q+1,ya,by go_num,W⟩
  simp [intOf];omega
 obtain rfl:q=n:=ya;have b4:=hI (raise_any h br ((ae.block h av).trans aS) (qU an (qS ae Z)) aj (fun am aw=>yl (Z am aw)) aq bZ)
 go_wp2_with fail
 refine b4.mono ?_;rintro ar w2 ⟨rfl,bR⟩
 go_wp2
 exact qw (v:=.int .i64 0) (by simp [results,results52,go_sem]) rfl ⟨rfl,ae.trans (bR.mono bw)⟩
structure Hist where
 base:Nat
 first:St
 final:St
 es:List Ent
 nts:List Ent
 recs:Nat->List (List Int)
structure HisA where
 gJ:Nat
 oJ:Nat
 cJ:Nat
 As:Option Addr
 cs:Nat
 Af:Option Addr
 cf:Nat
 Ag:Option Addr
 cg:Nat
 AE:Option Addr
 cE:Nat
 AN:Option Addr
 cN:Nat
 J:Nat->Nat
 V1:Nat->Value
 V2:Nat->Value
 SJ:Nat->Nat->Prop
 D:Nat->Prop
def HisX (h:Nat) (a:HisA) (n m:Nat):Nat->Prop:=fun b=>b=h\/(Value.slice a.AE m a.cE).ownBlock=some b\/JrsX n a.J a.V1 a.V2 b
structure HisM (w:World) (h d:Nat) (s:Sch) (n:Nat) (H:Hist) (a:HisA):Prop where
 blk:w.heap[h]?=some (.cells (hisL (some ⟨a.gJ,a.oJ,none⟩) n a.cJ s a.As a.cs H.base (.slice a.Af H.first a.cf) (.slice a.Ag H.final a.cg) (.slice a.AE H.es a.cE) (.slice a.AN H.nts a.cN)).toArray 131 (0,0))
 tab:TabS w a.D a.As s.tt
 fst:StS w a.D a.Af H.first
 fcap:H.first.length<=a.cf
 fin:StS w a.D a.Ag H.final
 gcap:H.final.length<=a.cg
 ent:OwnD w 0 67 5 a.D (.slice a.AE H.es a.cE) (H.es.map encE)
 nts:EntsS w a.D a.AN H.nts
 ncap:H.nts.length<=a.cN
 nine:H.nts.length=9
 jptr:∀ k,k<n->w.cell? ⟨a.gJ,a.oJ+k,none⟩=some (.pointer (some ⟨a.J k,0,none⟩))
 jblk:a.D a.gJ
 jrs:JrsM w d n a.J a.V1 a.V2 a.SJ H.recs
 dx:∀ b,a.D b->b<w/\¬ HisX h a n H.es.length b
 hx:¬ JrsX n a.J a.V1 a.V2 h
 ex:∀ g,(Value.slice a.AE H.es a.cE).ownBlock=some g->g≠h/\¬ JrsX n a.J a.V1 a.V2 g
 sx:∀ k,k<n->∀ b,a.SJ k b->b≠h/\(Value.slice a.AE H.es a.cE).ownBlock≠some b
section
variable {w w':World} {h d n:Nat} {s:Sch} {H:Hist} {a:HisA}
theorem HisM.lt (z:HisM w h d s n H a):h<w:=Zb z.blk
theorem HisM.xlt (E:HisM w h d s n H a):∀ b,HisX h a n H.es b->b<w:=fun b z=>by
 rcases z with rfl | z | ⟨k,F,z⟩
 .exact E.lt
 .exact(E.ent.base_le z).2
 exact(E.jrs.one k F).xlt b z
def HisB (h:Nat) (a:HisA) (n m:Nat):Nat->Prop:=fun b=>HisX h a n m b\/a.D b\/∃ k,k<n/\a.SJ k b
theorem HisM.blt (E:HisM w h d s n H a):∀ b,HisB h a n H.es b->b<w:=fun b z=>by
 rcases z with z | z | ⟨k,F,z⟩
 .exact E.xlt b z
 .exact(E.dx b z).1
 exact((E.jrs.one k F).own1.sub b z).1
theorem HisM.keep (z:HisM w h d s n H a) (L:w.heap.size<=w') (F:∀ b,HisB h a n H.es b->w'.heap[b]?=w.heap[b]?):HisM w' h d s n H a:=by
 have I:Same a.D w w':=fun b E=>F b (.inr (.inl E))
 exact⟨(F h (.inl (.inl rfl))).trans z.blk,qU z.tab I,qU z.fst I,z.fcap,qU z.fin I,z.gcap,z.ent.keep L I (fun g M=>F g (.inl (.inr (.inl M)))),qU z.nts I,z.ncap,z.nine,
  fun k K=>(ql (F _ (.inr (.inl z.jblk)))).trans (z.jptr k K),z.jblk,z.jrs.keep L (fun k b K E=>F b (by rcases E with E | E;exact .inl (.inr (.inr ⟨k,K,E⟩));exact .inr (.inr ⟨k,K,E⟩))),fun b E=>⟨yl ((z.dx b E).1),(z.dx b E).2⟩,z.hx,z.ex,z.sx⟩
theorem HisM.below {B:Nat} (z:HisM w h d s n H a) (E:Below B w w') (I:w<=B):HisM w' h d s n H a:=z.keep E.size (fun b F=>E.block b (yl (z.blt b F)))
end
def Zdy (s:Sch) (n:Nat) (es:List Ent) (i:Nat):List Prt:=(es.filter (inSh i)).map fun e=>(e,prtI s n i e)
def Zcu (s:Sch) (n:Nat) (es:List Ent) (i:Nat):List (List Int):=(Zdy s n es i).map fun p=>ZbL p.1 i n p.2
theorem prtsI_parts:prtE (k:Int) (n:Int) (Zdy s n I k)=ZZ s n I k:=by
 unfold prtE Zdy ZZ;rw [List.map_map];rfl
theorem ZhO:(Zdy s n I k).length=(ZZ s n I k).length:=by
 unfold Zdy ZZ;rw [qg,qg]
theorem ZdQ:(Zcu s n I k).length=(ZZ s n I k).length:=by
 unfold Zcu;rw [qg,ZhO]
def lgI (s:Sch) (n:Nat) (es:List Ent) (st:St) (i:Nat):Lg:=⟨false,0,prtS s (qh n i) st,[],ZZ s n es i⟩
theorem foldC_parts {ae:Value} {st:St}  
 (aa:w.heap[n]?=some (.cells (hisL A k i s B j a x xA xB ae).toArray 131 (0,0))) (am:TabS w S B s.tt) (aj:∀ b,S b->b<w) (ac:FoldOk s m k 0 (Zdy s k I m)) (aw:m<k) :
 FoldC n (Zcu s k I m) ((Zar s k st).getD m []) (lgI s k I st m) m w:=by
 intro z y L au O K T E af ay aB R U ax aq;have ak:BysS E (fun b=>b<E) L ((Zdy s k I m).map fun p=>ZbL p.1 m k p.2):=aB;have ap:=fold_any z y au false O ((Zar s k st).getD m []).length K none 0 0 ((af.block _ (Zb aa)).trans aa) (qZ (qU am (qS af aj)) (fun b a=>ym (aj b a) af.size)) (fun b a=>a) ak ac ax aq;have aA:(Zcu s k I m).length=(Zdy s k I m).length:=(by unfold Zcu;rw [qg]);rw [aA];refine ap.mono ?_;rintro f w' ⟨az,ar,rfl,Z,ah⟩;rw [prtsI_parts] at Z;have ao:(Zar s k st).getD m []=prtS s (qh k m) st:=(by simp [Zar,List.getD,aw]);have ai:=ZhO (s:=s) (n:=k) (I:=I) (k:=m);have aC:=ac.few;obtain⟨-,F,av⟩:=Z.slice (S':=fun b=>T b\/(E<=b/\b<w')) (by rw [Ze (n:=88) (fun _=>rfl),<-ai];omega) (fun b a=>.inr ⟨a.1,a.2.1⟩) (fun g an F _=>.inr ⟨an,F⟩);rw [ao] at R U ⊢;rw [ai] at F ⊢;exact⟨O,K,none,0,az,ar,rfl,⟨U,qZ (qU R (qS ah ay)) (fun b a=>.inl a),qp _,Qd,F,av⟩,ah⟩
def zEntL:List Value:=[.int .i64 0,.int .i64 0,.slice none 0 0,.slice none 0 0,.slice none 0 0]
def zE9:Array Value:=madeCells zEntL.toArray 45
theorem zE9_list:zE9.toList=(List.replicate 9 zEntL).flatten:=by kernel_rfl
theorem Zif:∀ m,Dat.Va w S ((List.replicate m ent0).map encE) (List.replicate m zEntL).flatten
 | 0=>by unfold Dat.Va;rfl
 | m+1=>by
  rw [List.replicate_succ,List.replicate_succ,qL,List.flatten_cons];exact Zu (Zw (EntV.vals (e:=ent0) ⟨qp _,Qd,qp _,Qd,qp _,Qd⟩)) (Zif m)
theorem notes_zero (h:w.heap[n]?=some (.cells zE9 67 (0,0))) (E:S n):EntsS w S (some ⟨n,0,none⟩) (List.replicate 9 ent0) :=
 Qb (by rw [Ze (n:=88) (fun _=>rfl)];simp) (Zif 9) (fun _=>⟨n,0,rfl,E,fun j u z=>Za h j u (by rw [zE9_list];exact z)⟩)
theorem run_make_notes (w:World):(Instr.makeSlice 73 (.int .i64 9) (.int .i64 9)).run prog w=.ok (.slice (some ⟨w,0,none⟩) 9 9) (w.alloc (.cells zE9 67)):=by
 obtain⟨E,K,H,I,F⟩:=qA ZkL;have z:=run_make (P:=prog) w 73 67 E _ underlying73 K H .i64 .i64 9 9 yf yf (by rw [F];decide) yf;rw [I] at z;exact z
theorem infoPJ:(prog.info? 132).map (fun i=>(i.zero,i.size,i.bytes))=some (some (.pointer none),1,8):=by kernel_rfl
def ZcT (j:Nat):Dat:=.lit (.pointer (some ⟨j,0,none⟩))
theorem JrnM.typX {w:World} {j d i ne:Nat} {V1 V2:Value} {S:Nat->Prop} {z:List (List Int)} (h:JrnM w j d i V1 V2 S z ne) {b:Nat} (F:JrnX j V1 V2 b):Typ w b 192\/Typ w b 22\/Typ w b 3:=by
 rcases F with rfl | e | e
 .exact .inl h.typ
 .exact .inr (.inl (h.own1.typ e))
 obtain⟨es,_,E⟩:=h.own2;exact .inr (.inr (Typ.own E e))
structure OpnR (wH wi:World) (h d:Nat) (s:Sch) (As:Option Addr) (cs:Nat) (V8:Value) (recs:Nat->List (List Int)) (q:Nat) (AJ:Option Addr) (cJ:Nat) (J:Nat->Nat) (V1 V2:Nat->Value) (SJ:Nat->Nat->Prop):Prop where
 fr:Fr (fun b=>b=h) wH wi
 hh:wi.heap[h]?=some (.cells (hisL AJ q cJ s As cs 0 (.slice none 0 0) (.slice none 0 0) (.slice none 0 0) V8).toArray 131 (0,0))
 own:OwnD wi wH 132 1 (fun _=>False) (.slice AJ q cJ) ((List.range q).map fun k=>ZcT (J k))
 jrs:JrsM wi d q J V1 V2 SJ recs
 lo:∀ k,k<q->∀ b,JrnX (J k) (V1 k) (V2 k) b\/SJ k b->wH.heap.size<=b
 sj:∀ k,k<q->∀ b,SJ k b->(Value.slice AJ q cJ).ownBlock≠some b
theorem OpnR.jx {U K:World} {h d:Nat} {s:Sch} {O:Option Addr} {cs:Nat} {N:Value} {R:Nat->List (List Int)} {q:Nat} {M:Option Addr} {L:Nat} {J:Nat->Nat} {V1 V2:Nat->Value} {SJ:Nat->Nat->Prop} (F:OpnR U K h d s O cs N R q M L J V1 V2 SJ) {k b:Nat} (H:k<q) (z:JrnX (J k) (V1 k) (V2 k) b\/SJ k b):b<K/\(Value.slice M q L).ownBlock≠some b:=by
 rcases z with z | z
 .refine⟨(F.jrs.one k H).xlt b z,fun e=>?_⟩;have I:=F.own.typ e;rcases(F.jrs.one k H).typX z with E | E | E
  .exact I.ne E yf rfl
  .exact I.ne E yf rfl
  exact I.ne E yf rfl
 exact⟨((F.jrs.one k H).own1.sub b z).1,F.sj k H b z⟩
theorem OpnR.next {ac K ae aa:World} {h d:Nat} {s:Sch} {ao:Option Addr} {cs:Nat} {ap:Value} {ah:Nat->List (List Int)} {q:Nat} {af:Option Addr} {aj:Nat} {J:Nat->Nat} {V1 V2:Nat->Value} {SJ:Nat->Nat->Prop} {j g c:Nat} {O U:Value} {S':Nat->Prop}
 (F:OpnR ac K h d s ao cs ap ah q af aj J V1 V2 SJ) (aB:h<ac) (ak:JrnM ae j d q O U S' (ah q) (ah q).length) (an:Below K K ae) (ai:∀ b,JrnX j O U b->K<=b) (am:∀ b,S' b->K<=b)
 (W:Fr (fun b=>b=h\/(Value.slice af q aj).ownBlock=some b) ae aa) (I:(Value.slice af q aj).ownBlock=some g\/ae.heap.size<=g) (au:OwnD aa ac 132 1 (fun _=>False) (.slice (some ⟨g,0,none⟩) (q+1) c) (((List.range q).map fun k=>ZcT (J k))++[ZcT j]))
 (ax:aa.heap[h]?=some (.cells (hisL (some ⟨g,0,none⟩) (q+1) c s ao cs 0 (.slice none 0 0) (.slice none 0 0) (.slice none 0 0) ap).toArray 131 (0,0))) :
 OpnR ac aa h d s ao cs ap ah (q+1) (some ⟨g,0,none⟩) c (updF J q j) (updF V1 q O) (updF V2 q U) (updF SJ q S'):=by
 have aA:=F.fr.size;have az:=an.size
 have L:∀ k,k<q->updF J q j k=J k/\updF V1 q O k=V1 k/\updF V2 q U k=V2 k/\updF SJ q S' k=SJ k:=fun k N=>by
  unfold updF;simp only [qo (show ¬ k=q by omega)];exact⟨trivial,trivial,trivial,trivial⟩
 have R:updF J q j q=j/\updF V1 q O q=O/\updF V2 q U q=U/\updF SJ q S' q=S':=(by unfold updF;simp);have aq:∀ b,(Value.slice af q aj).ownBlock=some b->b<K:=fun b e=>(F.own.base_le e).2
 have av:Fr (fun b=>b=h) ac aa:=by
  refine((F.fr.trans (qW (X:=fun b=>b=h) an) (fun _ _ e=>e))).trans W (fun b z e=>?_);rcases e with e | e
  .exact e
  have:=(F.own.base_le e).1;omega
 have ay:∀ b,(Value.slice (some ⟨g,0,none⟩) (q+1) c).ownBlock=some b->b=g:=(fun b e=>by simpa [Value.ownBlock] using e.symm);refine⟨av,ax,?_,⟨fun k N=>?_,fun k m N aC ar b z=>?_⟩,fun k N b z=>?_,fun k N b z e=>?_⟩
 .rw [List.range_succ,qm,List.map_singleton,R.1];rw [show ((List.range q).map fun k=>ZcT (updF J q j k))=(List.range q).map fun k=>ZcT (J k) from List.map_congr_left fun k N=>by rw [(L k (List.mem_range.1 N)).1]];exact au
 .rcases qv k q with E | E
  .obtain⟨a1,a2,a3,a4⟩:=L k E;rw [a1,a2,a3,a4];refine(F.jrs.one k E).keep (yl W.size) (fun b z=>?_);have M:=F.jx E z;exact(W.block b ya (fun e=>by rcases e with e | e;have:=F.lo k E b z;omega;exact M.2 e)).trans (an.block b M.1)
  obtain rfl:k=q:=ya;obtain⟨a1,a2,a3,a4⟩:=R;rw [a1,a2,a3,a4];refine ak.keep W.size (fun b z=>W.block b ?_ (fun e=>?_))
  .rcases z with z | z
   .exact ak.xlt b z
   exact(ak.own1.sub b z).1
  have H:K<=b:=(by rcases z with z | z;exact ai b z;exact am b z);rcases e with e | e
  .omega
  have:=aq b e;omega
 .rcases qv k q with E | E
  .obtain⟨a1,a2,a3,a4⟩:=L k E;rw [a1,a2,a3] at z;have M:=F.jx E (.inl z);rcases qv m q with H | H
   .obtain⟨c1,c2,Z,ab⟩:=L m H;rw [c1,c2,Z,ab];exact F.jrs.inj k m E H ar b z
   obtain rfl:m=q:=ya;obtain⟨c1,c2,Z,ab⟩:=R;rw [c1,c2,Z,ab];exact⟨fun e=>yl (ai b e),fun e=>yl (am b e)⟩
  obtain rfl:k=q:=ya;obtain⟨a1,a2,a3,a4⟩:=R;rw [a1,a2,a3] at z;have M:=ai b z;have H:m<k:=ya;obtain⟨c1,c2,Z,ab⟩:=L m H;rw [c1,c2,Z,ab];exact⟨fun e=>yl ((F.jx H (.inl e)).1),fun e=>yl ((F.jx H (.inr e)).1)⟩
 .rcases qv k q with E | E
  .obtain⟨a1,a2,a3,a4⟩:=L k E;rw [a1,a2,a3,a4] at z;exact F.lo k E b z
  obtain rfl:k=q:=ya;obtain⟨a1,a2,a3,a4⟩:=R;rw [a1,a2,a3,a4] at z;rcases z with z | z
  .have:=ai b z;omega
  have:=am b z;omega
 have aw:=ay b e;subst aw;rcases qv k q with E | E
 .obtain⟨a1,a2,a3,a4⟩:=L k E;rw [a4] at z;have M:=F.jx E (.inr z);rcases I with I | I
  .exact M.2 I
  omega
 obtain rfl:k=q:=ya;rw [R.2.2.2] at z;have M:=am b z;have H:=(ak.own1.sub b z).1;rcases I with I | I
 .have:=aq b I;omega
 omega
theorem open_err1 (s:Sch) (H:Option Addr) (F:Nat) (E:Option Addr) (I:Nat) (st:St) (L:a<1\/4<a) :
 Calls prog 14 #[.pointer (some ⟨n,0,none⟩),sAgg s.vv H s.tt F,.int .i64 a,ZaM E st I] w fun e w'=>e=.returned (.tuple #[.pointer none,.int .i64 1])/\Below w w w':=by
 have z:Below w w ((w.alloc (.cells #[.int .i64 s.vv,.slice H s.tt F] 25)).alloc (.cells #[.slice E st I] 28)):=((qa _ w).alloc nR _).alloc yb _;replace z:=hI z
 by_cases K:a<1
 .go_enter func14,ntmps14
  go_wp2
  exact qw (v:=.tuple #[.pointer none,.int .i64 1]) (by simp [results,results14,go_sem]) rfl ⟨rfl,z⟩
 have:decide (4<a)=true:=qt ya;go_enter func14,ntmps14
 go_wp2
 exact qw (v:=.tuple #[.pointer none,.int .i64 1]) (by simp [results,results14,go_sem]) rfl ⟨rfl,z⟩
theorem open_err2 (s:Sch) (I:Nat) (L:Nat) {st:St} (aj:1<=a) (ah:a<=4) (W:TabS w S A s.tt) (U:StS w S B st) (M:∀ b,S b->b<w) (ab:Zi st<=4611686018427387904) (N:Zv (schF pcF s) s 1 st≠0) :
 Calls prog 14 #[.pointer (some ⟨n,0,none⟩),sAgg s.vv A s.tt I,.int .i64 a,ZaM B st L] w fun e w'=>e=.returned (.tuple #[.pointer none,.int .i64 (Zv (schF pcF s) s 1 st)])/\Below w w w':=by
 obtain⟨w0,H⟩:=yp ((w.alloc (.cells #[.int .i64 s.vv,.slice A s.tt I] 25)).alloc (.cells #[.slice B st L] 28));have z:Below w w w0:=(by rw [<-H];exact((qa _ w).alloc nR _).alloc yb _);obtain⟨x,K⟩:=yp w.heap.size;have aa:=hI (show w0.heap[x]?=some (.cells #[.int .i64 s.vv,.slice A s.tt I] 25 (0,0)) by rw [<-H,<-K];exact(qd _ _ _ yb).trans (qb w _));have ac:=hI (show w0.heap[x+1]?=some (.cells #[.slice B st L] 28 (0,0)) by rw [<-H,<-K];exact heap_alloc_new' yb);have:decide (a<1)=false:=qe ya;have:decide (4<a)=false:=qe ya;have Z:=hI (Zch I 1 L (qU W (qS z M)) (qU U (qS z M)) (fun b ae=>ym (M b ae) z.size) (ZU) ab);have:yr w0 x 0 (.int .i64 s.vv):=Za aa 0 _ rfl;have:yr w0 x 1 (.slice A s.tt I):=Za aa 1 _ rfl;have:yr w0 (x+1) 0 (.slice B st L):=Za ac 0 _ rfl;replace z:=hI z;obtain⟨O,R⟩:=yp (Zv (schF pcF s) s 1 st);rw [R] at Z N ⊢;have:(O != 0)=true:=(by simp [N]);clear W U M ab R N;replace H:=hI H;replace K:=hI K;go_enter func14,ntmps14;go_upto_region 3 with fail
 rw [H,K]
 go_wp2_with fail
 refine Z.mono ?_;rintro e ai ⟨rfl,af⟩
 go_wp2
 exact qw (v:=.tuple #[.pointer none,.int .i64 O]) (by simp [results,results14,go_sem]) rfl ⟨rfl,z.trans (af.mono z.size)⟩
end Go.Proofs.YtjadnfodboepeaaGreat
