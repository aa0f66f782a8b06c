import Derived.Test.YtjadnfodboepeaaGreatK46
set_option linter.all false
set_option maxRecDepth 100000
set_option maxHeartbeats 8000000
namespace Go.Proofs.YtjadnfodboepeaaGreat
open Tryz
open Go.RowKit
variable {w:World} {n k m i j:Nat} {A B:Option Addr} {S S':Nat->Prop} {x xA:Value} {g:TypeId} {s:Sch} {X:List Value} {J:List (List Int)} {Q:Act}
theorem Zga:∀ st:St,Zi st=(st.map List.length).sum
 | []=>rfl
 | l :: r=>by simp only [Zi,qL,List.sum_cons,Zga r]
theorem ZeM {α:Type} {f g h:α->Nat} (e:∀ x,f x=g x+h x):∀ z:List α,(z.map f).sum=(z.map g).sum+(z.map h).sum
 | []=>rfl
 | x :: r=>by simp only [qL,List.sum_cons,ZeM e r,e x];omega
theorem Zcp {α:Type} {h:α->Nat} {i:Nat}:∀ l:List α,(l.filter fun r=>decide (h r<i+1)).length=(l.filter fun r=>decide (h r<i)).length+(l.filter fun r=>h r == i).length
 | []=>rfl
 | x :: r=>by
  have I:=Zcp (h:=h) (i:=i) r;simp only [List.filter_cons]
  by_cases F:h x<i
  .have z:h x<i+1:=ya;have E:(h x == i)=false:=yd;simp only [F,z,E,decide_true,if_true,Bool.false_eq_true,if_false,qK];omega
  by_cases z:h x=i
  .simp only [z,Nat.lt_irrefl,decide_false,decide_true,beq_self_eq_true,if_true,Bool.false_eq_true,if_false,qK,Nat.lt_succ_self];omega
  have H:¬ h x<i+1:=ya;have E:(h x == i)=false:=yd;simp only [F,H,E,decide_false,Bool.false_eq_true,if_false];omega
theorem Zfn (s:Sch) (q:Nat->Row->Bool) (st:St):Zi (prtS s q st)=((List.range st).map fun t=>((st.getD t []).filter fun r=>q t (keyF s t r)).length).sum:=by
 rw [Zga];unfold prtS;rw [List.map_map];rfl
def cntJ (s:Sch) (n:Int) (st:St) (i:Nat):Nat:=Zi (prtS s (fun t k=>decide ((Zcb n (t:Int) k).toNat<i)) st)
theorem cntJ_zero (s:Sch) (n:Int) (st:St):cntJ s n st 0=0:=by
 unfold cntJ;rw [Zfn]
 have e:∀ z:List Nat,(z.map fun t=>((st.getD t []).filter fun r=>decide ((Zcb n (t:Int) (keyF s t r)).toNat<0)).length).sum=0:=by
  intro z;induction z with
  | nil=>rfl
  | cons x r E=>rw [qL,List.sum_cons,E];simp
 exact e _
theorem cntJ_next (s:Sch) (n:Int) (st:St) (i:Nat):cntJ s n st (i+1)=cntJ s n st i+Zi (prtS s (qh n i) st):=by
 unfold cntJ;rw [Zfn,Zfn,Zfn];exact ZeM (fun (t:Nat)=>Zcp (h:=fun r=>(Zcb n (t:Int) (keyF s (t:Int) r)).toNat) (st.getD t [])) (List.range st)
theorem ZkA (s:Sch) (n:Int) (st:St) (i:Nat):cntJ s n st i<=Zi st:=Zen _
theorem Zcv {st:St} (h:k<n):(Zar s n st).getD k []=prtS s (qh n k) st:=by simp [Zar,List.getD,h]
theorem ZaK (s:Sch) (st:St):(Zar s n st).length=n:=by simp [Zar]
def JoinP (st:St) (w:World) (e:Ending) (w':World):Prop:=∃ A c,e=.returned (.tuple #[ZaM A st c,.int .i64 0])/\st.length<=c/\StS w' (New w w') A st/\Below w w w'
theorem join_any (N:Nat) {st:St} (bo:TabS w S A s.tt) (co:Sl w S B ((Zar s n st).map Zbg)) (I:∀ b,S b->b<w) (dl:1<=n) (dd:n<=4) (bj:schF pcF s=0) (aP:StOk s 1 st) (bH:Zi st<=512) :
 Calls prog 172 #[sAgg s.vv A s.tt N,.slice B n k] w (JoinP st w):=by
 have dv:=bo.len;have bn:=hI bo;have bw:=hI co;have aX:=hI bj;have br:=hI aP;have aZ:=hI bH;have cu:st.length=s.tt.length:=aP.1;have aj:=hI cu;have:st.length<=8:=(yl (ZcG bj))
 have b4:=hI (show ∀ i,i<n->Zv 0 s 1 (prtS s (qh n i) st)=0/\Zi (prtS s (qh n i) st)<=512 from fun i _=>by
  have ai:Zi (prtS s (qh n i) st)<=512:=(by have:=Zen (s:=s) (qh n i) (st:=st);omega);exact⟨(Zix (qh n i) aP).check (m:=1) rfl ai,ai⟩)
 clear bo co bj aP bH cu;obtain⟨O,ar⟩:=yp ((w.alloc (.cells #[.int .i64 s.vv,.slice A s.tt N] 25)).alloc (.cells #[.slice none 0 0] 28));have bq:=hI (show Below w w O by rw [<-ar];exact((qa w w).alloc nR _).alloc yb _);have:O.heap.size<=w+2/\w.heap.size+2<=O:=(by rw [<-ar];simp);obtain⟨E,aU⟩:=yp w.heap.size;have aS:=hI (show O.heap[E]?=some (.cells #[.int .i64 s.vv,.slice A s.tt N] 25 (0,0)) by rw [<-ar,<-aU];exact(qd _ _ _ yb).trans (qb w _));have bR:=hI (show O.heap[E+1]?=some (.cells #[.slice none 0 0] 28 (0,0)) by rw [<-ar,<-aU];simpa using qb (w.alloc (.cells #[.int .i64 s.vv,.slice A s.tt N] 25)) (.cells #[.slice none 0 0] 28));have H:yr O E 0 (.int .i64 s.vv):=Za aS 0 _ rfl;have db:yr O E 1 (.slice A s.tt N):=Za aS 1 _ rfl;have:w<=E/\E<=w:=ya;have cZ:E<O:=ya;have cX:E+1<O:=ya;have c8:=hI (show ZaV s (n:Int)=0 by unfold ZaV;rw [qo ya];exact aX);go_enter func172,ntmps172
 go_wp2_with fail
 try rw [ar]
 try rw [aU]
 clear ar aU;refine(Zbd (A:=A) N s (a:=n) (S:=S) (w:=O) (bn.keep (qS bq I)) (fun b z=>yl (I b z))).mono ?_;rintro e ct ⟨rfl,bb⟩;rw [c8];have ck:=hI (bq.trans (bb.mono ya));have bC:=hI ((bb.block E cZ).trans aS);have bG:=hI ((bb.block (E+1) cX).trans bR);have cO:=Zb bC;have cJ:=Zb bG;clear bb H db bq aS bR
 go_wp2
 go_loopw [29] (fun i wr=>∃ cr:Nat,cr<=n/\i=.int .i64 cr/\Below ct ct wr) (fun i _=>n - (intOf i).toNat)
 case atStart=>exact⟨0,qk _,rfl,qa _ _⟩
 obtain⟨cr,du,rfl,ak⟩:=hrel;have U:=hI ak;have cM:=ak.size;clear ak;have R:=hI (ck.trans (U.mono ya));have aH:=hI ((U.block E cO).trans bC);have aq:yr wr E 0 (.int .i64 s.vv):=Za aH 0 _ rfl;have af:yr wr E 1 (.slice A s.tt N):=Za aH 1 _ rfl;have aQ:=Zb aH
 by_cases bc:cr<n
 .have:(0:Int)<=(cr:Int):=ya;have:(cr:Int)<(n:Int):=ya;obtain⟨cK,op,rfl,da,A',ax,ab,aD,W⟩:=ZiX (show Sl wr S B ((Zar s n st).map Zbg) from qU bw (qS R I)) (n:=cr) (by rw [ZaK];exact bc);rw [Zcv bc] at ab aD W;obtain⟨aR,aN⟩:=b4 cr bc;replace aR:=hI aR;replace aN:=hI aN;replace W:=hI W;clear aD;obtain⟨P,aI⟩:=yp (prtS s (qh n cr) st);rw [aI] at ab aR aN W;clear aI;go_upto_region 7 with fail
  obtain⟨w2,L,F,av⟩:=al wr (.cells #[.slice A' P ax] 28);have F:=F.out;have H:yr w2 wr 0 (.slice A' P ax):=Za av 0 _ rfl;have aq:=c9Q F aQ aq;have af:=c9Q F aQ af;have dA:=Zb av;have aw:=hI (R.trans (F.mono (yl R.size)));have cF:=hI (U.trans (F.mono cM));have bg:=hI (show StS w2 S A' P from W.keep (fun b z=>F.block b (ym (I b z) R.size)))
  try rw [L]
  clear L F ab av
  go_wp2_with fail
  refine(Zch (L:=pcF) (A:=A) N (s:=s) 1 (B:=A') ax (st:=P) (S:=S) (w:=w2) (bn.keep (qS aw I)) bg (fun b z=>ym (I b z) aw.size) (ZU (s:=s)) (yl aN.out)).mono ?_;rw [aX,aR];rintro e dt ⟨rfl,b7⟩;have c9:=hI (cF.trans (b7.mono ya));clear b7 aq af H
  go_wp2
  go_roundw
  case rel=>exact⟨cr+1,ya,by go_num,c9⟩
  (simp [intOf];omega)
 have:decide (cr<n)=false:=yd;obtain rfl:cr=n:=ya;obtain⟨ac,rfl⟩:∃ ac:World,ac=wr:=⟨_,rfl⟩;have b8:=hI ((U.block (E+1) cJ).trans bG);have cW:=Zb b8;clear aq af bC bG U b4 ck
 go_wp2
 go_loopw [10,43] (fun c i wr=>∃ k':Nat,k'<=cr/\i=.int .i64 k'/\c=.int .i64 (cntJ s (cr:Int) st k':Nat)/\Below ac ac wr) (fun _ i _=>cr - (intOf i).toNat)
 case atStart=>exact⟨0,qk _,rfl,by rw [cntJ_zero];rfl,qa _ _⟩
 obtain⟨i,dD,rfl,rfl,ak⟩:=hrel;have U:=hI ak;have cY:=ak.size;clear ak;have ay:=hI (R.trans (U.mono (yl R.size)));have dj:=ZkA s (cr:Int) st i
 by_cases cy:i<cr
 .have:(0:Int)<=(i:Int):=ya;have:(i:Int)<(cr:Int):=ya;obtain⟨cK,op,rfl,da,A',ax,ab,aD,W⟩:=ZiX (show Sl wr S B ((Zar s cr st).map Zbg) from qU bw (qS ay I)) (n:=i) (by rw [ZaK];exact cy);rw [Zcv cy] at ab aD W;have b9:=hI W;have bT:=hI (Zix (qh (cr:Int) i) br);have bl:=hI (cntJ_next s (cr:Int) st i);have bN:=ZkA s (cr:Int) st (i+1);rw [bl] at bN;have cc:=hI (Zde (s:=s) (qh (cr:Int) i) st)
  have cw:=hI (show ∀ u,u<st.length->∀ r ∈ (prtS s (qh (cr:Int) i) st).getD u [],(Zcb (cr:Int) (u:Int) (keyF s u r)).toNat=i from fun u cj r aY=>by
   rw [Ziy _ cj] at aY;have ai:=(List.mem_filter.1 aY).2;simpa [qh] using ai)
  clear aD W;obtain⟨P,aI⟩:=yp (prtS s (qh (cr:Int) i) st);rw [aI] at ab b9 bT bl bN cc cw;clear aI;obtain⟨ap,bt⟩:=yp P.length;have aE:=hI bt;rw [bt] at ab;clear bt;go_upto_region 15 with fail
  obtain⟨w2,L,F,av⟩:=al wr (.cells #[.slice A' ap ax] 28);have F:=F.out;have H:yr w2 wr 0 (.slice A' ap ax):=Za av 0 _ rfl;have aw:=hI (U.trans (F.mono cY));have bg:=hI (show StS w2 S A' P from b9.keep (fun b z=>F.block b (ym (I b z) ay.size)));have cH:=hI (show Same S w w2 from qS (ay.trans (F.mono (yl ay.size))) I)
  try rw [L]
  clear L F ab av
  go_wp2
  go_loopw [10,51] (fun c j wr=>∃ u:Nat,u<=ap/\j=.int .i64 u/\c=.int .i64 ((cntJ s (cr:Int) st i+Zi (P.take u):Nat):Int)/\Below ac ac wr) (fun _ j _=>ap - (intOf j).toNat)
  case atStart=>exact⟨0,qk _,rfl,rfl,aw⟩
  clear H;obtain⟨u,cj,rfl,rfl,bu⟩:=hrel;have ba:=hI bu;have c5:=bu.size;clear bu;have bL:=hI (R.trans (ba.mono (yl R.size)))
  by_cases aW:u<ap
  .have:(0:Int)<=(u:Int):=ya;have:(u:Int)<(ap:Int):=ya;have cz:u<st:=(by rw [<-cc,aE];exact aW);have aa:u<s.tt:=(by rw [<-aj];exact cz);obtain⟨dx,dz,rfl,dp,di,c2,bI,cQ,aV⟩:=(show StS wr S A' P from bg.keep (fun b z=>((qS bL I) b z).trans (cH b z).symm)).at_ (k:=u) (by rw [aE];exact aW);replace aV:=hI aV;have cP:=hI (qS bL I);have ci:=hI ((bT.2 u (by rw [aE];exact aW)).1);have cD:=hI (cw u cz);have cv:=Zbb P u (by rw [aE];exact aW);have cN:=Zce P (u+1);have b3:=Zdw aX aa;clear cQ;obtain⟨K,cd⟩:=yp (P.getD u []);rw [cd] at bI aV ci cD cv;clear cd;obtain⟨aO,cm⟩:=yp (cntJ s (cr:Int) st i+Zi (P.take u));have cL:=hI (show cntJ s (cr:Int) st i+Zi (P.take (u+1))=aO+K.length by omega);have:aO+K.length<=512:=(yl aZ.out);rw [cm];clear cm cv cN
   go_wp2
   go_loopw [10,58] (fun c q wr=>∃ j:Nat,j<=K/\q=.int .i64 j/\c=.int .i64 ((aO+j:Nat):Int)/\Below ac ac wr) (fun _ q _=>K.length - (intOf q).toNat)
   case atStart=>exact⟨0,qk _,rfl,rfl,ba⟩
   clear bI;obtain⟨j,dq,rfl,rfl,bi⟩:=hrel;have aG:=hI bi;have cT:=bi.size;clear bi;have bZ:=hI (R.trans (aG.mono (yl R.size)))
   by_cases bh:j<K
   .have:(0:Int)<=(j:Int):=ya;have:(j:Int)<(K:Int):=ya;have bJ:=hI (qS bZ I);obtain⟨ds,dm,rfl,dB,cV,cC,f1,bS,f3⟩:=Qj (show RowsS wr S di K from qU aV (fun b z=>(bJ b z).trans (cP b z).symm)) bh;have bp:K.getD j [] ∈ K:=(by rw [show K.getD j []=K[j] by simp [List.getD,bh]];exact qJ bh);have bD:=hI (ci (K.getD j []) bp);have b2:=hI (cD _ bp);obtain⟨row,cq⟩:=yp (K.getD j []);rw [cq] at f1 bS f3 bD b2;clear cq bp;have b5:=ZfV bD;rw [qu] at b5;have de:0<row.length:=ya;have:row.length<=8:=ya;have bP:=hI (ZgO bD);replace f3:=hI f3;have cG:row.length<=cC:=bS;have cA:=hI ((aG.block E aQ).trans aH);have aq:yr wr E 0 (.int .i64 s.vv):=Za cA 0 _ rfl;have af:yr wr E 1 (.slice A s.tt N):=Za cA 1 _ rfl;clear b5
    go_wp2_with fail
    refine(Zfk (A:=A) N s (n:=u) (B:=cV) (k:=cC) (r:=row) (S:=S) (w:=wr) (bn.keep bJ) f3 cG (fun b z=>ym (I b z) bZ.size) aa b3.2.1 de).mono ?_;rintro e am ⟨az,aL,rfl,au,ao⟩;have cx:=hI (show RowS am (fun b=>b<am) az (keyF s u row) from (Zag (Zct (Zbt bP) (by have:=Zex s (u:Int) row;omega)) au).more (fun b z=>z.2));have cn:=hI (aG.trans (ao.mono cT));have dC:=ao.size;clear au ao aq af f1
    go_wp2_with fail
    refine(ZdT (a:=(cr:Int)) (t:=(u:Int)) (A:=az) (n:=aL) (key:=keyF s u row) (S:=fun b=>b<am) (w:=am) ya ya cx (fun b z=>z) (Zbt bP) (by have:=Zex s (u:Int) row;omega)).mono ?_;rintro e dE ⟨rfl,cg⟩;have df:=hI (cn.trans (cg.mono ya));clear cg cn cx;have dh:=Zcy (a:=(cr:Int)) (t:=(u:Int)) (key:=keyF s u row) ya;have cE:Zcb (cr:Int) (u:Int) (keyF s u row)=(i:Int):=(yl b2.out);rw [cE];clear dh cE
    go_wp2
    go_roundw
    case rel=>exact⟨j+1,ya,by go_num,by go_num,df⟩
    (simp [intOf];omega)
   have Z:aO+j=cntJ s (cr:Int) st i+Zi (P.take (u+1)):=(by rw [cL];omega);replace Z:=hI Z
   go_wp2
   go_roundw
   case rel=>first | exact⟨u+1,ya,by go_num,by rw [Z],aG⟩ | ((repeat apply Exists.intro);exact⟨⟨u+1,ya,by go_num,by rw [Z],aG⟩,rfl⟩)
   (simp [intOf];omega)
  have Z:cntJ s (cr:Int) st i+Zi (P.take u)=cntJ s (cr:Int) st (i+1):=(by rw [bl,qs (by rw [aE.out];omega)]);replace Z:=hI Z
  go_wp2
  go_roundw
  case rel=>first | exact⟨i+1,ya,by go_num,by rw [Z],ba⟩ | ((repeat apply Exists.intro);exact⟨⟨i+1,ya,by go_num,by rw [Z],ba⟩,rfl⟩)
  (simp [intOf];omega)
 have:decide (i<cr)=false:=yd;obtain rfl:i=cr:=ya
 have b1:=hI (show ∀ t,t<st.length->(∀ r ∈ st.getD t [],0<r.length/\r.length<=12)/\(st.getD t []).Pairwise (fun a b=>cmpR a b<0) from fun t aM=>by
  have aa:t<s.tt:=(by rw [<-aj];exact aM);have b3:=Zdw aX aa;refine⟨fun r aY=>?_,asc_rows (br.2 t aM) aa⟩;have ai:=ZfV ((br.2 t aM).1 r aY);rw [qu] at ai;omega)
 obtain⟨ce,bW⟩:=yp (cntJ s (i:Int) st i);have:ce<=512:=(yl aZ.out);rw [bW];have dk:decide ((512:Int)<(ce:Int))=false:=yd;clear bW dj;have cS:=hI ((U.block E aQ).trans aH);have bK:=hI ((U.block (E+1) cW).trans b8);have af:yr wr E 1 (.slice A s.tt N):=Za cS 1 _ rfl;have dy:=Zb bK;have c7:=ZaQ s.tt (yl aj.out);go_upto_region 30 with fail
 obtain⟨gN,aA⟩:=yp wr.heap.size
 try rw [aA]
 obtain⟨w2,L⟩:=yp ((wr.alloc (.cells (Zk s.tt).toArray 145)).alloc (.cells #[.slice (some ⟨gN,0,none⟩) s.tt.length s.tt.length] 28));have F:Below wr wr w2:=(by rw [<-L];exact((qa _ _).alloc nR _).alloc yb _);have:gN+2<=w2/\w2<=gN+2:=(by rw [<-L,<-aA];simp);have bQ:=hI (Lst.zero (w:=w2) (base:=w2) (gN:=gN) (n:=s.tt) (TT:=145) (D:=st.map Zx) (by rw [<-L,<-aA];exact(qd _ _ _ yb).trans (qb wr _)));have bO:=hI (show w2.heap[gN+1]?=some (.cells #[.slice (some ⟨gN,0,none⟩) s.tt.length s.tt.length] 28 (0,0)) by rw [<-L,<-aA];simpa using qb (wr.alloc (.cells (Zk s.tt).toArray 145)) (.cells #[.slice (some ⟨wr,0,none⟩) s.tt.length s.tt.length] 28));have H:yr w2 (gN+1) 0 (.slice (some ⟨gN,0,none⟩) s.tt.length s.tt.length):=Za bO 0 _ rfl;have aw:=hI (ay.trans (F.mono (yl ay.size)));have dc:=hI ((F.block (E+1) ya).trans bK);have:E+1<gN:=ya;have:s.tt.length<=8:=by have:=aj.out;omega
 try rw [L]
 clear c7 L aA F af dk
 go_wp2_with fail
 clear H
 go_loopw [89] (fun q wr=>∃ t:Nat,t<=s.tt/\q=.int .i64 t/\Fr (fun b=>b=gN) w2 wr/\Lst wr w2 gN s.tt t 145 (st.map Zx)) (fun q _=>s.tt.length - (intOf q).toNat)
 case atStart=>exact⟨0,qk _,rfl,Qa _ _,bQ⟩
 clear bQ;obtain⟨t,aM,rfl,bB,an⟩:=hrel;have aT:=hI bB;replace an:=hI an;have c5:=bB.size;clear bB;have be:=hI (show Below w w wr from aw.trans (aT.below (n:=w) ya (fun b z=>ya)));have bX:=hI ((aT.block (gN+1) ya ya).trans bO);have H:yr wr (gN+1) 0 (.slice (some ⟨gN,0,none⟩) s.tt.length s.tt.length):=Za bX 0 _ rfl;have cU:=Zb bX
 by_cases aa:t<s.tt
 .have:(0:Int)<=(t:Int):=ya;have:(t:Int)<(s.tt:Int):=ya;have aK:t<st:=(by rw [aj];exact aa);have bY:=hI (show (st.map Zx)[t]?=some (Zx (st.getD t [])) by simp [List.getD,aK]);have cI:(st.getD t []).length<=512:=by have:=ZaB st t;have:=aZ.out;omega
  go_wp2_with fail
  obtain⟨ah,ae⟩:=an.cell aa;have bU:=an.lt;refine uS (fun w'=>w'.cell? ⟨gN+1,0,none⟩=some (.slice (some ⟨gN,0,none⟩) s.tt.length s.tt.length)/\w'.cell? ⟨gN,t,none⟩=some (.slice none 0 0)/\w'.frozen? ⟨gN,t,none⟩=false) 7 8 fun Q' bM bF=>?_;obtain⟨bV,b6,aB,dw⟩:=dr wr;have ch:=hI (be.trans (aB.mono (yl be.size)));have H:=c9Q aB cU H;have ah:=c9Q aB bU ah;have ae:=(aB.frozen (p:=⟨gN,t,none⟩) bU).trans ae;rw [b6];clear b6
  have bk:=hI (joined_any (A:=B) i k t (Zar s i st) (st.getD t []) (fun x=>(Zcb (i:Int) (t:Int) (keyF s (t:Int) x)).toNat) (S:=S) (w:=bV) (qU bw (qS ch I)) (ZaK s (n:=i) st) dd (fun b z=>ym (I b z) ch.size)
   (fun a cp=>⟨by rw [Zcv cp,Zde];exact aK,by rw [Zcv cp,Ziy _ aK];rfl⟩) (b1 t aK).2
   (fun x _=>by have:=Zcy (a:=(i:Int)) (t:=(t:Int)) (key:=keyF s (t:Int) x) ya;show (Zcb (i:Int) (t:Int) (keyF s (t:Int) x)).toNat<i;omega)
   (ym (ZaB st t) aZ) (b1 t aK).1)
  obtain⟨TT,ca⟩:=yp (st.getD t []);rw [ca] at bk bY cI;clear ca;refine uR [0,5] bF ⟨H,ah,ae⟩ ?_;refine uQ 5 fun bz aF=>?_;go_simp;refine bk.mono ?_;rintro e am ⟨az,aL,rfl,bm,au,aC⟩;have ao:=(aB.trans (aC.mono ya));replace au:=hI au;replace bm:=hI bm;have cR:=hI (an.below ao);have c6:=hI (aT.trans (qW ao) (Y:=fun _=>False) (fun b z h=>h.elim));have H:=c9J aC H;have ah:=c9J aC ah;have ae:=(aC.frozen (p:=⟨gN,t,none⟩) (by show gN<bV;omega)).trans ae;clear ao aC bk;go_simp;refine aF _ _ (fun _=>⟨H,ah,ae⟩) ?_;clear aF bz
  try simp only [Act.put,psA,psB,psC]
  refine uR [6,1] bF ⟨H,ah,ae⟩ ?_;refine uQ 7 fun bz aF=>?_;go_simp;refine aF _ _ nD ?_;clear aF bz;refine uE bM ?_;clear bM bF Q'
  have c3:=hI (cR.put aa ya bY (show Dat.Vs am (fun b=>w2<=b/\b<am) (Zx TT) [.slice az TT aL] by
   unfold Zx Dat.Vs;exact⟨az,aL,yb,by simpa using bm.out,qZ au (fun b z=>⟨yl z.1,z.2⟩)⟩))
  have dg:=hI (c6.setCell (.slice az TT aL) (g:=gN) (o:=t) (fun _=>rfl));clear H ah ae
  go_wp2
  go_roundw
  case rel=>exact⟨t+1,ya,by go_num,dg,c3⟩
  (simp [intOf];omega)
 have:decide (t<s.tt)=false:=yd;obtain rfl:t=s.tt.length:=ya;have cf:=hI ((aT.block (E+1) ya ya).trans dc);have c4:yr wr (E+1) 0 (.slice none 0 0):=Za cf 0 _ rfl;have:wr.frozen? ⟨E+1,0,none⟩=false:=by simp [World.frozen?,cf.out]
 go_wp2_with fail
 obtain⟨b0,bf⟩:=yp (wr.setCell ⟨E+1,0,none⟩ (.slice (some ⟨gN,0,none⟩) s.tt.length s.tt.length));have r0:b0.cell? ⟨E+1,0,none⟩=some (.slice (some ⟨gN,0,none⟩) s.tt.length s.tt.length):=(by rw [<-bf];exact Qr _ _ _ c4)
 have bE:JoinP st w (.returned (.tuple #[ZaM (some ⟨gN,0,none⟩) s.tt.length s.tt.length,.int .i64 0])) b0:=by
  rw [<-bf,<-aj];refine⟨some ⟨gN,0,none⟩,st.length,rfl,qp _,?_,be.setCell (by show w.heap.size<=E+1;omega) _⟩;have ai:=an.done (by rw [qg,aj]) (by rw [Ze (n:=24) (fun _=>rfl)];omega) (S':=fun b=>E+1<b/\b<wr) ⟨ya,an.lt⟩ (fun b z=>⟨ya,z.2⟩);exact qZ (qU ai (fun b z=>qc wr ⟨E+1,0,none⟩ _ _ (by have:=z.1;show b≠E+1;omega))) (fun b z=>⟨yl z.1,by have:=z.2;simpa using this⟩)
 replace bE:=hI bE
 try rw [bf]
 refine qw (v:=.tuple #[ZaM (some ⟨gN,0,none⟩) s.tt.length s.tt.length,.int .i64 0]) (by simp [results,results172,go_sem,r0]) rfl bE
open Go
theorem Zdz:∀ {l:List Dat},(∀ d ∈ l,d.Plain)->Dat.Pa l
 | [],_=>by unfold Dat.Pa;trivial
 | d :: l,h=>by unfold Dat.Pa;exact⟨h d yb,Zdz (fun x z=>h x (by simp [z]))⟩
theorem ZeI:∀ {l:List Dat} {vs:List Value},(∀ d ∈ l,∀ E,Dat.Vs w S d E->Dat.Vs w S' d E)->Dat.Va w S l vs->Dat.Va w S' l vs
 | [],vs,_,h=>by unfold Dat.Va at h ⊢;exact h
 | d :: l,vs,z,h=>by
  unfold Dat.Va at h ⊢;obtain⟨a,b,e,H,F⟩:=h;exact⟨a,b,e,z d yb a H,ZeI (fun x I=>z x (by simp [I])) F⟩
theorem Zjr (l:List Int):∀ d ∈ l.map ZaT,∀ z,Dat.Vs w S d z->Dat.Vs w S' d z:=fun d hd z h=>by
 obtain⟨n,_,rfl⟩:=qO.1 hd;unfold ZaT Dat.Vs at *;exact h
theorem Zic (l:List Int):∀ d ∈ l.map encB,∀ z,Dat.Vs w S d z->Dat.Vs w S' d z:=fun d hd z h=>by
 obtain⟨n,_,rfl⟩:=qO.1 hd;unfold encB Dat.Vs at *;exact h
theorem flat_col (l:List Col):∀ d ∈ l.map Zbh,∀ z,Dat.Vs w S d z->Dat.Vs w S' d z:=fun d hd z h=>by
 obtain⟨n,_,rfl⟩:=qO.1 hd;unfold Zbh at *;simp only [Dat.Vs,Dat.Va] at h ⊢;exact h
theorem ZJ {I:Array Oper} {rest:List Oper} {o:Oper} {B:Exit->Act->World->Prop} (M:o.guard=none) (s z:Operand) (t:TypeId)
 (ah:o.op=.call { callee:=.builtin .append,args:=#[s,z],argTypes:=#[t,t] })
  {i:TypeInfo}  (size bytes:Nat) (R:prog.underlying t=some (.slice g)) (an:prog.info? g=some i) (ae:i.zero=some x)
 (N:i.size=size) (ai:i.bytes=bytes) (ap:x.cells.size=size) (af:0<size)
   (am:Q.eval s=.slice none 0 0)
 {l2:List Dat}  (m F:Nat) (Z:Sl w S A l2) (aj:∀ d ∈ l2,∀ L,Dat.Vs w S d L->Dat.Vs w (fun b=>False\/Beh w w (.slice none 0 0) b) d L) (H:∀ d ∈ l2,d.Plain/\d.size=size) (aq:m=l2.length) (ao:Q.eval z=.slice A m F)
 (av:m<=17592186044416) (ar:m*bytes<=140737488355328)
 (h:∀ A' cap w',Mk w' w (fun _=>False) g size (.slice A' m cap) l2->Below w w w'->wpList prog I B rest (Q.put o.dst (.slice A' m cap)) w'):wpList prog I B (o :: rest) Q w:=by
 obtain⟨vs,ab,O⟩:=Z.vals;refine wpList_plain M fun au ac=>?_;refine wp_append_mks s ah bytes R an ae N ai ap af (Qe (fun b W=>W.elim) nR _ _) am (ZeI aj ab) (Zdz fun d hd=>(H d hd).1) (fun d hd=>(H d hd).2) aq ao (fun U=>?_) ya (by rw [qx];exact ar) (fun A' cap w' K aa=>ac _ _ ?_)
 .obtain⟨b,aw,rfl,_,E⟩:=O ya;exact⟨_,rfl,fun j u ak=>by have:=E j u ak;by_cases U:j=0<;>simp_all [Addr.add]⟩
 have E:=h A' cap w' (by rw [qx,qP] at K;exact K) aa;rw [qx];exact E
theorem ZdI {o:Oper} {W:Act->World->Prop} {t:Exit->Act->World->Prop} (s:Operand) {vs:Operand} 
 (ae:o.op=.call { callee:=.builtin .append,args:=#[s,vs],argTypes:=#[g,g] })
  {e:TypeId} {w0:TypeInfo}  {size:Nat} (bytes:Nat) (aa:prog.underlying g=some (.slice e)) (ah:prog.info? e=some w0) (au:w0.zero=some x)
 (am:w0.size=size) (av:w0.bytes=bytes) (ay:x.cells.size=size) (ar:0<size)
     {l:List Dat} (an:OwnD w n e size S (.slice A k m) l) (M:k=l.length) (ak:n<=w) (af:Q.eval s=.slice A k m)
 {l2:List Dat}    (hd:Dat.Va w S l2 X) (az:0<i->∃ b L,B=some ⟨b,L,none⟩/\CellsAt w b L X) (ac:∀ d ∈ l2,d.Plain/\d.size=size) (U:i=l2.length) (ai:Q.eval vs=.slice B i j)
 (aD:k+i<=17592186044416) (aA:(k+i)*bytes<=140737488355328)
 (h:∀ A' cap w',OwnD w' n e size S (.slice A' (k+i) cap) (l++l2)->w.grownBy w' (Value.slice A k m).ownBlock->(∀ N,(Value.slice A' (k+i) cap).ownBlock=some N->(Value.slice A k m).ownBlock=some N\/N=w.heap.size)->W (Q.put o.dst (.slice A' (k+i) cap)) w'):o.wp prog Q w W t:=by
 obtain⟨vals,K,Z,E⟩:=an;rcases qF i with F | F
 .subst F;have ap:l2=[]:=qN U.symm;subst ap;have aw:=ZcB (P:=prog) (w:=w) g o.type aa ah A k m (by rw [M];exact Zas (by rw [M] at K;exact K) rfl) B j;unfold Oper.wp execOp;simp only [ae,resolve,invoke,builtin,Sem.run_bind,Sem.run_pure,Result.andThen_ok,List.map_toArray,qL,Qn,af,ai,aw];exact h A m w ⟨vals,by rw [Qq];exact K,by rw [Qq];exact Z,E⟩ ⟨rfl,rfl,rfl,qp _,fun _ _ _=>rfl⟩ (fun N H=>.inl H)
 obtain⟨b,L,rfl,aB⟩:=az F;rw [<-M] at K;refine wp_append_lies _ s vs g ae n e w0 x size bytes aa ah au am av ay ar (.slice A k m) k vals af K ⟨b,L,none⟩ i j X ai (by rw [hd.len,Zbo (fun d hd=>(ac d hd).2),U]) (fun a u ax=>by have:=aB a u ax;by_cases F:a=0<;>simp_all [Addr.add]) (Dat.Va.one _ _ (Zdz fun d hd=>(ac d hd).1) hd) F yh aA ak w.heap.size rfl ?_;intro N cap w' aj H I aC;have ab:Same S w w':=fun b z=>H.block b (E b z).1 (E b z).2;refine h _ cap w' ⟨vals++X,by rw [qi,<-M,<-U];exact aj,Zu (Dat.Va.keep ab _ _ Z) (Dat.Va.keep ab _ _ hd),fun b z=>⟨qC (E b z).1 H.size,fun e=>?_⟩⟩ H (fun aq ao=>?_)
 .have R:b=N:=(by simpa [Value.ownBlock] using e);rcases I with I | I
  .exact(E b z).2 (by rw [I,R])
  have:=(E b z).1;omega
 have R:N=aq:=(by simpa [Value.ownBlock] using ao);rw [<-R];exact I
theorem wpList_append_ods {H:Array Oper} {rest:List Oper} {o:Oper} {w0:Exit->Act->World->Prop} (I:o.guard=none) (s z:Operand) (t:TypeId)
 (af:o.op=.call { callee:=.builtin .append,args:=#[s,z],argTypes:=#[t,t] })
   {i:TypeInfo}  {size:Nat} (bytes:Nat) (O:prog.underlying t=some (.slice g)) (am:prog.info? g=some i) (ab:i.zero=some x)
 (L:i.size=size) (ah:i.bytes=bytes) (ap:x.cells.size=size) (ac:0<size)
     {l:List Dat} (N:OwnD w n g size S (.slice A k m) l) (ao:k=l.length) (K:n<=w) (ak:Q.eval s=.slice A k m)
 {l2:List Dat}  (D F:Nat) (R:Sl w S B l2) (ae:∀ d ∈ l2,d.Plain/\d.size=size) (aq:D=l2.length) (an:Q.eval z=.slice B D F)
 (aa:k+D<=17592186044416) (au:(k+D)*bytes<=140737488355328)
 (h:∀ A' cap w',OwnD w' n g size S (.slice A' (k+D) cap) (l++l2)->w.grownBy w' (Value.slice A k m).ownBlock->(∀ a,(Value.slice A' (k+D) cap).ownBlock=some a->(Value.slice A k m).ownBlock=some a\/a=w.heap.size)->wpList prog H w0 rest (Q.put o.dst (.slice A' (k+D) cap)) w'):wpList prog H w0 (o :: rest) Q w:=by
 obtain⟨vs,W,M⟩:=R.vals;refine wpList_plain I fun av Z=>?_;refine ZdI s af bytes O am ab L ah ap ac N ao K ak W (fun aw=>?_) ae aq an aa au (fun A' cap w' aj U E=>Z _ _ (h A' cap w' aj U E));obtain⟨b,ai,ar,_,E⟩:=M ya;exact⟨b,ai,ar,E⟩
theorem Zdn {L:Array Oper} {o:Oper} {I:Act->World->Prop} {w0:Exit->Act->World->Prop} {ai:Prop} (M:o.guard=none) (s E:Operand) (t:TypeId)
 (af:o.op=.call { callee:=.builtin .append,args:=#[s,E],argTypes:=#[t,t] })
   {i:TypeInfo}  {size:Nat} (bytes:Nat) (Z:prog.underlying t=some (.slice g)) (an:prog.info? g=some i) (ab:i.zero=some x)
 (O:i.size=size) (ah:i.bytes=bytes) (ap:x.cells.size=size) (ac:0<size)
     {l:List Dat} (R:OwnD w n g size S (.slice A k m) l) (ao:k=l.length) (N:n<=w) (ak:Q.eval s=.slice A k m)
 {d:Dat} {F:Array Value} (z:Nat) (am:w.heap[z]?=some (.cells F g (0,0))) (hd:Dat.Vs w S d F.toList) (U:d.Plain) (W:d.size=size) (K:Nat) (H:Q.eval E=.slice (some ⟨z,0,none⟩) 1 K)
 (aa:k+1<=17592186044416) (aq:(k+1)*bytes<=140737488355328)
 (h:∀ A' cap w',OwnD w' n g size S (.slice A' (k+1) cap) (l++[d])->w.grownBy w' (Value.slice A k m).ownBlock->(∀ a,(Value.slice A' (k+1) cap).ownBlock=some a->(Value.slice A k m).ownBlock=some a\/a=w.heap.size)->I (Q.put o.dst (.slice A' (k+1) cap)) w') :
 if Region.wanted o (yielded L Q.tmps)=true then Oper.wp prog o Q w I w0 else ai:=by
 have ae:Region.wanted o (yielded L Q.tmps)=true:=(by simp [Region.wanted,M]);rw [qr ae];exact ZdI s af bytes Z an ab O ah ap ac R ao N ak (Zw hd) (fun _=>⟨z,0,rfl,fun j u aj=>Za am j u aj⟩) (fun E H=>by rw [qy.1 H];exact⟨U,W⟩) rfl H aa aq h
def ClnP (l:List Pred) (w:World) (e:Ending) (w':World):Prop:=∃ A c,e=.returned (.slice A l c)/\Mk w' w (fun _=>False) 112 13 (.slice A l c) (l.map encPred)/\Below w w w'
theorem clonePreds_any:∀ (ar:Nat) (l:List Pred) (A:Option Addr) (c:Nat) (S:Nat->Prop) (w:World),SizeOf.sizeOf l<=ar->PredS w S A l->(∀ b,S b->b<w)->Calls prog 102 #[.slice A l c] w (ClnP l w):=by
 intro ar;induction ar with
 | zero=>intro l A c S w ak;cases l<;>simp at ak
 | succ ar ax =>
  intro l A c S w ak aw ao;obtain⟨bm,br,bl,bz,bo⟩:=qA infoP;have:l.length*136<=140737488355328:=(by have:=aw.1;rw [Ze (n:=136) ZL] at this;omega);replace aw:=hI aw;replace ax:=hI ax;replace ak:=hI ak;replace ao:=hI ao;go_enter func102,ntmps102
  go_wp2
  go_loopw [3,8] (fun bu i aI=>∃ (k:Nat) (O:Option Addr) (U:Nat),k<=l/\i=.int .i64 (k:Int)/\bu=.slice O k U/\Mk aI w (fun _=>False) 112 13 (.slice O k U) ((l.take k).map encPred)/\Below w w aI) (fun _ i _=>l.length - (intOf i).toNat)
  case atStart=>exact⟨0,none,0,qk _,rfl,rfl,by simpa using Qe (w:=w) (fun b z=>z.elim) nR _ _,qa _ _⟩
  obtain⟨k,O,U,bI,rfl,rfl,aB,M⟩:=hrel;have aE:=hI aB;replace M:=hI M;have bt:=aB.hi;clear aB;rcases qv k l.length with ay | bN
  .have aV:=hI (show PredS wr S A l from aw.keep (qS M ao));obtain⟨bO,bJ,rfl,bK,R,N,ba,aQ,K,A',av,aF,H⟩:=aV.at_ ay;have bh:=hI (show l.take (k+1)=l.take k++[.mk R N ba aQ K] by rw [<-aF];exact ZaI ay);have bq:=hI (Zdd ay aF);have f1:=H.fop;have bi:=H.fcmp;have f3:=H.lk;have aN:=H.li;have aT:=H.lvk;have aJ:=H.lvi;have bb:=H.lvt;have aU:=H.rk;have bc:=H.ri;have aM:=H.rvk;have aL:=H.rvi;have bf:=H.rvt;have bp:=H.fargs;have be:=hI H.pS;have aR:=H.lt;have aS:=H.rt;clear H aF;obtain⟨ac,Z,⟨af,aa,ah⟩⟩:=ba;obtain⟨W,am,⟨ae,ai,aj⟩⟩:=aQ;simp only at f3 aN aT aJ bb aU bc aM aL bf aR aS;obtain⟨aK,E,aX,aP,L,aD⟩:=ag wr (.cells #[.int .i64 R,.int .i64 N,.int .i64 ac,.int .i64 Z,.int .i64 af,.int .i64 aa,.string ah,.int .i64 W,.int .i64 am,.int .i64 ae,.int .i64 ai,.string aj,.slice A'  K av ] 112);have L:=L.out;replace L:=hI L;have:wr<=E/\E<=wr:=ya;have bn:=Zb aD;have aA:yr aK E 12 (.slice A' K av):=Za aD 12 _ rfl;go_upto_region 5 with fail
   try rw [aX]
   try rw [aP]
   clear aX aP f1 bi f3 aN bp aT aJ bb aU bc aM aL bf
   go_wp2_with fail
   refine(ax K A' av S aK (by have bw:=bq.out;have bL:=ak.out;simp at bw;omega) (be.keep (qS L (fun b z=>ym (ao b z) M.size))) (fun b z=>by have:=ao b z;have:=M.size;have:=L.size;omega)).mono ?_;rintro e w2 ⟨an,c2,rfl,az,ab⟩;replace az:=hI az;replace ab:=hI ab;clear aA;have au:=hI ((ab.block _ bn).trans aD);have bF:=Zb au;have aA:yr w2 E 12 (.slice A' K av):=Za au 12 _ rfl;have bB:w2.frozen? ⟨E,12,none⟩=false:=Zd au;go_upto_region 6 with fail
   obtain⟨F,aq⟩:=yp (w2.setCell ⟨E,12,none⟩ (.slice an K c2));have I:=hI (show F.heap[E]?=some (.cells #[.int .i64 R,.int .i64 N,.int .i64 ac,.int .i64 Z,.int .i64 af,.int .i64 aa,.string ah,.int .i64 W,.int .i64 am,.int .i64 ae,.int .i64 ai,.string aj,.slice an K c2] 112 (0,0)) by rw [<-aq];exact Zc (k:=12) au);have aH:=hI (show Fr (fun b=>b=E) w2 F by rw [<-aq];exact(Qa _ w2).setCell _ (fun _=>rfl))
   try rw [aq]
   clear aq aA bB;have aY:=hI (show Below wr wr F from (L.trans (ab.mono L.size)).trans (aH.below (yl ab.size) (fun b z e=>ya)));have aG:=aE.below aY;have bG:=aH.size;obtain⟨-,bE,aO⟩:=az.slice (by rw [Ze (n:=136) ZL];have bD:=be.1;rw [Ze (n:=136) ZL] at bD;omega);have aC:PredS F (fun b=>False\/Beh w F (.slice O k U) b) an K:=qZ (qU aO (fun b z=>aH.block b (by rcases z with z | z;exact z.elim;exact z.2) (fun e=>by rcases z with z | z;exact z;have:=z.1;omega))) (fun b z=>by rcases z with z | z;exact z.elim;exact .inr ⟨yl z.1,yl z.2,fun e=>ym ((aE.base_le e.symm).2) z.1⟩);replace aC:=hI aC;replace aG:=hI aG;clear aO aV;have:yr F E 0 (.int .i64 R):=Za I 0 _ rfl;have:yr F E 1 (.int .i64 N):=Za I 1 _ rfl;have:yr F E 2 (.int .i64 ac):=Za I 2 _ rfl;have:yr F E 3 (.int .i64 Z):=Za I 3 _ rfl;have:yr F E 4 (.int .i64 af):=Za I 4 _ rfl;have:yr F E 5 (.int .i64 aa):=Za I 5 _ rfl;have:yr F E 6 (.string ah):=Za I 6 _ rfl;have:yr F E 7 (.int .i64 W):=Za I 7 _ rfl;have:yr F E 8 (.int .i64 am):=Za I 8 _ rfl;have:yr F E 9 (.int .i64 ae):=Za I 9 _ rfl;have:yr F E 10 (.int .i64 ai):=Za I 10 _ rfl;have:yr F E 11 (.string aj):=Za I 11 _ rfl;have:yr F E 12 (.slice an K c2):=Za I 12 _ rfl
   go_wp2_with (at_builtin;refine Zl rfl (.tmp 16) (.tmp 18) 102 rfl 136 underlying102 br bl bz bo rfl yf aG rfl #[.int .i64 R,.int .i64 N,.int .i64 ac,.int .i64 Z,.int .i64 af,.int .i64 aa,.string ah,.int .i64 W,.int .i64 am,.int .i64 ae,.int .i64 ai,.string aj,.slice an K c2] (ZdJ bE aR aS aC) (Zec _) (ZbW _) 1 rfl ya ya ?_;intro bj bg bH aW aZ bM;have bC:=hI aW;have bk:=hI aZ;clear aW aZ)
   go_roundw
   case rel=>exact⟨k+1,some ⟨bj,0,none⟩,bg,ya,by go_num,rfl,by rw [bh,qm,List.map_singleton];exact bC,(M.trans (aY.mono bt)).trans bk⟩
   simp [intOf];omega
  obtain rfl:k=l.length:=ya;have ap:=aE.out;rw [qM] at ap;replace ap:=hI ap
  go_wp2
  exact qw (v:=.slice O l U) (by simp [results,results102,go_sem]) rfl ⟨O,U,rfl,ap,M⟩
theorem DskP.refl_ {d room:Nat} {V:Nat->Value} {E:Nat->Int} {z:List (List Int)} {w w':World} (h:DskM w' d room V E z) (F:Fr (DskX d V) w w'):DskP d room V z w w':=⟨V,E,h,F,fun _ H=>.inl H⟩
theorem dsync1_any {room:Nat} {V:Nat->Value} {F:Nat->Int} (i:Nat) (z:i<8) (h:DskM w n room V F J) (I:w.heap[k]?=some (.cells #[.pointer (some ⟨n,1+i*2,none⟩)] 248 (0,0))) :
 Calls prog 264 #[.pointer (some ⟨k,0,none⟩)] w fun e w'=>e=.returned (.tuple #[])/\DskP n room V J w w':=by
 have N:=hI h;obtain⟨A,c,H,K⟩:=h.form z;have c1:=h.file z;have:w.frozen? ⟨n,1+i*2+1,none⟩=false:=Zd h.blk;have:yr w n (1+i*2+1) (.int .i64 (F i)):=h.sync z;have:yr w k 0 (.pointer (some ⟨n,1+i*2,none⟩)):=Za I 0 _ rfl;rw [H] at c1;generalize (J.getD i []).length=m at c1;clear h I H K;go_enter func264,ntmps264
 go_region
 obtain⟨M,L⟩:=(N.keep (w':=w.drew) (fun _ _=>rfl)).putN z (m:Int)
 go_end0
 exact⟨rfl,.refl_ M (((Qa _ w).drew).trans L (fun b _ h=>.inl h))⟩
theorem dsync_any {room:Nat} {V:Nat->Value} {L:Nat->Int} (Z:k<8) (h:DskM w n room V L J) :
 Calls prog 230 #[.pointer (some ⟨n,0,none⟩),.int .i64 (k:Int)] w fun e w'=>e=.returned (.int .i64 0)/\DskP n room V J w w':=by
 have R:=hI h;have ai:=h.lt;have:(0:Int)<=(k:Int):=ya;have:(k:Int)<8:=ya;clear h;go_enter func230,ntmps230
 go_wp2_with fail
 refine(ZeB Z R).mono ?_;rintro e H ⟨rfl,rfl⟩;go_upto_region 5 with fail
 obtain⟨x,O⟩:=yp H.heap.size;obtain⟨F,I,z,-⟩:=al H (.cells #[.pointer (some ⟨n,1+k*2,none⟩)] 248);have z:=z.out;have ac:=hI (show F.heap[x]?=some (.cells #[.pointer (some ⟨n,1+k*2,none⟩)] 248 (0,0)) by rw [<-I,<-O];exact qb H _);have W:=hI (R.below z);replace z:=hI z;have p0:=W.plan;rw [O,I];clear I O
 have U:∀ (a:Value) (w:World),(callFunc 264 #[a]).run prog w=.ok (.enter 264 #[a]) w:=fun a w=>by
  go_simp
 go_wp2_with fail
 refine(gate1_any (.pointer (some ⟨x,0,none⟩)) (fun w'=>DskP n room V J F w') p0 (U _) (dsync1_any k Z W ac)).mono ?_;rintro e ah ⟨rfl,ae,af,K,N,M⟩;replace K:=hI K;replace N:=hI N;replace M:=hI M;clear U p0
 go_wp2
 go_ret;refine⟨rfl,ae,af,K,(qW z).trans N (fun _ _ h=>h),fun q ab=>?_⟩;rcases M.out q ab with aa | aa
 .exact .inl aa
 exact .inr (yl z.size)
def JsyP (j d i ne room:Nat) (V1 V2:Value) (S:Nat->Prop) (z:List (List Int)) (V:Nat->Value) (E:List (List Int)) (w w':World):Prop :=
 JrnM w' j d i V1 V2 S z ne/\DskP d room V E w w'
theorem jsync_any {ne room:Nat} {V:Nat->Value} {N:Nat->Int} {K:List (List Int)} (aa:JrnM w n k m x xA S J ne) (H:DskM w k room V N K) (W:∀ b,S b->¬ DskX k V b) (aw:m<8) :
 Calls prog 193 #[.pointer (some ⟨n,0,none⟩)] w fun e w'=>e=.returned (.int .i64 0)/\JsyP n k m ne room x xA S J V K w w':=by
 have af:=hI aa;replace H:=hI H;replace W:=hI W;have ay:=aa.cell4;clear aa;go_enter func193,ntmps193
 go_wp2_with fail
 obtain⟨ab,L,ae,-⟩:=dr w;have E:=hI (show JrnM ab n k m x xA S J ne by rw [<-L];exact af.keep nR (fun _ _=>rfl));have aj:=hI (show DskM ab k room V N K by rw [<-L];exact H.keep (fun _ _=>rfl));have c0:=E.cell0;have ao:=E.cell1;refine uS (fun w'=>w'.cell? ⟨n,0,none⟩=some (.pointer (some ⟨k,0,none⟩))/\w'.cell? ⟨n,1,none⟩=some (.int .i64 (m:Int))) 12 12 fun Q' ai ac=>?_;rw [L];clear L af H;refine uR [0,9] ac ⟨c0,ao⟩ ?_;refine uQ 9 fun M F=>?_;go_simp;refine(dsync_any aw aj).mono ?_;rintro e w2 ⟨rfl,ar,av,ak,I,ah⟩;have an:=hI ak;have au:=hI I;have ap:=hI ah
 have U := hI (E.keep I.size (fun b z => I.block b (by
  rcases z with z | z
  .exact E.xlt b z
  .exact E.slt b z) (fun am=>by
  rcases z with z | z
  .exact(Zhd E aj z) am
  exact W b z am)))
 have Z:=U.cell0;have O:=U.cell1;clear ak I ah;refine F _ _ (fun _=>⟨Z,O⟩) ?_;clear F M
 try simp only [Act.put,psA,psB,psC]
 refine uQ 10 fun M F=>?_;go_simp;refine(ZhV).mono ?_;rintro e w2 ⟨rfl,rfl⟩;refine F _ _ (fun _=>⟨Z,O⟩) ?_;clear F M
 try simp only [Act.put,psA,psB,psC]
 refine uR [11,1] ac ⟨Z,O⟩ ?_;refine uE ai ?_;clear ai ac Q'
 go_wp2
 go_ret;refine⟨rfl,U,ar,av,an,(qW ae).trans au (fun _ _ h=>h),fun q aq=>(ap q aq).imp id (fun ax=>yl ae.size)⟩
end Go.Proofs.YtjadnfodboepeaaGreat
