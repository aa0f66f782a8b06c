import Derived.Test.YtjadnfodboepeaaGreatKkf
set_option linter.all false
set_option maxRecDepth 100000
set_option maxHeartbeats 8000000
namespace Go.Proofs.YtjadnfodboepeaaGreat
open Tryz
open Go.RowKit
variable {w:World} {n k m i:Nat} {A B:Option Addr} {S:Nat->Prop} {a:Int} {s:Sch} {P:Program} {K:Array Bool} {Q:Act}
theorem lessR_any {a b:Row} (z:RowS w S A a) (H:RowS w S B b) (K:∀ b,S b->b<w) :
 Calls prog 258 #[.slice A a n,.slice B b k] w (ZH (decide (cmpR a b<0)) w):=by
 replace z:=hI z;replace H:=hI H;obtain⟨N,E⟩:=yp (cmpR a b);have L:=hI E;rw [E];clear E;go_enter func258,ntmps258
 go_wp2_with fail
 refine(ZaU z H K).mono ?_;rw [L];rintro e M ⟨rfl,F⟩;replace F:=hI F
 go_wp2
 go_ret;exact⟨rfl,F⟩
def Zfr (n:Nat):List Value:=List.replicate n (.int .i64 0)
theorem run_make_intR (n:Nat) (N:n<=1000) (w:World) :
 (Instr.makeSlice 65 (.int .i64 (n:Int)) (.int .i64 (n:Int))).run prog w=.ok (.slice (some ⟨w,0,none⟩) n n) (w.alloc (.cells (Zfr n).toArray 3)):=by
 obtain⟨z,K,H,I,E⟩:=qA info3;have F:=run_make (P:=prog) w 65 3 z _ underlying65 K H .i64 .i64 n n ya ya (by rw [E];omega) ya;rw [F,I];simp only [qu]
 congr 3
 apply Array.ext
 .simp [size_madeCells,Zfr]
 intro i M L;simp [madeCells,Zfr,Value.cells,Nat.mod_one]
def lenVR:Value->Nat
 | .slice _ n _=>n
 | _=>0
def atVR (cl:Row->Nat) (T:List Row) (n k:Nat):List Value:=(List.range n).map fun i=>.int .i64 (posn cl T k i:Int)
theorem ZiL {cl:Row->Nat} {T:List Row} (h:m<n):(atVR cl T n k)[m]?=some (.int .i64 (posn cl T k m:Int)):=by simp [atVR,h]
theorem atVR_set {cl:Row->Nat} {T:List Row} (E:k<T) (z:m=cl T[k]) (K:m<n):(atVR cl T n k).set m (.int .i64 ((posn cl T k m:Int)+1))=atVR cl T n (k+1):=by
 apply List.ext_getElem
 .simp [atVR]
 intro i I F;have:i<n:=(by simpa [atVR] using F);rw [List.getElem_set];simp only [atVR,List.getElem_map,List.getElem_range];rw [ZhP E]
 by_cases e:m=i
 .subst e;rw [qr rfl,qr z.symm];simp
 rw [qo e,qo (fun H=>e (z.trans H))];simp
def BestVR (cl:Row->Nat) (T:List Row) (k j:Nat) (b:Value):Prop:=(b=.int .i64 (-1)/\∀ i,i<j->rest cl T k i=[])\/∃ (c:Nat) (y:Row) (r:List Row),b=.int .i64 (c:Int)/\Best cmpR cl T k j c y r
theorem mergeR_any {T:List Row} {cl:Row->Nat} (aI:Sl w S A ((ZT k cl T).map Zx)) (I:∀ b,S b->b<w) (cU:k<=4) (br:T.Pairwise (fun a b=>cmpR a b<0)) (bi:∀ x ∈ T,cl x<k) (cK:T.length<=1000) :
 Calls prog 257 #[.slice A k n,.func (.func 258) #[] #[]] w (fun e w'=>∃ aV c,e=.returned (.slice aV T c)/\T.length<=c/\RowsS w' (fun b=>S b\/New w w' b) aV T/\Below w w w'):=by
 replace aI:=hI aI;replace br:=hI br;replace bi:=hI bi;obtain⟨ck,b0,cf,cj,cG⟩:=qA ZiG;have ax:=run_make_intR k ya;go_enter func257,ntmps257;go_upto_region 2 with fail
 clear ax;obtain⟨w0,E,ba,aM,aT,-⟩:=ag w (.cells (Zfr k).toArray 3);have aT:=aT.out
 have bN:=hI (show w0.heap[E]?=some (.cells (atVR cl T k 0).toArray 3 (0,0)) by
  have e:atVR cl T k 0=Zfr k:=by
   apply List.ext_getElem
   .simp [atVR,Zfr]
   intro i bf aY;simp [atVR,Zfr,posn]
  rw [e,<-ba,<-aM];exact qb w _)
 have:E+1<=w0/\w0<=E+1:=(by rw [<-ba,<-aM];simp);have bT:=hI aT;have:w<=E/\E<=w:=ya;rw [ba]
 try rw [aM]
 clear ba aM aT;have bZ:=hI (Qe (w:=w0) (base:=w0) (S0:=S) (fun b F=>yl (I b F)) nR 116 1)
 go_wp2
 go_loopw [6] (fun v wr=>∃ (cu:Nat) (aV:Option Addr) (c:Nat),cu<=T/\v=.slice aV cu c/\Fr (fun b=>b=E) w0 wr/\wr.heap[E]?=some (.cells (atVR cl T k cu).toArray 3 (0,0))/\Mk wr w0 S 116 1 (.slice aV cu c) ((T.take cu).map Zy)) (fun v _=>T.length+1 - lenVR v)
 case atStart=>exact⟨0,none,0,qk _,rfl,Qa _ _,bN,by rw [List.take_zero];exact bZ⟩
 clear bZ bN;obtain⟨cu,aV,c,cO,rfl,bH,bc,ax⟩:=hrel;have bq:=hI bH;replace bc:=hI bc;replace ax:=hI ax;have cL:=bH.size;clear bH
 go_wp2_with fail
 obtain⟨ao,rfl⟩:∃ ao:World,ao=wr:=⟨_,rfl⟩
 go_loopw [7,15] (fun b i wr=>∃ j:Nat,j<=k/\i=.int .i64 j/\BestVR cl T cu j b/\Below ao ao wr) (fun _ i _=>k - (intOf i).toNat)
 case atStart=>exact⟨0,qk _,rfl,.inl ⟨rfl,fun i h=>absurd h ya⟩,qa _ _⟩
 obtain⟨j,cN,rfl,aH,bo⟩:=hrel;have aa:=hI bo;have cp:=bo.size;clear bo;have bk:=hI (show Same S w wr from fun b F=>(aa.block b (yl (I b F))).trans ((bq.block b (yl (I b F)) (yl (I b F))).trans (bT.block b (I b F))));have aE:=hI ((aa.block E (Zb bc)).trans bc);have bp:=Zb aE
 by_cases aP:j<k
 .have ct:decide (j<k)=true:=(by simp [aP]);have:(0:Int)<=(j:Int):=ya;have:(j:Int)<(k:Int):=ya;have cx:j<(ZT k cl T).length:=(by rw [ZQ];exact aP);obtain⟨L,aF,rfl,aW,cI,cS,aQ,bh,l2⟩:=StS.at_ (show StS wr S A (ZT k cl T) from qU aI bk) cx;rw [ZaH aP] at aQ bh l2;have bP:=hI l2;have bF:L<wr:=(yl (I L aW))
  have p0:wr.cell? ⟨E,j,none⟩=some (.int .i64 (posn cl T cu j:Int)):=by
   have R:=Za aE j _ (show (atVR cl T k cu).toArray.toList[j]?=_ from ZiL aP);rwa [qx] at R
  clear bh l2;have cd:(T.filter fun x=>cl x == j).length<=1000:=(by have:=qI (fun x=>cl x == j) T;omega);have bU:=Zka (cl:=cl) (T:=T) cu j;have aN:=hI (fun (h:rest cl T cu j=[])=>Zjd h);have aS:=hI (fun (an:Row) (q:List Row) (h:rest cl T cu j=an :: q)=>ZbB h);obtain⟨aq,bX⟩:=yp (posn cl T cu j);obtain⟨b5,b7⟩:=yp (T.filter (fun x=>cl x == j));rw [bX] at p0 bU aN aS;rw [b7] at aQ bP cd bU aN aS;clear bX b7;go_upto_region 7 with fail
  rcases M:rest cl T cu j with _ | ⟨an,q⟩
  .have cT:=aN M;replace M:=hI M;replace aH:=hI aH;refine uP (fun w'=>w'.cell? ⟨E,j,none⟩=some (.int .i64 (aq:Int))) 32 32 [0,32] p0 ?_;have az:=hI (show Below ao ao wr.drew from aa.drew)
   go_wp2
   go_roundw
   case rel =>
    refine⟨j+1,ya,by go_num,?_,az⟩;rcases aH.out with ⟨bf,aY⟩ | ⟨z,y,r,bf,aY⟩
    .refine .inl ⟨bf,fun i b0=>?_⟩;rcases qv i j with bL | bL
     .exact aY i bL
     obtain rfl:i=j:=ya;exact M
    exact .inr ⟨z,y,r,bf,aY.skip M⟩
   (simp [intOf];omega)
  obtain⟨cv,bO,ci,cr⟩:=aS an q M;have:(0:Int)<=(aq:Int):=ya;have:(aq:Int)<(b5:Int):=ya;replace M:=hI M;have bI:b5.getD aq []=an:=(by simp [List.getD,bO]);clear bO ci cr aN aS;rcases aH with ⟨rfl,av⟩ | ⟨z,y,r,rfl,Z⟩
  .replace av:=hI av;clear bI;refine uP (fun w'=>w'.cell? ⟨E,j,none⟩=some (.int .i64 (aq:Int))) 32 32 [0,32] p0 ?_;have az:=hI (show Below ao ao wr.drew from aa.drew)
   go_wp2
   go_roundw
   case rel=>exact⟨j+1,ya,by go_num,.inr ⟨j,an,q,rfl,Best.first Zfv av M⟩,az⟩
   (simp [intOf];omega)
  have bW:=hI Z;have cJ:=Z.lt;obtain⟨ap,U,bD,bJ⟩:=ZbB Z.hd;have af:z<k:=ya
  have O:wr.cell? ⟨E,z,none⟩=some (.int .i64 (posn cl T cu z:Int)):=by
   have R:=Za aE z _ (show (atVR cl T k cu).toArray.toList[z]?=_ from ZiL af);rwa [qx] at R
  obtain⟨cQ,cP,bz,_,bl,bE,K,_,ae⟩:=StS.at_ (show StS wr S (some ⟨L,aF,none⟩) (ZT k cl T) from qU aI bk) (k:=z) (by rw [ZQ];exact af);injection bz with bz;injection bz with cF co;subst cF co;rw [ZaH af] at K ae;have bw:(T.filter fun x=>cl x == z).length<=1000:=(by have:=qI (fun x=>cl x == z) T;omega);obtain⟨H,aJ⟩:=yp (posn cl T cu z);obtain⟨ac,aL⟩:=yp (T.filter (fun x=>cl x == z));rw [aJ] at O ap U;rw [aL] at K ae bw ap U;have aG:ac.getD H []=y:=(by simp [List.getD,U]);have cw:(0:Int)<=(H:Int):=ya;have cA:(H:Int)<(ac:Int):=ya;have cn:(0:Int)<=(z:Int):=ya;have cc:(z:Int)<(k:Int):=ya;have ch:decide ((z:Int)<0)=false:=qe ya;obtain⟨bB,cH,rfl,b9,b4,b1,aB,bM,aZ⟩:=Qj bP cv;rw [bI] at aB bM aZ;obtain⟨by_,ay,rfl,aU,aj,ai,N,ar,W⟩:=Qj (show RowsS wr S bl ac from ae) ap;rw [aG] at N ar W;replace aZ:=hI aZ;replace W:=hI W;have ce:bB<wr:=(yl (I bB b9));have bG:by_<wr:=(yl (I by_ aU));clear bM ar ae bI aG;clear aJ aL U bD bJ Z;refine uS (fun w'=>w'.cell? ⟨E,j,none⟩=some (.int .i64 (aq:Int))/\w'.cell? ⟨E,z,none⟩=some (.int .i64 (H:Int))/\w'.cell? ⟨L,aF+z,none⟩=some (.slice (some ⟨by_,ay,none⟩) ac.length bE)/\w'.cell? ⟨bB,cH+aq,none⟩=some (.slice b4 an b1)/\w'.cell? ⟨by_,ay+H,none⟩=some (.slice aj y ai)) 32 32 fun Q' aA au=>?_;refine uR [0,29] au ⟨p0,O,K,aB,N⟩ ?_;refine uQ 29 fun aK aD=>?_;go_simp;refine(lessR_any (aZ.keep (w':=wr.drew) (fun _ _=>rfl)) (W.keep (w':=wr.drew) (fun _ _=>rfl)) (fun b F=>by have:=I b F;show b<wr;omega)).mono ?_;rintro e cE ⟨rfl,bC⟩;have am:Below wr wr cE:=(qa _ wr).drew.trans bC;have r0:=c9Q am bp p0;have bb:=c9Q am bp O;have bg:=c9Q am bF K;have aX:=c9Q am ce aB;have be:=c9Q am bG N;refine aD _ _ (fun _=>⟨r0,bb,bg,aX,be⟩) ?_;clear aD aK
  try simp only [Act.put,psA,psB,psC]
  refine uR [30,2] au ⟨r0,bb,bg,aX,be⟩ ?_;refine uE aA ?_;clear aA au Q';have az:=hI (aa.trans (am.mono cp))
  by_cases ak:cmpR an y<0
  .rw [qt ak];replace ak:=hI ak;clear am bC r0 bb bg aX be p0 O K aB N
   go_wp2
   go_roundw
   case rel=>exact⟨j+1,ya,by go_num,.inr ⟨j,_,q,rfl,bW.turn Zfv M ak⟩,az⟩
   (simp [intOf];omega)
  rw [qe ak];replace ak:=hI ak;clear am bC r0 bb bg aX be p0 O K aB N
  go_wp2
  go_roundw
  case rel=>exact⟨j+1,ya,by go_num,.inr ⟨z,_,r,rfl,bW.stay M ak⟩,az⟩
  (simp [intOf];omega)
 have ct:decide (j<k)=false:=yd;obtain rfl:j=k:=ya;rcases aH with ⟨rfl,av⟩ | ⟨z,y,r,rfl,Z⟩
 .have bm:=hI (Zje bi av);have bY:=hI (show cu=T.length by have R:=congrArg List.length bm;rw [qG] at R;omega);have b2:=hI ((ax.below aa).slice (by rw [bm,Ze (n:=24) (fun _=>rfl)];omega));have cq:=hI (show Below w w wr from bT.trans ((bq.below (n:=w) ya (fun b F=>ya)).trans (aa.mono ya)));clear av
  go_wp2
  go_ret;refine⟨aV,c,by rw [<-bY];rfl,by rw [<-bY];exact b2.2.1,?_,cq⟩;have R:=b2.2.2;rw [bm] at R;exact qZ R (fun b F=>F.imp id (fun F=>⟨ya,F.2⟩))
 obtain⟨bV,bR,bQ⟩:=Z.next Zfv br bi;obtain⟨ap,U,bD,bJ⟩:=ZbB Z.hd;have af:=Z.lt;have cg:=hI (show T.take (cu+1)=T.take cu++[y] by rw [qj bV,bR])
 have O:wr.cell? ⟨E,z,none⟩=some (.int .i64 (posn cl T cu z:Int)):=by
  have R:=Za aE z _ (show (atVR cl T j cu).toArray.toList[z]?=_ from ZiL af);rwa [qx] at R
 obtain⟨L,aF,rfl,aW,bl,bE,K,_,ae⟩:=StS.at_ (show StS wr S A (ZT j cl T) from qU aI bk) (k:=z) (by rw [ZQ];exact af);rw [ZaH af] at K ae;have bF:L<wr:=(yl (I L aW));have bw:(T.filter fun x=>cl x == z).length<=1000:=(by have:=qI (fun x=>cl x == z) T;omega);have bS:=hI (show (atVR cl T j cu).set z (.int .i64 ((posn cl T cu z:Int)+1))=atVR cl T j (cu+1) from atVR_set bV bQ af);obtain⟨H,aJ⟩:=yp (posn cl T cu z);obtain⟨ac,aL⟩:=yp (T.filter (fun x=>cl x == z));rw [aJ] at O ap U bS;rw [aL] at K ae bw ap U;have aG:ac.getD H []=y:=(by simp [List.getD,U]);have cw:(0:Int)<=(H:Int):=ya;have cA:(H:Int)<(ac:Int):=ya;have cn:(0:Int)<=(z:Int):=ya;have cc:(z:Int)<(j:Int):=ya;have ch:decide ((z:Int)<0)=false:=qe ya;obtain⟨by_,ay,rfl,aU,aj,ai,N,ar,W⟩:=Qj (show RowsS wr S bl ac from ae) ap;rw [aG] at N ar W;replace W:=hI W;replace ar:=hI ar;have bG:by_<wr:=(yl (I by_ aU));clear ae aG;clear aJ aL U bD bJ Z bR bQ;have:cu<=1000:=by omega
 go_wp2
 refine uS (fun w'=>w'.cell? ⟨E,z,none⟩=some (.int .i64 (H:Int))/\w'.cell? ⟨L,aF+z,none⟩=some (.slice (some ⟨by_,ay,none⟩) ac.length bE)/\w'.cell? ⟨by_,ay+H,none⟩=some (.slice aj y ai)) 14 14 fun Q' aA au=>?_;obtain⟨aC,bu,aw,-⟩:=dr wr;have:wr.heap.size<=aC:=(by rw [<-bu];exact qp _);have cD:=hI ((ax.below aa).below aw);have cm:=hI (W.keep (fun b F=>aw.block b (yl (I b F))));have bn:=c9Q aw bp O;have bt:=c9Q aw bF K;have bj:=c9Q aw bG N;rw [bu];clear bu;refine uR [0,11] au ⟨bn,bt,bj⟩ ?_;refine uQ 11 fun aK aD=>?_;go_simp;have aQ:(aC.alloc (.cells #[.slice aj y ai] 116)).cell? ⟨E,z,none⟩=_:=(Zh ya).trans bn;have bh:(aC.alloc (.cells #[.slice aj y ai] 116)).cell? ⟨L,aF+z,none⟩=_:=(Zh ya).trans bt;have l2:(aC.alloc (.cells #[.slice aj y ai] 116)).cell? ⟨by_,ay+H,none⟩=_:=(Zh ya).trans bj;refine aD _ _ (fun _=>⟨aQ,bh,l2⟩) ?_;clear aD aK
 try simp only [Act.put,psA,psB,psC]
 refine uQ 12 fun aK b3=>?_;refine Zbc yg (.tmp 57) (.tmp 68) 145 yg 24 underlying145 b0 cf cj cG rfl yf cD yg #[.slice aj y ai] (Zah ar (cm.more (fun b F=>Or.inl F))) (by simp [Zy,Dat.Plain]) rfl 1 yg ya ya ?_;intro ca cz ah aR b6 cR;replace aR:=hI aR;have ab:=hI (show Below w0 wr ah from (aw.mono ya).trans b6);have bK:=hI (show ah.heap[E]?=some (.cells (atVR cl T j cu).toArray 3 (0,0)) from (ab.block E ya).trans aE);have aO:yr ah E z (.int .i64 (H:Int)):=c9J ab O;have n1:=c9Q ab (by show L<w0;have:=I L aW;omega) K;have n2:=c9Q ab (by show by_<w0;have:=I by_ aU;omega) N;clear b6;refine b3 _ _ (fun _=>⟨aO,n1,n2⟩) ?_;clear b3 aK
 try simp only [Act.put,psA,psB,psC]
 refine uR [13,1] au ⟨aO,n1,n2⟩ ?_;refine uE aA ?_;clear aA au Q';have cy:=hI (show (ah.setCell ⟨E,z,none⟩ (.int .i64 ((H:Int)+1))).heap[E]?=some (.cells (atVR cl T j (cu+1)).toArray 3 (0,0)) by rw [<-bS];exact Zc bK);have b8:=hI (aR.keep ((Qa (fun b=>b=E) ah).setCell (.int .i64 ((H:Int)+1)) (g:=E) (o:=z) (fun _=>rfl)) (fun b F=>⟨ya,fun h=>yl (I b h)⟩));have cC:=hI (show Fr (fun b=>b=E) w0 (ah.setCell ⟨E,z,none⟩ (.int .i64 ((H:Int)+1))) from ((bq.trans (qW aa) (Y:=fun _=>False) (fun b F h=>h.elim)).trans (Y:=fun b=>w0<=b) ⟨ab.os,ab.tape,ab.output,ab.size,fun b F cM=>ab.block b ya⟩ (fun b F h=>absurd F ya)).setCell _ (fun _=>rfl));have:yr ah E z (.int .i64 (H:Int)):=aO;have:ah.frozen? ⟨E,z,none⟩=false:=(by simp [World.frozen?,bK.out]);clear aR bK bn aO bt n1 bj n2 O K N
 go_wp2
 go_roundw
 case rel =>
  refine⟨cu+1,some ⟨ca,0,none⟩,cz,ya,yb,cC,cy,?_⟩;rw [cg,qm];exact b8
 (simp [lenVR];omega)
def Zbg (st:St):Dat:=.slice (st.map Zx)
theorem ZiX {z:List St} (h:Sl w S A (z.map Zbg)) (H:n<z):∃ b E,A=some ⟨b,E,none⟩/\S b/\∃ A' c,yr w b (E+n) (.slice A' (z.getD n []).length c)/\(z.getD n []).length<=c/\StS w S A' (z.getD n []):=by
 obtain⟨b,E,e,N,F⟩:=Qf (n:=1) (fun _=>rfl) [] h H;rw [Nat.mul_one] at F;simp only [Zbg,Dat.Held,qg] at F;obtain⟨A',c,I,M,K,L⟩:=F;exact⟨b,E,e,N,A',c,I,M,⟨by simpa using K,by simpa using L⟩⟩
def LL (cl:Row->Nat) (T:List Row) (i j:Nat):Nat->Nat->List Dat:=fun _ q=>if q<i then (T.filter fun x=>cl x == q).map Zy else if q=i then ((T.filter fun x=>cl x == i).take j).map Zy else []
theorem LL_next {cl:Row->Nat} {T:List Row} (h:(T.filter fun x=>cl x == n).length<=k) :LL cl T (n+1) 0 m i=LL cl T n k m i:=by
 unfold LL
 by_cases z:i<n
 .rw [qr z,qr ya]
 rw [qo z]
 by_cases E:i=n
 .subst E;rw [qr rfl,qr ya,qs h]
 rw [qo E,qo ya]
 by_cases F:i=n+1
 .rw [qr F];simp
 rw [qo F]
theorem LL_step {cl:Row->Nat} {T:List Row} {row:Row} (h:(T.filter fun x=>cl x == n)[k]?=some row) :LL cl T n (k+1) m i=upd (LL cl T n k) 0 n (LL cl T n k 0 n++[Zy row]) m i\/m≠0:=by
 by_cases F:m=0
 .subst F;left
  by_cases E:i=n
  .subst E;rw [ZaF];unfold LL;rw [qo ya,qr rfl,qo ya,qr rfl,List.take_add_one,h];simp
  rw [Zbz ya];unfold LL
  by_cases z:i<n
  .rw [qr z,qr z]
  rw [qo z,qo E,qo z,qo E]
 exact .inr F
theorem LL_len {cl:Row->Nat} {T:List Row} (h:k<=(T.filter fun x=>cl x == n).length):(LL cl T n k 0 n).length=k:=by
 unfold LL;rw [qo ya,qr rfl,qg,qG];omega
theorem joined_any (n ct t:Nat) (ac:List St) (T:List Row) (cl:Row->Nat) (U:Sl w S A (ac.map Zbg)) (aX:ac.length=n) (cu:n<=4) (O:∀ b,S b->b<w)
 (aQ:∀ i,i<n->t<(ac.getD i []).length/\(ac.getD i []).getD t []=T.filter fun x=>cl x == i) (aL:T.Pairwise (fun a b=>cmpR a b<0)) (aY:∀ x ∈ T,cl x<n) (bX:T.length<=1000) (aN:∀ r ∈ T,0<r.length/\r.length<=12) :
 Calls prog 221 #[.slice A n ct,.int .i64 (t:Int)] w (fun e w'=>∃ aT c,e=.returned (.slice aT T c)/\T.length<=c/\RowsS w' (New w w') aT T/\Below w w w'):=by
 replace U:=hI U;replace aX:=hI aX;replace aQ:=hI aQ;replace aL:=hI aL;replace aY:=hI aY;replace aN:=hI aN;obtain⟨cc,cq,b0,b6,cF⟩:=qA ZhX;obtain⟨bR,cd,co,bZ,bP⟩:=qA ZiG;have cf:=ZaQ n ya;go_enter func221,ntmps221;go_upto_region 2 with fail
 clear cf;obtain⟨H,E,aw,aE,aI,-⟩:=ag w (.cells (Zk n).toArray 145);have aI:=aI.out;have:E+1<=H/\H<=E+1:=(by rw [<-aw,<-aE];simp);have bD:=hI (Grid.start (w:=H) (B0:=H) (n:=1) (T:=n) (G:=fun _=>E) (TT:=145) (e:=116) (size:=1) (S0:=fun _=>False) (fun i _=>by rw [<-aw,<-aE];exact qb w _) (fun i bL cU cP _=>ya) (fun i _=>ya) (fun b z=>z.elim) nR);have aV:=hI aI;have:w<=E/\E<=w:=ya;rw [aw]
 try rw [aE]
 clear aw aE aI
 go_wp2
 go_loopw [15] (fun i wr=>∃ (k:Nat) (V:Nat->Nat->Value),k<=n/\i=.int .i64 k/\Fr (fun b=>b=E) H wr/\Grid wr H 116 145 1 (fun _=>False) 1 n (fun _=>E) V V (LL cl T k 0)) (fun i _=>n - (intOf i).toNat)
 case atStart=>exact⟨0,_,qk _,rfl,Qa _ _,bD.congr (fun i j _ _=>by unfold LL;split;{ omega };split<;>simp)⟩
 clear bD;obtain⟨k,V,cK,rfl,Z,F⟩:=hrel;have L:=hI Z;replace F:=hI F;have cI:=Z.size;clear Z
 by_cases K:k<n
 .have:(0:Int)<=(k:Int):=ya;have:(k:Int)<(n:Int):=ya;have bb:=hI (show Same S w wr from fun b z=>(L.block b (yl (O b z)) (yl (O b z))).trans (aV.block b (O b z)));obtain⟨cH,op,rfl,cQ,A',bG,bg,b9,aZ⟩:=ZiX (show Sl wr S A (ac.map Zbg) from qU U bb) (n:=k) (by rw [aX];exact K);obtain⟨bH,bw⟩:=aQ k K;obtain⟨aC,bF,rfl,bV,cE,c2,ai,bj,aq⟩:=aZ.at_ bH;rw [bw] at ai bj aq;replace aq:=hI aq;have b4:aC<wr:=(yl (O aC bV));have ba:=hI (show ∀ r ∈ (T.filter fun x=>cl x == k),r ∈ T from fun r cz=>(List.mem_filter.1 cz).1);have cj:(T.filter fun x=>cl x == k).length<=1000:=(by have:=qI (fun x=>cl x == k) T;omega);obtain⟨aK,bo⟩:=yp ((ac.getD k []).length);rw [bo] at bg bH;have:(0:Int)<=(t:Int):=ya;have:(t:Int)<(aK:Int):=ya;have bm:=hI (fun j (row:Row) (h:(T.filter fun x=>cl x == k)[j]?=some row) (a q:Nat)=>LL_step (cl:=cl) (T:=T) h (m:=a) (i:=q));have bp:=hI (fun j (h:(T.filter fun x=>cl x == k).length<=j) (a q:Nat)=>LL_next (cl:=cl) (T:=T) h (m:=a) (i:=q));have bI:=hI (fun j (h:j<=(T.filter fun x=>cl x == k).length)=>LL_len (cl:=cl) (T:=T) h);clear b9 aZ bj bo bw;obtain⟨I,br⟩:=yp ((T.filter fun x=>cl x == k));rw [br] at ai aq ba cj bm bp bI;clear br;go_upto_region 5 with fail
  obtain⟨w2,be,ae,aS⟩:=al wr (.cells #[.slice (some ⟨aC,bF,none⟩) aK bG] 28);have ae:=ae.out;have b2:yr w2 wr 0 (.slice (some ⟨aC,bF,none⟩) aK bG):=Za aS 0 _ rfl;have ai:=c9Q ae b4 ai;have bz:=hI (F.below ae);have bJ:=hI (L.trans (qW ae) (Y:=fun _=>False) (fun b z h=>h.elim));have cS:=Zb aS;rw [be];clear be ae bg aS F L
  go_wp2
  go_loopw [26] (fun i wr=>∃ (j:Nat) (V:Nat->Nat->Value),j<=I/\i=.int .i64 j/\Fr (fun b=>b=E) H wr/\Grid wr H 116 145 1 (fun _=>False) 1 n (fun _=>E) V V (LL cl T k j)) (fun i _=>I.length - (intOf i).toNat)
  case atStart=>exact⟨0,V,qk _,rfl,bJ,bz⟩
  clear bJ bz b2 ai;obtain⟨j,V,ak,rfl,Z,F⟩:=hrel;have L:=hI Z;replace F:=hI F;have cN:=Z.size;clear Z;have cv:=hI (show Same S w wr from fun b z=>(L.block b (yl (O b z)) (yl (O b z))).trans (aV.block b (O b z)))
  by_cases av:j<I
  .have:(0:Int)<=(j:Int):=ya;have:(j:Int)<(I:Int):=ya;obtain⟨cJ,cG,rfl,cV,cL,cC,f1,bh,f3⟩:=Qj (show RowsS wr S cE I from qU aq (fun b z=>(cv b z).trans (bb b z).symm)) av;have bM:=hI (bm j (I.getD j []) (by simp [List.getD,av]));have aR:=aN (I.getD j []) (ba _ (by rw [show I.getD j []=I[j] by simp [List.getD,av]];exact qJ av));obtain⟨row,bE⟩:=yp (I.getD j []);rw [bE] at f1 bh f3 bM aR;clear bE;have aB:=hI (bI j ak);obtain⟨aH,aP⟩:=yp row.length;have aA:=hI aP;obtain⟨az,bn,rfl,cn,ap⟩:=f3.vals ya;replace ap:=hI ap;have cD:=hI f3.ok;have b1:az<wr:=(yl (O az cn));rw [aP] at f1 bh aR;obtain⟨bW,cO⟩:=aR;clear f3 aP
   go_wp2_with fail
   obtain⟨bN,b8,ab⟩:=F.form (i:=0) (j:=k) ya K;obtain⟨aa,au⟩:=F.cell (i:=0) (j:=k) ya K;rw [ab] at aa;rw [aB] at aa ab;replace ab:=hI ab;have cr:=hI (show ∀ b,(V 0 k).ownBlock=some b->H<=b/\b<wr.heap.size from fun b e=>(F.own 0 k ya K).lt e);have am:E<wr:=ya;clear f1;refine uS (fun w'=>w'.frozen? ⟨E,k,none⟩=false/\w'.cell? ⟨E,k,none⟩=some (.slice bN j b8)) 11 12 fun Q' bf U=>?_;obtain⟨R,bk,an,cM⟩:=dr wr;have cp:=hI (F.below an);have aa:=c9Q an am aa;have au:=(an.frozen (p:=⟨E,k,none⟩) am).trans au
   have ap:=hI (show ∀ q u,(Zq row)[q]?=some u->R.cell? ((⟨az,bn,none⟩:Addr).add q)=some u from fun q u aU=>by
    have M:=ap q u aU;rw [add_none] at M ⊢;exact c9Q an b1 M)
   have am:E<R:=ya;rw [bk];clear bk;refine uR [0,7] U ⟨au,aa⟩ ?_;refine uQ 7 fun W ar=>?_;refine step_append_lies _ yg (.const (.slice none 0 0)) (.tmp 36) 116 yg R 108 cc _ 3 32 underlying116 cq b0 b6 cF rfl yf (.slice none 0 0) 0 [] yg (qV _ _ _ _) ⟨az,bn,none⟩ aH cC (Zq row) yg (by rw [ZaX,aA]) ap (ZaW row) bW yh ya nR R.heap.size rfl ?_;intro ax aj N aF af cw b3;rw [qP,qx] at aF;have cg:=hI aF;have ah:Below R R N:=⟨af.os,af.tape,af.output,af.size,fun b z=>af.block b z (by simp [Value.ownBlock])⟩;have bC:=hI (show Below wr wr N from an.trans (ah.mono ya));have ck:=hI (cp.below ah);have bi:=c9Q ah am aa;have bu:=(ah.frozen (p:=⟨E,k,none⟩) am).trans au;have cW:=ah.size;have bl:E<N:=ya;have bQ:=Zas aF rfl;clear aF af cw b3 ah;refine ar _ _ (fun _=>⟨bu,bi⟩) ?_;clear ar W;rw [qx]
   try simp only [Act.put,psA,psB,psC]
   refine uQ 8 fun W ao=>?_;go_simp;have bY:(N.alloc (.cells #[.slice (some ⟨ax,0,none⟩) aH aj] 116)).frozen? ⟨E,k,none⟩=_:=(ZK bl).trans bu;have l2:(N.alloc (.cells #[.slice (some ⟨ax,0,none⟩) aH aj] 116)).cell? ⟨E,k,none⟩=_:=(Zh bl).trans bi;refine ao _ _ (fun _=>⟨bY,l2⟩) ?_;clear ao W
   try simp only [Act.put,psA,psB,psC]
   refine uQ 9 fun W ar=>?_
   refine ZaG yg (.tmp 35) (.tmp 38) 145 yg (F:=bR) 24 underlying145 cd co bZ bP rfl yf (w0:=N) ck (i:=0) (j:=k) ya K (by rw [ab];rfl) (d:=Zy row) #[.slice (some ⟨ax,0,none⟩) aH aj] (by
    have M:=Zag cD (show N.ownsRow R 108 3 (.slice (some ⟨ax,0,none⟩) row.length aj) row.length (Zq row) by rw [aA];exact cg)
    have bB:=Zah (n:=aj) (by rw [aA];exact bQ) (M.more (S':=Oth (fun _=>False) N H 1 n V) (fun b z=>Or.inr ⟨yl z.1,z.2,fun bL cm bU cy e=>by
     have cx:=((F.own bL cm bU cy).lt e.symm).2;have:=z.1;omega⟩))
    rw [aA] at bB;exact bB) (by simp [Zy,Dat.Plain]) rfl 1 yg (by rw [aB];omega) (by rw [aB];omega) ?_
   rw [aB];intro aJ aW bS aD ay;have bc:=hI aD;replace ay:=hI ay;have n2:=(aD.cell (i:=0) (j:=k) ya K).1;rw [ab] at n2;have bq:=(aD.cell (i:=0) (j:=k) ya K).2;clear aD;refine ar _ _ (fun _=>⟨bq,n2⟩) ?_;clear ar W
   try simp only [Act.put,psA,psB,psC]
   refine uR [10,1] U ⟨bq,n2⟩ ?_;refine uQ 11 fun W ao=>?_;go_simp;refine ao _ _ nD ?_;clear ao W;refine uE bf ?_;clear bf U Q';have aG:=hI (bc.store (i:=0) (j:=k) ya K (.slice (some ⟨aJ,0,none⟩) (j+1) aW));have cA:=hI (show Fr (fun b=>b=E) H (bS.setCell ⟨E,k,none⟩ (.slice (some ⟨aJ,0,none⟩) (j+1) aW)) from ((L.trans (qW bC) (Y:=fun _=>False) (fun b z h=>h.elim)).trans (Y:=fun b=>H<=b) (Qc ay (fun b z e=>(cr b e.symm).1)) (fun b z h=>absurd z ya)).setCell _ (fun _=>rfl));clear bc ay ab aa au bC
   go_wp2
   go_roundw
   case rel=>exact⟨j+1,upd V 0 k (.slice (some ⟨aJ,0,none⟩) (j+1) aW),ya,by go_num,cA,aG.congr (fun a q cR cT=>(bM a q).resolve_right ya)⟩
   (simp [intOf];omega)
  have aG:=hI (F.congr (fun a q _ _=>bp j ya a q))
  go_wp2
  go_roundw
  case rel=>first | exact⟨k+1,V,ya,by go_num,L,aG⟩ | ((repeat apply Exists.intro);exact⟨⟨k+1,V,ya,by go_num,L,aG⟩,rfl⟩)
  (simp [intOf];omega)
 have:decide (k<n)=false:=yd;obtain rfl:k=n:=ya
 have b5:=hI (show Sl wr (New w wr) (some ⟨E,0,none⟩) ((ZT k cl T).map Zx) by
  obtain⟨vs,b7,bt⟩:=F.row (i:=0) ya (fun j ak=>by
   unfold LL;rw [qr ak,Ze (n:=24) (fun _=>rfl)];have M:=qI (fun x=>cl x == j) T;omega) (S':=New w wr) (fun b z=>by
   rcases z with z | z
   .exact z.elim
   exact⟨ya,z.2⟩)
  have ch:(List.range k).map (fun j=>Dat.slice (LL cl T k 0 0 j))=(ZT k cl T).map Zx:=by
   unfold ZT;rw [List.map_map];refine List.map_congr_left (fun j ak=>?_);unfold LL;rw [qr (List.mem_range.1 ak)];rfl
  rw [ch] at bt;refine Qb (by rw [Ze (n:=24) (fun _=>rfl),ZQ];omega) bt (fun _=>⟨E,0,rfl,⟨ya,ya⟩,fun j u aU=>Za b7 j u aU⟩))
 have bK:=hI (show Below w w wr from aV.trans (L.below (n:=w) ya (fun b z=>ya)))
 go_wp2_with fail
 refine(mergeR_any (A:=some ⟨E,0,none⟩) (n:=k) (k:=k) (T:=T) (cl:=cl) (S:=New w wr) (w:=wr) b5 (fun b z=>z.2) cu aL aY bX).mono ?_;rintro e ci ⟨ce,bT,rfl,aO,M,aM⟩;replace aO:=hI aO;replace M:=hI M;have bO:=hI (show wr.heap.size<=ci.heap.size from aM.size);have ca:=hI (bK.trans (aM.mono (yl bK.size)));clear aM
 go_wp2
 go_ret;exact⟨ce,bT,rfl,aO,qZ M (fun b z=>by have cx:=bO.out;rcases z with z | z;{ exact⟨z.1,yl z.2⟩ };exact⟨yl z.1,z.2⟩),ca⟩
theorem infoSte:(prog.info? 28).map (fun i=>(i.zero,i.size,i.bytes))=some (some (.agg #[.slice none 0 0]),1,24):=by kernel_rfl
theorem run_make_ste (n:Nat) (N:n<=1000) (w:World) :
 (Instr.makeSlice 62 (.int .i64 (n:Int)) (.int .i64 (n:Int))).run prog w=.ok (.slice (some ⟨w,0,none⟩) n n) (w.alloc (.cells (Zk n).toArray 28)):=by
 obtain⟨z,K,H,I,E⟩:=qA infoSte;have F:=run_make (P:=prog) w 62 28 z _ underlying62 K H .i64 .i64 n n ya ya (by rw [E];omega) ya;rw [F,I];simp only [qu]
 congr 3
 apply Array.ext
 .simp [size_madeCells,Zk]
 intro i M L;simp [madeCells,Zk,Value.cells,Nat.mod_one]
def qh (n:Int) (i:Nat) (t:Nat) (k:Row):Bool:=(Zcb n (t:Int) k).toNat == i
def Zar (s:Sch) (n:Nat) (st:St):List St:=(List.range n).map fun i=>prtS s (qh n i) st
def PrtP (z:List St) (w:World) (e:Ending) (w':World):Prop:=∃ A c,e=.returned (.tuple #[.slice A z c,.int .i64 0])/\z.length<=c/\Sl w' (New w w') A (z.map Zbg)/\Below w w w'
def PBv (z T k:Nat):List Value:=(List.range k).map fun i=>Value.slice (some ⟨z+1+i,0,none⟩) T T
theorem PB_set (h:m<i):(PBv n k m++Zk (i - m)).set m (.slice (some ⟨n+1+m,0,none⟩) k k)=PBv n k (m+1)++Zk (i - (m+1)):=by
 obtain⟨z,E⟩:∃ z,i - m=z+1:=⟨i - m - 1,ya⟩;have F:(PBv n k m).length=m:=(by simp [PBv]);rw [E,show i - (m+1)=z by omega];unfold Zk;rw [List.replicate_succ,List.set_append,qo ya,F,Nat.sub_self,List.set_cons_zero];unfold PBv;rw [List.range_succ,qm];simp
def LP (s:Sch) (n:Int) (st:St) (u j:Nat):Nat->Nat->List Dat:=fun i t=>if t<u then ((st.getD t []).filter fun r=>qh n i t (keyF s t r)).map Zy else if t=u then (((st.getD u []).take j).filter fun r=>qh n i u (keyF s u r)).map Zy else []
theorem LP_next {st:St} (h:(st.getD n []).length<=k) (i t:Nat):LP s a st (n+1) 0 i t=LP s a st n k i t:=by
 unfold LP
 by_cases z:t<n
 .rw [qr z,qr ya]
 rw [qo z]
 by_cases E:t=n
 .subst E;rw [qr rfl,qr ya,qs h]
 rw [qo E,qo ya]
 by_cases F:t=n+1
 .rw [qr F];simp
 rw [qo F]
theorem LP_step {st:St} {row:Row} (h:(st.getD n [])[k]?=some row) (H:(Zcb a (n:Int) (keyF s n row)).toNat=m) (i t:Nat):LP s a st n (k+1) i t=upd (LP s a st n k) m n (LP s a st n k m n++[Zy row]) i t:=by
 by_cases F:t=n
 .subst F
  have e:LP s a st t (k+1) i t=LP s a st t k i t++(if m=i then [Zy row] else []):=by
   unfold LP;rw [qo ya,qr rfl,qo ya,qr rfl,List.take_add_one,h,List.filter_append,qm]
   congr 1
   by_cases z:m=i
   .simp [qh,H,z]
   simp [qh,H,z]
  rw [e]
  by_cases z:m=i
  .subst z;rw [qr rfl,ZaF]
  rw [qo z,Zbz ya,Qq]
 rw [Zbz ya];unfold LP
 by_cases E:t<n
 .rw [qr E,qr E]
 rw [qo E,qo F,qo E,qo F]
theorem LP_len {st:St} (h:k<=(st.getD n []).length):(LP s a st n k m n).length<=k:=by
 unfold LP;rw [qo ya,qr rfl,qg];have:=qI (fun r=>qh a m n (keyF s n r)) ((st.getD n []).take k);rw [qG] at this;omega
theorem parts_any (W:Option Addr) (ac:Nat) (n:Nat) (aq:Nat) {st:St} (bw:TabS w S W s.tt) (cf:StS w S A st) (K:∀ b,S b->b<w.heap.size) (d4:1<=n) (em:n<=4) (bn:schF pcF s=0) (aP:StOk s 1 st) (bi:Zi st<=512) :
 Calls prog 106 #[sAgg s.vv W s.tt.length ac,.int .i64 (n:Int),ZaM A st.length aq] w (PrtP (Zar s n st) w):=by
 have ea:=bw.len;have bu:=hI bw;have cT:=hI cf;have bM:=hI bn;have dF:=hI aP;have bS:=hI bi;have cM:st.length=s.tt.length:=aP.1;have dh:=hI cM;have:st.length<=8:=(by have:=ZcG bn;omega);have c3:=hI (aP.check (m:=1) rfl bi);clear bw cf bn aP bi cM;obtain⟨dp,dO,c8,dg,d2⟩:=qA ZhX;obtain⟨cW,dq,dK,c7,cU⟩:=qA ZiG;obtain⟨R,ax⟩:∃ R,(w.alloc (.cells #[.int .i64 s.vv,.slice W s.tt.length ac] 25)).alloc (.cells #[.slice A st.length aq] 28)=R:=⟨_,rfl⟩;have bB:=hI (show Below w.heap.size w R by rw [<-ax];exact((qa w.heap.size w).alloc nR _).alloc (by simp) _);have:R.heap.size<=w.heap.size+2/\w.heap.size+2<=R.heap.size:=(by rw [<-ax];simp);obtain⟨F,aV⟩:∃ F,w.heap.size=F:=⟨_,rfl⟩;have aQ:=hI (show R.heap[F]?=some (.cells #[.int .i64 s.vv,.slice W s.tt.length ac] 25 (0,0)) by rw [<-ax,<-aV];exact(qd _ _ _ (by simp)).trans (qb w _));have b6:=hI (show R.heap[F+1]?=some (.cells #[.slice A st.length aq] 28 (0,0)) by rw [<-ax,<-aV];simpa using qb (w.alloc (.cells #[.int .i64 s.vv,.slice W s.tt.length ac] 25)) (.cells #[.slice A st.length aq] 28));have bo:yr R F 0 (.int .i64 s.vv):=Za aQ 0 _ rfl;have bG:yr R F 1 (.slice W s.tt.length ac):=Za aQ 1 _ rfl;have:w.heap.size<=F/\F<=w.heap.size:=(by omega);have dB:F<R.heap.size:=(by omega);have du:F+1<R.heap.size:=(by omega);have dI:=hI (show ZaV s (n:Int)=0 by unfold ZaV;rw [qo (by omega)];exact bM);go_enter func106,ntmps106
 go_wp2_with fail
 try rw [ax]
 try rw [aV]
 clear ax aV;refine(Zbd (A:=W) ac s (a:=n) (S:=S) (w:=R) (bu.keep (qS bB K)) (fun b E=>by have:=K b E;omega)).mono ?_;rintro e aZ ⟨rfl,bg⟩;rw [dI];have aG:=hI (bB.trans (bg.mono (by omega)));have aK:=hI ((bg.block F dB).trans aQ);have bh:=hI ((bg.block (F+1) du).trans b6);have c6:=Zb aK;have cZ:=Zb bh;clear bg bo bG bB aQ b6;have bo:yr aZ F 0 (.int .i64 s.vv):=Za aK 0 _ rfl;have bG:yr aZ F 1 (.slice W s.tt.length ac):=Za aK 1 _ rfl;have aO:yr aZ (F+1) 0 (.slice A st.length aq):=Za bh 0 _ rfl
 go_wp2_with fail
 refine(Zch (L:=pcF) (A:=W) ac (s:=s) 1 (B:=A) aq (st:=st) (S:=S) (w:=aZ) (bu.keep (qS aG K)) (cT.keep (qS aG K)) (fun b E=>by have:=K b E;have:=aG.size;omega) (ZU (s:=s)) (by have:=bS.out;omega)).mono ?_;rw [bM,c3];rintro e w2 ⟨rfl,aU⟩;have cj:=hI (aG.trans (aU.mono (by omega)));have bC:=hI ((aU.block F c6).trans aK);have bz:=hI ((aU.block (F+1) cZ).trans bh);have cX:=Zb bC;have dy:=Zb bz;clear aU bo bG aO aG aK bh;have ds:=run_make_ste n (by omega);go_upto_region 8 with fail
 clear ds;obtain⟨aR,z,aY,bf,aw,-⟩:=ag w2 (.cells (Zk n).toArray 28);have aw:=aw.out;have:z+1<=aR.heap.size/\aR.heap.size<=z+1:=(by rw [<-aY,<-bf];simp);have ci:=hI (show aR.heap[z]?=some (.cells (PBv z st.length 0++Zk (n - 0)).toArray 28 (0,0)) by rw [<-aY,<-bf];exact qb w2 _);have cA:=hI (cj.trans (aw.mono (by omega)));have b9:=hI ((aw.block F cX).trans bC);have b1:=hI ((aw.block (F+1) dy).trans bz);have:F+1<z:=(by omega);rw [aY]
 try rw [bf]
 clear aY bf aw bC bz cj;have dH:=ZaQ st.length (by omega)
 go_wp2
 go_loopw [33] (fun i wr=>∃ k:Nat,k<=n/\i=.int .i64 k/\Fr (fun b=>b=z) aR wr/\wr.heap.size<=z+1+k/\z+1+k<=wr.heap.size/\wr.heap[z]?=some (.cells (PBv z st.length k++Zk (n - k)).toArray 28 (0,0))/\∀ i,i<k->wr.heap[z+1+i]?=some (.cells (Zk st.length).toArray 145 (0,0))) (fun i _=>n - (intOf i).toNat)
 case atStart=>exact⟨0,qk _,rfl,Qa _ _,by omega,by omega,ci,fun i h=>absurd h (by omega)⟩
 clear ci;obtain⟨k,d9,rfl,ae,ei,d8,bY,cr⟩:=hrel;have I:=hI ae;have ak:=hI bY;have br:=hI cr;clear ae bY cr;have cK:=hI ((I.block (F+1) (by omega) (by omega)).trans b1);have aO:yr wr (F+1) 0 (.slice A st.length aq):=Za cK 0 _ rfl;have d3:=Zb cK
 by_cases bV:k<n
 .have db:decide (k<n)=true:=(by simp [bV]);have:(0:Int)<=(k:Int):=(by omega);have:(k:Int)<(n:Int):=(by omega);obtain⟨ar,H,bN,ai,aH,c9⟩:=ag wr (.cells (Zk st.length).toArray 145);have aH:=aH.out;have:ar.heap.size<=H+1/\H+1<=ar.heap.size:=(by rw [<-bN,<-ai];simp);have bJ:=hI ((aH.block z (Zb ak)).trans ak);have b4:=hI aH;have aF:z+1+k=H:=(by omega)
  have af:ar.cell? ⟨z,k,none⟩=some (.slice none 0 0):=by
   have M:=Za bJ k (.slice none 0 0) (by
    show (PBv z st.length k++Zk (n - k))[k]?=_;have dL:(PBv z st.length k).length=k:=(by simp [PBv]);obtain⟨m,dv⟩:∃ m,n - k=m+1:=⟨n - k - 1,by omega⟩;rw [List.getElem?_append_right (by omega),dL,Nat.sub_self,dv];rfl)
   rwa [qx] at M
  have aj:ar.frozen? ⟨z,k,none⟩=false:=(by simp [World.frozen?,bJ.out]);have am:=hI aF;clear aF
  go_wp2_with fail
  try rw [bN]
  try rw [ai]
  have dD:=hI (show (ar.setCell ⟨z,k,none⟩ (.slice (some ⟨H,0,none⟩) st.length st.length)).heap[z]?=some (.cells (PBv z st.length (k+1)++Zk (n - (k+1))).toArray 28 (0,0)) by
   rw [<-PB_set bV,am];exact Zc bJ)
  have bP:=hI ((I.trans (qW b4) (Y:=fun _=>False) (fun b E h=>h.elim)).setCell (.slice (some ⟨H,0,none⟩) st.length st.length) (g:=z) (o:=k) (fun _=>rfl))
  have dJ:=hI (show ∀ i,i<k+1->(ar.setCell ⟨z,k,none⟩ (.slice (some ⟨H,0,none⟩) st.length st.length)).heap[z+1+i]?=some (.cells (Zk st.length).toArray 145 (0,0)) from fun i aA=>by
   refine(qc ar ⟨z,k,none⟩ _ _ (by show z+1+i≠z;omega)).trans ?_;rcases qv i k with h | h
   .exact(b4.block _ (by omega)).trans (br i h)
   obtain rfl:i=k:=(by omega);rw [am];exact c9)
  clear bN ai aH af aj aO;go_roundw
  case rel=>exact⟨k+1,by omega,by go_num,bP,by have:=am.out;simp;omega,by have:=am.out;simp;omega,dD,dJ⟩
  (simp [intOf];omega)
 have db:decide (k<n)=false:=(by simp;omega);obtain rfl:k=n:=(by omega);clear dH;obtain⟨L,rfl⟩:∃ L:World,L=wr:=⟨_,rfl⟩;have ak:=hI (show L.heap[z]?=some (.cells (PBv z st.length k).toArray 28 (0,0)) by have M:=ak.out;rwa [show Zk (k - k)=[] by simp [Zk],Qq] at M);have cI:=hI (Grid.start (w:=L) (B0:=L.heap.size) (n:=k) (T:=st.length) (G:=fun i=>z+1+i) (TT:=145) (e:=116) (size:=1) (S0:=fun _=>False) (fun i aA=>br i aA) (fun i cS en eg h=>by omega) (fun i aA=>by show z+1+i<_;omega) (fun b E=>E.elim) nR);have Z:=hI (show Below w.heap.size w L from cA.trans (I.below (n:=w.heap.size) (by omega) (fun b E=>by omega)));have d1:=hI ((I.block F (by omega) (by omega)).trans b9);clear I br b9 b1 cA
 go_wp2_with fail
 clear aO
 go_loopw [48] (fun i wr=>∃ (u:Nat) (V:Nat->Nat->Value),u<=st.length/\i=.int .i64 u/\Fr (fun b=>z<b) L wr/\Grid wr L.heap.size 116 145 1 (fun _=>False) k st.length (fun i=>z+1+i) V V (LP s k st u 0)) (fun i _=>st.length - (intOf i).toNat)
 case atStart=>exact⟨0,_,qk _,rfl,Qa _ _,cI.congr (fun i j _ _=>by unfold LP;split;{ omega };split<;>simp)⟩
 clear cI;obtain⟨u,V,cG,rfl,ae,U⟩:=hrel;have I:=hI ae;have O:=hI U;have d7:=ae.size;clear ae U
 by_cases ah:u<st.length
 .have:(0:Int)<=(u:Int):=(by omega);have:(u:Int)<(st.length:Int):=(by omega);have cN:u<s.tt.length:=(by rw [<-dh];exact ah);have b0:=hI (show Same S w wr from fun b E=>(I.block b (by have:=K b E;have:=Z.size;omega) (by have:=K b E;omega)).trans (Z.block b (K b E)));obtain⟨ef,el,rfl,d6,d0,c2,bW,dc,cE⟩:=(show StS wr S A st from cT.keep b0).at_ ah;have cx:=hI cE;have cF:=hI ((dF.2 u ah).1);have dz:(st.getD u []).length<=512:=(by have:=ZaB st u;have:=bS.out;omega);have co:=hI (fun j (row:Row) (h:(st.getD u [])[j]?=some row) p (ay:(Zcb (k:Int) (u:Int) (keyF s u row)).toNat=p)=>LP_step (s:=s) (a:=(k:Int)) h ay);have cu:=hI (fun j (h:(st.getD u []).length<=j) (a q:Nat)=>LP_next (s:=s) (a:=(k:Int)) h a q);have cO:=hI (fun j p (h:j<=(st.getD u []).length)=>LP_len (s:=s) (a:=(k:Int)) (m:=p) h);have dm:=Zdw bM cN;clear dc cE;obtain⟨N,cy⟩:∃ N,st.getD u []=N:=⟨_,rfl⟩;rw [cy] at bW cx cF dz co cu cO;clear cy
  go_wp2
  go_loopw [55] (fun i wr=>∃ (j:Nat) (V:Nat->Nat->Value),j<=N.length/\i=.int .i64 j/\Fr (fun b=>z<b) L wr/\Grid wr L.heap.size 116 145 1 (fun _=>False) k st.length (fun i=>z+1+i) V V (LP s k st u j)) (fun i _=>N.length - (intOf i).toNat)
  case atStart=>exact⟨0,V,qk _,rfl,I,O⟩
  clear I O bW;obtain⟨j,V,dd,rfl,ae,U⟩:=hrel;have I:=hI ae;have O:=hI U;have ee:=ae.size;clear ae U;have bb:=hI (show Same S w wr from fun b E=>(I.block b (by have:=K b E;have:=Z.size;omega) (by have:=K b E;omega)).trans (Z.block b (K b E)))
  by_cases aL:j<N.length
  .have:(0:Int)<=(j:Int):=(by omega);have:(j:Int)<(N.length:Int):=(by omega);obtain⟨cd,d5,rfl,dV,dl,bQ,f1,b7,f3⟩:=Qj (show RowsS wr S d0 N from qU cx (fun b E=>(bb b E).trans (b0 b E).symm)) aL;have cv:=hI (co j (N.getD j []) (by simp [List.getD,aL]));have bT:=hI (cF (N.getD j []) (by rw [show N.getD j []=N[j] by simp [List.getD,aL]];exact qJ aL));obtain⟨row,cJ⟩:∃ row,N.getD j []=row:=⟨_,rfl⟩;rw [cJ] at f1 b7 f3 cv bT;clear cJ;have ck:=ZfV bT;rw [qu] at ck;have bH:0<row.length:=(by omega);have dE:row.length<=8:=(by omega);have b5:=hI (ZgO bT);have dj:cd<wr.heap.size:=(by have:=K cd dV;have:=Z.size;omega);have bj:=hI f3;have bZ:row.length<=bQ:=b7;have bO:=hI ((I.block F (by omega) (by omega)).trans d1);have dk:yr wr F 0 (.int .i64 s.vv):=Za bO 0 _ rfl;have dN:yr wr F 1 (.slice W s.tt.length ac):=Za bO 1 _ rfl;have eh:=Zb bO;clear ck f3
   go_wp2_with fail
   refine(Zfk (A:=W) ac s (n:=u) (B:=dl) (k:=bQ) (r:=row) (S:=S) (w:=wr) (bu.keep bb) bj bZ (fun b E=>by have:=K b E;have:=Z.size;omega) cN dm.2.1 bH).mono ?_;rintro e aW ⟨cQ,dQ,rfl,cD,aa⟩;have cP:=hI (show RowS aW (fun b=>b<aW.heap.size) cQ (keyF s u row) from (Zag (Zct (Zbt b5) (by have:=Zex s (u:Int) row;omega)) cD).more (fun b E=>E.2));have cH:=hI aa;have f1:=c9Q aa dj f1;have dW:=aa.size;clear cD aa dk dN
   go_wp2_with fail
   refine(ZdT (a:=(k:Int)) (t:=(u:Int)) (A:=cQ) (n:=dQ) (key:=keyF s u row) (S:=fun b=>b<aW.heap.size) (w:=aW) (by omega) (by omega) cP (fun b E=>E) (Zbt b5) (by have:=Zex s (u:Int) row;omega)).mono ?_;rintro e ab ⟨rfl,bE⟩;have aI:=hI (cH.trans (bE.mono dW));have f1:=c9J bE f1;have eb:=aI.size;clear bE cH cP;have cR:=Zcy (a:=(k:Int)) (t:=(u:Int)) (key:=keyF s u row) (by omega);obtain⟨p,ay⟩:=qn cR.1;rw [ay] at cR;have ao:p<k:=(by omega);have c4:=hI (cv p (by rw [ay];exact qu p));rw [ay];have dR:=hI ((aI.block z (by have:=Zb ak;omega)).trans ((I.block z (Zb ak) (by omega)).trans ak))
   have cL:ab.cell? ⟨z,p,none⟩=some (.slice (some ⟨z+1+p,0,none⟩) st.length st.length):=by
    have M:=Za dR p (.slice (some ⟨z+1+p,0,none⟩) st.length st.length) (by show (PBv z st.length k)[p]?=_;simp [PBv,ao]);rwa [qx] at M
   have O:=hI (O.below aI);have I:=hI (I.trans (qW aI) (Y:=fun _=>False) (fun b E h=>h.elim));have dS:=cO j p dd;obtain⟨bX,cg,be⟩:=O.form (i:=p) (j:=u) ao ah;obtain⟨af,aj⟩:=O.cell (i:=p) (j:=u) ao ah;obtain⟨av,aM⟩:∃ av,(LP s k st u j p u).length=av:=⟨_,rfl⟩;rw [be,aM] at af;rw [aM] at be dS;have bR:=hI aM;have bI:=hI be;have dP:=hI (show ∀ b,(V p u).ownBlock=some b->L.heap.size<=b/\b<ab.heap.size from fun b e=>(O.own p u ao ah).lt e);have dt:=hI (show Same S w ab from fun b E=>(aI.block b (by have:=K b E;have:=Z.size;omega)).trans (bb b E));obtain⟨az,bt⟩:∃ az,row.length=az:=⟨_,rfl⟩;have aT:=hI bt;obtain⟨aS,ct,di,dG,cn⟩:=(bj.keep (w':=ab) (fun b E=>(dt b E).trans (bb b E).symm)).vals (by omega);subst di;have bp:=hI cn;have dZ:=hI bj.ok;have da:aS<ab.heap.size:=(by have:=K aS dG;have:=Z.size;omega);rw [bt] at f1 bZ bH dE ⊢;obtain⟨H,ai⟩:∃ H,z+1+p=H:=⟨_,rfl⟩;have am:=hI ai;rw [ai] at cL;have af:ab.cell? ⟨H,u,none⟩=some (.slice bX av cg):=(by rw [<-ai];exact af);have aj:ab.frozen? ⟨H,u,none⟩=false:=(by rw [<-ai];exact aj);have aC:H<ab.heap.size:=(by omega);clear be aM bt cn ai ay
   go_wp2_with fail
   clear cL f1;refine uS (fun w'=>w'.frozen? ⟨H,u,none⟩=false/\w'.cell? ⟨H,u,none⟩=some (.slice bX av cg)) 11 12 fun Q' b3 bU=>?_;obtain⟨ap,cm,aD,ec⟩:=dr ab;have dM:=hI (O.below aD);have af:=c9Q aD aC af;have aj:=(aD.frozen (p:=⟨H,u,none⟩) aC).trans aj
   have bp:=hI (show ∀ q u,(Zq row)[q]?=some u->ap.cell? ((⟨aS,ct,none⟩:Addr).add q)=some u from fun q u cG=>by
    have M:=bp q u cG;rw [add_none] at M ⊢;exact c9Q aD da M)
   have aC:H<ap.heap.size:=(by omega);rw [cm];clear cm;refine uR [0,7] bU ⟨aj,af⟩ ?_;refine uQ 7 fun au aJ=>?_;refine step_append_lies _ (by rfl) (.const (.slice none 0 0)) (.tmp 76) 116 (by rfl) ap.heap.size 108 dp _ 3 32 underlying116 dO c8 dg d2 rfl (by decide) (.slice none 0 0) 0 [] (by rfl) (qV _ _ _ _) ⟨aS,ct,none⟩ az bQ (Zq row) (by rfl) (by rw [ZaX,aT]) bp (ZaW row) bH (by unfold maxLen;omega) (by omega) nR ap.heap.size rfl ?_;intro aN aB an ba U dT df;rw [qP,qx] at ba;have dw:=hI ba;have aa:Below ap.heap.size ap an:=⟨U.os,U.tape,U.output,U.size,fun b E=>U.block b E (by simp [Value.ownBlock])⟩;have cc:=hI (show Below ab.heap.size ab an from aD.trans (aa.mono (by omega)));have dA:=hI (dM.below aa);have b8:=c9Q aa aC af;have cC:=(aa.frozen (p:=⟨H,u,none⟩) aC).trans aj;have ej:=aa.size;have cp:H<an.heap.size:=(by omega);have cV:=Zas ba rfl;clear ba U dT df aa;refine aJ _ _ (fun _=>⟨cC,b8⟩) ?_;clear aJ au;rw [qx]
   try simp only [Act.put,psA,psB,psC]
   refine uQ 8 fun au aE=>?_;go_simp;have c5:(an.alloc (.cells #[.slice (some ⟨aN,0,none⟩) az aB] 116)).frozen? ⟨H,u,none⟩=_:=(ZK cp).trans cC;have l2:(an.alloc (.cells #[.slice (some ⟨aN,0,none⟩) az aB] 116)).cell? ⟨H,u,none⟩=_:=(Zh cp).trans b8;refine aE _ _ (fun _=>⟨c5,l2⟩) ?_;clear aE au
   try simp only [Act.put,psA,psB,psC]
   refine uQ 9 fun au aJ=>?_
   refine ZaG (by rfl) (.tmp 75) (.tmp 78) 145 (by rfl) (F:=cW) 24 underlying145 dq dK c7 cU rfl (by decide) (w0:=an) dA (i:=p) (j:=u) ao ah (by rw [bI];rfl) (d:=Zy row) #[.slice (some ⟨aN,0,none⟩) az aB] (by
    have M:=Zag dZ (show an.ownsRow ap.heap.size 108 3 (.slice (some ⟨aN,0,none⟩) row.length aB) row.length (Zq row) by rw [aT];exact dw)
    have bF:=Zah (n:=aB) (by rw [aT];exact cV) (M.more (S':=Oth (fun _=>False) an L.heap.size k st.length V) (fun b E=>Or.inr ⟨by have:=E.1;omega,E.2,fun cS dC aA dX e=>by
     have eo:=((O.own cS dC aA dX).lt e.symm).2;have:=E.1;omega⟩))
    rw [aT] at bF;exact bF) (by simp [Zy,Dat.Plain]) rfl 1 (by rfl) (by rw [bR];omega) (by rw [bR];omega) ?_
   rw [bR];intro bl bK cY aX ca;have b2:=hI aX;have ch:=hI ca;have n2:=(aX.cell (i:=p) (j:=u) ao ah).1;rw [bI] at n2;have bD:=(aX.cell (i:=p) (j:=u) ao ah).2;have aF:=am.out;simp only [aF] at n2 bD;clear aX ca aF;refine aJ _ _ (fun _=>⟨bD,n2⟩) ?_;clear aJ au
   try simp only [Act.put,psA,psB,psC]
   refine uR [10,1] bU ⟨bD,n2⟩ ?_;refine uQ 11 fun au aE=>?_;go_simp;refine aE _ _ nD ?_;clear aE au;refine uE b3 ?_;clear b3 bU Q';have bc:=hI (b2.store (i:=p) (j:=u) ao ah (.slice (some ⟨bl,0,none⟩) (av+1) bK));have bP:=hI (show Fr (fun b=>z<b) L (cY.setCell ⟨H,u,none⟩ (.slice (some ⟨bl,0,none⟩) (av+1) bK)) from ((I.trans (qW cc) (Y:=fun _=>False) (fun b E h=>h.elim)).trans (Y:=fun b=>L.heap.size<=b) (Qc ch (fun b E e=>(dP b e.symm).1)) (fun b E h=>absurd E (by omega))).setCell _ (fun _=>by have:=am.out;show z<H;omega));clear b2 ch bI af aj cc
   go_wp2
   go_roundw
   case rel =>
    have M:=bc.congr (L':=LP s k st u (j+1)) (fun a q ek dU=>c4 a q);rw [am] at M;exact⟨j+1,upd V p u (.slice (some ⟨bl,0,none⟩) (av+1) bK),by omega,by go_num,bP,M⟩
   (simp [intOf];omega)
  have bc:=hI (O.congr (fun a q _ _=>cu j (by omega) a q))
  go_wp2
  go_roundw
  case rel=>first | exact⟨u+1,V,by omega,by go_num,I,bc⟩ | ((repeat apply Exists.intro);exact⟨⟨u+1,V,by omega,by go_num,I,bc⟩,rfl⟩)
  (simp [intOf];omega)
 have:decide (u<st.length)=false:=(by simp;omega);obtain rfl:u=st.length:=(by omega)
 have dY:=hI (show PrtP (Zar s k st) w (.returned (.tuple #[.slice (some ⟨z,0,none⟩) k k,.int .i64 0])) wr by
  have bm:(Zar s k st).length=k:=(by simp [Zar]);refine⟨some ⟨z,0,none⟩,k,by rw [bm],by rw [bm];exact qp _,?_,Z.trans (I.below (n:=w.heap.size) (by have:=Z.size;omega) (fun b E=>by omega))⟩;have cq:wr.heap[z]?=some (.cells (PBv z st.length k).toArray 28 (0,0)):=(I.block z (Zb ak) (by omega)).trans ak
  have key:∀ q,q<=k->Dat.Va wr (New w wr) (((List.range q).map fun i=>prtS s (qh k i) st).map Zbg) (PBv z st.length q):=by
   intro q;induction q with
   | zero=>intro _;simp only [List.range_zero,Qn,PBv];unfold Dat.Va;rfl
   | succ q de =>
    intro dU;unfold PBv;rw [List.range_succ,qm,qm,qm];simp only [qL,Qn];refine Zu (de (by omega)) (Zw ?_)
    obtain⟨vs,ce,cz⟩:=O.row (i:=q) (by omega) (fun t bk=>by
     unfold LP;rw [qr bk,Ze (n:=24) (fun _=>rfl)];have M:=qI (fun r=>qh k q t (keyF s t r)) (st.getD t []);have bF:=ZaB st t;have:=bS.out;omega) (S':=New w wr) (fun b E=>by
     rcases E with E | E
     .exact E.elim
     exact⟨by have:=Z.size;omega,E.2⟩)
    have dx:(List.range st.length).map (fun t=>Dat.slice (LP s k st st.length 0 q t))=(prtS s (qh k q) st).map Zx:=by
     unfold prtS;rw [List.map_map];refine List.map_congr_left (fun t bk=>?_);unfold LP;rw [qr (List.mem_range.1 bk)];rfl
    rw [dx] at cz;unfold Zbg Dat.Vs;have cw:((prtS s (qh k q) st).map Zx).length=st.length:=(by rw [qg,Zde]);refine⟨some ⟨z+1+q,0,none⟩,st.length,by rw [cw],by rw [cw];exact qp _,Qb (by rw [Ze (n:=24) (fun _=>rfl),Zde];omega) cz (fun _=>⟨z+1+q,0,rfl,⟨by omega,by have:=Zb ce;exact this⟩,fun j bL bq=>Za ce j bL bq⟩)⟩
  exact Qb (by rw [Ze (n:=24) (fun _=>rfl),bm];omega) (key k nR) (fun _=>⟨z,0,rfl,⟨by omega,Zb cq⟩,fun j bL bq=>Za cq j bL bq⟩))
 go_wp2
 exact qw (v:=.tuple #[.slice (some ⟨z,0,none⟩) k k,.int .i64 0]) (by simp [results,results106,go_sem]) rfl dY
section
variable {w W W':World} {g p:Nat}
end
theorem Zeh {E:Array Oper} {a:Exit->Act->World->Prop} {F:Region.Mode} {S:World->Prop} {β:Type} (H:Nat) (L':Array Bool) (f:β->Act->Act) (d:β->World->Prop)
 (M:∀ b z,d b z->AnyL P F E a S n H L' (f b Q) z) (L:(∀ b z,d b z->AnyL P F E a S n H L' (f b Q) z)->AnyL P F E a S n k K Q w):AnyL P F E a S n k K Q w:=L M
structure Made where
 lo:Nat
 hi:Nat
 gt:Nat
 st:St
section
variable {w W W':World} {g sb:Nat} {s:Sch} {m:Int} {so:Obj} {B:List (Option Nat)} {T:List Made}
end
end Go.Proofs.YtjadnfodboepeaaGreat
