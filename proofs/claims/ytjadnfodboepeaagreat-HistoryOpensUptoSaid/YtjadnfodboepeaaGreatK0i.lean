import Derived.Test.YtjadnfodboepeaaGreatK4c
import Derived.Test.YtjadnfodboepeaaGreatKf2
set_option linter.all false
set_option maxRecDepth 100000
set_option maxHeartbeats 8000000
namespace Go.Proofs.YtjadnfodboepeaaGreat
open Tryz
open Go.RowKit
variable {w w':World} {n k m:Nat} {A B A' D:Option Addr} {S S':Nat->Prop} {a t:Int} {x:Value} {g:TypeId} {s:Sch} {X:List Value} {C:Chg}
def Fl (w:World) (b:Nat):Prop:=∃ cs t,w.heap[b]?=some (.cells cs t (0,0))
theorem Fl.keep {w w':World} {b:Nat} (h:Fl w b) (e:w'.heap[b]?=w.heap[b]?):Fl w' b:=by
 obtain⟨cs,t,h⟩:=h;exact⟨cs,t,e.trans h⟩
theorem Fl.frozen {w:World} {b k:Nat} (h:Fl w b):w.frozen? ⟨b,k,none⟩=false:=by
 obtain⟨cs,t,h⟩:=h;simp [World.frozen?,h]
theorem Zkd {size:Nat} {xs:List Value} (h:w.ownsRow n g size x m xs) (E:x.ownBlock=some k):Fl w k:=by
 rcases h.2 with ⟨z,_⟩ | ⟨I,cap,K,z,L,F,_⟩
 .subst z;simp [Value.ownBlock] at E
 subst z;have H:I=k:=(by simpa [Value.ownBlock] using E);subst H;exact⟨_,_,F⟩
abbrev NewF (w w':World):Nat->Prop:=fun b=>w<=b/\b<w'/\Fl w' b
def AppT (S:Nat->Prop) (l:List Row) (w:World) (e:Ending) (w':World):Prop:=∃ A c,e=.returned (.tuple #[.slice A l c,.bool true])/\l.length<=c/\RowsS w' (fun b=>S b\/NewF w w' b) A l/\Below w w w'
def AppF (w:World) (e:Ending) (w':World):Prop:=e=.returned (.tuple #[.slice none 0 0,.bool false])/\Below w w w'
theorem ZiG:(prog.info? 116).map (fun i=>(i.zero,i.size,i.bytes))=some (some (.slice none 0 0),1,24):=by kernel_rfl
theorem getElem?_of_take {α:Type} {l:List α} {u:α} (h:(l.take n)[k]?=some u):l[k]?=some u:=by
 rw [List.getElem?_take] at h;split at h
 .exact h
 cases h
theorem ZaR {r:Row} (h:w.ownsRow k 108 3 (.slice A r n) r (Zq r)) (z:RowOk r) (F:m<=k):r.length<=n/\RowS w (fun b=>m<=b/\b<w) A r:=⟨Zas h rfl,(Zag z h).more (fun b E=>⟨ya,E.2⟩)⟩
theorem Zjg {r:Row} (h:w.ownsRow k 108 3 (.slice A r n) r (Zq r)) (z:RowOk r) (L:m<=k):r.length<=n/\RowS w (fun b=>m<=b/\b<w/\Fl w b) A r:=by
 refine⟨Zas h rfl,by have:=z.1;rw [Ze (n:=32) (fun _=>rfl)];omega,fun E=>?_⟩;obtain⟨g,e,K,F,I⟩:=Zad h (by simpa using E);exact⟨g,0,e,⟨ya,F,Zkd h (by rw [e];rfl)⟩,Zbf r g 0 z.2 (fun j u H=>by rw [qx];exact I j u H)⟩
theorem Zah {r:Row} (z:r.length<=n) (E:RowS w S A r):Dat.Vs w S (Zy r) [.slice A r n]:=by
 unfold Zy Dat.Vs;exact⟨A,n,yb,by simpa using z,E⟩
theorem cells_drop (h:CellsAt w n k X):∀ j u,(X.drop m)[j]?=some u->w.cell? ((⟨n,k+m,none⟩:Addr).add j)=some u:=fun j u E=>by
 rw [add_none];rw [List.getElem?_drop] at E;have:=h (m+j) u E;rwa [show k+(m+j)=k+m+j by omega] at this
theorem cells_take (h:0<n->∃ b z,A=some ⟨b,z,none⟩/\S b/\CellsAt w b z X) (E:Same S w w') (L:k<=n):0<k->∃ b,A=some b/\∀ j u,(X.take k)[j]?=some u->w'.cell? (b.add j)=some u:=fun K=>by
 obtain⟨b,z,e,H,I⟩:=h ya;exact⟨_,e,fun j u F=>(I.keep (E b H)).add j u (getElem?_of_take F)⟩
theorem Zdo (A:Option Addr) (n c i:Nat) (E:i<=n) (F:n<=c):∃ A',(∀ w,(Instr.slice 145 (.slice A n c) (some (.int .i64 (i:Int))) none none).run prog w=.ok (.slice A' (n - i) (c - i)) w)/\∀ b z,0<n - i->A=some ⟨b,z,none⟩->A'=some ⟨b,z+i,none⟩:=by
 refine⟨if c=i then A else A.map (·.add i),fun w=>?_,fun b z h e=>?_⟩
 .rw [run_slice_l (P:=prog) w 145 A n c ye .i64 (i:Int) ya ya];have:(sizeOf (prog.elem 145)).run prog w=.ok 1 w:=ye;rw [this];simp [Result.andThen,sliced]
 rw [qo ya,e];simp [add_none]
structure HdL (w W:World) (T:Nat->Prop) (A:Option Addr) (n:Nat) (l:List Row) (vh:List Value):Prop where
 len:vh.length=n*1
 n_:n=l.length
 vals:Dat.Va W (fun b=>T b\/NewF w W b) (l.map Zy) vh
 at_:0<n->∃ b off,A=some ⟨b,off,none⟩/\(T b\/NewF w W b)/\CellsAt W b off vh
 bel:Below w w W
theorem NewF.below {w z E:World} {b:Nat} (h:NewF w z b) (F:Below z z E):NewF w E b:=⟨h.1,qC h.2.1 F.size,h.2.2.keep (F.block b h.2.1)⟩
theorem HdL.take {w H:World} {T:Nat->Prop} {A:Option Addr} {z:List Row} {vs:List Value} {p:Nat} (O:Dat.Va w T (z.map Zy) vs) (W:0<z.length->∃ b E,A=some ⟨b,E,none⟩/\T b/\CellsAt w b E vs) (R:∀ b,T b->b<w) (N:p<=z) (L:Below w w H) (Z:vs.length=z.length):HdL w H T A p (z.take p) (vs.take p):=by
 have I:Same T w H:=qS L R;have K:=(ZbQ (n:=1) (fun _=>rfl) O p N).1;rw [Nat.mul_one] at K;refine⟨by rw [qG];omega,by rw [qG];omega,Dat.Va.more (fun b F=>.inl F) _ _ (Dat.Va.keep I _ _ K),fun aa=>?_,L⟩;obtain⟨b,E,e,F,M⟩:=W ya;exact⟨b,E,e,.inl F,fun j u U=>(M.keep (I b F)) j u (getElem?_of_take U)⟩
theorem HdL.more_ {w F E:World} {T:Nat->Prop} {A:Option Addr} {n g cap:Nat} {l l2:List Row} {K H:List Value} (h:HdL w F T A n l K) (ac:∀ b,T b->b<w) (R:Dat.Va E (fun b=>T b\/NewF w E b) (l2.map Zy) H) (af:H.length=l2.length) (I:Below F F E) (m base:Nat) (ai:m=n+l2.length) (M:Nat) (W:g=M) (aj:w<=base) (L:E.ownsRow base 116 1 (.slice (some ⟨g,0,none⟩) m cap) m (K++H)):HdL w E T (some ⟨M,0,none⟩) m (l++l2) (K++H):=by
 subst W
 have aa:Same (fun b=>T b\/NewF w F b) F E:=qS I (fun b z=>by
  rcases z with z | z
  .have:=ac b z;have:=h.bel.size;omega
  exact z.2.1)
 refine⟨by rw [qi,h.len,af];omega,by rw [qi,<-h.n_];exact ai,?_,fun U=>?_,h.bel.trans (I.mono h.bel.size)⟩
 .rw [qm];exact Zu (Dat.Va.more (fun b z=>z.imp id (fun O=>O.below I)) _ _ (Dat.Va.keep aa _ _ h.vals)) R
 obtain⟨ab,N,ak,ae,Z⟩:=Zad L U;exact⟨ab,0,N,.inr ⟨ya,ae,Zkd L (by rw [N];rfl)⟩,fun j u ah=>by rw [qx];exact Z j u ah⟩
theorem HdL.fin {w z:World} {T:Nat->Prop} {A:Option Addr} {n c:Nat} {l:List Row} {F:List Value} (h:HdL w z T A n l F) (L:n<=c) (M:l.length<=5864062014805):AppT T l w (.returned (.tuple #[.slice A n c,.bool true])) z:=by
 obtain⟨N,rfl,K,E,H⟩:=h;exact⟨A,c,rfl,L,Qb (by rw [Ze (n:=24) (fun _=>rfl)];omega) K (fun I=>E (by simpa using I)),H⟩
theorem vals_drop {z:List Row} (I:Dat.Va w S (z.map Zy) X) (K:∀ b,S b->b<w) (H:n<=z) (L:Below w w w'):Dat.Va w' (fun b=>S b\/NewF w w' b) ((z.drop n).map Zy) (X.drop n):=by
 have F:=(ZbQ (n:=1) (fun _=>rfl) I n H).2;rw [Nat.mul_one] at F;exact Dat.Va.more (fun b M=>.inl M) _ _ (Dat.Va.keep (qS L K) _ _ F)
theorem Zgk (aE:Nat) (E:Chg) (c1:Nat) (c2:Nat) (Z:Nat) {z:List Row}  
 (aP:TabS w S A s.tt) (bq:RowsS w S' D z) (bJ:∀ b,S' b->S b) (bu:z.length<=Z) (aC:RowS w S B E.old) (aX:E.old.length<=c1) (az:RowS w S A' E.new) (aO:E.new.length<=c2) (I:∀ b,S b->b<w) (bQ:Asc s E.tx z)
 (cz:z.length<=1000000) :
 Calls prog 80 #[sAgg s.vv A s.tt aE,.slice D z Z,Zip E.tx B E.old c1 A' E.new c2] w (fun e w'=>if Zhi s E z=true then AppT S' (putC s E z) w e w' else AppF w e w'):=by
 obtain⟨am,br⟩:=yp (Zhi s E z);obtain⟨K,aV⟩:=yp (ZeY s E z);have ab:=hI (show ((K == decide (0<E.old.length))&&(!K||(cmpR (z.getD (low s E.tx (keyC s E) z) []) E.old == 0)))=am by rw [<-br,<-aV];rfl);have ak:=hI (show (decide (low s E.tx (keyC s E) z<z)&&(cmpR (keyF s E.tx (z.getD (low s E.tx (keyC s E) z) [])) (keyC s E) == 0))=K from aV);have aw:=hI (show putC s E z=z.take (low s E.tx (keyC s E) z)++(if 0<E.new.length then [E.new] else [])++z.drop (if K then low s E.tx (keyC s E) z+1 else low s E.tx (keyC s E) z) by unfold putC;rw [aV];cases K<;>rfl);have aL:=hI (fun k cc=>low_iff bQ (key:=keyC s E) (n:=k) cc);have aa:=Zkk s E.tx (keyC s E) z
 have au:=hI (show K=true->low s E.tx (keyC s E) z<z.length from fun h=>by
  have bT:=ak.out;rw [h,qE] at bT;exact of_decide_eq_true bT.1)
 rw [br];clear br aV;obtain⟨t,H,new⟩:=E;simp only at aC aX az aO aw ak ab aL au aa ⊢;replace aP:=hI aP;have bU:=hI (bq.more bJ);have af:∀ b,S' b->b<w:=fun b F=>I b (bJ b F);replace aC:=hI aC;replace az:=hI az;replace aX:=hI aX;replace aO:=hI aO;obtain⟨bc,bn,bE,aW,ax⟩:=qA ZiG;obtain⟨vs,aq,bL⟩:=Sl.vals bq;have ao:vs.length=z.length:=(by rw [Dat.Va.len _ _ aq,ZcE (n:=1) (fun _=>rfl)];omega);replace aq:=hI aq;have aJ:=hI (show 0<z.length->_ from fun h=>bL (by simpa using h));clear bL;clear bq bQ;generalize bj:keyC s ⟨t,H,new⟩=key at aw ak ab aL au aa;replace bj:=hI bj;generalize low s t key z=p at aw ak ab aL au aa;replace ao:=hI ao;obtain⟨ch,cD,ba⟩:=Zdo D z Z p aa bu;replace ba:=hI ba;have aH:=hI (((qa w w).alloc nR (.cells #[.int .i64 s.vv,.slice A s.tt aE] 25)).alloc yb (.cells #[.int .i64 t,.slice B H c1,.slice A' new c2] 148));go_enter func80,ntmps80
 go_wp2_with fail
 refine(changeKey_any (A:=A) aE s ⟨t,H,new⟩ (B:=B) c1 (A':=A') c2 (S:=S) (aP.keep (qS aH I)) (aC.keep (qS aH I)) aX (az.keep (qS aH I)) aO (fun b F=>by have:=I b F;simp;omega)).mono ?_;rintro e aU ⟨cx,cf,rfl,aI,O⟩;rw [bj] at aI ⊢;replace aI:=hI aI;have aT:=hI (aH.trans (O.mono yd));have bW:=hI (show Capt aU s A aE t w (w+1) from ⟨(O.cell (p:=⟨w,0,none⟩) yd).trans yb,(O.cell (p:=⟨w,1,none⟩) yd).trans yb,(O.cell (p:=⟨w+1,0,none⟩) yb).trans yb,by have:=O.size;simp at this;omega,by have:=O.size;simp at this;omega⟩);have bR:yr aU (w+1) 1 (.slice B H c1):=c9Q O yb yb;have bB:yr aU (w+1) 2 (.slice A' new c2):=c9Q O yb yb;have aW:w.heap.size+1<aU:=(by have:=O.size;simp at this;omega);clear O
 go_wp2_with fail
 refine(search_any (A:=A) (n:=aE) (s:=s) (a:=t) (k:=w) (m:=w+1) (B:=D) (i:=Z) (z:=z) (A':=cx) (j:=cf) (key:=key) p (S:=S) bW (aP.keep (qS aT I)) (bU.keep (qS aT I)) aI (fun b F=>yl (I b F)) aa aL).mono ?_;rintro e w2 ⟨rfl,aF⟩;rw [ak];have aQ:=hI (aT.trans (aF.mono ya));have bb:yr w2 (w+1) 1 (.slice B H c1):=c9K aF bR;have bY:yr w2 (w+1) 2 (.slice A' new c2):=c9K aF bB;have ax:w.heap.size+1<w2:=(yl aF.size);have bk:∀ b,S b->b<w2:=(fun b F=>yl (I b F));clear aF bR bB aW;go_upto_region 2 with fail
 go_cut [1,9,12,39] from 13 to 39 (fun r f _ v aB=>r=.slice D z Z/\f=.bool K/\v=.bool (!am)/\Below w2 w2 aB)
 case first =>
  cases K with
  | false =>
   rcases qF H.length with L | L
   .have an:decide (0<H.length)=false:=qe ya;clear L;have aj:=hI (show am=true by rw [<-ab,an];rfl)
    go_wp2
    go_quiet (fail)
    go_wp2
    go_meet;exact⟨rfl,rfl,by rw [aj];rfl,below_drewN (qa _ _) _⟩
   have an:decide (0<H.length)=true:=qt L;have aj:=hI (show am=false by rw [<-ab,an];rfl)
   go_wp2
   go_quiet (fail)
   go_wp2
   go_meet;exact⟨rfl,rfl,by rw [aj];rfl,below_drewN (qa _ _) _⟩
  | true =>
   rcases qF H.length with L | L
   .have an:decide (0<H.length)=false:=qe ya;clear L;have aj:=hI (show am=false by rw [<-ab,an];rfl)
    go_wp2
    go_quiet (fail)
    go_wp2
    go_meet;exact⟨rfl,rfl,by rw [aj];rfl,below_drewN (qa _ _) _⟩
   have an:decide (0<H.length)=true:=qt L;have bg:=au rfl;have aj:=hI (show am=(cmpR (z.getD p []) H == 0) by rw [<-ab,an];simp);obtain⟨aZ,b1,rfl,cu,bG,bV,f1,b4,f3⟩:=(bU.keep (qS aQ I)).at_ bg;have bN:=hI f3;have ct:aZ<w2:=bk aZ cu;have b6:=f3.len;have ce:=hI (aC.keep (qS aQ I));clear b4 f3 ab ak;generalize z.getD p []=row at f1 bN b6 aj;have:(0:Int)<=p:=ya;have:(p:Int)<z:=by omega
   go_region_held3 (fun w'=>Below w2 w2 w'/\w'.cell? ⟨w+1,1,none⟩=some (.slice B H c1)/\w'.cell? ⟨aZ,b1+p,none⟩=some (.slice bG row bV))
    (first | exact⟨(qa _ _).drew,bb,f1⟩ | exact⟨aN,c9Q aN ax bb,c9Q aN ct f1⟩)
    ((go_at_call 131;refine(equal_any bG B bV c1 row H S w2.drew (bN.keep (fun _ _=>rfl)) (ce.keep (fun _ _=>rfl)) bk).mono ?_;rintro e M ⟨rfl,co⟩;have aN:Below w2 w2 M:=(qa _ w2).drew.trans co))
   go_wp2
   go_meet;exact⟨rfl,rfl,by rw [aj],aN⟩
 obtain⟨rfl,rfl,rfl,ah⟩:=hcut;obtain⟨aD,rfl⟩:∃ aD:World,aD=wc:=⟨_,rfl⟩;have bi:=hI (aQ.trans (ah.mono ya));have bz:yr aD (w+1) 2 (.slice A' new c2):=c9Q ah ax bY;have bC:w.heap.size+1<aD:=(yl ah.size);clear ah bb bY ax bk aQ ab ak aH aT bW aI;cases am with
 | false =>
  go_wp2
  go_ret2;exact⟨rfl,bi⟩
 | true =>
  go_wp2
  go_quiet (fail)
  obtain⟨aS,aA⟩:=yp (aD.drewN nq);have bp:=hI (show Below w w aS by rw [<-aA];exact below_drewN bi _);have cw:aS.cell? ⟨w+1,2,none⟩=some (.slice A' new c2):=(by rw [<-aA];simpa using bz);have:w.heap.size+1<aS:=(by rw [<-aA];simpa using bC);rw [aA];clear aA bz bC bi;obtain⟨q,ay⟩:=yp ((if K then p+1 else p));rw [ay] at aw
  have cp:q<=z:=by
   rw [<-ay];split
   .exact au (by assumption)
   exact aa
  replace ay:=hI ay;go_upto_if 47 with fail
  go_cut [9,11] from 47 to 51 (fun f v aB=>∃ av,f=.bool K/\v=.slice av (z.length - q) (Z - q)/\(∀ b bf,0<z.length - q->D=some ⟨b,bf,none⟩->av=some ⟨b,bf+q,none⟩)/\aB=aS)
  case first =>
   cases K with
   | false =>
    have aG:=hI (show p=q from ay)
    go_wp2
    go_meet;exact⟨ch,rfl,by rw [aG],by rw [<-aG];exact ba,rfl⟩
   | true =>
    have bg:=au rfl;obtain⟨av,b0,bl⟩:=Zdo D z Z (p+1) bg bu;rw [show (((p+1:Nat)):Int)=(p:Int)+1 by omega] at b0;replace bl:=hI bl;have aG:=hI (show p+1=q from ay)
    go_wp2
    go_meet;exact⟨av,rfl,by rw [aG],by rw [<-aG];exact bl,rfl⟩
  obtain⟨av,rfl,rfl,bh,rfl⟩:=hcut;replace bh:=hI bh;go_upto_if 55 with fail
  go_cut [2,10] from 55 to 61 (fun c v aB=>∃ ar ai E aR,c=Zip t B H c1 A' new c2/\v=.slice ar ai E/\ai<=E/\HdL w aB S' ar ai (z.take p++(if 0<new.length then [new] else [])) aR/\ai<=z+1)
  case first =>
   rcases qF new.length with L | L
   .have bD:=hI L
    go_wp2
    go_meet;exact⟨D,p,p,vs.take p,by rw [bD],rfl,qp _,by rw [qo (yl bD.out),Qq];exact HdL.take aq aJ af aa bp ao,ya⟩
   have cq:=hI (show (vs.take p).length=p*1 by rw [qG,ao];omega)
   go_wp2_with fail
   refine(clone_any A' c2 new S _ (by exact az.keep (fun b F=>bp.block b (I b F)))).mono ?_;rintro e M ⟨R,W,rfl,bF,ah⟩;have bH:=hI (bp.trans (ah.mono ya));have bw:=hI (Zjg (m:=w) bF az.ok ya);have:w.heap.size<M:=(yl ah.size);clear ah bF cw;have bZ:=hI (cells_take aJ (fun b F=>(qd M (.cells #[.slice R new W] 116) b (yl (af b F))).trans (bH.block b (af b F))) aa);have ca:=hI (World.news_of_block (cs:=#[.slice R new W]) (t:=116) (fr:=(0,0)) (qb M (.cells #[.slice R new W] 116)))
   go_wp2_with (at_builtin;refine ZaP rfl (.tmp 56) (.tmp 60) 145 rfl (g:=116) (i:=bc) 1 24 underlying145 bn bE aW ax rfl yf _ p (vs.take p) rfl cq bZ ⟨M,0,none⟩ 1 1 [.slice R new W] rfl rfl ca ya yh ya ?_;intro bO ae aY bS ck;have b7:p+1<=bO:=Zas aY rfl;have b3:=hI ((qa M M).alloc nR (.cells #[.slice R new W] 116));have aM:=hI (b3.grown bS yb (fun _ h=>by cases h));have cg:=hI aY;clear aY bS ck)
   go_meet;refine⟨_,p+1,bO,vs.take p++[.slice R new W],rfl,rfl,b7,?_,ya⟩;rw [qr L];have b5:Dat.Vs ae (fun b=>S' b\/NewF w ae b) (Zy new) [.slice R new W]:=Zah bw.1 ((bw.2.keep (fun b F=>aM.block b F.2.1)).more (fun b F=>.inr ⟨F.1,qC F.2.1 aM.size,F.2.2.keep (aM.block b F.2.1)⟩));exact(HdL.take aq aJ af aa bH ao).more_ (l2:=[new]) af (Zw b5) rfl aM (p+1) _ rfl _ (show (M.alloc (.cells #[.slice R new W] 116)).heap.size=M.heap.size+1 by rw [Qt]) (show w.heap.size<=(M.alloc (.cells #[.slice R new W] 116)).heap.size by rw [Qt];omega) cg
  obtain⟨ae,rfl⟩:∃ ae:World,ae=wc:=⟨_,rfl⟩;obtain⟨ar,ai,E,aR,rfl,rfl,cE,bo,cA⟩:=hcut;have ac:=hI bo;have bt:=bo.bel.size;clear bo;rcases qv q z.length with bI | bI
  .obtain⟨aK,bK,bM,cd,be⟩:=aJ ya;have cm:=bh aK bK ya bM;replace be:=hI be;subst bM cm;have b2:=hI (cells_drop (m:=q) (be.keep (ac.bel.block aK (af aK cd))));have ci:=hI (show (vs.drop q).length=(z.length - q)*1 by rw [List.length_drop,ao];omega)
   have cv:=hI (show 0<ai->∃ b,ar=some b/\∀ j u,aR[j]?=some u->ae.cell? (b.add j)=some u from fun h=>by
    obtain⟨b,bf,e,_,cr⟩:=ac.at_ h;exact⟨_,e,fun j u cn=>cr.add j u cn⟩)
   go_wp2_with (at_builtin;refine ZaP rfl (.tmp 67) (.tmp 68) 145 rfl (g:=116) (i:=bc) 1 24 underlying145 bn bE aW ax rfl yf ar ai aR rfl ac.len cv ⟨aK,bK+q,none⟩ (z.length - q) (Z - q) (vs.drop q) rfl ci b2 ya yh ya ?_;intro cC cy bm bX b9;have bP:=hI ((qa ae ae).grown bX ya (fun _ h=>by cases h));have b8:=hI bm;have cj:=Zas bm rfl;clear bm bX b9)
   go_ret2;rw [aw];exact((ac.more_ af (vals_drop aq af cp (ac.bel.trans (bP.mono bt))) (by rw [List.length_drop,List.length_drop,ao]) bP _ _ (by rw [List.length_drop]) _ rfl bt b8)).fin cj (by rw [qi,List.length_drop,<-ac.n_];omega)
  rw [show z.length - q=0 by omega]
  go_wp2_with (at_builtin;refine Zam rfl (.tmp 67) (.tmp 68) 145 rfl (g:=116) (i:=bc) underlying145 bn (A:=ar) ai rfl (B:=av) (Z - q) rfl ?_)
  go_ret2;rw [aw,Qu bI,Qq];exact ac.fin nR (by rw [<-ac.n_];omega)
theorem applied_yes (I:Option Addr) (L:Nat) (F:Option Addr) (c1:Nat) (K:Option Addr) (c2:Nat) {E:List Row} (S T:Nat->Prop) 
 (Z:TabS w S I s.tt) (U:RowsS w T A E) (ae:∀ b,T b->S b) (M:E.length<=n) (R:RowS w S F C.old) (af:C.old.length<=c1) (aa:RowS w S K C.new) (W:C.new.length<=c2) (ac:∀ b,S b->b<w) (ab:Asc s C.tx E)
 (ah:0<C.old.length\/0<C.new.length) (O:Zhi s C E=true) (N:E.length<=1000000) :
 Calls prog 80 #[sAgg s.vv I s.tt L,.slice A E n,Zip C.tx F C.old c1 K C.new c2] w (AppT T (putC s C E) w):=by
 have h:=Zgk L C c1 c2 n Z U ae M R af aa W ac ab N;rwa [O] at h
theorem applied_not (I:Option Addr) (L:Nat) (F:Option Addr) (c1:Nat) (K:Option Addr) (c2:Nat) {E:List Row} (S T:Nat->Prop) 
 (Z:TabS w S I s.tt) (U:RowsS w T A E) (ae:∀ b,T b->S b) (M:E.length<=n) (R:RowS w S F C.old) (af:C.old.length<=c1) (aa:RowS w S K C.new) (W:C.new.length<=c2) (ac:∀ b,S b->b<w) (ab:Asc s C.tx E)
 (O:Zhi s C E=false) (N:E.length<=1000000) :
 Calls prog 80 #[sAgg s.vv I s.tt L,.slice A E n,Zip C.tx F C.old c1 K C.new c2] w (AppF w):=by
 have h:=Zgk L C c1 c2 n Z U ae M R af aa W ac ab N;rwa [O] at h
theorem ZkZ:(prog.info? 145).map (fun i=>(i.zero,i.size,i.bytes))=some (some (.slice none 0 0),1,24):=by kernel_rfl
def Zk (n:Nat):List Value:=List.replicate n (Value.slice none 0 0)
theorem ZaQ (n:Nat) (N:n<=5864062014805) (w:World) :
 (Instr.makeSlice 26 (.int .i64 (n:Int)) (.int .i64 (n:Int))).run prog w=.ok (.slice (some ⟨w,0,none⟩) n n) (w.alloc (.cells (Zk n).toArray 145)):=by
 obtain⟨z,K,H,I,E⟩:=qA ZkZ;have F:=run_make (P:=prog) w 26 145 z _ underlying26 K H .i64 .i64 n n ya ya (by rw [E];omega) ya;rw [F,I];simp only [qu]
 congr 3
 apply Array.ext
 .simp [size_madeCells,Zk]
 intro i M L;simp [madeCells,Zk,Value.cells,Nat.mod_one]
def StB (w:World) (S:Nat->Prop) (z:Nat) (st:St):Prop :=
 ∃ vs:List Value,w.heap[z]?=some (.cells vs.toArray 145 (0,0))/\Dat.Va w S (st.map Zx) vs/\∀ b,S b->b<w/\b≠z
section
variable {w w':World} {S S':Nat->Prop} {gt:Nat} {st:St}
theorem valsAll_len {l:St} {vs:List Value} (h:Dat.Va w S (l.map Zx) vs):vs.length=l.length:=by
 rw [Dat.Va.len _ _ h,ZcE (n:=1) (fun _=>rfl)];omega
theorem StB.keep (h:StB w S gt st) (K:w.heap.size<=w') (F:Same S w w') (L:w'.heap[gt]?=w.heap[gt]?):StB w' S gt st:=by
 obtain⟨vs,I,H,z⟩:=h;exact⟨vs,L.trans I,Dat.Va.keep F _ _ H,fun b E=>⟨qC (z b E).1 K,(z b E).2⟩⟩
theorem StB.lt (h:StB w S gt st):gt<w:=by
 obtain⟨vs,z,_⟩:=h;exact Zb z
theorem StB.below (h:StB w S gt st) (z:Below w w w'):StB w' S gt st:=by
 have E:=h;obtain⟨vs,K,I,H⟩:=E;exact h.keep z.size (fun b F=>z.block b (H b F).1) (z.block gt h.lt)
theorem StB.more (h:StB w S gt st) (F:∀ b,S b->S' b) (z:∀ b,S' b->b<w/\b≠gt):StB w S' gt st:=by
 obtain⟨vs,H,E,I⟩:=h;exact⟨vs,H,Dat.Va.more F _ _ E,z⟩
theorem Zis:∀ {l:St} {vs:List Value} {k:Nat},Dat.Va w S (l.map Zx) vs->k<l->∃ A c,vs[k]?=some (.slice A (l.getD k []).length c)/\(l.getD k []).length<=c/\RowsS w S A (l.getD k [])
 | [],_,k,_,z=>by simp at z
 | a :: l,vs,k,h,z=>by
  rw [qL] at h;unfold Dat.Va at h;obtain⟨x,y,e,F,K⟩:=h;unfold Zx Dat.Vs at F;obtain⟨A,c,E,H,L⟩:=F;rw [qg] at E H;subst E;subst e;cases k with
  | zero=>exact⟨A,c,rfl,H,L⟩
  | succ k =>
   obtain⟨A',M,N,I⟩:=Zis (k:=k) K (by simpa using z);exact⟨A',M,by simpa using N,I⟩
theorem ZgV:∀ {l:St} {vs:List Value} {k:Nat} {A:Option Addr} {c:Nat} {r:List Row},Dat.Va w S (l.map Zx) vs->r.length<=c->RowsS w S A r->Dat.Va w S ((l.set k r).map Zx) (vs.set k (.slice A r c))
 | [],vs,k,A,c,r,h,_,_=>by
  simp only [Qn] at h;unfold Dat.Va at h;subst h;simp only [List.set_nil,Qn];unfold Dat.Va;rfl
 | a :: l,vs,k,A,c,r,h,I,H=>by
  rw [qL] at h;unfold Dat.Va at h;obtain⟨x,y,e,z,F⟩:=h;have L:=z;unfold Zx Dat.Vs at z;obtain⟨A',K,E,_⟩:=z;rw [qg] at E;subst E;subst e;cases k with
  | zero =>
   simp only [List.set_cons_zero,qL,List.singleton_append];unfold Dat.Va;refine⟨[.slice A r c],y,rfl,?_,F⟩;unfold Zx Dat.Vs;exact⟨A,c,yb,by simpa using I,H⟩
  | succ k =>
   simp only [List.set_cons_succ,qL,List.singleton_append];unfold Dat.Va;exact⟨[.slice A' a K],y.set k (.slice A r c),rfl,L,ZgV F I H⟩
theorem StB.at_ (h:StB w S gt st) {k:Nat} (E:k<st):w.frozen? ⟨gt,k,none⟩=false/\∃ A c,w.cell? ⟨gt,k,none⟩=some (.slice A (st.getD k []).length c)/\(st.getD k []).length<=c/\RowsS w S A (st.getD k []):=by
 obtain⟨vs,z,F,K⟩:=h;obtain⟨A,c,H,I⟩:=Zis F E;refine⟨by simp [World.frozen?,z],A,c,?_,I⟩;simp only [World.cell?,z];simpa using H
theorem StB.slice (h:StB w S gt st) (K:st.length<=5864062014805) (E:∀ b,S b->S' b) (I:S' gt):StS w S' (some ⟨gt,0,none⟩) st:=by
 obtain⟨vs,F,z,M⟩:=h;refine Qb (by rw [Ze (n:=24) (fun _=>rfl)];omega) (Dat.Va.more E _ _ z) (fun L=>⟨gt,0,rfl,I,fun j u H=>?_⟩);simp only [World.cell?,F,qx];simpa using H
theorem Zc {w:World} {g k:Nat} {vs:List Value} {t:TypeId} {v:Value} (h:w.heap[g]?=some (.cells vs.toArray t (0,0))):(w.setCell ⟨g,k,none⟩ v).heap[g]?=some (.cells (vs.set k v).toArray t (0,0)):=by
 simp [World.setCell,Array.getElem?_modify,h]
theorem StB.put (h:StB w S gt st) {k:Nat} {A:Option Addr} {c:Nat} {r:List Row} (L:r.length<=c) (I:RowsS w S A r):StB (w.setCell ⟨gt,k,none⟩ (.slice A r c)) S gt (st.set k r):=by
 obtain⟨vs,K,H,E⟩:=h;have F:Same S w (w.setCell ⟨gt,k,none⟩ (.slice A r c)):=fun b z=>qc w ⟨gt,k,none⟩ _ b (E b z).2;refine⟨_,Zc K,Dat.Va.keep F _ _ (ZgV H L I),fun b z=>⟨by simpa using (E b z).1,(E b z).2⟩⟩
end
abbrev Beh (base:Nat) (w:World) (v:Value):Nat->Prop:=fun b=>base<=b/\b<w/\some b≠v.ownBlock
abbrev BehF (base:Nat) (w:World) (v:Value):Nat->Prop:=fun b=>base<=b/\b<w/\some b≠v.ownBlock/\Fl w b
def CopyO (w:World) (base z n k:Nat) (st:St):Prop :=
 ∃ vs:List Value,vs.length=k/\w.heap[z]?=some (.cells (vs++Zk (n - k)).toArray 145 (0,0))/\Dat.Va w (fun b=>base<=b/\b<w/\Fl w b) ((st.take k).map Zx) vs
structure CopyI (w:World) (base gt n k:Nat) (st:St) (v:Value) (l:List Row):Prop where
 blk:∃ vs:List Value,vs.length=k/\w.heap[gt]?=some (.cells (vs++v :: Zk (n - (k+1))).toArray 145 (0,0))/\Dat.Va w (BehF base w v) ((st.take k).map Zx) vs
 own:OwnD w base 116 1 (BehF base w v) v (l.map Zy)
section
variable {w w':World} {base gt n k:Nat} {st:St} {v v':Value} {l:List Row}
theorem CopyO.zero (h:w.heap[gt]?=some (.cells (Zk n).toArray 145 (0,0))):CopyO w base gt n 0 st :=
 ⟨[],rfl,by simpa using h,by simp only [List.take_zero,Qn];unfold Dat.Va;rfl⟩
theorem CopyO.inner (h:CopyO w base gt n k st) (I:k<n):CopyI w base gt n k st (.slice none 0 0) []:=by
 obtain⟨vs,F,E,H⟩:=h;refine⟨⟨vs,F,?_,Dat.Va.more (fun b z=>⟨z.1,z.2.1,by simp [Value.ownBlock],z.2.2⟩) _ _ H⟩,Qg (fun b z=>z.2.1)⟩;rw [show n - k=n - (k+1)+1 by omega] at E;exact E
theorem CopyI.cell (h:CopyI w base gt n k st v l):w.cell? ⟨gt,k,none⟩=some v/\w.frozen? ⟨gt,k,none⟩=false:=by
 obtain⟨vs,E,z,_⟩:=h.blk;refine⟨?_,by simp [World.frozen?,z]⟩;simp only [World.cell?,z];simp [<-E]
theorem CopyI.lt (h:CopyI w base gt n k st v l):gt<w:=by
 obtain⟨vs,E,z,_⟩:=h.blk;exact Zb z
theorem CopyI.form (h:CopyI w base gt n k st v l):∃ A c,v=.slice A l c:=by
 obtain⟨vals,z,_⟩:=h.own;rw [qg] at z;exact Zep z
theorem CopyI.below (h:CopyI w base gt n k st v l) (E:Below w w w'):CopyI w' base gt n k st v l:=by
 obtain⟨vs,K,F,L⟩:=h.blk;have H:∀ b,BehF base w v b->BehF base w' v b:=fun b z=>⟨z.1,qC z.2.1 E.size,z.2.2.1,z.2.2.2.keep (E.block b z.2.1)⟩;have I:Same (BehF base w v) w w':=fun b z=>E.block b z.2.1;exact⟨⟨vs,K,(E.block gt (Zb F)).trans F,Dat.Va.more H _ _ (Dat.Va.keep I _ _ L)⟩,(h.own.below E).more H (fun b z=>⟨z.2.1,z.2.2.1⟩)⟩
theorem CopyI.push (h:CopyI w base gt n k st v l) (au:gt<base) (ah:base<=w) {r:Row} {A:Option Addr} {c:Nat} {E wb:World} (I:Below w w E) (ac:r.length<=c/\RowS E (fun b=>w<=b/\b<E/\Fl E b) A r) {vals:List Value} {g cap m:Nat}
 (ak:Dat.Va w (BehF base w v) (l.map Zy) vals) (K:E.grownBy wb v.ownBlock) (ap:m=l.length+1) (R:wb.ownsRow base 116 1 (.slice (some ⟨g,0,none⟩) m cap) m (vals++[.slice A r c])) (F:v.ownBlock=some g\/E.heap.size<=g) (L:∀ H,v.ownBlock=some H->base<=H/\H<w) :
 CopyI (wb.setCell ⟨gt,k,none⟩ (.slice (some ⟨g,0,none⟩) m cap)) base gt n k st (.slice (some ⟨g,0,none⟩) m cap) (l++[r]):=by
 subst ap
 have ae:∀ b,b<w.heap.size->some b≠v.ownBlock->some b≠(Value.slice (some ⟨g,0,none⟩) (l.length+1) cap).ownBlock:=fun b av ao e=>by
  have M:b=g:=(by simpa [Value.ownBlock] using e);rcases F with F | F
  .exact ao (by rw [F,M])
  have:=I.size;omega
 have ar:=I.size;have aq:=K.size;obtain⟨vs,aa,W,an⟩:=h.blk;have ai:=Zb W;have am:some gt≠v.ownBlock:=(fun e=>yl ((L gt e.symm).1));have ab:(wb.setCell ⟨gt,k,none⟩ (.slice (some ⟨g,0,none⟩) (l.length+1) cap)).heap.size=wb.heap.size:=yb;have N:∀ b,b≠gt->(wb.setCell ⟨gt,k,none⟩ (.slice (some ⟨g,0,none⟩) (l.length+1) cap)).heap[b]?=wb.heap[b]?:=fun b z=>qc wb ⟨gt,k,none⟩ _ b z;have O:Same (BehF base w v) w (wb.setCell ⟨gt,k,none⟩ (.slice (some ⟨g,0,none⟩) (l.length+1) cap)):=fun b z=>(N b (yl z.1)).trans ((K.block b (yl z.2.1) z.2.2.1).trans (I.block b z.2.1));have Z:∀ b,BehF base w v b->BehF base (wb.setCell ⟨gt,k,none⟩ (.slice (some ⟨g,0,none⟩) (l.length+1) cap)) (.slice (some ⟨g,0,none⟩) (l.length+1) cap) b:=fun b z=>⟨z.1,by rw [ab];have:=z.2.1;omega,ae b z.2.1 z.2.2.1,z.2.2.2.keep (O b z)⟩;refine⟨⟨vs,aa,?_,Dat.Va.more Z _ _ (Dat.Va.keep O _ _ an)⟩,?_⟩
 .have aj:wb.heap[gt]?=some (.cells (vs++v :: Zk (n - (k+1))).toArray 145 (0,0)):=(K.block gt ya am).trans ((I.block gt ai).trans W);rw [Zc aj];rw [<-aa,List.set_append_right _ _ nR];simp
 refine⟨vals++[.slice A r c],?_,?_,fun b z=>⟨z.2.1,z.2.2.1⟩⟩
 .rw [qm,qi,qg];simp only [qL,Qn,qK,Qp,qx];exact Zo R (fun H af=>N H (by have M:g=H :=(by simpa [Value.ownBlock] using af);have:base<=g:=Zs R rfl;omega))
 rw [qm];refine Zu (Dat.Va.more Z _ _ (Dat.Va.keep O _ _ ak)) ?_;simp only [qL,Qn];refine Zw (Zah ac.1 ?_);have U:Same (fun b=>w<=b/\b<E/\Fl E b) E (wb.setCell ⟨gt,k,none⟩ (.slice (some ⟨g,0,none⟩) (l.length+1) cap)):=fun b z=>(N b ya).trans (K.block b z.2.1 (fun e=>yl ((L b e.symm).2)));refine(ac.2.keep U).more (fun b z=>⟨qD ah z.1,by rw [ab];exact qC z.2.1 aq,fun e=>?_,z.2.2.keep (U b z)⟩);have M:b=g:=(by simpa [Value.ownBlock] using e);rcases F with F | F
 .have:=(L g F).2;have:=z.1;omega
 have:=z.2;omega
theorem CopyI.outer (h:CopyI w base gt n k st v (st.getD k [])) (R:k<n) (F:k<st) (U:(st.getD k []).length<=5864062014805):CopyO w base gt n (k+1) st:=by
 obtain⟨vs,K,I,L⟩:=h.blk;obtain⟨A,c,rfl⟩:=h.form;have E:=h.own.slice (S':=fun b=>base<=b/\b<w/\Fl w b) (by rw [Ze (n:=24) (fun _=>rfl)];omega) (fun b z=>⟨z.1,z.2.1,z.2.2.2⟩) (fun g N O M=>⟨N,O,by obtain⟨vals,H,_⟩:=h.own;exact Zkd H M⟩);refine⟨vs++[.slice A (st.getD k []).length c],by simp [K],by rw [qB];exact I,?_⟩;have e:st.take (k+1)=st.take k++[st.getD k []]:=(by rw [qj F];simp [List.getD,F]);rw [e,qm];refine Zu (Dat.Va.more (fun b z=>⟨z.1,z.2.1,z.2.2.2⟩) _ _ L) ?_;simp only [qL,Qn];refine Zw ?_;unfold Zx Dat.Vs;exact⟨A,c,yb,by simpa using E.2.1,E.2.2⟩
theorem CopyO.done (h:CopyO w base gt n n st) (K:st.length=n) (I:gt<base):StB w (fun b=>base<=b/\b<w/\Fl w b) gt st:=by
 obtain⟨vs,H,E,z⟩:=h;rw [qs ya] at z;refine⟨vs,by simpa [Zk] using E,z,fun b F=>⟨F.2.1,ya⟩⟩
structure ApW (w:World) (H:Nat) (s:Sch) (A0:Option Addr) (c0' n:Nat) (wr:World):Prop where
 bel:Below w w wr
 v0:wr.cell? ⟨w,0,none⟩=some (.int .i64 s.vv)
 v1:wr.cell? ⟨w,1,none⟩=some (.slice A0 s.tt c0')
 r0:wr.cell? ⟨w.heap.size+1+1,0,none⟩=some (.slice none 0 0)
 r1:wr.frozen? ⟨w.heap.size+1+1,0,none⟩=false
 a0:wr.cell? ⟨H+1,0,none⟩=some (.slice (some ⟨H,0,none⟩) n n)
 lt:w.heap.size+1+1<H
 sz:H+2<=wr
theorem ApW.keep {w wr F:World} {E:Nat} {s:Sch} {I:Option Addr} {H n:Nat} (h:ApW w E s I H n wr) (z:Fr (fun b=>b=E\/E+2<=b) wr F):ApW w E s I H n F:=by
 have L:=h.lt;have K:=h.sz;refine⟨⟨z.os.trans h.bel.os,z.tape.trans h.bel.tape,z.output.trans h.bel.output,qD h.bel.size z.size,fun b M=>(z.block b ya ya).trans (h.bel.block b M)⟩,?_,?_,?_,?_,?_,L,qD K z.size⟩
 .exact(z.cell ya ya).trans h.v0
 .exact(z.cell ya ya).trans h.v1
 .exact(z.cell ya ya).trans h.r0
 .exact(World.frozen?_of_block (w:=wr) (a:=⟨w.heap.size+1+1,0,none⟩) (z.block (w.heap.size+1+1) ya ya)).trans h.r1
 exact(z.cell ya ya).trans h.a0
theorem ApW.below {w wr E:World} {z:Nat} {s:Sch} {H:Option Addr} {F n:Nat} (h:ApW w z s H F n wr) (I:Below wr wr E):ApW w z s H F n E:=h.keep (qW I)
end
theorem ZgB (s:Sch) (t m:Int):∀ (l:List Row) (p:Option Row),ZR s t m p l=true->(∀ q,p=some q->∀ j,j<l.length->cmpR (keyF s t q) (keyF s t (l.getD j []))<0)/\Asc s t l
 | [],p,_=>⟨fun _ _ j z=>by simp at z,fun i j _ z=>by simp at z⟩
 | r :: l,p,h=>by
  simp only [ZR,qE] at h;obtain⟨⟨L,H⟩,K⟩:=h;obtain⟨F,I⟩:=ZgB s t m l (some r) K;have E:∀ q,p=some q->cmpR (keyF s t q) (keyF s t r)<0:=(fun q e=>by subst e;exact of_decide_eq_true H);refine⟨fun q e j z=>?_,fun i j M z=>?_⟩
  .cases j with
   | zero=>exact E q e
   | succ j=>exact cmpR_is.lt_trans (E q e) (F r rfl j (by simpa using z))
  cases j with
  | zero=>omega
  | succ j =>
   cases i with
   | zero=>exact F r rfl j (by simpa using z)
   | succ i=>exact I i j ya (by simpa using z)
theorem Zfx (s:Sch) (m:Int):∀ (st:St) (t k:Nat),stOk s m t st=true->k<st->ZR s ((t+k:Nat):Int) m none (st.getD k [])=true
 | [],t,k,_,z=>by simp at z
 | l :: st,t,k,h,z=>by
  simp only [stOk,qE] at h;cases k with
  | zero=>exact h.1
  | succ k =>
   have:=Zfx s m st (t+1) k h.2 (by simpa using z);rw [show t+1+k=t+(k+1) by omega] at this;exact this
theorem Zja {st:St} (h:stOk s a 0 st=true) (z:n<st):Asc s n (st.getD n []):=by
 have:=Zfx s a st 0 n h z;rw [qx] at this;exact(ZgB s n a _ none this).2
theorem ZeD (st:St) (t:Nat) (l:List Row) (h:t<st):(Zi (st.set t l):Int)=Zi st+(l.length - (st.getD t []).length:Int):=by
 induction st generalizing t with
 | nil=>simp at h
 | cons a r z =>
  cases t with
  | zero=>simp only [List.set_cons_zero,Zi,List.getD_cons_zero];omega
  | succ t =>
   have:=z t (by simpa using h);simp only [List.set_cons_succ,Zi,List.getD_cons_succ];omega
theorem ZaB (st:St) (t:Nat):(st.getD t []).length<=Zi st:=by
 induction st generalizing t with
 | nil=>simp
 | cons a r z =>
  cases t with
  | zero=>simp [Zi]
  | succ t=>have:=z t;simp only [Zi,List.getD_cons_succ];omega
theorem Zko (z:ZE s a C=true) (F:0<C.new.length):keyF s C.tx C.new=keyC s C:=by
 unfold keyC;split
 .rename_i E
  unfold ZE at z;simp only [qE,Bool.or_eq_true,qT,beq_iff_eq] at z;rcases z.2 with (h | h) | h
  .omega
  .omega
  exact((cmpR_is.zero _ _).1 h).symm
 rfl
theorem ZfQ (a b:List Row) (h:n<a):(a++b).getD n []=a.getD n []:=by simp [List.getD,List.getElem?_append_left h]
theorem ZfP (a b:List Row) (h:a.length<=n):(a++b).getD n []=b.getD (n - a.length) []:=by simp [List.getD,List.getElem?_append_right h]
theorem Zbv {t b:List Row} (H:Asc s a t) (K:Asc s a b) (I:∀ x ∈ t,∀ y ∈ b,cmpR (keyF s a x) (keyF s a y)<0):Asc s a (t++b):=by
 intro i j L F;rw [qi] at F
 by_cases E:j<t
 .rw [ZfQ _ _ ya,ZfQ _ _ E];exact H i j L E
 by_cases z:i<t
 .rw [ZfQ _ _ z,ZfP _ _ ya];refine I _ ?_ _ ?_
  .simp [List.getD,z]
  have:j - t.length<b:=ya;simp [List.getD,this]
 rw [ZfP _ _ ya,ZfP _ _ ya];exact K _ _ ya ya
theorem Zhp {l:List Row} (h:Asc s a l) (k:Nat):Asc s a (l.take k):=by
 intro i j E z;rw [qG] at z;have e:∀ x,x<k->(l.take k).getD x []=l.getD x []:=(fun x F=>by simp [List.getD,List.getElem?_take,F]);rw [e i ya,e j ya];exact h i j E ya
theorem ZdX {l:List Row} (k i:Nat):(l.drop k).getD i []=l.getD (k+i) []:=by simp [List.getD,List.getElem?_drop]
theorem ZjD {l:List Row} (h:Asc s a l) (k:Nat):Asc s a (l.drop k):=by
 intro i j E z;rw [List.length_drop] at z;rw [ZdX,ZdX];exact h _ _ ya ya
theorem mem_getD {l:List Row} {x:Row} (h:x ∈ l):∃ i,i<l.length/\l.getD i []=x:=by
 obtain⟨i,z,e⟩:=List.mem_iff_getElem.1 h;exact⟨i,z,by simp [List.getD,z,e]⟩
theorem ZkG (r:Row):Asc s a [r]:=fun i j E z=>by simp at z;omega
theorem ZgG {key:Row} {l:List Row} (I:Asc s a l) (F:n<l) (L:low s a key l<=n) (K:n=low s a key l->cmpR (keyF s a (l.getD n [])) key≠0):cmpR key (keyF s a (l.getD n []))<0:=by
 have N:=Zkl s a key l ya;have E:∀ t b:Row,cmpR b t=- cmpR t b:=cmpR_is.flip;rcases Nat.lt_or_eq_of_le L with z | z
 .have M:=I _ _ z F;have H:cmpR key (keyF s a (l.getD (low s a key l) []))<=0:=(by rw [E];omega);exact cmpR_is.le_lt_trans H M
 subst z;have:=K rfl;rw [E];omega
theorem asc_put {l:List Row} (H:Asc s C.tx l) (R:ZE s a C=true):Asc s C.tx (putC s C l):=by
 unfold putC
 have L:∀ x ∈ l.take (low s C.tx (keyC s C) l),cmpR (keyF s C.tx x) (keyC s C)<0:=by
  intro x E;obtain⟨i,I,e⟩:=mem_getD E;rw [qG] at I;have W:(l.take (low s C.tx (keyC s C) l)).getD i []=l.getD i []:=(by simp [List.getD,List.getElem?_take,show i<low s C.tx (keyC s C) l by omega]);rw [<-e,W];exact Zkj s C.tx (keyC s C) l i ya
 have K:∀ y ∈ (if ZeY s C l then l.drop (low s C.tx (keyC s C) l+1) else l.drop (low s C.tx (keyC s C) l)),cmpR (keyC s C) (keyF s C.tx y)<0:=by
  intro y z;cases F:ZeY s C l with
  | true =>
   rw [F] at z;obtain⟨i,I,e⟩:=mem_getD z;simp only [if_true,List.length_drop] at I;simp only [if_true,ZdX] at e;rw [<-e];exact ZgG H ya ya (fun h=>ya)
  | false =>
   rw [F] at z;obtain⟨i,I,e⟩:=mem_getD z;simp only [Bool.false_eq_true,if_false,List.length_drop] at I;simp only [Bool.false_eq_true,if_false,ZdX] at e;rw [<-e];refine ZgG H ya ya (fun h=>?_);have U:i=0:=ya;subst U;unfold ZeY at F;rw [qt (show low s C.tx (keyC s C) l<l.length by omega),Bool.true_and] at F;rw [Nat.add_zero];exact qf.1 F
 have N:Asc s C.tx (if ZeY s C l then l.drop (low s C.tx (keyC s C) l+1) else l.drop (low s C.tx (keyC s C) l)):=by split<;>exact ZjD H _
 by_cases M:0<C.new.length
 .rw [qr M];have O:=Zko R M;refine Zbv (Zbv (Zhp H _) (ZkG _) (fun x E y z=>?_)) N (fun x E y z=>?_)
  .rw [qy] at z;rw [z,O];exact L x E
  rcases qH.1 E with E | E
  .exact cmpR_is.lt_trans (L x E) (K y z)
  rw [qy] at E;rw [E,O];exact K y z
 rw [qo M,Qq];exact Zbv (Zhp H _) N (fun x E y z=>cmpR_is.lt_trans (L x E) (K y z))
theorem Ziv (s:Sch) (c:Chg) (l:List Row):(putC s c l).length<=l+1:=by
 unfold putC;have:=Zkk s c.tx (keyC s c) l;simp only [qi,qG];split<;>split<;>simp<;>omega
theorem Zjz {st:St} (h:Zv a s t st=0):Zi st<=512/\st.length=s.tt.length/\stOk s t 0 st=true:=by
 unfold Zv at h;split at h
 .omega
 split at h
 .omega
 split at h
 .omega
 rename_i F H E
 split at h
 .rename_i z
  exact⟨ya,by simpa using E,z⟩
 omega
end Go.Proofs.YtjadnfodboepeaaGreat
