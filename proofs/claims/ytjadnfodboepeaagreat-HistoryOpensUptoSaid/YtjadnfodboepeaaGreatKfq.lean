import Derived.Test.YtjadnfodboepeaaGreatK0i
set_option linter.all false
set_option maxRecDepth 100000
set_option maxHeartbeats 8000000
namespace Go.Proofs.YtjadnfodboepeaaGreat
open Tryz
open Go.RowKit
variable {w w':World} {n k m i:Nat} {A B A':Option Addr} {S:Nat->Prop} {a t:Int} {x:Value} {g:TypeId} {s:Sch} {L LA:List Chg} {X:List Value} {C:Chg}
def ApPost (r:Int × St) (w:World) (e:Ending) (w':World):Prop:=∃ A c,e=.returned (.tuple #[.agg #[.slice A r.2 c],.int .i64 r.1])/\r.2.length<=c/\StS w' (New w w') A r.2/\Below w w w'
theorem ApPost.err {w w':World} {n:Int} {r:Int × St} (h:r=(n,[])) (z:Below w w w'):ApPost r w (.returned (.tuple #[.agg #[.slice none 0 0],.int .i64 n])) w':=by
 subst h;exact⟨none,0,rfl,qp _,StS.nil_,z⟩
def ApPostF (r:Int × St) (w:World) (e:Ending) (w':World):Prop:=∃ A c,e=.returned (.tuple #[.agg #[.slice A r.2 c],.int .i64 r.1])/\r.2.length<=c/\StS w' (NewF w w') A r.2/\Below w w w'
theorem ApPostF.err {w w':World} {n:Int} {r:Int × St} (h:r=(n,[])) (z:Below w w w'):ApPostF r w (.returned (.tuple #[.agg #[.slice none 0 0],.int .i64 n])) w':=by
 subst h;exact⟨none,0,rfl,qp _,StS.nil_,z⟩
theorem ApPostF.post {e:Ending} {r:Int × St} (h:ApPostF r w e w'):ApPost r w e w':=by
 obtain⟨A,c,H,E,I,F⟩:=h;exact⟨A,c,H,E,I.more (fun b z=>⟨z.1,z.2.1⟩),F⟩
theorem Zh {o:Obj} (h:n<w):(w.alloc o).cell? ⟨n,k,none⟩=w.cell? ⟨n,k,none⟩:=ql (qd w o n h)
theorem ZK {o:Obj} (h:n<w):(w.alloc o).frozen? ⟨n,k,none⟩=w.frozen? ⟨n,k,none⟩:=World.frozen?_of_block (qd w o n h)
theorem Zm {cs:Array Value} (z:n=w.heap.size) (h:cs[k]?=some x):(w.alloc (.cells cs g)).cell? ⟨n,k,none⟩=some x:=by
 subst z;rw [Qo _ _ _ _ _ _ (qb w (.cells cs g))];exact h
theorem ZaC {cs:Array Value} (z:n=w.heap.size):(w.alloc (.cells cs g)).frozen? ⟨n,k,none⟩=false:=by
 subst z;have h:=qb w (.cells cs g);unfold World.frozen?;rw [h];simp
theorem drop_chg (h:n<L):L.drop n=L.getD n chg0 :: L.drop (n+1):=by
 rw [qq h];simp [List.getD,h]
theorem Zfu (h:ZE s a C=true):∃ z:Nat,C.tx=z/\z<s.tt:=by
 unfold ZE at h;simp only [qE,hasN,qT] at h;obtain⟨z,E⟩:=qn h.1.1.1.1.1;exact⟨z,E,yl h.1.1.1.1.2⟩
theorem valid_some (h:ZE s a C=true):0<C.old.length\/0<C.new.length:=by
 unfold ZE at h;simp only [qE,Bool.not_eq_true',Bool.and_eq_false_iff,decide_eq_false_iff_not] at h;have:=h.1.1.1.2;omega
theorem getD_set_same {st:St} {r:List Row} (h:n<st):(st.set n r).getD n []=r:=by simp [List.getD,h]
theorem getD_set_other {st:St} {r:List Row} (h:k≠n):(st.set n r).getD k []=st.getD k []:=by simp [List.getD,List.getElem?_set_ne (Ne.symm h)]
theorem take_snoc {l:List Row} {k:Nat} (h:k<l):l.take (k+1)=l.take k++[l.getD k []]:=by
 rw [qj h];simp [List.getD,h]
theorem apply_fresh {ac:List Int->Pred->Int} (aa:Nat) (bt:Nat) {st:St} (aZ:TabS w S A s.tt) (aM:StS w S B st) (bH:ChgS w S A' L) (U:∀ b,S b->b<w) (dF:ZbZ ac s) (cy:Zi st<=4611686018427387904) :
 Calls prog 32 #[sAgg s.vv A s.tt aa,.int .i64 a,ZaM B st bt,.slice A' L n] w (ApPostF (Zak (schF ac s) s a st L) w):=by
 have cc:=aM.len;have d4:=bH.len;replace aZ:=hI aZ;replace aM:=hI aM;replace bH:=hI bH;obtain⟨aJ,b5⟩:=yp (Zv (schF ac s) s a st);have cM:=hI b5;have bK:=hI (show Zak (schF ac s) s a st L=if aJ≠0 then (aJ,[]) else Zbk s a (Zi st) st L by unfold Zak;rw [b5]);have b6:=hI (ZaQ st cc);obtain⟨dw,dG,dk,dK,dC⟩:=qA ZiG;clear b5;have bB:=hI ((((qa w w).alloc nR (.cells #[.int .i64 s.vv,.slice A s.tt aa] 25)).alloc yb (.cells #[.slice B st bt] 28)).alloc yd (.cells #[.slice none 0 0] 28));go_enter func32,ntmps32
 go_wp2_with fail
 refine(Zch (L:=ac) (A:=A) aa (s:=s) a (B:=B) bt (st:=st) (S:=S) (aZ.keep (qS bB U)) (aM.keep (qS bB U)) (fun b z=>by have:=U b z;simp;omega) dF cy).mono ?_;rintro e E ⟨rfl,ar⟩;rw [cM];have cR:=hI (bB.trans (ar.mono yd));have cz:yr E w 0 (.int .i64 s.vv):=c9K ar ((Zh yd).trans ((Zh yb).trans (Zm rfl rfl)));have cT:yr E w 1 (.slice A s.tt aa):=c9K ar ((Zh yd).trans ((Zh yb).trans (Zm rfl rfl)));have df:yr E (w+1) 0 (.slice B st bt):=c9Q ar yb ((Zh yb).trans (Zm yb rfl));have b4:yr E (w.heap.size+1+1) 0 (.slice none 0 0):=c9Q ar yb (Zm yb rfl);have cC:E.frozen? ⟨w.heap.size+1+1,0,none⟩=false:=(ar.frozen (p:=⟨w.heap.size+1+1,0,none⟩) yb).trans (ZaC yb);have bT:w.heap.size+1+1<E:=(by have:=ar.size;simp at this;omega);have:w.heap.size+1<E:=ya;have cr:w.heap.size<E:=ya;clear ar bB
 by_cases bG:aJ=0
 .subst bG;have bc:=hI (Zjz cM);have bL:=hI (show Zak (schF ac s) s a st L=Zbk s a (Zi st) st L by rw [bK,qo yb]);clear bK;have dx:=b6.out
  go_wp2_with fail
  clear dx
  have bb:=hI (show ApW w E s A aa st ((E.alloc (.cells (Zk st).toArray 145)).alloc (.cells #[.slice (some ⟨E,0,none⟩) st.length st.length] 28)) from
   ⟨(cR.alloc ya _).alloc yd _,(Zh yd).trans ((Zh cr).trans cz),(Zh yd).trans ((Zh cr).trans cT),(Zh yd).trans ((Zh bT).trans b4),(ZK yd).trans ((ZK bT).trans cC),Zm yb rfl,bT,yb⟩)
  have cL:=hI (show CopyO ((E.alloc (.cells (Zk st).toArray 145)).alloc (.cells #[.slice (some ⟨E,0,none⟩) st.length st.length] 28)) (E+2) E.heap.size st.length 0 st from CopyO.zero ((qd _ _ _ yb).trans (qb E _)));clear cz cT df b4 cC
  go_loopw [37] (fun i wr=>∃ k:Nat,k<=st/\i=.int .i64 k/\ApW w E s A aa st wr/\CopyO wr (E+2) E st k st) (fun i _=>st.length - (intOf i).toNat)
  case atStart=>exact⟨0,qk _,rfl,bb,cL⟩
  clear bb cL;obtain⟨k,dl,rfl,O,aK⟩:=hrel;have N:=hI O;replace aK:=hI aK;have bn:=O.sz;clear O
  by_cases aG:k<st
  .obtain⟨dO,dv,rfl,ay,Z,d2,aN,aW,bX⟩:=(aM.keep (qS N.bel U)).at_ aG;have bU:=hI bX;have cJ:=bX.len;have cD:=hI (aK.inner aG);have cK:=hI (qD (ZaB st k) bc.1);clear aW bX aK;obtain⟨M,bg⟩:=yp (st.getD k []);rw [bg] at aN bU cJ cK;replace bg:=hI bg;have d1:=cK.out
   go_wp2_with fail
   clear aN
   go_loopw [44] (fun i wr=>∃ j:Nat,j<=M/\i=.int .i64 j/\∃ v,ApW w E s A aa st wr/\CopyI wr (E+2) E st k st v (M.take j)) (fun i _=>M.length - (intOf i).toNat)
   case atStart=>exact⟨0,qk _,rfl,_,N,by rw [List.take_zero];exact cD⟩
   rename_i d3
   have dE:=hI (bU.keep (w':=w) (fun b z=>(N.bel.block b (U b z)).symm));clear N cD bU bn;obtain⟨j,bW,rfl,v,O,az⟩:=hrel;have N:=hI O;replace az:=hI az;have bn:=O.sz;clear O
   by_cases cv:j<M
   .obtain⟨aI,aS,cp⟩:=az.form;rw [qG,Nat.min_eq_left bW] at cp;subst cp;obtain⟨cX,c8⟩:=az.cell;have cZ:=N.a0;obtain⟨vals,aq,bp,dH⟩:=az.own;rw [qg,qG,Nat.min_eq_left bW] at aq;have bD:=hI aq;replace bp:=hI bp;have dL:=hI (show some (E.heap.size+1)≠(Value.slice aI j aS).ownBlock from fun e=>yl (Zs aq e.symm));have c6:=hI (show some E.heap.size≠(Value.slice aI j aS).ownBlock from fun e=>yl (Zs aq e.symm));have cW:=hI (show ∀ W,Below wr wr W->∀ ae cq c,(W.alloc (.cells #[.slice ae cq c] 116)).ownsRow (E+2) 116 1 (.slice aI j aS) j vals from fun W aT ae cq c=>Zo aq (fun g cF=>(qd W _ g (ym (ZN aq cF) aT.size)).trans (aT.block g (ZN aq cF))));clear aq dH;obtain⟨dY,dU,rfl,aT,du,dN,f1,dh,f3⟩:=(dE.keep (qS N.bel U)).at_ cv;have bC:=hI f3;have cu:=hI (take_snoc cv);have bz:=f3.len;clear dh f3;generalize M.getD j []=row at f1 bC bz cu;have:(k:Int)<st:=ya;have:(0:Int)<=k:=by omega
    go_wp2_with fail
    clear f1;refine uS (fun w'=>w'.cell? ⟨E+1,0,none⟩=some (.slice (some ⟨E,0,none⟩) st.length st.length)/\w'.cell? ⟨E,k,none⟩=some (.slice aI j aS)/\w'.frozen? ⟨E,k,none⟩=false) 13 14 fun Q' co ci=>?_;refine uR [0,9] ci ⟨cZ,cX,c8⟩ ?_;refine uQ 9 fun aF an=>?_;go_simp;refine(clone_any du dN row S _ (by exact bC.keep (fun _ _=>rfl))).mono ?_;rintro e W ⟨ae,ax,rfl,cP,aT⟩;have aQ:Below wr wr W:=(qa wr wr).drew.trans aT;have ca:=hI (Zjg (m:=wr) cP bC.ok nR);have bj:=hI aQ;have cd:=c9K aQ cZ;have bV:=c9K aQ cX;have b7:=(aQ.frozen (p:=⟨E,k,none⟩) yd).trans c8;have:wr.heap.size<=W:=aQ.size;clear aT aQ cP;refine an _ _ (fun _=>⟨cd,bV,b7⟩) ?_;clear an aF
    try simp only [Act.put,psA,psB,psC]
    refine uQ 10 fun aF an=>?_;go_simp;have cg:(W.alloc (.cells #[.slice ae row ax] 116)).cell? ⟨E+1,0,none⟩=_:=(Zh ya).trans cd;have l2:(W.alloc (.cells #[.slice ae row ax] 116)).cell? ⟨E,k,none⟩=_:=(Zh ya).trans bV;have bQ:(W.alloc (.cells #[.slice ae row ax] 116)).frozen? ⟨E,k,none⟩=_:=(ZK ya).trans b7;refine an _ _ (fun _=>⟨cg,l2,bQ⟩) ?_;clear an aF
    try simp only [Act.put,psA,psB,psC]
    refine uQ 11 fun aF cY=>?_;refine step_append_lies _ yg (.tmp 55) (.tmp 58) _ yg (E+2) 116 dw _ 1 24 underlying145 dG dk dK dC rfl yf (.slice aI j aS) j vals yg (by exact cW W bj ae row ax) ⟨W,0,none⟩ 1 1 [.slice ae row ax] yg yg (World.news_of_block (cs:=#[.slice ae row ax]) (t:=116) (fr:=(0,0)) (qb W _)) (by simp [Value.oneCell']) ya yh ya yd (W+1) yb ?_;intro dd dI db bw am bO dX;have b9:=(am.cell_far ⟨E+1,0,none⟩ yd dL).trans cg;have ce:=(am.cell_far ⟨E,k,none⟩ yd c6).trans l2;have b2:=(am.frozen_far ⟨E,k,none⟩ yd c6).trans bQ;replace bw:=hI bw;replace am:=hI am;replace bO:=hI bO;refine cY _ _ (fun _=>⟨b9,ce,b2⟩) ?_;clear cY aF
    try simp only [Act.put,psA,psB,psC]
    refine uR [12,1] ci ⟨b9,ce,b2⟩ ?_;refine uQ 13 fun aF an=>?_;go_simp;refine an _ _ nD ?_;clear an aF;refine uE co ?_;clear co ci Q';have cQ:=hI (az.push ya ya (bj.alloc (qD nR bj.size) (.cells #[.slice ae row ax] 116)) ⟨ca.1,(ca.2.keep (fun b z=>qd W _ b z.2.1)).more (fun b z=>⟨z.1,yd,z.2.2.keep (qd W _ b z.2.1)⟩)⟩ bp am (by rw [qG,Nat.min_eq_left bW]) bw (bO.imp id (fun h=>yd)) (fun dV cG=>⟨Zs bD cG,ZN bD cG⟩));rw [<-cu] at cQ;have dm:=hI (show Fr (fun b=>b=E.heap.size\/E.heap.size+2<=b) wr (db.setCell ⟨E,k,none⟩ (.slice (some ⟨dd,0,none⟩) (j+1) dI)) from (((qW bj).alloc _).trans (Y:=fun b=>some b=(Value.slice aI j aS).ownBlock) (Qc am (fun b _ h=>h)) (fun b _ h=>.inr (Zs bD h.symm))).setCell _ (fun _=>.inl rfl));clear bC ca bj bw am bO bD cW bp b9 ce b2 cg l2 bQ cd bV b7
    go_wp2
    go_roundw
    case rel=>exact⟨j+1,ya,by go_num,_,N.keep dm,cQ⟩
    simp [intOf];omega
   have c3:=hI (az);rw [qs ya,<-bg] at c3
   go_wp2
   go_roundw
   case rel=>exact⟨k+1,ya,by go_num,N,c3.outer aG aG (by rw [bg];omega)⟩
   simp [intOf];omega
  obtain rfl:k=st.length:=ya;have b3:=hI (aK.done rfl ya);have a0:=N.a0;clear aK
  go_wp2_with fail
  refine(Zij (A:=some ⟨E,0,none⟩) st.length (st:=st) (S:=fun b=>E<=b/\b<wr) (b3.slice cc (fun b z=>⟨ya,z.2.1⟩) ⟨qp _,ya⟩) (fun b z=>z.2) cy).mono ?_;rintro e w2 ⟨rfl,ay⟩;have cV:=hI (N.below ay);have ct:=hI ((b3.below ay).more (S':=fun b=>E.heap.size+2<=b/\b<w2/\Fl w2 b) (fun b z=>⟨z.1,qC z.2.1 ay.size,z.2.2.keep (ay.block b z.2.1)⟩) (fun b z=>⟨z.2.1,ya⟩));clear ay N b3 a0 bn;have cI:=hI (fun t da=>Zja bc.2.2 (n:=t) da)
  go_wp2_with fail
  have bb:=hI (show ∃ F:St,Zi st=Zi F/\Zbk s a (Zi st) st L=Zbk s a (Zi F) F L/\StB w2 (fun b=>E.heap.size+2<=b/\b<w2/\Fl w2 b) E F/\F.length=st.length/\Zi F<=512/\∀ t,t<F.length->Asc s t (F.getD t []) from ⟨st,rfl,rfl,ct,rfl,bc.1,cI⟩);have bf:=hI bc.2.1;clear ct cI bc aM b6
  go_loopw [16,67] (fun cq i wr=>∃ k:Nat,k<=L/\i=.int .i64 k/\∃ F:St,cq=.int .i64 (Zi F)/\Zbk s a (Zi st) st L=Zbk s a (Zi F) F (L.drop k)/\ApW w E s A aa st wr/\StB wr (fun b=>E.heap.size+2<=b/\b<wr/\Fl wr b) E F/\F.length=st.length/\Zi F<=512/\∀ t,t<F.length->Asc s t (F.getD t [])) (fun _ i _=>L.length - (intOf i).toNat)
  case atStart =>
   obtain⟨F,dJ,dy,de,dA,dt,dP⟩:=bb.out;exact⟨0,qk _,rfl,F,by rw [dJ],by rw [List.drop_zero];exact dy,cV,de,dA,dt,dP⟩
  clear bb cV
  rename_i dW
  obtain⟨k,dl,rfl,F,rfl,aB,O,aP,af,cf,bI⟩:=hrel;replace aB:=hI aB;have N:=hI O;replace aP:=hI aP;replace af:=hI af;replace bI:=hI bI;have bn:=O.sz;have v0:=O.v0;have ak:=O.v1;have r0:=O.r0;have aR:=O.r1;have a0:=O.a0;clear O
  by_cases aG:k<L
  .obtain⟨dO,dv,rfl,ay,bR,av,c1,aH,c2,aN,aw,cj,aW,aC,b0⟩:=(bH.keep (qS N.bel U)).at_ aG;have bJ:=hI (drop_chg aG);have bu:=hI cj;have br:=hI b0;replace aw:=hI aw;replace aC:=hI aC;have cn:=cj.len;have c4:=b0.len;clear cj b0;generalize L.getD k chg0=c9 at bR aN aW bJ bu br aw aC cn c4;obtain⟨t,dj,new⟩:=c9;simp only at bR aN aW bu br aw aC cn c4;have:w.heap.size<wr:=ya;have:E.heap.size<wr:=ya;have bl:=hI ((qa wr wr).alloc nR (.cells #[.int .i64 t,.slice av dj c1,.slice aH new c2] 148))
   go_wp2_with fail
   refine(Zgs (A:=A) aa s (a:=a) ⟨t,dj,new⟩ (B:=av) c1 (A':=aH) c2 (S:=S) (aZ.keep (fun b z=>(bl.block b (yl (U b z))).trans (N.bel.block b (U b z)))) (bu.keep (fun b z=>bl.block b (yl (U b z)))) aw (br.keep (fun b z=>bl.block b (yl (U b z)))) aC (fun b z=>by have:=U b z;simp;omega)).mono ?_;rintro e K ⟨rfl,aO⟩;have R:Below wr wr K:=bl.trans (aO.mono yb);have aj:=hI (N.below R);replace R:=hI R;have aE:yr K wr 0 (.int .i64 t):=c9Q aO yb (Zm rfl rfl);have aL:yr K wr 1 (.slice av dj c1):=c9Q aO yb (Zm rfl rfl);have aV:yr K wr 2 (.slice aH new c2):=c9Q aO yb (Zm rfl rfl);have aA:wr.heap.size<K:=(by have:=aO.size;simp at this;omega);clear aO v0 ak r0 aR a0 bR aN aW;have v0:=aj.v0;have ak:=aj.v1;have r0:=aj.r0;have aR:=aj.r1;have a0:=aj.a0
   by_cases bk:ZE s a ⟨t,dj,new⟩=true
   .have bN:=hI bk;rw [bk];clear bk;obtain⟨H,dg⟩:=Zfu bN;obtain⟨cA,bm⟩:=dg;simp only at cA;subst cA;have di:=hI (valid_some bN);obtain⟨_,aY,aX,ao,bi,ba⟩:=(aP.keep R.size (fun b z=>R.block b z.2.1) (R.block _ ya)).at_ (show H<F.length by rw [af,bf];exact bm);have b1:K.frozen? ⟨E,H,none⟩=false:=((aP.keep R.size (fun b z=>R.block b z.2.1) (R.block _ ya)).at_ (show H<F.length by rw [af,bf];exact bm)).1;replace ba:=hI ba;replace bi:=hI bi;have cH:=hI (qD (ZaB F H) cf);have bM:=hI (bI H (by rw [af,bf];exact bm));have ap:=hI (show Zbk s a (Zi F) F (L.drop k)=(if Zhi s ⟨H,dj,new⟩ (F.getD H [])=false then (81,[]) else if 512<(Zi F:Int)+((putC s ⟨H,dj,new⟩ (F.getD H [])).length - (F.getD H []).length:Int) then (2,[]) else Zbk s a ((Zi F:Int)+((putC s ⟨H,dj,new⟩ (F.getD H [])).length - (F.getD H []).length:Int)) (F.set H (putC s ⟨H,dj,new⟩ (F.getD H []))) (L.drop (k+1))) by rw [bJ,Zbk,qo (by rw [bN.out];simp)];simp only [qu]);have bF:=hI (fun r=>ZeD F H r (by rw [af,bf];exact bm));have dR:=hI (show ∀ r:List Row,Asc s (H:Int) r->Asc s (H:Int) (putC s ⟨H,dj,new⟩ r) from fun r h=>asc_put (a:=a) (C:=⟨H,dj,new⟩) h bN);have bZ:=hI (Ziv s ⟨H,dj,new⟩ (F.getD H []));clear bJ;generalize bz:F.getD H []=M at ao bi ba cH bM ap bF bZ;replace bz:=hI bz;have cJ:=cH.out;have cx:∀ b,(S b\/(E.heap.size+2<=b/\b<wr/\Fl wr b))->b<K:=(fun b z=>by rcases z with z | z;have:=U b z;omega;omega);have cS:=hI ((aZ.keep (qS aj.bel U)).more (S':=fun b=>S b\/(E.heap.size+2<=b/\b<wr/\Fl wr b)) (fun b z=>.inl z));have cE:=hI ((bu.keep (w':=K) (fun b z=>R.block b (yl (U b z)))).more (S':=fun b=>S b\/(E.heap.size+2<=b/\b<wr/\Fl wr b)) (fun b z=>.inl z));have cU:=hI ((br.keep (w':=K) (fun b z=>R.block b (yl (U b z)))).more (S':=fun b=>S b\/(E.heap.size+2<=b/\b<wr/\Fl wr b)) (fun b z=>.inl z));have:(0:Int)<=H:=ya;have:(H:Int)<st:=(by rw [bf];omega);have:(H:Int)<=st:=ya;have bo:E.heap.size<K:=ya;have c5:E.heap.size+1<K:=ya;have bq:w.heap.size<K:=by omega
    by_cases aD:Zhi s ⟨H,dj,new⟩ M=true
    .replace aD:=hI aD
     go_wp2
     go_region_held3 (fun w'=>Below K K w'/\w'.cell? ⟨w,0,none⟩=some (.int .i64 s.vv)/\w'.cell? ⟨w,1,none⟩=some (.slice A s.tt aa)/\w'.cell? ⟨E+1,0,none⟩=some (.slice (some ⟨E,0,none⟩) st.length st.length)/\w'.cell? ⟨E,H,none⟩=some (.slice aY M aX)/\w'.cell? ⟨wr,0,none⟩=some (.int .i64 H)/\w'.cell? ⟨wr,1,none⟩=some (.slice av dj c1)/\w'.cell? ⟨wr,2,none⟩=some (.slice aH new c2))
      (first | exact⟨(qa _ _).drew,v0,ak,a0,ao,aE,aL,aV⟩ | exact⟨I,c9Q I bq v0,c9Q I bq ak,c9Q I c5 a0,c9Q I bo ao,c9Q I aA aE,c9Q I aA aL,c9Q I aA aV⟩)
      ((go_at_call 80;refine(applied_yes A aa (s:=s) (C:=⟨H,dj,new⟩) av c1 aH c2 (A:=aY) (n:=aX) (E:=M) (fun b=>S b\/(E.heap.size+2<=b/\b<wr/\Fl wr b)) (fun b=>E.heap.size+2<=b/\b<wr/\Fl wr b) (w:=K.drew) (cS.keep (fun _ _=>rfl)) (ba.keep (fun _ _=>rfl)) (fun b z=>.inr z) bi (cE.keep (fun _ _=>rfl)) aw (cU.keep (fun _ _=>rfl)) aC cx bM di aD ya).mono ?_;rintro e ab ⟨d0,dZ,rfl,bE,cw,bh⟩;have I:Below K K ab:=(qa _ K).drew.trans bh))
     have au:=hI (aj.below I);have dM:=hI ((aP.keep (w':=ab) (qD R.size I.size) (fun b z=>(I.block b (yl z.2)).trans (R.block b z.2.1)) ((I.block _ ya).trans (R.block _ ya))).more (S':=fun b=>E.heap.size+2<=b/\b<ab/\Fl ab b) (fun b z=>⟨z.1,ym I.size z.2,z.2.2.keep ((I.block b (yl z.2)).trans (R.block b z.2.1))⟩) (fun b z=>⟨z.2.1,ya⟩))
     have c7:=hI (cw.more (S':=fun b=>E.heap.size+2<=b/\b<ab/\Fl ab b) (fun b z=>by
      rcases z with z | z
      .exact⟨z.1,ym I.size z.2,z.2.2.keep ((I.block b (yl z.2)).trans (R.block b z.2.1))⟩
      exact⟨by have:K<=b:=z.1;omega,z.2⟩))
     replace bE:=hI bE;have:yr ab wr 0 (.int .i64 H):=c9Q I aA aE;have:yr ab E H (.slice aY M aX):=c9Q I bo ao;have:ab.frozen? ⟨E,H,none⟩=false:=(I.frozen (p:=⟨E,H,none⟩) bo).trans b1;clear I bh cw v0 ak r0 aR a0 aE aL aV ao b1;have r0:=au.r0;have aR:=au.r1;have dz:=bZ.out;generalize bP:putC s ⟨H,dj,new⟩ M=ah at c7 bE dz ap ⊢;replace bP:=hI bP;have be:=hI (bF ah);clear bF bZ
     by_cases aU:512<(Zi F:Int)+((ah:Int) - M.length)
     .have ai:=hI (show Zak (schF ac s) s a st L=(2,[]) by rw [bL,aB,ap,qo (by rw [aD.out];simp),qr aU]);have ch:decide (512<(Zi F:Int)+((ah:Int) - M.length))=true:=qt aU;clear aU be ap;generalize Zi F=dD at ch cf ⊢
      go_wp2
      refine qw (v:=.tuple #[.agg #[.slice none 0 0],.int .i64 2]) (by simp [results,results32,go_sem,r0]) rfl ?_;exact ApPostF.err ai (au.bel.setCell (p:=⟨w.heap.size+1+1,0,none⟩) yd _)
     have ch:decide (512<(Zi F:Int)+((ah:Int) - M.length))=false:=qe aU;have dS:=hI (show Zbk s a (Zi st) st L=Zbk s a (Zi (F.set H ah)) (F.set H ah) (L.drop (k+1)) by rw [aB,ap,qo (by rw [aD.out];simp),qo aU,be]);have dp:=hI (show Zi (F.set H ah)<=512 by have:=be.out;omega)
     have dc:=hI (show ∀ t,t<(F.set H ah).length->Asc s t ((F.set H ah).getD t []) from fun ck bS=>by
      rw [List.length_set] at bS
      by_cases cO:ck=H
      .subst cO;rw [getD_set_same bS,<-bP];exact dR _ bM
      rw [getD_set_other cO];exact bI ck bS)
     have dB:=hI (dM.put (k:=H) bE c7);clear aU ap;obtain⟨dD,cm⟩:=yp (Zi F);rw [cm] at ch cf be ⊢;clear cm
     go_wp2
     go_roundw
     case rel=>exact⟨k+1,ya,by go_num,F.set H ah,by rw [be],dS,au.keep ((Qa _ _).setCell _ (fun _=>.inl rfl)),dB.more (fun b z=>⟨z.1,by simpa using z.2.1,z.2.2.keep (qc ab ⟨E,H,none⟩ _ b (by have:=z.1;show b≠E.heap.size;omega))⟩) (fun b z=>⟨z.2.1,yl z.1⟩),by rw [List.length_set];exact af,dp,dc⟩
     simp [intOf];omega
    have b8:Zhi s ⟨H,dj,new⟩ M=false:=(by simpa using aD);have ds:=hI b8;have ai:=hI (show Zak (schF ac s) s a st L=(81,[]) by rw [bL,aB,ap,qr b8]);clear aD b8 ap bF
    go_wp2
    go_region_held3 (fun w'=>Below K K w'/\w'.cell? ⟨w,0,none⟩=some (.int .i64 s.vv)/\w'.cell? ⟨w,1,none⟩=some (.slice A s.tt aa)/\w'.cell? ⟨E+1,0,none⟩=some (.slice (some ⟨E,0,none⟩) st.length st.length)/\w'.cell? ⟨E,H,none⟩=some (.slice aY M aX)/\w'.cell? ⟨wr,0,none⟩=some (.int .i64 H)/\w'.cell? ⟨wr,1,none⟩=some (.slice av dj c1)/\w'.cell? ⟨wr,2,none⟩=some (.slice aH new c2))
     (first | exact⟨(qa _ _).drew,v0,ak,a0,ao,aE,aL,aV⟩ | exact⟨I,c9Q I bq v0,c9Q I bq ak,c9Q I c5 a0,c9Q I bo ao,c9Q I aA aE,c9Q I aA aL,c9Q I aA aV⟩)
     ((go_at_call 80;refine(applied_not A aa (s:=s) (C:=⟨H,dj,new⟩) av c1 aH c2 (A:=aY) (n:=aX) (E:=M) (fun b=>S b\/(E.heap.size+2<=b/\b<wr/\Fl wr b)) (fun b=>E.heap.size+2<=b/\b<wr/\Fl wr b) (w:=K.drew) (cS.keep (fun _ _=>rfl)) (ba.keep (fun _ _=>rfl)) (fun b z=>.inr z) bi (cE.keep (fun _ _=>rfl)) aw (cU.keep (fun _ _=>rfl)) aC cx bM ds ya).mono ?_;rintro e ab ⟨rfl,bh⟩;have I:Below K K ab:=(qa _ K).drew.trans bh))
    have au:=hI (aj.below I);clear I bh v0 ak r0 aR a0 aE aL aV ao b1;have r0:=au.r0;have aR:=au.r1
    go_wp2
    refine qw (v:=.tuple #[.agg #[.slice none 0 0],.int .i64 81]) (by simp [results,results32,go_sem,r0]) rfl ?_;exact ApPostF.err ai (au.bel.setCell (p:=⟨w.heap.size+1+1,0,none⟩) yd _)
   have bY:ZE s a ⟨t,dj,new⟩=false:=(by simpa using bk);have ai:=hI (show Zak (schF ac s) s a st L=(71,[]) by rw [bL,aB,bJ,Zbk,qr bY]);rw [bY];clear bk bY
   go_wp2
   refine qw (v:=.tuple #[.agg #[.slice none 0 0],.int .i64 71]) (by simp [results,results32,go_sem,r0]) rfl ?_;exact ApPostF.err ai (aj.bel.setCell (p:=⟨w.heap.size+1+1,0,none⟩) yd _)
  have ai:=hI (show Zak (schF ac s) s a st L=(0,F) by rw [bL,aB,Qu ya,Zbk])
  go_wp2
  refine qw (v:=.tuple #[.agg #[.slice (some ⟨E,0,none⟩) st.length st.length],.int .i64 0]) (by simp [results,results32,go_sem,r0]) rfl ?_;rw [ai];have dq:Below w w (wr.setCell ⟨w.heap.size+1+1,0,none⟩ (.slice (some ⟨E,0,none⟩) st.length st.length)):=N.bel.setCell (p:=⟨w.heap.size+1+1,0,none⟩) yd _;have cN:StB (wr.setCell ⟨w.heap.size+1+1,0,none⟩ (.slice (some ⟨E,0,none⟩) st.length st.length)) (fun b=>E.heap.size+2<=b/\b<wr/\Fl wr b) E.heap.size F:=aP.keep yb (fun b z=>qc wr ⟨w.heap.size+1+1,0,none⟩ _ b (by show b≠w.heap.size+1+1;omega)) (qc wr ⟨w.heap.size+1+1,0,none⟩ _ _ (by show E.heap.size≠w.heap.size+1+1;omega));refine⟨some ⟨E,0,none⟩,st.length,?_,by show F.length<=_;rw [af];exact qp _,cN.slice (by rw [af];exact cc) (fun b z=>⟨ya,yd,z.2.2.keep (qc wr ⟨w.heap.size+1+1,0,none⟩ _ b (by show b≠w.heap.size+1+1;omega))⟩) ⟨ya,yd,(by obtain⟨dT,dQ,_⟩:=cN;exact⟨_,_,dQ⟩)⟩,dq⟩;show _=Ending.returned (.tuple #[.agg #[.slice (some ⟨E,0,none⟩) F.length st.length],.int .i64 0]);rw [af]
 have:(aJ != 0)=true:=(by simpa using bG);have ai:=hI (show Zak (schF ac s) s a st L=(aJ,[]) by rw [bK,qr bG]);clear bG bK b6
 go_wp2
 refine qw (v:=.tuple #[.agg #[.slice none 0 0],.int .i64 aJ]) (by simp [results,results32,go_sem,b4]) rfl ?_;exact ApPostF.err ai (cR.setCell (p:=⟨w.heap.size+1+1,0,none⟩) yd _)
theorem Zgj {E:List Int->Pred->Int} (I:Nat) (m:Int) (K:Nat) {st:St} (R:TabS w S A s.tt) (F:StS w S B st) (O:ChgS w S A' L) (M:∀ b,S b->b<w) (N:ZbZ E s) (U:Zi st<=4611686018427387904) :
 Calls prog 32 #[sAgg s.vv A s.tt I,.int .i64 m,ZaM B st K,.slice A' L n] w (ApPost (Zak (schF E s) s m st L) w) :=
 (apply_fresh I K R F O M N U).mono (fun _ _ h=>h.post)
section
variable {α:Type} (f:α->α->Int)
def ZcC (x:α):List α->List α
 | []=>[x]
 | y :: r=>if f x y<0 then y :: ZcC x r else x :: y :: r
def ins (x:α) (p:List α):List α:=(ZcC f x p.reverse).reverse
def ZbF (l:List α):List α:=l.foldl (fun p x=>ins f x p) []
theorem ZgL (x:α):∀ r:List α,(ZcC f x r).length=r.length+1
 | []=>rfl
 | y :: r=>by unfold ZcC;split<;>simp [ZgL x r]
theorem ins_len (x:α) (p:List α):(ins f x p).length=p.length+1:=by simp [ins,ZgL]
theorem isort_len (l:List α):(ZbF f l).length=l.length:=by
 have key:∀ (l p:List α),(l.foldl (fun p x=>ins f x p) p).length=p.length+l.length:=by
  intro l;induction l with
  | nil=>intro p;simp
  | cons x l z=>intro p;rw [List.foldl_cons,z,ins_len,qK];omega
 simpa [ZbF] using key l []
end
def Zba (s:Sch) (m:Int):List Chg->Nat
 | []=>0
 | c :: l=>if ZE s m c then Zba s m l+1 else 0
theorem Zhg (s:Sch) (m:Int):∀ l:List Chg,Zba s m l<=l
 | []=>qp _
 | c :: l=>by unfold Zba;have:=Zhg s m l;split<;>simp<;>omega
theorem ZdC (s:Sch) (m:Int):∀ (l:List Chg) (k:Nat),k<Zba s m l->ZE s m (l.getD k chg0)=true
 | [],k,h=>by simp [Zba] at h
 | c :: l,k,h=>by
  unfold Zba at h;split at h
  .rename_i z
   cases k with
   | zero=>exact z
   | succ k=>exact ZdC s m l k ya
  omega
theorem ZgN (s:Sch) (m:Int):∀ (l:List Chg),Zba s m l<l->ZE s m (l.getD (Zba s m l) chg0)=false
 | [],h=>by simp at h
 | c :: l,h=>by
  by_cases z:ZE s m c=true
  .have e:Zba s m (c :: l)=Zba s m l+1:=(by rw [Zba,qr z]);rw [e] at h ⊢;exact ZgN s m l (by simpa using h)
  have e:Zba s m (c :: l)=0:=(by rw [Zba,qo z]);rw [e];simpa using z
def badI (s:Sch) (m:Int) (l:List Chg):Int:=if Zba s m l<l.length then Zba s m l else -1
def cmpC (s:Sch) (a b:Chg):Int:=if a.tx≠b.tx then a.tx - b.tx else cmpR (keyC s a) (keyC s b)
def sameC (s:Sch) (a b:Chg):Bool:=(a.tx == b.tx)&&(cmpR (keyC s a) (keyC s b) == 0)
def ZcK (f z:Chg):List Chg:=if cmpR f.old z.new=0 then [] else [⟨f.tx,f.old,z.new⟩]
def ZaA (s:Sch):Option (Chg × Chg)->List Chg->Option (List Chg)
 | none,[]=>some []
 | none,x :: r=>ZaA s (some (x,x)) r
 | some (f,z),[]=>some (ZcK f z)
 | some (f,z),x :: r=>if sameC s f x then (if cmpR z.new x.old=0 then ZaA s (some (f,x)) r else none) else (ZaA s (some (x,x)) r).map (ZcK f z++·)
def netF (e:Int) (s:Sch) (m:Int) (l:List Chg):Int × List Chg :=
 if ZbD e m≠0 then (ZbD e m,[]) else match ZaA s none (ZbF (cmpC s) (l.take (Zba s m l))) with
  | none=>(81,[])
  | some o=>if Zba s m l<l.length then (71,[]) else (0,o)
theorem net_first (s:Sch) (h:n<L):ZaA s none (L.drop n)=ZaA s (some (L.getD n chg0,L.getD n chg0)) (L.drop (n+1)):=by
 have e:L.getD n chg0=L[n]:=gD h;rw [qq h,ZaA,e]
theorem net_end (s:Sch) {f:Chg} (h:L.length<=n):ZaA s (some (f,C)) (L.drop n)=(ZaA s none (L.drop n)).map (ZcK f C++·):=by
 rw [Qu h,ZaA,ZaA];simp
theorem map_map_app (o p:List Chg) (x:Option (List Chg)):(x.map (p++·)).map (o++·)=x.map ((o++p)++·):=by cases x<;>simp
theorem netF_bad (h:ZbD a t≠0):netF a s t L=(ZbD a t,[]):=by unfold netF;rw [qr h]
theorem netF_conflict (h:ZbD a t=0) (z:ZaA s none (ZbF (cmpC s) (L.take (Zba s t L)))=none):netF a s t L=(81,[]):=by unfold netF;rw [qo ya,z]
theorem netF_row (h:ZbD a t=0) (z:ZaA s none (ZbF (cmpC s) (L.take (Zba s t L)))=some LA) (E:Zba s t L<L):netF a s t L=(71,[]):=by
 unfold netF;rw [qo ya,z];simp [E]
theorem netF_ok (h:ZbD a t=0) (z:ZaA s none (ZbF (cmpC s) (L.take (Zba s t L)))=some LA) (E:¬ Zba s t L<L):netF a s t L=(0,LA):=by
 unfold netF;rw [qo ya,z];simp [E]
structure CapS (w:World) (s:Sch) (A0:Option Addr) (c0':Nat) (gs:Nat):Prop where
 v:w.cell? ⟨gs,0,none⟩=some (.int .i64 s.vv)
 a:w.cell? ⟨gs,1,none⟩=some (.slice A0 s.tt c0')
 ls:gs<w
theorem CapS.keep {w w':World} {s:Sch} {H:Option Addr} {F:Nat} {z:Nat} (h:CapS w s H F z) (E:w'.heap[z]?=w.heap[z]?) (I:w.heap.size<=w'):CapS w' s H F z :=
 ⟨(ql (w:=w) (a:=⟨z,0,none⟩) E).trans h.v,(ql (w:=w) (a:=⟨z,1,none⟩) E).trans h.a,qC h.ls I⟩
theorem CapS.below {w w':World} {s:Sch} {F:Option Addr} {E:Nat} {z:Nat} (h:CapS w s F E z) (H:Below w w w'):CapS w' s F E z:=h.keep (H.block z h.ls) H.size
structure ChV (w:World) (S:Nat->Prop) (ch:Chg) (A1:Option Addr) (c1:Nat) (A2:Option Addr) (c2:Nat):Prop where
 r1:RowS w S A1 ch.old
 l1:ch.old.length<=c1
 r2:RowS w S A2 ch.new
 l2:ch.new.length<=c2
theorem ChV.keep {w w':World} {S:Nat->Prop} {E:Chg} {F:Option Addr} {c1:Nat} {z:Option Addr} {c2:Nat} (h:ChV w S E F c1 z c2) (H:Same S w w'):ChV w' S E F c1 z c2:=⟨h.r1.keep H,h.l1,h.r2.keep H,h.l2⟩
theorem ChV.more {w:World} {S S':Nat->Prop} {E:Chg} {F:Option Addr} {c1:Nat} {z:Option Addr} {c2:Nat} (h:ChV w S E F c1 z c2) (H:∀ b,S b->S' b):ChV w S' E F c1 z c2:=⟨h.r1.more H,h.l1,h.r2.more H,h.l2⟩
abbrev chV (z:Chg) (F:Option Addr) (c1:Nat) (E:Option Addr) (c2:Nat):Value:=Zip z.tx F z.old c1 E z.new c2
theorem net1_any {c1:Nat} {c2:Nat} (L:CapS w s A n k) (ai:yr w m 0 (.int .i64 a)) (am:m<w) (U:TabS w S A s.tt) (z:ChV w S C B c1 A' c2) (K:∀ b,S b->b<w) :
 Calls prog 182 #[chV C B c1 A' c2,.pointer (some ⟨k,0,none⟩),.pointer (some ⟨m,0,none⟩)] w (ZH (!ZE s a C) w):=by
 obtain⟨t,M,new⟩:=C;have af:=L.v;have ak:=L.a;have aj:=L.ls;replace U:=hI U;replace z:=hI z;clear L;simp only [chV];have E:=hI ((qa w w).alloc nR (.cells #[.int .i64 t,.slice B M c1,.slice A' new c2] 148));go_enter func182,ntmps182
 go_wp2_with fail
 refine(Zgs n s ⟨t,M,new⟩ c1 c2 (U.keep (qS E K)) (z.r1.keep (qS E K)) z.l1 (z.r2.keep (qS E K)) z.l2 (fun b ab=>by have:=K b ab;simp;omega)).mono ?_;rintro e ah ⟨rfl,aa⟩;have ae:=hI (E.trans (aa.mono yb));clear aa;obtain⟨bv,O⟩:=yp (ZE s a ⟨t,M,new⟩);have ac:=hI O;rw [O];clear O
 go_wp2
 go_ret;exact⟨by rw [ac];rfl,ae⟩
theorem Zaw (c:Chg):(ZF c).Plain:=by simp [ZF,Zy,Dat.Plain,Dat.Pa,Value.oneCell']
theorem ZhY:(prog.info? 148).map (fun i=>(i.zero,i.size,i.bytes))=some (some (.agg #[.int .i64 0,.slice none 0 0,.slice none 0 0]),3,56):=by kernel_rfl
theorem index_any (Z:Option Addr) (an:Nat) (s:Sch) (m:Int) (H F:Nat) (A:Option Addr) (aG:Nat) (l:List Chg) (S:Nat->Prop) (w:World) (L:CapS w s Z an H) (ac:yr w F 0 (.int .i64 m)) (aI:F<w) (ab:TabS w S Z s.tt) (I:ChgS w S A l) (ah:∀ b,S b->b<w) :
 Calls prog 181 #[.slice A l aG,.func (.func 182) #[] #[.pointer (some ⟨H,0,none⟩),.pointer (some ⟨F,0,none⟩)]] w (Zaz (badI s m l) w):=by
 have aK:=I.len;replace L:=hI L;replace ac:=hI ac;replace ab:=hI ab;replace I:=hI I;have aH:=Zhg s m l;have am:=hI (ZdC s m l);have ao:=hI (ZgN s m l);have ae:=hI (show badI s m l=if Zba s m l<l.length then (Zba s m l:Int) else -1 from rfl);generalize Zba s m l=K at aH am ao ae;go_enter func181,ntmps181
 go_wp2
 go_loopw [8] (fun i wr=>∃ k:Nat,k<=K/\i=.int .i64 k/\Below w w wr) (fun i _=>l.length - (intOf i).toNat)
 case atStart=>exact⟨0,qk _,rfl,qa _ _⟩
 obtain⟨k,aq,rfl,af⟩:=hrel;have z:=hI af;have aw:=af.size;clear af
 by_cases aD:k<l
 .obtain⟨aM,aL,rfl,aN,aa,ar,c1,aB,c2,W,aA,aj,M,av,ai⟩:=(I.keep (qS z ah)).at_ aD;have ax:=hI (show ChV wr S (l.getD k chg0) ar c1 aB c2 from ⟨aj,aA,ai,av⟩);have ak:=hI (am k);have au:=hI (show k=K->ZE s m (l.getD k chg0)=false from fun e=>by have:=ao ya;rwa [<-e] at this);have ap:=aj.len;have az:=ai.len;clear aj ai aA av;generalize l.getD k chg0=aE at aa W M ax ak au ap az;obtain⟨t,N,new⟩:=aE;simp only at aa W M ap az
  go_wp2_with fail
  refine(net1_any (L.keep (z.block H L.ls) aw) (c9Q z aI ac) ya (ab.keep (qS z ah)) ax (fun b aF=>yl (ah b aF))).mono ?_;rintro e aJ ⟨rfl,aC⟩;have ay:=hI (z.trans (aC.mono aw));clear aC aa W M
  by_cases E:ZE s m ⟨t,N,new⟩=true
  .have R:k<K:=by
    rcases Nat.lt_or_eq_of_le aq with h | h
    .exact h
    have:=au h;rw [E] at this;cases this
   rw [E];clear E
   go_wp2
   go_roundw
   case rel=>exact⟨k+1,ya,by go_num,ay⟩
   simp [intOf];omega
  have U:ZE s m ⟨t,N,new⟩=false:=(by simpa using E)
  have R:k=K:=by
   rcases Nat.lt_or_eq_of_le aq with h | h
   .have:=ak h;rw [U] at this;cases this
   exact h
  have O:=hI (show badI s m l=k by rw [ae,qr ya,R]);rw [U];clear E U R
  go_wp2
  go_ret;exact⟨by rw [O];rfl,ay⟩
 have O:=hI (show badI s m l=-1 by rw [ae,qo ya])
 go_wp2
 go_ret;exact⟨by rw [O];rfl,z⟩
def NewC (S:Nat->Prop) (l:List Chg) (w:World) (e:Ending) (w':World):Prop:=∃ A c,e=.returned (.slice A l c)/\OwnD w' w 148 3 S (.slice A l c) (l.map ZF)/\Below w w w'
theorem ZbR {size:Nat} {xs:List Value} (h:w.ownsRow n g size x m xs) (K:k<=n):w.ownsRow k g size x m xs:=by
 refine⟨h.1,?_⟩;rcases h.2 with F | ⟨e,cap,z,E,I,H⟩
 .exact .inl F
 exact .inr ⟨e,cap,z,E,ya,H⟩
theorem own_of_row {cap:Nat} (I:Dat.Va w S (L.map ZF) X) (H:Same S w w') (E:∀ b,S b->b<n/\b<w') (z:w'.ownsRow n 148 3 (.slice (some ⟨k,0,none⟩) m cap) m X) (K:m=L.length):OwnD w' n 148 3 S (.slice (some ⟨k,0,none⟩) m cap) (L.map ZF):=by
 subst K;refine⟨X,by rw [qg];exact z,Dat.Va.keep H _ _ I,fun b F=>⟨(E b F).2,fun e=>?_⟩⟩;have:b=k:=(by simpa [Value.ownBlock] using e);have:n<=k:=Zs z rfl;have:=(E b F).1;omega
theorem cloneC_any (H:ChgS w S A L) (E:∀ b,S b->b<w) :
 Calls prog 183 #[.slice A L n] w (NewC S L w):=by
 have aq:=H.len;obtain⟨R,W,ac,aj,an⟩:=qA ZhY;have ar:=fun (w:World) (a:Option Addr) (l c:Nat)=>Lib.run_eql_slice_nil (P:=prog) w 56 148 a l c 0 0 underlying56;cases A with
 | none =>
  have F:L=[]:=by
   cases L with
   | nil=>rfl
   | cons c r=>obtain⟨b,U,e,_⟩:=H.2 yb;cases e
  subst F;clear H;go_enter func183,ntmps183
  go_wp2
  go_ret;exact⟨none,0,rfl,Qg E,qa _ _⟩
 | some ad =>
  rcases qF L.length with F | F
  .have ao:L=[]:=List.length_eq_zero_iff.1 F;subst ao;clear H;go_enter func183,ntmps183
   go_wp2_with (at_builtin;refine Zam rfl (.tmp 5) (.tmp 6) 56 rfl underlying56 W 0 rfl n rfl ?_)
   go_ret;refine⟨some ⟨w,0,none⟩,0,rfl,⟨[],⟨rfl,.inr ⟨w.heap.size,0,#[],rfl,qp _,qb w _,qp _,yh,rfl,rfl⟩⟩,by simp only [Qn];unfold Dat.Va;rfl,fun b z=>⟨by have:=E b z;simp;omega,fun e=>?_⟩⟩,(qa _ _).alloc nR _⟩;have:b=w.heap.size:=(by simpa [Value.ownBlock] using e);have:=E b z;omega
  obtain⟨vs,I,O⟩:=Sl.vals H;obtain⟨b,U,e,z,M⟩:=O (by simpa using F);injection e with e;subst e;have K:vs.length=L.length*3:=(by rw [Dat.Va.len _ _ I,ZcE Zab]);replace I:=hI I;replace K:=hI K;replace M:=hI M;clear H O;go_enter func183,ntmps183;have af:=hI ((M.keep (w':=w.alloc (.cells #[] 148)) (qd w _ b (E b z))).add)
  go_wp2_with (at_builtin;refine ZaP rfl (.tmp 5) (.tmp 6) 56 rfl 3 56 underlying56 W ac aj an rfl yf (some ⟨w,0,none⟩) 0 [] rfl rfl (fun h=>absurd h ya) ⟨b,U,none⟩ L.length n vs rfl K af F yh ya ?_;intro ah N aa ae am)
  rw [qP,qx] at aa;go_ret;have ab:Below w w N:=((qa w w).alloc nR _).grown ae yb (fun _ h=>by cases h);have:N.heap.size=w.heap.size+1+1:=(by rw [am,Qt]);have Z:=own_of_row I (qS ab E) (fun b z=>⟨by have:=E b z;simp;omega,yl (E b z)⟩) aa rfl;rw [Qt] at Z;obtain⟨vals,ai,ap,ak⟩:=Z;exact⟨some ⟨w+1,0,none⟩,ah,rfl,⟨vals,ZbR ai ya,ap,ak⟩,ab⟩
section
variable {s:Sch}
def outs (G:List (Chg × Chg)):List Chg:=G.flatMap fun p=>ZcK p.1 p.2
theorem cmpC_flip {a b:Chg}:cmpC s a b<0↔0<cmpC s b a:=by
 unfold cmpC
 by_cases h:a.tx=b.tx
 .have:=cmpR_is.flip (keyC s a) (keyC s b);simp [h];omega
 have z:¬ b.tx=a.tx:=fun e=>h e.symm;simp [h,z];omega
theorem cmpC_le_trans {a b c:Chg} (E:cmpC s a b<=0) (F:cmpC s b c<=0):cmpC s a c<=0:=by
 unfold cmpC at *
 by_cases x:a.tx=b.tx
 .by_cases y:b.tx=c.tx
  .have z:a.tx=c.tx:=x.trans y;simp only [x,y,z,ne_eq,not_true,if_false] at *;exact cmpR_is.trans _ _ _ E F
  have z:¬ a.tx=c.tx:=fun e=>y (x ▸ e);simp only [ne_eq,y,z,not_false_eq_true,if_true] at *;omega
 simp only [ne_eq,x,not_false_eq_true,if_true] at E
 by_cases y:b.tx=c.tx
 .have z:¬ a.tx=c.tx:=ya;simp only [ne_eq,z,not_false_eq_true,if_true];omega
 simp only [ne_eq,y,not_false_eq_true,if_true] at F;have z:¬ a.tx=c.tx:=ya;simp only [ne_eq,z,not_false_eq_true,if_true];omega
end
structure NetE where
 t:Int
 key:Row
 c:Chg
section
variable {s:Sch}
end
section
variable {w:World} {base n c g:Nat} {S:Nat->Prop}
theorem OwnD.chgs {v:Value} {A:Option Addr} {l:List Chg} (h:OwnD w base 148 3 S (.slice A n c) (l.map ZF)) (E:l.length<=2513169434916):n=l.length/\n<=c/\ChgS w (fun b=>S b\/some b=(Value.slice A n c).ownBlock) A l:=by
 have:=h.slice (S':=fun b=>S b\/some b=(Value.slice A n c).ownBlock) (by rw [Ze (n:=56) (fun _=>rfl)];omega) (fun b z=>.inl z) (fun g _ _ e=>.inr e.symm);rw [qg] at this;exact this
end
def SortPost (base:Nat) (S:Nat->Prop) (v:Value) (l:List Chg) (w:World) (e:Ending) (w':World):Prop:=(∃ u,e=.returned u)/\OwnD w' base 148 3 S v (l.map ZF)/\Fr (fun b=>some b=v.ownBlock) w w'
theorem sort_one (E:k<=1):Calls prog 261 #[.slice A k n,.int .i64 0,.int .i64 k,x] w (fun e w'=>(∃ u,e=.returned u)/\w'=w):=by
 have:decide ((1:Int)<(k:Int))=false:=qe ya;go_enter func261,ntmps261
 go_wp2
 go_loopw [8] (fun i wr=>i=.int .i64 1/\wr=w) (fun _ _=>0)
 case atStart=>exact⟨rfl,rfl⟩
 obtain⟨rfl,rfl⟩:=hrel
 go_wp2
 go_end0
 exact⟨⟨_,rfl⟩,rfl⟩
theorem stable_one (H:k<=1):Calls prog 226 #[.slice A k n,.int .i64 k,x] w (fun e w'=>(∃ u,e=.returned u)/\w'=w):=by
 have:decide ((20:Int)<=(k:Int))=false:=qe ya;have:decide ((20:Int)<(k:Int))=false:=qe ya;go_enter func226,ntmps226
 go_wp2
 go_loopw [7,8] (fun a b wr=>a=.int .i64 0/\b=.int .i64 20/\wr=w) (fun _ _ _=>0)
 case atStart=>exact⟨rfl,rfl,rfl⟩
 obtain⟨rfl,rfl,rfl⟩:=hrel
 go_wp2_with fail
 refine(sort_one H).mono ?_;rintro e E ⟨⟨u,rfl⟩,rfl⟩
 go_wp2
 go_loopw [6] (fun a F=>a=.int .i64 20/\F=E) (fun _ _=>0)
 case atStart=>exact⟨rfl,rfl⟩
 obtain⟨rfl,rfl⟩:=hrel
 go_wp2
 go_end0
 exact⟨⟨_,rfl⟩,rfl⟩
theorem sortStable_any (O:CapS w s A n k) (M:TabS w S A s.tt) (H:OwnD w i 148 3 S (.slice B L m) (L.map ZF)) (N:some k≠(Value.slice B L m).ownBlock) (z:∀ x ∈ L,0<=x.tx/\x.tx<=1000000) (E:L.length<=1) :
 Calls prog 185 #[.slice B L m,.func (.func 186) #[] #[.pointer (some ⟨k,0,none⟩)]] w (SortPost i S (.slice B L m) (ZbF (cmpC s) L) w):=by
 have e:ZbF (cmpC s) L=L:=by
  match L,E with
  | [],_=>rfl
  | [x],_=>rfl
 rw [e];go_enter func185,ntmps185
 go_wp2_with fail
 refine(stable_one E).mono ?_;rintro e K ⟨⟨u,rfl⟩,rfl⟩
 go_wp2
 go_end0
 exact⟨⟨_,rfl⟩,H,Qa _ _⟩
end Go.Proofs.YtjadnfodboepeaaGreat
