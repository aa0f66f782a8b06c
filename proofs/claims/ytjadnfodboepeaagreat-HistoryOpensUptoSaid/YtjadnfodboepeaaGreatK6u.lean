import Derived.Test.YtjadnfodboepeaaGreatKfq
import Derived.Deep.CutBlock
set_option linter.all false
set_option maxRecDepth 100000
set_option maxHeartbeats 8000000
namespace Go.Proofs.YtjadnfodboepeaaGreat
open Tryz
open Go.RowKit
variable {w w' v:World} {n k m i j:Nat} {A B:Option Addr} {S:Nat->Prop} {a:Int} {x:Value} {s:Sch} {L:List Chg}
def NetPost (r:Int × List Chg) (w:World) (e:Ending) (w':World):Prop:=∃ A c,e=.returned (.tuple #[.slice A r.2 c,.int .i64 r.1])/\r.2.length<=c/\ChgS w' (New w w') A r.2/\Below w w w'
theorem NetPost.err {w w':World} {n:Int} {r:Int × List Chg} (h:r=(n,[])) (z:Below w w w'):NetPost r w (.returned (.tuple #[.slice none 0 0,.int .i64 n])) w':=by
 subst h;exact⟨none,0,rfl,qp _,ChgS.nil_,z⟩
def Outs (w:World) (z:Nat) (v:Value) (l:List Chg):Prop:=OwnD w z 148 3 (Beh z w v) v (l.map ZF)
theorem Outs.below {w w':World} {E:Nat} {v:Value} {l:List Chg} (h:Outs w E v l) (F:Below w w w'):Outs w' E v l :=
 (OwnD.below h F).more (fun b z=>⟨z.1,qC z.2.1 F.size,z.2.2⟩) (fun b z=>⟨z.2.1,z.2.2⟩)
theorem ZbP {z new:Row} (E:z.length<=n/\RowS w S A z) (F:new.length<=k/\RowS w S B new):Dat.Vs w S (ZF ⟨a,z,new⟩) [.int .i64 a,.slice A z n,.slice B new k]:=by
 unfold ZF Dat.Vs Dat.Va;refine⟨[.int .i64 a],[.slice A z n,.slice B new k],rfl,by unfold Dat.Vs;exact⟨rfl,trivial⟩,?_⟩;unfold Dat.Va;refine⟨[.slice A z n],[.slice B new k],rfl,Zah E.1 E.2,?_⟩;unfold Dat.Va;exact⟨[.slice B new k],[],rfl,Zah F.1 F.2,by unfold Dat.Va;rfl⟩
theorem outs_push {cap:Nat} {H new:Row} {vals:List Value} (ae:Dat.Va w (Beh n w x) (L.map ZF) vals) (Z:∀ d,x.ownBlock=some d->n<=d/\d<w) (ah:n<=w) (N:Below w w w') (R:H.length<=i/\RowS w' (fun b=>w<=b/\b<w') A H) (M:new.length<=j/\RowS w' (fun b=>w<=b/\b<w') B new) (O:w'.grownBy v x.ownBlock) (F:x.ownBlock=some m\/m=w'.heap.size) (ac:k=L.length+1) (U:v.ownsRow n 148 3 (.slice (some ⟨m,0,none⟩) k cap) k (vals++[.int .i64 a,.slice A H i,.slice B new j])) :
 Outs v n (.slice (some ⟨m,0,none⟩) k cap) (L++[⟨a,H,new⟩]):=by
 have W:=N.size;have af:=O.size
 have K:∀ b,(Beh n w x b\/(w<=b/\b<w'))->Beh n w' x b:=fun b z=>by
  rcases z with z | z
  .exact⟨z.1,qC z.2.1 W,z.2.2⟩
  exact⟨ya,z.2,fun e=>yl ((Z b e.symm).2)⟩
 have aa:Same (Beh n w x) w w':=fun b z=>N.block b z.2.1;have h:=Zfo (S:=Beh n w' x) (l:=L.map ZF) (Dat.Va.more (fun b z=>K b (.inl z)) _ _ (Dat.Va.keep aa _ _ ae)) (ZbP (a:=a) ⟨R.1,R.2.more (fun b z=>K b (.inr z))⟩ ⟨M.1,M.2.more (fun b z=>K b (.inr z))⟩) (fun b z=>⟨z.2.1,z.2.2⟩) (by rw [qg];exact ac) U O F;unfold Outs;rw [qm];refine h.more (fun b z=>⟨z.1,qC z.2.1 af,fun e=>?_⟩) (fun b z=>⟨z.2.1,z.2.2⟩);have ab:b=m:=(by simpa [Value.ownBlock] using e);rcases F with F | F
 .exact z.2.2 (by rw [F,ab])
 have:=z.2.1;omega
theorem Outs.slice {w:World} {z n c:Nat} {A:Option Addr} {l:List Chg} {S':Nat->Prop} (h:Outs w z (.slice A n c) l) (K:l.length<=2513169434916) (E:∀ b,z<=b->b<w->S' b):n=l.length/\n<=c/\ChgS w S' A l:=by
 have:=OwnD.slice (S':=S') h (by rw [Ze (n:=56) (fun _=>rfl)];omega) (fun b F=>E b F.1 F.2.1) (fun g I H _=>E g I H);rw [qg] at this;exact this
section
variable {w:World} {B:Nat} {x0 x1 x2 a b c:Value}
end
theorem own_take (h:OwnD w n 148 3 S (.slice A L k) (L.map ZF)) (H:m<=L):OwnD w n 148 3 S (.slice A m k) ((L.take m).map ZF):=by
 obtain⟨vals,F,O,K⟩:=h;have Z:(Value.slice A m k).ownBlock=(Value.slice A L k).ownBlock:=(by cases A<;>rfl);refine⟨vals.take (m*3),?_,(ZbQ Zab O m H).1,fun b I=>⟨(K b I).1,by rw [Z];exact(K b I).2⟩⟩;rw [qg,qG,Nat.min_eq_left H];rw [qg] at F;refine⟨by rw [qG,F.1];omega,?_⟩;rcases F.2 with ⟨e,ac⟩ | ⟨g,cap,c,e,R,W,ab,U,N,M⟩
 .injection e with z aa E;left;exact⟨by rw [z,E,show m=0 by omega],ya⟩
 injection e with z aa E;right;refine⟨g,cap,c,by rw [z,E],R,W,ya,U,N,?_⟩;rw [<-M,List.take_take]
 congr 1
 omega
theorem Zhb {aK:List Int->Pred->Int} (bb:Nat) (m:Int) (b0:Nat) (bk:TabS w S A s.tt) (bN:ChgS w S B L) (ay:∀ b,S b->b<w.heap.size) (dx:ZbZ aK s) (dW:s.tt.length<=1000000) (dV:L.length<=1) :
 Calls prog 118 #[sAgg s.vv A s.tt.length bb,.int .i64 m,.slice B L.length b0] w (NetPost (netF (schF aK s) s m L) w):=by
 replace bk:=hI bk;replace bN:=hI bN;obtain⟨ds,dz,dp,dG,dw⟩:=qA ZhY;obtain⟨bW,aG⟩:=yp (ZbD (schF aK s) m);replace aG:=hI aG;have ce:=hI (((qa w.heap.size w).alloc nR (.cells #[.int .i64 s.vv,.slice A s.tt.length bb] 25)).alloc yb (.cells #[.int .i64 m] 3));go_enter func118,ntmps118
 go_wp2_with fail
 refine(Zji bb (bk.out.keep (qS ce.out ay)) (fun b E=>by have:=ay b E;simp;omega) dx).mono ?_;rintro e c5 ⟨rfl,aL⟩;rw [aG];have bn:=hI (ce.out.trans (aL.mono yd));have co:=hI (show CapS c5 s A bb w.heap.size from ⟨(aL.cell (p:=⟨w.heap.size,0,none⟩) yd).trans ((Zh yb).trans (Zm rfl rfl)),(aL.cell (p:=⟨w.heap.size,1,none⟩) yd).trans ((Zh yb).trans (Zm rfl rfl)),by have:=aL.size;simp at this;omega⟩);have db:=hI ((aL.cell (p:=⟨w.heap.size+1,0,none⟩) yb).trans (Zm yb rfl));have O:w.heap.size+1<c5.heap.size:=(by have:=aL.size;simp at this;omega);clear aL ce
 by_cases bL:bW=0
 .subst bL
  go_wp2_with fail
  refine(index_any A bb s m w.heap.size (w.heap.size+1) B b0 L S _ co.out db.out O (bk.out.keep (qS bn.out ay)) (bN.out.keep (qS bn.out ay)) (fun b E=>yl (ay b E))).mono ?_;rintro e w2 ⟨rfl,aT⟩;have b8:=hI (bn.out.trans (aT.mono ya));have cI:=hI (co.out.below aT);have:w.heap.size+1<w2.heap.size:=(yl aT.size);clear aT bn co db O
  go_wp2_with fail
  refine(cloneC_any (bN.out.keep (qS b8.out ay)) (fun b E=>yl (ay b E))).mono ?_;rintro e bC ⟨ak,ai,rfl,bc,bG⟩;have aU:=hI (b8.out.trans (bG.mono ya));have cO:=hI (cI.out.below bG);have:w.heap.size+1<bC.heap.size:=(yl bG.size);replace bc:=hI bc;clear bG b8 cI;have bY:=Zhg s m L;have cw:=hI (ZdC s m L);obtain⟨bq,bu⟩:=yp (Zba s m L);have bE:=hI (show badI s m L=if bq<L.length then (bq:Int) else -1 by unfold badI;rw [bu]);have dH:=hI bu;rw [bu] at bY cw;clear bu
  have cM:=hI (show ∀ (an:Int) (bZ:Bool),an=badI s m L->bZ=decide (bq<L.length)->∀ r,ZaA s none (ZbF (cmpC s) (L.take bq))=r->netF (schF aK s) s m L=(match r with | none=>(81,[]) | some o=>if bZ then (71,[]) else (0,o)) from fun an bZ _ aZ r bQ=>by
   subst aZ;rw [<-dH] at bQ ⊢;cases r with
   | none=>rw [netF_conflict aG.out bQ]
   | some o =>
    by_cases aA:Zba s m L<L.length
    .rw [netF_row aG.out bQ aA];simp [aA]
    rw [netF_ok aG.out bQ aA];simp [aA])
  have cu:=hI (show OwnD bC w2.heap.size 148 3 S (.slice ak bq ai) ((L.take bq).map ZF) from own_take bc.out bY)
  have cr:=hI (show ∀ x ∈ L.take bq,0<=x.tx/\x.tx<=1000000 from fun x dm=>by
   obtain⟨i,dj,e⟩:=List.mem_iff_getElem.1 dm;rw [qG] at dj;have K:=cw.out i ya;have cf:L.getD i chg0=x:=(by rw [<-e];simp [List.getD,show i<L.length by omega]);rw [cf] at K;obtain⟨dT,aA,dS⟩:=Zfu K;rw [aA];omega)
  have b5:=hI (show some w.heap.size≠(Value.slice ak (L.take bq).length ai).ownBlock from fun e=>by
   obtain⟨vals,K,_⟩:=bc.out;have dI:(Value.slice ak L.length ai).ownBlock=some w.heap.size:=(by cases ak<;>simpa [Value.ownBlock] using e.symm);have:=Zs K dI;omega)
  have c4:=hI (show (L.take bq).length=bq by rw [qG];omega);obtain⟨an,bt⟩:=yp (badI s m L);rw [bt] at bE;have ax:=hI (show (0<=an↔bq<L.length) by rw [bE];split<;>omega);have br:=hI (cM.out an (decide (0<=an)) bt.symm (by simp [ax.out]));rw [bt];have ct:(L.take bq).length=bq:=c4.out;obtain⟨U,cK⟩:=yp (L.take bq);rw [cK] at cu cr b5 br ct;have bl:=hI ct
  have cN:=hI (show L.length<=ai by
   obtain⟨vals,K,_⟩:=bc.out;rw [qg] at K;exact Zas K rfl)
  have bJ:=hI (show U.length<=L.length by omega);clear cM c4 ct bt cK bY;go_upto_if 28 with fail
  go_cut [10] from 28 to 31 (fun v dh=>v=.slice ak U.length ai/\bC=dh)
  case first =>
   by_cases bo:0<=an
   .have E:an=(U.length:Int):=(by rw [bE,qr (ax.out.1 bo),bl]);have:U.length<=ai:=qD bJ.out cN.out;subst E
    go_wp2
    go_meet;exact⟨yb,rfl⟩
   have hd:decide ((0:Int)<=an)=false:=qe bo
   go_wp2
   go_meet;exact⟨by rw [bl,show L.length=bq by have:=ax.out;have:=bJ.out;have:=bl.out;omega],rfl⟩
  obtain⟨rfl,rfl⟩:=hcut;have dN:=bJ.out;have aZ:OwnD bC w2.heap.size 148 3 S (.slice ak U.length ai) (U.map ZF):=(by have:=cu.out;rw [<-bl] at this;exact this);clear cu bE bJ cN bl;replace aZ:=hI aZ
  go_wp2_with fail
  refine(sortStable_any cO.out (bk.out.keep (qS aU.out ay)) aZ.out b5.out cr.out ya).mono ?_;rintro e W ⟨⟨u,rfl⟩,bH,aP⟩;have bm:=hI (isort_len (cmpC s) U);generalize ZbF (cmpC s) U=F at bH br bm;obtain⟨dC,du,b2⟩:=OwnD.chgs (v:=.slice ak U.length ai) bH (by rw [bm];omega);obtain⟨R,b9⟩:∃ R:Nat->Prop,R=(fun b=>S b\/some b=(Value.slice ak U.length ai).ownBlock):=⟨_,rfl⟩;rw [<-b9] at b2;have dD:=hI b2;have cg:=hI (show ∀ g,(Value.slice ak U.length ai).ownBlock=some g->w2.heap.size<=g/\g<W.heap.size from fun g be=>by obtain⟨_,K,_⟩:=bH;rw [qg,bm] at K;exact⟨Zs K be,ZN K be⟩);have cZ:=hI (show Below w.heap.size w W from ⟨aP.os.trans aU.out.os,aP.tape.trans aU.out.tape,aP.output.trans aU.out.output,qD aU.out.size aP.size,fun b E=>(aP.block b ya (fun e=>yl ((cg.out b e.symm).1))).trans (aU.out.block b E)⟩);have:w.heap.size+1<W.heap.size:=(yl aP.size)
  have aD:∀ b,R b->b<W.heap.size:=fun b E=>by
   rw [b9] at E;rcases E with E | E
   .have:=ay b E;omega
   exact(cg.out b E.symm).2
  have cQ:F.length=U.length:=bm.out;rw [<-cQ];have:F.length<=1:=ya;clear bH aP dC du b2 b9 cQ aZ cO aU cr b5 cg bc bm
  go_wp2
  go_loopw [12,13] (fun o i wr=>∃ (k:Nat) (outs:List Chg) (ac:Option Addr) (af:Nat),k<=F.length/\i=.int .i64 k/\o=.slice ac outs.length af/\outs.length<=k/\Outs wr W.heap.size (.slice ac outs.length af) outs/\ZaA s none F=(ZaA s none (F.drop k)).map (outs++·)/\Below W.heap.size W wr) (fun _ i _=>F.length - (intOf i).toNat)
  case atStart=>exact⟨0,[],none,0,qk _,rfl,rfl,qp _,Qg (fun b E=>E.2.1),yb,qa _ _⟩
  obtain⟨k,outs,ac,af,dQ,rfl,rfl,dM,bw,bz,b1⟩:=hrel;replace bw:=hI bw;replace bz:=hI bz;have aR:=hI b1;have dU:=b1.size;clear b1;obtain⟨z,rfl⟩:∃ z:World,z=wr:=⟨_,rfl⟩
  by_cases ck:k<F.length
  .obtain⟨dX,dR,rfl,aT,bX,aN,c1,bR,c2,b3,cC,cv,bU,cU,cc⟩:=(dD.out.keep (qS aR.out aD)).at_ ck;have bh:=hI (show ChV z R (F.getD k chg0) aN c1 bR c2 from ⟨cv,cC,cc,cU⟩);have cE:=hI (net_first s ck);have cx:=cv.len;have dd:=cc.len;clear cv cc cC cU;generalize F.getD k chg0=dk at bX b3 bU bh cE cx dd;obtain⟨H,of,aB⟩:=dk;simp only at bX b3 bU cx dd
   go_upto_block 2 with fail
   clear bX b3 bU
   go_cut [13] from 47 to 74 (fun i wr=>∃ (j:Nat) (N:Chg) (aQ:Option Addr) (aS:Nat) (aj:Option Addr) (ah:Nat),k+1<=j/\j<=F.length/\i=.int .i64 j/\ZaA s none F=(ZaA s none (F.drop j)).map ((outs++ZcK ⟨H,of,aB⟩ N)++·)/\z.heap.size+1<wr.heap.size/\Below z.heap.size z wr/\ChV wr R N aQ aS aj ah/\yr wr z.heap.size 0 (.int .i64 H)/\yr wr z.heap.size 1 (.slice aN of.length c1)/\yr wr z.heap.size 2 (.slice bR aB.length c2)/\yr wr (z.heap.size+1) 2 (.slice aj N.new.length ah))
   case first =>
    go_wp2
    go_loopw [13] (fun i Z=>∃ (j:Nat) (N:Chg) (aQ:Option Addr) (aS:Nat) (aj:Option Addr) (ah:Nat),k+1<=j/\j<=F.length/\i=.int .i64 j/\ZaA s none F=(ZaA s (some (⟨H,of,aB⟩,N)) (F.drop j)).map (outs++·)/\Below z.heap.size z Z/\ChV Z R N aQ aS aj ah/\z.heap.size+1<Z.heap.size/\yr Z z.heap.size 0 (.int .i64 H)/\yr Z z.heap.size 1 (.slice aN of.length c1)/\yr Z z.heap.size 2 (.slice bR aB.length c2)/\yr Z (z.heap.size+1) 0 (.int .i64 N.tx)/\yr Z (z.heap.size+1) 1 (.slice aQ N.old.length aS)/\yr Z (z.heap.size+1) 2 (.slice aj N.new.length ah)/\Z.frozen? ⟨z.heap.size+1,0,none⟩=false/\Z.frozen? ⟨z.heap.size+1,1,none⟩=false/\Z.frozen? ⟨z.heap.size+1,2,none⟩=false) (fun i _=>F.length - (intOf i).toNat)
    case atStart=>exact⟨k+1,⟨H,of,aB⟩,aN,c1,bR,c2,qp _,ck,by go_num,by rw [bz,cE],((qa z.heap.size z).alloc nR _).alloc yb _,bh.out.keep (fun b E=>(qd _ _ b (by have:=aD b E;simp;omega)).trans (qd _ _ b (yl (aD b E)))),yb,(Zh yb).trans (Zm rfl rfl),(Zh yb).trans (Zm rfl rfl),(Zh yb).trans (Zm rfl rfl),Zm yb rfl,Zm yb rfl,Zm yb rfl,ZaC yb,ZaC yb,ZaC yb⟩
    obtain⟨j,N,aQ,aS,aj,ah,cG,de,rfl,b6,aw,ao,da,aq,am,ap,cW,cL,aY,cz,cF,c3⟩:=hrel;replace b6:=hI b6;have bj:=hI aw;have bB:=aw.size;replace ao:=hI ao;have ar:=hI (bh.out.keep (w':=wr) (fun b E=>aw.block b (yl (aD b E))));have aJ:∀ b,R b->b<wr.heap.size:=(fun b E=>yl (aD b E));have aI:z.heap.size<wr.heap.size:=ya;have O:z.heap.size+1<wr.heap.size:=ya;clear aw;have:¬ j<F.length:=ya;have dL:=hI (show ZaA s none F=(ZaA s none (F.drop j)).map ((outs++ZcK ⟨H,of,aB⟩ N)++·) by rw [b6,net_end s ya,map_map_app])
    go_wp2
    go_quiet (fail)
    obtain⟨bg,ca⟩:=yp (wr.drewN nq);have M:Below wr.heap.size wr bg:=(by rw [<-ca];exact below_drewN (qa _ _) _);rw [ca];clear ca;have aq:=c9Q M aI aq;have am:=c9Q M aI am;have ap:=c9Q M aI ap;have cW:=c9Q M O cW;have cL:=c9Q M O cL;have aY:=c9Q M O aY;have cz:=(M.frozen (p:=⟨z.heap.size+1,0,none⟩) O).trans cz;have cF:=(M.frozen (p:=⟨z.heap.size+1,1,none⟩) O).trans cF;have c3:=(M.frozen (p:=⟨z.heap.size+1,2,none⟩) O).trans c3;have bj:=hI (bj.out.trans (M.mono bB));have ao:=hI (ao.out.keep (qS M aJ));have ar:=hI (ar.out.keep (qS M aJ));have dP:=M.size;have aJ:∀ b,R b->b<bg.heap.size:=(fun b E=>yl (aD b E));have aI:z.heap.size<bg.heap.size:=ya;have O:z.heap.size+1<bg.heap.size:=ya;have bB:z.heap.size<=bg.heap.size:=ya;clear M;obtain⟨wr,rfl⟩:∃ wr:World,wr=bg:=⟨_,rfl⟩
    go_wp2
    go_meet;exact⟨j,N,aQ,aS,aj,ah,cG,de,rfl,dL.out,O,bj.out,ao.out,aq,am,ap,aY⟩
   obtain⟨wr,rfl⟩:∃ wr:World,wr=wc:=⟨_,rfl⟩;obtain⟨j,N,aQ,aS,aj,ah,cG,de,rfl,bp,da,aw,ao,aq,am,ap,aY⟩:=hcut;replace bp:=hI bp;have bj:=hI aw;have aX:=hI ao;have ar:=hI (bh.out.keep (w':=wr) (fun b E=>aw.block b (yl (aD b E))));have bB:=aw.size;have dt:=ao.r1.len;have df:=ao.r2.len;have aJ:∀ b,R b->b<wr.heap.size:=(fun b E=>yl (aD b E));have O:z.heap.size+1<wr.heap.size:=da;have aI:z.heap.size<wr.heap.size:=ya;clear aw ao bh;obtain⟨c6,cR,I⟩:=N;simp only at aY dt df;have cq:=hI bw.out
   go_wp2_with fail
   refine(equal_any aN aj c1 ah of I R _ (ar.out.r1) (aX.out.r2) aJ).mono ?_;rintro e dq ⟨rfl,au⟩;have cA:=c9Q au aI aq;have cT:=c9Q au aI am;have dE:=c9Q au aI ap;have cH:=c9Q au O aY;have dB:=au.size;have bK:=hI (bj.out.trans (au.mono bB));have cJ:=hI (ar.out.keep (qS au aJ));have cD:=hI (aX.out.keep (qS au aJ));clear au aq am ap aY ar aX
   by_cases bf:cmpR of I=0
   .rw [show (cmpR of I == 0)=true by rw [bf];rfl];have ch:=hI (show ZaA s none F=(ZaA s none (F.drop j)).map (outs++·) by rw [bp,show ZcK ⟨H,of,aB⟩ ⟨c6,cR,I⟩=[] by unfold ZcK;rw [qr bf],Qq]);clear bf
    go_wp2
    go_roundw
    case rel=>exact⟨j,outs,ac,af,ya,rfl,rfl,ya,cq.out.below bK.out,ch.out,aR.out.trans (bK.out.mono aR.out.size)⟩
    simp [intOf];omega
   rw [show (cmpR of I == 0)=false from qf.2 bf];have ch:=hI (show ZaA s none F=(ZaA s none (F.drop j)).map ((outs++[⟨H,of,I⟩])++·) by rw [bp,show ZcK ⟨H,of,aB⟩ ⟨c6,cR,I⟩=[⟨H,of,I⟩] by unfold ZcK;rw [qo bf]]);clear bf;obtain⟨wr,rfl⟩:∃ wr:World,wr=dq:=⟨_,rfl⟩;obtain⟨cV,aM,bI,dA⟩:=cq.out.below bK.out;rw [qg] at aM;replace bI:=hI bI;have cX:=hI (show ∀ az,(Value.slice ac outs.length af).ownBlock=some az->W.heap.size<=az/\az<wr.heap.size from fun az bD=>⟨Zs aM bD,ZN aM bD⟩);have cS:=hI (show ∀ az,(Value.slice ac outs.length af).ownBlock=some az->az<z.heap.size from fun az bD=>by obtain⟨_,K,_⟩:=cq.out;rw [qg] at K;exact ZN K bD);have dc:=hI (show some z.heap.size≠(Value.slice ac outs.length af).ownBlock from fun e=>yl (cS.out _ e.symm));have dK:=hI (show some (z.heap.size+1)≠(Value.slice ac outs.length af).ownBlock from fun e=>yl (cS.out _ e.symm));have c7:=hI (show ∀ aa,Below wr.heap.size wr aa->∀ wb,Below aa.heap.size aa wb->∀ ab n c ae k d,(wb.alloc (.cells #[.int .i64 H,.slice ab n c,.slice ae k d] 148)).ownsRow W.heap.size 148 3 (.slice ac outs.length af) outs.length cV from fun aa aW wb ba ab n c ae k d=>Zo aM (fun g be=>(qd wb _ g (by have:=ZN aM be;have:=aW.size;have:=ba.size;omega)).trans ((ba.block g (ym (ZN aM be) aW.size)).trans (aW.block g (ZN aM be)))));clear aM dA;have dJ:∀ b,R b->b<wr.heap.size:=fun b E=>qC (aJ b E) dB;have aq:=cA;have am:=cT;have ap:=cH;have ar:=hI cJ.out;have aX:=hI cD.out
   go_wp2_with fail
   clear cA cT dE cH;refine uS (fun w'=>w'.cell? ⟨z.heap.size,0,none⟩=some (.int .i64 H)/\w'.cell? ⟨z.heap.size,1,none⟩=some (.slice aN of.length c1)/\w'.cell? ⟨z.heap.size+1,2,none⟩=some (.slice aj I.length ah)) 13 13 fun Q' cy bT=>?_;refine uR [0,5,6,2] bT.out ⟨aq,am,ap⟩ ?_;refine uQ 5 fun aV aF=>?_;go_simp;refine(clone_any aN c1 of R _ (by exact ar.out.r1.keep (fun _ _=>rfl))).mono ?_;rintro e aa ⟨ab,aE,rfl,c9,aW⟩;have av:Below wr.heap.size wr aa:=(by first | exact(qa _ wr).drew.trans aW | exact aW);have p0:=c9K av aq;have cn:=c9K av am;have bV:=c9K av ap;have dg:wr.heap.size<=aa.heap.size:=av.size;refine aF.out _ _ (fun _=>⟨p0,cn,bV⟩) ?_;clear aF aV
   try simp only [Act.put,psA,psB,psC]
   refine uQ 8 fun aV aF=>?_;go_simp;refine(clone_any aj ah I R _ (by exact aX.out.r2.keep (qS av dJ))).mono ?_;rintro e wb ⟨ae,dr,rfl,cP,ba⟩;have aH:Below aa.heap.size aa wb:=(by first | exact(qa _ aa).drew.trans ba | exact ba);have bO:=c9K aH p0;have bP:=c9K aH cn;have bM:=c9K aH bV;have:aa.heap.size<=wb.heap.size:=aH.size;refine aF.out _ _ (fun _=>⟨bO,bP,bM⟩) ?_;clear aF aV
   try simp only [Act.put,psA,psB,psC]
   refine uR [9,1] bT.out ⟨bO,bP,bM⟩ ?_;refine uQ 10 fun aV aF=>?_;go_simp;have r0:(wb.alloc (.cells #[.int .i64 H,.slice ab of.length aE,.slice ae I.length dr] 148)).cell? ⟨z.heap.size,0,none⟩=_:=(Zh ya).trans bO;have cm:(wb.alloc (.cells #[.int .i64 H,.slice ab of.length aE,.slice ae I.length dr] 148)).cell? ⟨z.heap.size,1,none⟩=_:=(Zh ya).trans bP;have cp:(wb.alloc (.cells #[.int .i64 H,.slice ab of.length aE,.slice ae I.length dr] 148)).cell? ⟨z.heap.size+1,2,none⟩=_:=(Zh ya).trans bM;refine aF.out _ _ (fun _=>⟨r0,cm,cp⟩) ?_;clear aF aV
   try simp only [Act.put,psA,psB,psC]
   refine uQ 11 fun aV c8=>?_;refine step_append_lies _ yg (.tmp 81) (.tmp 91) _ yg W.heap.size 148 ds _ 3 56 underlying56 dz dp dG dw rfl yf (.slice ac outs.length af) outs.length cV yg (by exact c7.out aa av wb aH ab of.length aE ae I.length dr) ⟨wb.heap.size,0,none⟩ 1 1 [.int .i64 H,.slice ab of.length aE,.slice ae I.length dr] yg yg (World.news_of_block (cs:=#[.int .i64 H,.slice ab of.length aE,.slice ae I.length dr]) (t:=148) (fr:=(0,0)) (qb wb _)) (by simp [Value.oneCell']) ya yh ya yd (wb.heap.size+1) yb ?_;intro dl dF di bF aC bS dO;have b7:=(aC.cell_far ⟨z.heap.size,0,none⟩ yd dc.out).trans r0;have ci:=(aC.cell_far ⟨z.heap.size,1,none⟩ yd dc.out).trans cm;have cj:=(aC.cell_far ⟨z.heap.size+1,2,none⟩ yd dK.out).trans cp;replace bF:=hI bF;replace aC:=hI aC;replace bS:=hI bS;refine c8 _ _ (fun _=>⟨b7,ci,cj⟩) ?_;clear c8 aV
   try simp only [Act.put,psA,psB,psC]
   refine uR [12,1] bT.out ⟨b7,ci,cj⟩ ?_;refine uE cy ?_;clear cy bT Q';have ax:=hI (show Below wr.heap.size wr wb from av.trans (aH.mono av.size));have b4:=hI (ZaR (m:=wr.heap.size) c9 ar.out.r1.ok nR);have cd:=hI (ZaR (m:=wr.heap.size) cP aX.out.r2.ok dg);have dy:=hI (outs_push (w':=wb.alloc (.cells #[.int .i64 H,.slice ab of.length aE,.slice ae I.length dr] 148)) (a:=H) bI.out cX.out ya (ax.out.alloc ax.out.size _) ⟨b4.out.1,(b4.out.2.keep (fun b E=>(qd wb _ b (yl E.2)).trans (aH.block b E.2))).more (fun b E=>⟨E.1,by have:=E.2;simp;omega⟩)⟩ ⟨cd.out.1,(cd.out.2.keep (fun b E=>qd wb _ b E.2)).more (fun b E=>⟨E.1,by have:=E.2;simp;omega⟩)⟩ aC.out (bS.out.imp id (fun h=>by rw [h];simp)) rfl bF.out);have dv:=hI (show Below W.heap.size W di from (((aR.out.trans (bK.out.mono aR.out.size)).trans (ax.out.mono ya)).alloc (qD ya ax.out.size) (.cells #[.int .i64 H,.slice ab of.length aE,.slice ae I.length dr] 148)).grown aC.out (by have:=ax.out.size;simp;omega) (fun k e=>(cX.out k e).1));clear av aH aW ba c9 cP bF aC bS c7 bI b7 ci cj r0 cm cp bO bP bM p0 cn bV aq am ap b4 cd ar aX cJ cD
   go_wp2
   go_roundw
   case rel=>exact⟨j,outs++[⟨H,of,I⟩],some ⟨dl,0,none⟩,dF,ya,rfl,yb,yd,by simpa using dy.out,ch.out,dv.out⟩
   simp [intOf];omega
  have cY:=hI (show ZaA s none F=some outs by rw [bz,Qu ya,ZaA];simp)
  by_cases bo:0<=an
  .have bi:=hI (show netF (schF aK s) s m L=(71,[]) by rw [br (some outs) cY.out];simp [bo])
   go_wp2
   go_ret2;exact NetPost.err bi.out (cZ.out.trans (aR.out.mono ya))
  have bi:=hI (show netF (schF aK s) s m L=(0,outs) by rw [br (some outs) cY.out];simp [bo])
  go_wp2
  go_ret2;rw [bi];obtain⟨K,cf,aA⟩:=bw.out.slice (S':=New w z) ya (fun b aL aT=>⟨ya,aT⟩);exact⟨ac,af,rfl,cf,aA,cZ.out.trans (aR.out.mono ya)⟩
 have hd:(bW != 0)=true:=(by simpa using bL);have bi:=hI (show netF (schF aK s) s m L=(bW,[]) by rw [netF_bad (by rw [aG.out];exact bL),aG]);clear bL
 go_wp2
 go_ret2;exact NetPost.err bi.out bn.out
end Go.Proofs.YtjadnfodboepeaaGreat
