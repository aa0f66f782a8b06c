import Derived.Test.YtjadnfodboepeaaGreatKkc
set_option linter.all false
set_option maxRecDepth 100000
set_option maxHeartbeats 8000000
namespace Go.Proofs.YtjadnfodboepeaaGreat
open Tryz
open Go.RowKit
variable {w:World} {n k m i j:Nat} {A B A':Option Addr} {S:Nat->Prop} {a:Int} {x xA:Value} {g:TypeId} {s:Sch} {X:List Value} {P:Program} {Q:Act}
theorem Zch {L:List Int->Pred->Int} (M:Nat) (m:Int) (az:Nat) {st:St} (ai:TabS w S A s.tt) (aX:StS w S B st) (I:∀ b,S b->b<w) (bg:ZbZ L s) (aI:Zi st<=4611686018427387904) :
 Calls prog 47 #[sAgg s.vv A s.tt M,.int .i64 m,ZaM B st az] w (Zaz (Zv (schF L s) s m st) w):=by
 obtain⟨aq,aA⟩:=yp (ZbD (schF L s) m);have ak:=hI (show Zv (schF L s) s m st=if aq≠0 then aq else if 512<Zi st then 2 else if st.length≠s.tt.length then 80 else if stOk s m 0 st then 0 else 80 by rw [<-aA];rfl);replace aA:=hI aA;replace ai:=hI ai;have bO:=hI aX;replace bg:=hI bg;replace aI:=hI aI;have ck:=aX.len;clear aX;have be:=hI (((qa w w).alloc nR (.cells #[.int .i64 s.vv,.slice A s.tt M] 25)).alloc yb (.cells #[.slice B st az] 28));go_enter func47,ntmps47
 go_wp2_with fail
 refine(Zji (M:=L) (A:=A) M (s:=s) (a:=m) (S:=S) (ai.keep (qS be I)) (fun b E=>by have:=I b E;simp;omega) bg).mono ?_;rintro e aR ⟨rfl,ap⟩;rw [aA];clear aA;have aM:=hI (be.trans (ap.mono yd));have aJ:yr aR w 0 (.int .i64 s.vv):=c9K ap yb;have aQ:yr aR w 1 (.slice A s.tt M):=c9K ap yb;have bt:yr aR (w+1) 0 (.slice B st az):=c9K ap yb;have bq:w.heap.size+1<aR:=(by have:=ap.size;simp at this;omega);clear ap be
 by_cases aO:aq=0
 .subst aO
  go_wp2_with fail
  refine(Zij (A:=B) az (st:=st) (S:=S) (bO.keep (qS aM I)) (fun b E=>yl (I b E)) aI).mono ?_;rintro e w2 ⟨rfl,ab⟩;have aK:=hI (aM.trans (ab.mono ya));have an:yr w2 w 0 (.int .i64 s.vv):=c9K ab aJ;have ah:yr w2 w 1 (.slice A s.tt M):=c9K ab aQ;have b3:yr w2 (w+1) 0 (.slice B st az):=c9K ab bt;have bm:w.heap.size+1<w2:=(yl ab.size);clear ab aM aJ aQ bt bq
  by_cases aG:512<Zi st
  .have O:=hI (show Zv (schF L s) s m st=2 by rw [ak,qo yb,qr aG]);have aL:decide (512<(Zi st:Int))=true:=yd;clear aG ak;generalize Zi st=b2 at aL
   go_wp2
   go_ret;exact⟨by rw [O];rfl,aK⟩
  have aL:decide (512<(Zi st:Int))=false:=yd;have aH:=hI (show Zv (schF L s) s m st=if st.length≠s.tt.length then 80 else if stOk s m 0 st then 0 else 80 by rw [ak,qo yb,qo aG]);clear aG ak aI;generalize Zi st=b2 at aL
  by_cases au:st.length=s.tt.length
  .have bB:((st:Int) != s.tt.length)=false:=(by simp [au]);have aP:=hI (show Zv (schF L s) s m st=if stOk s m 0 st then 0 else 80 by rw [aH,qo (by simpa using au)]);clear aH;clear au
   go_wp2_with fail
   clear aL bB
   go_loopw [31] (fun i wr=>∃ k:Nat,k<=st/\i=.int .i64 k/\stOk s m 0 st=stOk s m k (st.drop k)/\Below w w wr/\yr wr w 0 (.int .i64 s.vv)/\yr wr w 1 (.slice A s.tt M)/\w.heap.size+1<wr) (fun i _=>st.length - (intOf i).toNat)
   case atStart=>exact⟨0,qk _,rfl,yb,aK,an,ah,bm⟩
   clear aK an ah b3 bm;obtain⟨k,cf,rfl,ae,aa,aJ,aQ,bq⟩:=hrel;replace ae:=hI ae;replace aa:=hI aa
   by_cases bJ:k<st
   .obtain⟨co,cg,rfl,ab,A',cn,bw,aU,aW⟩:=(bO.keep (qS aa I)).at_ bJ;have aE:=hI (ZhA s m st k bJ);have br:=hI aW;have bX:=aW.len;replace aU:=hI aU;clear aW;generalize st.getD k []=z at bw aE br aU bX
    go_wp2_with fail
    clear bw
    go_loopw [38] (fun i bY=>∃ j:Nat,j<=z/\i=.int .i64 j/\ZR s k m none z=ZR s k m (Zbj z j) (z.drop j)/\Below wr wr bY) (fun i _=>z.length - (intOf i).toNat)
    case atStart=>exact⟨0,qk _,rfl,by simp [Zbj],qa _ _⟩
    obtain⟨j,cc,rfl,ac,ao⟩:=hrel
    rename_i cm
    replace ac:=hI ac;have ba:=hI ao;have cd:=ao.size;have aT:=hI (aa.trans (ao.mono ya));have an:yr wr w 0 (.int .i64 s.vv):=c9K ao aJ;have ah:yr wr w 1 (.slice A s.tt M):=c9K ao aQ;clear ao
    by_cases bo:j<z
    .have bH:=hI (br.keep (w':=wr) (fun b E=>ba.block b (yl (I b E))));obtain⟨ay,bp,rfl,b8,aZ,bk,f1,ax,f3⟩:=bH.at_ bo;have b5:ay<wr:=(yl (I ay b8));have aN:=hI (ZfA s k m z j bo);have aB:=hI f3;replace ax:=hI ax;have bC:=f3.len;clear f3
     by_cases aV:j=0
     .have bn:decide ((0:Int)<(j:Int))=false:=yd;have H:=hI (show ZR s k m none z=(ZB s k (z.getD j []) m&&ZR s k m (Zbj z (j+1)) (z.drop (j+1))) by rw [ac,aN];subst aV;simp [Zbj]);have bR:=hI (show ¬ 0<j by omega);clear aN ac aV bn;generalize z.getD j []=row at f1 H aB ax bC
      go_wp2_with fail
      refine(fits_any A M s k m aZ bk row S _ (ai.keep (qS aT I)) aB (fun b E=>yl (I b E))).mono ?_;rintro e F ⟨rfl,R⟩;have aD:=hI (ba.trans (R.mono ya));clear R
      by_cases W:ZB s k row m=true
      .rw [W] at H ⊢;clear W
       go_wp2_with fail
       have cj:=bR.out
       go_quiet (fail)
       go_wp2
       go_roundw
       case rel=>exact⟨j+1,ya,by go_num,by rw [H];simp,below_drewN aD _⟩
       simp [intOf];omega
      have ar:ZB s k row m=false:=(by simpa using W);rw [ar] at H ⊢;clear W ar;have O:=hI (show Zv (schF L s) s m st=80 by rw [aP,ae,aE,H];simp)
      go_wp2
      go_ret;exact⟨by rw [O];rfl,aa.trans (aD.mono ya)⟩
     obtain⟨i,rfl⟩:∃ i,j=i+1:=⟨j - 1,ya⟩;obtain⟨ce,ch,aY,ci,bi,bb,bj,aS,bl⟩:=bH.at_ (show i<z.length by omega);injection aY with aY;injection aY with b0 bZ;subst b0 bZ;have bz:=hI bl;replace aS:=hI aS;have b9:=bl.len;have H:=hI (show ZR s k m none z=(ZB s k (z.getD (i+1) []) m&&decide (cmpR (keyF s k (z.getD i [])) (keyF s k (z.getD (i+1) []))<0)&&ZR s k m (Zbj z (i+1+1)) (z.drop (i+1+1))) by rw [ac,aN];rfl);clear bl aV aN ac;generalize z.getD (i+1) []=row at f1 H aB ax bC;generalize z.getD i []=Z at bj H bz aS b9;have bn:decide ((0:Int)<((i+1:Nat):Int))=true:=by simp
     go_wp2_with fail
     refine(fits_any A M s k m aZ bk row S _ (ai.keep (qS aT I)) aB (fun b E=>yl (I b E))).mono ?_;rintro e F ⟨rfl,R⟩;have aD:=hI (ba.trans (R.mono ya));have bI:=hI R;have bS:=hI (aT.trans (R.mono ya));have aw:yr F w 0 (.int .i64 s.vv):=c9K R an;have aC:yr F w 1 (.slice A s.tt M):=c9K R ah;have aF:yr F ay (bp+i) (.slice bi Z bb):=c9Q R b5 bj;have:wr.heap.size<=F:=R.size;have bh:ay<F:=ya;clear R f1 bj an ah
     by_cases W:ZB s k row m=true
     .rw [W] at H ⊢;clear W
      go_wp2_with fail
      have b6:IntKind.i64.wrap ((i:Int)+1 - 1)=i:=(by rw [show ((i:Int)+1 - 1)=i by omega];exact IntWalk.i64_in _ ya);have b1:IntKind.i64.wrap (i:Int)=i:=IntWalk.i64_in _ ya;have:(0:Int)<=i:=ya;have:(i:Int)<z:=ya;have af:∀ b,S b->b<F:=(fun b E=>yl (I b E));have bD:=hI (ai.keep (qS bS I));have bM:=hI (aB.keep (w':=F) (qS bI (fun b E=>yl (I b E))));have bN:=hI (bz.keep (w':=F) (qS bI (fun b E=>yl (I b E))))
      go_region_held3 (fun w'=>Below F F w'/\w'.cell? ⟨w,0,none⟩=some (.int .i64 s.vv)/\w'.cell? ⟨w,1,none⟩=some (.slice A s.tt M)/\w'.cell? ⟨ay,bp+i,none⟩=some (.slice bi Z bb))
       (first | exact⟨(qa _ _).drew,aw,aC,aF⟩ | exact⟨am,c9K am aw,c9K am aC,c9Q am bh aF⟩ | exact⟨U,c9K U aw,c9K U aC,c9Q U bh aF⟩ | exact⟨N,c9K N aw,c9K N aC,c9Q N bh aF⟩)
       (first
        | (go_at_call 101;have bQ:=N;clear bQ;refine(ZaY (A:=A) M s (a:=k) (B:=aZ) (n:=bk) (r:=row) (S:=S) (bD.keep (qS N af)) (bM.keep (qS N af)) ax (fun b E=>qC (af b E) N.size)).mono ?_;rintro e bU ⟨bW,bT,rfl,bF,bK⟩;have U:Below F F bU:=N.trans (bK.mono N.size))
        | (go_at_call 101;refine(ZaY (A:=A) M s (a:=k) (B:=bi) (n:=bb) (r:=Z) (S:=S) (w:=F.drew) (bD.keep (fun _ _=>rfl)) (bN.keep (fun _ _=>rfl)) aS af).mono ?_;rintro e ca ⟨bV,b7,rfl,bL,bG⟩;have N:Below F F ca:=(qa _ F).drew.trans bG)
        | (go_at_call 100;refine(ZaU (A:=bV) (B:=bW) (n:=b7) (k:=bT) (a:=keyF s k Z) (b:=keyF s k row) (S:=S) ((bN.keep (qS U af)).key s k bL) ((bM.keep (qS U af)).key s k bF) (fun b E=>qC (af b E) U.size)).mono ?_;rintro e bP ⟨rfl,bu⟩;have am:Below F F bP:=U.trans (bu.mono U.size)))
      have bE:=hI (aD.trans (am.mono ya));clear N U am bG bK bu bL bF aw aC aF b6 b1
      by_cases aj:cmpR (keyF s k Z) (keyF s k row)<0
      .have av:decide (0<=cmpR (keyF s k Z) (keyF s k row))=false:=(by simpa using aj);have bf:=hI (show ZR s k m none z=ZR s k m (Zbj z (i+1+1)) (z.drop (i+1+1)) by rw [H];simp [aj]);clear aj H;generalize cmpR (keyF s k Z) (keyF s k row)=b4 at av ⊢;rw [av]
       go_wp2
       go_roundw
       case rel=>exact⟨i+1+1,ya,by go_num,bf,bE⟩
       simp [intOf];omega
      have av:decide (0<=cmpR (keyF s k Z) (keyF s k row))=true:=(by simpa using aj);have bf:=hI (show ZR s k m none z=false by rw [H];simp [aj]);clear aj H;generalize cmpR (keyF s k Z) (keyF s k row)=b4 at av ⊢;rw [av];have O:=hI (show Zv (schF L s) s m st=80 by rw [aP,ae,aE,bf];simp)
      go_wp2
      go_ret;exact⟨by rw [O];rfl,aa.trans (bE.mono ya)⟩
     have ar:ZB s k row m=false:=(by simpa using W);rw [ar] at H ⊢;clear W ar;have O:=hI (show Zv (schF L s) s m st=80 by rw [aP,ae,aE,H];simp)
     go_wp2
     go_ret;exact⟨by rw [O];rfl,aa.trans (aD.mono ya)⟩
    have bc:=hI (show ZR s k m none z=true by rw [ac,show j=z.length by omega,qQ];cases z.length<;>rfl)
    go_wp2
    go_roundw
    case rel=>exact⟨k+1,ya,by go_num,by rw [ae,aE,bc];simp,aT,an,ah,ya⟩
    simp [intOf];omega
   have bc:=hI (show Zv (schF L s) s m st=0 by rw [aP,ae,show k=st.length by omega,qQ];rfl)
   go_wp2
   go_ret;exact⟨by rw [bc];rfl,aa⟩
  have bB:((st:Int) != s.tt.length)=true:=yd;have O:=hI (show Zv (schF L s) s m st=80 by rw [aH,qr au]);clear aH au
  go_wp2
  go_ret;exact⟨by rw [O];rfl,aK⟩
 have:(aq != 0)=true:=(by simpa using aO);have O:=hI (show Zv (schF L s) s m st=aq by rw [ak,qr aO]);clear aO ak
 go_wp2
 go_ret;exact⟨by rw [O];rfl,aM⟩
def SubK (S:Nat->Prop) (r:Row) (w:World) (e:Ending) (w':World):Prop:=∃ A' c,e=.returned (.slice A' r c)/\RowS w' S A' r/\Below w w w'
theorem ZgC {z:Act->World->Prop} {d:Option Tmp} (h:xA=x) (E:z (Q.put d xA) w):z (Q.put d x) w:=h ▸ E
theorem changeKey_any (O:Nat) (s:Sch) (z:Chg) (R:Nat) (cb:Nat) (W:TabS w S A s.tt) (U:RowS w S B z.old) (ac:z.old.length<=R) (Z:RowS w S A' z.new) (aa:z.new.length<=cb) (E:∀ b,S b->b<w) :
 Calls prog 133 #[sAgg s.vv A s.tt O,Zip z.tx B z.old R A' z.new cb] w (SubK S (keyC s z) w):=by
 replace U:=hI U;replace Z:=hI Z;replace ac:=hI ac;replace aa:=hI aa;replace W:=hI W;have K:=hI (show keyC s z=if 0<z.old.length then keyF s z.tx z.old else keyF s z.tx z.new from rfl);have H:=hI (((qa w w).alloc nR (.cells #[.int .i64 s.vv,.slice A s.tt O] 25)).alloc yb (.cells #[.int .i64 z.tx,.slice B z.old R,.slice A' z.new cb] 148))
 by_cases I:0<z.old.length
 .have hd:decide (0<z.old.length)=true:=(by simpa using I);rw [qr I] at K;clear I;go_enter func133,ntmps133
  go_wp2_with fail
  refine(ZaY O s (W.keep (qS H E)) (U.keep (qS H E)) ac (fun b ae=>by have:=E b ae;simp;omega)).mono ?_;rintro e af ⟨L,ab,rfl,F,N⟩;have M:=hI (H.trans (N.mono yd));replace F:=hI F;clear N
  go_wp2
  go_ret;refine⟨L,ab,by rw [K];rfl,?_,M⟩;rw [K];exact(U.keep (qS M E)).key s z.tx F
 have hd:decide (0<z.old.length)=false:=(by simpa using I);rw [qo I] at K;clear I;go_enter func133,ntmps133
 go_wp2_with fail
 refine(ZaY O s (W.keep (qS H E)) (Z.keep (qS H E)) aa (fun b ae=>by have:=E b ae;simp;omega)).mono ?_;rintro e af ⟨L,ab,rfl,F,N⟩;have M:=hI (H.trans (N.mono yd));replace F:=hI F;clear N
 go_wp2
 go_ret;refine⟨L,ab,by rw [K];rfl,?_,M⟩;rw [K];exact(Z.keep (qS M E)).key s z.tx F
theorem Zgs (ac:Nat) (s:Sch) (af:Chg) (aa:Nat) (cb:Nat) (au:TabS w S A s.tt) (ao:RowS w S B af.old) (aA:af.old.length<=aa) (ap:RowS w S A' af.new) (aD:af.new.length<=cb) (ae:∀ b,S b->b<w) :
 Calls prog 79 #[sAgg s.vv A s.tt ac,.int .i64 a,Zip af.tx B af.old aa A' af.new cb] w (ZH (ZE s a af) w):=by
 obtain⟨t,z,new⟩:=af;simp only at ao aA ap aD ⊢;have bF:=ao.len;have bH:=ap.len;replace ao:=hI ao;replace ap:=hI ap;replace aA:=hI aA;replace aD:=hI aD;replace au:=hI au;have aW:=hI (show ZE s a ⟨t,z,new⟩=(hasN s.tt t&&!(decide (z.length=0)&&decide (new.length=0))&&(decide (z.length=0)||ZB s t z a)&&(decide (new.length=0)||ZB s t new a)&&(decide (z.length=0)||decide (new.length=0)||(cmpR (keyF s t z) (keyF s t new) == 0))) from rfl);have aK:=hI (((qa w w).alloc nR (.cells #[.int .i64 s.vv,.slice A s.tt ac] 25)).alloc yb (.cells #[.int .i64 t,.slice B z aa,.slice A' new cb] 148));obtain⟨am,aN⟩:=yp ((!hasN s.tt.length t||(decide (z.length=0)&&decide (new.length=0))));obtain⟨ax,aI⟩:=yp ((decide (z.length=0)||ZB s t z a));obtain⟨fn,aP⟩:=yp ((decide (new.length=0)||ZB s t new a));have aU:=hI aI;have aY:=hI aP;have aB:=hI aN;have ay:=hI (show ZE s a ⟨t,z,new⟩=(!am&&ax&&fn&&(decide (z.length=0)||decide (new.length=0)||(cmpR (keyF s t z) (keyF s t new) == 0))) by rw [aW.out,<-aN,<-aI,<-aP];simp);clear aI aP aN aW;go_enter func79,ntmps79;go_upto_region 1 with fail
 obtain⟨ak,aC⟩:=yp ((w.alloc (.cells #[.int .i64 s.vv,.slice A s.tt ac] 25)).alloc (.cells #[.int .i64 t,.slice B z aa,.slice A' new cb] 148));have ba:=hI (show ak.cell? ⟨w,0,none⟩=some (.int .i64 s.vv)/\ak.cell? ⟨w,1,none⟩=some (.slice A s.tt ac)/\ak.cell? ⟨w+1,0,none⟩=some (.int .i64 t)/\ak.cell? ⟨w+1,1,none⟩=some (.slice B z aa)/\ak.cell? ⟨w+1,2,none⟩=some (.slice A' new cb) by rw [<-aC];exact⟨yb,yb,yb,yb,yb⟩);have bn:w.heap.size+1<ak:=(by rw [<-aC];simp);rw [aC] at aK ⊢;clear aC;obtain⟨L,R,K,O,M⟩:=ba.out
 go_cut [31] from 9 to 31 (fun b bj=>b=.bool am/\ak=bj)
 case first =>
  by_cases aw:t<0
  .have bB:decide (t<0)=true:=(by simpa using aw);have ar:=hI (show am=true by rw [<-aB.out,show hasN s.tt t=false by simp [hasN];omega];rfl);clear aw
   go_wp2_with fail
   go_meet;exact⟨by rw [ar.out],rfl⟩
  have bB:decide (t<0)=false:=by simpa using aw
  by_cases aE:(s.tt:Int)<=t
  .have bw:decide ((s.tt:Int)<=t)=true:=(by simpa using aE);have ar:=hI (show am=true by rw [<-aB.out,show hasN s.tt t=false by simp [hasN];omega];rfl);clear aw aE
   go_wp2_with fail
   go_meet;exact⟨by rw [ar.out],rfl⟩
  have bw:decide ((s.tt:Int)<=t)=false:=(by simpa using aE);have ar:=hI (show am=(decide (z.length=0)&&decide (new.length=0)) by rw [<-aB.out,show hasN s.tt t=true by simp [hasN];omega];rfl);clear aw aE
  by_cases E:z.length=0
  .have aL:((z:Int) == 0)=true:=(by rw [E];rfl);have bb:=hI (show am=decide (new.length=0) by rw [ar.out];simp [E]);clear E
   by_cases I:new.length=0
   .have aJ:((new:Int) == 0)=true:=(by rw [I];rfl);replace I:=hI I
    go_wp2_with fail
    go_meet;exact⟨by rw [bb.out];simp [I.out],rfl⟩
   have aJ:((new:Int) == 0)=false:=(by simpa using I);replace I:=hI I
   go_wp2_with fail
   go_meet;exact⟨by rw [bb.out];simp [I.out],rfl⟩
  have aL:((z:Int) == 0)=false:=(by simpa using E);replace E:=hI E
  go_wp2_with fail
  go_meet;exact⟨by rw [ar.out];simp [E.out],rfl⟩
 obtain⟨rfl,rfl⟩:=hcut;clear aB;cases am with
 | true =>
  have Z:=hI (show ZE s a ⟨t,z,new⟩=false by rw [ay.out];rfl)
  go_wp2_with fail
  go_ret;exact⟨by rw [Z.out];rfl,aK⟩
 | false =>
  go_wp2_with fail
  go_loopw [37] (fun i wr=>∃ k:Nat,k<=2/\i=.int .i64 k/\(1<=k->ax=true)/\(2<=k->fn=true)/\Below w w wr/\(wr.cell? ⟨w,0,none⟩=some (.int .i64 s.vv)/\wr.cell? ⟨w,1,none⟩=some (.slice A s.tt ac)/\wr.cell? ⟨w+1,0,none⟩=some (.int .i64 t)/\wr.cell? ⟨w+1,1,none⟩=some (.slice B z aa)/\wr.cell? ⟨w+1,2,none⟩=some (.slice A' new cb))/\w.heap.size+1<wr) (fun i _=>2 - (intOf i).toNat)
  case atStart=>exact⟨0,ya,rfl,fun h=>ya,fun h=>ya,aK,ba,bn⟩
  clear L R K O M;obtain⟨k,bG,rfl,aq,az,H,⟨L,R,K,O,M⟩,aT⟩:=hrel;replace aq:=hI aq;replace az:=hI az;replace H:=hI H
  by_cases bp:k=0
  .subst bp
   by_cases E:z.length=0
   .have aG:decide (0<z.length)=false:=qe ya;have aj:=hI (show ax=true by rw [<-aU.out];simp [E]);clear E
    go_wp2_with fail
    refine ZgC (xA:=Value.slice B z aa) (by first | rfl | kernel_rfl) ?_
    go_wp2_with fail
    go_roundw
    case rel=>exact⟨1,ya,rfl,fun _=>aj,fun h=>ya,H,⟨L,R,K,O,M⟩,aT⟩
    simp [intOf]
   have aG:decide (0<z.length)=true:=qt ya;have aj:=hI (show ax=ZB s t z a by rw [<-aU.out];simp [E]);clear E
   go_wp2_with fail
   refine ZgC (xA:=Value.slice B z aa) (by first | rfl | kernel_rfl) ?_
   go_wp2_with fail
   refine(fits_any A ac s t a B aa z S _ (au.keep (qS H ae)) (ao.keep (qS H ae)) (fun b ah=>yl (ae b ah))).mono ?_;rintro e bt ⟨rfl,F⟩;have av:=hI (H.trans (F.mono ya));have bu:=F.size;have aO:=c9K F L;have aH:=c9K F R;have aR:=c9K F K;have aF:=c9K F O;have aQ:=c9K F M;clear F L R K O M;rw [<-aj.out];cases ab:ax with
   | true =>
    replace ab:=hI ab
    go_wp2_with fail
    go_roundw
    case rel=>exact⟨1,ya,rfl,fun _=>ab,fun h=>ya,av,⟨aO,aH,aR,aF,aQ⟩,ya⟩
    simp [intOf]
   | false =>
    have Z:=hI (show ZE s a ⟨t,z,new⟩=false by rw [ay.out,ab];simp);clear ab
    go_wp2_with fail
    go_ret;exact⟨by rw [Z.out];rfl,av⟩
  by_cases bC:k=1
  .subst bC
   by_cases E:new.length=0
   .have aG:decide (0<new.length)=false:=qe ya;have aj:=hI (show fn=true by rw [<-aY.out];simp [E]);clear E
    go_wp2_with fail
    refine ZgC (xA:=Value.slice A' new cb) (by first | rfl | kernel_rfl) ?_
    go_wp2_with fail
    go_roundw
    case rel=>exact⟨2,ya,rfl,fun _=>aq ya,fun _=>aj,H,⟨L,R,K,O,M⟩,aT⟩
    simp [intOf]
   have aG:decide (0<new.length)=true:=qt ya;have aj:=hI (show fn=ZB s t new a by rw [<-aY.out];simp [E]);clear E
   go_wp2_with fail
   refine ZgC (xA:=Value.slice A' new cb) (by first | rfl | kernel_rfl) ?_
   go_wp2_with fail
   refine(fits_any A ac s t a A' cb new S _ (au.keep (qS H ae)) (ap.keep (qS H ae)) (fun b ah=>yl (ae b ah))).mono ?_;rintro e bt ⟨rfl,F⟩;have av:=hI (H.trans (F.mono ya));have bu:=F.size;have aO:=c9K F L;have aH:=c9K F R;have aR:=c9K F K;have aF:=c9K F O;have aQ:=c9K F M;clear F L R K O M;rw [<-aj.out];cases ab:fn with
   | true =>
    replace ab:=hI ab
    go_wp2_with fail
    go_roundw
    case rel=>exact⟨2,ya,rfl,fun _=>aq ya,fun _=>ab,av,⟨aO,aH,aR,aF,aQ⟩,ya⟩
    simp [intOf]
   | false =>
    have Z:=hI (show ZE s a ⟨t,z,new⟩=false by rw [ay.out,ab];simp);clear ab
    go_wp2_with fail
    go_ret;exact⟨by rw [Z.out];rfl,av⟩
  obtain rfl:k=2:=ya;have aX:=aq ya;have bi:=az ya;have aM:=hI (show ZE s a ⟨t,z,new⟩=(decide (z.length=0)||decide (new.length=0)||(cmpR (keyF s t z) (keyF s t new) == 0)) by rw [ay.out,aX,bi];rfl);clear aX bi aq az ay
  by_cases E:z.length=0
  .have aL:((z:Int) == 0)=true:=(by rw [E];rfl);have Z:=hI (show ZE s a ⟨t,z,new⟩=true by rw [aM.out];simp [E]);clear E
   go_wp2_with fail
   go_quiet (fail)
   go_wp2_with fail
   go_ret;exact⟨by rw [Z.out];rfl,below_drewN H _⟩
  have aL:((z:Int) == 0)=false:=by simpa using E
  by_cases I:new.length=0
  .have aJ:((new:Int) == 0)=true:=(by rw [I];rfl);have Z:=hI (show ZE s a ⟨t,z,new⟩=true by rw [aM.out];simp [I]);clear E I
   go_wp2_with fail
   go_quiet (fail)
   go_wp2_with fail
   go_ret;exact⟨by rw [Z.out];rfl,below_drewN H _⟩
  have aJ:((new:Int) == 0)=false:=(by simpa using I);have Z:=hI (show ZE s a ⟨t,z,new⟩=(cmpR (keyF s t z) (keyF s t new) == 0) by rw [aM.out];simp [E,I]);clear E I
  go_wp2_with fail
  have an:∀ b,S b->b<wr:=(fun b ah=>yl (ae b ah));have bf:=hI (au.keep (qS H ae));have aS:=hI (ao.keep (qS H ae));have bc:=hI (ap.keep (qS H ae))
  go_region_held3 (fun w'=>Below wr wr w'/\w'.cell? ⟨w,0,none⟩=some (.int .i64 s.vv)/\w'.cell? ⟨w,1,none⟩=some (.slice A s.tt ac)/\w'.cell? ⟨w+1,0,none⟩=some (.int .i64 t)/\w'.cell? ⟨w+1,1,none⟩=some (.slice B z aa)/\w'.cell? ⟨w+1,2,none⟩=some (.slice A' new cb))
   (first | exact⟨(qa _ _).drew,L,R,K,O,M⟩ | exact⟨ai,c9K ai L,c9K ai R,c9K ai K,c9K ai O,c9K ai M⟩ | exact⟨U,c9K U L,c9K U R,c9K U K,c9K U O,c9K U M⟩ | exact⟨N,c9K N L,c9K N R,c9K N K,c9K N O,c9K N M⟩)
   (first
    | (go_at_call 101;have bl:=N;clear bl;refine(ZaY (A:=A) ac s (a:=t) (B:=A') (n:=cb) (r:=new) (S:=S) (bf.keep (qS N an)) (bc.keep (qS N an)) aD (fun b ah=>qC (an b ah) N.size)).mono ?_;rintro e bo ⟨br,bm,rfl,aZ,bg⟩;have U:Below wr wr bo:=N.trans (bg.mono N.size))
    | (go_at_call 101;refine(ZaY (A:=A) ac s (a:=t) (B:=B) (n:=aa) (r:=z) (S:=S) (w:=wr.drew) (bf.keep (fun _ _=>rfl)) (aS.keep (fun _ _=>rfl)) aA an).mono ?_;rintro e bE ⟨bq,bD,rfl,bh,be⟩;have N:Below wr wr bE:=(qa _ wr).drew.trans be)
    | (go_at_call 131;refine(equal_any bq br bD bm (keyF s t z) (keyF s t new) S _ ((aS.keep (qS U an)).key s t bh) ((bc.keep (qS U an)).key s t aZ) (fun b ah=>qC (an b ah) U.size)).mono ?_;rintro e bk ⟨rfl,aV⟩;have ai:Below wr wr bk:=U.trans (aV.mono U.size)))
  have bz:=hI (H.trans (ai.mono ya));clear N U ai be bg aV bh aZ L R K O M
  go_wp2_with fail
  go_ret;exact⟨by rw [Z.out];rfl,bz⟩
structure Capt (w:World) (s:Sch) (A0:Option Addr) (c0':Nat) (t:Int) (gs gc:Nat):Prop where
 v:w.cell? ⟨gs,0,none⟩=some (.int .i64 s.vv)
 a:w.cell? ⟨gs,1,none⟩=some (.slice A0 s.tt c0')
 t:w.cell? ⟨gc,0,none⟩=some (.int .i64 t)
 ls:gs<w
 lc:gc<w
theorem Capt.keep {w w':World} {s:Sch} {K:Option Addr} {I:Nat} {t:Int} {E F n:Nat} (h:Capt w s K I t E F) (z:Below n w w') (H:E<n) (L:F<n):Capt w' s K I t E F :=
 ⟨c9Q z H h.v,c9Q z H h.a,c9Q z L h.t,qC h.ls z.size,qC h.lc z.size⟩
theorem Zfe {r:Row} {key:Row} (H:Capt w s A n a k m) (O:TabS w S A s.tt) (E:RowS w S B r) (I:r.length<=i) (K:RowS w S A' key) (F:∀ b,S b->b<w) :
 Calls prog 134 #[.slice B r i,.slice A' key j,.pointer (some ⟨k,0,none⟩),.pointer (some ⟨m,0,none⟩)] w (Zaz (cmpR (keyF s a r) key) w):=by
 have ae:=H.v;have ai:=H.a;have ah:=H.t;replace E:=hI E;replace K:=hI K;replace I:=hI I;replace O:=hI O;clear H;go_enter func134,ntmps134
 go_wp2_with fail
 refine(ZaY n s O E I F).mono ?_;rintro e af ⟨cb,aa,rfl,N,z⟩;replace z:=hI z;replace N:=hI N
 go_wp2_with fail
 refine(ZaU ((E.keep (qS z F)).key s a N) (K.keep (qS z F)) (fun b ab=>qC (F b ab) z.size)).mono ?_;rintro e w2 ⟨rfl,Z⟩;have ac:=hI (z.trans (Z.mono z.size));clear Z
 go_wp2
 go_ret;exact⟨rfl,ac⟩
def PairBel (n:Int) (b:Bool) (w:World) (e:Ending) (w':World):Prop:=e=.returned (.tuple #[.int .i64 n,.bool b])/\Below w w w'
theorem search_any {z:List Row} {key:Row} (p:Nat) (N:Capt w s A n a k m) (ak:TabS w S A s.tt) (U:RowsS w S B z) (aj:RowS w S A' key) (aa:∀ b,S b->b<w) (aF:p<=z) (ab:∀ cb,cb<z.length->(cmpR (keyF s a (z.getD cb [])) key<0↔cb<p)) :
 Calls prog 132 #[.slice B z i,.slice A' key j,.func (.func 134) #[] #[.pointer (some ⟨k,0,none⟩),.pointer (some ⟨m,0,none⟩)]] w (PairBel p (decide (p<z)&&(cmpR (keyF s a (z.getD p [])) key == 0)) w):=by
 have aH:=U.len;replace N:=hI N;replace U:=hI U;replace aj:=hI aj;replace ak:=hI ak;replace ab:=hI ab;go_enter func132,ntmps132
 go_wp2
 go_loopw [9,10] (fun af ay wr=>∃ t b:Nat,af=.int .i64 t/\ay=.int .i64 b/\t<=p/\p<=b/\b<=z/\Below w w wr) (fun af ay _=>(intOf ay).toNat - (intOf af).toNat)
 case atStart=>exact⟨0,z.length,rfl,rfl,ya,ya,ya,qa _ _⟩
 obtain⟨t,b,rfl,rfl,aI,ao,aC,am⟩:=hrel;have I:=hI am;have aE:=am.size;clear am;have aq:∀ b,S b->b<wr:=(fun b ao=>yl (aa b ao));have av:=hI (ak.keep (qS I aa));have ar:=hI (U.keep (qS I aa));have au:=hI (aj.keep (qS I aa));have ap:=hI (N.keep I N.ls N.lc)
 by_cases aD:t<b
 .obtain⟨h,aG⟩:=yp ((t+b) / 2);obtain⟨ax,az,rfl,aB,R,ac,L,F,H⟩:=ar.at_ (show h<z.length by omega);replace H:=hI H;replace F:=hI F;have K:=hI (ab h ya);generalize z.getD h []=row at L H F K
  go_wp2_with fail
  refine(Zfe ap av H F au aq).mono ?_;rintro e aw ⟨rfl,M⟩;have Z:=hI (I.trans (M.mono ya));clear M L
  by_cases E:cmpR (keyF s a row) key<0
  .have hd:decide (cmpR (keyF s a row) key<0)=true:=(by simpa using E);have aA:h<p:=K.1 E;clear K E;generalize cmpR (keyF s a row) key=ah at hd
   go_wp2
   go_roundw
   case rel=>exact⟨h+1,b,by go_num,rfl,ya,ya,ya,Z⟩
   simp [intOf];omega
  have hd:decide (cmpR (keyF s a row) key<0)=false:=(by simpa using E);have aA:p<=h:=(yl (mt K.2 E));clear K E;generalize cmpR (keyF s a row) key=ah at hd
  go_wp2
  go_roundw
  case rel=>exact⟨t,h,rfl,by go_num,ya,ya,ya,Z⟩
  simp [intOf];omega
 obtain rfl:t=p:=ya;obtain rfl:b=t:=by omega
 by_cases ae:b<z
 .obtain⟨ax,az,rfl,aB,R,ac,L,F,H⟩:=ar.at_ ae;replace H:=hI H;replace F:=hI F;obtain⟨row,an⟩:=yp (z.getD b []);obtain⟨ah,E⟩:=yp (cmpR (keyF s a row) key);have ai:=hI (show (decide (b<z)&&(cmpR (keyF s a (z.getD b [])) key == 0))=(ah == 0) by rw [an,E];simp [ae]);rw [an] at L H F;replace E:=hI E;clear an
  go_wp2_with fail
  refine(Zfe ap av H F au aq).mono ?_;rintro e aw ⟨rfl,M⟩;have Z:=hI (I.trans (M.mono ya));clear M L;rw [E];clear E
  go_wp2
  go_ret2;exact⟨by rw [ai];rfl,Z⟩
 have ai:=hI (show (decide (b<z)&&(cmpR (keyF s a (z.getD b [])) key == 0))=false by simp [ae])
 go_wp2
 go_ret2;exact⟨by rw [ai];rfl,I⟩
theorem run_append_full (w:World) (t L:TypeId) {i:TypeInfo} (size bytes:Nat) (N:P.underlying t=some (.slice g)) (ab:P.info? g=some i) (W:i.zero=some x)
 (af:i.size=size) (an:i.bytes=bytes) (aq:x.cells.size=size) (ar:0<size)
 (A:Option Addr) (n:Nat) (z:List Value) (I:z.length=n*size) (O:0<n->∃ b,A=some b/\∀ j u,z[j]?=some u->w.cell? (b.add j)=some u)
 (ad:Addr) (m c:Nat) (E:List Value) (K:E.length=m*size) (Z:∀ j u,E[j]?=some u->w.cell? (ad.add j)=some u)
 (au:0<m) (U:n+m<=maxLen) (ac:(n+m)*bytes<=140737488355328) :
 ∃ cap w',(Builtin.append_ #[t,t] L #[.slice A n n,.slice (some ad) m c]).run P w=.ok (.slice (some ⟨w,0,none⟩) (n+m) cap) w' /\
  w'.ownsRow w g size (.slice (some ⟨w,0,none⟩) (n+m) cap) (n+m) (z++E)/\w.grownBy w' none/\w'.heap.size=w.heap.size+1:=by
 subst af;subst an;have:n+m<=9223372036854775807:=(by simp only [maxLen] at U;omega);have R:(z++E).length=(n+m)*i.size:=(by rw [qi,I,K,Nat.add_mul]);have ae:=grownCap_ge w (n+m) n g;have ai:grownCap w (n+m) n g<=maxLen:=grownCap_le_maxLen w (n+m) n g U
 have am:(Builtin.append_ #[t,t] L #[.slice A n n,.slice (some ad) m c]).run P w=.ok (.slice (some ⟨w,0,none⟩) (n+m) (grownCap w (n+m) n g)) (w.drew.alloc (.cells (z.toArray++E.toArray++Builtin.zeroCells x.cells (grownCap w (n+m) n g - (n+m))) g)):=by
  cases A with
  | none =>
   have ap:n=0:=by
    rcases qF n with h | h
    .exact h
    obtain⟨b,H,_⟩:=O h;cases H
   subst ap;have M:z=[]:=qN (by simpa using I);subst M;have ao:=run_append_nil (P:=P) w t L g i x N ab W ad m c E K Z ya ya (by have aj:=ac;simp only [qx] at aj;omega);simpa using ao
  | some b =>
   refine run_append_grow (P:=P) w t L g i x N ab W b n n z I ?_ ad m c E K Z ya ya (growslice_fits ya ac);intro j u aa;rcases qF n with h | h
   .subst h;have M:z=[]:=qN (by simpa using I);subst M;simp at aa
   obtain⟨b',H,ah⟩:=O h;injection H with H;subst H;exact ah j u aa
 refine⟨_,_,am,⟨R,.inr ⟨w.heap.size,_,_,rfl,qp _,qb w.drew _,ae,ai,?_,?_⟩⟩,⟨rfl,rfl,rfl,yb,fun k ak _=>qd w.drew _ _ ak⟩,yb⟩
 .simp only [Array.size_append,List.size_toArray,size_zeroCells,aq,I,K,<-Nat.add_mul]
  congr 1
  omega
 simp only [Array.toList_append,qB];rw [<-qB,<-R];exact List.take_left
theorem ZaP {H:Array Oper} {rest:List Oper} {o:Oper} {F:Exit->Act->World->Prop} (I:o.guard=none) (s e:Operand) (t:TypeId)
 (aa:o.op=.call { callee:=.builtin .append,args:=#[s,e],argTypes:=#[t,t] })
  {i:TypeInfo}  (size bytes:Nat) (M:P.underlying t=some (.slice g)) (aj:P.info? g=some i) (W:i.zero=some x)
 (K:i.size=size) (ab:i.bytes=bytes) (am:x.cells.size=size) (Z:0<size)
 (A:Option Addr) (n:Nat) (z:List Value) (ai:Q.eval s=.slice A n n) (ao:z.length=n*size) (R:0<n->∃ b,A=some b/\∀ j u,z[j]?=some u->w.cell? (b.add j)=some u)
 (ad:Addr) (m c:Nat) (E:List Value) (ak:Q.eval e=.slice (some ad) m c) (ae:E.length=m*size) (ac:∀ j u,E[j]?=some u->w.cell? (ad.add j)=some u)
 (an:0<m) (U:n+m<=maxLen) (ap:(n+m)*bytes<=140737488355328)
 (h:∀ cap w',w'.ownsRow w g size (.slice (some ⟨w,0,none⟩) (n+m) cap) (n+m) (z++E)->w.grownBy w' none->w'.heap.size=w.heap.size+1->wpList P H F rest (Q.put o.dst (.slice (some ⟨w,0,none⟩) (n+m) cap)) w'):wpList P H F (o :: rest) Q w:=by
 refine wpList_plain I fun aq O=>?_;obtain⟨cap,w',af,L,ah,N⟩:=run_append_full (P:=P) w t o.type size bytes M aj W K ab am Z A n z ao R ad m c E ae ac an U ap;unfold Oper.wp execOp;simp only [aa,resolve,invoke,builtin,Sem.run_bind,Sem.run_pure,Result.andThen_ok,List.map_toArray,qL,Qn,ai,ak,af];exact O _ _ (h cap w' L ah N)
theorem run_append_none (t F:TypeId) {i:TypeInfo} (E:P.underlying t=some (.slice g)) (z:P.info? g=some i)
 (A:Option Addr) (n:Nat) (B:Option Addr) (c:Nat) :
 (Builtin.append_ #[t,t] F #[.slice A n n,.slice B 0 c]).run P w=.ok (.slice A n n) w:=by
 cases A<;>cases B<;>simp [Builtin.append_,run_underlying E,sizeOf,typeInfo,z,Builtin.lenOf,Builtin.firstCells,storeCells,loadCells,loadCellsFrom]
theorem Zam {z:Array Oper} {rest:List Oper} {o:Oper} {e:Exit->Act->World->Prop} (E:o.guard=none) (s x:Operand) (t:TypeId)
 (F:o.op=.call { callee:=.builtin .append,args:=#[s,x],argTypes:=#[t,t] })
  {i:TypeInfo} (K:P.underlying t=some (.slice g)) (M:P.info? g=some i)
  (n:Nat) (L:Q.eval s=.slice A n n)  (c:Nat) (N:Q.eval x=.slice B 0 c)
 (h:wpList P z e rest (Q.put o.dst (.slice A n n)) w):wpList P z e (o :: rest) Q w:=by
 refine wpList_plain E fun O I=>?_;have H:=run_append_none (P:=P) (w:=w) t o.type K M A n B c;unfold Oper.wp;simp [execOp,F,resolve,invoke,builtin,L,N,H,Result.andThen];exact I _ _ h
def RV (w:World) (S:Nat->Prop) (v:Value) (r:Row):Prop:=∃ A c,v=.slice A r c/\r.length<=c/\RowS w S A r
def RVs (w:World) (S:Nat->Prop):List Value->List Row->Prop
 | [],[]=>True
 | v :: vs,r :: z=>RV w S v r/\RVs w S vs z
 | _,_=>False
section
variable {w w':World} {S S':Nat->Prop}
theorem RV.keep {v:Value} {r:Row} (h:RV w S v r) (E:Same S w w'):RV w' S v r:=by
 obtain⟨A,c,H,z,F⟩:=h;exact⟨A,c,H,z,F.keep E⟩
theorem RV.more {v:Value} {r:Row} (h:RV w S v r) (F:∀ b,S b->S' b):RV w S' v r:=by
 obtain⟨A,c,z,E,H⟩:=h;exact⟨A,c,z,E,H.more F⟩
theorem RVs.len:∀ {vs:List Value} {z:List Row},RVs w S vs z->vs.length=z.length
 | [],[],_=>rfl
 | _ :: vs,_ :: z,h=>by simp [RVs.len h.2]
 | [],_ :: _,h=>h.elim
 | _ :: _,[],h=>h.elim
theorem RVs.keep:∀ {vs:List Value} {z:List Row},RVs w S vs z->Same S w w'->RVs w' S vs z
 | [],[],_,_=>trivial
 | _ :: vs,_ :: z,h,E=>⟨h.1.keep E,RVs.keep h.2 E⟩
 | [],_ :: _,h,_=>h.elim
 | _ :: _,[],h,_=>h.elim
theorem RVs.more:∀ {vs:List Value} {z:List Row},RVs w S vs z->(∀ b,S b->S' b)->RVs w S' vs z
 | [],[],_,_=>trivial
 | _ :: vs,_ :: z,h,E=>⟨h.1.more E,RVs.more h.2 E⟩
 | [],_ :: _,h,_=>h.elim
 | _ :: _,[],h,_=>h.elim
theorem RVs.append:∀ {vs:List Value} {z:List Row} {F:List Value} {E:List Row},RVs w S vs z->RVs w S F E->RVs w S (vs++F) (z++E)
 | [],[],_,_,_,h=>h
 | _ :: vs,_ :: z,_,_,h,H=>⟨h.1,RVs.append h.2 H⟩
 | [],_ :: _,_,_,h,_=>h.elim
 | _ :: _,[],_,_,h,_=>h.elim
theorem RVs.take:∀ {vs:List Value} {z:List Row} (k:Nat),RVs w S vs z->RVs w S (vs.take k) (z.take k)
 | _,_,0,_=>by simp [RVs]
 | [],[],k+1,_=>by simp [RVs]
 | _ :: vs,_ :: z,k+1,h=>⟨h.1,RVs.take k h.2⟩
 | [],_ :: _,_+1,h=>h.elim
 | _ :: _,[],_+1,h=>h.elim
theorem RVs.drop:∀ {vs:List Value} {z:List Row} (k:Nat),RVs w S vs z->RVs w S (vs.drop k) (z.drop k)
 | _,_,0,h=>by simpa using h
 | [],[],k+1,_=>by simp [RVs]
 | _ :: vs,_ :: z,k+1,h=>RVs.drop k h.2
 | [],_ :: _,_+1,h=>h.elim
 | _ :: _,[],_+1,h=>h.elim
theorem RVs.one:∀ {vs:List Value} {E:List Row},RVs w S vs E->∀ u ∈ vs,u.oneCell'=true
 | [],[],_,u,z=>by simp at z
 | v :: vs,_ :: E,h,u,z=>by
  rcases Qs.1 z with rfl | z
  .obtain⟨A,c,rfl,_⟩:=h.1;rfl
  exact RVs.one h.2 u z
 | [],_ :: _,h,_,_=>h.elim
 | _ :: _,[],h,_,_=>h.elim
theorem Zlq:∀ (F:List Row) (b z:Nat),Dat.Ha w S (F.map Zy) b z->∃ vs,RVs w S vs F/\∀ j u,vs[j]?=some u->yr w b (z+j) u
 | [],_,_,_=>⟨[],trivial,fun j u E=>by simp at E⟩
 | r :: F,b,z,h=>by
  simp only [qL,Dat.Ha,Zy,Dat.Held,qg,Dat.size] at h;obtain⟨⟨A',c,K,O,L,N⟩,H⟩:=h;obtain⟨vs,M,I⟩:=Zlq F b (z+1) H;refine⟨.slice A' r c :: vs,⟨⟨A',c,rfl,O,⟨by simpa using L,by simpa using N⟩⟩,M⟩,fun j u E=>?_⟩;cases j with
  | zero=>simp only [List.getElem?_cons_zero,Option.some.injEq] at E;subst E;exact K
  | succ j =>
   rw [show z+(j+1)=z+1+j by omega];exact I j u (by simpa using E)
theorem Zlo:∀ (vs:List Value) (E:List Row) (b z:Nat),RVs w S vs E->(∀ j u,vs[j]?=some u->yr w b (z+j) u)->Dat.Ha w S (E.map Zy) b z
 | [],[],_,_,_,_=>by simp [Dat.Ha]
 | v :: vs,r :: E,b,z,h,H=>by
  obtain⟨⟨A',c,e,M,F⟩,K⟩:=h;have I:=H 0 v rfl;subst e;simp only [qL,Dat.Ha,Zy,Dat.Held,qg,Dat.size];refine⟨⟨A',c,I,M,by simpa using F.1,by simpa using F.2⟩,Zlo vs E b (z+1) K (fun j u L=>?_)⟩;rw [show z+1+j=z+(j+1) by omega];exact H (j+1) u (by simpa using L)
 | [],_ :: _,_,_,h,_=>h.elim
 | _ :: _,[],_,_,h,_=>h.elim
theorem RowsS.vals {A:Option Addr} {z:List Row} (h:RowsS w S A z):∃ vs,RVs w S vs z/\(0<z.length->∃ b E,A=some ⟨b,E,none⟩/\S b/\∀ j u,vs[j]?=some u->yr w b (E+j) u):=by
 rcases qF z.length with F | F
 .have:z=[]:=qN F;subst this;exact⟨[],trivial,fun h=>by simp at h⟩
 obtain⟨b,E,e,K,L⟩:=h.2 (by simpa using F);obtain⟨vs,I,H⟩:=Zlq z b E L;exact⟨vs,I,fun _=>⟨b,E,e,K,H⟩⟩
theorem RowsS.of_vals {A:Option Addr} {z:List Row} {vs:List Value} (L:z.length<=5864062014805) (h:RVs w S vs z) (I:0<z.length->∃ b E,A=some ⟨b,E,none⟩/\S b/\∀ j u,vs[j]?=some u->yr w b (E+j) u):RowsS w S A z:=by
 refine⟨by rw [Ze (n:=24) (fun _=>rfl)];omega,fun K=>?_⟩;obtain⟨b,E,e,H,F⟩:=I (by simpa using K);exact⟨b,E,e,H,Zlo vs z b E h F⟩
end
mutual
def Dat.Vs (w:World) (S:Nat->Prop):Dat->List Value->Prop
 | .lit v,vs=>vs=[v]/\ZkK v
 | .slice l,vs=>∃ A c,vs=[.slice A l c]/\l.length<=c/\Sl w S A l
 | .agg l,vs=>Dat.Va w S l vs
def Dat.Va (w:World) (S:Nat->Prop):List Dat->List Value->Prop
 | [],vs=>vs=[]
 | d :: r,vs=>∃ a b,vs=a++b/\Dat.Vs w S d a/\Dat.Va w S r b
end
mutual
def Dat.Plain:Dat->Prop
 | .lit v=>v.oneCell'=true
 | .slice _=>True
 | .agg l=>Dat.Pa l
def Dat.Pa:List Dat->Prop
 | []=>True
 | d :: r=>Dat.Plain d/\Dat.Pa r
end
section
variable {w w':World} {S S':Nat->Prop}
mutual
theorem Dat.Vs.keep (z:Same S w w'):∀ (d:Dat) (vs:List Value),Dat.Vs w S d vs->Dat.Vs w' S d vs
 | .lit v,vs,h=>by unfold Dat.Vs at h ⊢;exact h
 | .slice l,vs,h=>by
  unfold Dat.Vs at h ⊢;obtain⟨A,c,H,E,F⟩:=h;exact⟨A,c,H,E,F.keep z⟩
 | .agg l,vs,h=>by unfold Dat.Vs at h ⊢;exact Dat.Va.keep z l vs h
theorem Dat.Va.keep (z:Same S w w'):∀ (l:List Dat) (vs:List Value),Dat.Va w S l vs->Dat.Va w' S l vs
 | [],vs,h=>by unfold Dat.Va at h ⊢;exact h
 | d :: r,vs,h=>by
  unfold Dat.Va at h ⊢;obtain⟨a,b,e,F,E⟩:=h;exact⟨a,b,e,Dat.Vs.keep z d a F,Dat.Va.keep z r b E⟩
end
mutual
theorem Dat.Vs.more (z:∀ b,S b->S' b):∀ (d:Dat) (vs:List Value),Dat.Vs w S d vs->Dat.Vs w S' d vs
 | .lit v,vs,h=>by unfold Dat.Vs at h ⊢;exact h
 | .slice l,vs,h=>by
  unfold Dat.Vs at h ⊢;obtain⟨A,c,H,E,F⟩:=h;exact⟨A,c,H,E,F.more z⟩
 | .agg l,vs,h=>by unfold Dat.Vs at h ⊢;exact Dat.Va.more z l vs h
theorem Dat.Va.more (z:∀ b,S b->S' b):∀ (l:List Dat) (vs:List Value),Dat.Va w S l vs->Dat.Va w S' l vs
 | [],vs,h=>by unfold Dat.Va at h ⊢;exact h
 | d :: r,vs,h=>by
  unfold Dat.Va at h ⊢;obtain⟨a,b,e,F,E⟩:=h;exact⟨a,b,e,Dat.Vs.more z d a F,Dat.Va.more z r b E⟩
end
mutual
theorem Dat.Vs.len:∀ (d:Dat) (vs:List Value),Dat.Vs w S d vs->vs.length=d.size
 | .lit v,vs,h=>by unfold Dat.Vs at h;rw [h.1];simp [Dat.size]
 | .slice l,vs,h=>by
  unfold Dat.Vs at h;obtain⟨A,c,z,_⟩:=h;rw [z];simp [Dat.size]
 | .agg l,vs,h=>by unfold Dat.Vs at h;simp only [Dat.size];exact Dat.Va.len l vs h
theorem Dat.Va.len:∀ (l:List Dat) (vs:List Value),Dat.Va w S l vs->vs.length=Dat.sizes l
 | [],vs,h=>by unfold Dat.Va at h;rw [h];simp [Dat.sizes]
 | d :: r,vs,h=>by
  unfold Dat.Va at h;obtain⟨a,b,e,z,E⟩:=h;rw [e,qi,Dat.Vs.len d a z,Dat.Va.len r b E];simp [Dat.sizes]
end
mutual
theorem Dat.Vs.one:∀ (d:Dat) (vs:List Value),d.Plain->Dat.Vs w S d vs->∀ u ∈ vs,u.oneCell'=true
 | .lit v,vs,E,h,u,z=>by
  unfold Dat.Vs at h;unfold Dat.Plain at E;rw [h.1] at z;rw [qy] at z;rw [z];exact E
 | .slice l,vs,E,h,u,z=>by
  unfold Dat.Vs at h;obtain⟨A,c,F,_⟩:=h;rw [F,qy] at z;rw [z];rfl
 | .agg l,vs,E,h,u,z=>by
  unfold Dat.Vs at h;unfold Dat.Plain at E;exact Dat.Va.one l vs E h u z
theorem Dat.Va.one:∀ (l:List Dat) (vs:List Value),Dat.Pa l->Dat.Va w S l vs->∀ u ∈ vs,u.oneCell'=true
 | [],vs,_,h,u,z=>by unfold Dat.Va at h;rw [h] at z;simp at z
 | d :: r,vs,E,h,u,z=>by
  unfold Dat.Va at h;unfold Dat.Pa at E;obtain⟨a,b,e,F,H⟩:=h;rw [e,qH] at z;rcases z with z | z
  .exact Dat.Vs.one d a E.1 F u z
  exact Dat.Va.one r b E.2 H u z
end
def CellsAt (w:World) (b z:Nat) (vs:List Value):Prop:=∀ j u,vs[j]?=some u->w.cell? ⟨b,z+j,none⟩=some u
theorem CellsAt.left {b z:Nat} {x y:List Value} (h:CellsAt w b z (x++y)):CellsAt w b z x:=fun j u E=>h j u (by rw [List.getElem?_append_left (qR.1 E).1];exact E)
theorem CellsAt.right {b z:Nat} {x y:List Value} (h:CellsAt w b z (x++y)):CellsAt w b (z+x.length) y:=fun j u E=>by
 have:=h (x.length+j) u (by rw [List.getElem?_append_right ya];simpa using E);rwa [show z+(x.length+j)=z+x.length+j by omega] at this
theorem CellsAt.join {b z:Nat} {x y:List Value} (h:CellsAt w b z x) (H:CellsAt w b (z+x.length) y):CellsAt w b z (x++y):=fun j u E=>by
 rcases qv j x.length with F | F
 .rw [List.getElem?_append_left F] at E;exact h j u E
 rw [List.getElem?_append_right F] at E;have:=H (j - x.length) u E;rwa [show z+x.length+(j - x.length)=z+j by omega] at this
theorem CellsAt.add {b z:Nat} {x:List Value} (h:CellsAt w b z x):∀ j u,x[j]?=some u->w.cell? ((⟨b,z,none⟩:Addr).add j)=some u:=fun j u E=>by rw [add_none];exact h j u E
theorem CellsAt.keep {b z:Nat} {x:List Value} (h:CellsAt w b z x) (F:w'.heap[b]?=w.heap[b]?):CellsAt w' b z x:=fun j u E=>(ql (w:=w) (a:=⟨b,z+j,none⟩) F).trans (h j u E)
mutual
theorem held_cells:∀ (d:Dat) (b E:Nat),Dat.Held w S d b E->∃ vs,Dat.Vs w S d vs/\CellsAt w b E vs
 | .lit v,b,E,h=>by
  unfold Dat.Held at h;refine⟨[v],by unfold Dat.Vs;exact⟨rfl,h.2⟩,fun j u z=>?_⟩;cases j with
  | zero=>simp only [List.getElem?_cons_zero,Option.some.injEq] at z;subst z;exact h.1
  | succ j=>simp at z
 | .slice l,b,E,h=>by
  unfold Dat.Held at h;obtain⟨A,c,I,F,K,H⟩:=h;refine⟨[.slice A l c],by unfold Dat.Vs;exact⟨A,c,rfl,F,K,H⟩,fun j u z=>?_⟩;cases j with
  | zero=>simp only [List.getElem?_cons_zero,Option.some.injEq] at z;subst z;exact I
  | succ j=>simp at z
 | .agg l,b,E,h=>by unfold Dat.Held at h;unfold Dat.Vs;exact heldAll_cells l b E h
theorem heldAll_cells:∀ (l:List Dat) (b z:Nat),Dat.Ha w S l b z->∃ vs,Dat.Va w S l vs/\CellsAt w b z vs
 | [],b,z,_=>⟨[],by unfold Dat.Va;rfl,fun j u L=>by simp at L⟩
 | d :: r,b,z,h=>by
  unfold Dat.Ha at h;obtain⟨E,F,I⟩:=held_cells d b z h.1;obtain⟨H,M,K⟩:=heldAll_cells r b _ h.2;refine⟨E++H,by unfold Dat.Va;exact⟨E,H,rfl,F,M⟩,I.join ?_⟩;rw [Dat.Vs.len d E F];exact K
end
mutual
theorem held_of_cells:∀ (d:Dat) (vs:List Value) (b z:Nat),Dat.Vs w S d vs->CellsAt w b z vs->Dat.Held w S d b z
 | .lit v,vs,b,z,h,E=>by
  unfold Dat.Vs at h;unfold Dat.Held;exact⟨E 0 v (by rw [h.1];rfl),h.2⟩
 | .slice l,vs,b,z,h,E=>by
  unfold Dat.Vs at h;unfold Dat.Held;obtain⟨A,c,I,F,K,H⟩:=h;exact⟨A,c,E 0 _ (by rw [I];rfl),F,K,H⟩
 | .agg l,vs,b,z,h,E=>by unfold Dat.Vs at h;unfold Dat.Held;exact heldAll_of_cells l vs b z h E
theorem heldAll_of_cells:∀ (l:List Dat) (vs:List Value) (b z:Nat),Dat.Va w S l vs->CellsAt w b z vs->Dat.Ha w S l b z
 | [],vs,b,z,_,_=>by unfold Dat.Ha;trivial
 | d :: r,vs,b,z,h,F=>by
  unfold Dat.Va at h;unfold Dat.Ha;obtain⟨x,y,e,E,H⟩:=h;subst e;refine⟨held_of_cells d x b z E F.left,heldAll_of_cells r y b _ H ?_⟩;have:=F.right;rwa [Dat.Vs.len d x E] at this
end
theorem Sl.vals {l:List Dat} (h:Sl w S A l):∃ vs,Dat.Va w S l vs/\(0<l.length->∃ b z,A=some ⟨b,z,none⟩/\S b/\CellsAt w b z vs):=by
 rcases qF l.length with E | E
 .have:l=[]:=qN E;subst this;exact⟨[],by unfold Dat.Va;rfl,fun h=>by simp at h⟩
 obtain⟨b,z,e,I,K⟩:=h.2 E;obtain⟨vs,H,F⟩:=heldAll_cells l b z K;exact⟨vs,H,fun _=>⟨b,z,e,I,F⟩⟩
theorem Sl.of_vals {A:Option Addr} {l:List Dat} {vs:List Value} (E:Dat.bytesAll l<=140737488355328) (h:Dat.Va w S l vs) (I:0<l.length->∃ b z,A=some ⟨b,z,none⟩/\S b/\CellsAt w b z vs):Sl w S A l :=
 ⟨E,fun K=>by
  obtain⟨b,z,e,H,F⟩:=I K;exact⟨b,z,e,H,heldAll_of_cells l vs b z h F⟩⟩
abbrev Qb:=@Sl.of_vals
theorem Zu:∀ {l l':List Dat} {vs z:List Value},Dat.Va w S l vs->Dat.Va w S l' z->Dat.Va w S (l++l') (vs++z)
 | [],_,_,_,h,E=>by unfold Dat.Va at h;rw [h];exact E
 | d :: r,l',vs,z,h,E=>by
  unfold Dat.Va at h;obtain⟨a,b,e,F,H⟩:=h;rw [List.cons_append];unfold Dat.Va;exact⟨a,b++z,by rw [e,qB],F,Zu H E⟩
theorem Zw {d:Dat} (h:Dat.Vs w S d X):Dat.Va w S [d] X:=by
 unfold Dat.Va;exact⟨X,[],yb,h,by unfold Dat.Va;rfl⟩
theorem ZdK:∀ {l l':List Dat} {vs:List Value},Dat.Va w S (l++l') vs->∃ a b,vs=a++b/\Dat.Va w S l a/\Dat.Va w S l' b
 | [],_,vs,h=>⟨[],vs,yb,by unfold Dat.Va;rfl,h⟩
 | d :: r,l',vs,h=>by
  rw [List.cons_append] at h;unfold Dat.Va at h;obtain⟨a,b,e,F,z⟩:=h;obtain⟨x,y,I,H,E⟩:=ZdK z;exact⟨a++x,y,by rw [e,I,qB],by unfold Dat.Va;exact⟨a,x,rfl,F,H⟩,E⟩
theorem Zbo:∀ {l:List Dat},(∀ d ∈ l,d.size=n)->Dat.sizes l=l.length*n
 | [],_=>by simp [Dat.sizes]
 | d :: r,h=>by
  have z:=h d yb;have E:=Zbo (l:=r) (fun x F=>h x (by simp [F]));simp only [Dat.sizes,qK,Nat.succ_mul,z,E];omega
theorem ZcE {α:Type} {enc:α->Dat} (h:∀ a,(enc a).size=n) (l:List α):Dat.sizes (l.map enc)=l.length*n:=by
 rw [Zbo (n:=n) (fun d hd=>by obtain⟨a,_,rfl⟩:=qO.1 hd;exact h a),qg]
theorem ZbQ {α:Type} {enc:α->Dat} (I:∀ a,(enc a).size=n) {l:List α} (h:Dat.Va w S (l.map enc) X) (k:Nat) (E:k<=l):Dat.Va w S ((l.take k).map enc) (X.take (k*n))/\Dat.Va w S ((l.drop k).map enc) (X.drop (k*n)):=by
 rw [<-List.take_append_drop k l,qm] at h;obtain⟨a,b,e,z,H⟩:=ZdK h;have F:a.length=k*n:=(by rw [Dat.Va.len _ a z,ZcE I,qG,Nat.min_eq_left E]);subst e;rw [<-F,List.take_left,List.drop_left];exact⟨z,H⟩
end
def OwnD (w:World) (base:Nat) (e:TypeId) (size:Nat) (S:Nat->Prop) (v:Value) (l:List Dat):Prop :=
 ∃ vals,w.ownsRow base e size v l vals/\Dat.Va w S l vals/\∀ b,S b->b<w/\some b≠v.ownBlock
section
variable {w w':World} {S S':Nat->Prop} {base size:Nat} {e:TypeId} {v v':Value} {l:List Dat}
theorem OwnD.nil_ (z:∀ b,S b->b<w):OwnD w base e size S (.slice none 0 0) [] :=
 ⟨[],qV _ _ _ _,by unfold Dat.Va;rfl,fun b E=>⟨z b E,by simp [Value.ownBlock]⟩⟩
abbrev Qg:=@OwnD.nil_
theorem Zo {n:Nat} {xs:List Value} (h:w.ownsRow base e size v n xs) (E:∀ g,v.ownBlock=some g->w'.heap[g]?=w.heap[g]?):w'.ownsRow base e size v n xs:=by
 refine⟨h.1,?_⟩;rcases h.2 with I | ⟨g,cap,z,rfl,H,F,K⟩
 .exact .inl I
 exact .inr ⟨g,cap,z,rfl,H,(E g rfl).trans F,K⟩
theorem OwnD.keep (h:OwnD w base e size S v l) (L:w.heap.size<=w') (F:Same S w w') (H:∀ g,v.ownBlock=some g->w'.heap[g]?=w.heap[g]?):OwnD w' base e size S v l:=by
 obtain⟨vals,K,I,z⟩:=h;exact⟨vals,Zo K H,Dat.Va.keep F l vals I,fun b E=>⟨qC (z b E).1 L,(z b E).2⟩⟩
theorem ZN {n:Nat} {xs:List Value} (h:w.ownsRow base e size v n xs) {g:Nat} (z:v.ownBlock=some g):g<w:=by
 obtain⟨_,F,E⟩:=Zae h z;exact Zb E
theorem OwnD.below (h:OwnD w base e size S v l) (z:Below w w w'):OwnD w' base e size S v l:=by
 obtain⟨vals,E,I,F⟩:=h;exact OwnD.keep ⟨vals,E,I,F⟩ z.size (fun b H=>z.block b (F b H).1) (fun g K=>z.block g (ZN E K))
theorem OwnD.more (h:OwnD w base e size S v l) (F:∀ b,S b->S' b) (z:∀ b,S' b->b<w/\some b≠v.ownBlock):OwnD w base e size S' v l:=by
 obtain⟨vals,H,E,I⟩:=h;exact⟨vals,H,Dat.Va.more F l vals E,z⟩
theorem Zfo {vals H:List Value} {d:Dat} {g cap n:Nat} (M:Dat.Va w S l vals) (hd:Dat.Vs w S d H) (E:∀ b,S b->b<w/\some b≠v.ownBlock) (R:n=l.length+1)
 (L:w'.ownsRow base e size (.slice (some ⟨g,0,none⟩) n cap) n (vals++H)) (K:w.grownBy w' v.ownBlock) (F:v.ownBlock=some g\/g=w.heap.size):OwnD w' base e size S (.slice (some ⟨g,0,none⟩) n cap) (l++[d]):=by
 have I:Same S w w':=fun b z=>K.block b (E b z).1 (E b z).2;refine⟨vals++H,by rw [qi,List.length_singleton,<-R];exact L,Zu (Dat.Va.keep I _ _ M) (Zw (Dat.Vs.keep I _ _ hd)),fun b z=>⟨qC (E b z).1 K.size,?_⟩⟩;intro N;have O:b=g:=(by simpa [Value.ownBlock] using N);rcases F with F | F
 .exact(E b z).2 (by rw [F,O])
 have:=(E b z).1;omega
theorem OwnD.slice {A:Option Addr} {n c:Nat} (h:OwnD w base e size S (.slice A n c) l) (I:Dat.bytesAll l<=140737488355328) (L:∀ b,S b->S' b) (M:∀ g,base<=g->g<w->(Value.slice A n c).ownBlock=some g->S' g):n=l.length/\n<=c/\Sl w S' A l:=by
 obtain⟨vals,E,K,Z⟩:=h
 have U:n=l.length:=by
  rcases E.2 with ⟨z,F⟩ | ⟨g,cap,W,z,_⟩
  .injection z with _ aa _;omega
  injection z
 subst U;refine⟨rfl,Zas E rfl,Qb I (Dat.Va.more L l vals K) (fun F=>?_)⟩;obtain⟨g,z,O,H,R⟩:=Zad E F;exact⟨g,0,z,M g O H (by rw [z];rfl),fun j u N=>by rw [qx];exact R j u N⟩
end
structure Fr (X:Nat->Prop) (w w':World):Prop where
 os:w'.os=w.os
 tape:w'.tape=w.tape
 output:w'.output=w.output
 size:w.heap.size<=w'
 block:∀ b,b<w.heap.size->¬ X b->w'.heap[b]?=w.heap[b]?
section
variable {X Y:Nat->Prop} {w w' w'':World}
theorem Fr.refl (X:Nat->Prop) (w:World):Fr X w w:=⟨rfl,rfl,rfl,qp _,fun _ _ _=>rfl⟩
abbrev Qa:=@Fr.refl
theorem Fr.trans (h:Fr X w w') (z:Fr Y w' w'') (I:∀ b,b<w.heap.size->Y b->X b):Fr X w w'' :=
 ⟨z.os.trans h.os,z.tape.trans h.tape,z.output.trans h.output,qD h.size z.size,fun b E F=>(z.block b (qC E h.size) (fun H=>F (I b E H))).trans (h.block b E F)⟩
theorem Fr.of_below (h:Below w w w'):Fr X w w':=⟨h.os,h.tape,h.output,h.size,fun b z _=>h.block b z⟩
abbrev qW:=@Fr.of_below
theorem Fr.of_grown {r:Option Nat} (h:w.grownBy w' r) (E:∀ b,b<w.heap.size->some b=r->X b):Fr X w w':=⟨h.os,h.tape,h.output,h.size,fun b z F=>h.block b z (fun e=>F (E b z e))⟩
abbrev Qc:=@Fr.of_grown
theorem Fr.mono (h:Fr X w w') (E:∀ b,b<w.heap.size->X b->Y b):Fr Y w w':=⟨h.os,h.tape,h.output,h.size,fun b z F=>h.block b z (fun H=>F (E b z H))⟩
theorem Fr.below {n:Nat} (h:Fr X w w') (F:n<=w) (z:∀ b,b<n->¬ X b):Below n w w':=⟨h.os,h.tape,h.output,h.size,fun b E=>h.block b ya (z b E)⟩
theorem Fr.alloc (h:Fr X w w') (o:Obj):Fr X w (w'.alloc o):=h.trans (Y:=fun _=>False) (qW ((qa _ _).alloc nR o)) (fun _ _ h=>h.elim)
theorem Fr.drewN (h:Fr X w w') (n:Nat):Fr X w (w'.drewN n):=⟨h.os,h.tape,h.output,h.size,h.block⟩
theorem Fr.drew (h:Fr X w w'):Fr X w w'.drew:=⟨h.os,h.tape,h.output,h.size,h.block⟩
theorem Fr.same {S:Nat->Prop} (h:Fr X w w') (z:∀ b,S b->b<w/\¬ X b):Same S w w':=fun b E=>h.block b (z b E).1 (z b E).2
theorem Fr.cell (h:Fr X w w') {b o:Nat} (E:b<w) (z:¬ X b):w'.cell? ⟨b,o,none⟩=w.cell? ⟨b,o,none⟩:=ql (h.block b E z)
theorem Fr.setCell (h:Fr X w w') {g o:Nat} (v:Value) (F:g<w->X g):Fr X w (w'.setCell ⟨g,o,none⟩ v) :=
 ⟨h.os,h.tape,h.output,by simpa using h.size,fun b E z=>(qc w' ⟨g,o,none⟩ v b (fun e=>by subst e;exact z (F E))).trans (h.block b E z)⟩
end
end Go.Proofs.YtjadnfodboepeaaGreat
