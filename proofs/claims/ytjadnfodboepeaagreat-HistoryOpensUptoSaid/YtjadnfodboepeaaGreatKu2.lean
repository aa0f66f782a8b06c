import Derived.Test.YtjadnfodboepeaaGreatKn0
import Derived.Deep.LoopGhost
set_option linter.all false
set_option maxRecDepth 100000
set_option maxHeartbeats 8000000
namespace Go.Proofs.YtjadnfodboepeaaGreat.Cut
open Tryz
open Go.RowKit
variable {w:World} {n:Nat} {A:Option Addr} {S:Nat->Prop} {a:Int} {l p:List Int}
theorem standsB_iff {E:List (List Stp)} :Zdv E l p n a=true↔Zgn E l p n a:=by
 unfold Zdv Zgn Zcr;simp
theorem Zjm {z:List (List Stp)} {s:Stp} (h:Zcg z l p z true s):ZjP z l p s:=by
 rcases h with ⟨h,_⟩ | ⟨_,F,E⟩
 .cases h
 exact⟨F,E⟩
theorem least_none {z:List (List Stp)} {s:Stp} (h:Zcg z l p z false s):∀ i,i<z.length->¬ p.getD i 0<l.getD i 0:=by
 rcases h with ⟨_,h⟩ | ⟨h,_⟩
 .exact h
 cases h
structure CloseMem (B g1 g2:Nat) (w wr:World) (o p:List Int):Prop where
 b1:B<=g1
 b2:g1<g2
 o1:Own wr g1 o
 o2:Own wr g2 p
 bel:Below B w wr
section
variable {B g1 g2:Nat} {w wr w':World} {o p:List Int}
theorem CloseMem.g1lt (h:CloseMem B g1 g2 w wr o p):g1<wr:=h.o1.lt
theorem CloseMem.g2lt (h:CloseMem B g1 g2 w wr o p):g2<wr:=h.o2.lt
theorem CloseMem.below (h:CloseMem B g1 g2 w wr o p) (z:Below wr wr w'):CloseMem B g1 g2 w w' o p :=
 ⟨h.b1,h.b2,h.o1.keep (z.block _ h.o1.lt),h.o2.keep (z.block _ h.o2.lt),h.bel.trans (z.mono (ym h.g1lt h.b1))⟩
theorem CloseMem.alloc (h:CloseMem B g1 g2 w wr o p) (x:Obj):CloseMem B g1 g2 w (wr.alloc x) o p:=h.below ((qa _ _).alloc nR x)
theorem CloseMem.drewN (h:CloseMem B g1 g2 w wr o p) (n:Nat):CloseMem B g1 g2 w (wr.drewN n) o p:=⟨h.b1,h.b2,h.o1,h.o2,below_drewN h.bel n⟩
theorem CloseMem.setO (h:CloseMem B g1 g2 w wr o p) (k:Nat) (x:Int):CloseMem B g1 g2 w (wr.setCell ⟨g1,k,none⟩ (.int .i64 x)) (o.set k x) p :=
 ⟨h.b1,h.b2,h.o1.set_ k x,h.o2.keep (qc _ ⟨g1,k,none⟩ _ _ (by have:=h.b2;show g2≠g1;omega)),h.bel.setCell (p:=⟨g1,k,none⟩) h.b1 _⟩
theorem CloseMem.setP (h:CloseMem B g1 g2 w wr o p) (k:Nat) (x:Int):CloseMem B g1 g2 w (wr.setCell ⟨g2,k,none⟩ (.int .i64 x)) o (p.set k x) :=
 ⟨h.b1,h.b2,h.o1.keep (qc _ ⟨g2,k,none⟩ _ _ (by have:=h.b2;show g1≠g2;omega)),h.o2.set_ k x,h.bel.setCell (p:=⟨g2,k,none⟩) (by have:=h.b1;have:=h.b2;show B<=g2;omega) _⟩
theorem CloseMem.iO (h:CloseMem B g1 g2 w wr o p):Ints wr (fun b=>b<wr) (some ⟨g1,0,none⟩) o:=h.o1.ints.more (fun b e=>by subst e;exact h.g1lt)
theorem CloseMem.iP (h:CloseMem B g1 g2 w wr o p):Ints wr (fun b=>b<wr) (some ⟨g2,0,none⟩) p:=h.o2.ints.more (fun b e=>by subst e;exact h.g2lt)
theorem Cell2.alloc (w:World) (x y:Value):Cell2 (w.alloc (.cells #[x,y] 175)) w x y:=qb w _
theorem Cell2.keep {g:Nat} {x y:Value} (h:Cell2 w g x y) (z:w'.heap[g]?=w.heap[g]?):Cell2 w' g x y:=z.trans h
theorem Cell2.far {g:Nat} {x y:Value} (h:Cell2 w g x y) {a:Addr} (z:g≠a.block) (u:Value):Cell2 (w.setCell a u) g x y:=h.keep (qc _ _ _ _ z)
end
def ZkI (z:List (List Stp)) (k:Nat) (l:List Int):Prop:=l.length=z.length/\∀ i,i<k->l.getD i 0=(z.getD i []).length
theorem lens_step {z:List (List Stp)} (E:n<z) (h:ZkI z n l):ZkI z (n+1) (l.set n ((z.getD n []).length:Int)):=by
 refine⟨by simpa using h.1,fun i F=>?_⟩;rw [Zhh _ (by rw [h.1];exact E)]
 by_cases e:i=n
 .rw [qr e,e]
 rw [qo e];exact h.2 i ya
def WhPost (base:Int) (z:List (List Stp)) (w:World) (e:Ending) (w':World):Prop:=∃ n:Int,e=.returned (.int .i64 n)/\IsLast base z n/\n<=1073741824/\Below w w w'
theorem whole_any {z:List (List Stp)} (aq:Logs w S A z) (ah:∀ b,S b->b<w) (b3:0<=a) (bT:a<=1073741824) (bk:Valid a z) :
 Calls prog 90 #[.int .i64 a,.slice A z n] w (WhPost a z w):=by
 have b1:=aq.1;have au:=hI bk;clear bk;have bH:=run_make_ints z ya;go_enter func90,ntmps90
 go_wp2_with fail
 go_step3
 go_wp2_with fail
 clear bH
 go_loopg [24] z (fun cl i wr=>∃ (k:Nat) (l:List Int),cl=z.length - k/\k<=z/\i=.int .i64 k/\ZkI z k l/\CloseMem w w (w+1) w wr (List.replicate z 0) l)
 case atStart =>
  refine⟨0,List.replicate z 0,rfl,qk _,rfl,⟨yb,fun i aF=>absurd aF ya⟩,qp _,ya,?_,?_,?_⟩
  .exact Own.keep (Own.of_row (Row.new w _)) (qd _ _ _ yb)
  .have:=Row.new (w.alloc (.cells (Zbp (List.replicate z 0)) 3)) (List.replicate z 0);exact Own.of_row (by simpa using this)
  exact((qa _ _).alloc nR _).alloc yb _
 obtain⟨k,l,af,bz,rfl,N,H⟩:=hrel;have ay:=hI af;have bP:=hI N;have aT:=hI H
 by_cases M:k<z
 .obtain⟨bW,bX,A',b5,rfl,ao,bG,aK⟩:=(aq.keep (qS H.bel ah)).at_ M;have bN:=H.o2.cell (show k<l.length by rw [N.1];exact M);have bZ:=H.o2.frozen k;have av:=hI (lens_step M N);clear aK af N H;generalize (z.getD k []).length=len at bG av;generalize l.getD k 0=x at bN
  go_wp2
  go_roundg (z.length - (k+1))
  case measure=>rw [ay];omega
  exact⟨k+1,_,rfl,ya,by go_num,av,aT.setP k _⟩
 have Z:=hI (show ∀ i,i<z.length->l.getD i 0=((z.getD i []).length:Int) from fun i aF=>N.2 i ya);have aS:=hI N.1;clear af N H ay bP
 go_wp2_with fail
 go_step3
 go_wp2_with fail
 obtain⟨w0,rfl⟩:∃ w0:World,w0=wr:=⟨_,rfl⟩
 go_loopg [9] (1073741824 - a).toNat (fun g i wr=>∃ (cl:Int) (p:List Int),g=(1073741824 - cl).toNat/\i=.int .i64 cl/\WholeInv a z cl p/\CloseMem w w (w+1) w wr p l)
 case atStart=>exact⟨a,_,rfl,rfl,whole_start au bT,aT⟩
 clear aT;obtain⟨cl,p,af,rfl,R,H⟩:=hrel;have ay:=hI af;have O:=hI R;have aL:=hI H;have aM:=hI R.lp;have bI:=hI (aq.keep (qS H.bel ah));have bj:=hI (show CutOk z l p from ⟨aS,R.lp,R.pos,fun i aF=>by rw [Z i aF];exact Int.le_refl _⟩);have bE:=H.bel.size;have:a<=cl:=R.ge;have aN:cl<=1073741824:=R.le;clear af R H
 go_wp2_with fail
 refine(next_len aS aM bI aL.iP aL.iO bj (fun b aj=>qC (ah b aj) bE) (fun b aj=>aj)).mono ?_;rintro e L ⟨found,s,base,cap,rfl,an,aA,bC,ao⟩;have ap:=hI (aL.below ao);have bY:=ao.size;obtain⟨F,E⟩:=s;simp only at aA bC;cases found
 .have W:=hI (whole_none O Z (least_none an));clear an aA ao
  go_wp2
  try rw [Exit.noGoto_ret]
  go_ret;exact⟨cl,rfl,W,aN,(ap.alloc _).bel⟩
 have aJ:=hI (Zjm an);have aC:=hI (whole_shards au O Z (Zjm an));have am:=hI (Cell2.alloc L (.int .i64 F) (.slice base E cap));have U:=hI (ap.alloc (.cells #[.int .i64 F,.slice base E cap] 175));have bR:w.heap.size<=L:=ya;have aR:=hI ((ap.alloc (.cells #[.int .i64 F,.slice base E cap] 175)).bel);have ax:=hI (show Ints (L.alloc (.cells #[.int .i64 F,.slice base E cap] 175)) S base E from aA.keep (qS ((qa w L).alloc bR _) ah));have b6:=ap.g1lt;have b2:=ap.g2lt;clear an aA ao
 by_cases ac:F=cl+1
 .have hd:(F != cl+1)=false:=(by simp [ac]);have bn:=hI ac;have:F<=1073741824:=aC.2.2;have:cl+1<=1073741824:=ya;clear ac
  go_wp2_with fail
  generalize bD:L.alloc (.cells #[.int .i64 F,.slice base E cap] 175)=ab at am U aR ax ⊢;clear bD
  go_loopg [55] E (fun g i ak=>∃ j k:Nat,g=E.length - j/\j<=E/\i=.int .i64 j/\(∀ t ∈ E.take j,Zgn z l p t.toNat F)/\ak=ab.drewN k)
  case atStart=>exact⟨0,0,rfl,qk _,rfl,yb,rfl⟩
  obtain⟨j,I,bb,b0,rfl,ba,rfl⟩:=hrel;have bK:=hI bb;have av:=hI ba;clear bb ba;have bF:=am.c0;have bM:=am.c1
  by_cases aw:j<E
  .obtain⟨bu,bq,rfl,bQ,aV⟩:=ax.at_ aw;have K:=mem_getD aw;generalize ai:E.getD j 0=t at aV K;have aG:=hI ai;have bS:=hI K;obtain⟨ar,aQ⟩:=aC.2.1 t K;clear ai K
   go_wp2_with fail
   refine(stands_len aS aM (aq.keep (qS (below_drewN aR I) ah)) (U.drewN I).iP (U.drewN I).iO bj ar aQ).mono ?_;rintro e bU ⟨rfl,bl,rfl⟩
   by_cases ae:Zdv z l p t.toNat F=true
   .have bJ:=hI (standsB_iff.1 ae);rw [ae];clear ae
    go_wp2
    go_roundg (E.length - (j+1))
    case measure=>rw [bK];omega
    refine⟨j+1,I+bl,rfl,ya,by go_num,fun bp aW=>?_,yb⟩;rw [take_snoc E j aw,qH] at aW;rcases aW with aO | aO
    .exact av bp aO
    rw [qy.1 aO,<-Zcz E (n:=j) 0 aw,aG];exact bJ
   have W:=hI (whole_lack au O Z aJ bn bS (show ¬ Zgn z l p t.toNat F from fun h=>ae (standsB_iff.2 h)));have bh:Zdv z l p t.toNat F=false:=(by simpa using ae);rw [bh];clear ae bh
   go_wp2_with fail
   try rw [Exit.noGoto_ret]
   go_ret;exact⟨cl,rfl,W,aN,(U.drewN (I+bl)).bel⟩
  have bi:=hI (show ∀ t ∈ E,Zgn z l p t.toNat F by have:=av.out;rwa [qs ya] at this);have aH:=hI (U.drewN I);have aP:=hI (show Cell2 (ab.drewN I) L (.int .i64 F) (.slice base E cap) from am);have aU:=hI (show Ints (ab.drewN I) S base E from ax)
  go_wp2_with fail
  generalize bL:ab.drewN I=bU at aH aP aU ⊢;clear bL bF bM U am ax aR
  go_loopg [71] E (fun g i ak=>∃ (k:Nat) (aa:List Int),g=E.length - k/\k<=E/\i=.int .i64 k/\Zir z p E k aa/\CloseMem w w (w+1) w ak aa l/\Cell2 ak L (.int .i64 F) (.slice base E cap)/\Ints ak S base E)
  case atStart=>exact⟨0,p,rfl,qk _,rfl,adv_zero aM,aH,aP,aU⟩
  obtain⟨k,aa,bm,bz,rfl,aX,bg,be,aZ⟩:=hrel;have br:=hI bm;have aE:=hI aX;have aD:=hI bg;have bt:=hI be;have bc:=hI aZ;clear bm aX bg be aZ aH aP aU
  by_cases M:k<E
  .obtain⟨bu,bq,rfl,bQ,aV⟩:=bc.at_ M;have K:=mem_getD M;generalize ai:E.getD k 0=t at aV K;have aG:=hI ai;obtain⟨ar,aQ⟩:=aC.2.1 t K;have bB:=hI (adv_fresh aC.1 M aG);have aY:=hI (adv_at aE bB ar aQ);have bw:=hI (bi t K);clear ai K;obtain⟨q,rfl⟩:=qn ar;rw [qu] at aY bw;have az:q<z:=ya;have bO:=O.pos q az;have bo:=O.top q az;have bf:=aD.o1.cell (show q<aa.length by rw [aE.1];exact az);have b4:=aD.o1.frozen q;rw [aY] at bf
   have bV:((z.getD q []).length:Int)<=17592186044416:=by
    obtain⟨_,_,_,_,_,_,_,aK⟩:=aq.at_ az;have:=aK.1;omega
   have aI:=hI (adv_step M aG aE ar ya);rw [qu] at aI;generalize p.getD q 0=x at bf bO bo aI;generalize (z.getD q []).length=len at bo bV;have:(q:Int)<z:=by omega
   go_wp2
   go_roundg (E.length - (k+1))
   case measure=>rw [br];omega
   refine⟨k+1,aa.set q (x+1),rfl,ya,by go_num,aI,aD.setO q (x+1),bt.far (a:=⟨w,q,none⟩) (by show L.heap.size≠w.heap.size;omega) _,?_⟩;exact bc.keep (fun b aj=>qc _ ⟨w,q,none⟩ _ b (by have:=ah b aj;show b≠w.heap.size;omega))
  have W:=hI (whole_adv au O Z aJ bn bi (by show E.length<=k;omega) aE)
  go_wp2
  go_roundg (1073741824 - (cl+1)).toNat
  case measure=>rw [ay];omega
  exact⟨cl+1,aa,rfl,rfl,W,aD⟩
 have hd:(F != cl+1)=true:=(by simp [ac]);have W:=hI (whole_gap au O Z aJ ac);clear ac
 go_wp2_with fail
 try rw [Exit.noGoto_ret]
 go_ret;exact⟨cl,rfl,W,aN,U.bel⟩
def WholePost (base:Int) (z:List (List Stp)) (w:World) (e:Ending) (w':World):Prop :=
 ∃ n:Int,e=.returned (.tuple #[.int .i64 n,.int .i64 (errOf base z)])/\(errOf base z=0->IsLast base z n/\n<=1073741824)/\(errOf base z≠0->n=0)/\Below w w w'
theorem errOf_zero {z:List (List Stp)} (h:errOf a z=0):Valid a z/\0<=a/\a<=1073741824/\0<z.length/\z.length<=4:=by
 rcases errOf_cases a z with ⟨_,E,F⟩ | E
 .refine⟨F,?_⟩;unfold BadArg at E;omega
 omega
theorem Whole_any (H:Option Addr) (cl:Nat) (E:List (List Stp)) (base:Int) (S:Nat->Prop) (w:World) (O:Logs w S H E) (N:∀ b,S b->b<w) :
 Calls prog 36 #[.int .i64 base,.slice H E cl] w (WholePost base E w):=by
 go_enter func36,ntmps36
 go_wp2_with fail
 refine(check_any O N).mono ?_;rintro e W ⟨rfl,F⟩
 by_cases z:errOf base E=0
 .obtain⟨M,Z,ac,_,_⟩:=errOf_zero z;have U:=hI z;replace M:=hI M;have ae:=hI F;have af:=hI (O.keep (qS F N));have R:=F.size;rw [z];clear z F
  go_wp2_with fail
  refine(whole_any af (fun b aa=>qC (N b aa) R) Z ac M).mono ?_;rintro e w2 ⟨n,rfl,L,ab,K⟩;replace L:=hI L;replace K:=hI K
  go_wp2
  go_ret2;exact⟨n,by rw [U];rfl,fun _=>⟨L,ab⟩,fun h=>absurd U.out h,ae.trans (K.mono R)⟩
 have hd:(errOf base E != 0)=true:=(by simp [z]);replace z:=hI z;replace F:=hI F;generalize I:errOf base E=ah at hd z ⊢;replace I:=hI I
 go_wp2
 go_ret2;exact⟨0,by rw [I];rfl,fun h=>absurd (I.symm.trans h) z,fun _=>rfl,F⟩
end Go.Proofs.YtjadnfodboepeaaGreat.Cut
