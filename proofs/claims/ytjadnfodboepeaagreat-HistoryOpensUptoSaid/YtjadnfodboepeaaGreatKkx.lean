import Derived.Test.YtjadnfodboepeaaGreatK5y
import Derived.Deep.DeepCutAuto
set_option linter.all false
set_option maxRecDepth 100000
set_option maxHeartbeats 8000000
namespace Go.Proofs.YtjadnfodboepeaaGreat
open Tryz
open Go.RowKit
variable {w:World} {n k:Nat} {A B:Option Addr} {S:Nat->Prop} {a t:Int} {x:Value} {g:TypeId} {h:ByteArray} {P:Program} {Q:Act}
def Zao (m:Int):Bool:=decide (m=1)||decide (m=2)||decide (m=3)
def Zcd (m key z:Int) (i:Nat) (v:V):Bool :=
 Zp v&&(decide (v.k=z)||(decide (v.k=2)&&decide (m≠1)&&decide (key<=i))||(decide (v.k=1)&&decide (m=3)&&decide (key<=i)))
def ZI (m key:Int):Nat->List Col->Row->Bool
 | i,c :: cs,v :: r=>Zcd m key c.kind i v&&ZI m key (i+1) cs r
 | _,_,_=>true
def ZB (s:Sch) (t:Int) (r:Row) (m:Int):Bool :=
 Zao m&&hasN s.tt t&&decide (r.length=(s.tt.getD t.toNat t0).cols.length)&&ZI m (s.tt.getD t.toNat t0).key 0 (s.tt.getD t.toNat t0).cols r
theorem Zeb {key:Int}:∀ (k i:Nat) (cs:List Col) (r:Row),k<r->r.length=cs.length->ZI a key i (cs.drop k) (r.drop k)=(Zcd a key (cs.getD k c0).kind i (r.getD k v0)&&ZI a key (i+1) (cs.drop (k+1)) (r.drop (k+1))):=by
 intro k i cs r z H;rw [qq z,qq (show k<cs.length by omega)];have F:r.getD k v0=r[k]:=gD z;have E:cs.getD k c0=cs[k]:=(by simp [List.getD,show k<cs.length by omega]);rw [F,E];rfl
theorem fits_any (Z:Option Addr) (ab:Nat) (s:Sch) (t m:Int) (A:Option Addr) (bi:Nat) (r:Row) (S:Nat->Prop) (w:World) (ax:TabS w S Z s.tt) (az:RowS w S A r) (aB:∀ b,S b->b<w) :
 Calls prog 99 #[sAgg s.vv Z s.tt ab,.int .i64 t,.slice A r bi,.int .i64 m] w (ZH (ZB s t r m) w):=by
 have aI:=ax.len;have bq:=hI az.ok;replace ax:=hI ax;replace az:=hI az;have ay:=hI ((qa w w).alloc nR (.cells #[.int .i64 s.vv,.slice Z s.tt ab] 25));go_enter func99,ntmps99;go_upto_region 1 with fail
 go_cut [3,29] from 14 to 29 (fun v b N=>v=.int .i64 m/\b=.bool (!(Zao m&&hasN s.tt t))/\Below w w N/\w.heap.size<N/\N.cell? ⟨w,1,none⟩=some (.slice Z s.tt ab))
 case first =>
  by_cases E:m=1
  .subst E
   go_wp2_with fail
   refine(ZfM _ (a:=t) Z s.tt ab aI).mono ?_;rintro e I ⟨rfl,H⟩;have ah:w.heap.size<I:=by have:=H.size;simp at this;omega
   go_wp2_with fail
   go_meet;exact⟨rfl,rfl,ay.trans (H.mono yb),ah,(H.cell (p:=⟨w,1,none⟩) yb).trans (by simp [Qo _ _ _ _ _ _ (qb w _)])⟩
  by_cases z:m=2
  .subst z
   go_wp2_with fail
   refine(ZfM _ (a:=t) Z s.tt ab aI).mono ?_;rintro e I ⟨rfl,H⟩;have ah:w.heap.size<I:=by have:=H.size;simp at this;omega
   go_wp2_with fail
   go_meet;exact⟨rfl,rfl,ay.trans (H.mono yb),ah,(H.cell (p:=⟨w,1,none⟩) yb).trans (by simp [Qo _ _ _ _ _ _ (qb w _)])⟩
  by_cases M:m=3
  .subst M
   go_wp2_with fail
   refine(ZfM _ (a:=t) Z s.tt ab aI).mono ?_;rintro e I ⟨rfl,H⟩;have ah:w.heap.size<I:=by have:=H.size;simp at this;omega
   go_wp2_with fail
   go_meet;exact⟨rfl,rfl,ay.trans (H.mono yb),ah,(H.cell (p:=⟨w,1,none⟩) yb).trans (by simp [Qo _ _ _ _ _ _ (qb w _)])⟩
  have bG:(m != 1)=true:=(by simp [E]);have bN:(m != 2)=true:=(by simp [z]);have bT:(m != 3)=true:=(by simp [M]);have bf:=hI (show Zao m=false by simp [Zao,E,z,M]);clear E z M
  go_wp2_with fail
  go_meet;exact⟨rfl,by rw [bf.out];rfl,ay,yb,by simp [Qo _ _ _ _ _ _ (qb w _)]⟩
 obtain⟨rfl,rfl,H,ah,cb⟩:=hcut;obtain⟨I,rfl⟩:∃ I:World,I=wc:=⟨_,rfl⟩;replace H:=hI H
 by_cases ac:(Zao m&&hasN s.tt t)=true
 .have bl:0<=t/\t<s.tt:=(by have bB:=(qE _ _ ▸ ac).2;simpa [hasN] using bB);have O:=hI (show ZB s t r m=(decide (r.length=(s.tt.getD t.toNat t0).cols.length)&&ZI m (s.tt.getD t.toNat t0).key 0 (s.tt.getD t.toNat t0).cols r) by unfold ZB;rw [ac];simp);rw [ac];clear ac;obtain⟨aZ,rfl⟩:=qn bl.1;rw [qu] at O;have bz:aZ<s.tt:=ya;obtain⟨aA,bI,rfl,bL,bh,bU,bF,c1,c2,bJ,bn⟩:=(ax.keep (qS H aB)).at_ bz;obtain⟨aT,aF,aO,aS,aP,aV,bm,bo,-,-,-,-⟩:=bn;have aR:=hI aV;have bc:=aV.len;clear aV bm bo;generalize s.tt.getD aZ t0=bk at aT aF aO aS aP aR bc O;obtain⟨bQ,K,L,bR,bK⟩:=bk;simp only at aT aF aO aS aP aR bc O
  by_cases W:r.length=K.length
  .have ak:=hI (show decide (r.length=K.length)=true by simp [W])
   go_wp2_with fail
   replace W:=hI W
   go_loopw [43] (fun i wr=>∃ k:Nat,k<=r/\i=.int .i64 k/\ZI m L 0 K r=ZI m L k (K.drop k) (r.drop k)/\Below I I wr/\wr.cell? ⟨I,1,none⟩=some (.slice bh K c1)/\wr.cell? ⟨I,2,none⟩=some (.int .i64 L)/\I.heap.size<wr) (fun i _=>r.length - (intOf i).toNat)
   case atStart=>exact⟨0,qk _,rfl,yb,(qa _ _).alloc nR _,by simp [Qo _ _ _ _ _ _ (qb I _)],by simp [Qo _ _ _ _ _ _ (qb I _)],yb⟩
   obtain⟨k,bH,rfl,ae,aj,aQ,aU,aY⟩:=hrel;replace ae:=hI ae;replace aj:=hI aj;clear aT aF aO aS aP cb;have bb:=hI (H.trans (aj.mono ya))
   by_cases ba:k<r
   .obtain⟨bD,bE,rfl,bM,aJ,aC,aG⟩:=(az.keep (qS bb aB)).at_ ba;obtain⟨ap,aW,rfl,bC,f1,au⟩:=(aR.keep (fun b bg=>(aj.block b (yl (aB b bg))))).at_ (show k<K.length by have:=W.out;omega);have br:ap<wr:=(yl (aB ap bC));have bj:(k:Int)<K:=(yl W.out);have af:=hI (Zeb (a:=m) (key:=L) k k K r ba W);have aX:=hI (bq.at_ k);generalize r.getD k v0=v at aJ aC aG af aX;generalize K.getD k c0=cl at f1 au af;obtain⟨F,ar,am⟩:=v;obtain⟨bP,R⟩:=cl;simp only at aJ aC aG af aX f1 au
    go_wp2_with fail
    refine(ZdL ⟨F,ar,am⟩ aX).mono ?_;rintro e w2 ⟨rfl,aa⟩;have bO:wr.heap.size<w2:=(by have:=aa.size;simp at this;omega);have aN:=hI ((aj.alloc ya _).trans (aa.mono yd));have bS:w2.cell? ⟨wr,0,none⟩=some (.int .i64 F):=c9Q aa yb (by simp [Qo _ _ _ _ _ _ (qb wr _)])
    replace aQ:w2.cell? ⟨I,1,none⟩=some (.slice (some ⟨ap,aW,none⟩) K.length c1):=(aa.cell (p:=⟨I,1,none⟩) yd).trans ((ql (qd _ _ _ aY)).trans aQ)
    replace aU:w2.cell? ⟨I,2,none⟩=some (.int .i64 L):=(aa.cell (p:=⟨I,2,none⟩) yd).trans ((ql (qd _ _ _ aY)).trans aU)
    replace au:w2.cell? ⟨ap,aW+k*2+1,none⟩=some (.int .i64 R):=(aa.cell (p:=⟨ap,aW+k*2+1,none⟩) yd).trans ((ql (qd _ _ _ br)).trans au)
    clear aa aJ aC aG f1
    by_cases ao:Zp ⟨F,ar,am⟩=true
    .have bu:=hI ao;rw [ao];clear ao;obtain⟨an,aK⟩:=yp ((decide (F=2)&&decide (m≠1)&&decide (L<=k)));obtain⟨aq,aD⟩:=yp ((decide (F=1)&&decide (m=3)&&decide (L<=k)));have aw:=hI aK;have av:=hI aD;have ai:=hI (show Zcd m L R k ⟨F,ar,am⟩=(decide (F=R)||an||aq) by simp only [Zcd,bu.out];rw [aK,aD];simp);clear aK aD;go_upto_region 11 with fail
     go_cut [12] from 51 to 63 (fun b N=>b=.bool an/\w2=N)
     case first =>
      by_cases E:F=2
      .have aH:(F == 2)=true:=(by simp [E]);replace E:=hI E
       by_cases z:m≠1
       .have aA:(m != 1)=true:=(by simp [z]);replace z:=hI z
        by_cases M:L<=k
        .go_wp2_with fail
         go_meet;exact⟨by rw [<-aw.out];simp [E.out,z.out,M],rfl⟩
        have aM:=hI M
        go_wp2_with fail
        go_meet;exact⟨by rw [<-aw.out];simp [aM.out],rfl⟩
       have aA:(m != 1)=false:=(by simpa using z);replace z:=hI z
       go_wp2_with fail
       go_meet;exact⟨by rw [<-aw.out];simp [z.out],rfl⟩
      have aH:(F == 2)=false:=(by simp [E]);replace E:=hI E
      go_wp2_with fail
      go_meet;exact⟨by rw [<-aw.out];simp [E.out],rfl⟩
     obtain⟨rfl,rfl⟩:=hcut;go_upto_region 12 with fail
     go_cut [13] from 64 to 76 (fun b N=>b=.bool aq/\w2=N)
     case first =>
      by_cases E:F=1
      .have aH:(F == 1)=true:=(by simp [E]);replace E:=hI E
       by_cases z:m=3
       .have aA:(m == 3)=true:=(by simp [z]);replace z:=hI z
        by_cases M:L<=k
        .go_wp2_with fail
         go_meet;exact⟨by rw [<-av.out];simp [E.out,z.out,M],rfl⟩
        have aM:=hI M
        go_wp2_with fail
        go_meet;exact⟨by rw [<-av.out];simp [aM.out],rfl⟩
       have aA:(m == 3)=false:=(by simpa using z);replace z:=hI z
       go_wp2_with fail
       go_meet;exact⟨by rw [<-av.out];simp [z.out],rfl⟩
      have aH:(F == 1)=false:=(by simp [E]);replace E:=hI E
      go_wp2_with fail
      go_meet;exact⟨by rw [<-av.out];simp [E.out],rfl⟩
     obtain⟨rfl,rfl⟩:=hcut;go_upto_region 13 with fail
     go_cut [93] from 77 to 93 (fun b N=>b=.bool (!(decide (F=R)||an||aq))/\∃ n,N=w2.drewN n)
     case first =>
      by_cases U:F=R
      .have bw:(F != R)=false:=(by simp [U]);replace U:=hI U
       go_wp2_with fail
       go_quiet (fail)
       go_wp2_with fail
       go_meet;exact⟨by simp [U.out],_,rfl⟩
      have bw:(F != R)=true:=(by simp [U]);replace U:=hI U;cases an with
      | true =>
       go_wp2_with fail
       go_quiet (fail)
       go_wp2_with fail
       go_meet;exact⟨yb,_,rfl⟩
      | false =>
       cases aq with
       | true =>
        go_wp2_with fail
        go_quiet (fail)
        go_wp2_with fail
        go_meet;exact⟨yb,_,rfl⟩
       | false =>
        go_wp2_with fail
        go_quiet (fail)
        go_wp2_with fail
        go_meet;exact⟨by simp [U.out],_,rfl⟩
     obtain⟨rfl,nq,rfl⟩:=hcut;obtain⟨bp,be⟩:=yp ((decide (F=R)||an||aq));rw [be] at ai ⊢;clear be;cases bp with
     | true =>
      go_wp2_with fail
      go_roundw
      case rel=>(repeat apply Exists.intro);exact⟨⟨k+1,ya,by go_num,by rw [ae.out,af.out,ai.out];rfl,below_drewN aN _,by simpa using aQ,by simpa using aU,yd⟩,rfl⟩
      simp [intOf];omega
     | false =>
      go_wp2_with fail
      go_ret;exact⟨by rw [O.out,ak.out,ae.out,af.out,ai.out];rfl,H.trans ((below_drewN aN _).mono ya)⟩
    have aE:Zp ⟨F,ar,am⟩=false:=(by simpa using ao);have ai:=hI (show Zcd m L R k ⟨F,ar,am⟩=false by simp [Zcd,aE]);rw [aE];clear ao aE
    go_wp2_with fail
    go_ret;exact⟨by rw [O.out,ak.out,ae.out,af.out,ai.out];rfl,H.trans (aN.mono ya)⟩
   have bt:=hI (show k=r.length by omega);have bj:decide (k<K)=false:=qe (yl W.out)
   go_wp2_with fail
   go_ret;exact⟨by rw [O.out,ak.out,ae.out,bt.out,qQ];rw [show ∀ l,ZI m L r l []=true from fun l=>by cases l<;>rfl];rfl,bb⟩
  have hd:((r:Int) != K.length)=true:=yd;have ak:=hI (show decide (r.length=K.length)=false by simp [W])
  go_wp2_with fail
  go_ret;exact⟨by rw [O.out,ak.out];rfl,H.alloc ya _⟩
 have aL:(Zao m&&hasN s.tt t)=false:=(by simpa using ac);have O:=hI (show ZB s t r m=false by unfold ZB;rw [aL];simp);rw [aL];clear ac aL
 go_wp2_with fail
 go_ret;exact⟨by rw [O.out];rfl,H⟩
def inS (l:List ByteArray) (s:ByteArray):Bool:=l.any fun x=>decide (x.data.toList=s.data.toList)
theorem Zkq {l:List ByteArray} :inS l h=true↔h ∈ l:=by
 unfold inS;rw [List.any_eq_true];constructor
 .rintro⟨x,E,s⟩;have z:x.data.toList=h.data.toList:=(by simpa using s);have:x=h:=(by cases x;cases h;simpa using z);rwa [<-this]
 intro s;exact⟨h,s,yb⟩
def SetAt (w:World) (B n:Nat) (l:List ByteArray):Prop :=
 ∃ D:DataW Unit,w.ownsMap prog 9 (plainElem prog 4) B n D/\Maps.IsMap D/\∀ s:ByteArray,D.atKey (.string s.data.toList) (.lit (.bool false))=.lit (.bool (inS l s))
theorem SetAt.made (w:World):SetAt (w.alloc (.map #[] 0)) w 0 []:=⟨.map [],World.ownsMap_made w _ _ _,⟨[],rfl⟩,fun s=>by simp [DataW.atKey,inS]⟩
theorem SetAt.kept {w w':World} {B n:Nat} {l:List ByteArray} {row:Option Nat} (h:SetAt w B n l) (I:w.grownBy w' row) (z:some B≠row):SetAt w' B n l:=by
 obtain⟨D,F,E,H⟩:=h;exact⟨D,F.kept I z,E,H⟩
theorem SetAt.alloc {w:World} {B n:Nat} {l:List ByteArray} (h:SetAt w B n l) (o:Obj):SetAt (w.alloc o) B n l:=by
 obtain⟨D,z,E,F⟩:=h;exact⟨D,z.alloc o,E,F⟩
theorem SetAt.below {w w':World} {B n z:Nat} {l:List ByteArray} (h:SetAt w B n l) (N:Below z w w') (H:B<z):SetAt w' B n l:=by
 obtain⟨D,⟨es,K,L,F,M,O⟩,E,I⟩:=h;exact⟨D,⟨es,K,(N.block B H).trans L,F,M,O⟩,E,I⟩
theorem SetAt.lt {w:World} {B n:Nat} {l:List ByteArray} (h:SetAt w B n l):B<w:=by
 obtain⟨D,z,E,F⟩:=h;exact z.lt
theorem plainElem_bool_inv {F:Type} (E:P.underlying g=some .bool) {z:DataW F × List MemPlace} (h:plainElem P g x=some z):∃ a,x=.bool a/\z=(.lit (.bool a),[]):=by
 unfold plainElem at h;rw [E] at h;cases x<;>simp at h
 exact⟨_,rfl,h.symm⟩
theorem SetAt.look {w:World} {B n:Nat} {l:List ByteArray} (h:SetAt w B n l) {s:ByteArray} (N:s.size<=9223372036854775807):(Instr.lookup 314 (.map (some B)) (.string s) false).run prog w=.ok (.bool (inS l s)) w:=by
 obtain⟨D,H,M,I⟩:=h;have K:(zeroValue 4).run prog w=.ok (.bool false) w:=ye;obtain⟨v,L,E,F⟩:=H.lookup (Maps.string_keyed underlying9) underlying314 K (plainElem_bool underlying4 false) (WideMaps.keyOf_string_mk underlying9 (s:=s) yh);obtain⟨a,rfl,z⟩:=plainElem_bool_inv underlying4 F;rw [I s] at z;simp only [Prod.mk.injEq,DataW.lit.injEq,Lit.bool.injEq] at z;rw [E,z.1]
theorem SetAt.put {w:World} {B n:Nat} {l:List ByteArray} (h:SetAt w B n l) (R:n<=1000000) {s:ByteArray} (O:s.size<=9223372036854775807) :
 ∃ w',(Instr.mapUpdate 314 (.map (some B)) (.string s) (.bool true)).run prog w=.ok () w'/\SetAt w' B (n+1) (s :: l)/\w.grownBy w' (some B):=by
 obtain⟨D,K,F,L⟩:=h;obtain⟨w',I,H,N⟩:=K.update (Maps.string_keyed underlying9) underlying314 yh (WideMaps.keyOf_string_mk underlying9 (s:=s) yh) (plainElem_bool underlying4 true);refine⟨w',I,⟨_,H,?_,fun z=>?_⟩,N⟩
 .obtain⟨es,rfl⟩:=F;exact⟨_,rfl⟩
 by_cases E:z=s
 .subst E;rw [Maps.atKey_put_same F (by simp [WideAt.IsKeyLit]) _ _];simp [inS]
 rw [Maps.atKey_put_other (by
  intro e;apply E;have M:z.data.toList=s.data.toList:=(by simpa using e);cases z;cases s;simpa using M) _ _,L z]
 have:inS (s :: l) z=inS l z:=by
  have:decide (s.data.toList=z.data.toList)=false:=by
   simp only [decide_eq_false_iff_not];intro e;apply E;cases z;cases s;simpa using e.symm
  simp only [inS,List.any_cons,this,Bool.false_or]
 rw [this]
theorem ZaE {z:Array Oper} {rest:List Oper} {o:Oper} {B:Exit->Act->World->Prop}
 (O:o.guard=none) (m x v:Operand) (R:o.op=Op.mapUpdate 314 m x v)  {l:List ByteArray} (s:ByteArray)
 (F:Q.eval m=.map (some n)) (W:Q.eval x=.string s) (I:Q.eval v=.bool true) (h:SetAt w n k l) (U:k<=1000000) (N:s.size<=9223372036854775807)
 (M:∀ w',SetAt w' n (k+1) (s :: l)->w.grownBy w' (some n)->wpList prog z B rest (Q.put o.dst undef) w') :
 wpList prog z B (o :: rest) Q w:=by
 refine wpList_plain O fun Z K=>?_;obtain⟨w',H,L,E⟩:=h.put U N;unfold Oper.wp;simp [execOp,R,F,W,I,H,Result.andThen];exact K _ _ (M w' L E)
theorem ZhI (aJ:Nat) (s:Sch) {r:Row} (ax:TabS w S A s.tt) (aA:RowS w S B r) (aC:∀ b,S b->b<w) :
 Calls prog 117 #[sAgg s.vv A s.tt aJ,.int .i64 a,.slice B r n,.int .i64 t] w (ZH (ZB s a r t) w):=by
 obtain⟨L,z⟩:=s;simp only at ax ⊢;have bl:=hI aA.ok;replace ax:=hI ax;replace aA:=hI aA;have ab:=hI ((qa w w).alloc nR (.cells #[.int .i64 L,.slice A z aJ] 25))
 by_cases bR:t<1
 .have K:=hI (show ZB ⟨L,z⟩ a r t=false by unfold ZB;rw [show Zao t=false by simp [Zao];omega];rfl);go_enter func117,ntmps117
  go_wp2_with fail
  go_ret;exact⟨by rw [K.out];rfl,ab⟩
 by_cases bQ:3<t
 .have K:=hI (show ZB ⟨L,z⟩ a r t=false by unfold ZB;rw [show Zao t=false by simp [Zao];omega];rfl);go_enter func117,ntmps117
  go_wp2_with fail
  go_ret;exact⟨by rw [K.out];rfl,ab⟩
 have ba:=hI (show Zao t=true by simp [Zao];omega)
 by_cases bp:a<0
 .have K:=hI (show ZB ⟨L,z⟩ a r t=false by unfold ZB;rw [show hasN (Sch.tt ⟨L,z⟩).length a=false by unfold hasN;simp;omega];simp);go_enter func117,ntmps117
  go_wp2_with fail
  go_ret;exact⟨by rw [K.out];rfl,ab⟩
 have ah:decide (a<0)=false:=qe bp;obtain⟨I,rfl⟩:=qn (show 0<=a by omega)
 by_cases bN:(z:Int)<=(I:Int)
 .have K:=hI (show ZB ⟨L,z⟩ I r t=false by unfold ZB;rw [show hasN (Sch.tt ⟨L,z⟩).length (I:Int)=false by unfold hasN;simp;omega];simp);go_enter func117,ntmps117
  go_wp2_with fail
  go_ret;exact⟨by rw [K.out];rfl,ab⟩
 have bq:I<z:=ya;have bE:(I:Int)<z:=ya
 have K:=hI (show ZB ⟨L,z⟩ I r t=(decide (r.length=(z.getD I t0).cols.length)&&ZI t (z.getD I t0).key 0 (z.getD I t0).cols r) by
  unfold ZB;rw [ba.out,show hasN (Sch.tt ⟨L,z⟩).length (I:Int)=true by unfold hasN;simp;omega];simp only [qu,Bool.true_and])
 obtain⟨aB,bg,rfl,bi,bw,bU,bC,c1,c2,bI,an⟩:=ax.at_ bq;have Z:=an.cols;have ac:=an.key;have aN:=hI an.cS;have aZ:=an.cS.len;have aX:aB<w:=aC aB bi;clear an;generalize z.getD I t0=bh at Z ac aN K aZ;obtain⟨bP,H,F,bS,bJ⟩:=bh;simp only at Z ac aN K aZ
 by_cases aL:r.length=H.length
 .have ai:=hI (show ZB ⟨L,z⟩ I r t=ZI t F 0 H r by rw [K.out,qt aL];rfl);clear K;go_enter func117,ntmps117
  go_wp2_with fail
  go_loopw [42] (fun i wr=>∃ k:Nat,k<=r/\i=.int .i64 k/\ZI t F 0 H r=ZI t F k (H.drop k) (r.drop k)/\Below w w wr/\wr.cell? ⟨w,1,none⟩=some (.slice (some ⟨aB,bg,none⟩) z.length aJ)/\w.heap.size<wr) (fun i _=>r.length - (intOf i).toNat)
  case atStart=>exact⟨0,qk _,rfl,yb,ab,yb,yb⟩
  obtain⟨k,bH,rfl,aa,av,aq,bb⟩:=hrel;replace aa:=hI aa;have az:=hI av;have Z:=c9Q av aX Z;have ac:=c9Q av aX ac;clear av ah
  by_cases aR:k<r
  .have be:k<H:=ya;have bG:(k:Int)<H:=ya;have aU:aB<wr:=ya;obtain⟨bu,bz,rfl,bK,aD,aO,aG⟩:=(aA.keep (qS az aC)).at_ aR;have aP:=bl.2 _ (show r.getD k v0 ∈ r by simp [List.getD,aR]);obtain⟨aY,bT,rfl,bt,aK,ay⟩:=(aN.keep (qS az aC)).at_ be;have bn:aY<wr:=(yl (aC aY bt));have U:=hI (Zeb (a:=t) (key:=F) k k H r aR aL);generalize r.getD k v0=v at aD aO aG aP U;generalize H.getD k c0=bc at aK ay U;obtain⟨bL,ak⟩:=bc;simp only at aK ay U;obtain⟨E,au,am⟩:=v;simp only at aD aO aG aP U;obtain⟨af,ao⟩:=yp (wr.alloc (.cells #[.int .i64 E,.int .i64 au,.string am] 108));have aV:af.cell? ⟨wr,0,none⟩=some (.int .i64 E):=(by rw [<-ao];simp);have bm:af.cell? ⟨wr,1,none⟩=some (.int .i64 au):=(by rw [<-ao];simp);have br:af.cell? ⟨wr,2,none⟩=some (.string am):=by rw [<-ao];simp
   go_wp2_with fail
   refine(Zgx ⟨E,au,am⟩ (w:=af) aP).mono ?_;rintro e aH ⟨rfl,aw⟩;have aW:Below wr wr af:=(by rw [<-ao];exact(qa _ _).alloc nR _);have bo:af.heap.size=wr.heap.size+1:=(by rw [<-ao];simp);have ae:=aW.trans (aw.mono ya);have N:=hI (az.trans (ae.mono ya));have bB:wr.heap.size<aH:=(yl aw.size);have bO:aH.cell? ⟨wr,0,none⟩=some (.int .i64 E):=c9J aw aV;have aq:=c9Q ae bb aq;have Z:=c9Q ae aU Z;have ac:=c9Q ae aU ac;have ay:=c9Q ae bn ay;have aM:w.heap.size<aH:=ya;clear aw aW ae bo aD aO aG aK aV bm br
   by_cases ap:Zp ⟨E,au,am⟩=true
   .rw [ap]
    have aT:=hI (show ZI t F k (H.drop k) (r.drop k)=((decide (E=ak)||(decide (E=2)&&decide (t≠1)&&decide (F<=k))||(decide (E=1)&&decide (t=3)&&decide (F<=k)))&&ZI t F (k+1) (H.drop (k+1)) (r.drop (k+1))) by
     rw [U.out];unfold Zcd;rw [ap];simp only [Bool.true_and])
    have aI:=hI (show (decide (E=ak)||(decide (E=2)&&decide (t≠1)&&decide (F<=k))||(decide (E=1)&&decide (t=3)&&decide (F<=k)))=true->ZI t F 0 H r=ZI t F (k+1) (H.drop (k+1)) (r.drop (k+1)) from fun h=>by rw [aa.out,aT.out,h];rfl);have aj:=hI (show (decide (E=ak)||(decide (E=2)&&decide (t≠1)&&decide (F<=k))||(decide (E=1)&&decide (t=3)&&decide (F<=k)))=false->ZB ⟨L,z⟩ I r t=false from fun h=>by rw [ai.out,aa.out,aT.out,h];rfl);clear ap U aT
    by_cases O:E=ak
    .have ar:=hI (aI (by simp [O]))
     go_wp2_with fail
     go_quiet (fail)
     go_wp2_with fail
     go_roundw
     case rel=>exact⟨k+1,ya,by go_num,ar,below_drewN N _,aq,aM⟩
     simp [intOf];omega
    have bM:(E == ak)=false:=by simp [O]
    by_cases aF:E=2
    .subst aF
     by_cases W:t=1
     .subst W;have M:=hI (aj (by simp [O]))
      go_wp2_with fail
      go_quiet (fail)
      go_wp2_with fail
      go_ret;exact⟨by rw [M.out];rfl,below_drewN N _⟩
     have bk:(t != 1)=true:=by simp [W]
     by_cases R:F<=k
     .have ar:=hI (aI (by simp [W,R]))
      go_wp2_with fail
      go_quiet (fail)
      go_wp2_with fail
      go_roundw
      case rel=>exact⟨k+1,ya,by go_num,ar,below_drewN N _,aq,aM⟩
      simp [intOf];omega
     have ah:decide (F<=(k:Int))=false:=qe R;have M:=hI (aj (by simp [O,R]))
     go_wp2_with fail
     go_quiet (fail)
     go_wp2_with fail
     go_ret;exact⟨by rw [M.out];rfl,below_drewN N _⟩
    have bk:(E == 2)=false:=by simp [aF]
    by_cases aQ:E=1
    .subst aQ
     by_cases W:t=3
     .subst W
      by_cases R:F<=k
      .have ar:=hI (aI (by simp [R]))
       go_wp2_with fail
       go_quiet (fail)
       go_wp2_with fail
       go_roundw
       case rel=>exact⟨k+1,ya,by go_num,ar,below_drewN N _,aq,aM⟩
       simp [intOf];omega
      have ah:decide (F<=(k:Int))=false:=qe R;have M:=hI (aj (by simp [O,R]))
      go_wp2_with fail
      go_quiet (fail)
      go_wp2_with fail
      go_ret;exact⟨by rw [M.out];rfl,below_drewN N _⟩
     have ah:(t == 3)=false:=(by simp [W]);have M:=hI (aj (by simp [O,W]))
     go_wp2_with fail
     go_quiet (fail)
     go_wp2_with fail
     go_ret;exact⟨by rw [M.out];rfl,below_drewN N _⟩
    have ah:(E == 1)=false:=(by simp [aQ]);have M:=hI (aj (by simp [O,aF,aQ]))
    go_wp2_with fail
    go_quiet (fail)
    go_wp2_with fail
    go_ret;exact⟨by rw [M.out];rfl,below_drewN N _⟩
   have aS:Zp ⟨E,au,am⟩=false:=(by simpa using ap);have M:=hI (show ZB ⟨L,z⟩ I r t=false by rw [ai.out,aa.out,U.out];unfold Zcd;rw [aS];rfl);rw [aS];clear ap aS
   go_wp2_with fail
   go_ret;exact⟨by rw [M.out];rfl,N⟩
  have bF:¬ (k:Int)<r:=ya;have bj:=hI (show ZI t F 0 H r=true by rw [aa.out,Qu (show r.length<=k by omega)];cases H.drop k<;>rfl)
  go_wp2_with fail
  go_ret;exact⟨by rw [ai.out,bj.out];rfl,az⟩
 have bD:((r:Int) != (H:Int))=true:=yd;have ai:=hI (show ZB ⟨L,z⟩ I r t=false by rw [K.out,qe aL];rfl);go_enter func117,ntmps117
 go_wp2_with fail
 go_ret;exact⟨by rw [ai.out];rfl,ab⟩
end Go.Proofs.YtjadnfodboepeaaGreat
