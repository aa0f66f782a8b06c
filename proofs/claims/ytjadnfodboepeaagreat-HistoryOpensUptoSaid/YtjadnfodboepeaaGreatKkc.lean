import Derived.Test.YtjadnfodboepeaaGreatKkx
import Derived.Lib.DecodeN
set_option linter.all false
set_option maxRecDepth 100000
set_option maxHeartbeats 8000000
namespace Go.Proofs.YtjadnfodboepeaaGreat
open Tryz
open Go.RowKit
variable {w:World} {n:Nat} {A:Option Addr} {S:Nat->Prop} {a:Int} {l:List Int} {s:Sch} {h:ByteArray}
def Zaf (t:ByteArray) (i:Nat):Nat:=(t.get! i).toNat
def Zau (i c:Nat):Bool:=(decide (97<=c)&&decide (c<=122))||(decide (i≠0)&&(decide (c=95)||(decide (48<=c)&&decide (c<=57))))
def Zat (t:ByteArray):Bool:=decide (1<=t.size)&&decide (t.size<=32)&&(List.range t.size).all fun i=>Zau i (Zaf t i)
theorem decode_low (t:n<h.size) (z:Zaf h n<128):Utf8.decode h n=(Zaf h n,1):=by
 rw [Lib.decode_at];show Lib.decodeN _ (Zaf h n) _ _ _=_;simp [Lib.decodeN,z]
theorem decode_high (z:128<=Zaf h n):128<=(Utf8.decode h n).1:=by
 rw [Lib.decode_at];show 128<=(Lib.decodeN _ (Zaf h n) _ _ _).1;unfold Lib.decodeN
 repeat' split
 all_goals first | omega | (simp only;omega)
theorem decode_name (t:n<h.size):Zau n (Zaf h n)=Zau n (Utf8.decode h n).1/\(Zau n (Utf8.decode h n).1=true->(Utf8.decode h n).2=1):=by
 rcases qv (Zaf h n) 128 with z | z
 .rw [decode_low t z];exact⟨rfl,fun _=>rfl⟩
 have H:=decode_high z;have F:Zau n (Zaf h n)=false:=(by simp [Zau];omega);have E:Zau n (Utf8.decode h n).1=false:=(by simp [Zau];omega);rw [F,E];exact⟨rfl,fun t=>by cases t⟩
theorem ZdA (t:n<h.size) (z:Zau n (Zaf h n)=false):Zat h=false:=by
 unfold Zat;rw [Bool.and_eq_false_iff];right;rw [List.all_eq_false];exact⟨n,List.mem_range.2 t,by simp [z]⟩
theorem ZgF (z:1<=h.size) (F:h.size<=32) (E:∀ i,i<h.size->Zau i (Zaf h i)=true):Zat h=true:=by
 unfold Zat;simp only [z,F,decide_true,Bool.true_and,List.all_eq_true];exact fun i H=>E i (List.mem_range.1 H)
theorem ZgJ (az:h.size<=9223372036854775807):Calls prog 244 #[.string h] w (ZH (Zat h) w):=by
 by_cases ay:h.size<1
 .have E:=hI (show Zat h=false by simp [Zat];omega);go_enter func244,ntmps244
  go_wp2
  go_ret;exact⟨by rw [E];rfl,qa _ _⟩
 by_cases aw:32<h.size
 .have E:=hI (show Zat h=false by simp [Zat];omega);go_enter func244,ntmps244
  go_wp2
  go_ret;exact⟨by rw [E];rfl,qa _ _⟩
 go_enter func244,ntmps244
 go_wp2
 go_loopw [] (fun wr=>∃ z:Nat,z<=h.size/\(∀ i,i<z->Zau i (Zaf h i)=true)/\wr.heap[w.heap.size]?=some (.stringIter h z)/\Below w w wr) (fun wr=>h.size - wr.iterPos w)
 case atStart =>
  refine⟨0,qk _,fun i ae=>absurd ae ya,?_,?_⟩
  .have:=World.iter_heap w h 0;simpa using this
  exact(qa _ _).alloc nR _
 obtain⟨z,aA,U,N,W⟩:=hrel;replace U:=hI U;have ak:=hI N;replace W:=hI W
 by_cases O:z<h.size
 .have ai:∀ K,(Instr.next (.pointer (some ⟨w,0,none⟩)) true K).run prog wr=_:=fun K=>Lib.run_next_any_at wr w h z K N O;have H:=hI (decode_name O);have au:=decode_le h z;obtain⟨c,I⟩:=yp ((Utf8.decode h z).1);obtain⟨d,hd⟩:=yp ((Utf8.decode h z).2);rw [I] at au H;rw [hd] at H;simp only [I,hd] at ai;clear I hd N;have L:=hI (Lib.below_iterAt W (k:=w) nR h (z+d));have af:=hI (Lib.iterAt_heap wr w h z (z+d) ak)
  have Z:=hI (show d=1->h.size - (wr.iterAt w h (z+d)).iterPos w.heap.size<h.size - wr.iterPos w by
   intro ap;simp only [World.iterPos,af.out,ak.out];omega)
  have ac:=hI (show Zau z c=true->∃ p:Nat,p<=h.size/\(∀ i,i<p->Zau i (Zaf h i)=true)/\(wr.iterAt w h (z+d)).heap[w.heap.size]?=some (.stringIter h p)/\Below w w (wr.iterAt w h (z+d)) by
   intro I;have ap:=H.2 I;refine⟨z+d,ya,fun i ae=>?_,af,L⟩;rcases qv i z with s | s
   .exact U i s
   have:i=z:=ya;subst this;exact H.1.trans I)
  have M:=hI (show Zau z c=false->Zat h=false from fun I=>ZdA O (H.1.trans I))
  by_cases R:97<=c/\c<=122
  .have F:=hI (show Zau z c=true by simp [Zau,R]);have ar:=R.1;have ao:=R.2;clear R
   go_wp2
   go_roundw
   case rel=>exact ac F
   exact Z (H.2 F)
  by_cases ar:c<97
  .by_cases aa:z=0
   .subst aa;have E:=hI (M (by simp [Zau];omega));have ab:=hI (show Below w w (wr.iterAt w h d) by have:=L.out;rwa [qx] at this)
    go_wp2
    go_ret;exact⟨by rw [E];rfl,ab⟩
   have am:((z:Int) == 0)=false:=by simp;omega
   by_cases aq:c=95
   .subst aq;have F:=hI (show Zau z 95=true by simp [Zau];omega)
    go_wp2
    go_roundw
    case rel=>exact ac F
    exact Z (H.2 F)
   have an:((c:Int) != 95)=true:=by simp;omega
   by_cases ax:c<48
   .have aj:decide ((c:Int)<48)=true:=yd;have E:=hI (M (by simp [Zau];omega))
    go_wp2
    go_ret;exact⟨by rw [E];rfl,L⟩
   have aj:decide ((c:Int)<48)=false:=by simp;omega
   by_cases av:57<c
   .have ah:decide ((57:Int)<c)=true:=yd;have E:=hI (M (by simp [Zau];omega))
    go_wp2
    go_ret;exact⟨by rw [E];rfl,L⟩
   have ah:decide ((57:Int)<c)=false:=yd;have F:=hI (show Zau z c=true by simp [Zau];omega)
   go_wp2
   go_roundw
   case rel=>exact ac F
   exact Z (H.2 F)
  have ao:122<c:=ya;have:decide ((97:Int)<=c)=true:=yd;have:decide ((c:Int)<=122)=false:=by simp;omega
  by_cases aa:z=0
  .subst aa;have E:=hI (M (by simp [Zau];omega));have ab:=hI (show Below w w (wr.iterAt w h d) by have:=L.out;rwa [qx] at this)
   go_wp2
   go_ret;exact⟨by rw [E];rfl,ab⟩
  have am:((z:Int) == 0)=false:=yd;have an:((c:Int) != 95)=true:=yd;have aj:decide ((c:Int)<48)=false:=yd;have ah:decide ((57:Int)<c)=true:=yd;have E:=hI (M (by simp [Zau];omega))
  go_wp2
  go_ret;exact⟨by rw [E];rfl,L⟩
 have E:=hI (show Zat h=true from ZgF ya ya (fun i ae=>U i ya));have ai:∀ K,(Instr.next (.pointer (some ⟨w,0,none⟩)) true K).run prog wr=_:=fun K=>Lib.run_next_end_at wr w h z K N O
 go_wp2
 go_ret;exact⟨by rw [E];rfl,W⟩
def ZX (k:Int):Bool:=decide (k=3)||decide (k=4)||decide (k=5)
def ZD (z:List ByteArray):List Col->Bool
 | []=>true
 | c :: r=>Zat c.name&&!inS z c.name&&ZX c.kind&&ZD (c.name :: z) r
def Zt (z:List ByteArray):List Tab->Bool
 | []=>true
 | t :: r=>Zat t.name&&!inS z t.name&&decide (1<=t.key)&&decide (t.key<=t.cols)&&ZD [] t.cols&&Zt (t.name :: z) r
theorem Zed (z:List ByteArray) (l:List Col) (k:Nat) (h:k<l):ZD z (l.drop k)=(Zat (l.getD k c0).name&&!inS z (l.getD k c0).name&&ZX (l.getD k c0).kind&&ZD ((l.getD k c0).name :: z) (l.drop (k+1))):=by
 rw [qq h];have E:l.getD k c0=l[k]:=gD h;rw [E];rfl
theorem Zdr (z:List ByteArray) (l:List Tab) (k:Nat) (h:k<l):Zt z (l.drop k)=(Zat (l.getD k t0).name&&!inS z (l.getD k t0).name&&decide (1<=(l.getD k t0).key)&&decide ((l.getD k t0).key<=(l.getD k t0).cols.length)&&ZD [] (l.getD k t0).cols&&Zt ((l.getD k t0).name :: z) (l.drop (k+1))):=by
 rw [qq h];have E:l.getD k t0=l[k]:=gD h;rw [E];rfl
theorem named_any (bf:Nat) (s:Sch) (aO:TabS w S A s.tt) (bb:∀ b,S b->b<w) (bE:s.tt.length<=8) (aP:∀ t ∈ s.tt,t.cols.length<=8) :
 Calls prog 207 #[sAgg s.vv A s.tt bf] w (ZH (Zt [] s.tt) w):=by
 replace aO:=hI aO;replace aP:=hI aP
 have:∀ w:World,(Instr.makeMap 314 none).run prog w=.ok (.map (some w.heap.size)) (w.alloc (.map #[] 0)):=fun w=>by
  exact run_makeMap _ w
 go_enter func207,ntmps207
 go_wp2
 go_loopw [13] (fun i wr=>∃ (k:Nat) (N:List ByteArray),k<=s.tt/\i=.int .i64 k/\Zt [] s.tt=Zt N (s.tt.drop k)/\SetAt wr (w+1) k N/\Below w w wr) (fun i _=>s.tt.length - (intOf i).toNat)
 case atStart =>
  exact⟨0,[],qk _,rfl,yb,by have:=SetAt.made (w.alloc (.cells #[.int .i64 s.vv,.slice A s.tt bf] 25));simpa using this,((qa _ _).alloc nR _).alloc yb _⟩
 obtain⟨k,N,bJ,rfl,ab,aQ,ak⟩:=hrel;replace ab:=hI ab;have bD:=hI aQ;replace ak:=hI ak;have bF:=aQ.lt;clear aQ
 by_cases aY:k<s.tt
 .obtain⟨bQ,bK,rfl,bN,bc,bT,bH,c1,c2,bL,bo⟩:=(aO.keep (qS ak bb)).at_ aY;obtain⟨aX,aK,aS,aW,aV,aw,bn,bp,-,-,-,ao⟩:=bo;replace aw:=hI aw;have af:=hI (Zdr N s.tt k aY);have bk:(s.tt.getD k t0).cols.length<=8:=aP _ (by simp [List.getD,aY]);clear bn bp;generalize s.tt.getD k t0=bm at aX aK aS aW aV aw ao af bk;obtain⟨M,E,W,bP,bM⟩:=bm;simp only at aX aK aS aW aV aw ao af bk
  go_wp2_with fail
  refine(ZgJ ao).mono ?_;rintro e w2 ⟨rfl,ae⟩;have:wr.heap.size<w2:=(by have:=ae.size;simp at this;omega);have ar:=hI ((ak.alloc ya _).trans (ae.mono yd));have bg:=hI ((bD.alloc _).below ae yd);have bC:yr w2 wr 0 (.string M):=c9Q ae yb (by simp [Qo _ _ _ _ _ _ (qb wr _)]);have bj:yr w2 wr 1 (.slice bc E c1):=c9Q ae yb (by simp [Qo _ _ _ _ _ _ (qb wr _)]);have bB:yr w2 wr 2 (.int .i64 W):=c9Q ae yb (by simp [Qo _ _ _ _ _ _ (qb wr _)]);clear ae aX aK aS aW aV;have Z:=bg.look (s:=M) ao
  by_cases ax:Zat M=true
  .have bw:=hI ax;rw [ax];clear ax
   by_cases av:inS N M=true
   .have F:=hI av;rw [av] at Z;clear av
    go_wp2
    go_ret;exact⟨by rw [ab,af];simp [F.out],ar⟩
   have aB:=hI (show inS N M=false by simpa using av);clear av
   by_cases bh:1<=W
   .by_cases be:W<=E
    .have aE:=hI (show Zt [] s.tt=(ZD [] E&&Zt (M :: N) (s.tt.drop (k+1))) by rw [ab,af,bw,aB];simp [bh,be]);have bt:decide (W<1)=false:=yd;have:decide ((E:Int)<W)=false:=yd;rw [aB] at Z
     go_wp2_with (at_mapUpdate;refine ZaE rfl (.tmp 40) (.tmp 42) (.const (.bool true)) rfl M rfl rfl rfl bg ya ao ?_;intro aa aT aA;have bG:=aA.size;have:wr.heap.size<aa:=ya;have bz:yr aa wr 1 (.slice bc E c1):=(ql (aA.block wr ya (fun e=>yl (Option.some.inj e)))).trans bj)
     replace aT:=hI aT;have bq:=hI (ar.grown aA ya (fun b L=>yl (Option.some.inj L)));clear aA bC bj bB Z
     go_loopw [47] (fun i wr=>∃ (j:Nat) (K:List ByteArray),j<=E/\i=.int .i64 j/\ZD [] E=ZD K (E.drop j)/\SetAt wr (w+1) (k+1) (M :: N)/\SetAt wr aa j K/\Below w w wr) (fun i _=>E.length - (intOf i).toNat)
     case atStart=>exact⟨0,[],qk _,rfl,yb,aT.alloc _,SetAt.made aa,bq.alloc ya _⟩
     obtain⟨j,K,bI,rfl,O,aC,aH,ap⟩:=hrel;replace O:=hI O;replace aC:=hI aC;have bl:=hI aH;replace ap:=hI ap;have bO:=aH.lt;clear aH bz
     by_cases aF:j<E
     .have bi:=hI (aw.keep (fun b L=>(ap.block b (bb b L)).trans (ak.block b (bb b L)).symm));obtain⟨bR,bS,rfl,bU,f1,aJ⟩:=bi.at_ aF;have U:=bi.txt aF;have ac:=hI (Zed K E j aF);generalize E.getD j c0=cl at f1 aJ U ac;obtain⟨H,R⟩:=cl;simp only at f1 aJ U ac
      go_wp2_with fail
      refine(ZgJ U).mono ?_;rintro e aR ⟨rfl,ai⟩;have:wr.heap.size<aR:=(by have:=ai.size;simp at this;omega);have am:=hI ((ap.alloc ya _).trans (ai.mono yd));have ba:=hI ((aC.alloc _).below ai yd);have aq:=hI ((bl.alloc _).below ai yd);have:yr aR wr 0 (.string H):=c9Q ai yb (by simp [Qo _ _ _ _ _ _ (qb wr _)]);have aD:yr aR wr 1 (.int .i64 R):=c9Q ai yb (by simp [Qo _ _ _ _ _ _ (qb wr _)]);clear ai f1 aJ;have Z:=aq.look (s:=H) U
      by_cases an:Zat H=true
      .have aL:=hI an;rw [an];clear an
       by_cases au:inS K H=true
       .have F:=hI au;rw [au] at Z;clear au
        go_wp2
        go_ret;exact⟨by rw [aE,O,ac];simp [F.out],am⟩
       have az:=hI (show inS K H=false by simpa using au);rw [az] at Z;clear au
       by_cases aI:R=3
       .subst aI
        go_wp2_with (at_mapUpdate;refine ZaE rfl (.tmp 61) (.tmp 63) (.const (.bool true)) rfl H rfl rfl rfl aq ya U ?_;intro aj I z;have aM:=z.size;have aZ:yr aj wr 1 (.int .i64 3):=(ql (z.block wr ya (fun e=>yl (Option.some.inj e)))).trans aD)
        replace I:=hI I;have ay:=hI (ba.kept z (fun e=>yl (Option.some.inj e)));have ah:=hI (am.grown z ya (fun b L=>yl (Option.some.inj L)));clear z;go_roundw
        case rel=>exact⟨j+1,H :: K,ya,by go_num,by rw [O,ac,aL,az];simp [ZX],ay,I,ah⟩
        simp [intOf];omega
       have:(R != 3)=true:=by simp [aI]
       by_cases aU:R=4
       .subst aU
        go_wp2_with (at_mapUpdate;refine ZaE rfl (.tmp 61) (.tmp 63) (.const (.bool true)) rfl H rfl rfl rfl aq ya U ?_;intro aj I z;have aM:=z.size;have aZ:yr aj wr 1 (.int .i64 4):=(ql (z.block wr ya (fun e=>yl (Option.some.inj e)))).trans aD)
        replace I:=hI I;have ay:=hI (ba.kept z (fun e=>yl (Option.some.inj e)));have ah:=hI (am.grown z ya (fun b L=>yl (Option.some.inj L)));clear z;go_roundw
        case rel=>exact⟨j+1,H :: K,ya,by go_num,by rw [O,ac,aL,az];simp [ZX],ay,I,ah⟩
        simp [intOf];omega
       have:(R != 4)=true:=by simp [aU]
       by_cases aN:R=5
       .subst aN
        go_wp2_with (at_mapUpdate;refine ZaE rfl (.tmp 61) (.tmp 63) (.const (.bool true)) rfl H rfl rfl rfl aq ya U ?_;intro aj I z;have aM:=z.size;have aZ:yr aj wr 1 (.int .i64 5):=(ql (z.block wr ya (fun e=>yl (Option.some.inj e)))).trans aD)
        replace I:=hI I;have ay:=hI (ba.kept z (fun e=>yl (Option.some.inj e)));have ah:=hI (am.grown z ya (fun b L=>yl (Option.some.inj L)));clear z;go_roundw
        case rel=>exact⟨j+1,H :: K,ya,by go_num,by rw [O,ac,aL,az];simp [ZX],ay,I,ah⟩
        simp [intOf];omega
       have:(R != 5)=true:=(by simp [aN]);have F:=hI (show ZX R=false by simp [ZX,aI,aU,aN])
       go_wp2_with (at_mapUpdate;refine ZaE rfl (.tmp 61) (.tmp 63) (.const (.bool true)) rfl H rfl rfl rfl aq ya U ?_;intro aj I z;have aM:=z.size;have aZ:yr aj wr 1 (.int .i64 R):=(ql (z.block wr ya (fun e=>yl (Option.some.inj e)))).trans aD)
       have ah:=hI (am.grown z ya (fun b L=>yl (Option.some.inj L)));clear I z;go_ret;exact⟨by rw [aE,O,ac];simp [F.out],ah⟩
      have F:=hI (show Zat H=false by simpa using an);rw [F];clear an
      go_wp2
      go_ret;exact⟨by rw [aE,O,ac];simp [F.out],am⟩
     have br:=hI (show ZD [] E=true by rw [O,show j=E.length by omega,qQ];rfl)
     go_wp2
     go_roundw
     case rel=>exact⟨k+1,M :: N,ya,by go_num,by rw [aE,br];rfl,aC,ap⟩
     simp [intOf];omega
    have F:=hI (show decide (W<=(E:Int))=false by simpa using be);rw [aB] at Z;have bt:decide (W<1)=false:=by simp;omega
    go_wp2
    go_ret;exact⟨by rw [ab,af];simp [F.out],ar⟩
   have F:=hI (show decide (1<=W)=false by simpa using bh);rw [aB] at Z
   go_wp2
   go_ret;exact⟨by rw [ab,af];simp [F.out],ar⟩
  have F:=hI (show Zat M=false by simpa using ax);rw [F];clear ax
  go_wp2
  go_ret;exact⟨by rw [ab,af];simp [F.out],ar⟩
 have bu:=hI (show k=s.tt.length by omega)
 go_wp2
 go_ret;exact⟨by rw [ab,bu,qQ];rfl,ak⟩
def ZM (z:List Col):List Col->List Int->Bool
 | E :: cs,c :: r=>decide (0<=c)&&decide (c<z)&&decide ((z.getD c.toNat c0).kind=E.kind)&&ZM z cs r
 | _,_=>true
def Zdk (z:List Tab) (E:List Col) (r:Rfr):Bool :=
 hasN z r.tx&&decide ((r.cols:Int)=(z.getD r.tx.toNat t0).key)&&ZM E (z.getD r.tx.toNat t0).cols r.cols
def Zac (z:List Tab) (E:List Col):List Rfr->Bool
 | []=>true
 | r :: l=>Zdk z E r&&Zac z E l
def ZV (z:List Tab):List Tab->Bool
 | []=>true
 | t :: l=>Zac z t.cols t.refs&&ZV z l
theorem Zdp (z l:List Tab) (k:Nat) (h:k<l):ZV z (l.drop k)=(Zac z (l.getD k t0).cols (l.getD k t0).refs&&ZV z (l.drop (k+1))):=by
 rw [qq h];have E:l.getD k t0=l[k]:=gD h;rw [E];rfl
theorem ZdP (z:List Tab) (E:List Col) (l:List Rfr) (k:Nat) (h:k<l):Zac z E (l.drop k)=(Zdk z E (l.getD k r0)&&Zac z E (l.drop (k+1))):=by
 rw [qq h];have F:l.getD k r0=l[k]:=gD h;rw [F];rfl
theorem Zdq (z cs:List Col) (l:List Int) (k:Nat) (h:k<l) (E:k<cs):ZM z (cs.drop k) (l.drop k)=(decide (0<=l.getD k 0)&&decide (l.getD k 0<z.length)&&decide ((z.getD (l.getD k 0).toNat c0).kind=(cs.getD k c0).kind)&&ZM z (cs.drop (k+1)) (l.drop (k+1))):=by
 rw [qq h,qq E];have H:l.getD k 0=l[k]:=gD h;have F:cs.getD k c0=cs[k]:=gD E;rw [H,F];rfl
theorem referring_any (aw:Nat) (s:Sch) (ao:TabS w S A s.tt) (N:∀ b,S b->b<w) (aF:∀ t ∈ s.tt,t.key<=t.cols) :
 Calls prog 208 #[sAgg s.vv A s.tt aw] w (ZH (ZV s.tt s.tt) w):=by
 have cj:=ao.len;replace ao:=hI ao;replace aF:=hI aF;go_enter func208,ntmps208
 go_wp2_with fail
 go_loopw [13] (fun i wr=>∃ k:Nat,k<=s.tt/\i=.int .i64 k/\ZV s.tt s.tt=ZV s.tt (s.tt.drop k)/\Below w w wr/\wr.cell? ⟨w,1,none⟩=some (.slice A s.tt aw)/\w.heap.size<wr) (fun i _=>s.tt.length - (intOf i).toNat)
 case atStart=>exact⟨0,qk _,rfl,yb,(qa _ _).alloc nR _,by simp [Qo _ _ _ _ _ _ (qb w _)],yb⟩
 obtain⟨k,ax,rfl,R,af,aA,ai⟩:=hrel;replace R:=hI R;replace af:=hI af
 by_cases bt:k<s.tt
 .obtain⟨aq,bi,rfl,bS,aS,cE,cf,c1,c2,ck,aH⟩:=(ao.keep (qS af N)).at_ bt;obtain⟨br,bc,bm,bp,bn,aN,aG,bV,-,-,-,-⟩:=aH;have aL:=hI aN;have aD:=hI aG;have bE:=aN.len;have bj:=aG.len;have cq:aq<w:=N aq bS;have ac:=hI (Zdp s.tt s.tt k bt);clear aN aG bV;generalize s.tt.getD k t0=bO at br bc bm bp bn aL aD ac bE bj;obtain⟨cw,z,b9,ae,cm⟩:=bO;simp only at br bc bm bp bn aL aD ac bE bj;obtain⟨ak,aj⟩:∃ ak,ak=wr.heap.size:=⟨_,rfl⟩;replace aj:=hI aj
  go_wp2_with fail
  go_loopw [20] (fun i H=>∃ j:Nat,j<=ae/\i=.int .i64 j/\Zac s.tt z ae=Zac s.tt z (ae.drop j)/\Below w w H/\H.cell? ⟨w,1,none⟩=some (.slice (some ⟨aq,bi,none⟩) s.tt.length aw)/\H.cell? ⟨ak,1,none⟩=some (.slice aS z c1)/\w.heap.size<H/\ak<H) (fun i _=>ae.length - (intOf i).toNat)
  case atStart=>exact⟨0,qk _,rfl,yb,af.alloc ya _,by rw [ql (qd _ _ _ ai)];exact aA,by rw [aj.out];simp [Qo _ _ _ _ _ _ (qb _ _)],yd,by rw [aj.out];simp⟩
  obtain⟨j,cg,rfl,U,M,aA,ba,ai,am⟩:=hrel;replace U:=hI U;replace M:=hI M;have bI:=ba;have aJ:=am;rw [aj.out] at bI aJ
  by_cases aV:j<ae
  .obtain⟨b8,ce,rfl,co,⟨b6,b2,f1,bh,aQ⟩,bb⟩:=(aD.keep (fun b K=>(M.block b (N b K)).trans (af.block b (N b K)).symm)).at_ aV;have ab:=hI (ZdP s.tt z ae j aV);have aE:=hI aQ;have ar:=aQ.len;clear aQ;generalize ae.getD j r0=b5 at f1 bh bb aE ab ar;obtain⟨E,aa⟩:=b5;simp only at f1 bh bb aE ab ar
   by_cases an:hasN s.tt aa=true
   .have bQ:0<=aa/\aa<s.tt:=(by simpa [hasN] using an);obtain⟨I,rfl⟩:=qn bQ.1;have bw:I<s.tt:=ya;have bY:decide ((I:Int)<0)=false:=yb;have bW:decide (s.tt.length<=I)=false:=yd;obtain⟨cA,cC,aB,cF,aZ,b3,b1,bg,bG,bM,aH⟩:=(ao.keep (qS M N)).at_ bw;obtain⟨bD,l2,aX,aY,bf,uS,_,_,-,-,-,-⟩:=aH;injection aB with aB;injection aB with bL bX;subst bL bX;have cv:aq<wr:=ya;have aK:=hI uS;have bo:(s.tt.getD I t0).key<=(s.tt.getD I t0).cols.length:=aF _ (by simp [List.getD,bw]);have az:=hI (show Zdk s.tt z ⟨E,I⟩=(decide ((E:Int)=(s.tt.getD I t0).key)&&ZM z (s.tt.getD I t0).cols E) by unfold Zdk;simp only [an,qu,Bool.true_and]);have bz:=uS.len;clear uS an;generalize s.tt.getD I t0=bK at bD l2 aX aY bf aK bo az bz;obtain⟨bZ,L,uk,bP,bJ⟩:=bK;simp only at bD l2 aX aY bf aK bo az bz
    by_cases ax:(E:Int)=uk
    .have ay:=hI (show Zdk s.tt z ⟨E,I⟩=ZM z L E by rw [az.out];simp [ax]);have bN:=hI ((M.alloc ya (.cells #[.slice b6 E b2,.int .i64 I] 106)).alloc yd (.cells #[.string bZ,.slice aZ L bg,.int .i64 uk,.slice b3 bP bG,.slice b1 bJ bM] 104));obtain⟨au,ap⟩:∃ au,au=wr.heap.size+1:=⟨_,rfl⟩;replace ap:=hI ap
     go_wp2_with fail
     go_loopw [50] (fun i H=>∃ F:Nat,F<=E/\i=.int .i64 F/\ZM z L E=ZM z (L.drop F) (E.drop F)/\Below w w H/\H.cell? ⟨w,1,none⟩=some (.slice (some ⟨aq,bi,none⟩) s.tt.length aw)/\H.cell? ⟨ak,1,none⟩=some (.slice aS z c1)/\H.cell? ⟨au,1,none⟩=some (.slice aZ L bg)/\w.heap.size<H/\ak<H/\au<H) (fun i _=>E.length - (intOf i).toNat)
     case atStart =>
      refine⟨0,qk _,rfl,yb,bN,?_,?_,?_,yd,yd,by rw [ap.out];simp⟩
      .rw [ql (qd _ _ _ yd),ql (qd _ _ _ ya)];exact aA
      .rw [ql (qd _ _ _ yd),ql (qd _ _ _ ya)];exact ba
      rw [ap.out];simp
     obtain⟨F,cG,rfl,ah,O,be,aR,aU,ai,am,bl⟩:=hrel;replace ah:=hI ah;replace O:=hI O;have b4:=aR;have aJ:=am;have bH:=aU;have bR:=bl;rw [aj.out] at b4 aJ;rw [ap.out] at bH bR
     by_cases ar:F<E
     .have bU:=hI (aE.keep (fun b K=>(O.block b (N b K)).trans (M.block b (N b K)).symm));obtain⟨ch,ca,rfl,cz,b7⟩:=bU.at_ ar;have W:=hI (Zdq z L E F ar ya);obtain⟨cu,ct,rfl,cD,bB,bq⟩:=(aK.keep (fun b K=>(O.block b (N b K)).trans (M.block b (N b K)).symm)).at_ (show F<L.length by omega);have cc:(F:Int)<L:=ya;generalize E.getD F 0=c at b7 W;generalize L.getD F c0=bF at bB bq W;obtain⟨cx,bk⟩:=bF;simp only at bB bq W
      by_cases aM:c<0
      .have Z:=hI (show decide (0<=c)=false by simpa using aM)
       go_wp2_with fail
       go_quiet (fail)
       go_wp2_with fail
       go_ret;exact⟨by rw [R.out,ac.out,U.out,ab.out,ay.out,ah.out,W.out];simp [Z.out],below_drewN O _⟩
      have bY:decide (c<0)=false:=(by simpa using aM);obtain⟨av,rfl⟩:=qn (show 0<=c by omega);rw [qu] at W
      by_cases aP:av<z
      .have aT:decide (z.length<=av)=false:=yd;obtain⟨ci,cp,rfl,cr,bu,bC⟩:=(aL.keep (fun b K=>(O.block b (N b K)).trans (af.block b (N b K)).symm)).at_ aP;generalize z.getD av c0=bT at bu bC W;obtain⟨cd,aW⟩:=bT;simp only at bu bC W
       by_cases aO:aW=bk
       .go_wp2_with fail
        go_quiet (fail)
        go_wp2_with fail
        go_roundw
        case rel=>exact⟨F+1,ya,by go_num,by rw [ah.out,W.out];simp [aO,aP],below_drewN O _,be,aR,aU,ai,am,bl⟩
        simp [intOf];omega
       have cy:(aW != bk)=true:=(by simp [aO]);have Z:=hI aO
       go_wp2_with fail
       go_quiet (fail)
       go_wp2_with fail
       go_ret;exact⟨by rw [R.out,ac.out,U.out,ab.out,ay.out,ah.out,W.out];simp [Z.out],below_drewN O _⟩
      have aT:decide (z.length<=av)=true:=yd;have Z:=hI aP
      go_wp2_with fail
      go_quiet (fail)
      go_wp2_with fail
      go_ret;exact⟨by rw [R.out,ac.out,U.out,ab.out,ay.out,ah.out,W.out];simp [Z.out],below_drewN O _⟩
     have aI:=hI (show ZM z L E=true by rw [ah.out,show F=E.length by omega,qQ];cases (L.drop E)<;>rfl)
     go_wp2_with fail
     go_roundw
     case rel=>exact⟨j+1,ya,by go_num,by rw [U.out,ab.out,ay.out,aI.out];rfl,O,be,aR,ai,am⟩
     simp [intOf];omega
    have aT:((E:Int) != uk)=true:=(by simp [ax]);have Z:=hI (show Zdk s.tt z ⟨E,I⟩=false by rw [az.out];simp [ax])
    go_wp2_with fail
    go_ret;exact⟨by rw [R.out,ac.out,U.out,ab.out,Z.out];rfl,(M.alloc ya _).alloc yd _⟩
   have Z:=hI (show Zdk s.tt z ⟨E,aa⟩=false by unfold Zdk;simp [an])
   have cn:aa<0\/(s.tt:Int)<=aa:=by
    have:hasN s.tt aa=false:=(by simpa using an);simp [hasN] at this;omega
   by_cases aM:aa<0
   .go_wp2_with fail
    go_ret;exact⟨by rw [R.out,ac.out,U.out,ab.out,Z.out];rfl,M.alloc ya _⟩
   have bW:decide ((s.tt:Int)<=aa)=true:=by simp;omega
   go_wp2_with fail
   go_ret;exact⟨by rw [R.out,ac.out,U.out,ab.out,Z.out];rfl,M.alloc ya _⟩
  have aI:=hI (show Zac s.tt z ae=true by rw [U.out,show j=ae.length by omega,qQ];rfl)
  go_wp2_with fail
  go_roundw
  case rel=>exact⟨k+1,ya,by go_num,by rw [R.out,ac.out,aI.out];rfl,M,aA,ai⟩
  simp [intOf];omega
 have b0:=hI (show k=s.tt.length by omega)
 go_wp2_with fail
 go_ret;exact⟨by rw [R.out,b0.out,qQ];rfl,af⟩
abbrev oAgg (o:Opd):Value:=.agg #[.int .i64 o.kind,.int .i64 o.index,.int .i64 o.value.k,.int .i64 o.value.i,.string o.value.t]
abbrev pAgg (op cmp:Int) (l r:Opd) (A:Option Addr) (n c:Nat):Value:=.agg #[.int .i64 op,.int .i64 cmp,.int .i64 l.kind,.int .i64 l.index,.int .i64 l.value.k,.int .i64 l.value.i,.string l.value.t,.int .i64 r.kind,.int .i64 r.index,.int .i64 r.value.k,.int .i64 r.value.i,.string r.value.t,.slice A n c]
abbrev p0:Pred:=.mk 0 0 ⟨0,0,v0⟩ ⟨0,0,v0⟩ []
def Pred.op:Pred->Int | .mk op _ _ _ _=>op
def Pred.cmp:Pred->Int | .mk _ c _ _ _=>c
def Pred.left:Pred->Opd | .mk _ _ l _ _=>l
def Pred.right:Pred->Opd | .mk _ _ _ r _=>r
structure PredAt (w:World) (S:Nat->Prop) (b off:Nat) (op cmp:Int) (l r:Opd) (args:List Pred) (A:Option Addr) (c:Nat):Prop where
 fop:w.cell? ⟨b,off,none⟩=some (.int .i64 op)
 fcmp:w.cell? ⟨b,off+1,none⟩=some (.int .i64 cmp)
 lk:w.cell? ⟨b,off+2,none⟩=some (.int .i64 l.kind)
 li:w.cell? ⟨b,off+3,none⟩=some (.int .i64 l.index)
 lvk:w.cell? ⟨b,off+4,none⟩=some (.int .i64 l.value.k)
 lvi:w.cell? ⟨b,off+5,none⟩=some (.int .i64 l.value.i)
 lvt:w.cell? ⟨b,off+6,none⟩=some (.string l.value.t)
 rk:w.cell? ⟨b,off+7,none⟩=some (.int .i64 r.kind)
 ri:w.cell? ⟨b,off+8,none⟩=some (.int .i64 r.index)
 rvk:w.cell? ⟨b,off+9,none⟩=some (.int .i64 r.value.k)
 rvi:w.cell? ⟨b,off+10,none⟩=some (.int .i64 r.value.i)
 rvt:w.cell? ⟨b,off+11,none⟩=some (.string r.value.t)
 fargs:w.cell? ⟨b,off+12,none⟩=some (.slice A args c)
 pS:PredS w S A args
 pc:args.length<=c
 lt:l.value.t.size<=9223372036854775807
 rt:r.value.t.size<=9223372036854775807
theorem PredS.at_ {w:World} {S:Nat->Prop} {A:Option Addr} {l:List Pred} (h:PredS w S A l) {k:Nat} (R:k<l):∃ b E,A=some ⟨b,E,none⟩/\S b/\∃ op cmp F z args A' c,l.getD k p0=.mk op cmp F z args/\PredAt w S b (E+k*13) op cmp F z args A' c:=by
 obtain⟨b,E,e,ac,I⟩:=Qf ZbW p0 h R;cases O:l.getD k p0 with
 | mk op cmp F z args =>
  rw [O] at I;simp only [encPred,ZaL,encV,Dat.Held,Dat.Ha,Dat.size,Dat.sizes,and_true,ZC,ZA,Nat.add_assoc,Nat.reduceAdd,Nat.add_zero] at I;obtain⟨a1,a2,⟨a3,a4,a5,a6,a7,Z⟩,⟨ae,ab,W,aa,U,N⟩,A',c,K,H,L,M⟩:=I;rw [ZbV] at K H L M;rw [qg] at K H;exact⟨b,E,e,ac,op,cmp,F,z,args,A',c,rfl,a1,a2,a3,a4,a5,a6,a7,ae,ab,W,aa,U,K,⟨L,M⟩,H,Z,N⟩
def ZG:List Int->Bool
 | []=>true
 | k :: r=>ZX k&&ZG r
theorem ZeV (l:List Int) (k:Nat) (h:k<l):ZG (l.drop k)=(ZX (l.getD k 0)&&ZG (l.drop (k+1))):=by
 rw [qq h];have z:l.getD k 0=l[k]:=gD h;rw [z];rfl
theorem Zay (h:IntS w S A l):Calls prog 245 #[.slice A l n] w (fun e w'=>e=.returned (.bool (ZG l))/\w'=w):=by
 have Z:=h.len;replace h:=hI h;go_enter func245,ntmps245
 go_wp2
 go_loopw [7] (fun i wr=>∃ k:Nat,k<=l/\i=.int .i64 k/\ZG l=ZG (l.drop k)/\wr=w) (fun i _=>l.length - (intOf i).toNat)
 case atStart=>exact⟨0,qk _,rfl,yb,rfl⟩
 obtain⟨k,U,rfl,E,rfl⟩:=hrel;replace E:=hI E
 by_cases L:k<l
 .obtain⟨W,ab,rfl,aa,M⟩:=h.at_ L;have F:=hI (ZeV l k L);generalize l.getD k 0=z at M F
  by_cases K:z=3
  .subst K
   go_wp2
   go_roundw
   case rel=>exact⟨k+1,ya,by go_num,by rw [E,F];rfl,trivial⟩
   simp [intOf];omega
  have:(z != 3)=true:=by simp [K]
  by_cases H:z=4
  .subst H
   go_wp2
   go_roundw
   case rel=>exact⟨k+1,ya,by go_num,by rw [E,F];rfl,trivial⟩
   simp [intOf];omega
  have:(z != 4)=true:=by simp [H]
  by_cases I:z=5
  .subst I
   go_wp2
   go_roundw
   case rel=>exact⟨k+1,ya,by go_num,by rw [E,F];rfl,trivial⟩
   simp [intOf];omega
  have:(z != 5)=true:=(by simp [I]);have N:=hI (show ZX z=false by simp [ZX,K,H,I])
  go_wp2
  go_ret;exact⟨by rw [E,F,N];rfl,rfl⟩
 have R:=hI (show ZG l=true by rw [E,show k=l.length by omega,qQ];rfl)
 go_wp2
 go_ret;exact⟨by rw [R];rfl,rfl⟩
mutual
def smallP:Pred->Int->Int->Bool × Int
 | .mk _ _ _ _ args,z,b=>if b - 1<0\/8<z then (false,b - 1) else smallL args (z+1) (b - 1)
def smallL:List Pred->Int->Int->Bool × Int
 | [],_,b=>(true,b)
 | p :: r,z,b=>if (smallP p z b).1 then smallL r z (smallP p z b).2 else (false,(smallP p z b).2)
end
mutual
theorem smallP_le:∀ (p:Pred) (z b:Int),0<=b->(smallP p z b).2<=b/\((smallP p z b).1=true->0<=(smallP p z b).2)
 | .mk _ _ _ _ args,z,b,E=>by
  unfold smallP;split
  .exact⟨yd,fun h=>by cases h⟩
  have:=smallL_le args (z+1) (b - 1) ya;exact⟨ya,this.2⟩
theorem smallL_le:∀ (l:List Pred) (z b:Int),0<=b->(smallL l z b).2<=b/\((smallL l z b).1=true->0<=(smallL l z b).2)
 | [],z,b,E=>by unfold smallL;exact⟨Int.le_refl _,fun _=>E⟩
 | p :: r,z,b,E=>by
  have F:=smallP_le p z b E;unfold smallL;split
  .rename_i h
   have H:=smallL_le r z _ (F.2 h);exact⟨ya,H.2⟩
  exact⟨F.1,fun h=>by cases h⟩
end
theorem smallL_drop (l:List Pred) (z b:Int) (k:Nat) (h:k<l):smallL (l.drop k) z b=if (smallP (l.getD k p0) z b).1 then smallL (l.drop (k+1)) z (smallP (l.getD k p0) z b).2 else (false,(smallP (l.getD k p0) z b).2):=by
 rw [qq h];have E:l.getD k p0=l[k]:=gD h;rw [E]
 conv=>lhs;unfold smallL
def SmallPost (g:Nat) (r:Bool × Int) (w:World) (e:Ending) (w':World):Prop:=e=.returned (.bool r.1)/\w'.heap[g]?=some (.cells #[.int .i64 r.2] 3 (0,0))/\w.grownBy w' (some g)
def bigT (t:Tab):Bool:=decide (8<t.cols.length)||decide (4<t.refs.length)||decide (4<t.checks.length)
def chkL (E:List Int->Pred->Int) (z:List Int):List Pred->Int
 | []=>0
 | p :: r=>if E z p≠0 then E z p else chkL E z r
def chkT (z:List Int->Pred->Int):List Tab->Int
 | []=>0
 | t :: r=>if chkL z (t.cols.map (·.kind)) t.checks≠0 then chkL z (t.cols.map (·.kind)) t.checks else chkT z r
def schF (z:List Int->Pred->Int) (s:Sch):Int :=
 if 8<s.tt.length then 2 else if s.tt.any bigT then 2
 else if s.vv<0\/1000<s.vv\/Zt [] s.tt=false\/ZV s.tt s.tt=false then 70 else chkT z s.tt
theorem Zio (z:List Int->Pred->Int) (E:List Int) (l:List Pred) (k:Nat) (h:k<l):chkL z E (l.drop k)=if z E (l.getD k p0)≠0 then z E (l.getD k p0) else chkL z E (l.drop (k+1)):=by
 rw [qq h];have F:l.getD k p0=l[k]:=gD h;rw [F];rfl
theorem Zin (z:List Int->Pred->Int) (l:List Tab) (k:Nat) (h:k<l):chkT z (l.drop k)=if chkL z ((l.getD k t0).cols.map (·.kind)) (l.getD k t0).checks≠0 then chkL z ((l.getD k t0).cols.map (·.kind)) (l.getD k t0).checks else chkT z (l.drop (k+1)):=by
 rw [qq h];have E:l.getD k t0=l[k]:=gD h;rw [E];rfl
theorem ZjC (l:List Tab) (k:Nat) (h:k<l):(l.take (k+1)).any bigT=((l.take k).any bigT||bigT (l.getD k t0)):=by
 have z:l.getD k t0=l[k]:=gD h;rw [qj h,List.any_append,z];simp
theorem ZjB (l:List Tab) (k:Nat) (h:k<l) (z:bigT (l.getD k t0)=true):l.any bigT=true:=by
 have E:l.getD k t0=l[k]:=gD h;rw [E] at z;exact List.any_eq_true.2 ⟨_,qJ h,z⟩
theorem ZfJ:∀ (l:List Tab) (E:List ByteArray),Zt E l=true->∀ t ∈ l,t.key<=t.cols
 | [],_,_,t,z=>by simp at z
 | F :: r,E,h,t,z=>by
  simp only [Zt,qE,qT] at h;rcases Qs.1 z with rfl | z
  .exact h.1.1.2
  exact ZfJ r _ h.2 t z
def ZbD (e m:Int):Int:=if e≠0 then e else if Zao m then 0 else 1
def ZR (s:Sch) (t m:Int):Option Row->List Row->Bool
 | _,[]=>true
 | p,r :: l=>ZB s t r m&&(match p with | none=>true | some q=>decide (cmpR (keyF s t q) (keyF s t r)<0))&&ZR s t m (some r) l
def stOk (s:Sch) (m:Int):Nat->St->Bool
 | _,[]=>true
 | t,l :: r=>ZR s t m none l&&stOk s m (t+1) r
def Zv (e:Int) (s:Sch) (m:Int) (st:St):Int :=
 if ZbD e m≠0 then ZbD e m else if 512<Zi st then 2 else if st.length≠s.tt.length then 80 else if stOk s m 0 st then 0 else 80
theorem ZhA (s:Sch) (m:Int) (st:St) (k:Nat) (h:k<st):stOk s m k (st.drop k)=(ZR s k m none (st.getD k [])&&stOk s m (k+1) (st.drop (k+1))):=by
 rw [qq h];have z:st.getD k []=st[k]:=(by simp [List.getD,h]);rw [z];rfl
def Zbj (l:List Row):Nat->Option Row
 | 0=>none
 | k+1=>some (l.getD k [])
theorem ZfA (s:Sch) (t m:Int) (l:List Row) (k:Nat) (h:k<l):ZR s t m (Zbj l k) (l.drop k)=(ZB s t (l.getD k []) m&&(match Zbj l k with | none=>true | some q=>decide (cmpR (keyF s t q) (keyF s t (l.getD k []))<0))&&ZR s t m (Zbj l (k+1)) (l.drop (k+1))):=by
 have z:l.getD k []=l[k]:=(by simp [List.getD,h]);rw [qq h]
 conv=>rhs;rw [show Zbj l (k+1)=some (l.getD k []) from rfl,z]
 rfl
def keyC (s:Sch) (c:Chg):Row:=if 0<c.old.length then keyF s c.tx c.old else keyF s c.tx c.new
def ZE (s:Sch) (m:Int) (c:Chg):Bool :=
 hasN s.tt c.tx&&!(decide (c.old.length=0)&&decide (c.new.length=0))&&(decide (c.old.length=0)||ZB s c.tx c.old m)&&(decide (c.new.length=0)||ZB s c.tx c.new m)
  && (decide (c.old.length=0)||decide (c.new.length=0)||(cmpR (keyF s c.tx c.old) (keyF s c.tx c.new) == 0))
def low (s:Sch) (t:Int) (key:Row):List Row->Nat
 | []=>0
 | r :: l=>if cmpR (keyF s t r) key<0 then low s t key l+1 else 0
def Asc (s:Sch) (t:Int) (l:List Row):Prop:=∀ i j,i<j->j<l.length->cmpR (keyF s t (l.getD i [])) (keyF s t (l.getD j []))<0
def ZeY (s:Sch) (c:Chg) (l:List Row):Bool:=decide (low s c.tx (keyC s c) l<l)&&(cmpR (keyF s c.tx (l.getD (low s c.tx (keyC s c) l) [])) (keyC s c) == 0)
def Zhi (s:Sch) (c:Chg) (l:List Row):Bool:=(ZeY s c l == decide (0<c.old.length))&&(!ZeY s c l||(cmpR (l.getD (low s c.tx (keyC s c) l) []) c.old == 0))
def putC (s:Sch) (c:Chg) (l:List Row):List Row :=
 l.take (low s c.tx (keyC s c) l)++(if 0<c.new.length then [c.new] else [])++(if ZeY s c l then l.drop (low s c.tx (keyC s c) l+1) else l.drop (low s c.tx (keyC s c) l))
def Zbk (s:Sch) (m:Int):Int->St->List Chg->Int × St
 | _,st,[]=>(0,st)
 | n,st,c :: r =>
  if ZE s m c=false then (71,[])
  else if Zhi s c (st.getD c.tx.toNat [])=false then (81,[])
  else if 512<n+((putC s c (st.getD c.tx.toNat [])).length - (st.getD c.tx.toNat []).length:Int) then (2,[])
  else Zbk s m (n+((putC s c (st.getD c.tx.toNat [])).length - (st.getD c.tx.toNat []).length:Int)) (st.set c.tx.toNat (putC s c (st.getD c.tx.toNat []))) r
def Zak (e:Int) (s:Sch) (m:Int) (st:St) (l:List Chg):Int × St:=if Zv e s m st≠0 then (Zv e s m st,[]) else Zbk s m (Zi st) st l
theorem Zkk (s:Sch) (t:Int) (key:Row):∀ l:List Row,low s t key l<=l
 | []=>qp _
 | r :: l=>by unfold low;have:=Zkk s t key l;split<;>simp<;>omega
theorem Zkj (s:Sch) (t:Int) (key:Row):∀ (l:List Row) (k:Nat),k<low s t key l->cmpR (keyF s t (l.getD k [])) key<0
 | [],k,h=>by simp [low] at h
 | r :: l,k,h=>by
  unfold low at h;split at h
  .rename_i z
   cases k with
   | zero=>exact z
   | succ k=>exact Zkj s t key l k ya
  omega
theorem Zkl (s:Sch) (t:Int) (key:Row):∀ (l:List Row),low s t key l<l->0<=cmpR (keyF s t (l.getD (low s t key l) [])) key
 | [],h=>by simp at h
 | r :: l,h=>by
  by_cases z:cmpR (keyF s t r) key<0
  .have e:low s t key (r :: l)=low s t key l+1:=(by rw [low,qr z]);rw [e] at h ⊢;exact Zkl s t key l (by simpa using h)
  have e:low s t key (r :: l)=0:=(by rw [low,qo z]);rw [e];simpa using z
theorem low_iff {l:List Row} (H:Asc s a l) {key:Row} (F:n<l.length):cmpR (keyF s a (l.getD n [])) key<0↔n<low s a key l:=by
 constructor
 .intro h;rcases qv n (low s a key l) with z | z
  .exact z
  have I:=Zkl s a key l ya;rcases Nat.lt_or_eq_of_le z with E | E
  .have K:=cmpR_is.lt_trans (H _ _ E F) h;omega
  rw [E] at I;omega
 exact Zkj s a key l n
def Zgo (H:List Int->Pred->Int) (z:List Int) (p:Pred):Prop :=
 ∀ (E:Option Addr) (F:Nat) (op cmp:Int) (l r:Opd) (args:List Pred) (A:Option Addr) (c:Nat) (S:Nat->Prop) (w:World),p=.mk op cmp l r args->IntS w S E z->PredS w S A args->(∀ b,S b->b<w)->args.length<=c->l.value.t.size<=9223372036854775807->r.value.t.size<=9223372036854775807 ->
  Calls prog 210 #[.slice E z F,.slice none 0 0,pAgg op cmp l r A args c] w (Zaz (H z p) w)
theorem ZhT (s:Sch) (k:Nat) (h:k<s.tt):Zav s k=(s.tt.getD k t0).cols.map (·.kind):=by
 unfold Zav;rw [qr (by simp [hasN];omega)];rfl
theorem tab_mem {l:List Tab} (h:n<l):l.getD n t0 ∈ l:=by simp [List.getD,h]
theorem pred_mem {l:List Pred} (h:n<l):l.getD n p0 ∈ l:=by simp [List.getD,h]
theorem ZeN {E:List Int->Pred->Int} (O:Nat) (s:Sch) (Z:TabS w S A s.tt) (M:∀ b,S b->b<w) (aT:∀ t ∈ s.tt,∀ p ∈ t.checks,Zgo E (t.cols.map (·.kind)) p) :
 Calls prog 155 #[sAgg s.vv A s.tt O] w (Zaz (schF E s) w):=by
 obtain⟨F,z⟩:=s;simp only at Z aT ⊢;have cj:=Z.len;replace Z:=hI Z;replace aT:=hI aT;have bw:=hI ((qa w w).alloc nR (.cells #[.int .i64 F,.slice A z O] 25))
 by_cases aD:8<z.length
 .have K:=hI (show schF E ⟨F,z⟩=2 by unfold schF;rw [qr aD]);go_enter func155,ntmps155
  go_wp2_with fail
  go_ret;exact⟨by rw [K.out];rfl,bw⟩
 go_enter func155,ntmps155
 go_wp2_with fail
 go_loopw [18] (fun i wr=>∃ k:Nat,k<=z/\i=.int .i64 k/\(z.take k).any bigT=false/\Below w w wr/\wr.cell? ⟨w,0,none⟩=some (.int .i64 F)/\wr.cell? ⟨w,1,none⟩=some (.slice A z O)/\w.heap.size<wr) (fun i _=>z.length - (intOf i).toNat)
 case atStart=>exact⟨0,qk _,rfl,yb,bw,yb,yb,yb⟩
 obtain⟨k,bR,rfl,R,ab,aq,aw,ac⟩:=hrel;replace R:=hI R;replace ab:=hI ab
 by_cases ah:k<z
 .obtain⟨bl,be,rfl,ai,bb,bm,aL,c1,c2,aR,bi⟩:=(Z.keep (qS ab M)).at_ ah;obtain⟨aI,az,aB,aG,aC,aX,aP,aa,-,-,-,-⟩:=bi;have bK:=aX.len;have bt:=aP.len;have aA:=aa.len;have af:=hI (ZjC z k ah);have aW:=hI (ZjB z k ah);have N:=hI (ab.alloc ya (.cells #[.string (z.getD k t0).name,.slice bb (z.getD k t0).cols.length c1,.int .i64 (z.getD k t0).key,.slice bm (z.getD k t0).refs.length c2,.slice aL (z.getD k t0).checks.length aR] 104));clear aX aP aa;generalize z.getD k t0=bf at aI az aB aG aC af aW bK bt aA N;obtain⟨b0,ay,bN,aZ,L⟩:=bf;simp only at aI az aB aG aC bK bt aA N
  by_cases bT:8<ay.length
  .have bY:decide (8<(ay:Int))=true:=yd;have K:=hI (show schF E ⟨F,z⟩=2 by unfold schF;rw [qo aD,qr (aW.out (by simp [bigT,bT]))])
   go_wp2_with fail
   go_ret;exact⟨by rw [K.out];rfl,N⟩
  have bY:decide (8<(ay:Int))=false:=by simp;omega
  by_cases b2:4<aZ.length
  .have bU:decide (4<(aZ:Int))=true:=yd;have K:=hI (show schF E ⟨F,z⟩=2 by unfold schF;rw [qo aD,qr (aW.out (by simp [bigT,b2]))])
   go_wp2_with fail
   go_ret;exact⟨by rw [K.out];rfl,N⟩
  have bU:decide (4<(aZ:Int))=false:=by simp;omega
  by_cases bP:4<L.length
  .have bM:decide (4<(L:Int))=true:=yd;have K:=hI (show schF E ⟨F,z⟩=2 by unfold schF;rw [qo aD,qr (aW.out (by simp [bigT,bP]))])
   go_wp2_with fail
   go_ret;exact⟨by rw [K.out];rfl,N⟩
  have bM:decide (4<(L:Int))=false:=by simp;omega
  go_wp2_with fail
  go_roundw
  case rel=>exact⟨k+1,ya,by go_num,by rw [af.out,R.out];simp [bigT];omega,N,by rw [ql (qd _ _ _ ac)];exact aq,by rw [ql (qd _ _ _ ac)];exact aw,yd⟩
  simp [intOf];omega
 have bF:=hI (show z.any bigT=false by have:=R.out;rwa [qs ya] at this)
 have b1:=hI (show ∀ t ∈ z,t.cols.length<=8 by
  intro t bL;have:=List.any_eq_false.1 bF t bL;simp [bigT] at this;omega)
 have aF:=hI (show schF E ⟨F,z⟩=if F<0\/1000<F\/Zt [] z=false\/ZV z z=false then 70 else chkT E z by unfold schF;rw [qo aD,qo (by rw [bF.out];simp)]);clear R
 by_cases b6:F<0
 .have K:=hI (show schF E ⟨F,z⟩=70 by rw [aF.out,qr (.inl b6)])
  go_wp2_with fail
  go_ret;exact⟨by rw [K.out];rfl,ab⟩
 by_cases bQ:1000<F
 .have K:=hI (show schF E ⟨F,z⟩=70 by rw [aF.out,qr (.inr (.inl bQ))])
  go_wp2_with fail
  go_ret;exact⟨by rw [K.out];rfl,ab⟩
 go_wp2_with fail
 refine(named_any (A:=A) O ⟨F,z⟩ (S:=S) (Z.keep (qS ab M)) (fun b I=>yl (M b I)) (by simp only;omega) b1).mono ?_;rintro e bk ⟨rfl,aK⟩;have aU:=hI (ab.trans (aK.mono ya));have aV:bk.cell? ⟨w,0,none⟩=some (.int .i64 F):=c9Q aK ac aq;have aM:bk.cell? ⟨w,1,none⟩=some (.slice A z O):=c9Q aK ac aw;have an:w.heap.size<bk:=(yl aK.size);simp only;clear aK aq aw ab ac
 by_cases ax:Zt [] z=true
 .have bX:=hI (ZfJ z [] ax);have bZ:=hI ax;rw [ax];clear ax
  go_wp2_with fail
  refine(referring_any (A:=A) O ⟨F,z⟩ (S:=S) (Z.keep (qS aU M)) (fun b I=>yl (M b I)) bX).mono ?_;rintro e w2 ⟨rfl,ai⟩;have bh:=hI (aU.trans (ai.mono ya));have bn:w2.cell? ⟨w,0,none⟩=some (.int .i64 F):=c9Q ai an aV;have bC:w2.cell? ⟨w,1,none⟩=some (.slice A z O):=c9Q ai an aM;have bz:w.heap.size<w2:=(yl ai.size);simp only;clear ai aV aM aU an
  by_cases aJ:ZV z z=true
  .have bo:=hI (show schF E ⟨F,z⟩=chkT E z by rw [aF.out,qo (by rw [bZ.out,aJ];simp;omega)]);rw [aJ];clear aJ
   go_wp2_with fail
   go_loopw [60] (fun i wr=>∃ k:Nat,k<=z/\i=.int .i64 k/\chkT E z=chkT E (z.drop k)/\Below w w wr/\wr.cell? ⟨w,0,none⟩=some (.int .i64 F)/\wr.cell? ⟨w,1,none⟩=some (.slice A z O)/\w.heap.size<wr) (fun i _=>z.length - (intOf i).toNat)
   case atStart=>exact⟨0,qk _,rfl,yb,bh,bn,bC,bz⟩
   clear bh bn bC bz;obtain⟨k,bR,rfl,R,ap,aq,aw,ac⟩:=hrel;replace R:=hI R;replace ap:=hI ap
   by_cases ah:k<z
   .obtain⟨bl,be,rfl,ai,bb,bm,aL,c1,c2,aR,bi⟩:=(Z.keep (qS ap M)).at_ ah;obtain⟨aI,az,aB,aG,aC,aX,aP,aa,-,-,-,-⟩:=bi;have aA:=aa.len;replace aa:=hI aa;have af:=hI (Zin E z k ah);have aS:=hI (ZhT ⟨F,z⟩ k ah);have aO:=hI (aT _ (tab_mem ah));have N:=hI (ap.alloc ya (.cells #[.string (z.getD k t0).name,.slice bb (z.getD k t0).cols.length c1,.int .i64 (z.getD k t0).key,.slice bm (z.getD k t0).refs.length c2,.slice aL (z.getD k t0).checks.length aR] 104));clear aX aP;simp only at aS;generalize z.getD k t0=bf at aI az aB aG aC af aa aS aO aA N;obtain⟨b0,ay,bN,aZ,L⟩:=bf;simp only at aI az aB aG aC aA N aa aS aO af
    go_wp2_with fail
    refine(kinds_any O ⟨F,z⟩ (a:=k) (S:=S) (Z.keep (qS N M)) (fun b I=>by have:=M b I;simp;omega)).mono ?_;rintro e ae ⟨b3,bS,rfl,aN,bq,-,aj⟩;rw [aS.out] at aN bq ⊢;have bB:=hI (N.trans (aj.mono yd));have aV:ae.cell? ⟨w,0,none⟩=some (.int .i64 F):=c9K aj ((ql (qd _ _ _ ac)).trans aq);have aM:ae.cell? ⟨w,1,none⟩=some (.slice (some ⟨bl,be,none⟩) z.length O):=c9K aj ((ql (qd _ _ _ ac)).trans aw);have cu:ae.cell? ⟨wr,4,none⟩=some (.slice aL L aR):=c9Q aj yb yb;have an:w.heap.size<ae:=(by have:=aj.size;simp at this;omega);have b8:wr.heap.size<ae:=(by have:=aj.size;simp at this;omega);have bp:=hI aN;have bO:=aN.len;generalize ay.map (·.kind)=U at bp af aO bq bO;clear aj aq aw aN
    go_wp2_with fail
    go_loopw [71] (fun i bW=>∃ j:Nat,j<=L/\i=.int .i64 j/\chkL E U L=chkL E U (L.drop j)/\Below ae ae bW) (fun i _=>L.length - (intOf i).toNat)
    case atStart=>exact⟨0,qk _,rfl,yb,qa _ _⟩
    obtain⟨j,ch,rfl,aH,aY⟩:=hrel;replace aH:=hI aH;have aQ:=hI aY;have ci:=aY.size;have bI:=hI (bB.trans (aY.mono ya));clear aY
    by_cases bc:j<L
    .obtain⟨br,cc,rfl,b5,au,am,av,ar,ao,A',b4,bH,H⟩:=(aa.keep (fun b I=>(bI.block b (M b I)).trans (ap.block b (M b I)).symm)).at_ bc;have aE:=hI (Zio E U L j bc);have bD:=hI (aO _ (pred_mem bc));rw [bH] at aE bD;have f1:=H.fop;have cf:=H.fcmp;have f3:=H.lk;have cg:=H.li;have ck:=H.lvk;have ca:=H.lvi;have cp:=H.lvt;have cm:=H.rk;have cq:=H.ri;have ce:=H.rvk;have cd:=H.rvi;have ct:=H.rvt;have co:=H.fargs;replace H:=hI H;have cr:br<wr:=(yl (M br b5));clear bH
     go_wp2_with fail
     refine(bD b3 bS au am av ar ao A' b4 (fun b=>b<ae) _ rfl ((bp.more (fun b I=>I.2)).keep (qS (aQ.alloc ya _) (fun b I=>I))) ((H.pS.more (fun b I=>yl (M b I))).keep (fun b I=>qd _ _ _ ya)) (fun b I=>yd) H.pc H.lt H.rt).mono ?_;rintro e cn ⟨rfl,bJ⟩;have bG:=hI ((aQ.alloc ya _).trans (bJ.mono yd));clear bJ
     by_cases ak:E U (.mk au am av ar ao)=0
     .rw [ak] at aE ⊢;clear ak
      go_wp2_with fail
      go_roundw
      case rel=>exact⟨j+1,ya,by go_num,by rw [aH.out,aE.out];rfl,bG⟩
      simp [intOf];omega
     have bE:=hI (show chkL E U L=E U (.mk au am av ar ao) by rw [aH.out,aE.out,qr ak]);have bu:=hI (show chkT E z=E U (.mk au am av ar ao) by rw [R.out,af.out,bE.out,qr ak]);have hd:(E U (.mk au am av ar ao) != 0)=true:=(by simp [ak]);clear bE aE;generalize E U (.mk au am av ar ao)=b9 at hd bu ak;clear ak
     go_wp2_with fail
     go_ret;exact⟨by rw [bo.out,bu.out];rfl,bB.trans (bG.mono ya)⟩
    have bj:=hI (show chkL E U L=0 by rw [aH.out,show j=L.length by omega,qQ];rfl);have bV:wr.cell? ⟨w,0,none⟩=some (.int .i64 F):=c9Q aQ an aV;have b7:wr.cell? ⟨w,1,none⟩=some (.slice (some ⟨bl,be,none⟩) z.length O):=c9Q aQ an aM
    go_wp2_with fail
    go_roundw
    case rel=>exact⟨k+1,ya,by go_num,by rw [R.out,af.out,bj.out];rfl,bI,bV,b7,ya⟩
    simp [intOf];omega
   have bj:=hI (show chkT E z=0 by rw [R.out,show k=z.length by omega,qQ];rfl)
   go_wp2_with fail
   go_ret;exact⟨by rw [bo.out,bj.out];rfl,ap⟩
  have ba:ZV z z=false:=(by simpa using aJ);have K:=hI (show schF E ⟨F,z⟩=70 by rw [aF.out,qr (.inr (.inr (.inr ba)))]);rw [ba];clear aJ ba
  go_wp2_with fail
  go_ret;exact⟨by rw [K.out];rfl,bh⟩
 have bg:Zt [] z=false:=(by simpa using ax);have K:=hI (show schF E ⟨F,z⟩=70 by rw [aF.out,qr (.inr (.inr (.inl bg)))]);rw [bg];clear ax bg
 go_wp2_with fail
 go_ret;exact⟨by rw [K.out];rfl,aU⟩
def ZbZ (z:List Int->Pred->Int) (s:Sch):Prop:=∀ t ∈ s.tt,∀ p ∈ t.checks,Zgo z (t.cols.map (·.kind)) p
theorem Zji {M:List Int->Pred->Int} (R:Nat) (Z:TabS w S A s.tt) (aa:∀ b,S b->b<w) (W:ZbZ M s) :
 Calls prog 98 #[sAgg s.vv A s.tt R,.int .i64 a] w (Zaz (ZbD (schF M s) a) w):=by
 obtain⟨H,z⟩:=yp (schF M s);rw [z];replace z:=hI z;replace Z:=hI Z;replace W:=hI W;have O:=hI ((qa w w).alloc nR (.cells #[.int .i64 s.vv,.slice A s.tt R] 25));go_enter func98,ntmps98
 go_wp2_with fail
 refine(ZeN R s (Z.keep (qS O aa)) (fun b ac=>by have:=aa b ac;simp;omega) W).mono ?_;rintro e af ⟨rfl,ab⟩;have E:=hI (O.trans (ab.mono yb));clear ab O;rw [z];clear z
 by_cases N:H=0
 .subst N
  by_cases I:a=1
  .subst I
   go_wp2
   go_ret;exact⟨rfl,E⟩
  by_cases F:a=2
  .subst F
   go_wp2
   go_ret;exact⟨rfl,E⟩
  by_cases L:a=3
  .subst L
   go_wp2
   go_ret;exact⟨rfl,E⟩
  have U:=hI (show ZbD 0 a=1 by simp [ZbD,Zao,I,F,L]);have ae:(a != 1)=true:=(by simpa using I);have:(a != 2)=true:=(by simpa using F);have:(a != 3)=true:=(by simpa using L);clear I F L
  go_wp2
  go_ret;exact⟨by rw [U];rfl,E⟩
 have U:=hI (show ZbD H a=H by simp [ZbD,N]);have ae:(H != 0)=true:=(by simpa using N);clear N
 go_wp2
 go_ret;exact⟨by rw [U];rfl,E⟩
end Go.Proofs.YtjadnfodboepeaaGreat
