import Derived.Test.YtkpjjfhfbpfjpaaK4e30bf
import Derived.Test.YtkpjjfhfbpfjpaaK660fb2
import Derived.Test.YtkpjjfhfbpfjpaaK42e91f
import Derived.Test.YtkpjjfhfbpfjpaaK5cc749
import Derived.Test.YtkpjjfhfbpfjpaaK740de7
set_option linter.unusedVariables false
set_option linter.unusedSimpArgs false
set_option maxRecDepth 100000
set_option maxHeartbeats 8000000
namespace Go.Proofs.Ytkpjjfhfbpfjpaa
open Go.RowKit
def ZfQ (e:Int) (s:Sch) (m:Int) (a b:St):Int × List Chg:=if Zbo e s m a≠0 then (Zbo e s m a,[]) else if Zbo e s m b≠0 then (Zbo e s m b,[]) else (0,Zbu s a b)
theorem Zea (c:Chg) (l:List Chg):(addC c l).length≤l.length+1:=by unfold addC;split<;>simp
section
variable (s:Sch) (t:Int)
theorem ZgO (x:Row) (ra:List Row):ZaD s t (x :: ra) []=addC ⟨t,x,[]⟩ (ZaD s t ra []):=by rw [ZaD]
theorem ZgQ (y:Row) (rb:List Row):ZaD s t [] (y :: rb)=addC ⟨t,[],y⟩ (ZaD s t [] rb):=by rw [ZaD]
theorem ZhE {x y:Row} (ra rb:List Row) (h:cmpR (keyF s t x) (keyF s t y)<0):ZaD s t (x :: ra) (y :: rb)=addC ⟨t,x,[]⟩ (ZaD s t ra (y :: rb)):=by rw [ZaD,if_pos h]
theorem ZhF {x y:Row} (ra rb:List Row) (h:0<cmpR (keyF s t x) (keyF s t y)):ZaD s t (x :: ra) (y :: rb)=addC ⟨t,[],y⟩ (ZaD s t (x :: ra) rb):=by rw [ZaD,if_neg (by omega),if_pos h]
theorem ZhG {x y:Row} (ra rb:List Row) (h:cmpR (keyF s t x) (keyF s t y)=0):ZaD s t (x :: ra) (y :: rb)=addC ⟨t,x,y⟩ (ZaD s t ra rb):=by rw [ZaD,if_neg (by omega),if_neg (by omega)]
theorem ZgP:ZaD s t [] []=[]:=by rw [ZaD]
theorem ZcB:∀ a b:List Row,(ZaD s t a b).length≤a.length+b.length
 | [],[]=>by rw [ZgP];simp
 | x :: a,[]=>by
  rw [ZgO];have h1:=Zea ⟨t,x,[]⟩ (ZaD s t a []);have h2:=ZcB a [];simp only [List.length_cons,List.length_nil] at h2 ⊢;omega
 | [],y :: b=>by
  rw [ZgQ];have h1:=Zea ⟨t,[],y⟩ (ZaD s t [] b);have h2:=ZcB [] b;simp only [List.length_cons,List.length_nil] at h2 ⊢;omega
 | x :: a,y :: b=>by
  by_cases c1:cmpR (keyF s t x) (keyF s t y)<0
  · rw [ZhE s t a b c1];have h1:=Zea ⟨t,x,[]⟩ (ZaD s t a (y :: b));have h2:=ZcB a (y :: b);simp only [List.length_cons] at h2 ⊢;omega
  · by_cases c2:0<cmpR (keyF s t x) (keyF s t y)
    · rw [ZhF s t a b c2];have h1:=Zea ⟨t,[],y⟩ (ZaD s t (x :: a) b);have h2:=ZcB (x :: a) b;simp only [List.length_cons] at h2 ⊢;omega
    · rw [ZhG s t a b (by omega)];have h1:=Zea ⟨t,x,y⟩ (ZaD s t a b);have h2:=ZcB a b;simp only [List.length_cons] at h2 ⊢;omega
termination_by a b=>a.length+b.length
theorem Zfg:∀ (a b:St) (t:Nat),(ZbF s t a b).length≤Zak a+Zak b
 | [],b,t=>by simp [ZbF]
 | x :: a,b,t=>by
  have h1:=ZcB s (t:Int) x (b.headD []);have h2:=Zfg a b.tail (t+1);have h3:Zak b=(b.headD []).length+Zak b.tail:=(by cases b<;>simp [Zak]);simp only [ZbF,List.length_append,Zak];omega
end
def ZeF:Value→Nat
 | .slice _ n _=>n
 | _=>0
structure DMid (wi W:World) (xb:Nat) (X:List Value):Prop where
 bel:Below xb wi W
 xc:W.heap[xb]?=some (.cells X.toArray 53 (0,0))
abbrev RowD (W:World) (xb:Nat) (A:Option Addr) (c:Nat) (r:Row):Prop:=r.length≤c∧RowS W (fun b=>xb<b∧b<W.heap.size) A r
section
variable {wi W W':World} {xb:Nat} {X:List Value} {A:Option Addr} {c:Nat} {r:Row}
theorem DMid.start (wi:World) (X:List Value):DMid wi (wi.alloc (.cells X.toArray 53)) wi.heap.size X:=⟨(Below.refl _ _).alloc nR _,heap_alloc_new wi _⟩
theorem DMid.below (h:DMid wi W xb X) (hb:Below W.heap.size W W'):DMid wi W' xb X:=⟨h.bel.trans (hb.mono (Nat.le_of_lt (Zad h.xc))),(hb.block xb (Zad h.xc)).trans h.xc⟩
theorem DMid.set (h:DMid wi W xb X) (k:Nat) (v:Value):DMid wi (W.setCell ⟨xb,k,none⟩ v) xb (X.set k v):=⟨h.bel.setCell nR _,Zaf h.xc⟩
theorem DMid.cell (h:DMid wi W xb X) (k:Nat) {v:Value} (hv:X[k]?=some v):W.cell? ⟨xb,k,none⟩=some v:=by
 rw [cell_of_row W xb k _ _ _ h.xc];simpa using hv
theorem DMid.frozen (h:DMid wi W xb X) (k:Nat):W.frozen? ⟨xb,k,none⟩=false:=by simp [World.frozen?,h.xc]
theorem DMid.lt (h:DMid wi W xb X):xb<W.heap.size:=Zad h.xc
theorem RowD.keep (h:RowD W xb A c r) (hf:Fr (fun b=>b=xb) W W'):RowD W' xb A c r :=
 ⟨h.1,(h.2.keep (hf.same (fun b hb=>⟨hb.2,by have:=hb.1;omega⟩))).more (fun b hb=>⟨hb.1,by have:=hb.2;have:=hf.size;omega⟩)⟩
theorem RowD.nil_:RowD W xb none 0 []:=⟨Nat.zero_le _,RowS.nil_⟩
theorem Zdj {base:Nat} (h:W.ownsRow base 51 3 (.slice A r.length c) r.length (Zar r)) (hr:RowOk r) (hb:xb<base):RowD W xb A c r:=⟨Zby h rfl,(ZcW hr h).more (fun b hb'=>⟨by have:=hb'.1;omega,hb'.2⟩)⟩
theorem Fr.one (k:Nat) (v:Value):Fr (fun b=>b=xb) W (W.setCell ⟨xb,k,none⟩ v):=(Fr.refl _ W).setCell v (fun _=>rfl)
end
theorem RowsS.cons {w:World} {S:Nat→Prop} {A:Option Addr} {x:Row} {ra:List Row} (h:RowsS w S A (x :: ra)):∃ b o XA xc,A=some ⟨b,o,none⟩∧S b∧w.cell? ⟨b,o,none⟩=some (.slice XA x.length xc)∧x.length≤xc∧RowS w S XA x∧RowsS w S (some ⟨b,o+1,none⟩) ra:=by
 obtain⟨b,o,e,hb,XA,xc,h1,h2,h3⟩:=h.at_ (k:=0) (by simp);simp only [Nat.add_zero,List.getD_cons_zero] at h1 h2 h3;refine⟨b,o,XA,xc,e,hb,h1,h2,h3,?_,fun hn=>⟨b,o+1,rfl,hb,?_⟩⟩
 · have:=h.1;simp only [List.map_cons,Dat.bytesAll] at this;omega
 · obtain⟨b',o',e',_,h4⟩:=h.2 (by simp);rw [e] at e';injection e' with e';injection e' with e1 e2;subst e1 e2;rw [List.map_cons] at h4;unfold Dat.HeldAll at h4;exact h4.2
theorem RowsS.behind {w:World} {S:Nat→Prop} {b o c n:Nat} {ra:List Row} {A2:Option Addr} (h:RowsS w S (some ⟨b,o+1,none⟩) ra) (hn:n=ra.length+1) (hc:n≤c) (hA:(if c=1 then (some ⟨b,o,none⟩:Option Addr) else some ⟨b,o+1,none⟩)=A2):RowsS w S A2 ra:=by
 subst hA
 by_cases h1:c=1
 · have:ra=[]:=List.eq_nil_of_length_eq_zero (by omega);subst this;exact RowsS.nil_
 · rw [if_neg h1];exact h
theorem Zgi (pc:List Int→Pred→Int) (A0:Option Addr) (c0':Nat) (s:Sch) (m:Int) (AA:Option Addr) (ca:Nat) (sa:St) (BB:Option Addr) (cb:Nat) (sb:St) (S:Nat→Prop) (w:World) (hs:TabS w S A0 s.tabs) (hsa:StS w S AA sa) (hsb:StS w S BB sb) (hS:∀ b,S b→b<w.heap.size) (hpc:Zcu pc s) (hca:Zak sa≤4611686018427387904) (hcb:Zak sb≤4611686018427387904) :
  Calls Try.prog 38 #[sAgg s.version A0 s.tabs.length c0',.int .i64 m,Zay AA sa.length ca,Zay BB sb.length cb] w (NetPost (ZfQ (schF pc s) s m sa sb) w):=by
 have hsl:=hs.len;have hsal:=hsa.len;have hsbl:=hsb.len;have HS:=hI hs;have HSA:=hI hsa;have HSB:=hI hsb;obtain⟨i0,hi,hz0,hz1,hz2⟩:=info_parts ZhJ;obtain⟨er1,her1⟩:∃ er,Zbo (schF pc s) s m sa=er:=⟨_,rfl⟩;obtain⟨er2,her2⟩:∃ er,Zbo (schF pc s) s m sb=er:=⟨_,rfl⟩;have HRF:=hI (show ZfQ (schF pc s) s m sa sb=if er1≠0 then (er1,[]) else if er2≠0 then (er2,[]) else (0,Zbu s sa sb) by unfold ZfQ;rw [her1,her2]);have HER1:=hI her1;have HER2:=hI her2;have HOK1:=hI (show er1=0→Zak sa≤512∧sa.length=s.tabs.length from fun h=>by have:=Zgk (her1.trans h);exact⟨this.1,this.2.1⟩);have HOK2:=hI (show er2=0→Zak sb≤512∧sb.length=s.tabs.length from fun h=>by have:=Zgk (her2.trans h);exact⟨this.1,this.2.1⟩);clear hs hsa hsb her1 her2;have HB0:=hI ((((Below.refl w.heap.size w).alloc nR (.cells #[.int .i64 s.version,.slice A0 s.tabs.length c0'] 25)).alloc (by simp) (.cells #[.slice AA sa.length ca] 56)).alloc (by simp;omega) (.cells #[.slice BB sb.length cb] 56));go_enter Try.func38,Try.ntmps38
 go_wp2_with fail
 refine(Zec pc A0 c0' s m AA ca sa S _ (HS.out.keep (Same.of_below HB0.out hS)) (HSA.out.keep (Same.of_below HB0.out hS)) (fun b hb=>by have:=hS b hb;simp;omega) hpc hca).mono ?_;rintro e w1 ⟨rfl,hb1⟩;rw [HER1.out];have HB1:=hI (HB0.out.trans (hb1.mono (by simp;omega)));have x0:w1.cell? ⟨w.heap.size,0,none⟩=some (.int .i64 s.version):=c9K hb1 ((Zah (by simp;omega)).trans ((Zah (by simp)).trans (Zae rfl rfl)));have x1:w1.cell? ⟨w.heap.size,1,none⟩=some (.slice A0 s.tabs.length c0'):=c9K hb1 ((Zah (by simp;omega)).trans ((Zah (by simp)).trans (Zae rfl rfl)));have x2:w1.cell? ⟨w.heap.size+1,0,none⟩=some (.slice AA sa.length ca):=c9K hb1 ((Zah (by simp)).trans (Zae (by simp) rfl));have x3:w1.cell? ⟨w.heap.size+2,0,none⟩=some (.slice BB sb.length cb):=c9K hb1 (Zae (by simp) rfl);have hw1:w.heap.size+2<w1.heap.size:=(by have:=hb1.size;simp at this;omega);clear hb1 HB0
 by_cases he1:er1=0
 · subst he1;obtain⟨hc1,hl1⟩:=HOK1.out rfl
   go_wp2_with fail
   refine(Zec pc A0 c0' s m BB cb sb S _ (HS.out.keep (Same.of_below HB1.out hS)) (HSB.out.keep (Same.of_below HB1.out hS)) (fun b hb=>by have:=hS b hb;omega) hpc hcb).mono ?_;rintro e w2 ⟨rfl,hb2⟩;rw [HER2.out];have HB2:=hI (HB1.out.trans (hb2.mono (by omega)));have HX0:=hI (c9K hb2 x0);have HX1:=hI (c9K hb2 x1);have HX2:=hI (c9K hb2 x2);have HX3:=hI (c9K hb2 x3);have hw2:w.heap.size+2<w2.heap.size:=(by have:=hb2.size;omega);clear hb2 HB1 x0 x1 x2 x3 hw1
   by_cases he2:er2=0
   · subst he2;obtain⟨hc2,hl2⟩:=HOK2.out rfl;have HLL:=hI hl1;have HLB:=hI (hl2.trans hl1.symm);have HDL:=hI (show (Zbu s sa sb).length≤1024 from by have:=Zfg s sa sb 0;show (ZbF s 0 sa sb).length≤1024;omega);clear hl1 hl2;have y2:=HX2.out
     go_wp2_with fail
     clear y2
     go_loopw [12,35] (fun out i wr=>∃ (k:Nat) (l:List Chg) (A1:Option Addr) (c1:Nat),k≤sa.length∧i=.int .i64 k∧out=.slice A1 l.length c1∧Mk wr w2.heap.size (fun _=>False) 53 3 (.slice A1 l.length c1) (l.map Zal)∧Below w2.heap.size w2 wr∧l++ZbF s k (sa.drop k) (sb.drop k)=Zbu s sa sb) (fun _ i _=>sa.length - (intOf i).toNat)
     case atStart=>exact⟨0,[],none,0,Nat.zero_le _,rfl,rfl,Mk.start (fun b hb=>hb.elim) nR _ _,Below.refl _ _,rfl⟩
     case round =>
      obtain⟨wo,rfl⟩:∃ wo:World,wo=wr:=⟨_,rfl⟩;obtain⟨k,l,AL,cl,hk,rfl,rfl,hmk,hbo,htg⟩:=hrel;have HMK:=hI hmk;have HBO:=hI hbo;have HTG:=hI htg;have hwo:=hbo.size;clear hmk hbo htg
      by_cases hlt:k<sa.length
      · have HSO:=hI (show Same S w wo from (Same.of_below HB2.out hS).trans (Same.of_below HBO.out (fun b hb=>by have:=hS b hb;omega)));have hSo:∀ b,S b→b<wo.heap.size:=(fun b hb=>by have:=hS b hb;omega);have hlb:k<sb.length:=(by rw [HLB.out];exact hlt);obtain⟨b1,o1,rfl,hb1,A1,c1,d1,d2,d3⟩:=HSA.out.at_ hlt;obtain⟨b2,o2,rfl,hb2,A2,c2,f1,f2,f3⟩:=HSB.out.at_ hlb;have HRA:=hI d3;have HRB:=hI f3;have hd2:=d2;have hf2:=f2;have HSTEP:=hI (diffS_drop s sa sb k hlt);clear d2 d3 f2 f3;generalize sa.getD k []=ra0 at d1 HRA hd2 HSTEP;generalize sb.getD k []=rb0 at f1 HRB hf2 HSTEP;have u0:wo.cell? ⟨w.heap.size+1,0,none⟩=some (.slice (some ⟨b1,o1,none⟩) sa.length ca):=c9J HBO.out HX2.out;have u1:=(HSO.out.cell hb1 (o:=o1+k)).trans d1;have u2:wo.cell? ⟨w.heap.size+2,0,none⟩=some (.slice (some ⟨b2,o2,none⟩) sb.length cb):=c9J HBO.out HX3.out;have u3:=(HSO.out.cell hb2 (o:=o2+k)).trans f1;have hki:(k:Int)<sa.length:=(by omega);have hki2:(k:Int)<sb.length:=(by omega);clear d1 f1
        go_wp2_with fail
        refine tS (fun w'=>w'.cell? ⟨w.heap.size+1,0,none⟩=some (.slice (some ⟨b1,o1,none⟩) sa.length ca)∧w'.cell? ⟨b1,o1+k,none⟩=some (.slice A1 ra0.length c1)∧w'.cell? ⟨w.heap.size+2,0,none⟩=some (.slice (some ⟨b2,o2,none⟩) sb.length cb)∧w'.cell? ⟨b2,o2+k,none⟩=some (.slice A2 rb0.length c2)) 12 12 fun Q' HQ HP=>?_;refine tX 0 38 1 39 2 40 3 41 (bA 12 15) HP.out ⟨u0,u1,u2,u3⟩ ?_;refine tX 4 42 5 43 6 44 7 45 (bA 12 255) HP.out ⟨u0,u1,u2,u3⟩ ?_;refine tX 8 46 9 47 10 14 11 15 (bA 12 4095) HP.out ⟨u0,u1,u2,u3⟩ ?_;refine tE HQ ?_;clear HQ HP Q';clear u0 u1 u2 u3 hki hki2;have HTG1:=hI (show l++(ZaD s (k:Int) ra0 rb0++ZbF s (k+1) (sa.drop (k+1)) (sb.drop (k+1)))=Zbu s sa sb by rw [←HSTEP.out];exact HTG.out);obtain⟨na0,hna0⟩:∃ n,ra0.length=n:=⟨_,rfl⟩;obtain⟨nb0,hnb0⟩:∃ n,rb0.length=n:=⟨_,rfl⟩;rw [hna0] at hd2;rw [hnb0] at hf2;rw [hna0,hnb0];have HNA0:=hI hna0.symm;have HNB0:=hI hnb0.symm;clear hna0 hnb0;have HMKD:=hI (HMK.out.below ((Below.refl wo.heap.size wo).drew));have HBOD:=hI (HBO.out.drew);clear HMK HBO HTG HSTEP
        go_wp2_with fail
        go_loopw [12,14,15] (fun out o n wi=>∃ (l:List Chg) (A1:Option Addr) (c1:Nat) (ra rb:List Row) (OA:Option Addr) (oc na:Nat) (NB:Option Addr) (nc nb:Nat),out=.slice A1 l.length c1∧o=.slice OA na oc∧n=.slice NB nb nc∧na=ra.length∧nb=rb.length∧na≤oc∧nb≤nc∧RowsS w S OA ra∧RowsS w S NB rb∧Mk wi w2.heap.size (fun _=>False) 53 3 (.slice A1 l.length c1) (l.map Zal)∧Below w2.heap.size w2 wi∧l++(ZaD s (k:Int) ra rb++ZbF s (k+1) (sa.drop (k+1)) (sb.drop (k+1)))=Zbu s sa sb) (fun _ o n _=>ZeF o+ZeF n)
        case atStart=>exact⟨l,AL,cl,ra0,rb0,A1,c1,na0,A2,c2,nb0,rfl,rfl,rfl,HNA0.out,HNB0.out,hd2,hf2,HRA.out,HRB.out,HMKD.out,HBOD.out,HTG1.out⟩
        case round =>
         clear HNA0 HNB0 HRA HRB HMKD HBOD HTG1 hd2 hf2 HSO;obtain⟨wi,rfl⟩:∃ wi:World,wi=wr:=⟨_,rfl⟩;obtain⟨l,AL,cl,ra,rb,OA,oc,na,NB,nc,nb,rfl,rfl,rfl,hna0,hnb0,hoc,hnc,hra,hrb,hmk,hbi,htg⟩:=hrel;have HNA:=hI hna0;have HNB:=hI hnb0;have HRA:=hI hra;have HRB:=hI hrb;have HMK:=hI hmk;have HBI:=hI hbi;have HTG:=hI htg;have hwi:=hbi.size;have HSI:=hI (show Same S w wi from (Same.of_below HB2.out hS).trans (Same.of_below HBI.out (fun b hb=>by have:=hS b hb;omega)));have hSi:∀ b,S b→b<wi.heap.size:=(fun b hb=>by have:=hS b hb;omega);have hll:l.length≤1024:=(by have h9:=congrArg List.length htg;rw [List.length_append] at h9;have:=HDL.out;omega);clear hra hrb hmk hbi htg
         by_cases hna:0<na
         · obtain⟨x,ra,rfl⟩:∃ x ra',ra=x :: ra':=by
             cases ra with
             | nil=>simp at hna0;omega
             | cons x r=>exact⟨x,r,rfl⟩
           obtain⟨bx,ox,XA,xc,rfl,hbx,ex,hxc,hxr,hta⟩:=HRA.out.cons;obtain⟨OA2,hOA2⟩:∃ A2,(if oc=1 then (some ⟨bx,ox,none⟩:Option Addr) else some ⟨bx,ox+1,none⟩)=A2:=⟨_,rfl⟩;have HTA:=hI (hta.behind (by simpa using hna0) hoc hOA2);have HOA2:=hI hOA2;have HX:=hI (And.intro hxc hxr);have ex:=hI ex;clear hOA2 hta hxc hxr hna0
           by_cases hnb:0<nb
           · obtain⟨y,rb,rfl⟩:∃ x rb',rb=x :: rb':=by
               cases rb with
               | nil=>simp at hnb0;omega
               | cons x r=>exact⟨x,r,rfl⟩
             obtain⟨by_,oy,YA,yc,rfl,hby,ey,hyc,hyr,htb⟩:=HRB.out.cons;obtain⟨NB2,hNB2⟩:∃ A2,(if nc=1 then (some ⟨by_,oy,none⟩:Option Addr) else some ⟨by_,oy+1,none⟩)=A2:=⟨_,rfl⟩;have HTB:=hI (htb.behind (by simpa using hnb0) hnc hNB2);have HNB2:=hI hNB2;have HY:=hI (And.intro hyc hyr);have ey:=hI ey;clear hNB2 htb hyc hyr hnb0;have hd1:decide (0<na)=true:=decide_eq_true hna;have hd2:((na:Int) == 0)=false:=(by simp;omega);have hd3:((nb:Int) == 0)=false:=(by simp;omega);have hd4:(0:Int)<(na:Int):=(by omega);have hd5:(0:Int)<(nb:Int):=by omega
             go_wp2_with fail
             obtain⟨xb,hxb⟩:∃ xb,wi.heap.size=xb:=⟨_,rfl⟩;obtain⟨W0,hW0⟩:∃ W0,wi.alloc (.cells #[.int .i64 (k:Int),.slice none 0 0,.slice none 0 0] 53)=W0:=⟨_,rfl⟩;have HM0:=hI (show DMid wi W0 xb [.int .i64 (k:Int),.slice none 0 0,.slice none 0 0] by rw [←hW0,←hxb];exact DMid.start wi _);have hSx:∀ b,S b→b<xb:=(fun b hb=>by have:=hSi b hb;omega);have hxz:=HM0.out.bel.size;have hxw:=HM0.out.lt;rw [hW0];clear hW0;have HSM:=hI (show Same S w W0 from fun b hb=>(HM0.out.bel.block b (hSx b hb)).trans (HSI.out b hb));have hSW:∀ b,S b→b<W0.heap.size:=(fun b hb=>by have:=hSx b hb;omega);have lbx:bx<W0.heap.size:=hSW bx hbx;have lby:by_<W0.heap.size:=hSW by_ hby;have u0:W0.cell? ⟨w.heap.size,0,none⟩=some (.int .i64 s.version):=c9J HM0.out.bel (c9J HBI.out HX0.out);have u1:W0.cell? ⟨w.heap.size,1,none⟩=some (.slice A0 s.tabs.length c0'):=c9J HM0.out.bel (c9J HBI.out HX1.out);have u2:W0.cell? ⟨bx,ox,none⟩=some (.slice XA x.length xc):=(HSM.out.cell hbx).trans ex.out;have u3:W0.cell? ⟨by_,oy,none⟩=some (.slice YA y.length yc):=(HSM.out.cell hby).trans ey.out;refine tS (fun w'=>w'.cell? ⟨w.heap.size,0,none⟩=some (.int .i64 s.version)∧w'.cell? ⟨w.heap.size,1,none⟩=some (.slice A0 s.tabs.length c0')∧w'.cell? ⟨bx,ox,none⟩=some (.slice XA x.length xc)∧w'.cell? ⟨by_,oy,none⟩=some (.slice YA y.length yc)) 14 14 fun Q' HQ HP=>?_;refine tX 0 58 1 59 2 60 3 61 (bA 14 15) HP.out ⟨u0,u1,u2,u3⟩ ?_;refine tX 4 62 6 64 7 65 8 66 (bA 14 479) HP.out ⟨u0,u1,u2,u3⟩ ?_;refine tW 9 67 10 68 (bA 14 2015) HP.out ⟨u0,u1,u2,u3⟩ ?_;refine tQ 5 (some 63) (bA 14 2047) fun K HK=>?_;go_simp;refine(Zba A0 c0' s (k:Int) XA xc x S W0.drew (HS.out.keep (w':=W0.drew) (HSM.out)) (HX.out.2.keep (w':=W0.drew) (HSM.out)) HX.out.1 hSW).mono ?_;rintro e wk ⟨KA,kc,rfl,hka,hbk0⟩;have hbk:Below W0.heap.size W0 wk:=(Below.refl _ W0).drew.trans hbk0;have hzk:=hbk.size;have HKA:=hI hka;clear hbk0 hka;have p0:=c9J hbk u0;have p1:=c9J hbk u1;have p2:=c9J hbk u2;have p3:=c9J hbk u3;refine HK.out _ _ (fun _=>⟨p0,p1,p2,p3⟩) ?_;clear HK K
             try simp only [Act.put,psA,psB,psC]
             refine tQ 11 (some 69) (bA 14 4095) fun K HK=>?_;go_simp;refine(Zba A0 c0' s (k:Int) YA yc y S wk (HS.out.keep (fun b hb=>(hbk.block b (hSW b hb)).trans (HSM.out b hb))) (HY.out.2.keep (fun b hb=>(hbk.block b (hSW b hb)).trans (HSM.out b hb))) HY.out.1 (fun b hb=>Nat.lt_of_lt_of_le (hSW b hb) hzk)).mono ?_;rintro e wq ⟨KB,kd,rfl,hkb,hbq0⟩;have hbq:Below W0.heap.size W0 wq:=hbk.trans (hbq0.mono hzk);have hzq:=hbq.size;have HKB:=hI hkb;clear hbq0 hkb;have q0:=c9J hbq u0;have q1:=c9J hbq u1;have q2:=c9J hbq u2;have q3:=c9J hbq u3;refine HK.out _ _ (fun _=>⟨q0,q1,q2,q3⟩) ?_;clear HK K
             try simp only [Act.put,psA,psB,psC]
             refine tQ 12 (some 70) (bA 14 8191) fun K HK=>?_;go_simp;refine(Zbc KA KB kc kd (keyF s (k:Int) x) (keyF s (k:Int) y) S wq ((HX.out.2.keep (fun b hb=>(hbq.block b (hSW b hb)).trans (HSM.out b hb))).key s (k:Int) HKA.out) ((HY.out.2.keep (fun b hb=>(hbq.block b (hSW b hb)).trans (HSM.out b hb))).key s (k:Int) HKB.out) (fun b hb=>Nat.lt_of_lt_of_le (hSW b hb) hzq)).mono ?_;rintro e wo2 ⟨rfl,hbo0⟩;have hbo:Below W0.heap.size W0 wo2:=hbq.trans (hbo0.mono hzq);have hzo:=hbo.size;clear hbo0;have r0:=c9J hbo u0;have r1:=c9J hbo u1;have r2:=c9J hbo u2;have r3:=c9J hbo u3;refine HK.out _ _ (fun _=>⟨r0,r1,r2,r3⟩) ?_;clear HK K
             try simp only [Act.put,psA,psB,psC]
             refine tJ 13 17 (bA 14 16383) HP.out ⟨r0,r1,r2,r3⟩ ?_;refine tE HQ ?_;clear HQ HP Q';have HMC:=hI (HM0.out.below hbo);clear u0 u1 u2 u3 p0 p1 p2 p3 q0 q1 q2 q3 r0 r1 r2 r3 hbk hzk hbq hzq hbo hzo lbx lby hSW HM0 HKA HKB hd1 hd2 hd3 hd4 hd5;obtain⟨cv,hcv⟩:∃ cv,cmpR (keyF s (k:Int) x) (keyF s (k:Int) y)=cv:=⟨_,rfl⟩;rw [hcv];have HCV:=hI hcv;clear hcv;rcases Int.lt_trichotomy cv 0 with hcv | hcv | hcv
             · have hd1:cv≤0:=(by omega);have hd2:¬ 0≤cv:=(by omega);have HST:=hI (ZhE s (k:Int) ra rb (by rw [HCV.out];exact hcv));clear hcv
               go_wp2_with fail
               have HSMO:=hI (show Same S w wo2 from fun b hb=>(HMC.out.bel.block b (hSx b hb)).trans (HSI.out b hb));have HROWO:=hI (show RowS wo2.drew S XA x from HX.out.2.keep (w':=wo2.drew) (HSMO.out));have h0:wo2.cell? ⟨bx,ox,none⟩=some (.slice XA x.length xc):=(HSMO.out.cell hbx).trans ex.out;have hlO:bx<wo2.heap.size:=(by have:=hSx bx hbx;have:=HMC.out.lt;omega);have hnO:bx<xb:=hSx bx hbx;refine tS (fun w'=>w'.cell? ⟨bx,ox,none⟩=some (.slice XA x.length xc)) 9 9 fun Q' HQ HP=>?_;refine tX 0 81 1 82 2 83 4 85 (bA 9 23) HP.out h0 ?_;refine anyT_take (i:=5) (oi:=⟨some 86,_,_,_,_,_⟩) (v:=.slice OA2 (na - 1) (oc - 1)) (L':=(bA 9 55)) rfl rfl (by kernel_rfl) (by kernel_rfl) (by kernel_rfl) (by kernel_rfl) (by kernel_rfl) HP.out (Or.inl ⟨by rfl,?_⟩) h0 ?_
               · intro w' hSw;rw [←HOA2.out]
                 by_cases hc1:oc=1
                 · simp only [hc1,if_true];go_simp;(try simp [hc1]);(try (intro h9;omega))
                 · simp only [hc1,if_false];go_simp;(try simp [hc1,ZbI]);(try (intro h9;omega))
               simp only [psA,psB,psC];refine tQ 3 (some 84) (bA 9 63) fun K HK=>?_;go_simp;refine(ZaC XA xc x S wo2.drew (by exact HROWO.out)).mono ?_;rintro e wkO ⟨KAO,kcO,rfl,hownO,hbk0⟩;have hbk:Below wo2.heap.size wo2 wkO:=(Below.refl _ wo2).drew.trans hbk0;have HBKO:=hI hbk;have hzkO:=hbk.size;have HOWNO:=hI hownO;have h0:=c9J hbk h0;have g0:wkO.cell? ⟨xb,1,none⟩=some (.slice none 0 0):=(HMC.out.below hbk).cell 1 rfl;have g1:wkO.frozen? ⟨xb,1,none⟩=false:=(HMC.out.below hbk).frozen 1;have hxkO:xb<wkO.heap.size:=(HMC.out.below hbk).lt;clear hbk0 hbk hownO;refine HK.out _ _ (fun _=>h0) ?_;clear HK K
               try simp only [Act.put,psA,psB,psC]
               refine tJ 6 87 (bA 9 127) HP.out h0 ?_;refine tQ 7 none (bA 9 255) fun K HK=>?_;go_simp;have h0:=((Fr.one (W:=wkO) (xb:=xb) 1 (.slice KAO x.length kcO)).cell (b:=bx) (o:=ox) (by omega) (by omega)).trans h0;refine HK.out _ _ (fun _=>h0) ?_;clear HK K
               try simp only [Act.put,psA,psB,psC]
               refine tJ 8 14 (bA 9 511) HP.out h0 ?_;refine tE HQ ?_;clear HQ HP Q';obtain⟨W1,hWn⟩:∃ W1,wkO.setCell ⟨xb,1,none⟩ (.slice KAO x.length kcO)=W1:=⟨_,rfl⟩;have HM:=hI (show DMid wi W1 xb [.int .i64 (k:Int),.slice KAO x.length kcO,.slice none 0 0] by rw [←hWn];exact(HMC.out.below HBKO.out).set 1 (.slice KAO x.length kcO));have HRO:=hI (show RowD W1 xb KAO kcO x by rw [←hWn];exact(Zdj HOWNO.out HROWO.out.ok (by show xb<wo2.heap.size;exact HMC.out.lt)).keep (Fr.one 1 _));rw [hWn];have HW1:=hI hWn;clear h0 g0 g1 hWn;have HO:=HRO;have HN:=hI (show RowD W1 xb none 0 ([]:Row) from RowD.nil_);have m0:W1.cell? ⟨xb,0,none⟩=some (.int .i64 (k:Int)):=HM.out.cell 0 rfl;have m1:W1.cell? ⟨xb,1,none⟩=some (.slice KAO x.length kcO):=HM.out.cell 1 rfl;have m2:W1.cell? ⟨xb,2,none⟩=some (.slice none ([]:Row).length 0):=HM.out.cell 2 rfl;have hxw:xb<W1.heap.size:=HM.out.lt
               go_wp2_with fail
               refine(ZaM KAO none kcO 0 x ([]:Row) (fun b=>xb<b∧b<W1.heap.size) _ (by exact HO.out.2) (by exact HN.out.2) (fun b hb=>hb.2)).mono ?_;rintro e we ⟨rfl,hbe⟩;have HME:=hI (HM.out.below hbe);have HOE:=hI (HO.out.keep (Fr.of_below hbe));have HNE:=hI (HN.out.keep (Fr.of_below hbe));have hze:=hbe.size;have m0:we.cell? ⟨xb,0,none⟩=some (.int .i64 (k:Int)):=HME.out.cell 0 rfl;have m1:we.cell? ⟨xb,1,none⟩=some (.slice KAO x.length kcO):=HME.out.cell 1 rfl;have m2:we.cell? ⟨xb,2,none⟩=some (.slice none ([]:Row).length 0):=HME.out.cell 2 rfl;have HBE:=hI (HBI.out.trans (HME.out.bel.mono (by omega)));have HMKE:=hI (HMK.out.below (by have h9:=HME.out.bel;rw [←hxb] at h9;exact h9));clear hbe
               by_cases hq:cmpR x ([]:Row)=0
               · have hqb:(cmpR x ([]:Row) == 0)=true:=(by simp [hq]);rw [hqb]
                 have HTG2:=hI (show l++(ZaD s (k:Int) ra (y :: rb)++ZbF s (k+1) (sa.drop (k+1)) (sb.drop (k+1)))=Zbu s sa sb by
                  have h9:=HTG.out;rw [HST.out] at h9;simpa [addC,hq] using h9)
                 clear hq hqb
                 go_wp2_with fail
                 go_roundw
                 case rel=>exact⟨l,AL,cl,ra,(y :: rb),OA2,oc - 1,na - 1,(some ⟨by_,oy,none⟩),nc,nb,rfl,rfl,rfl,by have:=HNA.out;simp at this;omega,HNB.out,by omega,hnc,HTA.out,HRB.out,HMKE.out,HBE.out,HTG2.out⟩
                 case measure=>(simp [ZeF];try omega)
               · have hqb:(cmpR x ([]:Row) == 0)=false:=(by simp [hq]);rw [hqb]
                 have HTG2:=hI (show (l++[(⟨(k:Int),x,[]⟩:Chg)])++(ZaD s (k:Int) ra (y :: rb)++ZbF s (k+1) (sa.drop (k+1)) (sb.drop (k+1)))=Zbu s sa sb by
                  have h9:=HTG.out;rw [HST.out] at h9;simpa [addC,hq] using h9)
                 clear hq hqb;have hown:∀ b,some b=(Value.slice AL l.length cl).ownBlock→w2.heap.size≤b∧b<xb:=fun b e=>by have:=HMK.out.base_le e.symm;omega
                 go_wp2_with (at_builtin;refine Zap rfl (.tmp 103) (.tmp 105) 48 rfl w2.heap.size (fun _=>False) 53 i0 _ 3 56 Try.underlying48 hi hz0 hz1 hz2 rfl (by decide) _ _ _ _ _ HMKE.out rfl (Zal (⟨(k:Int),x,[]⟩:Chg)) #[.int .i64 (k:Int),.slice KAO x.length kcO,.slice none ([]:Row).length 0] (Zca ⟨HOE.out.1,HOE.out.2.more (fun b hb=>.inr ⟨by omega,hb.2,fun e=>by have:=hown b e;have:=hb.1;omega⟩)⟩ ⟨HNE.out.1,HNE.out.2.more (fun b hb=>.inr ⟨by omega,hb.2,fun e=>by have:=hown b e;have:=hb.1;omega⟩)⟩) (Zbg _) (ZaL _) 1 rfl (by omega) (by omega) ?_;intro g7 cap7 w7 hm7 hb7 hlt7;have HM7:=hI hm7;have HB7:=hI hb7;clear hm7 hb7)
                 go_roundw
                 case rel=>exact⟨l++[(⟨(k:Int),x,[]⟩:Chg)],some ⟨g7,0,none⟩,cap7,ra,(y :: rb),OA2,oc - 1,na - 1,(some ⟨by_,oy,none⟩),nc,nb,by simp,rfl,rfl,by have:=HNA.out;simp at this;omega,HNB.out,by omega,hnc,HTA.out,HRB.out,by simpa using HM7.out,HBE.out.trans HB7.out,HTG2.out⟩
                 case measure=>(simp [ZeF];try omega)
             · have hd1:cv≤0:=(by omega);have hd2:0≤cv:=(by omega);have HST:=hI (ZhG s (k:Int) ra rb (by rw [HCV.out];exact hcv));clear hcv
               go_wp2_with fail
               have HSMO:=hI (show Same S w wo2 from fun b hb=>(HMC.out.bel.block b (hSx b hb)).trans (HSI.out b hb));have HROWO:=hI (show RowS wo2.drew S XA x from HX.out.2.keep (w':=wo2.drew) (HSMO.out));have h0:wo2.cell? ⟨bx,ox,none⟩=some (.slice XA x.length xc):=(HSMO.out.cell hbx).trans ex.out;have hlO:bx<wo2.heap.size:=(by have:=hSx bx hbx;have:=HMC.out.lt;omega);have hnO:bx<xb:=hSx bx hbx;refine tS (fun w'=>w'.cell? ⟨bx,ox,none⟩=some (.slice XA x.length xc)) 9 9 fun Q' HQ HP=>?_;refine tX 0 81 1 82 2 83 4 85 (bA 9 23) HP.out h0 ?_;refine anyT_take (i:=5) (oi:=⟨some 86,_,_,_,_,_⟩) (v:=.slice OA2 (na - 1) (oc - 1)) (L':=(bA 9 55)) rfl rfl (by kernel_rfl) (by kernel_rfl) (by kernel_rfl) (by kernel_rfl) (by kernel_rfl) HP.out (Or.inl ⟨by rfl,?_⟩) h0 ?_
               · intro w' hSw;rw [←HOA2.out]
                 by_cases hc1:oc=1
                 · simp only [hc1,if_true];go_simp;(try simp [hc1]);(try (intro h9;omega))
                 · simp only [hc1,if_false];go_simp;(try simp [hc1,ZbI]);(try (intro h9;omega))
               simp only [psA,psB,psC];refine tQ 3 (some 84) (bA 9 63) fun K HK=>?_;go_simp;refine(ZaC XA xc x S wo2.drew (by exact HROWO.out)).mono ?_;rintro e wkO ⟨KAO,kcO,rfl,hownO,hbk0⟩;have hbk:Below wo2.heap.size wo2 wkO:=(Below.refl _ wo2).drew.trans hbk0;have HBKO:=hI hbk;have hzkO:=hbk.size;have HOWNO:=hI hownO;have h0:=c9J hbk h0;have g0:wkO.cell? ⟨xb,1,none⟩=some (.slice none 0 0):=(HMC.out.below hbk).cell 1 rfl;have g1:wkO.frozen? ⟨xb,1,none⟩=false:=(HMC.out.below hbk).frozen 1;have hxkO:xb<wkO.heap.size:=(HMC.out.below hbk).lt;clear hbk0 hbk hownO;refine HK.out _ _ (fun _=>h0) ?_;clear HK K
               try simp only [Act.put,psA,psB,psC]
               refine tJ 6 87 (bA 9 127) HP.out h0 ?_;refine tQ 7 none (bA 9 255) fun K HK=>?_;go_simp;have h0:=((Fr.one (W:=wkO) (xb:=xb) 1 (.slice KAO x.length kcO)).cell (b:=bx) (o:=ox) (by omega) (by omega)).trans h0;refine HK.out _ _ (fun _=>h0) ?_;clear HK K
               try simp only [Act.put,psA,psB,psC]
               refine tJ 8 14 (bA 9 511) HP.out h0 ?_;refine tE HQ ?_;clear HQ HP Q';obtain⟨W1,hWn⟩:∃ W1,wkO.setCell ⟨xb,1,none⟩ (.slice KAO x.length kcO)=W1:=⟨_,rfl⟩;have HM1:=hI (show DMid wi W1 xb [.int .i64 (k:Int),.slice KAO x.length kcO,.slice none 0 0] by rw [←hWn];exact(HMC.out.below HBKO.out).set 1 (.slice KAO x.length kcO));have HRO:=hI (show RowD W1 xb KAO kcO x by rw [←hWn];exact(Zdj HOWNO.out HROWO.out.ok (by show xb<wo2.heap.size;exact HMC.out.lt)).keep (Fr.one 1 _));rw [hWn];have HW1:=hI hWn;clear h0 g0 g1 hWn
               go_wp2_with fail
               have HSMN:=hI (show Same S w W1 from fun b hb=>(HM1.out.bel.block b (hSx b hb)).trans (HSI.out b hb));have HROWN:=hI (show RowS W1.drew S YA y from HY.out.2.keep (w':=W1.drew) (HSMN.out));have h0:W1.cell? ⟨by_,oy,none⟩=some (.slice YA y.length yc):=(HSMN.out.cell hby).trans ey.out;have hlN:by_<W1.heap.size:=(by have:=hSx by_ hby;have:=HM1.out.lt;omega);have hnN:by_<xb:=hSx by_ hby;refine tS (fun w'=>w'.cell? ⟨by_,oy,none⟩=some (.slice YA y.length yc)) 9 9 fun Q' HQ HP=>?_;refine tX 0 90 1 91 2 92 4 94 (bA 9 23) HP.out h0 ?_;refine anyT_take (i:=5) (oi:=⟨some 95,_,_,_,_,_⟩) (v:=.slice NB2 (nb - 1) (nc - 1)) (L':=(bA 9 55)) rfl rfl (by kernel_rfl) (by kernel_rfl) (by kernel_rfl) (by kernel_rfl) (by kernel_rfl) HP.out (Or.inl ⟨by rfl,?_⟩) h0 ?_
               · intro w' hSw;rw [←HNB2.out]
                 by_cases hc1:nc=1
                 · simp only [hc1,if_true];go_simp;(try simp [hc1]);(try (intro h9;omega))
                 · simp only [hc1,if_false];go_simp;(try simp [hc1,ZbI]);(try (intro h9;omega))
               simp only [psA,psB,psC];refine tQ 3 (some 93) (bA 9 63) fun K HK=>?_;go_simp;refine(ZaC YA yc y S W1.drew (by exact HROWN.out)).mono ?_;rintro e wkN ⟨KAN,kcN,rfl,hownN,hbk0⟩;have hbk:Below W1.heap.size W1 wkN:=(Below.refl _ W1).drew.trans hbk0;have HBKN:=hI hbk;have hzkN:=hbk.size;have HOWNN:=hI hownN;have h0:=c9J hbk h0;have g0:wkN.cell? ⟨xb,2,none⟩=some (.slice none 0 0):=(HM1.out.below hbk).cell 2 rfl;have g1:wkN.frozen? ⟨xb,2,none⟩=false:=(HM1.out.below hbk).frozen 2;have hxkN:xb<wkN.heap.size:=(HM1.out.below hbk).lt;clear hbk0 hbk hownN;refine HK.out _ _ (fun _=>h0) ?_;clear HK K
               try simp only [Act.put,psA,psB,psC]
               refine tJ 6 96 (bA 9 127) HP.out h0 ?_;refine tQ 7 none (bA 9 255) fun K HK=>?_;go_simp;have h0:=((Fr.one (W:=wkN) (xb:=xb) 2 (.slice KAN y.length kcN)).cell (b:=by_) (o:=oy) (by omega) (by omega)).trans h0;refine HK.out _ _ (fun _=>h0) ?_;clear HK K
               try simp only [Act.put,psA,psB,psC]
               refine tJ 8 15 (bA 9 511) HP.out h0 ?_;refine tE HQ ?_;clear HQ HP Q';obtain⟨W2,hWn⟩:∃ W2,wkN.setCell ⟨xb,2,none⟩ (.slice KAN y.length kcN)=W2:=⟨_,rfl⟩;have HM:=hI (show DMid wi W2 xb [.int .i64 (k:Int),.slice KAO x.length kcO,.slice KAN y.length kcN] by rw [←hWn];exact(HM1.out.below HBKN.out).set 2 (.slice KAN y.length kcN));have HRN:=hI (show RowD W2 xb KAN kcN y by rw [←hWn];exact(Zdj HOWNN.out HROWN.out.ok (by show xb<W1.heap.size;exact HM1.out.lt)).keep (Fr.one 2 _));rw [hWn];have HW2:=hI hWn;clear h0 g0 g1 hWn;have HO:=hI ((HRO.out.keep (Fr.of_below HBKN.out)).keep (Fr.one 2 (.slice KAN y.length kcN)));rw [HW2.out] at HO;have HN:=HRN;have m0:W2.cell? ⟨xb,0,none⟩=some (.int .i64 (k:Int)):=HM.out.cell 0 rfl;have m1:W2.cell? ⟨xb,1,none⟩=some (.slice KAO x.length kcO):=HM.out.cell 1 rfl;have m2:W2.cell? ⟨xb,2,none⟩=some (.slice KAN y.length kcN):=HM.out.cell 2 rfl;have hxw:xb<W2.heap.size:=HM.out.lt
               go_wp2_with fail
               refine(ZaM KAO KAN kcO kcN x y (fun b=>xb<b∧b<W2.heap.size) _ (by exact HO.out.2) (by exact HN.out.2) (fun b hb=>hb.2)).mono ?_;rintro e we ⟨rfl,hbe⟩;have HME:=hI (HM.out.below hbe);have HOE:=hI (HO.out.keep (Fr.of_below hbe));have HNE:=hI (HN.out.keep (Fr.of_below hbe));have hze:=hbe.size;have m0:we.cell? ⟨xb,0,none⟩=some (.int .i64 (k:Int)):=HME.out.cell 0 rfl;have m1:we.cell? ⟨xb,1,none⟩=some (.slice KAO x.length kcO):=HME.out.cell 1 rfl;have m2:we.cell? ⟨xb,2,none⟩=some (.slice KAN y.length kcN):=HME.out.cell 2 rfl;have HBE:=hI (HBI.out.trans (HME.out.bel.mono (by omega)));have HMKE:=hI (HMK.out.below (by have h9:=HME.out.bel;rw [←hxb] at h9;exact h9));clear hbe
               by_cases hq:cmpR x y=0
               · have hqb:(cmpR x y == 0)=true:=(by simp [hq]);rw [hqb]
                 have HTG2:=hI (show l++(ZaD s (k:Int) ra rb++ZbF s (k+1) (sa.drop (k+1)) (sb.drop (k+1)))=Zbu s sa sb by
                  have h9:=HTG.out;rw [HST.out] at h9;simpa [addC,hq] using h9)
                 clear hq hqb
                 go_wp2_with fail
                 go_roundw
                 case rel=>exact⟨l,AL,cl,ra,rb,OA2,oc - 1,na - 1,NB2,nc - 1,nb - 1,rfl,rfl,rfl,by have:=HNA.out;simp at this;omega,by have:=HNB.out;simp at this;omega,by omega,by omega,HTA.out,HTB.out,HMKE.out,HBE.out,HTG2.out⟩
                 case measure=>(simp [ZeF];try omega)
               · have hqb:(cmpR x y == 0)=false:=(by simp [hq]);rw [hqb]
                 have HTG2:=hI (show (l++[(⟨(k:Int),x,y⟩:Chg)])++(ZaD s (k:Int) ra rb++ZbF s (k+1) (sa.drop (k+1)) (sb.drop (k+1)))=Zbu s sa sb by
                  have h9:=HTG.out;rw [HST.out] at h9;simpa [addC,hq] using h9)
                 clear hq hqb;have hown:∀ b,some b=(Value.slice AL l.length cl).ownBlock→w2.heap.size≤b∧b<xb:=fun b e=>by have:=HMK.out.base_le e.symm;omega
                 go_wp2_with (at_builtin;refine Zap rfl (.tmp 103) (.tmp 105) 48 rfl w2.heap.size (fun _=>False) 53 i0 _ 3 56 Try.underlying48 hi hz0 hz1 hz2 rfl (by decide) _ _ _ _ _ HMKE.out rfl (Zal (⟨(k:Int),x,y⟩:Chg)) #[.int .i64 (k:Int),.slice KAO x.length kcO,.slice KAN y.length kcN] (Zca ⟨HOE.out.1,HOE.out.2.more (fun b hb=>.inr ⟨by omega,hb.2,fun e=>by have:=hown b e;have:=hb.1;omega⟩)⟩ ⟨HNE.out.1,HNE.out.2.more (fun b hb=>.inr ⟨by omega,hb.2,fun e=>by have:=hown b e;have:=hb.1;omega⟩)⟩) (Zbg _) (ZaL _) 1 rfl (by omega) (by omega) ?_;intro g7 cap7 w7 hm7 hb7 hlt7;have HM7:=hI hm7;have HB7:=hI hb7;clear hm7 hb7)
                 go_roundw
                 case rel=>exact⟨l++[(⟨(k:Int),x,y⟩:Chg)],some ⟨g7,0,none⟩,cap7,ra,rb,OA2,oc - 1,na - 1,NB2,nc - 1,nb - 1,by simp,rfl,rfl,by have:=HNA.out;simp at this;omega,by have:=HNB.out;simp at this;omega,by omega,by omega,HTA.out,HTB.out,by simpa using HM7.out,HBE.out.trans HB7.out,HTG2.out⟩
                 case measure=>(simp [ZeF];try omega)
             · have hd1:¬ cv≤0:=(by omega);have hd2:0≤cv:=(by omega);have HST:=hI (ZhF s (k:Int) ra rb (by rw [HCV.out];exact hcv));clear hcv
               go_wp2_with fail
               have HSMN:=hI (show Same S w wo2 from fun b hb=>(HMC.out.bel.block b (hSx b hb)).trans (HSI.out b hb));have HROWN:=hI (show RowS wo2.drew S YA y from HY.out.2.keep (w':=wo2.drew) (HSMN.out));have h0:wo2.cell? ⟨by_,oy,none⟩=some (.slice YA y.length yc):=(HSMN.out.cell hby).trans ey.out;have hlN:by_<wo2.heap.size:=(by have:=hSx by_ hby;have:=HMC.out.lt;omega);have hnN:by_<xb:=hSx by_ hby;refine tS (fun w'=>w'.cell? ⟨by_,oy,none⟩=some (.slice YA y.length yc)) 9 9 fun Q' HQ HP=>?_;refine tX 0 90 1 91 2 92 4 94 (bA 9 23) HP.out h0 ?_;refine anyT_take (i:=5) (oi:=⟨some 95,_,_,_,_,_⟩) (v:=.slice NB2 (nb - 1) (nc - 1)) (L':=(bA 9 55)) rfl rfl (by kernel_rfl) (by kernel_rfl) (by kernel_rfl) (by kernel_rfl) (by kernel_rfl) HP.out (Or.inl ⟨by rfl,?_⟩) h0 ?_
               · intro w' hSw;rw [←HNB2.out]
                 by_cases hc1:nc=1
                 · simp only [hc1,if_true];go_simp;(try simp [hc1]);(try (intro h9;omega))
                 · simp only [hc1,if_false];go_simp;(try simp [hc1,ZbI]);(try (intro h9;omega))
               simp only [psA,psB,psC];refine tQ 3 (some 93) (bA 9 63) fun K HK=>?_;go_simp;refine(ZaC YA yc y S wo2.drew (by exact HROWN.out)).mono ?_;rintro e wkN ⟨KAN,kcN,rfl,hownN,hbk0⟩;have hbk:Below wo2.heap.size wo2 wkN:=(Below.refl _ wo2).drew.trans hbk0;have HBKN:=hI hbk;have hzkN:=hbk.size;have HOWNN:=hI hownN;have h0:=c9J hbk h0;have g0:wkN.cell? ⟨xb,2,none⟩=some (.slice none 0 0):=(HMC.out.below hbk).cell 2 rfl;have g1:wkN.frozen? ⟨xb,2,none⟩=false:=(HMC.out.below hbk).frozen 2;have hxkN:xb<wkN.heap.size:=(HMC.out.below hbk).lt;clear hbk0 hbk hownN;refine HK.out _ _ (fun _=>h0) ?_;clear HK K
               try simp only [Act.put,psA,psB,psC]
               refine tJ 6 96 (bA 9 127) HP.out h0 ?_;refine tQ 7 none (bA 9 255) fun K HK=>?_;go_simp;have h0:=((Fr.one (W:=wkN) (xb:=xb) 2 (.slice KAN y.length kcN)).cell (b:=by_) (o:=oy) (by omega) (by omega)).trans h0;refine HK.out _ _ (fun _=>h0) ?_;clear HK K
               try simp only [Act.put,psA,psB,psC]
               refine tJ 8 15 (bA 9 511) HP.out h0 ?_;refine tE HQ ?_;clear HQ HP Q';obtain⟨W1,hWn⟩:∃ W1,wkN.setCell ⟨xb,2,none⟩ (.slice KAN y.length kcN)=W1:=⟨_,rfl⟩;have HM:=hI (show DMid wi W1 xb [.int .i64 (k:Int),.slice none 0 0,.slice KAN y.length kcN] by rw [←hWn];exact(HMC.out.below HBKN.out).set 2 (.slice KAN y.length kcN));have HRN:=hI (show RowD W1 xb KAN kcN y by rw [←hWn];exact(Zdj HOWNN.out HROWN.out.ok (by show xb<wo2.heap.size;exact HMC.out.lt)).keep (Fr.one 2 _));rw [hWn];have HW1:=hI hWn;clear h0 g0 g1 hWn;have HN:=HRN;have HO:=hI (show RowD W1 xb none 0 ([]:Row) from RowD.nil_);have m0:W1.cell? ⟨xb,0,none⟩=some (.int .i64 (k:Int)):=HM.out.cell 0 rfl;have m1:W1.cell? ⟨xb,1,none⟩=some (.slice none ([]:Row).length 0):=HM.out.cell 1 rfl;have m2:W1.cell? ⟨xb,2,none⟩=some (.slice KAN y.length kcN):=HM.out.cell 2 rfl;have hxw:xb<W1.heap.size:=HM.out.lt
               go_wp2_with fail
               refine(ZaM none KAN 0 kcN ([]:Row) y (fun b=>xb<b∧b<W1.heap.size) _ (by exact HO.out.2) (by exact HN.out.2) (fun b hb=>hb.2)).mono ?_;rintro e we ⟨rfl,hbe⟩;have HME:=hI (HM.out.below hbe);have HOE:=hI (HO.out.keep (Fr.of_below hbe));have HNE:=hI (HN.out.keep (Fr.of_below hbe));have hze:=hbe.size;have m0:we.cell? ⟨xb,0,none⟩=some (.int .i64 (k:Int)):=HME.out.cell 0 rfl;have m1:we.cell? ⟨xb,1,none⟩=some (.slice none ([]:Row).length 0):=HME.out.cell 1 rfl;have m2:we.cell? ⟨xb,2,none⟩=some (.slice KAN y.length kcN):=HME.out.cell 2 rfl;have HBE:=hI (HBI.out.trans (HME.out.bel.mono (by omega)));have HMKE:=hI (HMK.out.below (by have h9:=HME.out.bel;rw [←hxb] at h9;exact h9));clear hbe
               by_cases hq:cmpR ([]:Row) y=0
               · have hqb:(cmpR ([]:Row) y == 0)=true:=(by simp [hq]);rw [hqb]
                 have HTG2:=hI (show l++(ZaD s (k:Int) (x :: ra) rb++ZbF s (k+1) (sa.drop (k+1)) (sb.drop (k+1)))=Zbu s sa sb by
                  have h9:=HTG.out;rw [HST.out] at h9;simpa [addC,hq] using h9)
                 clear hq hqb
                 go_wp2_with fail
                 go_roundw
                 case rel=>exact⟨l,AL,cl,(x :: ra),rb,(some ⟨bx,ox,none⟩),oc,na,NB2,nc - 1,nb - 1,rfl,rfl,rfl,HNA.out,by have:=HNB.out;simp at this;omega,hoc,by omega,HRA.out,HTB.out,HMKE.out,HBE.out,HTG2.out⟩
                 case measure=>(simp [ZeF];try omega)
               · have hqb:(cmpR ([]:Row) y == 0)=false:=(by simp [hq]);rw [hqb]
                 have HTG2:=hI (show (l++[(⟨(k:Int),[],y⟩:Chg)])++(ZaD s (k:Int) (x :: ra) rb++ZbF s (k+1) (sa.drop (k+1)) (sb.drop (k+1)))=Zbu s sa sb by
                  have h9:=HTG.out;rw [HST.out] at h9;simpa [addC,hq] using h9)
                 clear hq hqb;have hown:∀ b,some b=(Value.slice AL l.length cl).ownBlock→w2.heap.size≤b∧b<xb:=fun b e=>by have:=HMK.out.base_le e.symm;omega
                 go_wp2_with (at_builtin;refine Zap rfl (.tmp 103) (.tmp 105) 48 rfl w2.heap.size (fun _=>False) 53 i0 _ 3 56 Try.underlying48 hi hz0 hz1 hz2 rfl (by decide) _ _ _ _ _ HMKE.out rfl (Zal (⟨(k:Int),[],y⟩:Chg)) #[.int .i64 (k:Int),.slice none ([]:Row).length 0,.slice KAN y.length kcN] (Zca ⟨HOE.out.1,HOE.out.2.more (fun b hb=>.inr ⟨by omega,hb.2,fun e=>by have:=hown b e;have:=hb.1;omega⟩)⟩ ⟨HNE.out.1,HNE.out.2.more (fun b hb=>.inr ⟨by omega,hb.2,fun e=>by have:=hown b e;have:=hb.1;omega⟩)⟩) (Zbg _) (ZaL _) 1 rfl (by omega) (by omega) ?_;intro g7 cap7 w7 hm7 hb7 hlt7;have HM7:=hI hm7;have HB7:=hI hb7;clear hm7 hb7)
                 go_roundw
                 case rel=>exact⟨l++[(⟨(k:Int),[],y⟩:Chg)],some ⟨g7,0,none⟩,cap7,(x :: ra),rb,(some ⟨bx,ox,none⟩),oc,na,NB2,nc - 1,nb - 1,by simp,rfl,rfl,HNA.out,by have:=HNB.out;simp at this;omega,hoc,by omega,HRA.out,HTB.out,by simpa using HM7.out,HBE.out.trans HB7.out,HTG2.out⟩
                 case measure=>(simp [ZeF];try omega)
           · have hz:nb=0:=(by omega);subst hz;obtain rfl:rb=[]:=List.eq_nil_of_length_eq_zero hnb0.symm;clear hnb0 hnb;have hd1:decide (0<na)=true:=decide_eq_true hna;have hd2:((na:Int) == 0)=false:=(by simp;omega);have hd4:(0:Int)<(na:Int):=by omega
             go_wp2_with fail
             obtain⟨xb,hxb⟩:∃ xb,wi.heap.size=xb:=⟨_,rfl⟩;obtain⟨W0,hW0⟩:∃ W0,wi.alloc (.cells #[.int .i64 (k:Int),.slice none 0 0,.slice none 0 0] 53)=W0:=⟨_,rfl⟩;have HM0:=hI (show DMid wi W0 xb [.int .i64 (k:Int),.slice none 0 0,.slice none 0 0] by rw [←hW0,←hxb];exact DMid.start wi _);have hSx:∀ b,S b→b<xb:=(fun b hb=>by have:=hSi b hb;omega);have hxz:=HM0.out.bel.size;have hxw:=HM0.out.lt;rw [hW0];clear hW0;have HSMO:=hI (show Same S w W0 from fun b hb=>(HM0.out.bel.block b (hSx b hb)).trans (HSI.out b hb));have HROWO:=hI (show RowS W0.drew S XA x from HX.out.2.keep (w':=W0.drew) (HSMO.out));have h0:W0.cell? ⟨bx,ox,none⟩=some (.slice XA x.length xc):=(HSMO.out.cell hbx).trans ex.out;have hlO:bx<W0.heap.size:=(by have:=hSx bx hbx;have:=HM0.out.lt;omega);have hnO:bx<xb:=hSx bx hbx;refine tS (fun w'=>w'.cell? ⟨bx,ox,none⟩=some (.slice XA x.length xc)) 9 9 fun Q' HQ HP=>?_;refine tX 0 81 1 82 2 83 4 85 (bA 9 23) HP.out h0 ?_;refine anyT_take (i:=5) (oi:=⟨some 86,_,_,_,_,_⟩) (v:=.slice OA2 (na - 1) (oc - 1)) (L':=(bA 9 55)) rfl rfl (by kernel_rfl) (by kernel_rfl) (by kernel_rfl) (by kernel_rfl) (by kernel_rfl) HP.out (Or.inl ⟨by rfl,?_⟩) h0 ?_
             · intro w' hSw;rw [←HOA2.out]
               by_cases hc1:oc=1
               · simp only [hc1,if_true];go_simp;(try simp [hc1]);(try (intro h9;omega))
               · simp only [hc1,if_false];go_simp;(try simp [hc1,ZbI]);(try (intro h9;omega))
             simp only [psA,psB,psC];refine tQ 3 (some 84) (bA 9 63) fun K HK=>?_;go_simp;refine(ZaC XA xc x S W0.drew (by exact HROWO.out)).mono ?_;rintro e wkO ⟨KAO,kcO,rfl,hownO,hbk0⟩;have hbk:Below W0.heap.size W0 wkO:=(Below.refl _ W0).drew.trans hbk0;have HBKO:=hI hbk;have hzkO:=hbk.size;have HOWNO:=hI hownO;have h0:=c9J hbk h0;have g0:wkO.cell? ⟨xb,1,none⟩=some (.slice none 0 0):=(HM0.out.below hbk).cell 1 rfl;have g1:wkO.frozen? ⟨xb,1,none⟩=false:=(HM0.out.below hbk).frozen 1;have hxkO:xb<wkO.heap.size:=(HM0.out.below hbk).lt;clear hbk0 hbk hownO;refine HK.out _ _ (fun _=>h0) ?_;clear HK K
             try simp only [Act.put,psA,psB,psC]
             refine tJ 6 87 (bA 9 127) HP.out h0 ?_;refine tQ 7 none (bA 9 255) fun K HK=>?_;go_simp;have h0:=((Fr.one (W:=wkO) (xb:=xb) 1 (.slice KAO x.length kcO)).cell (b:=bx) (o:=ox) (by omega) (by omega)).trans h0;refine HK.out _ _ (fun _=>h0) ?_;clear HK K
             try simp only [Act.put,psA,psB,psC]
             refine tJ 8 14 (bA 9 511) HP.out h0 ?_;refine tE HQ ?_;clear HQ HP Q';obtain⟨W1,hWn⟩:∃ W1,wkO.setCell ⟨xb,1,none⟩ (.slice KAO x.length kcO)=W1:=⟨_,rfl⟩;have HM:=hI (show DMid wi W1 xb [.int .i64 (k:Int),.slice KAO x.length kcO,.slice none 0 0] by rw [←hWn];exact(HM0.out.below HBKO.out).set 1 (.slice KAO x.length kcO));have HRO:=hI (show RowD W1 xb KAO kcO x by rw [←hWn];exact(Zdj HOWNO.out HROWO.out.ok (by show xb<W0.heap.size;exact HM0.out.lt)).keep (Fr.one 1 _));rw [hWn];have HW1:=hI hWn;clear h0 g0 g1 hWn;have HO:=HRO;have HN:=hI (show RowD W1 xb none 0 ([]:Row) from RowD.nil_);have HST:=hI (ZgO s (k:Int) x ra);have m0:W1.cell? ⟨xb,0,none⟩=some (.int .i64 (k:Int)):=HM.out.cell 0 rfl;have m1:W1.cell? ⟨xb,1,none⟩=some (.slice KAO x.length kcO):=HM.out.cell 1 rfl;have m2:W1.cell? ⟨xb,2,none⟩=some (.slice none ([]:Row).length 0):=HM.out.cell 2 rfl;have hxw:xb<W1.heap.size:=HM.out.lt
             go_wp2_with fail
             refine(ZaM KAO none kcO 0 x ([]:Row) (fun b=>xb<b∧b<W1.heap.size) _ (by exact HO.out.2) (by exact HN.out.2) (fun b hb=>hb.2)).mono ?_;rintro e we ⟨rfl,hbe⟩;have HME:=hI (HM.out.below hbe);have HOE:=hI (HO.out.keep (Fr.of_below hbe));have HNE:=hI (HN.out.keep (Fr.of_below hbe));have hze:=hbe.size;have m0:we.cell? ⟨xb,0,none⟩=some (.int .i64 (k:Int)):=HME.out.cell 0 rfl;have m1:we.cell? ⟨xb,1,none⟩=some (.slice KAO x.length kcO):=HME.out.cell 1 rfl;have m2:we.cell? ⟨xb,2,none⟩=some (.slice none ([]:Row).length 0):=HME.out.cell 2 rfl;have HBE:=hI (HBI.out.trans (HME.out.bel.mono (by omega)));have HMKE:=hI (HMK.out.below (by have h9:=HME.out.bel;rw [←hxb] at h9;exact h9));clear hbe
             by_cases hq:cmpR x ([]:Row)=0
             · have hqb:(cmpR x ([]:Row) == 0)=true:=(by simp [hq]);rw [hqb]
               have HTG2:=hI (show l++(ZaD s (k:Int) ra ([]:List Row)++ZbF s (k+1) (sa.drop (k+1)) (sb.drop (k+1)))=Zbu s sa sb by
                have h9:=HTG.out;rw [HST.out] at h9;simpa [addC,hq] using h9)
               clear hq hqb
               go_wp2_with fail
               go_roundw
               case rel=>exact⟨l,AL,cl,ra,([]:List Row),OA2,oc - 1,na - 1,NB,nc,0,rfl,rfl,rfl,by have:=HNA.out;simp at this;omega,rfl,by omega,Nat.zero_le _,HTA.out,RowsS.nil_,HMKE.out,HBE.out,HTG2.out⟩
               case measure=>(simp [ZeF];try omega)
             · have hqb:(cmpR x ([]:Row) == 0)=false:=(by simp [hq]);rw [hqb]
               have HTG2:=hI (show (l++[(⟨(k:Int),x,[]⟩:Chg)])++(ZaD s (k:Int) ra ([]:List Row)++ZbF s (k+1) (sa.drop (k+1)) (sb.drop (k+1)))=Zbu s sa sb by
                have h9:=HTG.out;rw [HST.out] at h9;simpa [addC,hq] using h9)
               clear hq hqb;have hown:∀ b,some b=(Value.slice AL l.length cl).ownBlock→w2.heap.size≤b∧b<xb:=fun b e=>by have:=HMK.out.base_le e.symm;omega
               go_wp2_with (at_builtin;refine Zap rfl (.tmp 103) (.tmp 105) 48 rfl w2.heap.size (fun _=>False) 53 i0 _ 3 56 Try.underlying48 hi hz0 hz1 hz2 rfl (by decide) _ _ _ _ _ HMKE.out rfl (Zal (⟨(k:Int),x,[]⟩:Chg)) #[.int .i64 (k:Int),.slice KAO x.length kcO,.slice none ([]:Row).length 0] (Zca ⟨HOE.out.1,HOE.out.2.more (fun b hb=>.inr ⟨by omega,hb.2,fun e=>by have:=hown b e;have:=hb.1;omega⟩)⟩ ⟨HNE.out.1,HNE.out.2.more (fun b hb=>.inr ⟨by omega,hb.2,fun e=>by have:=hown b e;have:=hb.1;omega⟩)⟩) (Zbg _) (ZaL _) 1 rfl (by omega) (by omega) ?_;intro g7 cap7 w7 hm7 hb7 hlt7;have HM7:=hI hm7;have HB7:=hI hb7;clear hm7 hb7)
               go_roundw
               case rel=>exact⟨l++[(⟨(k:Int),x,[]⟩:Chg)],some ⟨g7,0,none⟩,cap7,ra,([]:List Row),OA2,oc - 1,na - 1,NB,nc,0,by simp,rfl,rfl,by have:=HNA.out;simp at this;omega,rfl,by omega,Nat.zero_le _,HTA.out,RowsS.nil_,by simpa using HM7.out,HBE.out.trans HB7.out,HTG2.out⟩
               case measure=>(simp [ZeF];try omega)
         · have hz:na=0:=(by omega);subst hz;obtain rfl:ra=[]:=List.eq_nil_of_length_eq_zero hna0.symm;clear hna0 hna
           by_cases hnb:0<nb
           · obtain⟨y,rb,rfl⟩:∃ x rb',rb=x :: rb':=by
               cases rb with
               | nil=>simp at hnb0;omega
               | cons x r=>exact⟨x,r,rfl⟩
             obtain⟨by_,oy,YA,yc,rfl,hby,ey,hyc,hyr,htb⟩:=HRB.out.cons;obtain⟨NB2,hNB2⟩:∃ A2,(if nc=1 then (some ⟨by_,oy,none⟩:Option Addr) else some ⟨by_,oy+1,none⟩)=A2:=⟨_,rfl⟩;have HTB:=hI (htb.behind (by simpa using hnb0) hnc hNB2);have HNB2:=hI hNB2;have HY:=hI (And.intro hyc hyr);have ey:=hI ey;clear hNB2 htb hyc hyr hnb0;have hd1:decide (0<nb)=true:=decide_eq_true hnb;have hd2:((nb:Int) == 0)=false:=(by simp;omega);have hd4:(0:Int)<(nb:Int):=by omega
             go_wp2_with fail
             obtain⟨xb,hxb⟩:∃ xb,wi.heap.size=xb:=⟨_,rfl⟩;obtain⟨W0,hW0⟩:∃ W0,wi.alloc (.cells #[.int .i64 (k:Int),.slice none 0 0,.slice none 0 0] 53)=W0:=⟨_,rfl⟩;have HM0:=hI (show DMid wi W0 xb [.int .i64 (k:Int),.slice none 0 0,.slice none 0 0] by rw [←hW0,←hxb];exact DMid.start wi _);have hSx:∀ b,S b→b<xb:=(fun b hb=>by have:=hSi b hb;omega);have hxz:=HM0.out.bel.size;have hxw:=HM0.out.lt;rw [hW0];clear hW0;have HSMN:=hI (show Same S w W0 from fun b hb=>(HM0.out.bel.block b (hSx b hb)).trans (HSI.out b hb));have HROWN:=hI (show RowS W0.drew S YA y from HY.out.2.keep (w':=W0.drew) (HSMN.out));have h0:W0.cell? ⟨by_,oy,none⟩=some (.slice YA y.length yc):=(HSMN.out.cell hby).trans ey.out;have hlN:by_<W0.heap.size:=(by have:=hSx by_ hby;have:=HM0.out.lt;omega);have hnN:by_<xb:=hSx by_ hby;refine tS (fun w'=>w'.cell? ⟨by_,oy,none⟩=some (.slice YA y.length yc)) 9 9 fun Q' HQ HP=>?_;refine tX 0 90 1 91 2 92 4 94 (bA 9 23) HP.out h0 ?_;refine anyT_take (i:=5) (oi:=⟨some 95,_,_,_,_,_⟩) (v:=.slice NB2 (nb - 1) (nc - 1)) (L':=(bA 9 55)) rfl rfl (by kernel_rfl) (by kernel_rfl) (by kernel_rfl) (by kernel_rfl) (by kernel_rfl) HP.out (Or.inl ⟨by rfl,?_⟩) h0 ?_
             · intro w' hSw;rw [←HNB2.out]
               by_cases hc1:nc=1
               · simp only [hc1,if_true];go_simp;(try simp [hc1]);(try (intro h9;omega))
               · simp only [hc1,if_false];go_simp;(try simp [hc1,ZbI]);(try (intro h9;omega))
             simp only [psA,psB,psC];refine tQ 3 (some 93) (bA 9 63) fun K HK=>?_;go_simp;refine(ZaC YA yc y S W0.drew (by exact HROWN.out)).mono ?_;rintro e wkN ⟨KAN,kcN,rfl,hownN,hbk0⟩;have hbk:Below W0.heap.size W0 wkN:=(Below.refl _ W0).drew.trans hbk0;have HBKN:=hI hbk;have hzkN:=hbk.size;have HOWNN:=hI hownN;have h0:=c9J hbk h0;have g0:wkN.cell? ⟨xb,2,none⟩=some (.slice none 0 0):=(HM0.out.below hbk).cell 2 rfl;have g1:wkN.frozen? ⟨xb,2,none⟩=false:=(HM0.out.below hbk).frozen 2;have hxkN:xb<wkN.heap.size:=(HM0.out.below hbk).lt;clear hbk0 hbk hownN;refine HK.out _ _ (fun _=>h0) ?_;clear HK K
             try simp only [Act.put,psA,psB,psC]
             refine tJ 6 96 (bA 9 127) HP.out h0 ?_;refine tQ 7 none (bA 9 255) fun K HK=>?_;go_simp;have h0:=((Fr.one (W:=wkN) (xb:=xb) 2 (.slice KAN y.length kcN)).cell (b:=by_) (o:=oy) (by omega) (by omega)).trans h0;refine HK.out _ _ (fun _=>h0) ?_;clear HK K
             try simp only [Act.put,psA,psB,psC]
             refine tJ 8 15 (bA 9 511) HP.out h0 ?_;refine tE HQ ?_;clear HQ HP Q';obtain⟨W1,hWn⟩:∃ W1,wkN.setCell ⟨xb,2,none⟩ (.slice KAN y.length kcN)=W1:=⟨_,rfl⟩;have HM:=hI (show DMid wi W1 xb [.int .i64 (k:Int),.slice none 0 0,.slice KAN y.length kcN] by rw [←hWn];exact(HM0.out.below HBKN.out).set 2 (.slice KAN y.length kcN));have HRN:=hI (show RowD W1 xb KAN kcN y by rw [←hWn];exact(Zdj HOWNN.out HROWN.out.ok (by show xb<W0.heap.size;exact HM0.out.lt)).keep (Fr.one 2 _));rw [hWn];have HW1:=hI hWn;clear h0 g0 g1 hWn;have HN:=HRN;have HO:=hI (show RowD W1 xb none 0 ([]:Row) from RowD.nil_);have HST:=hI (ZgQ s (k:Int) y rb);have m0:W1.cell? ⟨xb,0,none⟩=some (.int .i64 (k:Int)):=HM.out.cell 0 rfl;have m1:W1.cell? ⟨xb,1,none⟩=some (.slice none ([]:Row).length 0):=HM.out.cell 1 rfl;have m2:W1.cell? ⟨xb,2,none⟩=some (.slice KAN y.length kcN):=HM.out.cell 2 rfl;have hxw:xb<W1.heap.size:=HM.out.lt
             go_wp2_with fail
             refine(ZaM none KAN 0 kcN ([]:Row) y (fun b=>xb<b∧b<W1.heap.size) _ (by exact HO.out.2) (by exact HN.out.2) (fun b hb=>hb.2)).mono ?_;rintro e we ⟨rfl,hbe⟩;have HME:=hI (HM.out.below hbe);have HOE:=hI (HO.out.keep (Fr.of_below hbe));have HNE:=hI (HN.out.keep (Fr.of_below hbe));have hze:=hbe.size;have m0:we.cell? ⟨xb,0,none⟩=some (.int .i64 (k:Int)):=HME.out.cell 0 rfl;have m1:we.cell? ⟨xb,1,none⟩=some (.slice none ([]:Row).length 0):=HME.out.cell 1 rfl;have m2:we.cell? ⟨xb,2,none⟩=some (.slice KAN y.length kcN):=HME.out.cell 2 rfl;have HBE:=hI (HBI.out.trans (HME.out.bel.mono (by omega)));have HMKE:=hI (HMK.out.below (by have h9:=HME.out.bel;rw [←hxb] at h9;exact h9));clear hbe
             by_cases hq:cmpR ([]:Row) y=0
             · have hqb:(cmpR ([]:Row) y == 0)=true:=(by simp [hq]);rw [hqb]
               have HTG2:=hI (show l++(ZaD s (k:Int) ([]:List Row) rb++ZbF s (k+1) (sa.drop (k+1)) (sb.drop (k+1)))=Zbu s sa sb by
                have h9:=HTG.out;rw [HST.out] at h9;simpa [addC,hq] using h9)
               clear hq hqb
               go_wp2_with fail
               go_roundw
               case rel=>exact⟨l,AL,cl,([]:List Row),rb,OA,oc,0,NB2,nc - 1,nb - 1,rfl,rfl,rfl,rfl,by have:=HNB.out;simp at this;omega,Nat.zero_le _,by omega,RowsS.nil_,HTB.out,HMKE.out,HBE.out,HTG2.out⟩
               case measure=>(simp [ZeF];try omega)
             · have hqb:(cmpR ([]:Row) y == 0)=false:=(by simp [hq]);rw [hqb]
               have HTG2:=hI (show (l++[(⟨(k:Int),[],y⟩:Chg)])++(ZaD s (k:Int) ([]:List Row) rb++ZbF s (k+1) (sa.drop (k+1)) (sb.drop (k+1)))=Zbu s sa sb by
                have h9:=HTG.out;rw [HST.out] at h9;simpa [addC,hq] using h9)
               clear hq hqb;have hown:∀ b,some b=(Value.slice AL l.length cl).ownBlock→w2.heap.size≤b∧b<xb:=fun b e=>by have:=HMK.out.base_le e.symm;omega
               go_wp2_with (at_builtin;refine Zap rfl (.tmp 103) (.tmp 105) 48 rfl w2.heap.size (fun _=>False) 53 i0 _ 3 56 Try.underlying48 hi hz0 hz1 hz2 rfl (by decide) _ _ _ _ _ HMKE.out rfl (Zal (⟨(k:Int),[],y⟩:Chg)) #[.int .i64 (k:Int),.slice none ([]:Row).length 0,.slice KAN y.length kcN] (Zca ⟨HOE.out.1,HOE.out.2.more (fun b hb=>.inr ⟨by omega,hb.2,fun e=>by have:=hown b e;have:=hb.1;omega⟩)⟩ ⟨HNE.out.1,HNE.out.2.more (fun b hb=>.inr ⟨by omega,hb.2,fun e=>by have:=hown b e;have:=hb.1;omega⟩)⟩) (Zbg _) (ZaL _) 1 rfl (by omega) (by omega) ?_;intro g7 cap7 w7 hm7 hb7 hlt7;have HM7:=hI hm7;have HB7:=hI hb7;clear hm7 hb7)
               go_roundw
               case rel=>exact⟨l++[(⟨(k:Int),[],y⟩:Chg)],some ⟨g7,0,none⟩,cap7,([]:List Row),rb,OA,oc,0,NB2,nc - 1,nb - 1,by simp,rfl,rfl,rfl,by have:=HNB.out;simp at this;omega,Nat.zero_le _,by omega,RowsS.nil_,HTB.out,by simpa using HM7.out,HBE.out.trans HB7.out,HTG2.out⟩
               case measure=>(simp [ZeF];try omega)
           · have hz:nb=0:=(by omega);subst hz;obtain rfl:rb=[]:=List.eq_nil_of_length_eq_zero hnb0.symm;clear hnb0 hnb;have HTG2:=hI (show l++ZbF s (k+1) (sa.drop (k+1)) (sb.drop (k+1))=Zbu s sa sb by have h9:=HTG.out;rw [ZgP] at h9;exact h9)
             go_wp2_with fail
             go_roundw
             case rel=>exact⟨k+1,l,AL,cl,by omega,by go_num,rfl,HMK.out,HBI.out,HTG2.out⟩
             case measure=>simp [intOf];omega
      · have hke:k=sa.length:=(by omega);subst hke;have HFIN:=hI (show l=Zbu s sa sb by have h9:=HTG.out;rw [List.drop_length,ZbF,List.append_nil] at h9;exact h9);have hll:l.length≤1024:=(by rw [HFIN.out];exact HDL.out);obtain⟨q1,q2,q3⟩:=HMK.out.slice (by rw [Zag (n:=56) (fun _=>rfl)];omega);have HQ:=hI (ChgS.more (S':=New w wo) q3 (fun b hb=>hb.elim (fun h=>h.elim) (fun hb=>⟨by have:=hb.1;omega,hb.2⟩)));clear q1 q3
        go_wp2_with fail
        go_ret2;have hr:ZfQ (schF pc s) s m sa sb=(0,l):=(by rw [HRF.out,HFIN.out];rfl);unfold NetPost;rw [hr];exact⟨AL,cl,rfl,q2,HQ.out,HB2.out.trans (HBO.out.mono (by omega))⟩
   · have hne:(er2 != 0)=true:=by simpa using he2
     go_wp2_with fail
     go_ret2;exact NetPost.err (by rw [HRF.out];simp [he2]) HB2.out
 · have hne:(er1 != 0)=true:=by simpa using he1
   go_wp2_with fail
   go_ret2;exact NetPost.err (by rw [HRF.out];simp [he1]) HB1.out
end Go.Proofs.Ytkpjjfhfbpfjpaa
