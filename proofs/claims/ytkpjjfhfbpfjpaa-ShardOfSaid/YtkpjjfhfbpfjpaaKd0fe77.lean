import Derived.Test.YtkpjjfhfbpfjpaaKda88f1
import Derived.Test.YtkpjjfhfbpfjpaaK39c398
set_option linter.unusedVariables false
set_option linter.unusedSimpArgs false
set_option maxRecDepth 100000
set_option maxHeartbeats 8000000
namespace Go.Proofs.Ytkpjjfhfbpfjpaa
open Go.RowKit
def Zbc (l:List ByteArray) (k:Nat):List ByteArray:=(l.take k).reverse
theorem ZdT {l:List ByteArray} {k:Nat} (h:k<l.length):Zbc l (k+1)=l[k] :: Zbc l k:=by
 unfold Zbc;rw [List.take_succ_eq_append_getElem h];simp
theorem Zfb {l:List ByteArray} {k j:Nat} (h:j<k) (hj:j<l.length):inS (Zbc l k) l[j]=true:=by
 rw [Zfv];unfold Zbc;rw [List.mem_reverse,List.mem_take_iff_getElem];exact⟨j,by omega,rfl⟩
theorem ZeC {l:List ByteArray} {k:Nat} {s:ByteArray} (h:∀ j (hj:j<l.length),j<k→l[j]≠s):inS (Zbc l k) s=false:=by
 cases h9:inS (Zbc l k) s with
 | false=>rfl
 | true =>
  rw [Zfv] at h9;unfold Zbc at h9;rw [List.mem_reverse,List.mem_take_iff_getElem] at h9;obtain⟨j,hj,e⟩:=h9;exact absurd e (h j (by omega) (by omega))
def Zcm (seen:List ByteArray) (t:Tab):Bool:=ZaQ t.name&&!inS seen t.name&&decide (1≤t.key)&&decide (t.key≤t.cols.length)&&Zar [] t.cols
abbrev Zdp (l:List Tab):List ByteArray:=l.map (·.name)
abbrev ZdR (l:List Col):List ByteArray:=l.map (·.name)
theorem Zen {l:List Tab} {k:Nat} (h:k<l.length):(Zdp l)[k]'(by simpa using h)=(l.getD k t0).name:=by simp [List.getD,h]
theorem Zet {l:List Col} {k:Nat} (h:k<l.length):(ZdR l)[k]'(by simpa using h)=(l.getD k c0).name:=by simp [List.getD,h]
theorem named_step (l:List Tab) (k:Nat) (h:k<l.length):Zan (Zbc (Zdp l) k) (l.drop k)=(Zcm (Zbc (Zdp l) k) (l.getD k t0)&&Zan (Zbc (Zdp l) (k+1)) (l.drop (k+1))):=by
 rw [Zcu _ _ _ h,ZdT (by simpa using h),Zen h];rfl
theorem cols_step (l:List Col) (k:Nat) (h:k<l.length):Zar (Zbc (ZdR l) k) (l.drop k)=(ZaQ (l.getD k c0).name&&!inS (Zbc (ZdR l) k) (l.getD k c0).name&&ZaD (l.getD k c0).kind&&Zar (Zbc (ZdR l) (k+1)) (l.drop (k+1))):=by
 rw [ZcN _ _ _ h,ZdT (by simpa using h),Zet h]
theorem rtable_any (A0:Option Addr) (c0':Nat) (s:Sch) (k:Nat) (S:Nat→Prop) (w:World) (hs:TabS w S A0 s.tabs) (hS:∀ b,S b→b<w.heap.size) (hk:k<s.tabs.length) :
  Calls Try.prog 116 #[sAgg s.version A0 s.tabs.length c0',.int .i64 (k:Int)] w (Zaz (Zcm (Zbc (Zdp s.tabs) k) (s.tabs.getD k t0)) w):=by
 obtain⟨ver,tabs⟩:=s;simp only at hs hk ⊢;have hsl:=hs.len;have HS:=hI hs;obtain⟨b2,o2,rfl,hb2,A1,A2,A3,c1,c2,c3,hta⟩:=hs.at_ hk;obtain⟨k1,k2,k3,k4,k5,cS,rS,pS,-,-,-,htx⟩:=hta;have hcl:=cS.len;have HCS:=hI cS;have hl2:b2<w.heap.size:=hS b2 hb2
 have HSN:=hI (show ∀ j,j<k→(tabs.getD j t0).name=(tabs.getD k t0).name→inS (Zbc (Zdp tabs) k) (tabs.getD k t0).name=true from fun j hj e=>by
  rw [←e,←Zen (by omega)];exact Zfb hj (by simp;omega))
 have HNN:=hI (show (∀ j,j<k→(tabs.getD j t0).name≠(tabs.getD k t0).name)→inS (Zbc (Zdp tabs) k) (tabs.getD k t0).name=false from fun h=>ZeC fun j hj hjk e=>by
  rw [Zen (by omega)] at e;exact h j hjk e)
 clear hs cS rS pS;generalize tabs.getD k t0=tb at k1 k2 k3 k4 k5 HCS htx hcl HSN HNN ⊢;generalize Zbc (Zdp tabs) k=sn at HSN HNN ⊢;obtain⟨tn,tc,tk,tr,tp⟩:=tb;simp only at k1 k2 k3 k4 k5 HCS htx hcl HSN HNN;have hki:(k:Int)<tabs.length:=(by omega);have HB0:=hI (((Below.refl w.heap.size w).alloc nR (.cells #[.int .i64 ver,.slice (some ⟨b2,o2,none⟩) tabs.length c0'] 25)).alloc (by simp) (.cells #[.string tn,.slice A1 tc.length c1,.int .i64 tk,.slice A2 tr.length c2,.slice A3 tp.length c3] 39));go_enter Try.func116,Try.ntmps116
 go_wp2_with fail
 refine(ZeG tn _ htx).mono ?_;rintro e w3 ⟨rfl,hb3⟩;have hz3:w.heap.size+1<w3.heap.size:=(by have:=hb3.size;simp at this;omega);have x1:w3.cell? ⟨w.heap.size,1,none⟩=some (.slice (some ⟨b2,o2,none⟩) tabs.length c0'):=cK hb3 (by simp);have x2:w3.cell? ⟨w.heap.size+1,0,none⟩=some (.string tn):=cQ hb3 (by simp) (by simp);have x3:w3.cell? ⟨w.heap.size+1,1,none⟩=some (.slice A1 tc.length c1):=cQ hb3 (by simp) (by simp);have x4:w3.cell? ⟨w.heap.size+1,2,none⟩=some (.int .i64 tk):=cQ hb3 (by simp) (by simp);have HB3:=hI (HB0.out.trans (hb3.mono (by simp;omega)));clear hb3 k1 k2 k3 k4 k5 HB0
 by_cases hn:ZaQ tn=true
 · have HN:=hI hn;rw [hn];clear hn
   by_cases hc0:tc.length=0
   · have hd1:((tc.length:Int) == 0)=true:=(by simp [hc0])
     have HF:=hI (show Zcm sn ⟨tn,tc,tk,tr,tp⟩=false by
      unfold Zcm
      by_cases h:1≤tk
      · rw [show decide (tk≤((⟨tn,tc,tk,tr,tp⟩:Tab).cols.length:Int))=false from decide_eq_false (by simp only;omega)];simp
      · rw [show decide (1≤(⟨tn,tc,tk,tr,tp⟩:Tab).key)=false from decide_eq_false (by simp only;omega)];simp)
     clear hc0
     go_wp2_with fail
     go_ret;exact⟨by rw [HF.out];rfl,HB3.out⟩
   have hd1:((tc.length:Int) == 0)=false:=beq_false_of_ne (by omega)
   by_cases hk1:tk<1
   · have hd2:decide (tk<1)=true:=decide_eq_true hk1
     have HF:=hI (show Zcm sn ⟨tn,tc,tk,tr,tp⟩=false by
      unfold Zcm;rw [show decide (1≤(⟨tn,tc,tk,tr,tp⟩:Tab).key)=false from decide_eq_false (by simp only;omega)];simp)
     go_wp2_with fail
     go_ret;exact⟨by rw [HF.out];rfl,HB3.out⟩
   have hd2:decide (tk<1)=false:=decide_eq_false hk1
   by_cases hk2:(tc.length:Int)<tk
   · have hd3:decide ((tc.length:Int)<tk)=true:=decide_eq_true hk2
     have HF:=hI (show Zcm sn ⟨tn,tc,tk,tr,tp⟩=false by
      unfold Zcm;rw [show decide (tk≤((⟨tn,tc,tk,tr,tp⟩:Tab).cols.length:Int))=false from decide_eq_false (by simp only;omega)];simp)
     go_wp2_with fail
     go_ret;exact⟨by rw [HF.out];rfl,HB3.out⟩
   have hd3:decide ((tc.length:Int)<tk)=false:=decide_eq_false hk2
   have HOK:=hI (show Zcm sn ⟨tn,tc,tk,tr,tp⟩=(!inS sn tn&&Zar [] tc) by
    unfold Zcm;rw [show ZaQ (⟨tn,tc,tk,tr,tp⟩:Tab).name=true from HN.out,show decide (tk≤((⟨tn,tc,tk,tr,tp⟩:Tab).cols.length:Int))=true from decide_eq_true (by simp only;omega),show decide (1≤(⟨tn,tc,tk,tr,tp⟩:Tab).key)=true from decide_eq_true (by simp only;omega)];simp)
   clear HN
   go_wp2_with fail
   clear hd1 hd2 hd3 hk1 hk2
   go_loopw [6] (fun i wr=>∃ j:Nat,j≤k∧i=.int .i64 j∧(∀ q,q<j→(tabs.getD q t0).name≠tn)∧Below w3.heap.size w3 wr) (fun i _=>k - (intOf i).toNat)
   case atStart=>exact⟨0,Nat.zero_le _,rfl,fun q hq=>absurd hq (by omega),Below.refl _ _⟩
   case round =>
    obtain⟨j,hjk,rfl,hnq,hbel⟩:=hrel;have HNQ:=hI hnq;have HB:=hI hbel;have HBW:=hI (HB3.out.trans (hbel.mono (by omega)));have hzr:=hbel.size;have x1:=cJ hbel x1;have x2:=cJ hbel x2;have x3:=cJ hbel x3;clear hnq hbel
    by_cases hj:j<k
    · have hji:(j:Int)<k:=(by omega);have hjl:(j:Int)<tabs.length:=(by omega);obtain⟨b4,o4,eA0,hb4,B1,B2,B3,e1,e2,e3,hta⟩:=(HS.out.keep (Same.of_below HBW.out hS)).at_ (k:=j) (by omega);injection eA0 with eA0;injection eA0 with ea eb;subst ea eb;have l1:=hta.name;have hl4:b2<wr.heap.size:=(by omega);clear hta;have HQ:=hI (HSN.out j hj)
      have HS2:=hI (show (tabs.getD j t0).name≠tn→∀ q,q<j+1→(tabs.getD q t0).name≠tn from fun h q hq=>by
       rcases Nat.lt_or_ge q j with h9 | h9
       · exact HNQ.out q h9
       · obtain rfl:q=j:=(by omega);exact h)
      generalize (tabs.getD j t0).name=jn at l1 HQ HS2
      by_cases he:jn=tn
      · subst he;have HF:=hI (show Zcm sn ⟨jn,tc,tk,tr,tp⟩=false by rw [HOK.out,HQ.out rfl];rfl)
        go_wp2_with fail
        go_quiet (fail)
        go_wp2_with fail
        go_ret;exact⟨by rw [HF.out];rfl,Zad HBW.out _⟩
      · have hne:=ZbR he;have HC:=hI (HS2.out he);clear he
        go_wp2_with fail
        go_quiet (fail)
        go_wp2_with fail
        go_roundw
        case rel=>exact⟨j+1,by omega,by go_num,HC.out,Zad HB.out _⟩
        case measure=>simp [intOf];omega
    · have hji:¬ (j:Int)<k:=(by omega)
      have HI:=hI (show Zcm sn ⟨tn,tc,tk,tr,tp⟩=Zar [] tc by
       rw [HOK.out,HNN.out fun q hq=>HNQ.out q (by omega)];rfl)
      clear HOK HNN HSN HNQ
      go_wp2_with fail
      obtain⟨w4,hw4⟩:∃ w4,wr=w4:=⟨_,rfl⟩;subst hw4
      go_loopw [54] (fun i wq=>∃ j:Nat,j≤tc.length∧i=.int .i64 j∧Zar [] tc=Zar (Zbc (ZdR tc) j) (tc.drop j)∧Below wr.heap.size wr wq) (fun i _=>tc.length - (intOf i).toNat)
      case atStart=>exact⟨0,Nat.zero_le _,rfl,by simp [Zbc],Below.refl _ _⟩
      case round =>
       obtain⟨q,hq,rfl,hcf,hbel⟩:=hrel;have HCF:=hI hcf;have HB2:=hI hbel;have HBW2:=hI (HBW.out.trans (hbel.mono (by omega)));have hzq:=hbel.size;have x3:=cJ hbel x3;clear hcf hbel
       by_cases hql:q<tc.length
       · have hqi:(q:Int)<tc.length:=(by omega);have HCQ:=hI (HCS.out.keep (Same.of_below HBW2.out hS));obtain⟨b5,o5,rfl,hb5,m0,m1⟩:=HCQ.out.at_ hql;have htq:=HCQ.out.txt hql;have hl5:b5<w.heap.size:=hS b5 hb5;have HSTEP:=hI (cols_step tc q hql)
         have HSC:=hI (show ∀ j,j<q→(tc.getD j c0).name=(tc.getD q c0).name→inS (Zbc (ZdR tc) q) (tc.getD q c0).name=true from fun j hj e=>by
          rw [←e,←Zet (by omega)];exact Zfb hj (by simp;omega))
         have HNC:=hI (show (∀ j,j<q→(tc.getD j c0).name≠(tc.getD q c0).name)→inS (Zbc (ZdR tc) q) (tc.getD q c0).name=false from fun h=>ZeC fun j hj hjk e=>by
          rw [Zet (by omega)] at e;exact h j hjk e)
         generalize Zbc (ZdR tc) q=sc at HSTEP HSC HNC HCF;generalize tc.getD q c0=cq at m0 m1 htq HSTEP HSC HNC;obtain⟨cn,ck⟩:=cq;simp only at m0 m1 htq HSTEP HSC HNC
         go_wp2_with fail
         refine(ZeG cn _ htq).mono ?_;rintro e w5 ⟨rfl,hb6⟩;have HB5:=hI (HB2.out.trans (hb6.mono (by omega)));have HBW5:=hI (HBW2.out.trans (hb6.mono (by omega)));have hz5:=hb6.size;have x3:=cJ hb6 x3;have m1:=cJ hb6 m1;have m0:=cJ hb6 m0;clear hb6
         by_cases hn:ZaQ cn=true
         · have HN:=hI hn;rw [hn];clear hn
           go_wp2_with fail
           refine(Zdg ck _).mono ?_;rintro e w6 ⟨rfl,rfl⟩
           by_cases hck:ZaD ck=true
           · have HST:=hI (show Zar sc (tc.drop q)=(!inS sc cn&&Zar (Zbc (ZdR tc) (q+1)) (tc.drop (q+1))) by rw [HSTEP.out,HN.out,hck];simp);rw [hck];clear hck HSTEP HN
             go_wp2_with fail
             go_loopw [8] (fun i wp=>∃ p:Nat,p≤q∧i=.int .i64 p∧(∀ j,j<p→(tc.getD j c0).name≠cn)∧Below w6.heap.size w6 wp) (fun i _=>q - (intOf i).toNat)
             case atStart=>exact⟨0,Nat.zero_le _,rfl,fun q hq=>absurd hq (by omega),Below.refl _ _⟩
             case round =>
              obtain⟨p,hp,rfl,hnp,hbel⟩:=hrel;have HNP:=hI hnp;have HB6:=hI hbel;have HBW6:=hI (HBW5.out.trans (hbel.mono (by omega)));have HB56:=hI (HB5.out.trans (hbel.mono (by omega)));have hz6:=hbel.size;have x3:=cJ hbel x3;have m0:=cJ hbel m0;clear hnp hbel
              by_cases hpq:p<q
              · have hpi:(p:Int)<q:=(by omega);have hpl:(p:Int)<tc.length:=(by omega);obtain⟨b7,o7,eA7,hb7,n0,n1⟩:=(HCS.out.keep (Same.of_below HBW6.out hS)).at_ (k:=p) (by omega);injection eA7 with eA7;injection eA7 with ea eb;subst ea eb;have HQ:=hI (HSC.out p hpq)
                have HS2:=hI (show (tc.getD p c0).name≠cn→∀ q,q<p+1→(tc.getD q c0).name≠cn from fun h q hq=>by
                 rcases Nat.lt_or_ge q p with h9 | h9
                 · exact HNP.out q h9
                 · obtain rfl:q=p:=(by omega);exact h)
                clear n1;generalize (tc.getD p c0).name=pn at n0 HQ HS2
                by_cases he:pn=cn
                · subst he;have HF:=hI (show Zar [] tc=false by rw [HCF.out,HST.out,HQ.out rfl];rfl)
                  go_wp2_with fail
                  go_quiet (fail)
                  go_wp2_with fail
                  go_ret;exact⟨by rw [HI.out,HF.out];rfl,Zad HBW6.out _⟩
                · have hne:=ZbR he;have HC:=hI (HS2.out he);clear he
                  go_wp2_with fail
                  go_quiet (fail)
                  go_wp2_with fail
                  go_roundw
                  case rel=>exact⟨p+1,by omega,by go_num,HC.out,Zad HB6.out _⟩
                  case measure=>simp [intOf];omega
              · have hpi:¬ (p:Int)<q:=(by omega)
                have HC:=hI (show Zar [] tc=Zar (Zbc (ZdR tc) (q+1)) (tc.drop (q+1)) by
                 rw [HCF.out,HST.out,HNC.out fun j hj=>HNP.out j (by omega)];rfl)
                go_wp2_with fail
                go_roundw
                case rel=>exact⟨q+1,by omega,by go_num,HC.out,HB56.out⟩
                case measure=>simp [intOf];omega
           · have hck':ZaD ck=false:=(by simpa using hck);have HF:=hI (show Zar [] tc=false by rw [HCF.out,HSTEP.out,hck'];simp);rw [hck'];clear hck hck'
             go_wp2_with fail
             go_ret;exact⟨by rw [HI.out,HF.out];rfl,HBW5.out⟩
         · have hn':ZaQ cn=false:=(by simpa using hn);have HF:=hI (show Zar [] tc=false by rw [HCF.out,HSTEP.out,hn'];simp);rw [hn'];clear hn hn'
           go_wp2_with fail
           go_ret;exact⟨by rw [HI.out,HF.out];rfl,HBW5.out⟩
       · have hqi:¬ (q:Int)<tc.length:=(by omega);have HC:=hI (show Zar [] tc=true by rw [HCF.out,List.drop_eq_nil_of_le (by omega)];rfl)
         go_wp2_with fail
         go_ret;exact⟨by rw [HI.out,HC.out];rfl,HBW2.out⟩
 · have hn':ZaQ tn=false:=(by simpa using hn)
   have HF:=hI (show Zcm sn ⟨tn,tc,tk,tr,tp⟩=false by
    unfold Zcm;rw [show ZaQ (⟨tn,tc,tk,tr,tp⟩:Tab).name=false from hn'];rfl)
   rw [hn'];clear hn hn'
   go_wp2_with fail
   go_ret;exact⟨by rw [HF.out];rfl,HB3.out⟩
end Go.Proofs.Ytkpjjfhfbpfjpaa
