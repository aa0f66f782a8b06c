import Derived.Test.YtkpjjfhfbpfjpaaGreatK13ff61
import Derived.Test.YtkpjjfhfbpfjpaaGreatK39c398
set_option linter.unusedVariables false
set_option linter.unusedSimpArgs false
set_option maxRecDepth 100000
set_option maxHeartbeats 8000000
namespace Go.Proofs.YtkpjjfhfbpfjpaaGreat
open Go.RowKit
def ZeP (c:Nat):Bool:=(decide (97≤c)&&decide (c≤122))||(decide (48≤c)&&decide (c≤57))||decide (c=95)
theorem nameC_r {i c:Nat} (h:ZbD i c=true):ZeP c=true:=by
 simp only [ZbD,ZeP,Bool.or_eq_true,Bool.and_eq_true,decide_eq_true_eq] at h ⊢;omega
theorem nameC_of_r {i c:Nat} (hi:i≠0) (h:ZeP c=true):ZbD i c=true:=by
 simp only [ZbD,ZeP,Bool.or_eq_true,Bool.and_eq_true,decide_eq_true_eq] at h ⊢;omega
theorem get_byteAt (s:ByteArray) (i:Nat) (h:i<s.size):(s[i]'h).toNat=Zbt s i:=by
 have:s.get! i=s[i]:=by
  unfold ByteArray.get!;show s.data[i]! = _;rw [getElem!_pos s.data i h];rfl
 unfold Zbt;rw [this]
theorem Zhu (s:ByteArray) (w:World) (hs:s.size≤9223372036854775807):Calls Tryz.prog 125 #[.string s] w (ZaP (ZbC s) w):=by
 have hix:∀ (j:Nat) (W:World),j<s.size→(Instr.index 9 (.string s) (.int .i64 (j:Int))).run Tryz.prog W=.ok (.int .u8 (Zbt s j)) W:=fun j W hj=>by
  rw [run_index_string W 9 s .i64 j Tryz.underlying9,dif_pos ⟨by omega,by omega⟩];simp only [Int.toNat_natCast,get_byteAt s j hj]
 have HIX:=hI hix;clear hix
 by_cases h1:s.size=0
 · have HF:=hI (show ZbC s=false by unfold ZbC;rw [show decide (1≤s.size)=false from decide_eq_false (by omega)];simp);have hd1:((s.size:Int) == 0)=true:=(by simp [h1]);clear h1;go_enter Tryz.func125,Tryz.ntmps125
   go_wp2_with fail
   go_ret;exact⟨by rw [HF.out];rfl,Below.refl _ _⟩
 have hd1:((s.size:Int) == 0)=false:=beq_false_of_ne (by omega)
 by_cases h2:32<s.size
 · have HF:=hI (show ZbC s=false by unfold ZbC;rw [show decide (s.size≤32)=false from decide_eq_false (by omega)];simp);have hd2:decide ((32:Int)<s.size)=true:=decide_eq_true (by omega);go_enter Tryz.func125,Tryz.ntmps125
   go_wp2_with fail
   go_ret;exact⟨by rw [HF.out];rfl,Below.refl _ _⟩
 have hd2:decide ((32:Int)<s.size)=false:=decide_eq_false (by omega);have hi0:∀ W:World,(Instr.index 9 (.string s) (.int .i64 0)).run Tryz.prog W=.ok (.int .u8 (Zbt s 0)) W:=(fun W=>by simpa using HIX.out 0 W (by omega));have HN0:=hI (show ZbD 0 (Zbt s 0)=false→ZbC s=false from fun h=>Zeg (by omega) h);have H0:=hI (show ∀ j,j=0→Zbt s j=Zbt s 0 from fun j h=>by rw [h]);obtain⟨c0,hc0⟩:∃ c,Zbt s 0=c:=⟨_,rfl⟩;rw [hc0] at hi0 HN0 H0;clear hc0
 by_cases h3:c0<97
 · have hd3:decide ((c0:Int)<97)=true:=decide_eq_true (by omega);have HF:=hI (HN0.out (by simp [ZbD];omega));go_enter Tryz.func125,Tryz.ntmps125
   go_wp2_with fail
   go_ret;exact⟨by rw [HF.out];rfl,Below.refl _ _⟩
 have hd3:decide ((c0:Int)<97)=false:=decide_eq_false (by omega)
 by_cases h4:122<c0
 · have hd4:decide ((122:Int)<c0)=true:=decide_eq_true (by omega);have HF:=hI (HN0.out (by simp [ZbD];omega));go_enter Tryz.func125,Tryz.ntmps125
   go_wp2_with fail
   go_ret;exact⟨by rw [HF.out];rfl,Below.refl _ _⟩
 have hd4:decide ((122:Int)<c0)=false:=decide_eq_false (by omega);have HC0:=hI (show ZbD 0 c0=true by simp [ZbD];omega);go_enter Tryz.func125,Tryz.ntmps125
 go_wp2_with fail
 clear hi0 hd1 hd2 hd3 hd4
 go_loopw [3] (fun i wr=>∃ pos:Nat,pos≤s.size∧i=.int .i64 pos∧(∀ i,i<pos→ZeP (Zbt s i)=true)∧Below w.heap.size w wr) (fun i _=>s.size - (intOf i).toNat)
 case atStart=>exact⟨0,Nat.zero_le _,rfl,fun i hi=>absurd hi (by omega),Below.refl _ _⟩
 case round =>
  obtain⟨pos,hps,rfl,hall,hbel⟩:=hrel;have HA:=hI hall;have HB:=hI hbel;clear hall hbel
  by_cases hp:pos<s.size
  · have hix:=fun W=>HIX.out pos W hp
    have HS:=hI (show ZeP (Zbt s pos)=true→∀ i,i<pos+1→ZeP (Zbt s i)=true from fun hc i hi=>by
     rcases Nat.lt_or_ge i pos with h | h
     · exact HA.out i h
     · have:i=pos:=(by omega);subst this;exact hc)
    have HFF:=hI (show ZeP (Zbt s pos)=false→ZbC s=false from fun hc=>Zeg hp (by
     cases h9:ZbD pos (Zbt s pos) with
     | false=>rfl
     | true=>rw [nameC_r h9] at hc;cases hc))
    generalize Zbt s pos=c at hix HS HFF;have hpi:(pos:Int)<s.size:=by omega
    by_cases hl1:c<97
    · have e1:decide ((c:Int)<97)=true:=decide_eq_true (by omega)
      by_cases hl2:c<48
      · have e2:decide ((c:Int)<48)=true:=decide_eq_true (by omega);have e3:((c:Int) != 95)=true:=(by simp;omega);have HF:=hI (HFF.out (by simp [ZeP];omega))
        go_wp2_with fail
        go_ret;exact⟨by rw [HF.out];rfl,HB.out⟩
      · have e2:decide ((c:Int)<48)=false:=decide_eq_false (by omega)
        by_cases hl3:57<c
        · have e4:decide ((57:Int)<c)=true:=decide_eq_true (by omega)
          by_cases hl4:c=95
          · subst hl4;have HC:=hI (HS.out rfl)
            go_wp2_with fail
            go_roundw
            case rel=>exact⟨pos+1,by omega,by go_num,HC.out,HB.out⟩
            case measure=>simp [intOf];omega
          · have e3:((c:Int) != 95)=true:=(by simp;omega);have HF:=hI (HFF.out (by simp [ZeP];omega))
            go_wp2_with fail
            go_ret;exact⟨by rw [HF.out];rfl,HB.out⟩
        · have e4:decide ((57:Int)<c)=false:=decide_eq_false (by omega);have HC:=hI (HS.out (by simp [ZeP];omega))
          go_wp2_with fail
          go_roundw
          case rel=>exact⟨pos+1,by omega,by go_num,HC.out,HB.out⟩
          case measure=>simp [intOf];omega
    · have e1:decide ((c:Int)<97)=false:=decide_eq_false (by omega)
      by_cases hl2:122<c
      · have e2:decide ((122:Int)<c)=true:=decide_eq_true (by omega);have e3:decide ((c:Int)<48)=false:=decide_eq_false (by omega);have e4:decide ((57:Int)<c)=true:=decide_eq_true (by omega);have e5:((c:Int) != 95)=true:=(by simp;omega);have HF:=hI (HFF.out (by simp [ZeP];omega))
        go_wp2_with fail
        go_ret;exact⟨by rw [HF.out];rfl,HB.out⟩
      · have e2:decide ((122:Int)<c)=false:=decide_eq_false (by omega);have HC:=hI (HS.out (by simp [ZeP];omega))
        go_wp2_with fail
        go_roundw
        case rel=>exact⟨pos+1,by omega,by go_num,HC.out,HB.out⟩
        case measure=>simp [intOf];omega
  · have hpi:¬ (pos:Int)<s.size:=(by omega)
    have HF:=hI (show ZbC s=true from Zgv (by omega) (by omega) (fun i hi=>by
     by_cases h0:i=0
     · rw [h0,H0.out 0 rfl];exact HC0.out
     · exact nameC_of_r h0 (HA.out i (by omega))))
    go_wp2_with fail
    go_ret;exact⟨by rw [HF.out];rfl,HB.out⟩
def ZbW (l:List ByteArray) (k:Nat):List ByteArray:=(l.take k).reverse
theorem Zgk {l:List ByteArray} {k:Nat} (h:k<l.length):ZbW l (k+1)=l[k] :: ZbW l k:=by
 unfold ZbW;rw [List.take_succ_eq_append_getElem h];simp
theorem seenN_in {l:List ByteArray} {k j:Nat} (h:j<k) (hj:j<l.length):inS (ZbW l k) l[j]=true:=by
 rw [inS_mem];unfold ZbW;rw [List.mem_reverse,List.mem_take_iff_getElem];exact⟨j,by omega,rfl⟩
theorem Zho {l:List ByteArray} {k:Nat} {s:ByteArray} (h:∀ j (hj:j<l.length),j<k→l[j]≠s):inS (ZbW l k) s=false:=by
 cases h9:inS (ZbW l k) s with
 | false=>rfl
 | true =>
  rw [inS_mem] at h9;unfold ZbW at h9;rw [List.mem_reverse,List.mem_take_iff_getElem] at h9;obtain⟨j,hj,e⟩:=h9;exact absurd e (h j (by omega) (by omega))
def ZdP (seen:List ByteArray) (t:Tab):Bool:=ZbC t.name&&!inS seen t.name&&decide (1≤t.key)&&decide (t.key≤t.cols.length)&&ZaM [] t.cols
abbrev Zfn (l:List Tab):List ByteArray:=l.map (·.name)
abbrev Zgf (l:List Col):List ByteArray:=l.map (·.name)
theorem ZgL {l:List Tab} {k:Nat} (h:k<l.length):(Zfn l)[k]'(by simpa using h)=(l.getD k t0).name:=by simp [List.getD,h]
theorem ZgZ {l:List Col} {k:Nat} (h:k<l.length):(Zgf l)[k]'(by simpa using h)=(l.getD k c0).name:=by simp [List.getD,h]
theorem named_step (l:List Tab) (k:Nat) (h:k<l.length):ZaC (ZbW (Zfn l) k) (l.drop k)=(ZdP (ZbW (Zfn l) k) (l.getD k t0)&&ZaC (ZbW (Zfn l) (k+1)) (l.drop (k+1))):=by
 rw [ZdZ _ _ _ h,Zgk (by simpa using h),ZgL h];rfl
theorem cols_step (l:List Col) (k:Nat) (h:k<l.length):ZaM (ZbW (Zgf l) k) (l.drop k)=(ZbC (l.getD k c0).name&&!inS (ZbW (Zgf l) k) (l.getD k c0).name&&Zbg (l.getD k c0).kind&&ZaM (ZbW (Zgf l) (k+1)) (l.drop (k+1))):=by
 rw [ZeC _ _ _ h,Zgk (by simpa using h),ZgZ h]
theorem rtable_any (A0:Option Addr) (c0':Nat) (s:Sch) (k:Nat) (S:Nat→Prop) (w:World) (hs:TabS w S A0 s.tabs) (hS:∀ b,S b→b<w.heap.size) (hk:k<s.tabs.length) :
  Calls Tryz.prog 101 #[sAgg s.version A0 s.tabs.length c0',.int .i64 (k:Int)] w (ZaP (ZdP (ZbW (Zfn s.tabs) k) (s.tabs.getD k t0)) w):=by
 obtain⟨ver,tabs⟩:=s;simp only at hs hk ⊢;have hsl:=hs.len;have HS:=hI hs;obtain⟨b2,o2,rfl,hb2,A1,A2,A3,c1,c2,c3,hta⟩:=hs.at_ hk;obtain⟨k1,k2,k3,k4,k5,cS,rS,pS,-,-,-,htx⟩:=hta;have hcl:=cS.len;have HCS:=hI cS;have hl2:b2<w.heap.size:=hS b2 hb2
 have HSN:=hI (show ∀ j,j<k→(tabs.getD j t0).name=(tabs.getD k t0).name→inS (ZbW (Zfn tabs) k) (tabs.getD k t0).name=true from fun j hj e=>by
  rw [←e,←ZgL (by omega)];exact seenN_in hj (by simp;omega))
 have HNN:=hI (show (∀ j,j<k→(tabs.getD j t0).name≠(tabs.getD k t0).name)→inS (ZbW (Zfn tabs) k) (tabs.getD k t0).name=false from fun h=>Zho fun j hj hjk e=>by
  rw [ZgL (by omega)] at e;exact h j hjk e)
 clear hs cS rS pS;generalize tabs.getD k t0=tb at k1 k2 k3 k4 k5 HCS htx hcl HSN HNN ⊢;generalize ZbW (Zfn tabs) k=sn at HSN HNN ⊢;obtain⟨tn,tc,tk,tr,tp⟩:=tb;simp only at k1 k2 k3 k4 k5 HCS htx hcl HSN HNN;have hki:(k:Int)<tabs.length:=(by omega);have HB0:=hI (((Below.refl w.heap.size w).alloc nR (.cells #[.int .i64 ver,.slice (some ⟨b2,o2,none⟩) tabs.length c0'] 28)).alloc (by simp) (.cells #[.string tn,.slice A1 tc.length c1,.int .i64 tk,.slice A2 tr.length c2,.slice A3 tp.length c3] 72));go_enter Tryz.func101,Tryz.ntmps101
 go_wp2_with fail
 refine(Zhu tn _ htx).mono ?_;rintro e w3 ⟨rfl,hb3⟩;have hz3:w.heap.size+1<w3.heap.size:=(by have:=hb3.size;simp at this;omega);have x1:w3.cell? ⟨w.heap.size,1,none⟩=some (.slice (some ⟨b2,o2,none⟩) tabs.length c0'):=cK hb3 (by simp);have x2:w3.cell? ⟨w.heap.size+1,0,none⟩=some (.string tn):=cQ hb3 (by simp) (by simp);have x3:w3.cell? ⟨w.heap.size+1,1,none⟩=some (.slice A1 tc.length c1):=cQ hb3 (by simp) (by simp);have x4:w3.cell? ⟨w.heap.size+1,2,none⟩=some (.int .i64 tk):=cQ hb3 (by simp) (by simp);have HB3:=hI (HB0.out.trans (hb3.mono (by simp;omega)));clear hb3 k1 k2 k3 k4 k5 HB0
 by_cases hn:ZbC tn=true
 · have HN:=hI hn;rw [hn];clear hn
   by_cases hc0:tc.length=0
   · have hd1:((tc.length:Int) == 0)=true:=(by simp [hc0])
     have HF:=hI (show ZdP sn ⟨tn,tc,tk,tr,tp⟩=false by
      unfold ZdP
      by_cases h:1≤tk
      · rw [show decide (tk≤((⟨tn,tc,tk,tr,tp⟩:Tab).cols.length:Int))=false from decide_eq_false (by simp only;omega)];simp
      · rw [show decide (1≤(⟨tn,tc,tk,tr,tp⟩:Tab).key)=false from decide_eq_false (by simp only;omega)];simp)
     clear hc0
     go_wp2_with fail
     go_ret;exact⟨by rw [HF.out];rfl,HB3.out⟩
   have hd1:((tc.length:Int) == 0)=false:=beq_false_of_ne (by omega)
   by_cases hk1:tk<1
   · have hd2:decide (tk<1)=true:=decide_eq_true hk1
     have HF:=hI (show ZdP sn ⟨tn,tc,tk,tr,tp⟩=false by
      unfold ZdP;rw [show decide (1≤(⟨tn,tc,tk,tr,tp⟩:Tab).key)=false from decide_eq_false (by simp only;omega)];simp)
     go_wp2_with fail
     go_ret;exact⟨by rw [HF.out];rfl,HB3.out⟩
   have hd2:decide (tk<1)=false:=decide_eq_false hk1
   by_cases hk2:(tc.length:Int)<tk
   · have hd3:decide ((tc.length:Int)<tk)=true:=decide_eq_true hk2
     have HF:=hI (show ZdP sn ⟨tn,tc,tk,tr,tp⟩=false by
      unfold ZdP;rw [show decide (tk≤((⟨tn,tc,tk,tr,tp⟩:Tab).cols.length:Int))=false from decide_eq_false (by simp only;omega)];simp)
     go_wp2_with fail
     go_ret;exact⟨by rw [HF.out];rfl,HB3.out⟩
   have hd3:decide ((tc.length:Int)<tk)=false:=decide_eq_false hk2
   have HOK:=hI (show ZdP sn ⟨tn,tc,tk,tr,tp⟩=(!inS sn tn&&ZaM [] tc) by
    unfold ZdP;rw [show ZbC (⟨tn,tc,tk,tr,tp⟩:Tab).name=true from HN.out,show decide (tk≤((⟨tn,tc,tk,tr,tp⟩:Tab).cols.length:Int))=true from decide_eq_true (by simp only;omega),show decide (1≤(⟨tn,tc,tk,tr,tp⟩:Tab).key)=true from decide_eq_true (by simp only;omega)];simp)
   clear HN
   go_wp2_with fail
   clear hd1 hd2 hd3 hk1 hk2
   go_loopw [6] (fun i wr=>∃ j:Nat,j≤k∧i=.int .i64 j∧(∀ q,q<j→(tabs.getD q t0).name≠tn)∧Below w3.heap.size w3 wr) (fun i _=>k - (intOf i).toNat)
   case atStart=>exact⟨0,Nat.zero_le _,rfl,fun q hq=>absurd hq (by omega),Below.refl _ _⟩
   case round =>
    obtain⟨j,hjk,rfl,hnq,hbel⟩:=hrel;have HNQ:=hI hnq;have HB:=hI hbel;have HBW:=hI (HB3.out.trans (hbel.mono (by omega)));have hzr:=hbel.size;have x1:=cJ hbel x1;have x2:=cJ hbel x2;have x3:=cJ hbel x3;clear hnq hbel
    by_cases hj:j<k
    · have hji:(j:Int)<k:=(by omega);have hjl:(j:Int)<tabs.length:=(by omega);obtain⟨b4,o4,eA0,hb4,B1,B2,B3,e1,e2,e3,hta⟩:=(HS.out.keep (Same.of_below HBW.out hS)).at_ (k:=j) (by omega);injection eA0 with eA0;injection eA0 with ea eb;subst ea eb;have l1:=hta.name;have hl4:b2<wr.heap.size:=(by omega);clear hta;have HQ:=hI (HSN.out j hj)
      have HS2:=hI (show (tabs.getD j t0).name≠tn→∀ q,q<j+1→(tabs.getD q t0).name≠tn from fun h q hq=>by
       rcases Nat.lt_or_ge q j with h9 | h9
       · exact HNQ.out q h9
       · obtain rfl:q=j:=(by omega);exact h)
      generalize (tabs.getD j t0).name=jn at l1 HQ HS2
      by_cases he:jn=tn
      · subst he;have HF:=hI (show ZdP sn ⟨jn,tc,tk,tr,tp⟩=false by rw [HOK.out,HQ.out rfl];rfl)
        go_wp2_with fail
        go_quiet (fail)
        go_wp2_with fail
        go_ret;exact⟨by rw [HF.out];rfl,Zag HBW.out _⟩
      · have hne:=ZcT he;have HC:=hI (HS2.out he);clear he
        go_wp2_with fail
        go_quiet (fail)
        go_wp2_with fail
        go_roundw
        case rel=>exact⟨j+1,by omega,by go_num,HC.out,Zag HB.out _⟩
        case measure=>simp [intOf];omega
    · have hji:¬ (j:Int)<k:=(by omega)
      have HI:=hI (show ZdP sn ⟨tn,tc,tk,tr,tp⟩=ZaM [] tc by
       rw [HOK.out,HNN.out fun q hq=>HNQ.out q (by omega)];rfl)
      clear HOK HNN HSN HNQ
      go_wp2_with fail
      obtain⟨w4,hw4⟩:∃ w4,wr=w4:=⟨_,rfl⟩;subst hw4
      go_loopw [54] (fun i wq=>∃ j:Nat,j≤tc.length∧i=.int .i64 j∧ZaM [] tc=ZaM (ZbW (Zgf tc) j) (tc.drop j)∧Below wr.heap.size wr wq) (fun i _=>tc.length - (intOf i).toNat)
      case atStart=>exact⟨0,Nat.zero_le _,rfl,by simp [ZbW],Below.refl _ _⟩
      case round =>
       obtain⟨q,hq,rfl,hcf,hbel⟩:=hrel;have HCF:=hI hcf;have HB2:=hI hbel;have HBW2:=hI (HBW.out.trans (hbel.mono (by omega)));have hzq:=hbel.size;have x3:=cJ hbel x3;clear hcf hbel
       by_cases hql:q<tc.length
       · have hqi:(q:Int)<tc.length:=(by omega);have HCQ:=hI (HCS.out.keep (Same.of_below HBW2.out hS));obtain⟨b5,o5,rfl,hb5,m0,m1⟩:=HCQ.out.at_ hql;have htq:=HCQ.out.txt hql;have hl5:b5<w.heap.size:=hS b5 hb5;have HSTEP:=hI (cols_step tc q hql)
         have HSC:=hI (show ∀ j,j<q→(tc.getD j c0).name=(tc.getD q c0).name→inS (ZbW (Zgf tc) q) (tc.getD q c0).name=true from fun j hj e=>by
          rw [←e,←ZgZ (by omega)];exact seenN_in hj (by simp;omega))
         have HNC:=hI (show (∀ j,j<q→(tc.getD j c0).name≠(tc.getD q c0).name)→inS (ZbW (Zgf tc) q) (tc.getD q c0).name=false from fun h=>Zho fun j hj hjk e=>by
          rw [ZgZ (by omega)] at e;exact h j hjk e)
         generalize ZbW (Zgf tc) q=sc at HSTEP HSC HNC HCF;generalize tc.getD q c0=cq at m0 m1 htq HSTEP HSC HNC;obtain⟨cn,ck⟩:=cq;simp only at m0 m1 htq HSTEP HSC HNC
         go_wp2_with fail
         refine(Zhu cn _ htq).mono ?_;rintro e w5 ⟨rfl,hb6⟩;have HB5:=hI (HB2.out.trans (hb6.mono (by omega)));have HBW5:=hI (HBW2.out.trans (hb6.mono (by omega)));have hz5:=hb6.size;have x3:=cJ hb6 x3;have m1:=cJ hb6 m1;have m0:=cJ hb6 m0;clear hb6
         by_cases hn:ZbC cn=true
         · have HN:=hI hn;rw [hn];clear hn
           go_wp2_with fail
           refine(Zfa ck _).mono ?_;rintro e w6 ⟨rfl,rfl⟩
           by_cases hck:Zbg ck=true
           · have HST:=hI (show ZaM sc (tc.drop q)=(!inS sc cn&&ZaM (ZbW (Zgf tc) (q+1)) (tc.drop (q+1))) by rw [HSTEP.out,HN.out,hck];simp);rw [hck];clear hck HSTEP HN
             go_wp2_with fail
             go_loopw [8] (fun i wp=>∃ p:Nat,p≤q∧i=.int .i64 p∧(∀ j,j<p→(tc.getD j c0).name≠cn)∧Below w6.heap.size w6 wp) (fun i _=>q - (intOf i).toNat)
             case atStart=>exact⟨0,Nat.zero_le _,rfl,fun q hq=>absurd hq (by omega),Below.refl _ _⟩
             case round =>
              obtain⟨p,hp,rfl,hnp,hbel⟩:=hrel;have HNP:=hI hnp;have HB6:=hI hbel;have HBW6:=hI (HBW5.out.trans (hbel.mono (by omega)));have HB56:=hI (HB5.out.trans (hbel.mono (by omega)));have hz6:=hbel.size;have x3:=cJ hbel x3;have m0:=cJ hbel m0;clear hnp hbel
              by_cases hpq:p<q
              · have hpi:(p:Int)<q:=(by omega);have hpl:(p:Int)<tc.length:=(by omega);obtain⟨b7,o7,eA7,hb7,n0,n1⟩:=(HCS.out.keep (Same.of_below HBW6.out hS)).at_ (k:=p) (by omega);injection eA7 with eA7;injection eA7 with ea eb;subst ea eb;have HQ:=hI (HSC.out p hpq)
                have HS2:=hI (show (tc.getD p c0).name≠cn→∀ q,q<p+1→(tc.getD q c0).name≠cn from fun h q hq=>by
                 rcases Nat.lt_or_ge q p with h9 | h9
                 · exact HNP.out q h9
                 · obtain rfl:q=p:=(by omega);exact h)
                clear n1;generalize (tc.getD p c0).name=pn at n0 HQ HS2
                by_cases he:pn=cn
                · subst he;have HF:=hI (show ZaM [] tc=false by rw [HCF.out,HST.out,HQ.out rfl];rfl)
                  go_wp2_with fail
                  go_quiet (fail)
                  go_wp2_with fail
                  go_ret;exact⟨by rw [HI.out,HF.out];rfl,Zag HBW6.out _⟩
                · have hne:=ZcT he;have HC:=hI (HS2.out he);clear he
                  go_wp2_with fail
                  go_quiet (fail)
                  go_wp2_with fail
                  go_roundw
                  case rel=>exact⟨p+1,by omega,by go_num,HC.out,Zag HB6.out _⟩
                  case measure=>simp [intOf];omega
              · have hpi:¬ (p:Int)<q:=(by omega)
                have HC:=hI (show ZaM [] tc=ZaM (ZbW (Zgf tc) (q+1)) (tc.drop (q+1)) by
                 rw [HCF.out,HST.out,HNC.out fun j hj=>HNP.out j (by omega)];rfl)
                go_wp2_with fail
                go_roundw
                case rel=>exact⟨q+1,by omega,by go_num,HC.out,HB56.out⟩
                case measure=>simp [intOf];omega
           · have hck':Zbg ck=false:=(by simpa using hck);have HF:=hI (show ZaM [] tc=false by rw [HCF.out,HSTEP.out,hck'];simp);rw [hck'];clear hck hck'
             go_wp2_with fail
             go_ret;exact⟨by rw [HI.out,HF.out];rfl,HBW5.out⟩
         · have hn':ZbC cn=false:=(by simpa using hn);have HF:=hI (show ZaM [] tc=false by rw [HCF.out,HSTEP.out,hn'];simp);rw [hn'];clear hn hn'
           go_wp2_with fail
           go_ret;exact⟨by rw [HI.out,HF.out];rfl,HBW5.out⟩
       · have hqi:¬ (q:Int)<tc.length:=(by omega);have HC:=hI (show ZaM [] tc=true by rw [HCF.out,List.drop_eq_nil_of_le (by omega)];rfl)
         go_wp2_with fail
         go_ret;exact⟨by rw [HI.out,HC.out];rfl,HBW2.out⟩
 · have hn':ZbC tn=false:=(by simpa using hn)
   have HF:=hI (show ZdP sn ⟨tn,tc,tk,tr,tp⟩=false by
    unfold ZdP;rw [show ZbC (⟨tn,tc,tk,tr,tp⟩:Tab).name=false from hn'];rfl)
   rw [hn'];clear hn hn'
   go_wp2_with fail
   go_ret;exact⟨by rw [HF.out];rfl,HB3.out⟩
end Go.Proofs.YtkpjjfhfbpfjpaaGreat
