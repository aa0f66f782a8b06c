import Derived.Test.YtkpjjfhfbpfjpaaK6b6f2e
set_option linter.unusedVariables false
set_option linter.unusedSimpArgs false
set_option maxRecDepth 100000
set_option maxHeartbeats 8000000
namespace Go.Proofs.Ytkpjjfhfbpfjpaa
open Go.RowKit
theorem rrefs_any (A0:Option Addr) (c0':Nat) (s:Sch) (k:Nat) (S:Nat→Prop) (w:World) (hs:TabS w S A0 s.tabs) (hS:∀ b,S b→b<w.heap.size) (hk:k<s.tabs.length) (hkc:∀ t ∈ s.tabs,t.key≤t.cols.length) :
  Calls Try.prog 117 #[sAgg s.version A0 s.tabs.length c0',.int .i64 (k:Int)] w (Zaz (ZaK s.tabs (s.tabs.getD k t0).cols (s.tabs.getD k t0).refs) w):=by
 obtain⟨ver,tabs⟩:=s;simp only at hs hk hkc ⊢;have hsl:=hs.len;have HS:=hI hs;have HKC:=hI hkc;obtain⟨b2,o2,rfl,hb2,A1,A2,A3,c1,c2,c3,hta⟩:=hs.at_ hk;obtain⟨k1,k2,k3,k4,k5,cS,rS,pS,-,-,-,htx⟩:=hta;have hcl:=cS.len;have hrl:=rS.len;have HCS:=hI cS;have HRS:=hI rS;have hl2:b2<w.heap.size:=hS b2 hb2;clear hs hkc cS rS pS;generalize tabs.getD k t0=tb at k1 k2 k3 k4 k5 HCS HRS hcl hrl ⊢;obtain⟨tn,tc,tk,tr,tp⟩:=tb;simp only at k1 k2 k3 k4 k5 HCS HRS hcl hrl ⊢;have hki:(k:Int)<tabs.length:=(by omega);have HB0:=hI (((Below.refl w.heap.size w).alloc nR (.cells #[.int .i64 ver,.slice (some ⟨b2,o2,none⟩) tabs.length c0'] 25)).alloc (by simp) (.cells #[.string tn,.slice A1 tc.length c1,.int .i64 tk,.slice A2 tr.length c2,.slice A3 tp.length c3] 39));go_enter Try.func117,Try.ntmps117
 go_wp2_with fail
 go_loopw [18] (fun i wr=>∃ j:Nat,j≤tr.length∧i=.int .i64 j∧ZaK tabs tc tr=ZaK tabs tc (tr.drop j)∧Below w.heap.size w wr∧wr.cell? ⟨w.heap.size,1,none⟩=some (.slice (some ⟨b2,o2,none⟩) tabs.length c0')∧wr.cell? ⟨w.heap.size+1,1,none⟩=some (.slice A1 tc.length c1)∧w.heap.size+1<wr.heap.size) (fun i _=>tr.length - (intOf i).toNat)
 case atStart=>exact⟨0,Nat.zero_le _,rfl,by simp,HB0.out,by simp,by simp,by simp⟩
 case round =>
  obtain⟨w4,rfl⟩:∃ w4:World,w4=wr:=⟨_,rfl⟩;obtain⟨j,hj,rfl,ht,hbel,x1,x3,hz4⟩:=hrel;have hz4':w.heap.size<w4.heap.size:=(by omega);have HT:=hI ht;have HB:=hI hbel;clear ht hbel k1 k2 k3 k4 k5
  by_cases hjl:j<tr.length
  · have hji:(j:Int)<tr.length:=(by omega);obtain⟨b3,o3,rfl,hb3,⟨A4,c4,f1,f1c,iS⟩,f2⟩:=(HRS.out.keep (Same.of_below HB.out hS)).at_ hjl;have hl3:b3<w4.heap.size:=(by have:=hS b3 hb3;omega);have HSTEP:=hI (ZcH tabs tc tr j hjl);have HIS:=hI iS;have hil:=iS.len;clear iS;generalize tr.getD j r0=rr at f1 f1c f2 HIS HSTEP hil;obtain⟨rc,rt⟩:=rr;simp only at f1 f1c f2 HIS HSTEP hil;have HBA:=hI (HB.out.alloc (by omega) (.cells #[.slice A4 rc.length c4,.int .i64 rt] 96))
    by_cases h0:rt<0
    · have hd1:decide (rt<0)=true:=decide_eq_true h0;have HV:=hI (show Zcn tabs tc ⟨rc,rt⟩=false by unfold Zcn;rw [show hasN tabs.length (⟨rc,rt⟩:Rfr).table=false by unfold hasN;simp;omega];rfl)
      go_wp2_with fail
      go_quiet (fail)
      go_wp2_with fail
      go_ret;exact⟨by rw [HT.out,HSTEP.out,HV.out];rfl,Zad HBA.out _⟩
    have hd1:decide (rt<0)=false:=decide_eq_false h0
    by_cases h1:(tabs.length:Int)≤rt
    · have hd2:decide ((tabs.length:Int)≤rt)=true:=decide_eq_true h1;have HV:=hI (show Zcn tabs tc ⟨rc,rt⟩=false by unfold Zcn;rw [show hasN tabs.length (⟨rc,rt⟩:Rfr).table=false by unfold hasN;simp;omega];rfl)
      go_wp2_with fail
      go_quiet (fail)
      go_wp2_with fail
      go_ret;exact⟨by rw [HT.out,HSTEP.out,HV.out];rfl,Zad HBA.out _⟩
    obtain⟨tt,rfl⟩:=Int.eq_ofNat_of_zero_le (show 0≤rt by omega);have hd2:decide ((tabs.length:Int)≤(tt:Int))=false:=decide_eq_false h1;have hd2':decide (tabs.length≤tt)=false:=decide_eq_false (by omega);have htl:tt<tabs.length:=(by omega);have htli:(tt:Int)<tabs.length:=(by omega);obtain⟨b4,o4,eA0,hb4,B1,B2,B3,d1,d2,d3,hta⟩:=(HS.out.keep (Same.of_below HB.out hS)).at_ htl;obtain⟨l1,l2,l3,l4,l5,uS,_,_,-,-,-,-⟩:=hta;injection eA0 with eA0;injection eA0 with e1 e2;subst e1 e2;have hl4:b2<w4.heap.size:=(by omega);have HUS:=hI uS;have huk:(tabs.getD tt t0).key≤(tabs.getD tt t0).cols.length:=HKC.out _ (by simp [List.getD,htl])
    have HOK':=hI (show Zcn tabs tc ⟨rc,tt⟩=(decide ((rc.length:Int)=(tabs.getD tt t0).key)&&Zaw tc (tabs.getD tt t0).cols rc) by
     unfold Zcn;rw [show hasN tabs.length (⟨rc,tt⟩:Rfr).table=true by unfold hasN;simp;omega];simp only [Int.toNat_natCast,Bool.true_and])
    have hul:=uS.len;clear uS l1 l4 l5;generalize tabs.getD tt t0=ub at l2 l3 HUS huk HOK' hul;obtain⟨un,uc,uk,ur,up⟩:=ub;simp only at l2 l3 HUS huk HOK' hul
    by_cases hku:(rc.length:Int)=uk
    · have hd3:((rc.length:Int) != uk)=false:=(by simp [hku]);have HOK:=hI (show Zcn tabs tc ⟨rc,tt⟩=Zaw tc uc rc by rw [HOK'.out,decide_eq_true hku];rfl);clear HOK'
      go_wp2_with fail
      go_quiet (fail)
      go_wp2_with fail
      go_loopw [49] (fun i wq=>∃ i3:Nat,i3≤rc.length∧i=.int .i64 i3∧Zaw tc uc rc=Zaw tc (uc.drop i3) (rc.drop i3)∧Below w4.heap.size w4 wq∧wq.cell? ⟨w4.heap.size,1,none⟩=some (.int .i64 tt)∧w4.heap.size<wq.heap.size) (fun i _=>rc.length - (intOf i).toNat)
      case atStart=>exact⟨0,Nat.zero_le _,rfl,by simp,Zad ((Below.refl _ _).alloc nR _) _,by simp,by simp⟩
      case round =>
       obtain⟨i3,hi3,rfl,ht3,hbb,y1,hw1⟩:=hrel;have HT3:=hI ht3;have HB3:=hI hbb;have HBW:=hI (HB.out.trans (hbb.mono (by omega)));have x1:=cJ hbb x1;have x3:=cJ hbb x3;have l2:=cJ hbb l2;clear ht3 hbb f1 f2 l3
       by_cases hil3:i3<rc.length
       · have hii:(i3:Int)<rc.length:=(by omega);obtain⟨b5,o5,rfl,hb5,p1⟩:=(HIS.out.keep (fun b hb=>HB3.out.block b (by have:=hS b hb;omega))).at_ hil3;have hl5:b5<wr.heap.size:=(by have:=hS b5 hb5;omega);have HSTEP3:=hI (Zct tc uc rc i3 hil3 (by omega));obtain⟨b7,o7,rfl,hb7,q1,q2⟩:=(HUS.out.keep (fun b hb=>HB3.out.block b (by have:=hS b hb;omega))).at_ (show i3<uc.length by omega);have hl7:b7<wr.heap.size:=(by have:=hS b7 hb7;omega);have hiu:(i3:Int)<uc.length:=(by omega);generalize rc.getD i3 0=c at p1 HSTEP3;generalize uc.getD i3 c0=ucl at q1 q2 HSTEP3;obtain⟨ucn,uck⟩:=ucl;simp only at q1 q2 HSTEP3
         by_cases h0:c<0
         · have hd1:decide (c<0)=true:=decide_eq_true h0;have HV:=hI (show decide (0≤c)=false from decide_eq_false (by omega))
           go_wp2_with fail
           go_quiet (fail)
           go_wp2_with fail
           go_ret;exact⟨by rw [HT.out,HSTEP.out,HOK.out,HT3.out,HSTEP3.out,HV.out];rfl,Zad HBW.out _⟩
         have hd1:decide (c<0)=false:=decide_eq_false h0;obtain⟨cc,rfl⟩:=Int.eq_ofNat_of_zero_le (show 0≤c by omega);rw [Int.toNat_natCast] at HSTEP3
         by_cases h1:cc<tc.length
         · have hd2:decide ((tc.length:Int)≤(cc:Int))=false:=decide_eq_false (by omega);have hd3:decide (tc.length≤cc)=false:=decide_eq_false (by omega);have hcc:(cc:Int)<tc.length:=(by omega);obtain⟨b6,o6,rfl,hb6,r1,r2⟩:=(HCS.out.keep (Same.of_below HBW.out hS)).at_ h1;have hl6:b6<wr.heap.size:=(by have:=hS b6 hb6;omega);generalize tc.getD cc c0=tcl at r1 r2 HSTEP3;obtain⟨tcn,tck⟩:=tcl;simp only at r1 r2 HSTEP3;have h1':decide ((cc:Int)<(tc.length:Int))=true:=decide_eq_true hcc
           by_cases hq:tck=uck
           · have hd4:(tck != uck)=false:=(by simp [hq]);have HC:=hI (show Zaw tc uc rc=Zaw tc (uc.drop (i3+1)) (rc.drop (i3+1)) by rw [HT3.out,HSTEP3.out,h1'];simp [hq])
             go_wp2_with fail
             go_quiet (fail)
             go_wp2_with fail
             go_roundw
             case rel=>exact⟨i3+1,by omega,by go_num,HC.out,Zad HB3.out _,y1,hw1⟩
             case measure=>simp [intOf];omega
           · have hd4:(tck != uck)=true:=(by simp [hq]);have HV:=hI (show Zaw tc uc rc=false by rw [HT3.out,HSTEP3.out];simp [hq])
             go_wp2_with fail
             go_quiet (fail)
             go_wp2_with fail
             go_ret;exact⟨by rw [HT.out,HSTEP.out,HOK.out,HV.out];rfl,Zad HBW.out _⟩
         · have hd2:decide ((tc.length:Int)≤(cc:Int))=true:=decide_eq_true (by omega);have hd3:decide (tc.length≤cc)=true:=decide_eq_true (by omega);have HV:=hI (show Zaw tc uc rc=false by rw [HT3.out,HSTEP3.out];simp;omega)
           go_wp2_with fail
           go_quiet (fail)
           go_wp2_with fail
           go_ret;exact⟨by rw [HT.out,HSTEP.out,HOK.out,HV.out];rfl,Zad HBW.out _⟩
       · have hii:¬ (i3:Int)<rc.length:=(by omega)
         have HE:=hI (show ZaK tabs tc tr=ZaK tabs tc (tr.drop (j+1)) by
          rw [HT.out,HSTEP.out,HOK.out,HT3.out,show i3=rc.length by omega,List.drop_length];cases (uc.drop rc.length)<;>rfl)
         go_wp2_with fail
         go_roundw
         case rel=>exact⟨j+1,by omega,by go_num,HE.out,HBW.out,x1,x3,by omega⟩
         case measure=>simp [intOf];omega
    · have hd3:((rc.length:Int) != uk)=true:=(by simp [hku]);have HV:=hI (show Zcn tabs tc ⟨rc,tt⟩=false by rw [HOK'.out,decide_eq_false hku];rfl)
      go_wp2_with fail
      go_quiet (fail)
      go_wp2_with fail
      go_ret;exact⟨by rw [HT.out,HSTEP.out,HV.out];rfl,Zad HBA.out _⟩
  · have hji:¬ (j:Int)<tr.length:=(by omega);have HE:=hI (show ZaK tabs tc tr=true by rw [HT.out,show j=tr.length by omega,List.drop_length];rfl)
    go_wp2_with fail
    go_ret;exact⟨by rw [HE.out];rfl,HB.out⟩
end Go.Proofs.Ytkpjjfhfbpfjpaa
