import Derived.Test.YtkpjjfhfbpfjpaaGreatKda88f1
set_option linter.unusedVariables false
set_option linter.unusedSimpArgs false
set_option maxRecDepth 100000
set_option maxHeartbeats 8000000
namespace Go.Proofs.YtkpjjfhfbpfjpaaGreat
open Go.RowKit
theorem Zgr (A0:Option Addr) (c0':Nat) (s:Sch) (t m:Int) (A:Option Addr) (ca:Nat) (r:Row) (S:Nat→Prop) (w:World) (hs:TabS w S A0 s.tabs) (hr:RowS w S A r) (hS:∀ b,S b→b<w.heap.size) :
  Calls Tryz.prog 78 #[sAgg s.version A0 s.tabs.length c0',.int .i64 t,.slice A r.length ca,.int .i64 m] w (ZaI (ZaC s t r m) w):=by
 obtain⟨ver,tabs⟩:=s;simp only at hs ⊢;have hsl:=hs.len;have hrl:=hr.len;have HOK:=hI hr.ok;have HS:=hI hs;have HR:=hI hr;clear hs hr;have HB0:=hI ((Below.refl w.heap.size w).alloc nR (.cells #[.int .i64 ver,.slice A0 tabs.length c0'] 28))
 by_cases hm1:m<1
 · have hd1:decide (m<1)=true:=decide_eq_true hm1;have HF:=hI (show ZaC ⟨ver,tabs⟩ t r m=false by unfold ZaC;rw [show Zbu m=false by simp [Zbu];omega];rfl);go_enter Tryz.func78,Tryz.ntmps78
   go_wp2_with fail
   go_ret;exact⟨by rw [HF.out];rfl,HB0.out⟩
 have hd1:decide (m<1)=false:=decide_eq_false hm1
 by_cases hm3:3<m
 · have hd2:decide (3<m)=true:=decide_eq_true hm3;have HF:=hI (show ZaC ⟨ver,tabs⟩ t r m=false by unfold ZaC;rw [show Zbu m=false by simp [Zbu];omega];rfl);go_enter Tryz.func78,Tryz.ntmps78
   go_wp2_with fail
   go_ret;exact⟨by rw [HF.out];rfl,HB0.out⟩
 have hd2:decide (3<m)=false:=decide_eq_false hm3;have HM:=hI (show Zbu m=true by simp [Zbu];omega)
 by_cases ht0:t<0
 · have hd3:decide (t<0)=true:=decide_eq_true ht0;have HF:=hI (show ZaC ⟨ver,tabs⟩ t r m=false by unfold ZaC;rw [show hasN (Sch.tabs ⟨ver,tabs⟩).length t=false by unfold hasN;simp;omega];simp);go_enter Tryz.func78,Tryz.ntmps78
   go_wp2_with fail
   go_ret;exact⟨by rw [HF.out];rfl,HB0.out⟩
 have hd3:decide (t<0)=false:=decide_eq_false ht0;obtain⟨tt,rfl⟩:=Int.eq_ofNat_of_zero_le (show 0≤t by omega)
 by_cases ht1:(tabs.length:Int)≤(tt:Int)
 · have hd4:decide ((tabs.length:Int)≤(tt:Int))=true:=decide_eq_true ht1;have hd4':decide (tabs.length≤tt)=true:=decide_eq_true (by omega);have HF:=hI (show ZaC ⟨ver,tabs⟩ tt r m=false by unfold ZaC;rw [show hasN (Sch.tabs ⟨ver,tabs⟩).length (tt:Int)=false by unfold hasN;simp;omega];simp);go_enter Tryz.func78,Tryz.ntmps78
   go_wp2_with fail
   go_ret;exact⟨by rw [HF.out];rfl,HB0.out⟩
 have hd4:decide ((tabs.length:Int)≤(tt:Int))=false:=decide_eq_false ht1;have hd4':decide (tabs.length≤tt)=false:=decide_eq_false (by omega);have htl:tt<tabs.length:=(by omega);have htli:(tt:Int)<tabs.length:=(by omega)
 have HF:=hI (show ZaC ⟨ver,tabs⟩ tt r m=(decide (r.length=(tabs.getD tt t0).cols.length)&&Zaz m (tabs.getD tt t0).key 0 (tabs.getD tt t0).cols r) by
  unfold ZaC;rw [HM.out,show hasN (Sch.tabs ⟨ver,tabs⟩).length (tt:Int)=true by unfold hasN;simp;omega];simp only [Int.toNat_natCast,Bool.true_and])
 obtain⟨b2,o2,rfl,hb2,A1,A2,A3,c1,c2,c3,hta⟩:=HS.out.at_ htl;have k2:=hta.cols;have k3:=hta.key;have HCS:=hI hta.cS;have hcl:=hta.cS.len;have hl2:b2<w.heap.size:=hS b2 hb2;clear hta;generalize tabs.getD tt t0=tb at k2 k3 HCS HF hcl;obtain⟨tn,tc,tk,tr,tp⟩:=tb;simp only at k2 k3 HCS HF hcl
 by_cases hrc:r.length=tc.length
 · have hd5:((r.length:Int) != (tc.length:Int))=false:=(by simp [hrc]);have HF1:=hI (show ZaC ⟨ver,tabs⟩ tt r m=Zaz m tk 0 tc r by rw [HF.out,decide_eq_true hrc];rfl);clear HF;go_enter Tryz.func78,Tryz.ntmps78
   go_wp2_with fail
   go_loopw [42] (fun i wr=>∃ k:Nat,k≤r.length∧i=.int .i64 k∧Zaz m tk 0 tc r=Zaz m tk k (tc.drop k) (r.drop k)∧Below w.heap.size w wr∧wr.cell? ⟨w.heap.size,1,none⟩=some (.slice (some ⟨b2,o2,none⟩) tabs.length c0')∧w.heap.size<wr.heap.size) (fun i _=>r.length - (intOf i).toNat)
   case atStart=>exact⟨0,Nat.zero_le _,rfl,by simp,HB0.out,by simp,by simp⟩
   case round =>
    obtain⟨k,hk,rfl,hf,hbel,x1,hw1⟩:=hrel;have HT:=hI hf;have HB:=hI hbel;have k2:=cQ hbel hl2 k2;have k3:=cQ hbel hl2 k3;clear hf hbel hd1 hd2 hd3 hd4 hd4' hd5
    by_cases hkl:k<r.length
    · have hki:(k:Int)<r.length:=(by omega);have hkc:k<tc.length:=(by omega);have hkci:(k:Int)<tc.length:=(by omega);have hl2r:b2<wr.heap.size:=(by omega);obtain⟨b3,o3,rfl,hb3,v1,v2,v3⟩:=(HR.out.keep (Same.of_below HB.out hS)).at_ hkl;have hvt:=HOK.out.2 _ (show r.getD k v0 ∈ r by simp [List.getD,hkl]);have hl3:b3<wr.heap.size:=(by have:=hS b3 hb3;omega);obtain⟨b4,o4,rfl,hb4,m0,m1⟩:=(HCS.out.keep (Same.of_below HB.out hS)).at_ hkc;have hl4:b4<wr.heap.size:=(by have:=hS b4 hb4;omega);have HSTEP:=hI (Zcg (m:=m) (key:=tk) k k tc r hkl hrc);generalize r.getD k v0=v at v1 v2 v3 hvt HSTEP;generalize tc.getD k c0=cc at m0 m1 HSTEP;obtain⟨cn,ck⟩:=cc;simp only at m0 m1 HSTEP;obtain⟨vk,vi,vt⟩:=v;simp only at v1 v2 v3 hvt HSTEP;obtain⟨W2,hW2⟩:∃ W2,wr.alloc (.cells #[.int .i64 vk,.int .i64 vi,.string vt] 89)=W2:=⟨_,rfl⟩;have z0:W2.cell? ⟨wr.heap.size,0,none⟩=some (.int .i64 vk):=(by rw [←hW2];simp);have z1:W2.cell? ⟨wr.heap.size,1,none⟩=some (.int .i64 vi):=(by rw [←hW2];simp);have z2:W2.cell? ⟨wr.heap.size,2,none⟩=some (.string vt):=by rw [←hW2];simp
      go_wp2_with fail
      refine(Zfz ⟨vk,vi,vt⟩ W2 hvt).mono ?_;rintro e w3 ⟨rfl,hb3'⟩;have hbr:Below wr.heap.size wr W2:=(by rw [←hW2];exact(Below.refl _ _).alloc nR _);have hzW:W2.heap.size=wr.heap.size+1:=(by rw [←hW2];simp);have hbr3:=hbr.trans (hb3'.mono (by omega));have HB3:=hI (HB.out.trans (hbr3.mono (by omega)));have hz3:wr.heap.size<w3.heap.size:=(by have:=hb3'.size;omega);have y0:w3.cell? ⟨wr.heap.size,0,none⟩=some (.int .i64 vk):=cJ hb3' z0;have x1:=cQ hbr3 hw1 x1;have k2:=cQ hbr3 hl2r k2;have k3:=cQ hbr3 hl2r k3;have m1:=cQ hbr3 hl4 m1;have hw3:w.heap.size<w3.heap.size:=(by omega);have hl2':b2<w3.heap.size:=(by omega);have hl4':b4<w3.heap.size:=(by omega);clear hb3' hbr hbr3 hzW v1 v2 v3 m0 z0 z1 z2
      by_cases hv:Zam ⟨vk,vi,vt⟩=true
      · rw [hv]
        have HV:=hI (show Zaz m tk k (tc.drop k) (r.drop k)=((decide (vk=ck)||(decide (vk=2)&&decide (m≠1)&&decide (tk≤k))||(decide (vk=1)&&decide (m=3)&&decide (tk≤k)))&&Zaz m tk (k+1) (tc.drop (k+1)) (r.drop (k+1))) by
         rw [HSTEP.out];unfold ZaB;rw [hv];simp only [Bool.true_and])
        have HGO:=hI (show (decide (vk=ck)||(decide (vk=2)&&decide (m≠1)&&decide (tk≤k))||(decide (vk=1)&&decide (m=3)&&decide (tk≤k)))=true→Zaz m tk 0 tc r=Zaz m tk (k+1) (tc.drop (k+1)) (r.drop (k+1)) from fun h=>by rw [HT.out,HV.out,h];rfl);have HNO:=hI (show (decide (vk=ck)||(decide (vk=2)&&decide (m≠1)&&decide (tk≤k))||(decide (vk=1)&&decide (m=3)&&decide (tk≤k)))=false→ZaC ⟨ver,tabs⟩ tt r m=false from fun h=>by rw [HF1.out,HT.out,HV.out,h];rfl);clear hv HSTEP HV
        by_cases hkk:vk=ck
        · have hd1:(vk == ck)=true:=(by simp [hkk]);have HC:=hI (HGO.out (by simp [hkk]))
          go_wp2_with fail
          go_quiet (fail)
          go_wp2_with fail
          go_roundw
          case rel=>exact⟨k+1,by omega,by go_num,HC.out,Zag HB3.out _,x1,hw3⟩
          case measure=>simp [intOf];omega
        have hd1:(vk == ck)=false:=by simp [hkk]
        by_cases hk2:vk=2
        · subst hk2
          by_cases hmm:m=1
          · subst hmm;have HF2:=hI (HNO.out (by simp [hkk]))
            go_wp2_with fail
            go_quiet (fail)
            go_wp2_with fail
            go_ret;exact⟨by rw [HF2.out];rfl,Zag HB3.out _⟩
          have hd2:(m != 1)=true:=by simp [hmm]
          by_cases hkey:tk≤k
          · have hd3:decide (tk≤(k:Int))=true:=decide_eq_true hkey;have HC:=hI (HGO.out (by simp [hmm,hkey]))
            go_wp2_with fail
            go_quiet (fail)
            go_wp2_with fail
            go_roundw
            case rel=>exact⟨k+1,by omega,by go_num,HC.out,Zag HB3.out _,x1,hw3⟩
            case measure=>simp [intOf];omega
          · have hd3:decide (tk≤(k:Int))=false:=decide_eq_false hkey;have HF2:=hI (HNO.out (by simp [hkk,hkey]))
            go_wp2_with fail
            go_quiet (fail)
            go_wp2_with fail
            go_ret;exact⟨by rw [HF2.out];rfl,Zag HB3.out _⟩
        have hd2:(vk == 2)=false:=by simp [hk2]
        by_cases hk1:vk=1
        · subst hk1
          by_cases hmm:m=3
          · subst hmm
            by_cases hkey:tk≤k
            · have hd3:decide (tk≤(k:Int))=true:=decide_eq_true hkey;have HC:=hI (HGO.out (by simp [hkey]))
              go_wp2_with fail
              go_quiet (fail)
              go_wp2_with fail
              go_roundw
              case rel=>exact⟨k+1,by omega,by go_num,HC.out,Zag HB3.out _,x1,hw3⟩
              case measure=>simp [intOf];omega
            · have hd3:decide (tk≤(k:Int))=false:=decide_eq_false hkey;have HF2:=hI (HNO.out (by simp [hkk,hkey]))
              go_wp2_with fail
              go_quiet (fail)
              go_wp2_with fail
              go_ret;exact⟨by rw [HF2.out];rfl,Zag HB3.out _⟩
          have hd3:(m == 3)=false:=(by simp [hmm]);have HF2:=hI (HNO.out (by simp [hkk,hmm]))
          go_wp2_with fail
          go_quiet (fail)
          go_wp2_with fail
          go_ret;exact⟨by rw [HF2.out];rfl,Zag HB3.out _⟩
        have hd3:(vk == 1)=false:=(by simp [hk1]);have HF2:=hI (HNO.out (by simp [hkk,hk2,hk1]))
        go_wp2_with fail
        go_quiet (fail)
        go_wp2_with fail
        go_ret;exact⟨by rw [HF2.out];rfl,Zag HB3.out _⟩
      · have hv':Zam ⟨vk,vi,vt⟩=false:=(by simpa using hv);have HF2:=hI (show ZaC ⟨ver,tabs⟩ tt r m=false by rw [HF1.out,HT.out,HSTEP.out];unfold ZaB;rw [hv'];rfl);rw [hv'];clear hv hv'
        go_wp2_with fail
        go_ret;exact⟨by rw [HF2.out];rfl,HB3.out⟩
    · have hki:¬ (k:Int)<r.length:=(by omega);have HE:=hI (show Zaz m tk 0 tc r=true by rw [HT.out,List.drop_eq_nil_of_le (show r.length≤k by omega)];cases tc.drop k<;>rfl)
      go_wp2_with fail
      go_ret;exact⟨by rw [HF1.out,HE.out];rfl,HB.out⟩
 · have hd5:((r.length:Int) != (tc.length:Int))=true:=(by simp;omega);have HF1:=hI (show ZaC ⟨ver,tabs⟩ tt r m=false by rw [HF.out,decide_eq_false hrc];rfl);go_enter Tryz.func78,Tryz.ntmps78
   go_wp2_with fail
   go_ret;exact⟨by rw [HF1.out];rfl,HB0.out⟩
end Go.Proofs.YtkpjjfhfbpfjpaaGreat
