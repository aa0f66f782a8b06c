import Derived.Test.YtkpjjfhfbpfjpaaGreatK13ff61
import Derived.Test.YtkpjjfhfbpfjpaaGreatKe790cb
import Derived.Test.YtkpjjfhfbpfjpaaGreatKecbf18
import Derived.Test.YtkpjjfhfbpfjpaaGreatK42e91f
import Derived.Test.YtkpjjfhfbpfjpaaGreatKac3eaa
set_option linter.unusedVariables false
set_option linter.unusedSimpArgs false
set_option maxRecDepth 100000
set_option maxHeartbeats 8000000
namespace Go.Proofs.YtkpjjfhfbpfjpaaGreat
open Go.RowKit
theorem Zhh (A0:Option Addr) (c0':Nat) (s:Sch) (t m:Int) (A:Option Addr) (ca:Nat) (r:Row) (S:Nat→Prop) (w:World) (hs:TabS w S A0 s.tabs) (hr:RowS w S A r) (hS:∀ b,S b→b<w.heap.size) :
  Calls Tryz.prog 78 #[sAgg s.version A0 s.tabs.length c0',.int .i64 t,.slice A r.length ca,.int .i64 m] w (ZaZ (Zaz s t r m) w):=by
 obtain⟨ver,tabs⟩:=s;simp only at hs ⊢;have hsl:=hs.len;have hrl:=hr.len;have HOK:=hI hr.ok;have HS:=hI hs;have HR:=hI hr;clear hs hr;have HB0:=hI ((Below.refl w.heap.size w).alloc (Nat.le_refl _) (.cells #[.int .i64 ver,.slice A0 tabs.length c0'] 28))
 by_cases hm1:m<1
 · have hd1:decide (m<1)=true:=decide_eq_true hm1;have HF:=hI (show Zaz ⟨ver,tabs⟩ t r m=false by unfold Zaz;rw [show ZbB m=false by simp [ZbB];omega];rfl);go_enter Tryz.func78,Tryz.ntmps78
   go_wp2_with fail
   go_ret;exact⟨by rw [HF.out];rfl,HB0.out⟩
 have hd1:decide (m<1)=false:=decide_eq_false hm1
 by_cases hm3:3<m
 · have hd2:decide (3<m)=true:=decide_eq_true hm3;have HF:=hI (show Zaz ⟨ver,tabs⟩ t r m=false by unfold Zaz;rw [show ZbB m=false by simp [ZbB];omega];rfl);go_enter Tryz.func78,Tryz.ntmps78
   go_wp2_with fail
   go_ret;exact⟨by rw [HF.out];rfl,HB0.out⟩
 have hd2:decide (3<m)=false:=decide_eq_false hm3;have HM:=hI (show ZbB m=true by simp [ZbB];omega)
 by_cases ht0:t<0
 · have hd3:decide (t<0)=true:=decide_eq_true ht0;have HF:=hI (show Zaz ⟨ver,tabs⟩ t r m=false by unfold Zaz;rw [show hasN (Sch.tabs ⟨ver,tabs⟩).length t=false by unfold hasN;simp;omega];simp);go_enter Tryz.func78,Tryz.ntmps78
   go_wp2_with fail
   go_ret;exact⟨by rw [HF.out];rfl,HB0.out⟩
 have hd3:decide (t<0)=false:=decide_eq_false ht0;obtain⟨tt,rfl⟩:=Int.eq_ofNat_of_zero_le (show 0≤t by omega)
 by_cases ht1:(tabs.length:Int)≤(tt:Int)
 · have hd4:decide ((tabs.length:Int)≤(tt:Int))=true:=decide_eq_true ht1;have hd4':decide (tabs.length≤tt)=true:=decide_eq_true (by omega);have HF:=hI (show Zaz ⟨ver,tabs⟩ tt r m=false by unfold Zaz;rw [show hasN (Sch.tabs ⟨ver,tabs⟩).length (tt:Int)=false by unfold hasN;simp;omega];simp);go_enter Tryz.func78,Tryz.ntmps78
   go_wp2_with fail
   go_ret;exact⟨by rw [HF.out];rfl,HB0.out⟩
 have hd4:decide ((tabs.length:Int)≤(tt:Int))=false:=decide_eq_false ht1;have hd4':decide (tabs.length≤tt)=false:=decide_eq_false (by omega);have htl:tt<tabs.length:=(by omega);have htli:(tt:Int)<tabs.length:=(by omega)
 have HF:=hI (show Zaz ⟨ver,tabs⟩ tt r m=(decide (r.length=(tabs.getD tt t0).cols.length)&&ZaE m (tabs.getD tt t0).key 0 (tabs.getD tt t0).cols r) by
  unfold Zaz;rw [HM.out,show hasN (Sch.tabs ⟨ver,tabs⟩).length (tt:Int)=true by unfold hasN;simp;omega];simp only [Int.toNat_natCast,Bool.true_and])
 obtain⟨b2,o2,rfl,hb2,A1,A2,A3,c1,c2,c3,hta⟩:=HS.out.at_ htl;have k2:=hta.cols;have k3:=hta.key;have HCS:=hI hta.cS;have hcl:=hta.cS.len;have hl2:b2<w.heap.size:=hS b2 hb2;clear hta;generalize tabs.getD tt t0=tb at k2 k3 HCS HF hcl;obtain⟨tn,tc,tk,tr,tp⟩:=tb;simp only at k2 k3 HCS HF hcl
 by_cases hrc:r.length=tc.length
 · have hd5:((r.length:Int) != (tc.length:Int))=false:=(by simp [hrc]);have HF1:=hI (show Zaz ⟨ver,tabs⟩ tt r m=ZaE m tk 0 tc r by rw [HF.out,decide_eq_true hrc];rfl);clear HF;go_enter Tryz.func78,Tryz.ntmps78
   go_wp2_with fail
   go_loopw [42] (fun i wr=>∃ k:Nat,k≤r.length∧i=.int .i64 k∧ZaE m tk 0 tc r=ZaE m tk k (tc.drop k) (r.drop k)∧Below w.heap.size w wr∧wr.cell? ⟨w.heap.size,1,none⟩=some (.slice (some ⟨b2,o2,none⟩) tabs.length c0')∧w.heap.size<wr.heap.size) (fun i _=>r.length - (intOf i).toNat)
   case atStart=>exact⟨0,Nat.zero_le _,rfl,by simp,HB0.out,by simp,by simp⟩
   case round =>
    obtain⟨k,hk,rfl,hf,hbel,x1,hw1⟩:=hrel;have HT:=hI hf;have HB:=hI hbel;have k2:=cQ hbel hl2 k2;have k3:=cQ hbel hl2 k3;clear hf hbel hd1 hd2 hd3 hd4 hd4' hd5
    by_cases hkl:k<r.length
    · have hki:(k:Int)<r.length:=(by omega);have hkc:k<tc.length:=(by omega);have hkci:(k:Int)<tc.length:=(by omega);have hl2r:b2<wr.heap.size:=(by omega);obtain⟨b3,o3,rfl,hb3,v1,v2,v3⟩:=(HR.out.keep (Same.of_below HB.out hS)).at_ hkl;have hvt:=HOK.out.2 _ (show r.getD k v0 ∈ r by simp [List.getD,hkl]);have hl3:b3<wr.heap.size:=(by have:=hS b3 hb3;omega);obtain⟨b4,o4,rfl,hb4,m0,m1⟩:=(HCS.out.keep (Same.of_below HB.out hS)).at_ hkc;have hl4:b4<wr.heap.size:=(by have:=hS b4 hb4;omega);have HSTEP:=hI (ZcB (m:=m) (key:=tk) k k tc r hkl hrc);generalize r.getD k v0=v at v1 v2 v3 hvt HSTEP;generalize tc.getD k c0=cc at m0 m1 HSTEP;obtain⟨cn,ck⟩:=cc;simp only at m0 m1 HSTEP;obtain⟨vk,vi,vt⟩:=v;simp only at v1 v2 v3 hvt HSTEP;obtain⟨W2,hW2⟩:∃ W2,wr.alloc (.cells #[.int .i64 vk,.int .i64 vi,.string vt] 89)=W2:=⟨_,rfl⟩;have z0:W2.cell? ⟨wr.heap.size,0,none⟩=some (.int .i64 vk):=(by rw [←hW2];simp);have z1:W2.cell? ⟨wr.heap.size,1,none⟩=some (.int .i64 vi):=(by rw [←hW2];simp);have z2:W2.cell? ⟨wr.heap.size,2,none⟩=some (.string vt):=by rw [←hW2];simp
      go_wp2_with fail
      refine(Zgg ⟨vk,vi,vt⟩ W2 hvt).mono ?_;rintro e w3 ⟨rfl,hb3'⟩;have hbr:Below wr.heap.size wr W2:=(by rw [←hW2];exact(Below.refl _ _).alloc (Nat.le_refl _) _);have hzW:W2.heap.size=wr.heap.size+1:=(by rw [←hW2];simp);have hbr3:=hbr.trans (hb3'.mono (by omega));have HB3:=hI (HB.out.trans (hbr3.mono (by omega)));have hz3:wr.heap.size<w3.heap.size:=(by have:=hb3'.size;omega);have y0:w3.cell? ⟨wr.heap.size,0,none⟩=some (.int .i64 vk):=cJ hb3' z0;have x1:=cQ hbr3 hw1 x1;have k2:=cQ hbr3 hl2r k2;have k3:=cQ hbr3 hl2r k3;have m1:=cQ hbr3 hl4 m1;have hw3:w.heap.size<w3.heap.size:=(by omega);have hl2':b2<w3.heap.size:=(by omega);have hl4':b4<w3.heap.size:=(by omega);clear hb3' hbr hbr3 hzW v1 v2 v3 m0 z0 z1 z2
      by_cases hv:Zat ⟨vk,vi,vt⟩=true
      · rw [hv]
        have HV:=hI (show ZaE m tk k (tc.drop k) (r.drop k)=((decide (vk=ck)||(decide (vk=2)&&decide (m≠1)&&decide (tk≤k))||(decide (vk=1)&&decide (m=3)&&decide (tk≤k)))&&ZaE m tk (k+1) (tc.drop (k+1)) (r.drop (k+1))) by
         rw [HSTEP.out];unfold ZaM;rw [hv];simp only [Bool.true_and])
        have HGO:=hI (show (decide (vk=ck)||(decide (vk=2)&&decide (m≠1)&&decide (tk≤k))||(decide (vk=1)&&decide (m=3)&&decide (tk≤k)))=true→ZaE m tk 0 tc r=ZaE m tk (k+1) (tc.drop (k+1)) (r.drop (k+1)) from fun h=>by rw [HT.out,HV.out,h];rfl);have HNO:=hI (show (decide (vk=ck)||(decide (vk=2)&&decide (m≠1)&&decide (tk≤k))||(decide (vk=1)&&decide (m=3)&&decide (tk≤k)))=false→Zaz ⟨ver,tabs⟩ tt r m=false from fun h=>by rw [HF1.out,HT.out,HV.out,h];rfl);clear hv HSTEP HV
        by_cases hkk:vk=ck
        · have hd1:(vk == ck)=true:=(by simp [hkk]);have HC:=hI (HGO.out (by simp [hkk]))
          go_wp2_with fail
          go_quiet (fail)
          go_wp2_with fail
          go_roundw
          case rel=>exact⟨k+1,by omega,by go_num,HC.out,Zaf HB3.out _,x1,hw3⟩
          case measure=>simp [intOf];omega
        have hd1:(vk == ck)=false:=by simp [hkk]
        by_cases hk2:vk=2
        · subst hk2
          by_cases hmm:m=1
          · subst hmm;have HF2:=hI (HNO.out (by simp [hkk]))
            go_wp2_with fail
            go_quiet (fail)
            go_wp2_with fail
            go_ret;exact⟨by rw [HF2.out];rfl,Zaf HB3.out _⟩
          have hd2:(m != 1)=true:=by simp [hmm]
          by_cases hkey:tk≤k
          · have hd3:decide (tk≤(k:Int))=true:=decide_eq_true hkey;have HC:=hI (HGO.out (by simp [hmm,hkey]))
            go_wp2_with fail
            go_quiet (fail)
            go_wp2_with fail
            go_roundw
            case rel=>exact⟨k+1,by omega,by go_num,HC.out,Zaf HB3.out _,x1,hw3⟩
            case measure=>simp [intOf];omega
          · have hd3:decide (tk≤(k:Int))=false:=decide_eq_false hkey;have HF2:=hI (HNO.out (by simp [hkk,hkey]))
            go_wp2_with fail
            go_quiet (fail)
            go_wp2_with fail
            go_ret;exact⟨by rw [HF2.out];rfl,Zaf HB3.out _⟩
        have hd2:(vk == 2)=false:=by simp [hk2]
        by_cases hk1:vk=1
        · subst hk1
          by_cases hmm:m=3
          · subst hmm
            by_cases hkey:tk≤k
            · have hd3:decide (tk≤(k:Int))=true:=decide_eq_true hkey;have HC:=hI (HGO.out (by simp [hkey]))
              go_wp2_with fail
              go_quiet (fail)
              go_wp2_with fail
              go_roundw
              case rel=>exact⟨k+1,by omega,by go_num,HC.out,Zaf HB3.out _,x1,hw3⟩
              case measure=>simp [intOf];omega
            · have hd3:decide (tk≤(k:Int))=false:=decide_eq_false hkey;have HF2:=hI (HNO.out (by simp [hkk,hkey]))
              go_wp2_with fail
              go_quiet (fail)
              go_wp2_with fail
              go_ret;exact⟨by rw [HF2.out];rfl,Zaf HB3.out _⟩
          have hd3:(m == 3)=false:=(by simp [hmm]);have HF2:=hI (HNO.out (by simp [hkk,hmm]))
          go_wp2_with fail
          go_quiet (fail)
          go_wp2_with fail
          go_ret;exact⟨by rw [HF2.out];rfl,Zaf HB3.out _⟩
        have hd3:(vk == 1)=false:=(by simp [hk1]);have HF2:=hI (HNO.out (by simp [hkk,hk2,hk1]))
        go_wp2_with fail
        go_quiet (fail)
        go_wp2_with fail
        go_ret;exact⟨by rw [HF2.out];rfl,Zaf HB3.out _⟩
      · have hv':Zat ⟨vk,vi,vt⟩=false:=(by simpa using hv);have HF2:=hI (show Zaz ⟨ver,tabs⟩ tt r m=false by rw [HF1.out,HT.out,HSTEP.out];unfold ZaM;rw [hv'];rfl);rw [hv'];clear hv hv'
        go_wp2_with fail
        go_ret;exact⟨by rw [HF2.out];rfl,HB3.out⟩
    · have hki:¬ (k:Int)<r.length:=(by omega);have HE:=hI (show ZaE m tk 0 tc r=true by rw [HT.out,List.drop_eq_nil_of_le (show r.length≤k by omega)];cases tc.drop k<;>rfl)
      go_wp2_with fail
      go_ret;exact⟨by rw [HF1.out,HE.out];rfl,HB.out⟩
 · have hd5:((r.length:Int) != (tc.length:Int))=true:=(by simp;omega);have HF1:=hI (show Zaz ⟨ver,tabs⟩ tt r m=false by rw [HF.out,decide_eq_false hrc];rfl);go_enter Tryz.func78,Tryz.ntmps78
   go_wp2_with fail
   go_ret;exact⟨by rw [HF1.out];rfl,HB0.out⟩
end Go.Proofs.YtkpjjfhfbpfjpaaGreat

namespace Go.Proofs.YtkpjjfhfbpfjpaaGreat
open Go.RowKit
theorem rchk_any (A0:Option Addr) (c0':Nat) (s:Sch) (m:Int) (A:Option Addr) (ca:Nat) (st:St) (S:Nat→Prop) (w:World) (hs:TabS w S A0 s.tabs) (hst:StS w S A st) (hS:∀ b,S b→b<w.heap.size) :
  Calls Tryz.prog 28 #[sAgg s.version A0 s.tabs.length c0',.int .i64 m,Zbr A st.length ca] w (Zca (ZaO (schF pcF s) s m st) w):=by
 obtain⟨ver,tabs⟩:=s;simp only at hs ⊢;obtain⟨er,her⟩:∃ er,schF pcF ⟨ver,tabs⟩=er:=⟨_,rfl⟩;have HER:=hI her;rw [her];clear her;have HS:=hI hs;have HST:=hI hst;have hsl:=hs.len;have hstl:=hst.len;clear hs hst;have HB0:=hI (((Below.refl w.heap.size w).alloc (Nat.le_refl _) (.cells #[.int .i64 ver,.slice A0 tabs.length c0'] 28)).alloc (by simp) (.cells #[.slice A st.length ca] 33));go_enter Tryz.func28,Tryz.ntmps28
 go_wp2_with fail
 obtain⟨W0,hW0⟩:∃ W0,(w.alloc (.cells #[.int .i64 ver,.slice A0 tabs.length c0'] 28)).alloc (.cells #[.slice A st.length ca] 33)=W0:=⟨_,rfl⟩;obtain⟨sb,hsb⟩:∃ sb,w.heap.size=sb:=⟨_,rfl⟩;have SB0:=hI (show W0.heap[sb]?=some (.cells #[.int .i64 ver,.slice A0 tabs.length c0'] 28 (0,0)) by rw [←hW0,←hsb];exact(Below.heap_alloc _ _ _ (by simp)).trans (heap_alloc_new w _));have TB0:=hI (show W0.heap[sb+1]?=some (.cells #[.slice A st.length ca] 33 (0,0)) by rw [←hW0,←hsb];simpa using heap_alloc_new (w.alloc (.cells #[.int .i64 ver,.slice A0 tabs.length c0'] 28)) (.cells #[.slice A st.length ca] 33));have hz0:W0.heap.size=sb+2:=(by rw [←hW0,←hsb];simp);rw [hW0] at HB0;rw [hW0];rw [hsb] at HB0
 try rw [hsb]
 have HSW:=hI (fun b hb=>by rw [←hsb];exact hS b hb:∀ b,S b→b<sb);have HBB:=hI (show ∀ w',Below sb w w'→Below w.heap.size w w' from fun w' h=>by rw [hsb];exact h);clear hW0 hS hsb;refine(rschCheck_any A0 c0' ⟨ver,tabs⟩ S W0 (HS.out.keep (Same.of_below HB0.out HSW.out)) (fun b hb=>by have:=HSW.out b hb;omega)).mono ?_;rintro e w1 ⟨rfl,hb1⟩;rw [HER.out];have HB1:=hI (hb1.mono (show sb+2≤W0.heap.size by omega));clear hb1
 by_cases he:er=0
 · subst he
   by_cases hm1:m<1
   · have hd1:decide (m<1)=true:=decide_eq_true hm1;have HF:=hI (show ZaO 0 ⟨ver,tabs⟩ m st=1 by unfold ZaO ZcR;rw [show ZbB m=false by simp [ZbB];omega];rfl)
     go_wp2_with fail
     go_ret;exact⟨by rw [HF.out];rfl,HBB.out _ (HB0.out.trans (HB1.out.mono (by omega)))⟩
   have hd1:decide (m<1)=false:=decide_eq_false hm1
   by_cases hm3:3<m
   · have hd2:decide (3<m)=true:=decide_eq_true hm3;have HF:=hI (show ZaO 0 ⟨ver,tabs⟩ m st=1 by unfold ZaO ZcR;rw [show ZbB m=false by simp [ZbB];omega];rfl)
     go_wp2_with fail
     go_ret;exact⟨by rw [HF.out];rfl,HBB.out _ (HB0.out.trans (HB1.out.mono (by omega)))⟩
   have hd2:decide (3<m)=false:=decide_eq_false hm3;have HCF:=hI (show ZaO 0 ⟨ver,tabs⟩ m st=if 512<Zao st then 2 else if st.length≠tabs.length then 80 else if stOk ⟨ver,tabs⟩ m 0 st then 0 else 80 by unfold ZaO ZcR;rw [show ZbB m=true by simp [ZbB];omega];rfl);have u1:w1.cell? ⟨sb+1,0,none⟩=some (.slice A st.length ca):=cJ HB1.out (Zaa TB0.out 0 _ rfl)
   go_wp2_with fail
   clear hd1 hd2
   go_loopw [8,29] (fun n i wr=>∃ k:Nat,k≤st.length∧i=.int .i64 k∧n=.int .i64 (Zao (st.take k))∧Zao (st.take k)≤512∧wr=w1) (fun _ i _=>st.length - (intOf i).toNat)
   case atStart=>exact⟨0,Nat.zero_le _,rfl,by simp [Zao],by simp [Zao],rfl⟩
   case round =>
    obtain⟨k,hk,rfl,rfl,hc,rfl⟩:=hrel;have HC:=hI hc
    by_cases hkl:k<st.length
    · have hki:(k:Int)<st.length:=(by omega);obtain⟨b2,o2,rfl,hb2,A',c',d1,d2,d3⟩:=(HST.out.keep (Same.of_below (HB0.out.trans (HB1.out.mono (by omega))) HSW.out)).at_ hkl;have hl2:b2<wr.heap.size:=(by have:=HSW.out b2 hb2;have:=HB1.out.size;omega);have HT:=hI (ZfQ st k hkl);have HLE:=hI (ZdQ st (k+1));have hrl:=d3.len;clear d2 d3;generalize st.getD k []=rows at d1 HT hrl;generalize hcn:Zao (st.take k)=cn at HT hc
      by_cases hlim:512 - cn<rows.length
      · have hd1:decide ((512:Int) - cn<rows.length)=true:=decide_eq_true (by omega);have hd1':decide (IntKind.i64.wrap ((512:Int) - cn)<rows.length)=true:=(by rw [show IntKind.i64.wrap ((512:Int) - cn)=512 - cn from IntWalk.i64_in _ (by omega)];exact hd1);have HF:=hI (show ZaO 0 ⟨ver,tabs⟩ m st=2 by rw [HCF.out,if_pos (by have:=HLE.out;have:=HT.out;omega)])
        go_wp2_with fail
        go_ret;exact⟨by rw [HF.out];rfl,HBB.out _ (HB0.out.trans (HB1.out.mono (by omega)))⟩
      · have hd1:decide ((512:Int) - cn<rows.length)=false:=decide_eq_false (by omega);have hd1':decide (IntKind.i64.wrap ((512:Int) - cn)<rows.length)=false:=by rw [show IntKind.i64.wrap ((512:Int) - cn)=512 - cn from IntWalk.i64_in _ (by omega)];exact hd1
        go_wp2_with fail
        go_roundw
        case rel=>exact⟨k+1,by omega,by go_num,by rw [HT.out];go_num,by rw [HT.out];omega,by first | rfl | trivial⟩
        case measure=>simp [intOf];omega
    have hki:¬ (k:Int)<st.length:=(by omega)
    have HCF2:=hI (show ZaO 0 ⟨ver,tabs⟩ m st=if st.length≠tabs.length then 80 else if stOk ⟨ver,tabs⟩ m 0 st then 0 else 80 by
     rw [HCF.out,if_neg];rw [List.take_of_length_le (by omega)] at hc;omega)
    clear HCF hc HC;have x1:wr.cell? ⟨sb,1,none⟩=some (.slice A0 tabs.length c0'):=cJ HB1.out (Zaa SB0.out 1 _ rfl)
    by_cases hlen:st.length=tabs.length
    · have hd2:((st.length:Int) != tabs.length)=false:=(by simp [hlen]);have HCF3:=hI (show ZaO 0 ⟨ver,tabs⟩ m st=if stOk ⟨ver,tabs⟩ m 0 st then 0 else 80 by rw [HCF2.out,if_neg (by simpa using hlen)]);clear HCF2;have HLEN:=hI hlen;clear hlen
      go_wp2_with fail
      clear hd2 x1 u1;obtain⟨w2,rfl⟩:∃ w2:World,w2=wr:=⟨_,rfl⟩
      go_loopw [53] (fun i wr=>∃ k:Nat,k≤st.length∧i=.int .i64 k∧stOk ⟨ver,tabs⟩ m 0 st=stOk ⟨ver,tabs⟩ m k (st.drop k)∧Below (sb+2) W0 wr) (fun i _=>st.length - (intOf i).toNat)
      case atStart=>exact⟨0,Nat.zero_le _,rfl,by simp,HB1.out⟩
      case round =>
       clear HB1 hkl hki;obtain⟨k,hk,rfl,hch,hbel⟩:=hrel;have HT:=hI hch;have HB:=hI hbel;have HBW:=hI (HB0.out.trans (hbel.mono (by omega)));have hzr:=hbel.size;clear hch hbel
       by_cases hkl:k<st.length
       · have hki:(k:Int)<st.length:=(by omega);obtain⟨b2,o2,rfl,hb2,A',c',d1,d2,d3⟩:=(HST.out.keep (Same.of_below HBW.out HSW.out)).at_ hkl;have hl2:b2<wr.heap.size:=(by have:=HSW.out b2 hb2;omega);have HSTEP:=hI (Zhb ⟨ver,tabs⟩ m st k hkl);have HRS:=hI d3;have hrl:=d3.len;have HD2:=hI d2;clear d2 d3;generalize st.getD k []=rows at d1 HSTEP HRS HD2 hrl
         go_wp2_with fail
         clear d1;obtain⟨w3,rfl⟩:∃ w3:World,w3=wr:=⟨_,rfl⟩
         go_loopw [60] (fun i wq=>∃ j:Nat,j≤rows.length∧i=.int .i64 j∧Zbm ⟨ver,tabs⟩ k m none rows=Zbm ⟨ver,tabs⟩ k m (Zcw rows j) (rows.drop j)∧Below (sb+2) W0 wq∧Below w3.heap.size w3 wq) (fun i _=>rows.length - (intOf i).toNat)
         case atStart=>exact⟨0,Nat.zero_le _,rfl,by simp [Zcw],HB.out,Below.refl _ _⟩
         case round =>
          clear HB;obtain⟨j,hj,rfl,hch,hbel,hbq⟩:=hrel;have HT2:=hI hch;have HB:=hI hbel;have HBQ:=hI hbq;have hsq:=hbq.size;have HBW2:=hI (HB0.out.trans (hbel.mono (by omega)));have SB:=hI ((hbel.block sb (by omega)).trans SB0.out);have hsr:sb<wr.heap.size:=(by omega);have y0:wr.cell? ⟨sb,0,none⟩=some (.int .i64 ver):=Zaa SB.out 0 _ rfl;have y1:wr.cell? ⟨sb,1,none⟩=some (.slice A0 tabs.length c0'):=Zaa SB.out 1 _ rfl;clear hch hbel hbq
          by_cases hjl:j<rows.length
          · have hji:(j:Int)<rows.length:=(by omega);have HRQ:=hI (HRS.out.keep (w':=wr) (fun b hb=>HBQ.out.block b (by have:=HSW.out b hb;omega)));obtain⟨b5,o5,rfl,hb5,A5,c5,f1,f2,f3⟩:=HRQ.out.at_ hjl;have hl5:b5<wr.heap.size:=(by have:=HSW.out b5 hb5;omega);have HSTEP2:=hI (Zfp ⟨ver,tabs⟩ k m rows j hjl);have HROW:=hI f3;have HC5:=hI f2;have hrw:=f3.len;clear f2 f3;have HTS:=hI (HS.out.keep (Same.of_below HBW2.out HSW.out))
            by_cases hj0:j=0
            · have HSTEP3:=hI (show Zbm ⟨ver,tabs⟩ k m none rows=(Zaz ⟨ver,tabs⟩ k (rows.getD j []) m&&Zbm ⟨ver,tabs⟩ k m (Zcw rows (j+1)) (rows.drop (j+1))) by rw [HT2.out,HSTEP2.out];subst hj0;simp [Zcw]);have hd3:decide ((0:Int)<(j:Int))=false:=decide_eq_false (by omega);have hd4:¬ 0<j:=(by omega);clear HSTEP2 HT2 hj0;generalize rows.getD j []=row at f1 HSTEP3 HROW HC5 hrw
              go_wp2_with fail
              refine(Zhh A0 c0' ⟨ver,tabs⟩ k m A5 c5 row S wr HTS.out HROW.out (fun b hb=>by have:=HSW.out b hb;omega)).mono ?_;rintro e w4 ⟨rfl,hb4⟩;have HB4:=hI (HB.out.trans (hb4.mono (by omega)));have HBQ4:=hI (HBQ.out.trans (hb4.mono (by omega)));clear hb4 y0 y1 f1
              by_cases hf:Zaz ⟨ver,tabs⟩ k row m=true
              · rw [hf] at HSTEP3 ⊢;clear hf
                go_wp2_with fail
                go_quiet (fail)
                go_wp2_with fail
                go_roundw
                case rel=>exact⟨j+1,by omega,by go_num,by rw [HSTEP3.out];simp,Zaf HB4.out _,Zaf HBQ4.out _⟩
                case measure=>simp [intOf];omega
              · have hf':Zaz ⟨ver,tabs⟩ k row m=false:=(by simpa using hf);rw [hf'] at HSTEP3 ⊢;clear hf hf';have HF:=hI (show ZaO 0 ⟨ver,tabs⟩ m st=80 by rw [HCF3.out,HT.out,HSTEP.out,HSTEP3.out];simp)
                go_wp2_with fail
                go_ret;exact⟨by rw [HF.out];rfl,HBB.out _ (HB0.out.trans (HB4.out.mono (by omega)))⟩
            · obtain⟨i,rfl⟩:∃ i,j=i+1:=⟨j - 1,by omega⟩;obtain⟨b6,o6,e6,hb6,A6,c6,g1,g2,g3⟩:=HRQ.out.at_ (show i<rows.length by omega);injection e6 with e6;injection e6 with e61 e62;subst e61 e62;have HPREV:=hI g3;have HC6:=hI g2;have hrw6:=g3.len;have HSTEP3:=hI (show Zbm ⟨ver,tabs⟩ k m none rows=(Zaz ⟨ver,tabs⟩ k (rows.getD (i+1) []) m&&decide (cmpR (keyF ⟨ver,tabs⟩ k (rows.getD i [])) (keyF ⟨ver,tabs⟩ k (rows.getD (i+1) []))<0)&&Zbm ⟨ver,tabs⟩ k m (Zcw rows (i+1+1)) (rows.drop (i+1+1))) by rw [HT2.out,HSTEP2.out];rfl);clear g2 g3 hj0 HSTEP2 HT2;generalize rows.getD (i+1) []=row at f1 HSTEP3 HROW HC5 hrw;generalize rows.getD i []=prev at g1 HSTEP3 HPREV HC6 hrw6
              go_wp2_with fail
              refine(Zhh A0 c0' ⟨ver,tabs⟩ k m A5 c5 row S wr HTS.out HROW.out (fun b hb=>by have:=HSW.out b hb;omega)).mono ?_;rintro e w4 ⟨rfl,hb4⟩;have HB4:=hI (HB.out.trans (hb4.mono (by omega)));have HBQ4:=hI (HBQ.out.trans (hb4.mono (by omega)));have HX4:=hI hb4;have SB:=hI ((hb4.block sb hsr).trans SB.out);have z2:w4.cell? ⟨b5,o5+i,none⟩=some (.slice A6 prev.length c6):=cQ hb4 hl5 g1;have hs4:wr.heap.size≤w4.heap.size:=hb4.size;clear hb4 f1 g1 y0 y1
              by_cases hf:Zaz ⟨ver,tabs⟩ k row m=true
              · rw [hf] at HSTEP3 ⊢;clear hf
                go_wp2_with fail
                have q1:IntKind.i64.wrap ((i:Int)+1 - 1)=i:=(by rw [show ((i:Int)+1 - 1)=i by omega];exact IntWalk.i64_in _ (by omega));have q5:IntKind.i64.wrap (i:Int)=i:=IntWalk.i64_in _ (by omega);have q2:(0:Int)≤i:=(by omega);have q3:(i:Int)<rows.length:=(by omega);have q4:(i:Int)≤rows.length:=(by omega);have q6:(0:Int)<(i:Int)+1:=(by omega);have q7:decide ((0:Int)<(i:Int)+1)=true:=decide_eq_true q6;have HTS4:=hI (HTS.out.keep (Same.of_below HX4.out (fun b hb=>by have:=HSW.out b hb;omega)));have HROW4:=hI (HROW.out.keep (w':=w4) (Same.of_below HX4.out (fun b hb=>by have:=HSW.out b hb;omega)));have HPREV4:=hI (HPREV.out.keep (w':=w4) (Same.of_below HX4.out (fun b hb=>by have:=HSW.out b hb;omega)));refine ZbD (fun c a d v w h=>by cases d<;>exact h) (fun Q' HQ HP=>?_);refine Zak (fun w'=>w'.heap[sb]?=some (.cells #[.int .i64 ver,.slice A0 tabs.length c0'] 28 (0,0))∧w'.cell? ⟨b5,o5+i,none⟩=some (.slice A6 prev.length c6)) 18 18 (bA 18 0) (by kernel_rfl) (by kernel_rfl) (by kernel_rfl) ?_;refine anyT_take (i:=0) (oi:=⟨some 71,_,_,_,_,_⟩) (v:=.int .i64 ((i:Int)+1)) (L':=(bA 18 1)) rfl rfl (by kernel_rfl) (by kernel_rfl) (by kernel_rfl) (by kernel_rfl) (by kernel_rfl) HP.out (Or.inl ⟨by rfl,?_⟩) ⟨SB.out,z2⟩ ?_
                · intro w' hSw;go_simp
                  (try with_reducible rfl)
                simp only [psA,psB,psC];refine anyT_take (i:=1) (oi:=⟨some 72,_,_,_,_,_⟩) (v:=.bool true) (L':=(bA 18 3)) rfl rfl (by kernel_rfl) (by kernel_rfl) (by kernel_rfl) (by kernel_rfl) (by kernel_rfl) HP.out (Or.inl ⟨by rfl,?_⟩) ⟨SB.out,z2⟩ ?_
                · intro w' hSw;go_simp
                  (try simp)
                simp only [psA,psB,psC];refine tJ 2 73 (bA 18 7) HP.out ⟨SB.out,z2⟩ ?_;refine anyT_take (i:=3) (oi:=⟨some 74,_,_,_,_,_⟩) (v:=.agg #[.int .i64 ver,.slice A0 tabs.length c0']) (L':=(bA 18 15)) rfl rfl (by kernel_rfl) (by kernel_rfl) (by kernel_rfl) (by kernel_rfl) (by kernel_rfl) HP.out (Or.inl ⟨by rfl,?_⟩) ⟨SB.out,z2⟩ ?_
                · intro w' hSw;have x0:=Zaa hSw.1 0 _ rfl;have x1:=Zaa hSw.1 1 _ rfl;go_simp
                  (try with_reducible rfl)
                simp only [psA,psB,psC];refine tJ 4 75 (bA 18 31) HP.out ⟨SB.out,z2⟩ ?_;refine tJ 5 76 (bA 18 63) HP.out ⟨SB.out,z2⟩ ?_;refine anyT_take (i:=6) (oi:=⟨some 77,_,_,_,_,_⟩) (v:=.int .i64 ((i:Int)+1)) (L':=(bA 18 127)) rfl rfl (by kernel_rfl) (by kernel_rfl) (by kernel_rfl) (by kernel_rfl) (by kernel_rfl) HP.out (Or.inl ⟨by rfl,?_⟩) ⟨SB.out,z2⟩ ?_
                · intro w' hSw;go_simp
                  (try with_reducible rfl)
                simp only [psA,psB,psC];refine anyT_take (i:=7) (oi:=⟨some 78,_,_,_,_,_⟩) (v:=.int .i64 (i:Int)) (L':=(bA 18 255)) rfl rfl (by kernel_rfl) (by kernel_rfl) (by kernel_rfl) (by kernel_rfl) (by kernel_rfl) HP.out (Or.inl ⟨by rfl,?_⟩) ⟨SB.out,z2⟩ ?_
                · intro w' hSw;go_simp
                  (try simp [q1])
                simp only [psA,psB,psC];refine tJ 8 79 (bA 18 511) HP.out ⟨SB.out,z2⟩ ?_;refine tJ 9 80 (bA 18 1023) HP.out ⟨SB.out,z2⟩ ?_;refine anyT_take (i:=11) (oi:=⟨some 82,_,_,_,_,_⟩) (v:=.agg #[.int .i64 ver,.slice A0 tabs.length c0']) (L':=(bA 18 3071)) rfl rfl (by kernel_rfl) (by kernel_rfl) (by kernel_rfl) (by kernel_rfl) (by kernel_rfl) HP.out (Or.inl ⟨by rfl,?_⟩) ⟨SB.out,z2⟩ ?_
                · intro w' hSw;have x0:=Zaa hSw.1 0 _ rfl;have x1:=Zaa hSw.1 1 _ rfl;go_simp
                  (try with_reducible rfl)
                simp only [psA,psB,psC];refine tJ 12 83 (bA 18 7167) HP.out ⟨SB.out,z2⟩ ?_;refine tJ 13 84 (bA 18 15359) HP.out ⟨SB.out,z2⟩ ?_;refine tQ 10 (some 81) (bA 18 16383) fun K HK=>?_;go_simp;refine(Zcd A0 c0' ⟨ver,tabs⟩ k A6 c6 prev S w4.drew (HTS4.out.keep (w':=w4.drew) (fun _ _=>rfl)) (HPREV4.out.keep (w':=w4.drew) (fun _ _=>rfl)) HC6.out (fun b hb=>by have:=HSW.out b hb;show b<w4.heap.size;omega)).mono ?_;rintro e w5 ⟨A7,c7,rfl,h7,hb50⟩;have hb5':Below w4.heap.size w4 w5:=(Below.refl _ w4).drew.trans hb50;have H7:=hI (ZaA h7 (Zbv (s:=⟨ver,tabs⟩) (t:=k) HPREV4.out.ok) (Nat.le_refl _)).2;have hz5:=hb5'.size;have SB:=hI ((hb5'.block sb (by omega)).trans SB.out);have z2:=cJ hb5' z2;clear hb50 h7;refine HK.out _ _ (fun _=>⟨SB.out,z2⟩) ?_;clear HK K
                try simp only [Act.put,psA,psB,psC]
                refine tQ 14 (some 85) (bA 18 32767) fun K HK=>?_;go_simp;refine(Zcd A0 c0' ⟨ver,tabs⟩ k A5 c5 row S w5 (HTS4.out.keep (Same.of_below hb5' (fun b hb=>by have:=HSW.out b hb;omega))) (HROW4.out.keep (Same.of_below hb5' (fun b hb=>by have:=HSW.out b hb;omega))) HC5.out (fun b hb=>by have:=HSW.out b hb;omega)).mono ?_;rintro e w6 ⟨A8,c8,rfl,h8,hb60⟩;have hb6:Below w4.heap.size w4 w6:=hb5'.trans (hb60.mono hz5);have H8:=hI (ZaA h8 (Zbv (s:=⟨ver,tabs⟩) (t:=k) HROW4.out.ok) (Nat.le_refl _)).2;have H7:=hI ((show RowS w5 (fun b=>w4.heap.size≤b∧b<w5.heap.size) A7 (keyF ⟨ver,tabs⟩ k prev) from H7.out).keep (w':=w6) (fun b hb=>hb60.block b hb.2));have hz6:=hb60.size;have SB:=hI ((hb60.block sb (by omega)).trans SB.out);have z2:=cJ hb60 z2;clear hb60 h8;refine HK.out _ _ (fun _=>⟨SB.out,z2⟩) ?_;clear HK K
                try simp only [Act.put,psA,psB,psC]
                refine tQ 15 (some 86) (bA 18 65535) fun K HK=>?_;go_simp;refine(Zax A7 A8 c7 c8 (keyF ⟨ver,tabs⟩ k prev) (keyF ⟨ver,tabs⟩ k row) (fun b=>b<w6.heap.size) w6 (H7.out.more (fun b hb=>by have:=hb.2;show b<w6.heap.size;omega)) (H8.out.more (fun b hb=>hb.2)) (fun b hb=>hb)).mono ?_;rintro e w7 ⟨rfl,hb70⟩;have hb7:Below w4.heap.size w4 w7:=hb6.trans (hb70.mono (by omega));have hz7:=hb70.size;have SB:=hI ((hb70.block sb (by omega)).trans SB.out);have z2:=cJ hb70 z2;clear hb70;refine HK.out _ _ (fun _=>⟨SB.out,z2⟩) ?_;clear HK K
                try simp only [Act.put,psA,psB,psC]
                refine tJ 16 87 (bA 18 131071) HP.out ⟨SB.out,z2⟩ ?_;refine tJ 17 88 (bA 18 262143) HP.out ⟨SB.out,z2⟩ ?_;refine Zam (by kernel_rfl) ?_;rw [HQ.out];clear HQ HP Q';have HB7:=hI (HB4.out.trans (hb7.mono (by omega)));have HBQ7:=hI (HBQ4.out.trans (hb7.mono (by omega)));clear hb7 z2 q1 q5
                by_cases hcmp:cmpR (keyF ⟨ver,tabs⟩ k prev) (keyF ⟨ver,tabs⟩ k row)<0
                · have HOK:=hI (show Zbm ⟨ver,tabs⟩ k m none rows=Zbm ⟨ver,tabs⟩ k m (Zcw rows (i+1+1)) (rows.drop (i+1+1)) by rw [HSTEP3.out];simp [hcmp]);have hd6:decide (0≤cmpR (keyF ⟨ver,tabs⟩ k prev) (keyF ⟨ver,tabs⟩ k row))=false:=decide_eq_false (by omega);clear hcmp HSTEP3;generalize cmpR (keyF ⟨ver,tabs⟩ k prev) (keyF ⟨ver,tabs⟩ k row)=cv at hd6 ⊢;rw [hd6]
                  go_wp2_with fail
                  go_roundw
                  case rel=>exact⟨i+1+1,by omega,by go_num,HOK.out,HB7.out,HBQ7.out⟩
                  case measure=>simp [intOf];omega
                · have hd6:decide (0≤cmpR (keyF ⟨ver,tabs⟩ k prev) (keyF ⟨ver,tabs⟩ k row))=true:=decide_eq_true (by omega);have HOK:=hI (show Zbm ⟨ver,tabs⟩ k m none rows=false by rw [HSTEP3.out];simp [hcmp]);clear hcmp HSTEP3;generalize cmpR (keyF ⟨ver,tabs⟩ k prev) (keyF ⟨ver,tabs⟩ k row)=cv at hd6 ⊢;rw [hd6];have HF:=hI (show ZaO 0 ⟨ver,tabs⟩ m st=80 by rw [HCF3.out,HT.out,HSTEP.out,HOK.out];simp)
                  go_wp2_with fail
                  go_ret;exact⟨by rw [HF.out];rfl,HBB.out _ (HB0.out.trans (HB7.out.mono (by omega)))⟩
              · have hf':Zaz ⟨ver,tabs⟩ k row m=false:=(by simpa using hf);rw [hf'] at HSTEP3 ⊢;clear hf hf';have HF:=hI (show ZaO 0 ⟨ver,tabs⟩ m st=80 by rw [HCF3.out,HT.out,HSTEP.out,HSTEP3.out];simp)
                go_wp2_with fail
                go_ret;exact⟨by rw [HF.out];rfl,HBB.out _ (HB0.out.trans (HB4.out.mono (by omega)))⟩
          · have hji:¬ (j:Int)<rows.length:=(by omega);have HE:=hI (show Zbm ⟨ver,tabs⟩ k m none rows=true by rw [HT2.out,show j=rows.length by omega,List.drop_length];cases rows.length<;>rfl);have HC:=hI (show stOk ⟨ver,tabs⟩ m 0 st=stOk ⟨ver,tabs⟩ m (k+1) (st.drop (k+1)) by rw [HT.out,HSTEP.out,HE.out];rfl)
            go_wp2_with fail
            go_roundw
            case rel=>exact⟨k+1,by omega,by go_num,HC.out,HB.out⟩
            case measure=>simp [intOf];omega
       · have hki:¬ (k:Int)<st.length:=(by omega);have HE:=hI (show ZaO 0 ⟨ver,tabs⟩ m st=0 by rw [HCF3.out,HT.out,show k=st.length by omega,List.drop_length];rfl)
         go_wp2_with fail
         go_ret;exact⟨by rw [HE.out];rfl,HBB.out _ HBW.out⟩
    · have hd2:((st.length:Int) != tabs.length)=true:=(by simp;omega);have HF:=hI (show ZaO 0 ⟨ver,tabs⟩ m st=80 by rw [HCF2.out,if_pos hlen])
      go_wp2_with fail
      go_ret;exact⟨by rw [HF.out];rfl,HBB.out _ (HB0.out.trans (HB1.out.mono (by omega)))⟩
 · have hd:(er != 0)=true:=(by simpa using he);have HF:=hI (show ZaO er ⟨ver,tabs⟩ m st=er by unfold ZaO ZcR;rw [if_pos he,if_pos he]);clear he
   go_wp2_with fail
   go_ret;exact⟨by rw [HF.out];rfl,HBB.out _ (HB0.out.trans (HB1.out.mono (by omega)))⟩
end Go.Proofs.YtkpjjfhfbpfjpaaGreat

