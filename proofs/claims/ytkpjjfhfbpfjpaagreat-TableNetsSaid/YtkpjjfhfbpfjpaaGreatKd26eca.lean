import Derived.Test.YtkpjjfhfbpfjpaaGreatK13ff61
import Derived.Test.YtkpjjfhfbpfjpaaGreatK185549
import Derived.Test.YtkpjjfhfbpfjpaaGreatKef29f4
import Derived.Test.YtkpjjfhfbpfjpaaGreatKd77a7e
import Derived.Test.YtkpjjfhfbpfjpaaGreatKbd4fc8
set_option linter.unusedVariables false
set_option linter.unusedSimpArgs false
set_option maxRecDepth 100000
set_option maxHeartbeats 8000000
namespace Go.Proofs.YtkpjjfhfbpfjpaaGreat
open Go.RowKit
theorem ZfD (A0:Option Addr) (c0':Nat) (s:Sch) (t m:Int) (A:Option Addr) (ca:Nat) (r:Row) (S:Nat→Prop) (w:World) (hs:TabS w S A0 s.tabs) (hr:RowS w S A r) (hS:∀ b,S b→b<w.heap.size) :
  Calls Tryz.prog 78 #[sAgg s.version A0 s.tabs.length c0',.int .i64 t,.slice A r.length ca,.int .i64 m] w (ZaP (Zaw s t r m) w):=by
 obtain⟨ver,tabs⟩:=s;simp only at hs ⊢;have hsl:=hs.len;have hrl:=hr.len;have HOK:=hI hr.ok;have HS:=hI hs;have HR:=hI hr;clear hs hr;have HB0:=hI ((Below.refl w.heap.size w).alloc nR (.cells #[.int .i64 ver,.slice A0 tabs.length c0'] 28))
 by_cases hm1:m<1
 · have hd1:decide (m<1)=true:=decide_eq_true hm1;have HF:=hI (show Zaw ⟨ver,tabs⟩ t r m=false by unfold Zaw;rw [show Zbx m=false by simp [Zbx];omega];rfl);go_enter Tryz.func78,Tryz.ntmps78
   go_wp2_with fail
   go_ret;exact⟨by rw [HF.out];rfl,HB0.out⟩
 have hd1:decide (m<1)=false:=decide_eq_false hm1
 by_cases hm3:3<m
 · have hd2:decide (3<m)=true:=decide_eq_true hm3;have HF:=hI (show Zaw ⟨ver,tabs⟩ t r m=false by unfold Zaw;rw [show Zbx m=false by simp [Zbx];omega];rfl);go_enter Tryz.func78,Tryz.ntmps78
   go_wp2_with fail
   go_ret;exact⟨by rw [HF.out];rfl,HB0.out⟩
 have hd2:decide (3<m)=false:=decide_eq_false hm3;have HM:=hI (show Zbx m=true by simp [Zbx];omega)
 by_cases ht0:t<0
 · have hd3:decide (t<0)=true:=decide_eq_true ht0;have HF:=hI (show Zaw ⟨ver,tabs⟩ t r m=false by unfold Zaw;rw [show hasN (Sch.tabs ⟨ver,tabs⟩).length t=false by unfold hasN;simp;omega];simp);go_enter Tryz.func78,Tryz.ntmps78
   go_wp2_with fail
   go_ret;exact⟨by rw [HF.out];rfl,HB0.out⟩
 have hd3:decide (t<0)=false:=decide_eq_false ht0;obtain⟨tt,rfl⟩:=Int.eq_ofNat_of_zero_le (show 0≤t by omega)
 by_cases ht1:(tabs.length:Int)≤(tt:Int)
 · have hd4:decide ((tabs.length:Int)≤(tt:Int))=true:=decide_eq_true ht1;have hd4':decide (tabs.length≤tt)=true:=decide_eq_true (by omega);have HF:=hI (show Zaw ⟨ver,tabs⟩ tt r m=false by unfold Zaw;rw [show hasN (Sch.tabs ⟨ver,tabs⟩).length (tt:Int)=false by unfold hasN;simp;omega];simp);go_enter Tryz.func78,Tryz.ntmps78
   go_wp2_with fail
   go_ret;exact⟨by rw [HF.out];rfl,HB0.out⟩
 have hd4:decide ((tabs.length:Int)≤(tt:Int))=false:=decide_eq_false ht1;have hd4':decide (tabs.length≤tt)=false:=decide_eq_false (by omega);have htl:tt<tabs.length:=(by omega);have htli:(tt:Int)<tabs.length:=(by omega)
 have HF:=hI (show Zaw ⟨ver,tabs⟩ tt r m=(decide (r.length=(tabs.getD tt t0).cols.length)&&ZaA m (tabs.getD tt t0).key 0 (tabs.getD tt t0).cols r) by
  unfold Zaw;rw [HM.out,show hasN (Sch.tabs ⟨ver,tabs⟩).length (tt:Int)=true by unfold hasN;simp;omega];simp only [Int.toNat_natCast,Bool.true_and])
 obtain⟨b2,o2,rfl,hb2,A1,A2,A3,c1,c2,c3,hta⟩:=HS.out.at_ htl;have k2:=hta.cols;have k3:=hta.key;have HCS:=hI hta.cS;have hcl:=hta.cS.len;have hl2:b2<w.heap.size:=hS b2 hb2;clear hta;generalize tabs.getD tt t0=tb at k2 k3 HCS HF hcl;obtain⟨tn,tc,tk,tr,tp⟩:=tb;simp only at k2 k3 HCS HF hcl
 by_cases hrc:r.length=tc.length
 · have hd5:((r.length:Int) != (tc.length:Int))=false:=(by simp [hrc]);have HF1:=hI (show Zaw ⟨ver,tabs⟩ tt r m=ZaA m tk 0 tc r by rw [HF.out,decide_eq_true hrc];rfl);clear HF;go_enter Tryz.func78,Tryz.ntmps78
   go_wp2_with fail
   go_loopw [42] (fun i wr=>∃ k:Nat,k≤r.length∧i=.int .i64 k∧ZaA m tk 0 tc r=ZaA m tk k (tc.drop k) (r.drop k)∧Below w.heap.size w wr∧wr.cell? ⟨w.heap.size,1,none⟩=some (.slice (some ⟨b2,o2,none⟩) tabs.length c0')∧w.heap.size<wr.heap.size) (fun i _=>r.length - (intOf i).toNat)
   case atStart=>exact⟨0,Nat.zero_le _,rfl,by simp,HB0.out,by simp,by simp⟩
   case round =>
    obtain⟨k,hk,rfl,hf,hbel,x1,hw1⟩:=hrel;have HT:=hI hf;have HB:=hI hbel;have k2:=cQ hbel hl2 k2;have k3:=cQ hbel hl2 k3;clear hf hbel hd1 hd2 hd3 hd4 hd4' hd5
    by_cases hkl:k<r.length
    · have hki:(k:Int)<r.length:=(by omega);have hkc:k<tc.length:=(by omega);have hkci:(k:Int)<tc.length:=(by omega);have hl2r:b2<wr.heap.size:=(by omega);obtain⟨b3,o3,rfl,hb3,v1,v2,v3⟩:=(HR.out.keep (Same.of_below HB.out hS)).at_ hkl;have hvt:=HOK.out.2 _ (show r.getD k v0 ∈ r by simp [List.getD,hkl]);have hl3:b3<wr.heap.size:=(by have:=hS b3 hb3;omega);obtain⟨b4,o4,rfl,hb4,m0,m1⟩:=(HCS.out.keep (Same.of_below HB.out hS)).at_ hkc;have hl4:b4<wr.heap.size:=(by have:=hS b4 hb4;omega);have HSTEP:=hI (Zcv (m:=m) (key:=tk) k k tc r hkl hrc);generalize r.getD k v0=v at v1 v2 v3 hvt HSTEP;generalize tc.getD k c0=cc at m0 m1 HSTEP;obtain⟨cn,ck⟩:=cc;simp only at m0 m1 HSTEP;obtain⟨vk,vi,vt⟩:=v;simp only at v1 v2 v3 hvt HSTEP;obtain⟨W2,hW2⟩:∃ W2,wr.alloc (.cells #[.int .i64 vk,.int .i64 vi,.string vt] 89)=W2:=⟨_,rfl⟩;have z0:W2.cell? ⟨wr.heap.size,0,none⟩=some (.int .i64 vk):=(by rw [←hW2];simp);have z1:W2.cell? ⟨wr.heap.size,1,none⟩=some (.int .i64 vi):=(by rw [←hW2];simp);have z2:W2.cell? ⟨wr.heap.size,2,none⟩=some (.string vt):=by rw [←hW2];simp
      go_wp2_with fail
      refine(Zgl ⟨vk,vi,vt⟩ W2 hvt).mono ?_;rintro e w3 ⟨rfl,hb3'⟩;have hbr:Below wr.heap.size wr W2:=(by rw [←hW2];exact(Below.refl _ _).alloc nR _);have hzW:W2.heap.size=wr.heap.size+1:=(by rw [←hW2];simp);have hbr3:=hbr.trans (hb3'.mono (by omega));have HB3:=hI (HB.out.trans (hbr3.mono (by omega)));have hz3:wr.heap.size<w3.heap.size:=(by have:=hb3'.size;omega);have y0:w3.cell? ⟨wr.heap.size,0,none⟩=some (.int .i64 vk):=cJ hb3' z0;have x1:=cQ hbr3 hw1 x1;have k2:=cQ hbr3 hl2r k2;have k3:=cQ hbr3 hl2r k3;have m1:=cQ hbr3 hl4 m1;have hw3:w.heap.size<w3.heap.size:=(by omega);have hl2':b2<w3.heap.size:=(by omega);have hl4':b4<w3.heap.size:=(by omega);clear hb3' hbr hbr3 hzW v1 v2 v3 m0 z0 z1 z2
      by_cases hv:Zao ⟨vk,vi,vt⟩=true
      · rw [hv]
        have HV:=hI (show ZaA m tk k (tc.drop k) (r.drop k)=((decide (vk=ck)||(decide (vk=2)&&decide (m≠1)&&decide (tk≤k))||(decide (vk=1)&&decide (m=3)&&decide (tk≤k)))&&ZaA m tk (k+1) (tc.drop (k+1)) (r.drop (k+1))) by
         rw [HSTEP.out];unfold ZaF;rw [hv];simp only [Bool.true_and])
        have HGO:=hI (show (decide (vk=ck)||(decide (vk=2)&&decide (m≠1)&&decide (tk≤k))||(decide (vk=1)&&decide (m=3)&&decide (tk≤k)))=true→ZaA m tk 0 tc r=ZaA m tk (k+1) (tc.drop (k+1)) (r.drop (k+1)) from fun h=>by rw [HT.out,HV.out,h];rfl);have HNO:=hI (show (decide (vk=ck)||(decide (vk=2)&&decide (m≠1)&&decide (tk≤k))||(decide (vk=1)&&decide (m=3)&&decide (tk≤k)))=false→Zaw ⟨ver,tabs⟩ tt r m=false from fun h=>by rw [HF1.out,HT.out,HV.out,h];rfl);clear hv HSTEP HV
        by_cases hkk:vk=ck
        · have hd1:(vk == ck)=true:=(by simp [hkk]);have HC:=hI (HGO.out (by simp [hkk]))
          go_wp2_with fail
          go_quiet (fail)
          go_wp2_with fail
          go_roundw
          case rel=>exact⟨k+1,by omega,by go_num,HC.out,Zag HB3.out _,x1,hw3⟩
          case measure=>simp [intOf];omega
        have hd1:(vk == ck)=false:=by simp [hkk]
        by_cases hk2:vk=2
        · subst hk2
          by_cases hmm:m=1
          · subst hmm;have HF2:=hI (HNO.out (by simp [hkk]))
            go_wp2_with fail
            go_quiet (fail)
            go_wp2_with fail
            go_ret;exact⟨by rw [HF2.out];rfl,Zag HB3.out _⟩
          have hd2:(m != 1)=true:=by simp [hmm]
          by_cases hkey:tk≤k
          · have hd3:decide (tk≤(k:Int))=true:=decide_eq_true hkey;have HC:=hI (HGO.out (by simp [hmm,hkey]))
            go_wp2_with fail
            go_quiet (fail)
            go_wp2_with fail
            go_roundw
            case rel=>exact⟨k+1,by omega,by go_num,HC.out,Zag HB3.out _,x1,hw3⟩
            case measure=>simp [intOf];omega
          · have hd3:decide (tk≤(k:Int))=false:=decide_eq_false hkey;have HF2:=hI (HNO.out (by simp [hkk,hkey]))
            go_wp2_with fail
            go_quiet (fail)
            go_wp2_with fail
            go_ret;exact⟨by rw [HF2.out];rfl,Zag HB3.out _⟩
        have hd2:(vk == 2)=false:=by simp [hk2]
        by_cases hk1:vk=1
        · subst hk1
          by_cases hmm:m=3
          · subst hmm
            by_cases hkey:tk≤k
            · have hd3:decide (tk≤(k:Int))=true:=decide_eq_true hkey;have HC:=hI (HGO.out (by simp [hkey]))
              go_wp2_with fail
              go_quiet (fail)
              go_wp2_with fail
              go_roundw
              case rel=>exact⟨k+1,by omega,by go_num,HC.out,Zag HB3.out _,x1,hw3⟩
              case measure=>simp [intOf];omega
            · have hd3:decide (tk≤(k:Int))=false:=decide_eq_false hkey;have HF2:=hI (HNO.out (by simp [hkk,hkey]))
              go_wp2_with fail
              go_quiet (fail)
              go_wp2_with fail
              go_ret;exact⟨by rw [HF2.out];rfl,Zag HB3.out _⟩
          have hd3:(m == 3)=false:=(by simp [hmm]);have HF2:=hI (HNO.out (by simp [hkk,hmm]))
          go_wp2_with fail
          go_quiet (fail)
          go_wp2_with fail
          go_ret;exact⟨by rw [HF2.out];rfl,Zag HB3.out _⟩
        have hd3:(vk == 1)=false:=(by simp [hk1]);have HF2:=hI (HNO.out (by simp [hkk,hk2,hk1]))
        go_wp2_with fail
        go_quiet (fail)
        go_wp2_with fail
        go_ret;exact⟨by rw [HF2.out];rfl,Zag HB3.out _⟩
      · have hv':Zao ⟨vk,vi,vt⟩=false:=(by simpa using hv);have HF2:=hI (show Zaw ⟨ver,tabs⟩ tt r m=false by rw [HF1.out,HT.out,HSTEP.out];unfold ZaF;rw [hv'];rfl);rw [hv'];clear hv hv'
        go_wp2_with fail
        go_ret;exact⟨by rw [HF2.out];rfl,HB3.out⟩
    · have hki:¬ (k:Int)<r.length:=(by omega);have HE:=hI (show ZaA m tk 0 tc r=true by rw [HT.out,List.drop_eq_nil_of_le (show r.length≤k by omega)];cases tc.drop k<;>rfl)
      go_wp2_with fail
      go_ret;exact⟨by rw [HF1.out,HE.out];rfl,HB.out⟩
 · have hd5:((r.length:Int) != (tc.length:Int))=true:=(by simp;omega);have HF1:=hI (show Zaw ⟨ver,tabs⟩ tt r m=false by rw [HF.out,decide_eq_false hrc];rfl);go_enter Tryz.func78,Tryz.ntmps78
   go_wp2_with fail
   go_ret;exact⟨by rw [HF1.out];rfl,HB0.out⟩
theorem rkeyOf_any (A0:Option Addr) (c0':Nat) (s:Sch) (ch:Chg) (A:Option Addr) (ca:Nat) (B:Option Addr) (cb:Nat) (S:Nat→Prop) (w:World) (hs:TabS w S A0 s.tabs) (ho:RowS w S A ch.old) (hca:ch.old.length≤ca) (hn:RowS w S B ch.new) (hcb:ch.new.length≤cb) (hS:∀ b,S b→b<w.heap.size) :
  Calls Tryz.prog 59 #[sAgg s.version A0 s.tabs.length c0',ZcK ch.table A ch.old.length ca B ch.new.length cb] w (NewR (keyC s ch) w):=by
 obtain⟨ver,tabs⟩:=s;obtain⟨t,old,new⟩:=ch;simp only at hs ho hca hn hcb ⊢;have hol:=ho.len;have hnl:=hn.len;have hsl:=hs.len;have HB0:=hI (((Below.refl w.heap.size w).alloc nR (.cells #[.int .i64 ver,.slice A0 tabs.length c0'] 28)).alloc (by simp) (.cells #[.int .i64 t,.slice A old.length ca,.slice B new.length cb] 44));obtain⟨W0,hW0⟩:∃ W0,(w.alloc (.cells #[.int .i64 ver,.slice A0 tabs.length c0'] 28)).alloc (.cells #[.int .i64 t,.slice A old.length ca,.slice B new.length cb] 44)=W0:=⟨_,rfl⟩;have HS:=hI (hs.keep (w':=W0) (Same.of_below (by rw [←hW0];exact HB0.out) hS));have HO:=hI (ho.keep (w':=W0) (Same.of_below (by rw [←hW0];exact HB0.out) hS));have HN:=hI (hn.keep (w':=W0) (Same.of_below (by rw [←hW0];exact HB0.out) hS));have HCA:=hI hca;have HCB:=hI hcb;have hz0:W0.heap.size=w.heap.size+2:=(by rw [←hW0];simp);obtain⟨sb,hsb⟩:∃ sb,w.heap.size=sb:=⟨_,rfl⟩;have SB:=hI (show W0.heap[sb]?=some (.cells #[.int .i64 ver,.slice A0 tabs.length c0'] 28 (0,0)) by rw [←hW0,←hsb];exact(Below.heap_alloc _ _ _ (by simp)).trans (heap_alloc_new w _));have CB:=hI (show W0.heap[sb+1]?=some (.cells #[.int .i64 t,.slice A old.length ca,.slice B new.length cb] 44 (0,0)) by rw [←hW0,←hsb];simpa using heap_alloc_new (w.alloc (.cells #[.int .i64 ver,.slice A0 tabs.length c0'] 28)) (.cells #[.int .i64 t,.slice A old.length ca,.slice B new.length cb] 44));clear hs ho hca hn hcb;have hsw:w.heap.size≤W0.heap.size:=(by omega);have z0:W0.cell? ⟨w.heap.size,0,none⟩=some (.int .i64 ver):=(by rw [hsb];exact Zaa SB.out 0 _ rfl);have z1:W0.cell? ⟨w.heap.size,1,none⟩=some (.slice A0 tabs.length c0'):=(by rw [hsb];exact Zaa SB.out 1 _ rfl);have z2:W0.cell? ⟨w.heap.size+1,0,none⟩=some (.int .i64 t):=(by rw [hsb];exact Zaa CB.out 0 _ rfl);have z3:W0.cell? ⟨w.heap.size+1,1,none⟩=some (.slice A old.length ca):=(by rw [hsb];exact Zaa CB.out 1 _ rfl);have z4:W0.cell? ⟨w.heap.size+1,2,none⟩=some (.slice B new.length cb):=(by rw [hsb];exact Zaa CB.out 2 _ rfl);clear hsb;have HBW:=hI (show Below w.heap.size w W0 by rw [←hW0];exact HB0.out)
 by_cases h0:0<old.length
 · have hd:decide ((0:Int)<old.length)=true:=decide_eq_true (by omega);have hd':decide (0<old.length)=true:=decide_eq_true (by omega);have HK:=hI (show keyC ⟨ver,tabs⟩ ⟨t,old,new⟩=keyF ⟨ver,tabs⟩ t old by unfold keyC;rw [if_pos h0]);go_enter Tryz.func59,Tryz.ntmps59
   go_wp2_with fail
   refine(Zct A0 c0' ⟨ver,tabs⟩ t A ca old S W0 HS.out HO.out HCA.out (fun b hb=>by have:=hS b hb;omega)).mono ?_;intro e w1 hN;obtain⟨A',c',rfl,hA',hb1⟩:=NewR.low (w:=w) hN HBW.out;have H1:=hI hA';have HB1:=hI hb1;clear hN hA' hb1 z0 z1 z2 z3 z4
   go_wp2_with fail
   go_ret;rw [HK.out];exact⟨A',c',rfl,H1.out,HB1.out⟩
 · have hd:decide ((0:Int)<old.length)=false:=decide_eq_false (by omega);have hd':decide (0<old.length)=false:=decide_eq_false (by omega);have HK:=hI (show keyC ⟨ver,tabs⟩ ⟨t,old,new⟩=keyF ⟨ver,tabs⟩ t new by unfold keyC;rw [if_neg h0]);go_enter Tryz.func59,Tryz.ntmps59
   go_wp2_with fail
   refine(Zct A0 c0' ⟨ver,tabs⟩ t B cb new S W0 HS.out HN.out HCB.out (fun b hb=>by have:=hS b hb;omega)).mono ?_;intro e w1 hN;obtain⟨A',c',rfl,hA',hb1⟩:=NewR.low (w:=w) hN HBW.out;have H1:=hI hA';have HB1:=hI hb1;clear hN hA' hb1 z0 z1 z2 z3 z4
   go_wp2_with fail
   go_ret;rw [HK.out];exact⟨A',c',rfl,H1.out,HB1.out⟩
structure VBox (W0 w':World) (sb:Nat) (ver:Int) (A0:Option Addr) (n c0':Nat) (t:Int) (A:Option Addr) (m ca:Nat) (B:Option Addr) (k cb:Nat):Prop where
 bel:Below W0.heap.size W0 w'
 x0:w'.cell? ⟨sb,0,none⟩=some (.int .i64 ver)
 x1:w'.cell? ⟨sb,1,none⟩=some (.slice A0 n c0')
 x2:w'.cell? ⟨sb+1,0,none⟩=some (.int .i64 t)
 x3:w'.cell? ⟨sb+1,1,none⟩=some (.slice A m ca)
 x4:w'.cell? ⟨sb+1,2,none⟩=some (.slice B k cb)
theorem VBox.of {W0 w':World} {sb:Nat} {ver:Int} {A0:Option Addr} {n c0':Nat} {t:Int} {A:Option Addr} {m ca:Nat} {B:Option Addr} {k cb:Nat} (h1:W0.heap[sb]?=some (.cells #[.int .i64 ver,.slice A0 n c0'] 28 (0,0))) (h2:W0.heap[sb+1]?=some (.cells #[.int .i64 t,.slice A m ca,.slice B k cb] 44 (0,0))) (hb:Below W0.heap.size W0 w'):VBox W0 w' sb ver A0 n c0' t A m ca B k cb:=by
 have e1:=(hb.block sb (Zad h1)).trans h1;have e2:=(hb.block (sb+1) (Zad h2)).trans h2;exact⟨hb,Zaa e1 0 _ rfl,Zaa e1 1 _ rfl,Zaa e2 0 _ rfl,Zaa e2 1 _ rfl,Zaa e2 2 _ rfl⟩
theorem rvalidC_any (A0:Option Addr) (c0':Nat) (s:Sch) (m:Int) (ch:Chg) (A:Option Addr) (ca:Nat) (B:Option Addr) (cb:Nat) (S:Nat→Prop) (w:World) (hs:TabS w S A0 s.tabs) (ho:RowS w S A ch.old) (hca:ch.old.length≤ca) (hn:RowS w S B ch.new) (hcb:ch.new.length≤cb) (hS:∀ b,S b→b<w.heap.size) :
  Calls Tryz.prog 58 #[sAgg s.version A0 s.tabs.length c0',.int .i64 m,ZcK ch.table A ch.old.length ca B ch.new.length cb] w (ZaP (Zaq s m ch) w):=by
 obtain⟨ver,tabs⟩:=s;obtain⟨t,old,new⟩:=ch;simp only at hs ho hca hn hcb ⊢;have hol:=ho.len;have hnl:=hn.len;have hsl:=hs.len;have HB0:=hI (((Below.refl w.heap.size w).alloc nR (.cells #[.int .i64 ver,.slice A0 tabs.length c0'] 28)).alloc (by simp) (.cells #[.int .i64 t,.slice A old.length ca,.slice B new.length cb] 44));obtain⟨W0,hW0⟩:∃ W0,(w.alloc (.cells #[.int .i64 ver,.slice A0 tabs.length c0'] 28)).alloc (.cells #[.int .i64 t,.slice A old.length ca,.slice B new.length cb] 44)=W0:=⟨_,rfl⟩;have HS:=hI (hs.keep (w':=W0) (Same.of_below (by rw [←hW0];exact HB0.out) hS));have HO:=hI (ho.keep (w':=W0) (Same.of_below (by rw [←hW0];exact HB0.out) hS));have HN:=hI (hn.keep (w':=W0) (Same.of_below (by rw [←hW0];exact HB0.out) hS));have HCA:=hI hca;have HCB:=hI hcb;have hz0:W0.heap.size=w.heap.size+2:=(by rw [←hW0];simp);obtain⟨sb,hsb⟩:∃ sb,w.heap.size=sb:=⟨_,rfl⟩;have SB:=hI (show W0.heap[sb]?=some (.cells #[.int .i64 ver,.slice A0 tabs.length c0'] 28 (0,0)) by rw [←hW0,←hsb];exact(Below.heap_alloc _ _ _ (by simp)).trans (heap_alloc_new w _));have CB:=hI (show W0.heap[sb+1]?=some (.cells #[.int .i64 t,.slice A old.length ca,.slice B new.length cb] 44 (0,0)) by rw [←hW0,←hsb];simpa using heap_alloc_new (w.alloc (.cells #[.int .i64 ver,.slice A0 tabs.length c0'] 28)) (.cells #[.int .i64 t,.slice A old.length ca,.slice B new.length cb] 44));clear hs ho hca hn hcb;have hSW:∀ b,S b→b<W0.heap.size:=(fun b hb=>by have:=hS b hb;omega);have HBW:=hI (show ∀ w',Below W0.heap.size W0 w'→Below w.heap.size w w' from fun w' h=>(show Below w.heap.size w W0 by rw [←hW0];exact HB0.out).trans (h.mono (by omega)));have HVB:=hI (fun (w':World) (hb:Below W0.heap.size W0 w')=>VBox.of SB.out CB.out hb);have HIN:=hI (show (w.alloc (.cells #[.int .i64 ver,.slice A0 tabs.length c0'] 28)).alloc (.cells #[.int .i64 t,.slice A old.length ca,.slice B new.length cb] 44)=W0 from hW0);clear hW0;go_enter Tryz.func58,Tryz.ntmps58;rw [←hsb] at SB CB HVB;obtain⟨-,z0,z1,z2,z3,z4⟩:=HVB.out W0 (Below.refl _ _);have hWE:=HIN.out;have hsw:w.heap.size<W0.heap.size:=(by omega);have hsw1:w.heap.size+1<W0.heap.size:=(by omega);clear hsb
 by_cases ht0:t<0
 · have hd1:decide (t<0)=true:=decide_eq_true ht0;have HF:=hI (show Zaq ⟨ver,tabs⟩ m ⟨t,old,new⟩=false by unfold Zaq;rw [show hasN (Sch.tabs ⟨ver,tabs⟩).length (Chg.table ⟨t,old,new⟩)=false by unfold hasN;simp;omega];rfl)
   go_wp2_with fail
   go_ret;exact⟨by rw [HF.out];rfl,HBW.out _ (Below.refl _ _)⟩
 have hd1:decide (t<0)=false:=decide_eq_false ht0;obtain⟨tt,rfl⟩:=Int.eq_ofNat_of_zero_le (show 0≤t by omega)
 by_cases ht1:(tabs.length:Int)≤(tt:Int)
 · have hd2:decide ((tabs.length:Int)≤(tt:Int))=true:=decide_eq_true ht1;have hd2':decide (tabs.length≤tt)=true:=decide_eq_true (by omega);have HF:=hI (show Zaq ⟨ver,tabs⟩ m ⟨tt,old,new⟩=false by unfold Zaq;rw [show hasN (Sch.tabs ⟨ver,tabs⟩).length (Chg.table ⟨tt,old,new⟩)=false by unfold hasN;simp;omega];rfl)
   go_wp2_with fail
   go_ret;exact⟨by rw [HF.out];rfl,HBW.out _ (Below.refl _ _)⟩
 have hd2:decide ((tabs.length:Int)≤(tt:Int))=false:=decide_eq_false ht1;have hd2':decide (tabs.length≤tt)=false:=decide_eq_false (by omega);have HHN:=hI (show hasN (Sch.tabs ⟨ver,tabs⟩).length (tt:Int)=true by unfold hasN;simp;omega)
 by_cases ho0:old.length=0
 · have hd5:((old.length:Int) == 0)=true:=(by simp [ho0]);have hd6:decide ((0:Int)<old.length)=false:=decide_eq_false (by omega);have hd6':decide (0<old.length)=false:=decide_eq_false (by omega);have hd5':(old.length == 0)=true:=by simp [ho0]
   by_cases hn0:new.length=0
   · have hd3:((new.length:Int) == 0)=true:=(by simp [hn0]);have HF:=hI (show Zaq ⟨ver,tabs⟩ m ⟨tt,old,new⟩=false by unfold Zaq;simp [ho0,hn0]);clear ho0 hn0
     go_wp2_with fail
     go_ret;exact⟨by rw [HF.out];rfl,HBW.out _ (Below.refl _ _)⟩
   have hd3:((new.length:Int) == 0)=false:=beq_false_of_ne (by omega);have hd4:decide ((0:Int)<new.length)=true:=decide_eq_true (by omega)
   have HF:=hI (show Zaq ⟨ver,tabs⟩ m ⟨tt,old,new⟩=Zaw ⟨ver,tabs⟩ tt new m by
    unfold Zaq;rw [show hasN (Sch.tabs ⟨ver,tabs⟩).length (Chg.table ⟨tt,old,new⟩)=true from HHN.out];simp [hn0,ho0])
   clear ho0
   go_wp2_with fail
   clear hWE;refine(ZfD A0 c0' ⟨ver,tabs⟩ tt m B cb new S W0 HS.out HN.out hSW).mono ?_;rintro e w1 ⟨rfl,hb1⟩;obtain⟨-,y0,y1,y2,y3,y4⟩:=HVB.out w1 hb1;have HB1:=hI hb1;have hs1:=hb1.size;have hsv:w.heap.size<w1.heap.size:=(by omega);have hsv1:w.heap.size+1<w1.heap.size:=(by omega);clear hb1 z0 z1 z2 z3 z4 hsw hsw1;obtain⟨fv,hfv⟩:∃ fv,Zaw ⟨ver,tabs⟩ tt new m=fv:=⟨_,rfl⟩;rw [hfv] at HF ⊢;clear hfv;cases fv
   · go_wp2_with fail
     go_ret;exact⟨by rw [HF.out];rfl,HBW.out _ HB1.out⟩
   · go_wp2_with fail
     go_quiet (fail)
     go_wp2_with fail
     go_ret;exact⟨by rw [HF.out];rfl,HBW.out _ (Zag HB1.out _)⟩
 have hd5:((old.length:Int) == 0)=false:=beq_false_of_ne (by omega);have hd6:decide ((0:Int)<old.length)=true:=decide_eq_true (by omega)
 go_wp2_with fail
 clear hWE;refine(ZfD A0 c0' ⟨ver,tabs⟩ tt m A ca old S W0 HS.out HO.out hSW).mono ?_;rintro e w1 ⟨rfl,hb1⟩;obtain⟨-,y0,y1,y2,y3,y4⟩:=HVB.out w1 hb1;have HB1:=hI hb1;have hs1:=hb1.size;have hsv:w.heap.size<w1.heap.size:=(by omega);have hsv1:w.heap.size+1<w1.heap.size:=(by omega);have HSM1:=hI (show Same S W0 w1 from Same.of_below hb1 hSW);clear hb1 z0 z1 z2 z3 z4 hsw hsw1
 have HF0:=hI (show Zaq ⟨ver,tabs⟩ m ⟨tt,old,new⟩=(Zaw ⟨ver,tabs⟩ tt old m&&(decide (new.length=0)||Zaw ⟨ver,tabs⟩ tt new m)&&(decide (new.length=0)||(cmpR (keyF ⟨ver,tabs⟩ tt old) (keyF ⟨ver,tabs⟩ tt new) == 0))) by
  unfold Zaq;rw [show hasN (Sch.tabs ⟨ver,tabs⟩).length (Chg.table ⟨tt,old,new⟩)=true from HHN.out];simp [ho0])
 obtain⟨fo,hfo⟩:∃ fo,Zaw ⟨ver,tabs⟩ tt old m=fo:=⟨_,rfl⟩;rw [hfo] at HF0 ⊢;clear hfo;cases fo
 · go_wp2_with fail
   go_ret;exact⟨by rw [HF0.out];rfl,HBW.out _ HB1.out⟩
 by_cases hn0:new.length=0
 · have hd3:((new.length:Int) == 0)=true:=(by simp [hn0]);have hd4:decide ((0:Int)<new.length)=false:=decide_eq_false (by omega);have hd4':decide (0<new.length)=false:=decide_eq_false (by omega);have HF:=hI (show Zaq ⟨ver,tabs⟩ m ⟨tt,old,new⟩=true by rw [HF0.out];simp [hn0]);clear hn0
   go_wp2_with fail
   go_quiet (fail)
   go_wp2_with fail
   go_ret;exact⟨by rw [HF.out];rfl,HBW.out _ (Zag HB1.out _)⟩
 have hd3:((new.length:Int) == 0)=false:=beq_false_of_ne (by omega);have hd4:decide ((0:Int)<new.length)=true:=decide_eq_true (by omega);have HF1:=hI (show Zaq ⟨ver,tabs⟩ m ⟨tt,old,new⟩=(Zaw ⟨ver,tabs⟩ tt new m&&(cmpR (keyF ⟨ver,tabs⟩ tt old) (keyF ⟨ver,tabs⟩ tt new) == 0)) by rw [HF0.out];simp [hn0]);clear HF0
 go_wp2_with fail
 refine(ZfD A0 c0' ⟨ver,tabs⟩ tt m B cb new S w1 (HS.out.keep HSM1.out) (HN.out.keep HSM1.out) (fun b hb=>by have:=hSW b hb;omega)).mono ?_;rintro e w2 ⟨rfl,hb2⟩;have HB2:=hI (HB1.out.trans (hb2.mono hs1));obtain⟨-,u0,u1,u2,u3,u4⟩:=HVB.out w2 HB2.out;have hs2:=hb2.size;have hsx:w.heap.size<w2.heap.size:=(by omega);have hsx1:w.heap.size+1<w2.heap.size:=(by omega);have HSM2:=hI (show Same S W0 w2 from Same.of_below HB2.out hSW);clear hb2 y0 y1 y2 y3 y4 hsv hsv1;obtain⟨fn,hfn⟩:∃ fn,Zaw ⟨ver,tabs⟩ tt new m=fn:=⟨_,rfl⟩;rw [hfn] at HF1 ⊢;clear hfn;cases fn
 · go_wp2_with fail
   go_ret;exact⟨by rw [HF1.out];rfl,HBW.out _ HB2.out⟩
 go_wp2_with fail
 refine tS (fun w'=>w'.cell? ⟨w.heap.size,0,none⟩=some (.int .i64 ver)∧w'.cell? ⟨w.heap.size,1,none⟩=some (.slice A0 tabs.length c0')∧w'.cell? ⟨w.heap.size+1,0,none⟩=some (.int .i64 tt)∧w'.cell? ⟨w.heap.size+1,1,none⟩=some (.slice A old.length ca)∧w'.cell? ⟨w.heap.size+1,2,none⟩=some (.slice B new.length cb)) 27 27 fun Q' HQ HP=>?_;refine tX 0 60 1 61 2 62 3 63 (bA 27 15) HP.out ⟨u0,u1,u2,u3,u4⟩ ?_;refine tX 4 64 5 65 6 66 7 67 (bA 27 255) HP.out ⟨u0,u1,u2,u3,u4⟩ ?_;refine tX 8 68 9 69 10 70 11 71 (bA 27 4095) HP.out ⟨u0,u1,u2,u3,u4⟩ ?_;refine tX 12 72 13 73 14 74 15 75 (bA 27 65535) HP.out ⟨u0,u1,u2,u3,u4⟩ ?_;refine tX 17 77 18 78 19 79 20 80 (bA 27 2031615) HP.out ⟨u0,u1,u2,u3,u4⟩ ?_;refine tJ 21 81 (bA 27 4128767) HP.out ⟨u0,u1,u2,u3,u4⟩ ?_;refine tQ 16 (some 76) (bA 27 4194303) fun K HK=>?_;go_simp;refine(Zct A0 c0' ⟨ver,tabs⟩ tt A ca old S w2.drew (HS.out.keep (w':=w2.drew) HSM2.out) (HO.out.keep (w':=w2.drew) HSM2.out) HCA.out (fun b hb=>by have:=hSW b hb;show b<w2.heap.size;omega)).mono ?_;rintro e w3 ⟨KA,kc,rfl,hka,hb30⟩;have hb3:Below w2.heap.size w2 w3:=(Below.refl _ w2).drew.trans hb30;have hs3:=hb3.size;have HKA:=hI (ZaB hka (ZbY (s:=⟨ver,tabs⟩) (t:=(tt:Int)) HO.out.ok) nR).2;have u0:=cJ hb3 u0;have u1:=cJ hb3 u1;have u2:=cJ hb3 u2;have u3:=cJ hb3 u3;have u4:=cJ hb3 u4;clear hka hb30;refine HK.out _ _ (fun _=>⟨u0,u1,u2,u3,u4⟩) ?_;clear HK K
 try simp only [Act.put,psA,psB,psC]
 refine tQ 22 (some 82) (bA 27 8388607) fun K HK=>?_;go_simp;refine(Zct A0 c0' ⟨ver,tabs⟩ tt B cb new S w3 (HS.out.keep (fun b hb=>(hb3.block b (by have:=hSW b hb;omega)).trans (HSM2.out b hb))) (HN.out.keep (fun b hb=>(hb3.block b (by have:=hSW b hb;omega)).trans (HSM2.out b hb))) HCB.out (fun b hb=>by have:=hSW b hb;omega)).mono ?_;rintro e w4 ⟨KB,kd,rfl,hkb,hb40⟩;have hb4:Below w2.heap.size w2 w4:=hb3.trans (hb40.mono hs3);have hs4:=hb40.size;have HKB:=hI (ZaB hkb (ZbY (s:=⟨ver,tabs⟩) (t:=(tt:Int)) HN.out.ok) nR).2;have HKA:=hI ((show RowS w3 (fun b=>w2.heap.size≤b∧b<w3.heap.size) KA (keyF ⟨ver,tabs⟩ tt old) from HKA.out).keep (w':=w4) (fun b hb=>hb40.block b hb.2));have u0:=cJ hb40 u0;have u1:=cJ hb40 u1;have u2:=cJ hb40 u2;have u3:=cJ hb40 u3;have u4:=cJ hb40 u4;clear hkb hb40;refine HK.out _ _ (fun _=>⟨u0,u1,u2,u3,u4⟩) ?_;clear HK K
 try simp only [Act.put,psA,psB,psC]
 refine tQ 23 (some 83) (bA 27 16777215) fun K HK=>?_;go_simp;refine(Zau KA KB kc kd (keyF ⟨ver,tabs⟩ tt old) (keyF ⟨ver,tabs⟩ tt new) (fun b=>b<w4.heap.size) w4 (HKA.out.more (fun b hb=>by have:=hb.2;show b<w4.heap.size;omega)) (HKB.out.more (fun b hb=>hb.2)) (fun b hb=>hb)).mono ?_;rintro e w5 ⟨rfl,hb50⟩;have hb5:Below w2.heap.size w2 w5:=hb4.trans (hb50.mono (by omega));have hs5:=hb50.size;have u0:=cJ hb50 u0;have u1:=cJ hb50 u1;have u2:=cJ hb50 u2;have u3:=cJ hb50 u3;have u4:=cJ hb50 u4;clear hb50;refine HK.out _ _ (fun _=>⟨u0,u1,u2,u3,u4⟩) ?_;clear HK K
 try simp only [Act.put,psA,psB,psC]
 refine tW 24 84 25 85 (bA 27 67108863) HP.out ⟨u0,u1,u2,u3,u4⟩ ?_;refine tJ 26 6 (bA 27 134217727) HP.out ⟨u0,u1,u2,u3,u4⟩ ?_;refine tE HQ ?_;clear HQ HP Q';have HF:=hI (show Zaq ⟨ver,tabs⟩ m ⟨tt,old,new⟩=(cmpR (keyF ⟨ver,tabs⟩ tt old) (keyF ⟨ver,tabs⟩ tt new) == 0) by rw [HF1.out];rfl);generalize cmpR (keyF ⟨ver,tabs⟩ tt old) (keyF ⟨ver,tabs⟩ tt new)=cv at HF ⊢
 go_wp2_with fail
 go_ret;exact⟨by rw [HF.out];rfl,HBW.out _ (HB2.out.trans (hb5.mono (by omega)))⟩
end Go.Proofs.YtkpjjfhfbpfjpaaGreat
