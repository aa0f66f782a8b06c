import Derived.Test.YtkpjjfhfbpfjpaaGreatKe790cb
import Derived.Test.YtkpjjfhfbpfjpaaGreatKe65b81
import Derived.Test.YtkpjjfhfbpfjpaaGreatKa9f605
import Derived.Test.YtkpjjfhfbpfjpaaGreatK5ce3ae
import Derived.Test.YtkpjjfhfbpfjpaaGreatK4c8cb1
import Derived.Test.YtkpjjfhfbpfjpaaGreatK2fd9fb
import Derived.Test.YtkpjjfhfbpfjpaaGreatKfde3e9
import Derived.Test.YtkpjjfhfbpfjpaaGreatKb26957
import Derived.Test.YtkpjjfhfbpfjpaaGreatKbd4fc8
import Derived.Test.YtkpjjfhfbpfjpaaGreatK70ce45
set_option linter.unusedVariables false
set_option linter.unusedSimpArgs false
set_option maxRecDepth 100000
set_option maxHeartbeats 8000000
namespace Go.Proofs.YtkpjjfhfbpfjpaaGreat
open Go.RowKit
theorem ZdJ (A0:Option Addr) (c0':Nat) (s:Sch) (m:Int) (A:Option Addr) (ca:Nat) (st:St) (S:Nat→Prop) (w:World) (hs:TabS w S A0 s.tabs) (hst:StS w S A st) (hS:∀ b,S b→b<w.heap.size) :
  Calls Tryz.prog 28 #[sAgg s.version A0 s.tabs.length c0',.int .i64 m,ZbE A st.length ca] w (ZbH (ZaE (schF pcF s) s m st) w):=by
 obtain⟨ver,tabs⟩:=s;simp only at hs ⊢;obtain⟨er,her⟩:∃ er,schF pcF ⟨ver,tabs⟩=er:=⟨_,rfl⟩;have HER:=hI her;rw [her];clear her;have HS:=hI hs;have HST:=hI hst;have hsl:=hs.len;have hstl:=hst.len;clear hs hst;have HB0:=hI (((Below.refl w.heap.size w).alloc nR (.cells #[.int .i64 ver,.slice A0 tabs.length c0'] 28)).alloc (by simp) (.cells #[.slice A st.length ca] 33));go_enter Tryz.func28,Tryz.ntmps28
 go_wp2_with fail
 obtain⟨W0,hW0⟩:∃ W0,(w.alloc (.cells #[.int .i64 ver,.slice A0 tabs.length c0'] 28)).alloc (.cells #[.slice A st.length ca] 33)=W0:=⟨_,rfl⟩;obtain⟨sb,hsb⟩:∃ sb,w.heap.size=sb:=⟨_,rfl⟩;have SB0:=hI (show W0.heap[sb]?=some (.cells #[.int .i64 ver,.slice A0 tabs.length c0'] 28 (0,0)) by rw [←hW0,←hsb];exact(Below.heap_alloc _ _ _ (by simp)).trans (heap_alloc_new w _));have TB0:=hI (show W0.heap[sb+1]?=some (.cells #[.slice A st.length ca] 33 (0,0)) by rw [←hW0,←hsb];simpa using heap_alloc_new (w.alloc (.cells #[.int .i64 ver,.slice A0 tabs.length c0'] 28)) (.cells #[.slice A st.length ca] 33));have hz0:W0.heap.size=sb+2:=(by rw [←hW0,←hsb];simp);rw [hW0] at HB0;rw [hW0];rw [hsb] at HB0
 try rw [hsb]
 have HSW:=hI (fun b hb=>by rw [←hsb];exact hS b hb:∀ b,S b→b<sb);have HBB:=hI (show ∀ w',Below sb w w'→Below w.heap.size w w' from fun w' h=>by rw [hsb];exact h);clear hW0 hS hsb;refine(ZdG A0 c0' ⟨ver,tabs⟩ S W0 (HS.out.keep (Same.of_below HB0.out HSW.out)) (fun b hb=>by have:=HSW.out b hb;omega)).mono ?_;rintro e w1 ⟨rfl,hb1⟩;rw [HER.out];have HB1:=hI (hb1.mono (show sb+2≤W0.heap.size by omega));clear hb1
 by_cases he:er=0
 · subst he
   by_cases hm1:m<1
   · have hd1:decide (m<1)=true:=decide_eq_true hm1;have HF:=hI (show ZaE 0 ⟨ver,tabs⟩ m st=1 by unfold ZaE Zcw;rw [show Zbu m=false by simp [Zbu];omega];rfl)
     go_wp2_with fail
     go_ret;exact⟨by rw [HF.out];rfl,HBB.out _ (HB0.out.trans (HB1.out.mono (by omega)))⟩
   have hd1:decide (m<1)=false:=decide_eq_false hm1
   by_cases hm3:3<m
   · have hd2:decide (3<m)=true:=decide_eq_true hm3;have HF:=hI (show ZaE 0 ⟨ver,tabs⟩ m st=1 by unfold ZaE Zcw;rw [show Zbu m=false by simp [Zbu];omega];rfl)
     go_wp2_with fail
     go_ret;exact⟨by rw [HF.out];rfl,HBB.out _ (HB0.out.trans (HB1.out.mono (by omega)))⟩
   have hd2:decide (3<m)=false:=decide_eq_false hm3;have HCF:=hI (show ZaE 0 ⟨ver,tabs⟩ m st=if 512<Zak st then 2 else if st.length≠tabs.length then 80 else if stOk ⟨ver,tabs⟩ m 0 st then 0 else 80 by unfold ZaE Zcw;rw [show Zbu m=true by simp [Zbu];omega];rfl);have u1:w1.cell? ⟨sb+1,0,none⟩=some (.slice A st.length ca):=cJ HB1.out (Zaa TB0.out 0 _ rfl)
   go_wp2_with fail
   clear hd1 hd2
   go_loopw [8,29] (fun n i wr=>∃ k:Nat,k≤st.length∧i=.int .i64 k∧n=.int .i64 (Zak (st.take k))∧Zak (st.take k)≤512∧wr=w1) (fun _ i _=>st.length - (intOf i).toNat)
   case atStart=>exact⟨0,Nat.zero_le _,rfl,by simp [Zak],by simp [Zak],rfl⟩
   case round =>
    obtain⟨k,hk,rfl,rfl,hc,rfl⟩:=hrel;have HC:=hI hc
    by_cases hkl:k<st.length
    · have hki:(k:Int)<st.length:=(by omega);obtain⟨b2,o2,rfl,hb2,A',c',d1,d2,d3⟩:=(HST.out.keep (Same.of_below (HB0.out.trans (HB1.out.mono (by omega))) HSW.out)).at_ hkl;have hl2:b2<wr.heap.size:=(by have:=HSW.out b2 hb2;have:=HB1.out.size;omega);have HT:=hI (Zfj st k hkl);have HLE:=hI (Zds st (k+1));have hrl:=d3.len;clear d2 d3;generalize st.getD k []=rows at d1 HT hrl;generalize hcn:Zak (st.take k)=cn at HT hc
      by_cases hlim:512 - cn<rows.length
      · have hd1:decide ((512:Int) - cn<rows.length)=true:=decide_eq_true (by omega);have hd1':decide (IntKind.i64.wrap ((512:Int) - cn)<rows.length)=true:=(by rw [show IntKind.i64.wrap ((512:Int) - cn)=512 - cn from IntWalk.i64_in _ (by omega)];exact hd1);have HF:=hI (show ZaE 0 ⟨ver,tabs⟩ m st=2 by rw [HCF.out,if_pos (by have:=HLE.out;have:=HT.out;omega)])
        go_wp2_with fail
        go_ret;exact⟨by rw [HF.out];rfl,HBB.out _ (HB0.out.trans (HB1.out.mono (by omega)))⟩
      · have hd1:decide ((512:Int) - cn<rows.length)=false:=decide_eq_false (by omega);have hd1':decide (IntKind.i64.wrap ((512:Int) - cn)<rows.length)=false:=by rw [show IntKind.i64.wrap ((512:Int) - cn)=512 - cn from IntWalk.i64_in _ (by omega)];exact hd1
        go_wp2_with fail
        go_roundw
        case rel=>exact⟨k+1,by omega,by go_num,by rw [HT.out];go_num,by rw [HT.out];omega,by first | rfl | trivial⟩
        case measure=>simp [intOf];omega
    have hki:¬ (k:Int)<st.length:=(by omega)
    have HCF2:=hI (show ZaE 0 ⟨ver,tabs⟩ m st=if st.length≠tabs.length then 80 else if stOk ⟨ver,tabs⟩ m 0 st then 0 else 80 by
     rw [HCF.out,if_neg];rw [List.take_of_length_le (by omega)] at hc;omega)
    clear HCF hc HC;have x1:wr.cell? ⟨sb,1,none⟩=some (.slice A0 tabs.length c0'):=cJ HB1.out (Zaa SB0.out 1 _ rfl)
    by_cases hlen:st.length=tabs.length
    · have hd2:((st.length:Int) != tabs.length)=false:=(by simp [hlen]);have HCF3:=hI (show ZaE 0 ⟨ver,tabs⟩ m st=if stOk ⟨ver,tabs⟩ m 0 st then 0 else 80 by rw [HCF2.out,if_neg (by simpa using hlen)]);clear HCF2;have HLEN:=hI hlen;clear hlen
      go_wp2_with fail
      clear hd2 x1 u1;obtain⟨w2,rfl⟩:∃ w2:World,w2=wr:=⟨_,rfl⟩
      go_loopw [53] (fun i wr=>∃ k:Nat,k≤st.length∧i=.int .i64 k∧stOk ⟨ver,tabs⟩ m 0 st=stOk ⟨ver,tabs⟩ m k (st.drop k)∧Below (sb+2) W0 wr) (fun i _=>st.length - (intOf i).toNat)
      case atStart=>exact⟨0,Nat.zero_le _,rfl,by simp,HB1.out⟩
      case round =>
       clear HB1 hkl hki;obtain⟨k,hk,rfl,hch,hbel⟩:=hrel;have HT:=hI hch;have HB:=hI hbel;have HBW:=hI (HB0.out.trans (hbel.mono (by omega)));have hzr:=hbel.size;clear hch hbel
       by_cases hkl:k<st.length
       · have hki:(k:Int)<st.length:=(by omega);obtain⟨b2,o2,rfl,hb2,A',c',d1,d2,d3⟩:=(HST.out.keep (Same.of_below HBW.out HSW.out)).at_ hkl;have hl2:b2<wr.heap.size:=(by have:=HSW.out b2 hb2;omega);have HSTEP:=hI (Zgk ⟨ver,tabs⟩ m st k hkl);have HRS:=hI d3;have hrl:=d3.len;have HD2:=hI d2;clear d2 d3;generalize st.getD k []=rows at d1 HSTEP HRS HD2 hrl
         go_wp2_with fail
         clear d1;obtain⟨w3,rfl⟩:∃ w3:World,w3=wr:=⟨_,rfl⟩
         go_loopw [60] (fun i wq=>∃ j:Nat,j≤rows.length∧i=.int .i64 j∧ZaX ⟨ver,tabs⟩ k m none rows=ZaX ⟨ver,tabs⟩ k m (Zcc rows j) (rows.drop j)∧Below (sb+2) W0 wq∧Below w3.heap.size w3 wq) (fun i _=>rows.length - (intOf i).toNat)
         case atStart=>exact⟨0,Nat.zero_le _,rfl,by simp [Zcc],HB.out,Below.refl _ _⟩
         case round =>
          clear HB;obtain⟨j,hj,rfl,hch,hbel,hbq⟩:=hrel;have HT2:=hI hch;have HB:=hI hbel;have HBQ:=hI hbq;have hsq:=hbq.size;have HBW2:=hI (HB0.out.trans (hbel.mono (by omega)));have SB:=hI ((hbel.block sb (by omega)).trans SB0.out);have hsr:sb<wr.heap.size:=(by omega);have y0:wr.cell? ⟨sb,0,none⟩=some (.int .i64 ver):=Zaa SB.out 0 _ rfl;have y1:wr.cell? ⟨sb,1,none⟩=some (.slice A0 tabs.length c0'):=Zaa SB.out 1 _ rfl;clear hch hbel hbq
          by_cases hjl:j<rows.length
          · have hji:(j:Int)<rows.length:=(by omega);have HRQ:=hI (HRS.out.keep (w':=wr) (fun b hb=>HBQ.out.block b (by have:=HSW.out b hb;omega)));obtain⟨b5,o5,rfl,hb5,A5,c5,f1,f2,f3⟩:=HRQ.out.at_ hjl;have hl5:b5<wr.heap.size:=(by have:=HSW.out b5 hb5;omega);have HSTEP2:=hI (ZeT ⟨ver,tabs⟩ k m rows j hjl);have HROW:=hI f3;have HC5:=hI f2;have hrw:=f3.len;clear f2 f3;have HTS:=hI (HS.out.keep (Same.of_below HBW2.out HSW.out))
            by_cases hj0:j=0
            · have HSTEP3:=hI (show ZaX ⟨ver,tabs⟩ k m none rows=(ZaC ⟨ver,tabs⟩ k (rows.getD j []) m&&ZaX ⟨ver,tabs⟩ k m (Zcc rows (j+1)) (rows.drop (j+1))) by rw [HT2.out,HSTEP2.out];subst hj0;simp [Zcc]);have hd3:decide ((0:Int)<(j:Int))=false:=decide_eq_false (by omega);have hd4:¬ 0<j:=(by omega);clear HSTEP2 HT2 hj0;generalize rows.getD j []=row at f1 HSTEP3 HROW HC5 hrw
              go_wp2_with fail
              refine(Zgr A0 c0' ⟨ver,tabs⟩ k m A5 c5 row S wr HTS.out HROW.out (fun b hb=>by have:=HSW.out b hb;omega)).mono ?_;rintro e w4 ⟨rfl,hb4⟩;have HB4:=hI (HB.out.trans (hb4.mono (by omega)));have HBQ4:=hI (HBQ.out.trans (hb4.mono (by omega)));clear hb4 y0 y1 f1
              by_cases hf:ZaC ⟨ver,tabs⟩ k row m=true
              · rw [hf] at HSTEP3 ⊢;clear hf
                go_wp2_with fail
                go_quiet (fail)
                go_wp2_with fail
                go_roundw
                case rel=>exact⟨j+1,by omega,by go_num,by rw [HSTEP3.out];simp,Zag HB4.out _,Zag HBQ4.out _⟩
                case measure=>simp [intOf];omega
              · have hf':ZaC ⟨ver,tabs⟩ k row m=false:=(by simpa using hf);rw [hf'] at HSTEP3 ⊢;clear hf hf';have HF:=hI (show ZaE 0 ⟨ver,tabs⟩ m st=80 by rw [HCF3.out,HT.out,HSTEP.out,HSTEP3.out];simp)
                go_wp2_with fail
                go_ret;exact⟨by rw [HF.out];rfl,HBB.out _ (HB0.out.trans (HB4.out.mono (by omega)))⟩
            · obtain⟨i,rfl⟩:∃ i,j=i+1:=⟨j - 1,by omega⟩;obtain⟨b6,o6,e6,hb6,A6,c6,g1,g2,g3⟩:=HRQ.out.at_ (show i<rows.length by omega);injection e6 with e6;injection e6 with e61 e62;subst e61 e62;have HPREV:=hI g3;have HC6:=hI g2;have hrw6:=g3.len;have HSTEP3:=hI (show ZaX ⟨ver,tabs⟩ k m none rows=(ZaC ⟨ver,tabs⟩ k (rows.getD (i+1) []) m&&decide (cmpR (keyF ⟨ver,tabs⟩ k (rows.getD i [])) (keyF ⟨ver,tabs⟩ k (rows.getD (i+1) []))<0)&&ZaX ⟨ver,tabs⟩ k m (Zcc rows (i+1+1)) (rows.drop (i+1+1))) by rw [HT2.out,HSTEP2.out];rfl);clear g2 g3 hj0 HSTEP2 HT2;generalize rows.getD (i+1) []=row at f1 HSTEP3 HROW HC5 hrw;generalize rows.getD i []=prev at g1 HSTEP3 HPREV HC6 hrw6
              go_wp2_with fail
              refine(Zgr A0 c0' ⟨ver,tabs⟩ k m A5 c5 row S wr HTS.out HROW.out (fun b hb=>by have:=HSW.out b hb;omega)).mono ?_;rintro e w4 ⟨rfl,hb4⟩;have HB4:=hI (HB.out.trans (hb4.mono (by omega)));have HBQ4:=hI (HBQ.out.trans (hb4.mono (by omega)));have HX4:=hI hb4;have SB:=hI ((hb4.block sb hsr).trans SB.out);have z2:w4.cell? ⟨b5,o5+i,none⟩=some (.slice A6 prev.length c6):=cQ hb4 hl5 g1;have hs4:wr.heap.size≤w4.heap.size:=hb4.size;clear hb4 f1 g1 y0 y1
              by_cases hf:ZaC ⟨ver,tabs⟩ k row m=true
              · rw [hf] at HSTEP3 ⊢;clear hf
                go_wp2_with fail
                have q1:IntKind.i64.wrap ((i:Int)+1 - 1)=i:=(by rw [show ((i:Int)+1 - 1)=i by omega];exact IntWalk.i64_in _ (by omega));have q5:IntKind.i64.wrap (i:Int)=i:=IntWalk.i64_in _ (by omega);have q2:(0:Int)≤i:=(by omega);have q3:(i:Int)<rows.length:=(by omega);have q4:(i:Int)≤rows.length:=(by omega);have q6:(0:Int)<(i:Int)+1:=(by omega);have q7:decide ((0:Int)<(i:Int)+1)=true:=decide_eq_true q6;have HTS4:=hI (HTS.out.keep (Same.of_below HX4.out (fun b hb=>by have:=HSW.out b hb;omega)));have HROW4:=hI (HROW.out.keep (w':=w4) (Same.of_below HX4.out (fun b hb=>by have:=HSW.out b hb;omega)));have HPREV4:=hI (HPREV.out.keep (w':=w4) (Same.of_below HX4.out (fun b hb=>by have:=HSW.out b hb;omega)));refine tS (fun w'=>w'.heap[sb]?=some (.cells #[.int .i64 ver,.slice A0 tabs.length c0'] 28 (0,0))∧w'.cell? ⟨b5,o5+i,none⟩=some (.slice A6 prev.length c6)) 18 18 fun Q' HQ HP=>?_;refine anyT_take (i:=0) (oi:=⟨some 71,_,_,_,_,_⟩) (v:=.int .i64 ((i:Int)+1)) (L':=(bA 18 1)) rfl rfl (by kernel_rfl) (by kernel_rfl) (by kernel_rfl) (by kernel_rfl) (by kernel_rfl) HP.out (Or.inl ⟨by rfl,?_⟩) ⟨SB.out,z2⟩ ?_
                · intro w' hSw;go_simp
                  (try with_reducible rfl)
                simp only [psA,psB,psC];refine anyT_take (i:=1) (oi:=⟨some 72,_,_,_,_,_⟩) (v:=.bool true) (L':=(bA 18 3)) rfl rfl (by kernel_rfl) (by kernel_rfl) (by kernel_rfl) (by kernel_rfl) (by kernel_rfl) HP.out (Or.inl ⟨by rfl,?_⟩) ⟨SB.out,z2⟩ ?_
                · intro w' hSw;go_simp
                  (try simp)
                simp only [psA,psB,psC];refine tJ 2 73 (bA 18 7) HP.out ⟨SB.out,z2⟩ ?_;refine anyT_take (i:=3) (oi:=⟨some 74,_,_,_,_,_⟩) (v:=.agg #[.int .i64 ver,.slice A0 tabs.length c0']) (L':=(bA 18 15)) rfl rfl (by kernel_rfl) (by kernel_rfl) (by kernel_rfl) (by kernel_rfl) (by kernel_rfl) HP.out (Or.inl ⟨by rfl,?_⟩) ⟨SB.out,z2⟩ ?_
                · intro w' hSw;have x0:=Zaa hSw.1 0 _ rfl;have x1:=Zaa hSw.1 1 _ rfl;go_simp
                  (try with_reducible rfl)
                simp only [psA,psB,psC];refine tW 4 75 5 76 (bA 18 63) HP.out ⟨SB.out,z2⟩ ?_;refine anyT_take (i:=6) (oi:=⟨some 77,_,_,_,_,_⟩) (v:=.int .i64 ((i:Int)+1)) (L':=(bA 18 127)) rfl rfl (by kernel_rfl) (by kernel_rfl) (by kernel_rfl) (by kernel_rfl) (by kernel_rfl) HP.out (Or.inl ⟨by rfl,?_⟩) ⟨SB.out,z2⟩ ?_
                · intro w' hSw;go_simp
                  (try with_reducible rfl)
                simp only [psA,psB,psC];refine anyT_take (i:=7) (oi:=⟨some 78,_,_,_,_,_⟩) (v:=.int .i64 (i:Int)) (L':=(bA 18 255)) rfl rfl (by kernel_rfl) (by kernel_rfl) (by kernel_rfl) (by kernel_rfl) (by kernel_rfl) HP.out (Or.inl ⟨by rfl,?_⟩) ⟨SB.out,z2⟩ ?_
                · intro w' hSw;go_simp
                  (try simp [q1])
                simp only [psA,psB,psC];refine tW 8 79 9 80 (bA 18 1023) HP.out ⟨SB.out,z2⟩ ?_;refine anyT_take (i:=11) (oi:=⟨some 82,_,_,_,_,_⟩) (v:=.agg #[.int .i64 ver,.slice A0 tabs.length c0']) (L':=(bA 18 3071)) rfl rfl (by kernel_rfl) (by kernel_rfl) (by kernel_rfl) (by kernel_rfl) (by kernel_rfl) HP.out (Or.inl ⟨by rfl,?_⟩) ⟨SB.out,z2⟩ ?_
                · intro w' hSw;have x0:=Zaa hSw.1 0 _ rfl;have x1:=Zaa hSw.1 1 _ rfl;go_simp
                  (try with_reducible rfl)
                simp only [psA,psB,psC];refine tW 12 83 13 84 (bA 18 15359) HP.out ⟨SB.out,z2⟩ ?_;refine tQ 10 (some 81) (bA 18 16383) fun K HK=>?_;go_simp;refine(ZeI A0 c0' ⟨ver,tabs⟩ k A6 c6 prev S w4.drew (HTS4.out.keep (w':=w4.drew) (fun _ _=>rfl)) (HPREV4.out.keep (w':=w4.drew) (fun _ _=>rfl)) HC6.out (fun b hb=>by have:=HSW.out b hb;show b<w4.heap.size;omega)).mono ?_;rintro e w5 ⟨A7,c7,rfl,h7,hb50⟩;have hb5':Below w4.heap.size w4 w5:=(Below.refl _ w4).drew.trans hb50;have H7:=hI (Zbo h7 (ZeU (s:=⟨ver,tabs⟩) (t:=k) HPREV4.out.ok) nR).2;have hz5:=hb5'.size;have SB:=hI ((hb5'.block sb (by omega)).trans SB.out);have z2:=cJ hb5' z2;clear hb50 h7;refine HK.out _ _ (fun _=>⟨SB.out,z2⟩) ?_;clear HK K
                try simp only [Act.put,psA,psB,psC]
                refine tQ 14 (some 85) (bA 18 32767) fun K HK=>?_;go_simp;refine(ZeI A0 c0' ⟨ver,tabs⟩ k A5 c5 row S w5 (HTS4.out.keep (Same.of_below hb5' (fun b hb=>by have:=HSW.out b hb;omega))) (HROW4.out.keep (Same.of_below hb5' (fun b hb=>by have:=HSW.out b hb;omega))) HC5.out (fun b hb=>by have:=HSW.out b hb;omega)).mono ?_;rintro e w6 ⟨A8,c8,rfl,h8,hb60⟩;have hb6:Below w4.heap.size w4 w6:=hb5'.trans (hb60.mono hz5);have H8:=hI (Zbo h8 (ZeU (s:=⟨ver,tabs⟩) (t:=k) HROW4.out.ok) nR).2;have H7:=hI ((show RowS w5 (fun b=>w4.heap.size≤b∧b<w5.heap.size) A7 (keyF ⟨ver,tabs⟩ k prev) from H7.out).keep (w':=w6) (fun b hb=>hb60.block b hb.2));have hz6:=hb60.size;have SB:=hI ((hb60.block sb (by omega)).trans SB.out);have z2:=cJ hb60 z2;clear hb60 h8;refine HK.out _ _ (fun _=>⟨SB.out,z2⟩) ?_;clear HK K
                try simp only [Act.put,psA,psB,psC]
                refine tQ 15 (some 86) (bA 18 65535) fun K HK=>?_;go_simp;refine(Zcd A7 A8 c7 c8 (keyF ⟨ver,tabs⟩ k prev) (keyF ⟨ver,tabs⟩ k row) (fun b=>b<w6.heap.size) w6 (H7.out.more (fun b hb=>by have:=hb.2;show b<w6.heap.size;omega)) (H8.out.more (fun b hb=>hb.2)) (fun b hb=>hb)).mono ?_;rintro e w7 ⟨rfl,hb70⟩;have hb7:Below w4.heap.size w4 w7:=hb6.trans (hb70.mono (by omega));have hz7:=hb70.size;have SB:=hI ((hb70.block sb (by omega)).trans SB.out);have z2:=cJ hb70 z2;clear hb70;refine HK.out _ _ (fun _=>⟨SB.out,z2⟩) ?_;clear HK K
                try simp only [Act.put,psA,psB,psC]
                refine tW 16 87 17 88 (bA 18 262143) HP.out ⟨SB.out,z2⟩ ?_;refine tE HQ ?_;clear HQ HP Q';have HB7:=hI (HB4.out.trans (hb7.mono (by omega)));have HBQ7:=hI (HBQ4.out.trans (hb7.mono (by omega)));clear hb7 z2 q1 q5
                by_cases hcmp:cmpR (keyF ⟨ver,tabs⟩ k prev) (keyF ⟨ver,tabs⟩ k row)<0
                · have HOK:=hI (show ZaX ⟨ver,tabs⟩ k m none rows=ZaX ⟨ver,tabs⟩ k m (Zcc rows (i+1+1)) (rows.drop (i+1+1)) by rw [HSTEP3.out];simp [hcmp]);have hd6:decide (0≤cmpR (keyF ⟨ver,tabs⟩ k prev) (keyF ⟨ver,tabs⟩ k row))=false:=decide_eq_false (by omega);clear hcmp HSTEP3;generalize cmpR (keyF ⟨ver,tabs⟩ k prev) (keyF ⟨ver,tabs⟩ k row)=cv at hd6 ⊢;rw [hd6]
                  go_wp2_with fail
                  go_roundw
                  case rel=>exact⟨i+1+1,by omega,by go_num,HOK.out,HB7.out,HBQ7.out⟩
                  case measure=>simp [intOf];omega
                · have hd6:decide (0≤cmpR (keyF ⟨ver,tabs⟩ k prev) (keyF ⟨ver,tabs⟩ k row))=true:=decide_eq_true (by omega);have HOK:=hI (show ZaX ⟨ver,tabs⟩ k m none rows=false by rw [HSTEP3.out];simp [hcmp]);clear hcmp HSTEP3;generalize cmpR (keyF ⟨ver,tabs⟩ k prev) (keyF ⟨ver,tabs⟩ k row)=cv at hd6 ⊢;rw [hd6];have HF:=hI (show ZaE 0 ⟨ver,tabs⟩ m st=80 by rw [HCF3.out,HT.out,HSTEP.out,HOK.out];simp)
                  go_wp2_with fail
                  go_ret;exact⟨by rw [HF.out];rfl,HBB.out _ (HB0.out.trans (HB7.out.mono (by omega)))⟩
              · have hf':ZaC ⟨ver,tabs⟩ k row m=false:=(by simpa using hf);rw [hf'] at HSTEP3 ⊢;clear hf hf';have HF:=hI (show ZaE 0 ⟨ver,tabs⟩ m st=80 by rw [HCF3.out,HT.out,HSTEP.out,HSTEP3.out];simp)
                go_wp2_with fail
                go_ret;exact⟨by rw [HF.out];rfl,HBB.out _ (HB0.out.trans (HB4.out.mono (by omega)))⟩
          · have hji:¬ (j:Int)<rows.length:=(by omega);have HE:=hI (show ZaX ⟨ver,tabs⟩ k m none rows=true by rw [HT2.out,show j=rows.length by omega,List.drop_length];cases rows.length<;>rfl);have HC:=hI (show stOk ⟨ver,tabs⟩ m 0 st=stOk ⟨ver,tabs⟩ m (k+1) (st.drop (k+1)) by rw [HT.out,HSTEP.out,HE.out];rfl)
            go_wp2_with fail
            go_roundw
            case rel=>exact⟨k+1,by omega,by go_num,HC.out,HB.out⟩
            case measure=>simp [intOf];omega
       · have hki:¬ (k:Int)<st.length:=(by omega);have HE:=hI (show ZaE 0 ⟨ver,tabs⟩ m st=0 by rw [HCF3.out,HT.out,show k=st.length by omega,List.drop_length];rfl)
         go_wp2_with fail
         go_ret;exact⟨by rw [HE.out];rfl,HBB.out _ HBW.out⟩
    · have hd2:((st.length:Int) != tabs.length)=true:=(by simp;omega);have HF:=hI (show ZaE 0 ⟨ver,tabs⟩ m st=80 by rw [HCF2.out,if_pos hlen])
      go_wp2_with fail
      go_ret;exact⟨by rw [HF.out];rfl,HBB.out _ (HB0.out.trans (HB1.out.mono (by omega)))⟩
 · have hd:(er != 0)=true:=(by simpa using he);have HF:=hI (show ZaE er ⟨ver,tabs⟩ m st=er by unfold ZaE Zcw;rw [if_pos he,if_pos he]);clear he
   go_wp2_with fail
   go_ret;exact⟨by rw [HF.out];rfl,HBB.out _ (HB0.out.trans (HB1.out.mono (by omega)))⟩
section
variable {w wr wx:World} {s:Sch} {A0:Option Addr} {c0' gt ob n cc:Nat} {cur:St}
end
theorem Zhl {pc:List Int→Pred→Int} {s:Sch} (h:schF pc s=0):s.tabs.length≤8:=by
 unfold schF at h;split at h
 · cases h
 · omega
theorem nil_st {w:World} {S:Nat→Prop} {g n:Nat} (h:w.heap[g]?=some (.cells (Zas n).toArray 73 (0,0))) (hS:S g) (hn:n≤1000):StS w S (some ⟨g,0,none⟩) (List.replicate n []):=by
 refine⟨by rw [Zaf (n:=24) (fun _=>rfl),List.length_replicate];omega,fun _=>⟨g,0,rfl,hS,Zcl (n:=1) (fun d hd=>by obtain⟨v,_,rfl⟩:=List.mem_map.1 hd;rfl) (fun k hk=>?_)⟩⟩;have hk':k<n:=(by simpa using hk);have hc:w.cell? ⟨g,0+k*1,none⟩=some (.slice none 0 0):=Zaa h _ _ (by simp [Zas,hk']);simp only [List.getElem_map,List.getElem_replicate,Zbe,List.map_nil,Dat.Held,List.length_nil];exact⟨none,0,hc,Nat.le_refl _,Sl.nil_⟩
def Zfh (s:Sch):Int × St:=if schF pcF s≠0 then (schF pcF s,[]) else (0,List.replicate s.tabs.length [])
theorem emptyChk_any (A0:Option Addr) (c0':Nat) (s:Sch) (S:Nat→Prop) (w:World) (hs:TabS w S A0 s.tabs) (hS:∀ b,S b→b<w.heap.size) :
  Calls Tryz.prog 75 #[sAgg s.version A0 s.tabs.length c0'] w (ZbH (schF pcF s) w):=Zer pcF A0 c0' s S w hs hS (Zcr s)
theorem empty_any (A0:Option Addr) (c0':Nat) (s:Sch) (S:Nat→Prop) (w:World) (hs:TabS w S A0 s.tabs) (hS:∀ b,S b→b<w.heap.size) :
  Calls Tryz.prog 25 #[sAgg s.version A0 s.tabs.length c0'] w (ApPost (Zfh s) w):=by
 have hsl:=hs.len;have HS:=hI hs;obtain⟨er,her⟩:∃ er,schF pcF s=er:=⟨_,rfl⟩;have HER:=hI her;have HEF:=hI (show Zfh s=if er≠0 then (er,[]) else (0,List.replicate s.tabs.length []) by unfold Zfh;rw [her]);have HT8:=hI (show er=0→s.tabs.length≤8 from fun h=>Zhl (pc:=pcF) (her.trans h));clear hs her;have HB0:=hI (((Below.refl w.heap.size w).alloc nR (.cells #[.int .i64 s.version,.slice A0 s.tabs.length c0'] 28)).alloc (by simp) (.cells #[.slice none 0 0] 33));go_enter Tryz.func25,Tryz.ntmps25
 go_wp2_with fail
 obtain⟨W0,hW0⟩:∃ W0,(w.alloc (.cells #[.int .i64 s.version,.slice A0 s.tabs.length c0'] 28)).alloc (.cells #[.slice none 0 0] 33)=W0:=⟨_,rfl⟩;have X0:W0.heap[w.heap.size]?=some (.cells #[.int .i64 s.version,.slice A0 s.tabs.length c0'] 28 (0,0)):=(by rw [←hW0];exact(Below.heap_alloc _ _ _ (by simp)).trans (heap_alloc_new w _));have X1:W0.heap[w.heap.size+1]?=some (.cells #[.slice none 0 0] 33 (0,0)):=(by rw [←hW0];simpa using heap_alloc_new (w.alloc (.cells #[.int .i64 s.version,.slice A0 s.tabs.length c0'] 28)) (.cells #[.slice none 0 0] 33));have hz0:W0.heap.size≤w.heap.size+2∧w.heap.size+2≤W0.heap.size:=(by rw [←hW0];simp);rw [hW0] at HB0 ⊢;clear hW0;have HSM:=hI (show Same S w W0 from Same.of_below HB0.out hS);refine(emptyChk_any A0 c0' s S W0 (HS.out.keep HSM.out) (fun b hb=>by have:=hS b hb;omega)).mono ?_;rintro e w1 ⟨rfl,hb1⟩;rw [HER.out];have hz1:=hb1.size;have HB1:=hI (HB0.out.trans (hb1.mono (by omega)));have X0:=(hb1.block _ (by omega)).trans X0;have X1:=(hb1.block _ (by omega)).trans X1;have y0:w1.cell? ⟨w.heap.size,1,none⟩=some (.slice A0 s.tabs.length c0'):=Zaa X0 1 _ rfl;have y1:w1.cell? ⟨w.heap.size+1,0,none⟩=some (.slice none 0 0):=Zaa X1 0 _ rfl;have y2:w1.frozen? ⟨w.heap.size+1,0,none⟩=false:=(by simp [World.frozen?,X1]);clear HB0 HSM hb1
 by_cases he:er=0
 · subst he;have ht8:=HT8.out rfl;have hmk:∀ w:World,(Instr.makeSlice 31 (.int .i64 (s.tabs.length:Int)) (.int .i64 (s.tabs.length:Int))).run Tryz.prog w=.ok (.slice (some ⟨w.heap.size,0,none⟩) s.tabs.length s.tabs.length) (w.alloc (.cells (Zas s.tabs.length).toArray 73)):=fun w=>Zcf s.tabs.length (by omega) w;have h00:((0:Int) != 0)=false:=(by decide);have q1:(w1.alloc (.cells (Zas s.tabs.length).toArray 73)).cell? ⟨w.heap.size+1,0,none⟩=some (.slice none 0 0):=(Zai (by omega)).trans y1;have q2:(w1.alloc (.cells (Zas s.tabs.length).toArray 73)).frozen? ⟨w.heap.size+1,0,none⟩=false:=(Zbh (by omega)).trans y2
   go_wp2_with fail
   obtain⟨wa,hwa⟩:∃ wa,w1.alloc (.cells (Zas s.tabs.length).toArray 73)=wa:=⟨_,rfl⟩;have hza:wa.heap.size≤w1.heap.size+1∧w1.heap.size+1≤wa.heap.size:=(by rw [←hwa];simp);have N1:wa.heap[w1.heap.size]?=some (.cells (Zas s.tabs.length).toArray 73 (0,0)):=(by rw [←hwa];exact heap_alloc_new w1 _);have hba:Below w1.heap.size w1 wa:=(by rw [←hwa];exact(Below.refl _ _).alloc nR _);rw [hwa] at q1 ⊢;have X2:=(hba.block _ (by omega)).trans X1;clear hwa q2 hmk;obtain⟨wz,hwz⟩:∃ wz,wa.setCell ⟨w.heap.size+1,0,none⟩ (.slice (some ⟨w1.heap.size,0,none⟩) s.tabs.length s.tabs.length)=wz:=⟨_,rfl⟩;have x1:wz.cell? ⟨w.heap.size+1,0,none⟩=some (.slice (some ⟨w1.heap.size,0,none⟩) s.tabs.length s.tabs.length):=(by rw [←hwz];exact World.cell?_setCell_same _ _ _ q1);have N2:wz.heap[w1.heap.size]?=some (.cells (Zas s.tabs.length).toArray 73 (0,0)):=(by rw [←hwz];exact(Below.heap_setCell _ ⟨w.heap.size+1,_,none⟩ _ _ (by show w1.heap.size≠w.heap.size+1;omega)).trans N1);have hzz:wz.heap.size=wa.heap.size:=(by rw [←hwz];simp);have hbz:Below w.heap.size wa wz:=(by rw [←hwz];exact(Below.refl _ _).setCell (by show w.heap.size≤w.heap.size+1;omega) _);rw [hwz];clear hwz q1;rw [HEF.out,if_neg (by simp)];exact bodyPost_ret (v:=.tuple #[.agg #[.slice (some ⟨w1.heap.size,0,none⟩) s.tabs.length s.tabs.length],.int .i64 0]) (by simp [results,Tryz.results25,go_sem,x1]) rfl ⟨some ⟨w1.heap.size,0,none⟩,s.tabs.length,by simp,by simp,nil_st N2 ⟨by omega,by omega⟩ (by omega),(HB1.out.trans (hba.mono (by omega))).trans hbz⟩
 · have h00:((er:Int) != 0)=true:=by simpa using he
   go_wp2_with fail
   obtain⟨wz,hwz⟩:∃ wz,w1.setCell ⟨w.heap.size+1,0,none⟩ (.slice none 0 0)=wz:=⟨_,rfl⟩;have x1:wz.cell? ⟨w.heap.size+1,0,none⟩=some (.slice none 0 0):=(by rw [←hwz];exact World.cell?_setCell_same _ _ _ y1);have hbz:Below w.heap.size w1 wz:=(by rw [←hwz];exact(Below.refl _ _).setCell (by show w.heap.size≤w.heap.size+1;omega) _);rw [hwz];clear hwz;rw [HEF.out,if_pos he];exact bodyPost_ret (v:=.tuple #[.agg #[.slice none 0 0],.int .i64 er]) (by simp [results,Tryz.results25,go_sem,x1]) rfl (ApPost.err rfl (HB1.out.trans hbz))
theorem rempty_any (A0:Option Addr) (c0':Nat) (s:Sch) (S:Nat→Prop) (w:World) (hs:TabS w S A0 s.tabs) (hS:∀ b,S b→b<w.heap.size) :
  Calls Tryz.prog 26 #[sAgg s.version A0 s.tabs.length c0'] w (ApPost (Zfh s) w):=by
 have hsl:=hs.len;have HS:=hI hs;obtain⟨er,her⟩:∃ er,schF pcF s=er:=⟨_,rfl⟩;have HER:=hI her;have HEF:=hI (show Zfh s=if er≠0 then (er,[]) else (0,List.replicate s.tabs.length []) by unfold Zfh;rw [her]);have HT8:=hI (show er=0→s.tabs.length≤8 from fun h=>Zhl (pc:=pcF) (her.trans h));clear hs her;have HB0:=hI (((Below.refl w.heap.size w).alloc nR (.cells #[.int .i64 s.version,.slice A0 s.tabs.length c0'] 28)).alloc (by simp) (.cells #[.slice none 0 0] 33));go_enter Tryz.func26,Tryz.ntmps26
 go_wp2_with fail
 obtain⟨W0,hW0⟩:∃ W0,(w.alloc (.cells #[.int .i64 s.version,.slice A0 s.tabs.length c0'] 28)).alloc (.cells #[.slice none 0 0] 33)=W0:=⟨_,rfl⟩;have X0:W0.heap[w.heap.size]?=some (.cells #[.int .i64 s.version,.slice A0 s.tabs.length c0'] 28 (0,0)):=(by rw [←hW0];exact(Below.heap_alloc _ _ _ (by simp)).trans (heap_alloc_new w _));have X1:W0.heap[w.heap.size+1]?=some (.cells #[.slice none 0 0] 33 (0,0)):=(by rw [←hW0];simpa using heap_alloc_new (w.alloc (.cells #[.int .i64 s.version,.slice A0 s.tabs.length c0'] 28)) (.cells #[.slice none 0 0] 33));have hz0:W0.heap.size≤w.heap.size+2∧w.heap.size+2≤W0.heap.size:=(by rw [←hW0];simp);rw [hW0] at HB0 ⊢;clear hW0;have HSM:=hI (show Same S w W0 from Same.of_below HB0.out hS);refine(ZdG A0 c0' s S W0 (HS.out.keep HSM.out) (fun b hb=>by have:=hS b hb;omega)).mono ?_;rintro e w1 ⟨rfl,hb1⟩;rw [HER.out];have hz1:=hb1.size;have HB1:=hI (HB0.out.trans (hb1.mono (by omega)));have X0:=(hb1.block _ (by omega)).trans X0;have X1:=(hb1.block _ (by omega)).trans X1;have y0:w1.cell? ⟨w.heap.size,1,none⟩=some (.slice A0 s.tabs.length c0'):=Zaa X0 1 _ rfl;have y1:w1.cell? ⟨w.heap.size+1,0,none⟩=some (.slice none 0 0):=Zaa X1 0 _ rfl;have y2:w1.frozen? ⟨w.heap.size+1,0,none⟩=false:=(by simp [World.frozen?,X1]);clear HB0 HSM hb1
 by_cases he:er=0
 · subst he;have ht8:=HT8.out rfl;have hmk:∀ w:World,(Instr.makeSlice 31 (.int .i64 (s.tabs.length:Int)) (.int .i64 (s.tabs.length:Int))).run Tryz.prog w=.ok (.slice (some ⟨w.heap.size,0,none⟩) s.tabs.length s.tabs.length) (w.alloc (.cells (Zas s.tabs.length).toArray 73)):=fun w=>Zcf s.tabs.length (by omega) w;have h00:((0:Int) != 0)=false:=(by decide);have q1:(w1.alloc (.cells (Zas s.tabs.length).toArray 73)).cell? ⟨w.heap.size+1,0,none⟩=some (.slice none 0 0):=(Zai (by omega)).trans y1;have q2:(w1.alloc (.cells (Zas s.tabs.length).toArray 73)).frozen? ⟨w.heap.size+1,0,none⟩=false:=(Zbh (by omega)).trans y2
   go_wp2_with fail
   obtain⟨wa,hwa⟩:∃ wa,w1.alloc (.cells (Zas s.tabs.length).toArray 73)=wa:=⟨_,rfl⟩;have hza:wa.heap.size≤w1.heap.size+1∧w1.heap.size+1≤wa.heap.size:=(by rw [←hwa];simp);have N1:wa.heap[w1.heap.size]?=some (.cells (Zas s.tabs.length).toArray 73 (0,0)):=(by rw [←hwa];exact heap_alloc_new w1 _);have hba:Below w1.heap.size w1 wa:=(by rw [←hwa];exact(Below.refl _ _).alloc nR _);rw [hwa] at q1 ⊢;have X2:=(hba.block _ (by omega)).trans X1;clear hwa q2 hmk;obtain⟨wz,hwz⟩:∃ wz,wa.setCell ⟨w.heap.size+1,0,none⟩ (.slice (some ⟨w1.heap.size,0,none⟩) s.tabs.length s.tabs.length)=wz:=⟨_,rfl⟩;have x1:wz.cell? ⟨w.heap.size+1,0,none⟩=some (.slice (some ⟨w1.heap.size,0,none⟩) s.tabs.length s.tabs.length):=(by rw [←hwz];exact World.cell?_setCell_same _ _ _ q1);have N2:wz.heap[w1.heap.size]?=some (.cells (Zas s.tabs.length).toArray 73 (0,0)):=(by rw [←hwz];exact(Below.heap_setCell _ ⟨w.heap.size+1,_,none⟩ _ _ (by show w1.heap.size≠w.heap.size+1;omega)).trans N1);have hzz:wz.heap.size=wa.heap.size:=(by rw [←hwz];simp);have hbz:Below w.heap.size wa wz:=(by rw [←hwz];exact(Below.refl _ _).setCell (by show w.heap.size≤w.heap.size+1;omega) _);rw [hwz];clear hwz q1;rw [HEF.out,if_neg (by simp)];exact bodyPost_ret (v:=.tuple #[.agg #[.slice (some ⟨w1.heap.size,0,none⟩) s.tabs.length s.tabs.length],.int .i64 0]) (by simp [results,Tryz.results26,go_sem,x1]) rfl ⟨some ⟨w1.heap.size,0,none⟩,s.tabs.length,by simp,by simp,nil_st N2 ⟨by omega,by omega⟩ (by omega),(HB1.out.trans (hba.mono (by omega))).trans hbz⟩
 · have h00:((er:Int) != 0)=true:=by simpa using he
   go_wp2_with fail
   obtain⟨wz,hwz⟩:∃ wz,w1.setCell ⟨w.heap.size+1,0,none⟩ (.slice none 0 0)=wz:=⟨_,rfl⟩;have x1:wz.cell? ⟨w.heap.size+1,0,none⟩=some (.slice none 0 0):=(by rw [←hwz];exact World.cell?_setCell_same _ _ _ y1);have hbz:Below w.heap.size w1 wz:=(by rw [←hwz];exact(Below.refl _ _).setCell (by show w.heap.size≤w.heap.size+1;omega) _);rw [hwz];clear hwz;rw [HEF.out,if_pos he];exact bodyPost_ret (v:=.tuple #[.agg #[.slice none 0 0],.int .i64 er]) (by simp [results,Tryz.results26,go_sem,x1]) rfl (ApPost.err rfl (HB1.out.trans hbz))
end Go.Proofs.YtkpjjfhfbpfjpaaGreat
