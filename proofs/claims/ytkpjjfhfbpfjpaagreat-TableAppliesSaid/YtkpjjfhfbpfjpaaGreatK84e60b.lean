import Derived.Test.YtkpjjfhfbpfjpaaGreatKe790cb
import Derived.Test.YtkpjjfhfbpfjpaaGreatKd26eca
import Derived.Test.YtkpjjfhfbpfjpaaGreatK185549
import Derived.Test.YtkpjjfhfbpfjpaaGreatK42e91f
import Derived.Test.YtkpjjfhfbpfjpaaGreatKd77a7e
import Derived.Test.YtkpjjfhfbpfjpaaGreatK2fd9fb
import Derived.Test.YtkpjjfhfbpfjpaaGreatKb26957
import Derived.Test.YtkpjjfhfbpfjpaaGreatKbd4fc8
set_option linter.unusedVariables false
set_option linter.unusedSimpArgs false
set_option maxRecDepth 100000
set_option maxHeartbeats 8000000
namespace Go.Proofs.YtkpjjfhfbpfjpaaGreat
open Go.RowKit
theorem rchk_any (A0:Option Addr) (c0':Nat) (s:Sch) (m:Int) (A:Option Addr) (ca:Nat) (st:St) (S:Nat→Prop) (w:World) (hs:TabS w S A0 s.tabs) (hst:StS w S A st) (hS:∀ b,S b→b<w.heap.size) :
  Calls Tryz.prog 28 #[sAgg s.version A0 s.tabs.length c0',.int .i64 m,Zbn A st.length ca] w (ZbM (ZaL (schF pcF s) s m st) w):=by
 obtain⟨ver,tabs⟩:=s;simp only at hs ⊢;obtain⟨er,her⟩:∃ er,schF pcF ⟨ver,tabs⟩=er:=⟨_,rfl⟩;have HER:=hI her;rw [her];clear her;have HS:=hI hs;have HST:=hI hst;have hsl:=hs.len;have hstl:=hst.len;clear hs hst;have HB0:=hI (((Below.refl w.heap.size w).alloc (Nat.le_refl _) (.cells #[.int .i64 ver,.slice A0 tabs.length c0'] 28)).alloc (by simp) (.cells #[.slice A st.length ca] 33));go_enter Tryz.func28,Tryz.ntmps28
 go_wp2_with fail
 obtain⟨W0,hW0⟩:∃ W0,(w.alloc (.cells #[.int .i64 ver,.slice A0 tabs.length c0'] 28)).alloc (.cells #[.slice A st.length ca] 33)=W0:=⟨_,rfl⟩;obtain⟨sb,hsb⟩:∃ sb,w.heap.size=sb:=⟨_,rfl⟩;have SB0:=hI (show W0.heap[sb]?=some (.cells #[.int .i64 ver,.slice A0 tabs.length c0'] 28 (0,0)) by rw [←hW0,←hsb];exact(Below.heap_alloc _ _ _ (by simp)).trans (heap_alloc_new w _));have TB0:=hI (show W0.heap[sb+1]?=some (.cells #[.slice A st.length ca] 33 (0,0)) by rw [←hW0,←hsb];simpa using heap_alloc_new (w.alloc (.cells #[.int .i64 ver,.slice A0 tabs.length c0'] 28)) (.cells #[.slice A st.length ca] 33));have hz0:W0.heap.size=sb+2:=(by rw [←hW0,←hsb];simp);rw [hW0] at HB0;rw [hW0];rw [hsb] at HB0
 try rw [hsb]
 have HSW:=hI (fun b hb=>by rw [←hsb];exact hS b hb:∀ b,S b→b<sb);have HBB:=hI (show ∀ w',Below sb w w'→Below w.heap.size w w' from fun w' h=>by rw [hsb];exact h);clear hW0 hS hsb;refine(rschCheck_any A0 c0' ⟨ver,tabs⟩ S W0 (HS.out.keep (Same.of_below HB0.out HSW.out)) (fun b hb=>by have:=HSW.out b hb;omega)).mono ?_;rintro e w1 ⟨rfl,hb1⟩;rw [HER.out];have HB1:=hI (hb1.mono (show sb+2≤W0.heap.size by omega));clear hb1
 by_cases he:er=0
 · subst he
   by_cases hm1:m<1
   · have hd1:decide (m<1)=true:=decide_eq_true hm1;have HF:=hI (show ZaL 0 ⟨ver,tabs⟩ m st=1 by unfold ZaL Zcq;rw [show ZbB m=false by simp [ZbB];omega];rfl)
     go_wp2_with fail
     go_ret;exact⟨by rw [HF.out];rfl,HBB.out _ (HB0.out.trans (HB1.out.mono (by omega)))⟩
   have hd1:decide (m<1)=false:=decide_eq_false hm1
   by_cases hm3:3<m
   · have hd2:decide (3<m)=true:=decide_eq_true hm3;have HF:=hI (show ZaL 0 ⟨ver,tabs⟩ m st=1 by unfold ZaL Zcq;rw [show ZbB m=false by simp [ZbB];omega];rfl)
     go_wp2_with fail
     go_ret;exact⟨by rw [HF.out];rfl,HBB.out _ (HB0.out.trans (HB1.out.mono (by omega)))⟩
   have hd2:decide (3<m)=false:=decide_eq_false hm3;have HCF:=hI (show ZaL 0 ⟨ver,tabs⟩ m st=if 512<Zal st then 2 else if st.length≠tabs.length then 80 else if stOk ⟨ver,tabs⟩ m 0 st then 0 else 80 by unfold ZaL Zcq;rw [show ZbB m=true by simp [ZbB];omega];rfl);have u1:w1.cell? ⟨sb+1,0,none⟩=some (.slice A st.length ca):=cJ HB1.out (Zaa TB0.out 0 _ rfl)
   go_wp2_with fail
   clear hd1 hd2
   go_loopw [8,29] (fun n i wr=>∃ k:Nat,k≤st.length∧i=.int .i64 k∧n=.int .i64 (Zal (st.take k))∧Zal (st.take k)≤512∧wr=w1) (fun _ i _=>st.length - (intOf i).toNat)
   case atStart=>exact⟨0,Nat.zero_le _,rfl,by simp [Zal],by simp [Zal],rfl⟩
   case round =>
    obtain⟨k,hk,rfl,rfl,hc,rfl⟩:=hrel;have HC:=hI hc
    by_cases hkl:k<st.length
    · have hki:(k:Int)<st.length:=(by omega);obtain⟨b2,o2,rfl,hb2,A',c',d1,d2,d3⟩:=(HST.out.keep (Same.of_below (HB0.out.trans (HB1.out.mono (by omega))) HSW.out)).at_ hkl;have hl2:b2<wr.heap.size:=(by have:=HSW.out b2 hb2;have:=HB1.out.size;omega);have HT:=hI (ZcX st k hkl);have HLE:=hI (ZdF st (k+1));have hrl:=d3.len;clear d2 d3;generalize st.getD k []=rows at d1 HT hrl;generalize hcn:Zal (st.take k)=cn at HT hc
      by_cases hlim:512 - cn<rows.length
      · have hd1:decide ((512:Int) - cn<rows.length)=true:=decide_eq_true (by omega);have hd1':decide (IntKind.i64.wrap ((512:Int) - cn)<rows.length)=true:=(by rw [show IntKind.i64.wrap ((512:Int) - cn)=512 - cn from IntWalk.i64_in _ (by omega)];exact hd1);have HF:=hI (show ZaL 0 ⟨ver,tabs⟩ m st=2 by rw [HCF.out,if_pos (by have:=HLE.out;have:=HT.out;omega)])
        go_wp2_with fail
        go_ret;exact⟨by rw [HF.out];rfl,HBB.out _ (HB0.out.trans (HB1.out.mono (by omega)))⟩
      · have hd1:decide ((512:Int) - cn<rows.length)=false:=decide_eq_false (by omega);have hd1':decide (IntKind.i64.wrap ((512:Int) - cn)<rows.length)=false:=by rw [show IntKind.i64.wrap ((512:Int) - cn)=512 - cn from IntWalk.i64_in _ (by omega)];exact hd1
        go_wp2_with fail
        go_roundw
        case rel=>exact⟨k+1,by omega,by go_num,by rw [HT.out];go_num,by rw [HT.out];omega,by first | rfl | trivial⟩
        case measure=>simp [intOf];omega
    have hki:¬ (k:Int)<st.length:=(by omega)
    have HCF2:=hI (show ZaL 0 ⟨ver,tabs⟩ m st=if st.length≠tabs.length then 80 else if stOk ⟨ver,tabs⟩ m 0 st then 0 else 80 by
     rw [HCF.out,if_neg];rw [List.take_of_length_le (by omega)] at hc;omega)
    clear HCF hc HC;have x1:wr.cell? ⟨sb,1,none⟩=some (.slice A0 tabs.length c0'):=cJ HB1.out (Zaa SB0.out 1 _ rfl)
    by_cases hlen:st.length=tabs.length
    · have hd2:((st.length:Int) != tabs.length)=false:=(by simp [hlen]);have HCF3:=hI (show ZaL 0 ⟨ver,tabs⟩ m st=if stOk ⟨ver,tabs⟩ m 0 st then 0 else 80 by rw [HCF2.out,if_neg (by simpa using hlen)]);clear HCF2;have HLEN:=hI hlen;clear hlen
      go_wp2_with fail
      clear hd2 x1 u1;obtain⟨w2,rfl⟩:∃ w2:World,w2=wr:=⟨_,rfl⟩
      go_loopw [53] (fun i wr=>∃ k:Nat,k≤st.length∧i=.int .i64 k∧stOk ⟨ver,tabs⟩ m 0 st=stOk ⟨ver,tabs⟩ m k (st.drop k)∧Below (sb+2) W0 wr) (fun i _=>st.length - (intOf i).toNat)
      case atStart=>exact⟨0,Nat.zero_le _,rfl,by simp,HB1.out⟩
      case round =>
       clear HB1 hkl hki;obtain⟨k,hk,rfl,hch,hbel⟩:=hrel;have HT:=hI hch;have HB:=hI hbel;have HBW:=hI (HB0.out.trans (hbel.mono (by omega)));have hzr:=hbel.size;clear hch hbel
       by_cases hkl:k<st.length
       · have hki:(k:Int)<st.length:=(by omega);obtain⟨b2,o2,rfl,hb2,A',c',d1,d2,d3⟩:=(HST.out.keep (Same.of_below HBW.out HSW.out)).at_ hkl;have hl2:b2<wr.heap.size:=(by have:=HSW.out b2 hb2;omega);have HSTEP:=hI (ZgE ⟨ver,tabs⟩ m st k hkl);have HRS:=hI d3;have hrl:=d3.len;have HD2:=hI d2;clear d2 d3;generalize st.getD k []=rows at d1 HSTEP HRS HD2 hrl
         go_wp2_with fail
         clear d1;obtain⟨w3,rfl⟩:∃ w3:World,w3=wr:=⟨_,rfl⟩
         go_loopw [60] (fun i wq=>∃ j:Nat,j≤rows.length∧i=.int .i64 j∧Zbc ⟨ver,tabs⟩ k m none rows=Zbc ⟨ver,tabs⟩ k m (Zco rows j) (rows.drop j)∧Below (sb+2) W0 wq∧Below w3.heap.size w3 wq) (fun i _=>rows.length - (intOf i).toNat)
         case atStart=>exact⟨0,Nat.zero_le _,rfl,by simp [Zco],HB.out,Below.refl _ _⟩
         case round =>
          clear HB;obtain⟨j,hj,rfl,hch,hbel,hbq⟩:=hrel;have HT2:=hI hch;have HB:=hI hbel;have HBQ:=hI hbq;have hsq:=hbq.size;have HBW2:=hI (HB0.out.trans (hbel.mono (by omega)));have SB:=hI ((hbel.block sb (by omega)).trans SB0.out);have hsr:sb<wr.heap.size:=(by omega);have y0:wr.cell? ⟨sb,0,none⟩=some (.int .i64 ver):=Zaa SB.out 0 _ rfl;have y1:wr.cell? ⟨sb,1,none⟩=some (.slice A0 tabs.length c0'):=Zaa SB.out 1 _ rfl;clear hch hbel hbq
          by_cases hjl:j<rows.length
          · have hji:(j:Int)<rows.length:=(by omega);have HRQ:=hI (HRS.out.keep (w':=wr) (fun b hb=>HBQ.out.block b (by have:=HSW.out b hb;omega)));obtain⟨b5,o5,rfl,hb5,A5,c5,f1,f2,f3⟩:=HRQ.out.at_ hjl;have hl5:b5<wr.heap.size:=(by have:=HSW.out b5 hb5;omega);have HSTEP2:=hI (Zfd ⟨ver,tabs⟩ k m rows j hjl);have HROW:=hI f3;have HC5:=hI f2;have hrw:=f3.len;clear f2 f3;have HTS:=hI (HS.out.keep (Same.of_below HBW2.out HSW.out))
            by_cases hj0:j=0
            · have HSTEP3:=hI (show Zbc ⟨ver,tabs⟩ k m none rows=(Zas ⟨ver,tabs⟩ k (rows.getD j []) m&&Zbc ⟨ver,tabs⟩ k m (Zco rows (j+1)) (rows.drop (j+1))) by rw [HT2.out,HSTEP2.out];subst hj0;simp [Zco]);have hd3:decide ((0:Int)<(j:Int))=false:=decide_eq_false (by omega);have hd4:¬ 0<j:=(by omega);clear HSTEP2 HT2 hj0;generalize rows.getD j []=row at f1 HSTEP3 HROW HC5 hrw
              go_wp2_with fail
              refine(Zdc A0 c0' ⟨ver,tabs⟩ k m A5 c5 row S wr HTS.out HROW.out (fun b hb=>by have:=HSW.out b hb;omega)).mono ?_;rintro e w4 ⟨rfl,hb4⟩;have HB4:=hI (HB.out.trans (hb4.mono (by omega)));have HBQ4:=hI (HBQ.out.trans (hb4.mono (by omega)));clear hb4 y0 y1 f1
              by_cases hf:Zas ⟨ver,tabs⟩ k row m=true
              · rw [hf] at HSTEP3 ⊢;clear hf
                go_wp2_with fail
                go_quiet (fail)
                go_wp2_with fail
                go_roundw
                case rel=>exact⟨j+1,by omega,by go_num,by rw [HSTEP3.out];simp,Zaf HB4.out _,Zaf HBQ4.out _⟩
                case measure=>simp [intOf];omega
              · have hf':Zas ⟨ver,tabs⟩ k row m=false:=(by simpa using hf);rw [hf'] at HSTEP3 ⊢;clear hf hf';have HF:=hI (show ZaL 0 ⟨ver,tabs⟩ m st=80 by rw [HCF3.out,HT.out,HSTEP.out,HSTEP3.out];simp)
                go_wp2_with fail
                go_ret;exact⟨by rw [HF.out];rfl,HBB.out _ (HB0.out.trans (HB4.out.mono (by omega)))⟩
            · obtain⟨i,rfl⟩:∃ i,j=i+1:=⟨j - 1,by omega⟩;obtain⟨b6,o6,e6,hb6,A6,c6,g1,g2,g3⟩:=HRQ.out.at_ (show i<rows.length by omega);injection e6 with e6;injection e6 with e61 e62;subst e61 e62;have HPREV:=hI g3;have HC6:=hI g2;have hrw6:=g3.len;have HSTEP3:=hI (show Zbc ⟨ver,tabs⟩ k m none rows=(Zas ⟨ver,tabs⟩ k (rows.getD (i+1) []) m&&decide (cmpR (keyF ⟨ver,tabs⟩ k (rows.getD i [])) (keyF ⟨ver,tabs⟩ k (rows.getD (i+1) []))<0)&&Zbc ⟨ver,tabs⟩ k m (Zco rows (i+1+1)) (rows.drop (i+1+1))) by rw [HT2.out,HSTEP2.out];rfl);clear g2 g3 hj0 HSTEP2 HT2;generalize rows.getD (i+1) []=row at f1 HSTEP3 HROW HC5 hrw;generalize rows.getD i []=prev at g1 HSTEP3 HPREV HC6 hrw6
              go_wp2_with fail
              refine(Zdc A0 c0' ⟨ver,tabs⟩ k m A5 c5 row S wr HTS.out HROW.out (fun b hb=>by have:=HSW.out b hb;omega)).mono ?_;rintro e w4 ⟨rfl,hb4⟩;have HB4:=hI (HB.out.trans (hb4.mono (by omega)));have HBQ4:=hI (HBQ.out.trans (hb4.mono (by omega)));have HX4:=hI hb4;have SB:=hI ((hb4.block sb hsr).trans SB.out);have z2:w4.cell? ⟨b5,o5+i,none⟩=some (.slice A6 prev.length c6):=cQ hb4 hl5 g1;have hs4:wr.heap.size≤w4.heap.size:=hb4.size;clear hb4 f1 g1 y0 y1
              by_cases hf:Zas ⟨ver,tabs⟩ k row m=true
              · rw [hf] at HSTEP3 ⊢;clear hf
                go_wp2_with fail
                have q1:IntKind.i64.wrap ((i:Int)+1 - 1)=i:=(by rw [show ((i:Int)+1 - 1)=i by omega];exact IntWalk.i64_in _ (by omega));have q5:IntKind.i64.wrap (i:Int)=i:=IntWalk.i64_in _ (by omega);have q2:(0:Int)≤i:=(by omega);have q3:(i:Int)<rows.length:=(by omega);have q4:(i:Int)≤rows.length:=(by omega);have q6:(0:Int)<(i:Int)+1:=(by omega);have q7:decide ((0:Int)<(i:Int)+1)=true:=decide_eq_true q6;have HTS4:=hI (HTS.out.keep (Same.of_below HX4.out (fun b hb=>by have:=HSW.out b hb;omega)));have HROW4:=hI (HROW.out.keep (w':=w4) (Same.of_below HX4.out (fun b hb=>by have:=HSW.out b hb;omega)));have HPREV4:=hI (HPREV.out.keep (w':=w4) (Same.of_below HX4.out (fun b hb=>by have:=HSW.out b hb;omega)));refine ZcF (fun c a d v w h=>by cases d<;>exact h) (fun Q' HQ HP=>?_);refine Zao (fun w'=>w'.heap[sb]?=some (.cells #[.int .i64 ver,.slice A0 tabs.length c0'] 28 (0,0))∧w'.cell? ⟨b5,o5+i,none⟩=some (.slice A6 prev.length c6)) 18 18 (bA 18 0) (by kernel_rfl) (by kernel_rfl) (by kernel_rfl) ?_;refine anyT_take (i:=0) (oi:=⟨some 71,_,_,_,_,_⟩) (v:=.int .i64 ((i:Int)+1)) (L':=(bA 18 1)) rfl rfl (by kernel_rfl) (by kernel_rfl) (by kernel_rfl) (by kernel_rfl) (by kernel_rfl) HP.out (Or.inl ⟨by rfl,?_⟩) ⟨SB.out,z2⟩ ?_
                · intro w' hSw;go_simp
                  (try with_reducible rfl)
                simp only [psA,psB,psC];refine anyT_take (i:=1) (oi:=⟨some 72,_,_,_,_,_⟩) (v:=.bool true) (L':=(bA 18 3)) rfl rfl (by kernel_rfl) (by kernel_rfl) (by kernel_rfl) (by kernel_rfl) (by kernel_rfl) HP.out (Or.inl ⟨by rfl,?_⟩) ⟨SB.out,z2⟩ ?_
                · intro w' hSw;go_simp
                  (try simp)
                simp only [psA,psB,psC];refine tJ 2 73 (bA 18 7) HP.out ⟨SB.out,z2⟩ ?_;refine anyT_take (i:=3) (oi:=⟨some 74,_,_,_,_,_⟩) (v:=.agg #[.int .i64 ver,.slice A0 tabs.length c0']) (L':=(bA 18 15)) rfl rfl (by kernel_rfl) (by kernel_rfl) (by kernel_rfl) (by kernel_rfl) (by kernel_rfl) HP.out (Or.inl ⟨by rfl,?_⟩) ⟨SB.out,z2⟩ ?_
                · intro w' hSw;have x0:=Zaa hSw.1 0 _ rfl;have x1:=Zaa hSw.1 1 _ rfl;go_simp
                  (try with_reducible rfl)
                simp only [psA,psB,psC];refine tJ 4 75 (bA 18 31) HP.out ⟨SB.out,z2⟩ ?_;refine tJ 5 76 (bA 18 63) HP.out ⟨SB.out,z2⟩ ?_;refine anyT_take (i:=6) (oi:=⟨some 77,_,_,_,_,_⟩) (v:=.int .i64 ((i:Int)+1)) (L':=(bA 18 127)) rfl rfl (by kernel_rfl) (by kernel_rfl) (by kernel_rfl) (by kernel_rfl) (by kernel_rfl) HP.out (Or.inl ⟨by rfl,?_⟩) ⟨SB.out,z2⟩ ?_
                · intro w' hSw;go_simp
                  (try with_reducible rfl)
                simp only [psA,psB,psC];refine anyT_take (i:=7) (oi:=⟨some 78,_,_,_,_,_⟩) (v:=.int .i64 (i:Int)) (L':=(bA 18 255)) rfl rfl (by kernel_rfl) (by kernel_rfl) (by kernel_rfl) (by kernel_rfl) (by kernel_rfl) HP.out (Or.inl ⟨by rfl,?_⟩) ⟨SB.out,z2⟩ ?_
                · intro w' hSw;go_simp
                  (try simp [q1])
                simp only [psA,psB,psC];refine tJ 8 79 (bA 18 511) HP.out ⟨SB.out,z2⟩ ?_;refine tJ 9 80 (bA 18 1023) HP.out ⟨SB.out,z2⟩ ?_;refine anyT_take (i:=11) (oi:=⟨some 82,_,_,_,_,_⟩) (v:=.agg #[.int .i64 ver,.slice A0 tabs.length c0']) (L':=(bA 18 3071)) rfl rfl (by kernel_rfl) (by kernel_rfl) (by kernel_rfl) (by kernel_rfl) (by kernel_rfl) HP.out (Or.inl ⟨by rfl,?_⟩) ⟨SB.out,z2⟩ ?_
                · intro w' hSw;have x0:=Zaa hSw.1 0 _ rfl;have x1:=Zaa hSw.1 1 _ rfl;go_simp
                  (try with_reducible rfl)
                simp only [psA,psB,psC];refine tJ 12 83 (bA 18 7167) HP.out ⟨SB.out,z2⟩ ?_;refine tJ 13 84 (bA 18 15359) HP.out ⟨SB.out,z2⟩ ?_;refine tQ 10 (some 81) (bA 18 16383) fun K HK=>?_;go_simp;refine(ZbJ A0 c0' ⟨ver,tabs⟩ k A6 c6 prev S w4.drew (HTS4.out.keep (w':=w4.drew) (fun _ _=>rfl)) (HPREV4.out.keep (w':=w4.drew) (fun _ _=>rfl)) HC6.out (fun b hb=>by have:=HSW.out b hb;show b<w4.heap.size;omega)).mono ?_;rintro e w5 ⟨A7,c7,rfl,h7,hb50⟩;have hb5':Below w4.heap.size w4 w5:=(Below.refl _ w4).drew.trans hb50;have H7:=hI (Zay h7 (Zbh (s:=⟨ver,tabs⟩) (t:=k) HPREV4.out.ok) (Nat.le_refl _)).2;have hz5:=hb5'.size;have SB:=hI ((hb5'.block sb (by omega)).trans SB.out);have z2:=cJ hb5' z2;clear hb50 h7;refine HK.out _ _ (fun _=>⟨SB.out,z2⟩) ?_;clear HK K
                try simp only [Act.put,psA,psB,psC]
                refine tQ 14 (some 85) (bA 18 32767) fun K HK=>?_;go_simp;refine(ZbJ A0 c0' ⟨ver,tabs⟩ k A5 c5 row S w5 (HTS4.out.keep (Same.of_below hb5' (fun b hb=>by have:=HSW.out b hb;omega))) (HROW4.out.keep (Same.of_below hb5' (fun b hb=>by have:=HSW.out b hb;omega))) HC5.out (fun b hb=>by have:=HSW.out b hb;omega)).mono ?_;rintro e w6 ⟨A8,c8,rfl,h8,hb60⟩;have hb6:Below w4.heap.size w4 w6:=hb5'.trans (hb60.mono hz5);have H8:=hI (Zay h8 (Zbh (s:=⟨ver,tabs⟩) (t:=k) HROW4.out.ok) (Nat.le_refl _)).2;have H7:=hI ((show RowS w5 (fun b=>w4.heap.size≤b∧b<w5.heap.size) A7 (keyF ⟨ver,tabs⟩ k prev) from H7.out).keep (w':=w6) (fun b hb=>hb60.block b hb.2));have hz6:=hb60.size;have SB:=hI ((hb60.block sb (by omega)).trans SB.out);have z2:=cJ hb60 z2;clear hb60 h8;refine HK.out _ _ (fun _=>⟨SB.out,z2⟩) ?_;clear HK K
                try simp only [Act.put,psA,psB,psC]
                refine tQ 15 (some 86) (bA 18 65535) fun K HK=>?_;go_simp;refine(Zbj A7 A8 c7 c8 (keyF ⟨ver,tabs⟩ k prev) (keyF ⟨ver,tabs⟩ k row) (fun b=>b<w6.heap.size) w6 (H7.out.more (fun b hb=>by have:=hb.2;show b<w6.heap.size;omega)) (H8.out.more (fun b hb=>hb.2)) (fun b hb=>hb)).mono ?_;rintro e w7 ⟨rfl,hb70⟩;have hb7:Below w4.heap.size w4 w7:=hb6.trans (hb70.mono (by omega));have hz7:=hb70.size;have SB:=hI ((hb70.block sb (by omega)).trans SB.out);have z2:=cJ hb70 z2;clear hb70;refine HK.out _ _ (fun _=>⟨SB.out,z2⟩) ?_;clear HK K
                try simp only [Act.put,psA,psB,psC]
                refine tJ 16 87 (bA 18 131071) HP.out ⟨SB.out,z2⟩ ?_;refine tJ 17 88 (bA 18 262143) HP.out ⟨SB.out,z2⟩ ?_;refine Zax (by kernel_rfl) ?_;rw [HQ.out];clear HQ HP Q';have HB7:=hI (HB4.out.trans (hb7.mono (by omega)));have HBQ7:=hI (HBQ4.out.trans (hb7.mono (by omega)));clear hb7 z2 q1 q5
                by_cases hcmp:cmpR (keyF ⟨ver,tabs⟩ k prev) (keyF ⟨ver,tabs⟩ k row)<0
                · have HOK:=hI (show Zbc ⟨ver,tabs⟩ k m none rows=Zbc ⟨ver,tabs⟩ k m (Zco rows (i+1+1)) (rows.drop (i+1+1)) by rw [HSTEP3.out];simp [hcmp]);have hd6:decide (0≤cmpR (keyF ⟨ver,tabs⟩ k prev) (keyF ⟨ver,tabs⟩ k row))=false:=decide_eq_false (by omega);clear hcmp HSTEP3;generalize cmpR (keyF ⟨ver,tabs⟩ k prev) (keyF ⟨ver,tabs⟩ k row)=cv at hd6 ⊢;rw [hd6]
                  go_wp2_with fail
                  go_roundw
                  case rel=>exact⟨i+1+1,by omega,by go_num,HOK.out,HB7.out,HBQ7.out⟩
                  case measure=>simp [intOf];omega
                · have hd6:decide (0≤cmpR (keyF ⟨ver,tabs⟩ k prev) (keyF ⟨ver,tabs⟩ k row))=true:=decide_eq_true (by omega);have HOK:=hI (show Zbc ⟨ver,tabs⟩ k m none rows=false by rw [HSTEP3.out];simp [hcmp]);clear hcmp HSTEP3;generalize cmpR (keyF ⟨ver,tabs⟩ k prev) (keyF ⟨ver,tabs⟩ k row)=cv at hd6 ⊢;rw [hd6];have HF:=hI (show ZaL 0 ⟨ver,tabs⟩ m st=80 by rw [HCF3.out,HT.out,HSTEP.out,HOK.out];simp)
                  go_wp2_with fail
                  go_ret;exact⟨by rw [HF.out];rfl,HBB.out _ (HB0.out.trans (HB7.out.mono (by omega)))⟩
              · have hf':Zas ⟨ver,tabs⟩ k row m=false:=(by simpa using hf);rw [hf'] at HSTEP3 ⊢;clear hf hf';have HF:=hI (show ZaL 0 ⟨ver,tabs⟩ m st=80 by rw [HCF3.out,HT.out,HSTEP.out,HSTEP3.out];simp)
                go_wp2_with fail
                go_ret;exact⟨by rw [HF.out];rfl,HBB.out _ (HB0.out.trans (HB4.out.mono (by omega)))⟩
          · have hji:¬ (j:Int)<rows.length:=(by omega);have HE:=hI (show Zbc ⟨ver,tabs⟩ k m none rows=true by rw [HT2.out,show j=rows.length by omega,List.drop_length];cases rows.length<;>rfl);have HC:=hI (show stOk ⟨ver,tabs⟩ m 0 st=stOk ⟨ver,tabs⟩ m (k+1) (st.drop (k+1)) by rw [HT.out,HSTEP.out,HE.out];rfl)
            go_wp2_with fail
            go_roundw
            case rel=>exact⟨k+1,by omega,by go_num,HC.out,HB.out⟩
            case measure=>simp [intOf];omega
       · have hki:¬ (k:Int)<st.length:=(by omega);have HE:=hI (show ZaL 0 ⟨ver,tabs⟩ m st=0 by rw [HCF3.out,HT.out,show k=st.length by omega,List.drop_length];rfl)
         go_wp2_with fail
         go_ret;exact⟨by rw [HE.out];rfl,HBB.out _ HBW.out⟩
    · have hd2:((st.length:Int) != tabs.length)=true:=(by simp;omega);have HF:=hI (show ZaL 0 ⟨ver,tabs⟩ m st=80 by rw [HCF2.out,if_pos hlen])
      go_wp2_with fail
      go_ret;exact⟨by rw [HF.out];rfl,HBB.out _ (HB0.out.trans (HB1.out.mono (by omega)))⟩
 · have hd:(er != 0)=true:=(by simpa using he);have HF:=hI (show ZaL er ⟨ver,tabs⟩ m st=er by unfold ZaL Zcq;rw [if_pos he,if_pos he]);clear he
   go_wp2_with fail
   go_ret;exact⟨by rw [HF.out];rfl,HBB.out _ (HB0.out.trans (HB1.out.mono (by omega)))⟩
end Go.Proofs.YtkpjjfhfbpfjpaaGreat

namespace Go.Proofs.YtkpjjfhfbpfjpaaGreat
open Go.RowKit
def RapPost (r:Int × St) (w:World) (e:Ending) (w':World):Prop:=∃ A c,e=.returned (.tuple #[.agg #[.slice A r.2.length c],.int .i64 r.1])∧r.2.length≤c∧StS w' (fun b=>b<w'.heap.size) A r.2∧Below w.heap.size w w'
theorem RapPost.err {w w':World} {n:Int} {r:Int × St} (h:r=(n,[])) (hb:Below w.heap.size w w'):RapPost r w (.returned (.tuple #[.agg #[.slice none 0 0],.int .i64 n])) w':=by
 subst h;exact⟨none,0,rfl,Nat.le_refl _,StS.nil_,hb⟩
structure RaB (w wr:World) (s:Sch) (A0:Option Addr) (c0':Nat):Prop where
 bel:Below w.heap.size w wr
 sbx:wr.heap[w.heap.size]?=some (.cells #[.int .i64 s.version,.slice A0 s.tabs.length c0'] 28 (0,0))
 rbx:wr.heap[w.heap.size+2]?=some (.cells #[.slice none 0 0] 33 (0,0))
abbrev RaX (w wr:World) (gt ob:Nat):Nat→Prop:=fun b=>b<wr.heap.size∧b≠gt∧b≠ob∧b≠w.heap.size+2
structure RaI (w wr:World) (s:Sch) (A0:Option Addr) (c0' gt ob n cc:Nat) (cur:St):Prop where
 bel:Below w.heap.size w wr
 sbx:wr.heap[w.heap.size]?=some (.cells #[.int .i64 s.version,.slice A0 s.tabs.length c0'] 28 (0,0))
 rbx:wr.heap[w.heap.size+2]?=some (.cells #[.slice none 0 0] 33 (0,0))
 obx:wr.heap[ob]?=some (.cells #[.slice (some ⟨gt,0,none⟩) n cc] 33 (0,0))
 stc:StC wr (RaX w wr gt ob) gt cur
 gtlo:w.heap.size+3≤gt
 oblo:w.heap.size+3≤ob
 ne:gt≠ob
section
variable {w wr wx:World} {s:Sch} {A0:Option Addr} {c0' gt ob n cc:Nat} {cur:St}
theorem RaI.below (h:RaI w wr s A0 c0' gt ob n cc cur) (hb:Below wr.heap.size wr wx):RaI w wx s A0 c0' gt ob n cc cur:=by
 have h1:=Zab h.sbx;have h2:=hb.size;have h3:=h.stc.lt;have h4:=Zab h.obx;exact⟨h.bel.trans (hb.mono (by omega)),(hb.block _ h1).trans h.sbx,(hb.block _ (Zab h.rbx)).trans h.rbx,(hb.block _ h4).trans h.obx,(h.stc.keep h2 (fun b hb'=>hb.block b hb'.1) (hb.block gt h3)).more (fun b hb'=>⟨by have:=hb'.1;omega,hb'.2⟩) (fun b hb'=>⟨hb'.1,hb'.2.1⟩),h.gtlo,h.oblo,h.ne⟩
theorem RaI.put {st':St} (h:RaI w wr s A0 c0' gt ob n cc cur) (hf:Fr (fun b=>b=gt) wr wx) (hs:StC wx (fun b=>RaX w wr gt ob b∨New wr wx b) gt st'):RaI w (wx.setCell ⟨ob,0,none⟩ (.slice (some ⟨gt,0,none⟩) n cc)) s A0 c0' gt ob n cc st':=by
 have h1:=h.gtlo;have h2:=h.oblo;have h3:=h.ne;have h4:=hf.size;have hne:∀ b,b≠ob→(wx.setCell ⟨ob,0,none⟩ (.slice (some ⟨gt,0,none⟩) n cc)).heap[b]?=wx.heap[b]?:=fun b hb'=>Below.heap_setCell wx ⟨ob,0,none⟩ _ b hb';have hk:∀ b,b<wr.heap.size→b≠gt→b≠ob→(wx.setCell ⟨ob,0,none⟩ (.slice (some ⟨gt,0,none⟩) n cc)).heap[b]?=wr.heap[b]?:=fun b hl hg ho=>(hne b ho).trans (hf.block b hl hg);have l1:=Zab h.sbx;have l2:=Zab h.rbx;have l4:=Zab h.obx;have hsz:(wx.setCell ⟨ob,0,none⟩ (.slice (some ⟨gt,0,none⟩) n cc)).heap.size=wx.heap.size:=(by simp);have e1:wx.heap[ob]?=some (.cells [.slice (some ⟨gt,0,none⟩) n cc].toArray 33 (0,0)):=(hf.block ob l4 (Ne.symm h3)).trans h.obx;refine⟨⟨hf.os.trans h.bel.os,hf.tape.trans h.bel.tape,hf.output.trans h.bel.output,by rw [hsz];have:=h.bel.size;omega,fun b hb=>(hk b (by have:=h.bel.size;omega) (by omega) (by omega)).trans (h.bel.block b hb)⟩,(hk _ l1 (by omega) (by omega)).trans h.sbx,(hk _ l2 (by omega) (by omega)).trans h.rbx,by simpa using Zae (k:=0) (v:=.slice (some ⟨gt,0,none⟩) n cc) e1,?_,h1,h2,h3⟩;refine(hs.keep (by rw [hsz];exact Nat.le_refl _) (fun b hb=>hne b ?_) (hne gt h3)).more (fun b hb=>?_) (fun b hb=>⟨hb.1,hb.2.1⟩)
 · rcases hb with hb | hb
   · exact hb.2.2.1
   · have:=hb.1;omega
 · rcases hb with hb | hb
   · exact⟨by have:=hb.1;omega,hb.2⟩
   · have h9:=hb.1;have h8:=hb.2;have hgl:=h.stc.lt;exact⟨by omega,by omega,by omega,by omega⟩
theorem RaI.old (h:RaI w wr s A0 c0' gt ob n cc cur) {b:Nat} (hb:b<w.heap.size):RaX w wr gt ob b:=by
 have h1:=h.gtlo;have h2:=h.oblo;have h3:=h.bel.size;exact⟨by omega,by omega,by omega,by omega⟩
end
theorem sch_few {pc:List Int→Pred→Int} {s:Sch} (h:schF pc s=0):s.tabs.length≤8:=by
 unfold schF at h;split at h
 · cases h
 · omega
theorem ZdE:∀ (st:St) (j:Nat),(st.getD j []).length≤Zal st
 | [],j=>by simp
 | l :: st,0=>by simp [Zal]
 | l :: st,j+1=>by have:=ZdE st j;simp only [Zal,List.getD_cons_succ];omega
abbrev st_set (st:St) (t:Nat) (l:List Row):St:=st.set t l
theorem getS_rowOk {w:World} {S:Nat→Prop} {A:Option Addr} {s:Sch} {st:St} {t:Int} {key:Row} (h:StS w S A st):RowOk ((getS s st t key).getD []):=by
 have hn:RowOk []:=⟨by simp,fun v hv=>by simp at hv⟩;unfold getS;split
 · rename_i hh
   obtain⟨k,rfl,_,hk⟩:=is_in hh;obtain⟨b,o,_,_,A',c,_,_,h2⟩:=h.at_ hk;cases hf:Zch s k key (st.getD (k:Int).toNat []) with
   | none=>exact hn
   | some r =>
    have hr:=List.mem_of_find?_eq_some hf;rw [Int.toNat_natCast] at hr;obtain⟨i,hi,rfl⟩:=List.getElem_of_mem hr;obtain⟨_,_,_,_,_,_,_,_,h3⟩:=h2.at_ hi;rw [Zcr hi] at h3;exact h3.ok
 · exact hn
theorem applyL_step {s:Sch} {m:Int} {n:Int} {st:St} {l:List Chg} {k:Nat} (hk:k<l.length):Zby s m n st (l.drop k)=if Zan s m (l.getD k chg0)=false then (71,[]) else if cmpR ((getS s st (l.getD k chg0).table (keyC s (l.getD k chg0))).getD []) (l.getD k chg0).old≠0 then (81,[]) else if 512<cntC n (l.getD k chg0) then (2,[]) else Zby s m (cntC n (l.getD k chg0)) (st.set (l.getD k chg0).table.toNat (putR s (l.getD k chg0).table (keyC s (l.getD k chg0)) (l.getD k chg0).new (st.getD (l.getD k chg0).table.toNat []))) (l.drop (k+1)):=by
 rw [List.drop_eq_getElem_cons hk];have e1:l.getD k chg0=l[k]:=(by simp [List.getD,hk]);rw [e1];rfl
theorem ZfR (A0:Option Addr) (c0':Nat) (s:Sch) (m:Int) (A:Option Addr) (ca:Nat) (st:St) (AC:Option Addr) (cl:Nat) (l:List Chg) (S:Nat→Prop) (w:World) (hs:TabS w S A0 s.tabs) (hst:StS w S A st) (hch:ChgS w S AC l) (hS:∀ b,S b→b<w.heap.size) (h0:0<s.tabs.length) (hl:l.length≤1000) :
  Calls Tryz.prog 19 #[sAgg s.version A0 s.tabs.length c0',.int .i64 m,Zbn A st.length ca,.slice AC l.length cl] w (RapPost (Zcc (schF pcF s) s m st l) w):=by
 rw [←rapplyF_eq];have hsl:=hs.len;have hstl:=hst.len;have HS:=hI hs;have HST:=hI hst;have HCH:=hI hch;obtain⟨er,her⟩:∃ er,ZaL (schF pcF s) s m st=er:=⟨_,rfl⟩;have HER:=hI her;have HAP:=hI (show ZcK (schF pcF s) s m st l=if er≠0 then (er,[]) else Zby s m (Zal st) st l by unfold ZcK;rw [her]);clear hs hst hch her;have HB0:=hI ((((Below.refl w.heap.size w).alloc (Nat.le_refl _) (.cells #[.int .i64 s.version,.slice A0 s.tabs.length c0'] 28)).alloc (by simp) (.cells #[.slice A st.length ca] 33)).alloc (by simp;omega) (.cells #[.slice none 0 0] 33));go_enter Tryz.func19,Tryz.ntmps19
 go_wp2_with fail
 obtain⟨W0,hW0⟩:∃ W0,((w.alloc (.cells #[.int .i64 s.version,.slice A0 s.tabs.length c0'] 28)).alloc (.cells #[.slice A st.length ca] 33)).alloc (.cells #[.slice none 0 0] 33)=W0:=⟨_,rfl⟩
 have HB:=hI (show RaB w W0 s A0 c0' by
  rw [←hW0];exact⟨HB0.out,(Below.heap_alloc _ _ _ (by simp;omega)).trans ((Below.heap_alloc _ _ _ (by simp)).trans (heap_alloc_new w _)),by simpa using heap_alloc_new ((w.alloc (.cells #[.int .i64 s.version,.slice A0 s.tabs.length c0'] 28)).alloc (.cells #[.slice A st.length ca] 33)) (.cells #[.slice none 0 0] 33)⟩)
 have TB:=hI (show W0.heap[w.heap.size+1]?=some (.cells #[.slice A st.length ca] 33 (0,0)) by rw [←hW0];exact(Below.heap_alloc _ _ _ (by simp)).trans (by simpa using heap_alloc_new (w.alloc (.cells #[.int .i64 s.version,.slice A0 s.tabs.length c0'] 28)) (.cells #[.slice A st.length ca] 33)));have hz0:W0.heap.size≤w.heap.size+3∧w.heap.size+3≤W0.heap.size:=(by rw [←hW0];simp);rw [hW0];clear hW0 HB0;have HSM:=hI (show Same S w W0 from Same.of_below HB.out.bel hS);refine(rchk_any A0 c0' s m A ca st S W0 (HS.out.keep HSM.out) (HST.out.keep HSM.out) (fun b hb=>by have:=hS b hb;omega)).mono ?_;rintro e w1 ⟨rfl,hb1⟩;rw [HER.out];have hz1:=hb1.size;have HB1:=hI (show RaB w w1 s A0 c0' from ⟨HB.out.bel.trans (hb1.mono (by omega)),(hb1.block _ (by omega)).trans HB.out.sbx,(hb1.block _ (by omega)).trans HB.out.rbx⟩);have TB:=hI ((hb1.block (w.heap.size+1) (by omega)).trans TB.out);clear hb1 HB HSM
 by_cases he:er=0
 · subst he;have hck:=Zgv HER.out;have HOK:=hI (StOk.of_check HER.out);have HCT:=hI hck.1;have HLEN:=hI hck.2.1;have HAP2:=hI (show ZcK (schF pcF s) s m st l=Zby s m (Zal st) st l by rw [HAP.out,if_neg (by simp)])
   have HWD:=hI (show ∀ t,t<s.tabs.length→0<(s.tabs.getD t t0).cols.length from Zhp (pc:=pcF) (by
    have h9:=HER.out;unfold ZaL Zcq at h9
    by_cases h8:schF pcF s=0
    · exact h8
    · rw [if_pos h8,if_pos h8] at h9;exact h9))
   have HT8:=hI (show s.tabs.length≤8 from sch_few (pc:=pcF) (by
    have h9:=HER.out;unfold ZaL Zcq at h9
    by_cases h8:schF pcF s=0
    · exact h8
    · rw [if_pos h8,if_pos h8] at h9;exact h9))
   clear HAP HER hck;have t0:w1.cell? ⟨w.heap.size+1,0,none⟩=some (.slice A st.length ca):=Zaa TB.out 0 _ rfl;have hl1:w.heap.size+1<w1.heap.size:=(by omega);have HSM1:=hI (show Same S w w1 from Same.of_below HB1.out.bel hS)
   go_wp2_with fail
   refine(Zfh A ca st S w1 (HST.out.keep HSM1.out) (fun b hb=>by have:=hS b hb;omega)).mono ?_;rintro e w2 ⟨AC2,cc,rfl,hmk,hb2⟩;obtain⟨gt,rfl,hgt,-,hcc,hstc⟩:=StC.of_own hmk.own (by have:=HLEN.out;omega);have hz2:=hb2.size;have hgtl:=hstc.lt;obtain⟨W3,hW3⟩:∃ W3,w2.alloc (.cells #[.slice (some ⟨gt,0,none⟩) st.length cc] 33)=W3:=⟨_,rfl⟩;obtain⟨ob,hob⟩:∃ ob,w2.heap.size=ob:=⟨_,rfl⟩;have hb3:Below w2.heap.size w2 W3:=(by rw [←hW3];exact(Below.refl _ _).alloc (Nat.le_refl _) _);have hz3:W3.heap.size≤ob+1∧ob+1≤W3.heap.size:=(by rw [←hW3,←hob];simp)
   have HI:=hI (show RaI w W3 s A0 c0' gt ob st.length cc st from by
    refine⟨HB1.out.bel.trans ((hb2.mono (by omega)).trans (hb3.mono (by omega))),(hb3.block _ (by omega)).trans ((hb2.block _ (by omega)).trans HB1.out.sbx),(hb3.block _ (by omega)).trans ((hb2.block _ (by omega)).trans HB1.out.rbx),by rw [←hW3,←hob];exact heap_alloc_new w2 _,?_,by omega,by omega,by omega⟩;refine(hstc.below hb3).more (fun b hb=>?_) (fun b hb=>⟨hb.1,hb.2.1⟩);rcases hb with hb | hb
    · exact hb.elim
    · have h9:=hb.2.1;have h8:=hb.1;exact⟨by omega,fun e=>hb.2.2 (by rw [e];rfl),by omega,by omega⟩)
   have TB:=hI ((hb3.block (w.heap.size+1) (by omega)).trans ((hb2.block (w.heap.size+1) (by omega)).trans TB.out));have HCAP:=hI hcc;have t0:W3.cell? ⟨w.heap.size+1,0,none⟩=some (.slice A st.length ca):=Zaa TB.out 0 _ rfl;have hl1:w.heap.size+1<W3.heap.size:=(by omega);have hob3:ob<W3.heap.size:=(by omega);clear hmk hstc hgt hcc hb2 hb3 HB1 HSM1
   go_wp2_with fail
   try rw [hob]
   try rw [hW3]
   clear hW3 hob;have HSM3:=hI (show Same S w W3 from Same.of_below HI.out.bel hS);refine(rcountw_any A ca st S W3 (HST.out.keep HSM3.out) (fun b hb=>by have:=hS b hb;omega)).mono ?_;rintro e w4 ⟨rfl,hb4⟩;rw [show Zcn st=(Zal st:Int) from wrap_nat (by have:=HCT.out;omega)];have HI4:=hI (HI.out.below hb4);clear hb4 HI t0 TB HSM3;obtain⟨n0,hn0⟩:∃ n0,Zal st=n0:=⟨_,rfl⟩;have HN0:=hI hn0;rw [hn0] at HCT HAP2;rw [hn0];clear hn0;have hn512:n0≤512:=HCT.out
   go_wp2_with fail
   go_loopw [12,32] (fun nn i wr=>∃ (k:Nat) (q:Int) (cur:St),k≤l.length∧i=.int .i64 k∧nn=.int .i64 q∧RaI w wr s A0 c0' gt ob st.length cc cur∧StOk s m cur∧Zal cur≤512+k∧q≤512∧-(k:Int)≤q∧Zby s m n0 st l=Zby s m q cur (l.drop k)) (fun _ i _=>l.length - (intOf i).toNat)
   case atStart=>exact⟨0,n0,st,Nat.zero_le _,rfl,rfl,HI4.out,HOK.out,by have:=HN0.out;omega,by omega,by omega,rfl⟩
   case round =>
    clear HI4 HN0 HOK;obtain⟨wo,rfl⟩:∃ wo:World,wo=wr:=⟨_,rfl⟩;obtain⟨k,q,cur,hk,rfl,rfl,hri,hok,hcf,hq,hq0,htg⟩:=hrel;have HI:=hI hri;have HOK:=hI hok;have HCF:=hI hcf;have HTG:=hI htg;have HCL:=hI (show cur.length=st.length from hok.1.trans HLEN.out.symm);have hgl:gt<wo.heap.size:=hri.stc.lt;have hol:ob<wo.heap.size:=Zab hri.obx;have hwo:=hri.bel.size;have hgt3:=hri.gtlo;have hob3':=hri.oblo;have hgo:=hri.ne;clear hri hok hcf htg
    by_cases hkl:k<l.length
    · have hki:(k:Int)<l.length:=(by omega);obtain⟨b5,o5,rfl,hb5,f0,A1,c1,A2,c2,f1,g1,r1,f2,g2,r2⟩:=(HCH.out.keep (Same.of_below HI.out.bel hS)).at_ hkl;have hl5:b5<wo.heap.size:=(by have:=hS b5 hb5;omega);have HSTEP:=hI (applyL_step (s:=s) (m:=m) (n:=q) (st:=cur) hkl);have HO:=hI r1;have HN:=hI r2;have HO2:=hI (show ∀ wx,Below w.heap.size w wx→RowS wx S A1 (l.getD k chg0).old from fun wx hb=>r1.keep (fun b hb'=>(hb.block b (hS b hb')).trans (HI.out.bel.block b (hS b hb')).symm));have HN2:=hI (show ∀ wx,Below w.heap.size w wx→RowS wx S A2 (l.getD k chg0).new from fun wx hb=>r2.keep (fun b hb'=>(hb.block b (hS b hb')).trans (HI.out.bel.block b (hS b hb')).symm));have HG1:=hI g1;have HG2:=hI g2;have hol1:=r1.len;have hnl1:=r2.len;clear r1 r2 g1 g2;generalize l.getD k chg0=ch at f0 f1 f2 HSTEP HO HN HG1 HG2 hol1 hnl1 HO2 HN2;obtain⟨t,old,new⟩:=ch;simp only at f0 f1 f2 HSTEP HO HN HG1 HG2 hol1 hnl1 HO2 HN2;obtain⟨W5,hW5⟩:∃ W5,wo.alloc (.cells #[.int .i64 t,.slice A1 old.length c1,.slice A2 new.length c2] 44)=W5:=⟨_,rfl⟩;obtain⟨cb,hcb⟩:∃ cb,wo.heap.size=cb:=⟨_,rfl⟩;have hb5':Below wo.heap.size wo W5:=(by rw [←hW5];exact(Below.refl _ _).alloc (Nat.le_refl _) _);have CB:=hI (show W5.heap[cb]?=some (.cells #[.int .i64 t,.slice A1 old.length c1,.slice A2 new.length c2] 44 (0,0)) by rw [←hW5,←hcb];exact heap_alloc_new wo _);have hz5:W5.heap.size≤cb+1∧cb+1≤W5.heap.size:=(by rw [←hW5,←hcb];simp);have HI5:=hI (HI.out.below hb5');have hcbl:wo.heap.size≤cb∧cb≤wo.heap.size:=(by omega);have x0:W5.cell? ⟨w.heap.size,0,none⟩=some (.int .i64 s.version):=Zaa HI5.out.sbx 0 _ rfl;have x1:W5.cell? ⟨w.heap.size,1,none⟩=some (.slice A0 s.tabs.length c0'):=Zaa HI5.out.sbx 1 _ rfl;have y0:W5.cell? ⟨cb,0,none⟩=some (.int .i64 t):=Zaa CB.out 0 _ rfl;have y1:W5.cell? ⟨cb,1,none⟩=some (.slice A1 old.length c1):=Zaa CB.out 1 _ rfl;have y2:W5.cell? ⟨cb,2,none⟩=some (.slice A2 new.length c2):=Zaa CB.out 2 _ rfl;have hl0:w.heap.size<W5.heap.size:=(by omega);have hlcb:cb<W5.heap.size:=(by omega);clear hb5' HI
      go_wp2_with fail
      try rw [hcb]
      try rw [hW5]
      clear hW5 hcb f0 f1 f2;have HSM5:=hI (show Same S w W5 from Same.of_below HI5.out.bel hS);have HO5:=hI (show ∀ wx,Below W5.heap.size W5 wx→RowS wx S A1 old from fun wx hb=>HO2.out wx (HI5.out.below hb).bel);have HN5:=hI (show ∀ wx,Below W5.heap.size W5 wx→RowS wx S A2 new from fun wx hb=>HN2.out wx (HI5.out.below hb).bel);have HS5:=hI (show ∀ wx,Below W5.heap.size W5 wx→TabS wx S A0 s.tabs from fun wx hb=>HS.out.keep (Same.of_below (HI5.out.below hb).bel hS));have hSW:∀ b,S b→b<W5.heap.size:=(fun b hb=>by have:=hS b hb;omega);refine(rvalidC_any A0 c0' s m ⟨t,old,new⟩ A1 c1 A2 c2 S W5 (HS5.out _ (Below.refl _ _)) (HO5.out _ (Below.refl _ _)) HG1.out (HN5.out _ (Below.refl _ _)) HG2.out hSW).mono ?_;rintro e w6 ⟨rfl,hb6⟩;have HB6:=hI hb6;have hz6:=hb6.size;have HI6:=hI (HI5.out.below hb6);have CB6:=hI ((hb6.block cb hlcb).trans CB.out);clear hb6 x0 x1 y0 y1 y2
      by_cases hv:Zan s m ⟨t,old,new⟩=true
      · obtain⟨tt,ett,htt⟩:=Zhk hv;simp only at ett;subst ett;have HV:=hI hv;rw [hv];clear hv;have x0:w6.cell? ⟨w.heap.size,0,none⟩=some (.int .i64 s.version):=Zaa HI6.out.sbx 0 _ rfl;have x1:w6.cell? ⟨w.heap.size,1,none⟩=some (.slice A0 s.tabs.length c0'):=Zaa HI6.out.sbx 1 _ rfl;have y0:w6.cell? ⟨cb,0,none⟩=some (.int .i64 tt):=Zaa CB6.out 0 _ rfl;have y1:w6.cell? ⟨cb,1,none⟩=some (.slice A1 old.length c1):=Zaa CB6.out 1 _ rfl;have y2:w6.cell? ⟨cb,2,none⟩=some (.slice A2 new.length c2):=Zaa CB6.out 2 _ rfl;have hl0:w.heap.size<w6.heap.size:=(by omega);have hlcb6:cb<w6.heap.size:=by omega
        go_wp2_with fail
        refine(rkeyOf_any A0 c0' s ⟨tt,old,new⟩ A1 c1 A2 c2 S w6 (HS5.out _ HB6.out) (HO5.out _ HB6.out) HG1.out (HN5.out _ HB6.out) HG2.out (fun b hb=>by have:=hSW b hb;omega)).mono ?_;rintro e w7 ⟨KA,kc,rfl,hka,hb7⟩;obtain⟨key,hkey⟩:∃ key,keyC s ⟨tt,old,new⟩=key:=⟨_,rfl⟩
        have HKOK:=hI (show RowOk key by
         rw [←hkey];unfold keyC;split
         · exact Zbh HO.out.ok
         · exact Zbh HN.out.ok)
        rw [hkey] at hka HSTEP ⊢;have HKEY:=hI hkey;have HKA:=hI (Zay hka HKOK.out (Nat.le_refl _)).2;have hz7:=hb7.size;have HI7:=hI (HI6.out.below hb7);have HB7:=hI (HB6.out.trans (hb7.mono (by omega)));have CB7:=hI ((hb7.block cb (by omega)).trans CB6.out);clear hka hb7 x0 x1 y0 y1 y2 hkey hl0 hlcb6;have x0:w7.cell? ⟨w.heap.size,0,none⟩=some (.int .i64 s.version):=Zaa HI7.out.sbx 0 _ rfl;have x1:w7.cell? ⟨w.heap.size,1,none⟩=some (.slice A0 s.tabs.length c0'):=Zaa HI7.out.sbx 1 _ rfl;have y0:w7.cell? ⟨cb,0,none⟩=some (.int .i64 tt):=Zaa CB7.out 0 _ rfl;have z0:w7.cell? ⟨ob,0,none⟩=some (.slice (some ⟨gt,0,none⟩) st.length cc):=Zaa HI7.out.obx 0 _ rfl;have hl0:w.heap.size<w7.heap.size:=(by omega);have hlcb7:cb<w7.heap.size:=(by omega);have hlob7:ob<w7.heap.size:=(by omega);have hget:=ZeR A0 c0' s (some ⟨gt,0,none⟩) cc cur (tt:Int) KA kc key (fun b=>b<w7.heap.size) w7 ((HS5.out _ HB7.out).more (fun b hb=>by have:=hSW b hb;show b<w7.heap.size;omega)) (HI7.out.stc.slice (by have:=HCL.out;omega) (fun b hb=>hb.1) (by show gt<w7.heap.size;omega)) (HKA.out.more (fun b hb=>hb.2)) (fun b hb=>hb);obtain⟨go,hgo2⟩:∃ go,getS s cur (tt:Int) key=go:=⟨_,rfl⟩;rw [hgo2,HCL.out] at hget;rw [hgo2] at HSTEP;have HGO:=hI hgo2;clear hgo2
        go_wp2_with fail
        refine hget.mono ?_;rintro e w8 ⟨GA,gc,rfl,hga,hb8⟩;clear hget;have HGOK:=hI (show RowOk (go.getD []) by rw [←HGO.out];exact getS_rowOk (HI7.out.stc.slice (S':=fun b=>b<w7.heap.size) (by have:=HCL.out;omega) (fun b hb=>hb.1) (by show gt<w7.heap.size;omega)));have HGA:=hI (Zay hga HGOK.out (Nat.le_refl _)).2;have hz8:=hb8.size;have HI8:=hI (HI7.out.below hb8);have HB8:=hI (HB7.out.trans (hb8.mono (by omega)));have CB8:=hI ((hb8.block cb (by omega)).trans CB7.out);have HKA:=hI ((show RowS w7 (fun b=>w6.heap.size≤b∧b<w7.heap.size) KA key from HKA.out).keep (w':=w8) (fun b hb=>hb8.block b hb.2));obtain⟨gr,hgr⟩:∃ gr,go.getD []=gr:=⟨_,rfl⟩;rw [hgr] at HGA HSTEP HGOK ⊢;have HGR:=hI hgr;clear hga hb8 x0 x1 y0 z0 hl0 hlcb7 hlob7 hgr;have y1:w8.cell? ⟨cb,1,none⟩=some (.slice A1 old.length c1):=Zaa CB8.out 1 _ rfl;have hlcb8:cb<w8.heap.size:=by omega
        go_wp2_with fail
        refine(Zbj GA A1 gc c1 gr old (fun b=>b<w8.heap.size) w8 (HGA.out.more (fun b hb=>hb.2)) ((HO5.out _ HB8.out).more (fun b hb=>by have:=hSW b hb;show b<w8.heap.size;omega)) (fun b hb=>hb)).mono ?_;rintro e w9 ⟨rfl,hb9⟩;have hz9:=hb9.size;have HI9:=hI (HI8.out.below hb9);have HB9:=hI (HB8.out.trans (hb9.mono (by omega)));have CB9:=hI ((hb9.block cb (by omega)).trans CB8.out);have HKA:=hI ((show RowS w8 (fun b=>w6.heap.size≤b∧b<w7.heap.size) KA key from HKA.out).keep (w':=w9) (fun b hb=>hb9.block b (by have:=hb.2;omega)));clear hb9 y1 hlcb8
        by_cases hc:cmpR gr old=0
        · have HSE:=hI (ZhI (c:=⟨tt,old,new⟩) HWD.out HOK.out HV.out);have HFIT:=hI (HSE.out.1.1 (by show cmpR ((getS s cur (tt:Int) (keyC s ⟨tt,old,new⟩)).getD []) old=0;rw [HKEY.out,HGO.out,HGR.out];exact hc));have HPR:=hI (show st_set cur tt (putR s (tt:Int) key new (cur.getD tt []))=Zcl s cur ⟨tt,old,new⟩ by have h9:=HSE.out.2.2;simp only [Int.toNat_natCast,HKEY.out] at h9;unfold Zcl st_set;simp only [Int.toNat_natCast];rw [h9])
          have HSTEP2:=hI (show Zby s m q cur (l.drop k)=if 512<cntC q ⟨tt,old,new⟩ then (2,[]) else Zby s m (cntC q ⟨tt,old,new⟩) (Zcl s cur ⟨tt,old,new⟩) (l.drop (k+1)) by
           rw [HSTEP.out,HV.out,if_neg (by simp),if_neg (by simpa using hc)];simp only [Int.toNat_natCast];rw [show cur.set tt (putR s (tt:Int) key new (cur.getD tt []))=Zcl s cur ⟨tt,old,new⟩ from HPR.out])
          rw [hc];clear hc HSTEP HSE;have y1:w9.cell? ⟨cb,1,none⟩=some (.slice A1 old.length c1):=Zaa CB9.out 1 _ rfl;have y2:w9.cell? ⟨cb,2,none⟩=some (.slice A2 new.length c2):=Zaa CB9.out 2 _ rfl;have y0:w9.cell? ⟨cb,0,none⟩=some (.int .i64 tt):=Zaa CB9.out 0 _ rfl;have x0:w9.cell? ⟨w.heap.size,0,none⟩=some (.int .i64 s.version):=Zaa HI9.out.sbx 0 _ rfl;have x1:w9.cell? ⟨w.heap.size,1,none⟩=some (.slice A0 s.tabs.length c0'):=Zaa HI9.out.sbx 1 _ rfl;have z0:w9.cell? ⟨ob,0,none⟩=some (.slice (some ⟨gt,0,none⟩) st.length cc):=Zaa HI9.out.obx 0 _ rfl;have hlcb9:cb<w9.heap.size:=(by omega);have hl9:w.heap.size<w9.heap.size:=(by omega);have hlo9:ob<w9.heap.size:=(by omega);have w1i:IntKind.i64.wrap (q+1)=q+1:=IntWalk.i64_in _ (by omega);have w2i:IntKind.i64.wrap (q - 1)=q - 1:=IntWalk.i64_in _ (by omega);have hput:=ZbW A0 c0' s gt cc cur tt KA kc key A2 c2 new (RaX w w9 gt ob) w9 ((HS5.out _ HB9.out).more (fun b hb=>HI9.out.old (hS b hb))) HI9.out.stc (HKA.out.more (fun b hb=>⟨by have:=hb.2;omega,by have:=hb.1;omega,by have:=hb.1;omega,by have:=hb.1;omega⟩)) ((HN5.out _ HB9.out).more (fun b hb=>HI9.out.old (hS b hb))) htt (by have:=HCL.out;have:=HLEN.out;omega) (by have h9:=ZdE cur tt;have:=HCF.out;omega) (by have:=HCL.out;have:=HLEN.out;have:=HT8.out;omega);rw [HCL.out,show cur.set tt (putR s (tt:Int) key new (cur.getD tt []))=Zcl s cur ⟨tt,old,new⟩ from HPR.out] at hput;have HPUT:=hI hput;have HNX:=hI (Zcd HOK.out HV.out);clear hput
          by_cases ho0:old.length=0
          · have hn0:¬ new.length=0:=(fun hn0=>by have h9:=HV.out;unfold Zan at h9;simp [ho0,hn0] at h9);have HQ:=hI (show cntC q ⟨tt,old,new⟩=q+1 by unfold cntC;rw [if_neg hn0,if_pos ho0]);have hd1:((old.length:Int) == 0)=true:=(by simp [ho0]);have hd2:((new.length:Int) == 0)=false:=beq_false_of_ne (by omega);clear ho0 hn0;have HSTEP3:=HSTEP2;rw [HQ.out] at HSTEP3
            by_cases h512:512<q+1
            · have hd3:decide (512<q+1)=true:=decide_eq_true h512;have HF:=hI (show ZcK (schF pcF s) s m st l=(2,[]) by rw [HAP2.out,HTG.out,HSTEP3.out,if_pos h512]);have rc:=Zaa HI9.out.rbx 0 _ rfl;have rf:w9.frozen? ⟨w.heap.size+2,0,none⟩=false:=(by simp [World.frozen?,HI9.out.rbx]);have rl:w.heap.size+2<w9.heap.size:=Zab HI9.out.rbx
              go_wp2_with fail
              have r0:(w9.setCell ⟨w.heap.size+2,0,none⟩ (.slice none 0 0)).cell? ⟨w.heap.size+2,0,none⟩=some (.slice none 0 0):=World.cell?_setCell_same _ _ _ rc;refine bodyPost_ret (v:=.tuple #[.agg #[.slice none 0 0],.int .i64 2]) (by simp [results,Tryz.results19,go_sem,r0]) rfl ?_;exact RapPost.err HF.out (HI9.out.bel.setCell (by show w.heap.size≤w.heap.size+2;omega) _)
            · have hd3:decide (512<q+1)=false:=decide_eq_false h512;have HT3:=hI (show Zby s m n0 st l=Zby s m (q+1) (Zcl s cur ⟨tt,old,new⟩) (l.drop (k+1)) by rw [HTG.out,HSTEP3.out,if_neg h512])
              go_wp2_with fail
              refine HPUT.out.mono ?_;rintro e wP ⟨rfl,hsp,hfp⟩;have HNI:=hI (HI9.out.put hfp hsp);have obP:=hI ((hfp.block ob hlo9 (Ne.symm hgo)).trans HI9.out.obx);have hlP:ob<wP.heap.size:=(by have:=hfp.size;omega);have zP:wP.cell? ⟨ob,0,none⟩=some (.slice (some ⟨gt,0,none⟩) st.length cc):=Zaa obP.out 0 _ rfl;have fP:wP.frozen? ⟨ob,0,none⟩=false:=(by simp [World.frozen?,obP.out]);clear hsp hfp x0 x1 y0 y1 y2 z0
              go_wp2_with fail
              go_roundw
              case rel=>exact⟨k+1,q+1,Zcl s cur ⟨tt,old,new⟩,by omega,by go_num,by first | rfl | go_num,HNI.out,HNX.out.1,by have:=HNX.out.2;have:=HCF.out;omega,by omega,by omega,HT3.out⟩
              case measure=>simp [intOf];omega
          have hd1:((old.length:Int) == 0)=false:=beq_false_of_ne (by omega)
          by_cases hn0:new.length=0
          · have HQ:=hI (show cntC q ⟨tt,old,new⟩=q - 1 by unfold cntC;rw [if_pos hn0,if_neg ho0]);have hd2:((new.length:Int) == 0)=true:=(by simp [hn0]);clear ho0 hn0;have HSTEP3:=HSTEP2;rw [HQ.out] at HSTEP3
            by_cases h512:512<q - 1
            · exact absurd h512 (by omega)
            · have hd3:decide (512<q - 1)=false:=decide_eq_false h512;have HT3:=hI (show Zby s m n0 st l=Zby s m (q - 1) (Zcl s cur ⟨tt,old,new⟩) (l.drop (k+1)) by rw [HTG.out,HSTEP3.out,if_neg h512])
              go_wp2_with fail
              refine HPUT.out.mono ?_;rintro e wP ⟨rfl,hsp,hfp⟩;have HNI:=hI (HI9.out.put hfp hsp);have obP:=hI ((hfp.block ob hlo9 (Ne.symm hgo)).trans HI9.out.obx);have hlP:ob<wP.heap.size:=(by have:=hfp.size;omega);have zP:wP.cell? ⟨ob,0,none⟩=some (.slice (some ⟨gt,0,none⟩) st.length cc):=Zaa obP.out 0 _ rfl;have fP:wP.frozen? ⟨ob,0,none⟩=false:=(by simp [World.frozen?,obP.out]);clear hsp hfp x0 x1 y0 y1 y2 z0
              go_wp2_with fail
              go_roundw
              case rel=>exact⟨k+1,q - 1,Zcl s cur ⟨tt,old,new⟩,by omega,by go_num,by first | rfl | go_num,HNI.out,HNX.out.1,by have:=HNX.out.2;have:=HCF.out;omega,by omega,by omega,HT3.out⟩
              case measure=>simp [intOf];omega
          · have HQ:=hI (show cntC q ⟨tt,old,new⟩=q by unfold cntC;rw [if_neg hn0,if_neg ho0]);have hd2:((new.length:Int) == 0)=false:=beq_false_of_ne (by omega);clear ho0 hn0;have HSTEP3:=HSTEP2;rw [HQ.out] at HSTEP3
            by_cases h512:512<q
            · exact absurd h512 (by omega)
            · have hd3:decide (512<q)=false:=decide_eq_false h512;have HT3:=hI (show Zby s m n0 st l=Zby s m (q) (Zcl s cur ⟨tt,old,new⟩) (l.drop (k+1)) by rw [HTG.out,HSTEP3.out,if_neg h512])
              go_wp2_with fail
              refine HPUT.out.mono ?_;rintro e wP ⟨rfl,hsp,hfp⟩;have HNI:=hI (HI9.out.put hfp hsp);have obP:=hI ((hfp.block ob hlo9 (Ne.symm hgo)).trans HI9.out.obx);have hlP:ob<wP.heap.size:=(by have:=hfp.size;omega);have zP:wP.cell? ⟨ob,0,none⟩=some (.slice (some ⟨gt,0,none⟩) st.length cc):=Zaa obP.out 0 _ rfl;have fP:wP.frozen? ⟨ob,0,none⟩=false:=(by simp [World.frozen?,obP.out]);clear hsp hfp x0 x1 y0 y1 y2 z0
              go_wp2_with fail
              go_roundw
              case rel=>exact⟨k+1,q,Zcl s cur ⟨tt,old,new⟩,by omega,by go_num,by first | rfl | go_num,HNI.out,HNX.out.1,by have:=HNX.out.2;have:=HCF.out;omega,by omega,by omega,HT3.out⟩
              case measure=>simp [intOf];omega
        · have hcb':(cmpR gr old != 0)=true:=(by simp [hc]);have HF:=hI (show ZcK (schF pcF s) s m st l=(81,[]) by rw [HAP2.out,HTG.out,HSTEP.out,HV.out,if_neg (by simp),if_pos hc]);clear hc HSTEP;generalize cmpR gr old=cv at hcb';have rc:=Zaa HI9.out.rbx 0 _ rfl;have rf:w9.frozen? ⟨w.heap.size+2,0,none⟩=false:=(by simp [World.frozen?,HI9.out.rbx]);have rl:w.heap.size+2<w9.heap.size:=Zab HI9.out.rbx
          go_wp2_with fail
          have r0:(w9.setCell ⟨w.heap.size+2,0,none⟩ (.slice none 0 0)).cell? ⟨w.heap.size+2,0,none⟩=some (.slice none 0 0):=World.cell?_setCell_same _ _ _ rc;refine bodyPost_ret (v:=.tuple #[.agg #[.slice none 0 0],.int .i64 81]) (by simp [results,Tryz.results19,go_sem,r0]) rfl ?_;exact RapPost.err HF.out (HI9.out.bel.setCell (by show w.heap.size≤w.heap.size+2;omega) _)
      · have hv':Zan s m ⟨t,old,new⟩=false:=(by simpa using hv);have HF:=hI (show ZcK (schF pcF s) s m st l=(71,[]) by rw [HAP2.out,HTG.out,HSTEP.out,if_pos hv']);rw [hv'];clear hv hv';have rc:=Zaa HI6.out.rbx 0 _ rfl;have rf:w6.frozen? ⟨w.heap.size+2,0,none⟩=false:=(by simp [World.frozen?,HI6.out.rbx]);have rl:w.heap.size+2<w6.heap.size:=Zab HI6.out.rbx
        go_wp2_with fail
        have r0:(w6.setCell ⟨w.heap.size+2,0,none⟩ (.slice none 0 0)).cell? ⟨w.heap.size+2,0,none⟩=some (.slice none 0 0):=World.cell?_setCell_same _ _ _ rc;refine bodyPost_ret (v:=.tuple #[.agg #[.slice none 0 0],.int .i64 71]) (by simp [results,Tryz.results19,go_sem,r0]) rfl ?_;exact RapPost.err HF.out (HI6.out.bel.setCell (by show w.heap.size≤w.heap.size+2;omega) _)
    · have hki:¬ (k:Int)<l.length:=(by omega);have HF:=hI (show ZcK (schF pcF s) s m st l=(0,cur) by rw [HAP2.out,HTG.out,List.drop_eq_nil_of_le (by omega)];rfl);have z0:wo.cell? ⟨ob,0,none⟩=some (.slice (some ⟨gt,0,none⟩) st.length cc):=Zaa HI.out.obx 0 _ rfl;have rc:=Zaa HI.out.rbx 0 _ rfl;have rf:wo.frozen? ⟨w.heap.size+2,0,none⟩=false:=(by simp [World.frozen?,HI.out.rbx]);have rl:w.heap.size+2<wo.heap.size:=Zab HI.out.rbx
      go_wp2_with fail
      have r0:(wo.setCell ⟨w.heap.size+2,0,none⟩ (.slice (some ⟨gt,0,none⟩) st.length cc)).cell? ⟨w.heap.size+2,0,none⟩=some (.slice (some ⟨gt,0,none⟩) st.length cc):=World.cell?_setCell_same _ _ _ rc;refine bodyPost_ret (v:=.tuple #[.agg #[.slice (some ⟨gt,0,none⟩) st.length cc],.int .i64 0]) (by simp [results,Tryz.results19,go_sem,r0]) rfl ?_;rw [HF.out];refine⟨some ⟨gt,0,none⟩,cc,by simp only [HCL.out],by have:=HCAP.out;have:=HCL.out;simp only;omega,?_,HI.out.bel.setCell (by show w.heap.size≤w.heap.size+2;omega) _⟩;have hne:∀ b,b≠w.heap.size+2→(wo.setCell ⟨w.heap.size+2,0,none⟩ (.slice (some ⟨gt,0,none⟩) st.length cc)).heap[b]?=wo.heap[b]?:=fun b hb=>Below.heap_setCell wo ⟨w.heap.size+2,0,none⟩ _ b hb;exact(HI.out.stc.keep (by simp) (fun b hb=>hne b hb.2.2.2) (hne gt (by omega))).slice (by have:=HCL.out;omega) (fun b hb=>by simp;exact hb.1) (by show gt<_;simp;omega)
 · have hd:(er != 0)=true:=(by simpa using he);have HF:=hI (show ZcK (schF pcF s) s m st l=(er,[]) by rw [HAP.out,if_pos he]);clear he;have rc:=Zaa HB1.out.rbx 0 _ rfl;have rf:w1.frozen? ⟨w.heap.size+2,0,none⟩=false:=(by simp [World.frozen?,HB1.out.rbx]);have rl:w.heap.size+2<w1.heap.size:=Zab HB1.out.rbx
   go_wp2_with fail
   have r0:(w1.setCell ⟨w.heap.size+2,0,none⟩ (.slice none 0 0)).cell? ⟨w.heap.size+2,0,none⟩=some (.slice none 0 0):=World.cell?_setCell_same _ _ _ rc;refine bodyPost_ret (v:=.tuple #[.agg #[.slice none 0 0],.int .i64 er]) (by simp [results,Tryz.results19,go_sem,r0]) rfl ?_;exact RapPost.err HF.out (HB1.out.bel.setCell (by show w.heap.size≤w.heap.size+2;omega) _)
end Go.Proofs.YtkpjjfhfbpfjpaaGreat

