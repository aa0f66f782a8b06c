import Derived.Test.YtkpjjfhfbpfjpaaGreatKd9b46f
import Derived.Test.YtkpjjfhfbpfjpaaGreatK9a854c
set_option linter.unusedVariables false
set_option linter.unusedSimpArgs false
set_option maxRecDepth 100000
set_option maxHeartbeats 8000000
namespace Go.Proofs.YtkpjjfhfbpfjpaaGreat
open Go.RowKit
def SchPost (w:World) (g:Nat) (e:Ending) (w':World):Prop:=∃ (s:Sch) (A:Option Addr) (c:Nat),e=.returned (sAgg s.version A s.tabs.length c)∧GenS s∧s.tabs.length≤c∧TabS w' (fun b=>w.heap.size<b∧b<w'.heap.size) A s.tabs∧CaseOk w' g∧w.grownBy w' (some g)
theorem kinds_gen {v idk:Int} {R1 R2 R3:List Rfr} {ck:List Pred} {n:Nat} (h2:2≤n) (h4:n≤4):ZaM (⟨v,(Zat idk R1 R2 R3 ck).take n⟩:Sch) 1=[idk,4,5,3]:=by
 have hn:n=2∨n=3∨n=4:=(by omega);rcases hn with rfl | rfl | rfl<;>rfl
theorem schema_any (g:Nat) (w:World) (hc:CaseOk w g):Calls Tryz.prog 10 #[.pointer (some ⟨g,0,none⟩)] w (SchPost w g):=by
 have hgl:=hc.lt;have HC0:=hI (hc.keep (w':=w.alloc (.cells #[.int .i64 0,.slice none 0 0] 28)) (fun b hb=>Below.heap_alloc _ _ _ (by omega)));have hza:(w.alloc (.cells #[.int .i64 0,.slice none 0 0] 28)).heap.size=w.heap.size+1:=(by simp);have HG0:=hI (World.grownBy_alloc w (.cells #[.int .i64 0,.slice none 0 0] 28) (some g));have HR0:=hI (heap_alloc_new w (.cells #[.int .i64 0,.slice none 0 0] 28));clear hc;go_enter Tryz.func10,Tryz.ntmps10
 go_wp2_with fail
 refine(ZaF g 3 _ (by omega) HC0.out).mono ?_;rintro e w1 ⟨r,rfl,h0,h1,-,hc1,hg1,hs1⟩;have hr:=h1 (by omega);obtain⟨n,hn⟩:∃ n:Nat,2+r=n:=⟨(2+r).toNat,by omega⟩;have hn2:2≤n:=(by omega);have hn4:n≤4:=(by omega);have HC:=hI hc1;have HG:=hI (HG0.out.trans hg1);have HR:=hI ((hg1.block w.heap.size (by omega) (by intro e;injection e with e;omega)).trans HR0.out);have hz1:w1.heap.size=w.heap.size+1:=(by omega);clear hc1 hg1 hs1 h1 HC0 HG0 HR0
 go_wp2_with fail
 refine(ZaD g 5 _ (by omega) (by omega) HC.out).mono ?_;rintro e w2 ⟨bi,rfl,hcb,hgb,hsb⟩;have HC:=hI hcb;have HR:=hI ((hgb.block w.heap.size (by omega) (by intro e;injection e with e;omega)).trans HR.out);have HG:=hI (HG.out.trans hgb);have hz2:w2.heap.size=w.heap.size+1:=(by omega);clear hcb hgb hsb;go_upto_if 10 with fail
 go_cut [4] (fun v W=>∃ idk:Int,v=.int .i64 idk∧(idk=4∨idk=5)∧W=w2)
 case first =>
  cases bi
  · go_wp2_with fail
    go_meet;exact⟨4,rfl,.inl rfl,rfl⟩
  · go_wp2_with fail
    go_meet;exact⟨5,rfl,.inr rfl,rfl⟩
 case rest =>
  obtain⟨idk,rfl,hidk,rfl⟩:=hcut;have HID:=hI hidk;clear hidk
  go_wp2_with fail
  refine(ZaF g 3 _ (by omega) HC.out).mono ?_;rintro e w3 ⟨v,rfl,v0',v1,-,hc1,hg1,hs1⟩;have hv:=v1 (by omega);have HC:=hI hc1;have HR:=hI ((hg1.block w.heap.size (by omega) (by intro e;injection e with e;omega)).trans HR.out);have HG:=hI (HG.out.trans hg1);have HZ3:=hI (show w3.heap.size=w.heap.size+1 by omega);clear hc1 hg1 hs1 v1 hz1 hz2
  go_wp2_with (go_at_call 40;refine(column_any _ _ _).mono ?_;rintro e w' ⟨rfl,rfl⟩)
  change Calls Tryz.prog _ _ ((genOs v idk n w3.heap.size).foldl World.alloc w3) _;obtain⟨W,hW⟩:∃ W,(genOs v idk n w3.heap.size).foldl World.alloc w3=W:=⟨_,rfl⟩;obtain⟨hsi,hzW⟩:=schI_start HZ3.out hgl hW HC.out HG.out HR.out;rw [hW];have HI:=hI hsi;clear hW hsi HC HG HR hzW;refine(ZaD g 2 _ (by omega) (by omega) HI.out.case).mono ?_;rintro e wa ⟨bb,rfl,hcb,hgb,hsb⟩;have HI:=hI (HI.out.keep hgb hcb);clear hcb hgb hsb;go_upto_if 40 with fail
  go_cut [5] (fun p W=>∃ TB bq,p=.pointer (some ⟨TB+1,0,none⟩)∧SchI w W g TB n v idk bq false false [])
  case first =>
   cases bb
   · go_wp2_with fail
     go_meet;exact⟨w3.heap.size+13,false,rfl,HI.out⟩
   · obtain⟨⟨x8,hx8⟩,hf8⟩:=HI.out.cell (k:=8) (by omega);have s1:wa.cell? ⟨w3.heap.size+1+1+1+1+1+1+1+1+1+1+1+1+1+1,1,none⟩=some (.slice (some ⟨w3.heap.size+13,0,none⟩) n 4):=Zaa HI.out.sb 1 _ rfl;have hlT:w3.heap.size+13<wa.heap.size:=(by obtain⟨_,q,_⟩:=HI.out.tb;exact Zad q);have hlS:w3.heap.size+1+1+1+1+1+1+1+1+1+1+1+1+1+1<wa.heap.size:=Zad HI.out.sb;have hlT2:w3.heap.size+13<wa.heap.size+1:=(by omega);have hlS2:w3.heap.size+1+1+1+1+1+1+1+1+1+1+1+1+1+1<wa.heap.size+1:=(by omega);have hlo:w.heap.size<wa.heap.size:=by have:=HI.out.lo;omega
     go_wp2_with fail
     go_meet;have hb:Below wa.heap.size wa ((wa.alloc (.cells #[.int .i64 1] 3)).alloc (.cells #[.slice (some ⟨wa.heap.size,0,none⟩) 1 1,.int .i64 0] 87)):=((Below.refl _ _).alloc nR _).alloc (by simp) _;have hfin:=(HI.out.below hb).ref1 nR (Zhp hlo hlS hgl);rw [World.setCell_alloc_past _ _ _ _ (by simp;omega),World.setCell_alloc_past _ _ _ _ (by omega)] at hfin;exact⟨w3.heap.size+13,true,rfl,hfin⟩
  case rest =>
  obtain⟨TB,b1,rfl,hi1⟩:=hcut;have HI:=hI hi1;clear hi1;obtain⟨wp,hwp⟩:∃ wp,wc=wp:=⟨_,rfl⟩;rw [hwp] at HI ⊢;clear hwp;go_upto_region 9 with fail
  go_cut [5,53] (fun p b W=>∃ bb,p=.pointer (some ⟨TB+1,0,none⟩)∧b=.bool bb∧(bb=true→2<n)∧SchI w W g TB n v idk b1 false false [])
  case first =>
   by_cases hcn:2<n
   · have hcn':((2:Nat):Int)<(n:Int):=by omega
     go_wp2_with fail
     refine(ZaD g 3 _ (by omega) (by omega) HI.out.case).mono ?_;rintro e wa ⟨bb,rfl,hcb,hgb,hsb⟩;have HI:=hI (HI.out.keep hgb hcb);clear hcb hgb hsb
     go_wp2_with fail
     go_meet;exact⟨bb,rfl,rfl,fun _=>hcn,HI.out⟩
   · have hcn':decide ((2:Int)<(n:Int))=false:=decide_eq_false (by omega);have hcn2:decide (2<n)=false:=decide_eq_false hcn
     go_wp2_with fail
     go_meet;exact⟨false,rfl,rfl,(fun h=>by cases h),HI.out⟩
  case rest =>
  obtain⟨bb,rfl,rfl,hbn,hi1⟩:=hcut;have HBN:=hI hbn;have HI:=hI hi1;clear hi1 hbn;obtain⟨wp,hwp⟩:∃ wp,wc=wp:=⟨_,rfl⟩;rw [hwp] at HI ⊢;clear hwp;go_upto_if 53 with fail
  go_cut [5] (fun p W=>∃ bq,p=.pointer (some ⟨TB+1,0,none⟩)∧SchI w W g TB n v idk b1 bq false [])
  case first =>
   cases bb
   · go_wp2_with fail
     go_meet;exact⟨false,rfl,HI.out⟩
   · have hcn:=HBN.out rfl;obtain⟨⟨x8,hx8⟩,hf8⟩:=HI.out.cell (k:=13) (by omega);have s1:wp.cell? ⟨TB+1,1,none⟩=some (.slice (some ⟨TB,0,none⟩) n 4):=Zaa HI.out.sb 1 _ rfl;have hlT:TB<wp.heap.size:=(by obtain⟨_,q,_⟩:=HI.out.tb;exact Zad q);have hlS:TB+1<wp.heap.size:=Zad HI.out.sb;have hlT2:TB<wp.heap.size+1:=(by omega);have hlS2:TB+1<wp.heap.size+1:=(by omega);have hlo:w.heap.size<wp.heap.size:=by have:=HI.out.lo;omega
     go_wp2_with fail
     go_meet;have hb:Below wp.heap.size wp ((wp.alloc (.cells #[.int .i64 0] 3)).alloc (.cells #[.slice (some ⟨wp.heap.size,0,none⟩) 1 1,.int .i64 0] 87)):=((Below.refl _ _).alloc nR _).alloc (by simp) _;have hfin:=(HI.out.below hb).ref2 nR (Zhp hlo hlS hgl);rw [World.setCell_alloc_past _ _ _ _ (by simp;omega),World.setCell_alloc_past _ _ _ _ (by omega)] at hfin;exact⟨true,rfl,hfin⟩
  case rest =>
  obtain⟨b2,rfl,hi1⟩:=hcut;have HI:=hI hi1;clear hi1;obtain⟨wp,hwp⟩:∃ wp,wc=wp:=⟨_,rfl⟩;rw [hwp] at HI ⊢;clear hwp;go_upto_region 11 with fail
  go_cut [5,66] (fun p b W=>∃ bb,p=.pointer (some ⟨TB+1,0,none⟩)∧b=.bool bb∧(bb=true→3<n)∧SchI w W g TB n v idk b1 b2 false [])
  case first =>
   by_cases hcn:3<n
   · have hcn':((3:Nat):Int)<(n:Int):=by omega
     go_wp2_with fail
     refine(ZaD g 3 _ (by omega) (by omega) HI.out.case).mono ?_;rintro e wa ⟨bb,rfl,hcb,hgb,hsb⟩;have HI:=hI (HI.out.keep hgb hcb);clear hcb hgb hsb
     go_wp2_with fail
     go_meet;exact⟨bb,rfl,rfl,fun _=>hcn,HI.out⟩
   · have hcn':decide ((3:Int)<(n:Int))=false:=decide_eq_false (by omega);have hcn2:decide (3<n)=false:=decide_eq_false hcn
     go_wp2_with fail
     go_meet;exact⟨false,rfl,rfl,(fun h=>by cases h),HI.out⟩
  case rest =>
  obtain⟨bb,rfl,rfl,hbn,hi1⟩:=hcut;have HBN:=hI hbn;have HI:=hI hi1;clear hi1 hbn;obtain⟨wp,hwp⟩:∃ wp,wc=wp:=⟨_,rfl⟩;rw [hwp] at HI ⊢;clear hwp;go_upto_if 66 with fail
  go_cut [5] (fun p W=>∃ bq,p=.pointer (some ⟨TB+1,0,none⟩)∧SchI w W g TB n v idk b1 b2 bq [])
  case first =>
   cases bb
   · go_wp2_with fail
     go_meet;exact⟨false,rfl,HI.out⟩
   · have hcn:=HBN.out rfl;obtain⟨⟨x8,hx8⟩,hf8⟩:=HI.out.cell (k:=18) (by omega);have s1:wp.cell? ⟨TB+1,1,none⟩=some (.slice (some ⟨TB,0,none⟩) n 4):=Zaa HI.out.sb 1 _ rfl;have hlT:TB<wp.heap.size:=(by obtain⟨_,q,_⟩:=HI.out.tb;exact Zad q);have hlS:TB+1<wp.heap.size:=Zad HI.out.sb;have hlT2:TB<wp.heap.size+1:=(by omega);have hlS2:TB+1<wp.heap.size+1:=(by omega);have hlo:w.heap.size<wp.heap.size:=by have:=HI.out.lo;omega
     go_wp2_with fail
     go_meet;have hb:Below wp.heap.size wp ((wp.alloc (.cells #[.int .i64 0] 3)).alloc (.cells #[.slice (some ⟨wp.heap.size,0,none⟩) 1 1,.int .i64 1] 87)):=((Below.refl _ _).alloc nR _).alloc (by simp) _;have hfin:=(HI.out.below hb).ref3 nR (Zhp hlo hlS hgl);rw [World.setCell_alloc_past _ _ _ _ (by simp;omega),World.setCell_alloc_past _ _ _ _ (by omega)] at hfin;exact⟨true,rfl,hfin⟩
  case rest =>
  obtain⟨b3,rfl,hi1⟩:=hcut;have HI:=hI hi1;clear hi1;obtain⟨wp,hwp⟩:∃ wp,wc=wp:=⟨_,rfl⟩;rw [hwp] at HI ⊢;clear hwp
  go_wp2_with fail
  refine(ZaD g 3 _ (by omega) (by omega) HI.out.case).mono ?_;rintro e wp ⟨bb,rfl,hcb,hgb,hsb⟩;have HI:=hI (HI.out.keep hgb hcb);clear hcb hgb hsb;go_upto_if 75 with fail
  go_cut [5] (fun p W=>∃ chk,p=.pointer (some ⟨TB+1,0,none⟩)∧SchI w W g TB n v idk b1 b2 b3 chk∧chk.length≤1∧∀ p ∈ chk,GenP [idk,4,5,3] [] 4 2 p)
  case first =>
   cases bb
   · go_wp2_with fail
     go_meet;exact⟨[],rfl,HI.out,by simp,fun p hp=>by simp at hp⟩
   · have s0:wp.cell? ⟨TB+1,0,none⟩=some (.int .i64 v):=Zaa HI.out.sb 0 _ rfl;have s1:wp.cell? ⟨TB+1,1,none⟩=some (.slice (some ⟨TB,0,none⟩) n 4):=Zaa HI.out.sb 1 _ rfl;have hlT:TB<wp.heap.size:=(by obtain⟨_,q,_⟩:=HI.out.tb;exact Zad q);have hlS:TB+1<wp.heap.size:=Zad HI.out.sb;have hn1:(1:Int)<(n:Int):=(by omega);have hlo:=HI.out.lo;have hgwp:g<wp.heap.size:=(by omega);have hlen:(Sch.tabs ⟨v,(Zat idk (rf0 b1 1 0) (rf0 b2 0 0) (rf0 b3 0 1) []).take n⟩).length=n:=(by show (List.take n _).length=n;rw [List.length_take];have:(Zat idk (rf0 b1 1 0) (rf0 b2 0 0) (rf0 b3 0 1) []).length=4:=rfl;omega);have HKF:=hI (show ZaM (⟨v,(Zat idk (rf0 b1 1 0) (rf0 b2 0 0) (rf0 b3 0 1) []).take n⟩:Sch) 1=[idk,4,5,3] from kinds_gen hn2 hn4);have hKI:=Zei (some ⟨TB,0,none⟩) 4 ⟨v,(Zat idk (rf0 b1 1 0) (rf0 b2 0 0) (rf0 b3 0 1) []).take n⟩ 1 (fun b=>b<wp.heap.size) wp.drew (((HI.out.tabS hn4).more (fun b hb=>hb.2.1)).keep (fun _ _=>rfl)) (fun b hb=>hb);rw [hlen] at hKI;have HKI:=hI hKI;clear hKI hlen
     go_wp2_with fail
     refine tS (fun w'=>w'.cell? ⟨TB+1,0,none⟩=some (.int .i64 v)∧w'.cell? ⟨TB+1,1,none⟩=some (.slice (some ⟨TB,0,none⟩) n 4)) 9 10 fun Q' HQ HP=>?_;refine tX 0 76 1 77 2 78 3 79 (bA 10 15) HP.out ⟨s0,s1⟩ ?_;refine anyT_one (i:=4) (o:=⟨some 80,_,_,_,_,_⟩) (L':=(bA 10 31)) rfl (by kernel_rfl) (by kernel_rfl) (fun K hK=>?_);have HK':=hI hK;clear hK;go_simp;refine(show Calls _ _ _ _ _ from HKI.out).mono ?_;rintro e wk ⟨A4,c4,rfl,h4,hc4,hn4',hb4⟩;have hb4':Below wp.heap.size wp wk:=(Below.refl _ wp).drew.trans hb4;have HI4:=hI (HI.out.below hb4');have H4:=hI h4;have HB4:=hI hb4';have hz4:=hb4'.size;have k0:=c9Q hb4' hlS s0;have k1:=c9Q hb4' hlS s1;clear hb4 hb4' h4 hc4 hn4';refine HK'.out _ _ (fun _=>⟨k0,k1⟩) ?_;clear HK' K
     try simp only [Act.put,psA,psB,psC]
     refine anyT_one (i:=5) (o:=⟨some 81,_,_,_,_,_⟩) (L':=(bA 10 63)) rfl (by kernel_rfl) (by kernel_rfl) (fun K hK=>?_);have HK':=hI hK;clear hK;go_simp;refine(show Calls _ _ _ _ _ from predicate_any g A4 none c4 0 (ZaM (⟨v,(Zat idk (rf0 b1 1 0) (rf0 b2 0 0) (rf0 b3 0 1) []).take n⟩:Sch) 1) [] (by rw [HKF.out];simp) (by simp) (by rw [HKF.out];simp) (by rw [HKF.out];rcases HID.out with rfl | rfl<;>rfl) rfl 1 (by omega) (fun b=>wp.heap.size≤b∧b<wk.heap.size) wk (H4.out.more (fun b hb=>hb)) IntS.nil_ (fun b hb=>⟨hb.2,by have:=hb.1;omega⟩) HI4.out.case).mono ?_;rintro e wt ⟨ao,ac,⟨alk,ali,⟨alvk,alvi,alvt⟩⟩,⟨ark,ari,⟨arvk,arvi,arvt⟩⟩,args,AA,ca,rfl,hgen,hps,hle,hlt,hrt,hct,hgt⟩;simp only at hlt hrt;rw [HKF.out] at hgen;have HGEN:=hI hgen;have HPS:=hI hps;have HLE:=hI hle;have HLT:=hI hlt;have HRT:=hI hrt;have HI5:=hI (HI4.out.keep hgt hct);have hzt:=hgt.size;have m0:wt.cell? ⟨TB+1,0,none⟩=some (.int .i64 v):=Zaa HI5.out.sb 0 _ rfl;have m1:wt.cell? ⟨TB+1,1,none⟩=some (.slice (some ⟨TB,0,none⟩) n 4):=Zaa HI5.out.sb 1 _ rfl;clear hgen hps hle hlt hrt hct hgt;refine HK'.out _ _ (fun _=>⟨m0,m1⟩) ?_;clear HK' K
     try simp only [Act.put,psA,psB,psC]
     refine anyT_one (i:=6) (o:=⟨some 82,_,_,_,_,_⟩) (L':=(bA 10 127)) rfl (by kernel_rfl) (by kernel_rfl) (fun K hK=>?_);have HK':=hI hK;clear hK;go_simp;have l0:(wt.alloc (.cells #[.int .i64 ao,.int .i64 ac,.int .i64 alk,.int .i64 ali,.int .i64 alvk,.int .i64 alvi,.string alvt,.int .i64 ark,.int .i64 ari,.int .i64 arvk,.int .i64 arvi,.string arvt,.slice AA args.length ca] 93)).cell? ⟨TB+1,0,none⟩=_:=(Zah (by omega)).trans m0;have l1:(wt.alloc (.cells #[.int .i64 ao,.int .i64 ac,.int .i64 alk,.int .i64 ali,.int .i64 alvk,.int .i64 alvi,.string alvt,.int .i64 ark,.int .i64 ari,.int .i64 arvk,.int .i64 arvi,.string arvt,.slice AA args.length ca] 93)).cell? ⟨TB+1,1,none⟩=_:=(Zah (by omega)).trans m1;refine HK'.out _ _ (fun _=>⟨l0,l1⟩) ?_;clear HK' K
     try simp only [Act.put,psA,psB,psC]
     refine anyT_one (i:=7) (o:=⟨some 83,_,_,_,_,_⟩) (L':=(bA 10 255)) rfl (by kernel_rfl) (by kernel_rfl) (fun K hK=>?_);have HK':=hI hK;clear hK;go_simp;refine HK'.out _ _ (fun _=>⟨l0,l1⟩) ?_;clear HK' K
     try simp only [Act.put,psA,psB,psC]
     refine anyT_one (i:=8) (o:=⟨some 84,_,_,_,_,_⟩) (L':=(bA 10 511)) rfl (by kernel_rfl) (by kernel_rfl) (fun K hK=>?_);have HK':=hI hK;clear hK;go_simp;refine HK'.out _ _ (fun _=>⟨l0,l1⟩) ?_;clear HK' K
     try simp only [Act.put,psA,psB,psC]
     obtain⟨⟨x9,hx9⟩,hf9⟩:=HI5.out.cell (k:=9) (by omega);have hlT5:TB<wt.heap.size:=(by omega);refine anyT_one (i:=9) (o:=⟨none,_,_,_,_,_⟩) (L':=(bA 10 1023)) rfl (by kernel_rfl) (by kernel_rfl) (fun K hK=>?_);have HK':=hI hK;clear hK;go_simp;refine HK'.out _ _ (fun h=>absurd rfl h) ?_;clear HK' K;refine tE HQ ?_;clear HQ HP Q';have HI6:=hI (show SchI w ((wt.alloc (.cells #[.int .i64 ao,.int .i64 ac,.int .i64 alk,.int .i64 ali,.int .i64 alvk,.int .i64 alvi,.string alvt,.int .i64 ark,.int .i64 ari,.int .i64 arvk,.int .i64 arvi,.string arvt,.slice AA args.length ca] 93)).setCell ⟨TB,9,none⟩ (.slice (some ⟨wt.heap.size,0,none⟩) 1 1)) g TB n v idk b1 b2 b3 [(.mk ao ac ⟨alk,ali,⟨alvk,alvi,alvt⟩⟩ ⟨ark,ari,⟨arvk,arvi,arvt⟩⟩ args)] from (HI5.out.below ((Below.refl _ wt).alloc nR _)).chk1 nR (Sl.of_vals (by rw [Zag (n:=136) ZbW];simp) (ZaS (ZeV HLE.out (by have:=HLT.out;omega) (by have:=HRT.out;omega) ((HPS.out.keep (fun b hb=>Below.heap_alloc _ _ _ hb.2)).more (fun b hb=>⟨by have:=hb.1;omega,by have:=hb.2;simp;omega,by have:=hb.1;omega,by have:=hb.1;omega,by have:=hb.1;omega⟩)))) (fun _=>⟨wt.heap.size,0,rfl,⟨by omega,by simp,by omega,by omega,by omega⟩,Zaa (heap_alloc_new wt _)⟩)))
     go_wp2_with fail
     go_meet;have hfin:=HI6.out;refine⟨[(.mk ao ac ⟨alk,ali,⟨alvk,alvi,alvt⟩⟩ ⟨ark,ari,⟨arvk,arvi,arvt⟩⟩ args)],rfl,?_,by simp,fun p hp=>by rw [List.mem_singleton] at hp;rw [hp];exact HGEN.out⟩
     first | exact hfin | (rw [World.setCell_alloc_past _ _ _ _ (by omega)] at hfin;exact hfin)
  case rest =>
  obtain⟨chk,rfl,hi1,hc1,hcp⟩:=hcut;have HI:=hI hi1;have HC1:=hI hc1;have HCP:=hI hcp;have s0:wc.cell? ⟨TB+1,0,none⟩=some (.int .i64 v):=Zaa hi1.sb 0 _ rfl;have s1:wc.cell? ⟨TB+1,1,none⟩=some (.slice (some ⟨TB,0,none⟩) n 4):=Zaa hi1.sb 1 _ rfl;have r0:wc.cell? ⟨w.heap.size,0,none⟩=some (.int .i64 0):=Zaa hi1.rb 0 _ rfl;have r1:wc.cell? ⟨w.heap.size,1,none⟩=some (.slice none 0 0):=Zaa hi1.rb 1 _ rfl;have rf:wc.frozen? ⟨w.heap.size,0,none⟩=false:=(by simp [World.frozen?,hi1.rb]);have rf1:wc.frozen? ⟨w.heap.size,1,none⟩=false:=(by simp [World.frozen?,hi1.rb]);have hlS:TB+1<wc.heap.size:=Zad hi1.sb;have hlR:w.heap.size<wc.heap.size:=(by have:=hi1.lo;omega);clear hi1 hc1 hcp
  go_wp2_with fail
  have hr1:wc.heap[w.heap.size]?=some (.cells [.int .i64 0,.slice none 0 0].toArray 28 (0,0)):=HI.out.rb;have hb2:=Zaf (k:=1) (v:=.slice (some ⟨TB,0,none⟩) n 4) (Zaf (k:=0) (v:=.int .i64 v) hr1);have u0:=Zaa (cs:=#[.int .i64 v,.slice (some ⟨TB,0,none⟩) n 4]) hb2 0 _ rfl;have u1:=Zaa (cs:=#[.int .i64 v,.slice (some ⟨TB,0,none⟩) n 4]) hb2 1 _ rfl;have hlen:((Zat idk (rf0 b1 1 0) (rf0 b2 0 0) (rf0 b3 0 1) chk).take n).length=n:=(by rw [List.length_take];have:(Zat idk (rf0 b1 1 0) (rf0 b2 0 0) (rf0 b3 0 1) chk).length=4:=rfl;omega);have htab:=(HI.out.tabS hn4).keep (w':=(wc.setCell ⟨w.heap.size,0,none⟩ (.int .i64 v)).setCell ⟨w.heap.size,1,none⟩ (.slice (some ⟨TB,0,none⟩) n 4)) (fun b hb=>(Below.heap_setCell _ ⟨w.heap.size,1,none⟩ _ b (by have:=hb.1;show b≠w.heap.size;omega)).trans (Below.heap_setCell _ ⟨w.heap.size,0,none⟩ _ b (by have:=hb.1;show b≠w.heap.size;omega)));exact bodyPost_ret (v:=.agg #[.int .i64 v,.slice (some ⟨TB,0,none⟩) n 4]) (by simp [results,Tryz.results10,go_sem,u0,u1]) rfl ⟨⟨v,(Zat idk (rf0 b1 1 0) (rf0 b2 0 0) (rf0 b3 0 1) chk).take n⟩,some ⟨TB,0,none⟩,4,by show _=Ending.returned (.agg #[.int .i64 v,.slice (some ⟨TB,0,none⟩) (List.take n _).length 4]);rw [hlen],⟨n,v,idk,b1,b2,b3,chk,⟨rfl,hn2,hn4,v0',by omega,HID.out,HC1.out,HCP.out⟩⟩,by show (List.take n _).length≤4;omega,htab.more (fun b hb=>⟨hb.1,by have:=hb.2.1;simp;omega⟩),Zab (Zab HI.out.case hgl) hgl,Zac (Zac HI.out.gr nR) nR⟩
section
variable {w W W':World} {g n:Nat}
theorem ZcS (h:Below n w W) (hg:W.grownBy W' (some g)) (hn:n≤g) (hw:n≤W.heap.size):Below n w W' :=
 h.trans ⟨hg.os,hg.tape,hg.output,hg.size,fun b hb=>hg.block b (by omega) (fun e=>by injection e with e;omega)⟩
theorem Zhi:∀ (st:St) (k:Nat),(∀ j,(st.getD j []).length≤k)→Zam st≤st.length*k
 | [],k,_=>by simp [Zam]
 | l :: st,k,h=>by
  have h0:=h 0;have ih:=Zhi st k (fun j=>by have:=h (j+1);simpa using this);have h0':l.length≤k:=(by simpa using h0);simp only [Zam,List.length_cons,Nat.succ_mul];omega
end
end Go.Proofs.YtkpjjfhfbpfjpaaGreat
