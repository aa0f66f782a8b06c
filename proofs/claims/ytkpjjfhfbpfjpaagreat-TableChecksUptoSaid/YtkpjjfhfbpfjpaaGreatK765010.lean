import Derived.Test.YtkpjjfhfbpfjpaaGreatK199ca2
import Derived.Test.YtkpjjfhfbpfjpaaGreatKe6ae9e
import Derived.Test.YtkpjjfhfbpfjpaaGreatKfed508
import Derived.Deep.Cut
import Derived.Deep.CutRange
import Derived.Deep.DeepCutAuto
set_option linter.unusedVariables false
set_option linter.unusedSimpArgs false
set_option maxRecDepth 100000
set_option maxHeartbeats 8000000
namespace Go.Proofs.YtkpjjfhfbpfjpaaGreat
open Go.RowKit
theorem spoilSchema_any (g:Nat) (A0:Option Addr) (c0':Nat) (s:Sch) (S:Nat→Prop) (w:World) (hs:TabS w S A0 s.tabs) (hS:∀ b,S b→b<w.heap.size∧b≠g) (hgs:GenS s) (hc:CaseOk w g) :
  Calls Tryz.prog 24 #[.pointer (some ⟨g,0,none⟩),sAgg s.version A0 s.tabs.length c0'] w (SsPost S w g):=by
 have hgl:=hc.lt;have hsl:=hgs.len;obtain⟨iT,hiT,tz0,tz1,tz2⟩:=info_parts infoTb;obtain⟨iC,hiC,cz0,cz1,cz2⟩:=info_parts infoCo;obtain⟨iR,hiR,rz0,rz1,rz2⟩:=info_parts infoRf;obtain⟨iP,hiP,pz0,pz1,pz2⟩:=info_parts infoP;have HSM:=hI (gen_small hgs);have HS:=hI hs;have HSS:=hI hS;have HC:=hI hc;obtain⟨vs,hvs⟩:∃ vs,s.version=vs:=⟨_,rfl⟩;obtain⟨T,hT⟩:∃ T,s.tabs=T:=⟨_,rfl⟩;rw [hvs,hT];rw [hT] at hsl HSM HS;clear hs hS hc hgs hvs hT;go_enter Tryz.func24,Tryz.ntmps24;obtain⟨W0,hW0⟩:∃ W0,(w.alloc (.cells #[.int .i64 vs,.slice A0 T.length c0'] 28)).alloc (.cells #[.int .i64 0,.slice none 0 0] 28)=W0:=⟨_,rfl⟩;have hb0:Below w.heap.size w W0:=(by rw [←hW0];exact((Below.refl _ _).alloc nR _).alloc (by simp) _);have XB:=hI (show W0.heap[w.heap.size]?=some (.cells #[.int .i64 vs,.slice A0 T.length c0'] 28 (0,0)) by rw [←hW0];exact(Below.heap_alloc _ _ _ (by simp)).trans (heap_alloc_new w _));have RB:=hI (show W0.heap[w.heap.size+1]?=some (.cells #[.int .i64 0,.slice none 0 0] 28 (0,0)) by rw [←hW0];simpa using heap_alloc_new (w.alloc (.cells #[.int .i64 vs,.slice A0 T.length c0'] 28)) (.cells #[.int .i64 0,.slice none 0 0] 28));have hz0:W0.heap.size≤w.heap.size+2∧w.heap.size+2≤W0.heap.size:=(by rw [←hW0];simp);have HS0:=hI (show TabS W0 S A0 T from HS.out.keep (Same.of_below hb0 (fun b hb=>(HSS.out b hb).1)));have x1:W0.cell? ⟨w.heap.size,1,none⟩=some (.slice A0 T.length c0'):=Zaa XB.out 1 _ rfl;have hl0:w.heap.size<W0.heap.size:=(by omega);have HB0:=hI hb0;clear hb0;go_upto_region 2 with (at_builtin;(try rw [hW0]);refine Zbc rfl (.tmp 9) 26 rfl (w.heap.size+2) S 72 iT _ 5 96 Tryz.underlying26 hiT tz0 tz1 tz2 rfl (by decide) _ (fun b hb=>by have:=(HSS.out b hb).1;omega) (by omega) (T.map ZaH) A0 T.length c0' HS0.out (Zbr Zez _) (fun d hd=>by obtain⟨a,_,rfl⟩:=List.mem_map.1 hd;rfl) (by simp) rfl (by omega) (by omega) ?_;intro AT cT w1 hmk1 hb1;obtain⟨gT,rfl,hgT1,hgT2⟩:=ZgX hmk1 (by omega);have HMK1:=hI hmk1;have HB1:=hI hb1;have hz1:=hb1.size;have XB:=hI ((hb1.block w.heap.size (by omega)).trans XB.out);have RB:=hI ((hb1.block (w.heap.size+1) (by omega)).trans RB.out);have x1:w1.cell? ⟨w.heap.size,1,none⟩=some (.slice A0 T.length c0'):=Zaa XB.out 1 _ rfl;have f1:w1.frozen? ⟨w.heap.size,1,none⟩=false:=(by simp [World.frozen?,XB.out]);have hl1:w.heap.size<w1.heap.size:=(by omega);clear hmk1 hb1)
 obtain⟨W2,hW2⟩:∃ W2,w1.setCell ⟨w.heap.size,1,none⟩ (.slice (some ⟨gT,0,none⟩) T.length cT)=W2:=⟨_,rfl⟩
 have HI:=hI (show SsF w W2 g S vs (some ⟨gT,0,none⟩) T.length cT T from by
  have e1:w1.heap[w.heap.size]?=some (.cells [.int .i64 vs,.slice A0 T.length c0'].toArray 28 (0,0)):=XB.out;have e2:=Zae (k:=1) (v:=.slice (some ⟨gT,0,none⟩) T.length cT) e1;have hf:Fr (fun b=>b=w.heap.size) w1 W2:=(by rw [←hW2];exact(Fr.refl _ _).setCell _ (fun _=>rfl));have hz2:=hf.size;rw [hW2] at e2;have hb01:Below w.heap.size w w1:=HB0.out.trans (HB1.out.mono (by omega));exact⟨by simpa using e2,(hf.block _ (by omega) (by omega)).trans RB.out,HMK1.out.keep hf (fun b e=>⟨by omega,fun hs=>by have:=(HSS.out b hs).1;omega⟩),HC.out.keep (fun b hb=>(hf.block b (by omega) (by omega)).trans (hb01.block b (by omega))),⟨hf.os.trans hb01.os,hf.tape.trans hb01.tape,hf.output.trans hb01.output,by omega,fun b hb1 hb2=>(hf.block b (by omega) (by omega)).trans (hb01.block b hb1)⟩,hgl,HSS.out⟩)
 rw [hW2];clear hW2 hW0 XB RB HS HS0 HSS HC HB0 HB1 HMK1 x1 f1 hz0 hl0 hl1 hz1 hgT2;have hsz2:=HI.out.sz;have s1:W2.cell? ⟨w.heap.size,1,none⟩=some (.slice (some ⟨gT,0,none⟩) T.length cT):=Zaa HI.out.sb 1 _ rfl;have hl2:w.heap.size<W2.heap.size:=(by omega);have hd:((T.length:Int) == 0)=false:=by have h9:T.length≠0:=(by omega);simpa using h9
 go_wp2_with fail
 refine(ZaJ g 6 _ (by omega) (by omega) HI.out.cs).mono ?_;rintro e w3 ⟨bb,rfl,hc3,hg3,hs3⟩;have HI:=hI (HI.out.upd (ZaL hg3) hc3);have hl3:w.heap.size<w3.heap.size:=(by have:=HI.out.sz;omega);clear s1 hl2 hsz2 hd hc3 hg3 hs3;cases bb
 · have s1:w3.cell? ⟨w.heap.size,1,none⟩=some (.slice (some ⟨gT,0,none⟩) T.length cT):=Zaa HI.out.sb 1 _ rfl;go_upto_region 5 with fail
   refine tS (fun w'=>w'.cell? ⟨w.heap.size,1,none⟩=some (.slice (some ⟨gT,0,none⟩) T.length cT)) 8 9 fun Q' HQ HP=>?_;refine tX 0 24 1 25 2 26 3 27 (bA 9 15) HP.out s1 ?_;refine tW 4 28 5 29 (bA 9 63) HP.out s1 ?_;refine tQ 6 (some 30) (bA 9 127) fun K HK=>?_;go_simp;refine(Zar g (T.length:Int) w3.drew (by omega) (HI.out.cs.keep (fun _ _=>rfl))).mono ?_;rintro e w4 ⟨rj,rfl,j0,j1,-,hc4,hg4,hs4⟩;have hrj:=j1 (by omega);obtain⟨i,rfl⟩:=Int.eq_ofNat_of_zero_le j0;have hil:i<T.length:=(by omega);have hg4':w3.grownBy w4 (some g):=⟨hg4.os,hg4.tape,hg4.output,hg4.size,hg4.block⟩;have HI:=hI (HI.out.upd (ZaL hg4') hc4);have s1:w4.cell? ⟨w.heap.size,1,none⟩=some (.slice (some ⟨gT,0,none⟩) T.length cT):=Zaa HI.out.sb 1 _ rfl;clear j0 j1 hc4 hg4 hg4' hs4 hrj;refine HK.out _ _ (fun _=>s1) ?_;clear HK K;have hil1:(i:Int)<(T.length:Int):=by omega
   try simp only [Act.put,psA,psB,psC]
   refine tJ 7 31 (bA 9 255) HP.out s1 ?_;refine tQ 8 (some 5) (bA 9 511) fun K HK=>?_;go_simp;refine HK.out _ _ (fun h=>absurd rfl h) ?_;clear HK K;refine tE HQ ?_;clear HQ HP Q';obtain⟨t,ht⟩:∃ t,T[i]=t:=⟨_,rfl⟩;have HTS:=hI (show (1≤t.cols.length∧t.cols.length≤4)∧t.refs.length≤1∧t.checks.length≤1 by rw [←ht];exact HSM.out _ (List.getElem_mem _));obtain⟨D,A1,A2,A3,c1,c2,c3,hi4,h40,h41,h42,h43⟩:=HI.out.open_ hil;rw [ht] at hi4 h40 h41 h42 h43;obtain⟨nm,cols,key,refs,chks⟩:=t;simp only at hi4 h40 h41 h42 h43 HTS;have htc:=HTS.out;have HO:=hI (show SsO w w4 g S vs gT cT i w4.heap.size D T nm A1 cols.length c1 key A2 c2 refs A3 c3 chks from ⟨hi4,h40,h42,h43⟩);have HC4:=hI h41;obtain⟨B1,hB1⟩:∃ B1,w4.heap.size=B1:=⟨_,rfl⟩;rw [hB1] at HO;have hB1':B1≤w4.heap.size∧w4.heap.size≤B1:=(by omega);clear hi4 h40 h41 h42 h43 HSM ht hB1 s1 hl3;have y1:=HO.out.cell.1.2.1;have hgT4:=HO.out.lt;go_upto_region 7 with (at_builtin;refine Zbc rfl (.tmp 36) 68 rfl B1 D 84 iC _ 2 24 Tryz.underlying68 hiC cz0 cz1 cz2 rfl (by decide) _ (fun b hb=>(HO.out.si.dat b hb).2.2.2.2.2) (by omega) (cols.map Zbk) A1 cols.length c1 HC4.out.2 (Zbr ZeB _) (fun d hd=>by obtain⟨a,_,rfl⟩:=List.mem_map.1 hd;rfl) (by simp) rfl (by omega) (by omega) ?_;intro AC cC w5 hmk5 hb5;obtain⟨gC,rfl,hgC1,-⟩:=ZgX hmk5 (by omega);have HMK:=hI hmk5;have HO:=hI (HO.out.below hb5);obtain⟨⟨-,y1,-⟩,-,f1,-⟩:=HO.out.cell;have hgT5:=HO.out.lt;clear hmk5 hb5)
   have HMK:=hI (HO.out.mks (j:=i*5+1) (x:=.slice (some ⟨gC,0,none⟩) cols.length cC) HMK.out nR);have HO:=hI (HO.out.set1 (some ⟨gC,0,none⟩) cols.length cC);obtain⟨W6,hW6⟩:∃ W6,w5.setCell ⟨gT,i*5+1,none⟩ (.slice (some ⟨gC,0,none⟩) cols.length cC)=W6:=⟨_,rfl⟩;rw [hW6] at HMK HO ⊢;clear hW6 y1 f1 hgT5 hgT4 HC4 hB1'
   go_wp2_with fail
   refine(Zar g 11 _ (by omega) HO.out.si.cs).mono ?_;rintro e w7 ⟨r,rfl,hr0,hr1,-,hc7,hg7,-⟩;have hr:=hr1 (by omega);have HMK:=hI (HO.out.mkg HMK.out nR hg7);have HO:=hI (HO.out.calls hg7 hc7);obtain⟨BB,hBB⟩:∃ BB,w7.heap.size=BB:=⟨_,rfl⟩;have hBB':BB≤w7.heap.size∧w7.heap.size≤BB:=(by omega);have hB17:B1≤BB:=(by have:=HO.out.si.b1;omega);obtain⟨-,hcap,hcs⟩:=HMK.out.slice (by rw [Zaf (n:=24) (fun _=>rfl)];omega);have HCS:=hI (show ColS w7 (fun b=>D b∨(B1≤b∧b<BB)) (some ⟨gC,0,none⟩) cols by rw [←hBB];exact hcs);have y1:=HO.out.cell.1.2.1;have hgT7:=HO.out.lt;clear hcs hBB;have h11:r=0∨r=1∨r=2∨r=3∨r=4∨r=5∨r=6∨r=7∨r=8∨r=9∨r=10:=(by omega);have hcn:((cols.length:Int) == 0)=false:=(by have:=HTS.out.1.1;have h9:cols.length≠0:=(fun e=>by rw [e] at this;omega);simpa using h9);clear hr0 hr hr1 hc7 hg7;rcases h11 with rfl | rfl | rfl | rfl | rfl | rfl | rfl | rfl | rfl | rfl | rfl
   · skip
     go_wp2_with fail
     obtain⟨W8,hW8⟩:∃ W8,w7.alloc oL8=W8:=⟨_,rfl⟩;have hb8:Below BB w7 W8:=(by rw [←hW8];exact(Below.refl _ _).alloc (by omega) _);obtain⟨nb,hnb⟩:∃ nb,w7.heap.size=nb:=⟨_,rfl⟩;have HNB:=hI (show W8.heap[nb]?=some oL8 by rw [←hW8,←hnb];exact heap_alloc_new w7 _);have hnb8:=Zac HNB.out;have HCS:=hI (HO.out.colb HCS.out (by omega) hb8);have HO:=hI (HO.out.below (hb8.mono (by omega)));have hzW8:=hb8.size;rw [hnb];rw [hW8];have hnbB:BB≤nb:=(by omega);clear hW8 hb8 hnb;refine(Zar g 8 _ (by omega) HO.out.si.cs).mono ?_;rintro e w9 ⟨r9,rfl,j0,j1,-,hcw9,hgw9,-⟩;have hr9:=j1 (by omega);obtain⟨r8,rfl⟩:=Int.eq_ofNat_of_zero_le j0;have hr8:r8<8:=(by omega);have HNB:=hI ((hgw9.block nb hnb8 (fun e=>by injection e with e;have:=HO.out.si.gl;have:=HO.out.si.b1;omega)).trans HNB.out);have HCS:=hI (HO.out.colg HCS.out (by omega) hgw9);have HO:=hI (HO.out.calls hgw9 hcw9);have hzw9:=hgw9.size;obtain⟨nm8,hn8,hst8⟩:=strs8_at HNB.out hr8;have hnb9:=Zac HNB.out;clear j0 j1 hcw9 hgw9 hr9;obtain⟨⟨y0,-⟩,f0,-⟩:=HO.out.cell;have hgT4:=HO.out.lt;go_upto_region 36 with fail
     have HI:=hI (HO.out.end0 hcap (HCS.out.more (Zdz (by omega))) hn8);obtain⟨Wa,hWa⟩:∃ Wa,w9.setCell ⟨gT,i*5,none⟩ (.string nm8)=Wa:=⟨_,rfl⟩;rw [hWa] at HI ⊢;obtain⟨s0,s1,r0,r1,q0,q1,hlx,hly⟩:=HI.out.cells
     go_wp2_with fail
     obtain⟨v0,v1⟩:=HI.out.ends;exact bodyPost_ret (v:=sAgg vs (some ⟨gT,0,none⟩) T.length cT) (by simp [results,Tryz.results24,go_sem,v0,v1]) rfl (HI.out.done (by rw [List.length_set];omega))
   · skip
     go_upto_region 16 with fail
     refine tS (fun w'=>w'.cell? ⟨gT,i*5+1,none⟩=some (.slice (some ⟨gC,0,none⟩) cols.length cC)) 18 19 fun Q' HQ HP=>?_;refine tX 0 82 1 83 2 84 3 85 (bA 19 15) HP.out y1 ?_;refine tX 4 86 5 87 6 88 7 89 (bA 19 255) HP.out y1 ?_;refine tW 8 90 9 91 (bA 19 1023) HP.out y1 ?_;refine tJ 12 94 (bA 19 5119) HP.out y1 ?_;obtain⟨x0,hx0⟩:∃ x0,w7.drew=x0:=⟨_,rfl⟩;have hgx0:w7.grownBy x0 (some g):=(by rw [←hx0];exact(Fr.refl _ w7).drew.grown);have HMK:=hI (HO.out.mkg HMK.out nR hgx0);have HO:=hI (HO.out.calls hgx0 (by rw [←hx0];exact HO.out.si.cs.keep (fun _ _=>rfl)));have y1:=HO.out.cell.1.2.1;have hgTx0:=HO.out.lt;rw [hx0];clear hx0 hgx0;refine Zdi (i:=10) (j:=11) (oi:=⟨some 92,_,_,_,_,_⟩) (oj:=⟨some 93,_,_,_,_,_⟩) (Li:=(bA 19 6143)) (Lj:=(bA 19 7167)) rfl rfl (by kernel_rfl) (by kernel_rfl) (by kernel_rfl) (fun K hK=>?_) (fun K hK=>?_)
     · have HK:=hI hK;clear hK;go_simp;refine(Zar g (cols.length:Int) x0 (by omega) HO.out.si.cs).mono ?_;rintro e x1 ⟨rx1,rfl,j0,j1,-,hcx1,hgx1,-⟩;have hrx1:=j1 (by omega);obtain⟨jj,rfl⟩:=Int.eq_ofNat_of_zero_le j0;clear j0 j1;have hjj:jj<cols.length:=(by omega);have HMK:=hI (HO.out.mkg HMK.out nR hgx1);have HO:=hI (HO.out.calls hgx1 hcx1);have y1:=HO.out.cell.1.2.1;have hgTx1:=HO.out.lt;clear hcx1 hgx1 hrx1;refine HK.out _ _ (fun _=>y1) ?_;clear HK K
       try simp only [Act.put,psA,psB,psC]
       refine Zdi (i:=11) (j:=13) (oi:=⟨some 93,_,_,_,_,_⟩) (oj:=⟨some 95,_,_,_,_,_⟩) (Li:=(bA 19 8191)) (Lj:=(bA 19 14335)) rfl rfl (by kernel_rfl) (by kernel_rfl) (by kernel_rfl) (fun K hK=>?_) (fun K hK=>?_)
       · have HK:=hI hK;clear hK;go_simp;obtain⟨x2,hx2⟩:∃ x2,x1.alloc oL4=x2:=⟨_,rfl⟩;have hbx2:Below x1.heap.size x1 x2:=(by rw [←hx2];exact(Below.refl _ _).alloc nR _);obtain⟨nb,hnb⟩:∃ nb,x1.heap.size=nb:=⟨_,rfl⟩;have HNB:=hI (show x2.heap[nb]?=some oL4 by rw [←hx2,←hnb];exact heap_alloc_new x1 _);have hnbB:B1≤nb:=(by have:=HO.out.si.b1.2.1;omega);have HMK:=hI (HMK.out.below hbx2);have HO:=hI (HO.out.below (hbx2.mono HO.out.si.b1.2.1));have y1:=HO.out.cell.1.2.1;have hgTx2:=HO.out.lt;rw [hnb];rw [hx2];clear hx2 hbx2 hnb;refine HK.out _ _ (fun _=>y1) ?_;clear HK K
         try simp only [Act.put,psA,psB,psC]
         refine tQ 13 (some 95) (bA 19 16383) fun K HK=>?_;go_simp;refine(Zar g 4 x2 (by omega) HO.out.si.cs).mono ?_;rintro e x3 ⟨rx3,rfl,j0,j1,-,hcx3,hgx3,-⟩;have hrx3:=j1 (by omega);obtain⟨r4,rfl⟩:=Int.eq_ofNat_of_zero_le j0;clear j0 j1;have hr4:r4<4:=(by omega);have HNB:=hI ((hgx3.block nb (Zac HNB.out) (fun e=>by injection e with e;have:=HO.out.si.gl;have:=HO.out.si.b1;omega)).trans HNB.out);have HMK:=hI (HO.out.mkg HMK.out nR hgx3);have HO:=hI (HO.out.calls hgx3 hcx3);have y1:=HO.out.cell.1.2.1;have hgTx3:=HO.out.lt;clear hcx3 hgx3 hrx3;refine HK.out _ _ (fun _=>y1) ?_;clear HK K
         try simp only [Act.put,psA,psB,psC]
         obtain⟨nm4,hn4,hst4⟩:=ZfU HNB.out hr4;have hr4i:(r4:Int)<4:=(by omega);have hnb9:=Zac HNB.out;refine tQ 14 (some 96) (bA 19 32767) fun K HK=>?_;go_simp;refine HK.out _ _ (fun _=>y1) ?_;clear HK K
         try simp only [Act.put,psA,psB,psC]
         refine tQ 15 (some 97) (bA 19 65535) fun K HK=>?_;go_simp;refine HK.out _ _ (fun _=>y1) ?_;clear HK K
         try simp only [Act.put,psA,psB,psC]
         refine tQ 16 (some 98) (bA 19 131071) fun K HK=>?_;have hjjI:(jj:Int)<(cols.length:Int):=(by omega);go_simp;refine HK.out _ _ (fun _=>y1) ?_;clear HK K
         try simp only [Act.put,psA,psB,psC]
         refine tQ 17 (some 99) (bA 19 262143) fun K HK=>?_;go_simp;refine HK.out _ _ (fun _=>y1) ?_;clear HK K
         try simp only [Act.put,psA,psB,psC]
         refine tQ 18 none (bA 19 524287) fun K HK=>?_;obtain⟨yc,-,fc,-⟩:=ZeJ HMK.out hjj;have hgC9:=(HMK.out.base_le (g:=gC) rfl).2;go_simp;refine HK.out _ _ (fun h=>absurd rfl h) ?_;clear HK K;refine tE HQ ?_;clear HQ HP Q';go_upto_region 36 with fail
         have HMK:=hI (Zeh HMK.out hjj hn4);have HO:=hI (HO.out.below ((Below.refl B1 x3).setCell (by show B1≤gC;omega) _:Below B1 x3 (x3.setCell ⟨gC,jj*2,none⟩ (.string nm4))));obtain⟨Wa,hWa⟩:∃ Wa,x3.setCell ⟨gC,jj*2,none⟩ (.string nm4)=Wa:=⟨_,rfl⟩;rw [hWa] at HMK HO ⊢;obtain⟨-,hca,hcs⟩:=HMK.out.slice (by rw [Zaf (n:=24) (fun _=>rfl),List.length_set];omega);rw [show cols.length=(cols.set jj ⟨nm4,cols[jj].kind⟩).length from (List.length_set ..).symm] at HO;have HI:=hI (HO.out.endc (by rw [List.length_set];exact hca) hcs);clear hcs hWa;obtain⟨s0,s1,r0,r1,q0,q1,hlx,hly⟩:=HI.out.cells
         go_wp2_with fail
         obtain⟨v0,v1⟩:=HI.out.ends;exact bodyPost_ret (v:=sAgg vs (some ⟨gT,0,none⟩) T.length cT) (by simp [results,Tryz.results24,go_sem,v0,v1]) rfl (HI.out.done (by rw [List.length_set];omega))
       · have HK:=hI hK;clear hK;go_simp;refine(Zar g 4 x1 (by omega) HO.out.si.cs).mono ?_;rintro e x4 ⟨rx4,rfl,j0,j1,-,hcx4,hgx4,-⟩;have hrx4:=j1 (by omega);obtain⟨r4,rfl⟩:=Int.eq_ofNat_of_zero_le j0;clear j0 j1;have hr4:r4<4:=(by omega);have HMK:=hI (HO.out.mkg HMK.out nR hgx4);have HO:=hI (HO.out.calls hgx4 hcx4);have y1:=HO.out.cell.1.2.1;have hgTx4:=HO.out.lt;clear hcx4 hgx4 hrx4;refine HK.out _ _ (fun _=>y1) ?_;clear HK K
         try simp only [Act.put,psA,psB,psC]
         refine tQ 11 (some 93) (bA 19 16383) fun K HK=>?_;go_simp;obtain⟨x5,hx5⟩:∃ x5,x4.alloc oL4=x5:=⟨_,rfl⟩;have hbx5:Below x4.heap.size x4 x5:=(by rw [←hx5];exact(Below.refl _ _).alloc nR _);obtain⟨nb,hnb⟩:∃ nb,x4.heap.size=nb:=⟨_,rfl⟩;have HNB:=hI (show x5.heap[nb]?=some oL4 by rw [←hx5,←hnb];exact heap_alloc_new x4 _);have hnbB:B1≤nb:=(by have:=HO.out.si.b1.2.1;omega);have HMK:=hI (HMK.out.below hbx5);have HO:=hI (HO.out.below (hbx5.mono HO.out.si.b1.2.1));have y1:=HO.out.cell.1.2.1;have hgTx5:=HO.out.lt;rw [hnb];rw [hx5];clear hx5 hbx5 hnb;refine HK.out _ _ (fun _=>y1) ?_;clear HK K
         try simp only [Act.put,psA,psB,psC]
         obtain⟨nm4,hn4,hst4⟩:=ZfU HNB.out hr4;have hr4i:(r4:Int)<4:=(by omega);have hnb9:=Zac HNB.out;refine tQ 14 (some 96) (bA 19 32767) fun K HK=>?_;go_simp;refine HK.out _ _ (fun _=>y1) ?_;clear HK K
         try simp only [Act.put,psA,psB,psC]
         refine tQ 15 (some 97) (bA 19 65535) fun K HK=>?_;go_simp;refine HK.out _ _ (fun _=>y1) ?_;clear HK K
         try simp only [Act.put,psA,psB,psC]
         refine tQ 16 (some 98) (bA 19 131071) fun K HK=>?_;have hjjI:(jj:Int)<(cols.length:Int):=(by omega);go_simp;refine HK.out _ _ (fun _=>y1) ?_;clear HK K
         try simp only [Act.put,psA,psB,psC]
         refine tQ 17 (some 99) (bA 19 262143) fun K HK=>?_;go_simp;refine HK.out _ _ (fun _=>y1) ?_;clear HK K
         try simp only [Act.put,psA,psB,psC]
         refine tQ 18 none (bA 19 524287) fun K HK=>?_;obtain⟨yc,-,fc,-⟩:=ZeJ HMK.out hjj;have hgC9:=(HMK.out.base_le (g:=gC) rfl).2;go_simp;refine HK.out _ _ (fun h=>absurd rfl h) ?_;clear HK K;refine tE HQ ?_;clear HQ HP Q';go_upto_region 36 with fail
         have HMK:=hI (Zeh HMK.out hjj hn4);have HO:=hI (HO.out.below ((Below.refl B1 x5).setCell (by show B1≤gC;omega) _:Below B1 x5 (x5.setCell ⟨gC,jj*2,none⟩ (.string nm4))));obtain⟨Wa,hWa⟩:∃ Wa,x5.setCell ⟨gC,jj*2,none⟩ (.string nm4)=Wa:=⟨_,rfl⟩;rw [hWa] at HMK HO ⊢;obtain⟨-,hca,hcs⟩:=HMK.out.slice (by rw [Zaf (n:=24) (fun _=>rfl),List.length_set];omega);rw [show cols.length=(cols.set jj ⟨nm4,cols[jj].kind⟩).length from (List.length_set ..).symm] at HO;have HI:=hI (HO.out.endc (by rw [List.length_set];exact hca) hcs);clear hcs hWa;obtain⟨s0,s1,r0,r1,q0,q1,hlx,hly⟩:=HI.out.cells
         go_wp2_with fail
         obtain⟨v0,v1⟩:=HI.out.ends;exact bodyPost_ret (v:=sAgg vs (some ⟨gT,0,none⟩) T.length cT) (by simp [results,Tryz.results24,go_sem,v0,v1]) rfl (HI.out.done (by rw [List.length_set];omega))
     · have HK:=hI hK;clear hK;go_simp;obtain⟨x6,hx6⟩:∃ x6,x0.alloc oL4=x6:=⟨_,rfl⟩;have hbx6:Below x0.heap.size x0 x6:=(by rw [←hx6];exact(Below.refl _ _).alloc nR _);obtain⟨nb,hnb⟩:∃ nb,x0.heap.size=nb:=⟨_,rfl⟩;have HNB:=hI (show x6.heap[nb]?=some oL4 by rw [←hx6,←hnb];exact heap_alloc_new x0 _);have hnbB:B1≤nb:=(by have:=HO.out.si.b1.2.1;omega);have HMK:=hI (HMK.out.below hbx6);have HO:=hI (HO.out.below (hbx6.mono HO.out.si.b1.2.1));have y1:=HO.out.cell.1.2.1;have hgTx6:=HO.out.lt;rw [hnb];rw [hx6];clear hx6 hbx6 hnb;refine HK.out _ _ (fun _=>y1) ?_;clear HK K
       try simp only [Act.put,psA,psB,psC]
       refine tQ 10 (some 92) (bA 19 8191) fun K HK=>?_;go_simp;refine(Zar g (cols.length:Int) x6 (by omega) HO.out.si.cs).mono ?_;rintro e x7 ⟨rx7,rfl,j0,j1,-,hcx7,hgx7,-⟩;have hrx7:=j1 (by omega);obtain⟨jj,rfl⟩:=Int.eq_ofNat_of_zero_le j0;clear j0 j1;have hjj:jj<cols.length:=(by omega);have HNB:=hI ((hgx7.block nb (Zac HNB.out) (fun e=>by injection e with e;have:=HO.out.si.gl;have:=HO.out.si.b1;omega)).trans HNB.out);have HMK:=hI (HO.out.mkg HMK.out nR hgx7);have HO:=hI (HO.out.calls hgx7 hcx7);have y1:=HO.out.cell.1.2.1;have hgTx7:=HO.out.lt;clear hcx7 hgx7 hrx7;refine HK.out _ _ (fun _=>y1) ?_;clear HK K
       try simp only [Act.put,psA,psB,psC]
       refine tQ 13 (some 95) (bA 19 16383) fun K HK=>?_;go_simp;refine(Zar g 4 x7 (by omega) HO.out.si.cs).mono ?_;rintro e x8 ⟨rx8,rfl,j0,j1,-,hcx8,hgx8,-⟩;have hrx8:=j1 (by omega);obtain⟨r4,rfl⟩:=Int.eq_ofNat_of_zero_le j0;clear j0 j1;have hr4:r4<4:=(by omega);have HNB:=hI ((hgx8.block nb (Zac HNB.out) (fun e=>by injection e with e;have:=HO.out.si.gl;have:=HO.out.si.b1;omega)).trans HNB.out);have HMK:=hI (HO.out.mkg HMK.out nR hgx8);have HO:=hI (HO.out.calls hgx8 hcx8);have y1:=HO.out.cell.1.2.1;have hgTx8:=HO.out.lt;clear hcx8 hgx8 hrx8;refine HK.out _ _ (fun _=>y1) ?_;clear HK K
       try simp only [Act.put,psA,psB,psC]
       obtain⟨nm4,hn4,hst4⟩:=ZfU HNB.out hr4;have hr4i:(r4:Int)<4:=(by omega);have hnb9:=Zac HNB.out;refine tQ 14 (some 96) (bA 19 32767) fun K HK=>?_;go_simp;refine HK.out _ _ (fun _=>y1) ?_;clear HK K
       try simp only [Act.put,psA,psB,psC]
       refine tQ 15 (some 97) (bA 19 65535) fun K HK=>?_;go_simp;refine HK.out _ _ (fun _=>y1) ?_;clear HK K
       try simp only [Act.put,psA,psB,psC]
       refine tQ 16 (some 98) (bA 19 131071) fun K HK=>?_;have hjjI:(jj:Int)<(cols.length:Int):=(by omega);go_simp;refine HK.out _ _ (fun _=>y1) ?_;clear HK K
       try simp only [Act.put,psA,psB,psC]
       refine tQ 17 (some 99) (bA 19 262143) fun K HK=>?_;go_simp;refine HK.out _ _ (fun _=>y1) ?_;clear HK K
       try simp only [Act.put,psA,psB,psC]
       refine tQ 18 none (bA 19 524287) fun K HK=>?_;obtain⟨yc,-,fc,-⟩:=ZeJ HMK.out hjj;have hgC9:=(HMK.out.base_le (g:=gC) rfl).2;go_simp;refine HK.out _ _ (fun h=>absurd rfl h) ?_;clear HK K;refine tE HQ ?_;clear HQ HP Q';go_upto_region 36 with fail
       have HMK:=hI (Zeh HMK.out hjj hn4);have HO:=hI (HO.out.below ((Below.refl B1 x8).setCell (by show B1≤gC;omega) _:Below B1 x8 (x8.setCell ⟨gC,jj*2,none⟩ (.string nm4))));obtain⟨Wa,hWa⟩:∃ Wa,x8.setCell ⟨gC,jj*2,none⟩ (.string nm4)=Wa:=⟨_,rfl⟩;rw [hWa] at HMK HO ⊢;obtain⟨-,hca,hcs⟩:=HMK.out.slice (by rw [Zaf (n:=24) (fun _=>rfl),List.length_set];omega);rw [show cols.length=(cols.set jj ⟨nm4,cols[jj].kind⟩).length from (List.length_set ..).symm] at HO;have HI:=hI (HO.out.endc (by rw [List.length_set];exact hca) hcs);clear hcs hWa;obtain⟨s0,s1,r0,r1,q0,q1,hlx,hly⟩:=HI.out.cells
       go_wp2_with fail
       obtain⟨v0,v1⟩:=HI.out.ends;exact bodyPost_ret (v:=sAgg vs (some ⟨gT,0,none⟩) T.length cT) (by simp [results,Tryz.results24,go_sem,v0,v1]) rfl (HI.out.done (by rw [List.length_set];omega))
   · skip
     go_upto_region 18 with fail
     refine hideQ (fun c a d v w h=>by cases d<;>exact h) (fun Q' HQ HP=>?_);refine ZdH (fun w'=>w'.cell? ⟨gT,i*5+1,none⟩=some (.slice (some ⟨gC,0,none⟩) cols.length cC)) 13 16 (bA 16 0) (by kernel_rfl) (by kernel_rfl) (by kernel_rfl) ?_;refine ZaU (i:=0) (oi:=⟨some 102,_,_,_,_,_⟩) (v:=?_) (L':=(bA 16 1)) rfl rfl (by kernel_rfl) (by kernel_rfl) (by kernel_rfl) (by kernel_rfl) (by kernel_rfl) HP.out (Or.inl ⟨by rfl,?_⟩) y1 ?_;rotate_left
     · intro w' hSw
       (try dsimp only at hSw)
       go_simp
       (try with_reducible rfl)
     simp only [psA,psB,psC];refine ZaU (i:=1) (oi:=⟨some 103,_,_,_,_,_⟩) (v:=?_) (L':=(bA 16 3)) rfl rfl (by kernel_rfl) (by kernel_rfl) (by kernel_rfl) (by kernel_rfl) (by kernel_rfl) HP.out (Or.inl ⟨by rfl,?_⟩) y1 ?_;rotate_left
     · intro w' hSw
       (try dsimp only at hSw)
       go_simp
       (try with_reducible rfl)
     simp only [psA,psB,psC];refine ZaU (i:=2) (oi:=⟨some 104,_,_,_,_,_⟩) (v:=?_) (L':=(bA 16 7)) rfl rfl (by kernel_rfl) (by kernel_rfl) (by kernel_rfl) (by kernel_rfl) (by kernel_rfl) HP.out (Or.inl ⟨by rfl,?_⟩) y1 ?_;rotate_left
     · intro w' hSw
       (try dsimp only at hSw)
       go_simp
       (try with_reducible rfl)
     simp only [psA,psB,psC];refine ZaU (i:=3) (oi:=⟨some 105,_,_,_,_,_⟩) (v:=?_) (L':=(bA 16 15)) rfl rfl (by kernel_rfl) (by kernel_rfl) (by kernel_rfl) (by kernel_rfl) (by kernel_rfl) HP.out (Or.inl ⟨by rfl,?_⟩) y1 ?_;rotate_left
     · intro w' hSw
       (try dsimp only at hSw)
       go_simp
       (try with_reducible rfl)
     simp only [psA,psB,psC];refine ZaU (i:=4) (oi:=⟨some 106,_,_,_,_,_⟩) (v:=?_) (L':=(bA 16 31)) rfl rfl (by kernel_rfl) (by kernel_rfl) (by kernel_rfl) (by kernel_rfl) (by kernel_rfl) HP.out (Or.inl ⟨by rfl,?_⟩) y1 ?_;rotate_left
     · intro w' hSw
       (try dsimp only at hSw)
       go_simp
       (try with_reducible rfl)
     simp only [psA,psB,psC];refine ZaU (i:=5) (oi:=⟨some 107,_,_,_,_,_⟩) (v:=?_) (L':=(bA 16 63)) rfl rfl (by kernel_rfl) (by kernel_rfl) (by kernel_rfl) (by kernel_rfl) (by kernel_rfl) HP.out (Or.inl ⟨by rfl,?_⟩) y1 ?_;rotate_left
     · intro w' hSw
       (try dsimp only at hSw)
       go_simp
       (try with_reducible rfl)
     simp only [psA,psB,psC];refine ZaU (i:=6) (oi:=⟨some 108,_,_,_,_,_⟩) (v:=?_) (L':=(bA 16 127)) rfl rfl (by kernel_rfl) (by kernel_rfl) (by kernel_rfl) (by kernel_rfl) (by kernel_rfl) HP.out (Or.inl ⟨by rfl,?_⟩) y1 ?_;rotate_left
     · intro w' hSw
       (try dsimp only at hSw)
       go_simp
       (try with_reducible rfl)
     simp only [psA,psB,psC];refine ZaU (i:=7) (oi:=⟨some 109,_,_,_,_,_⟩) (v:=?_) (L':=(bA 16 255)) rfl rfl (by kernel_rfl) (by kernel_rfl) (by kernel_rfl) (by kernel_rfl) (by kernel_rfl) HP.out (Or.inl ⟨by rfl,?_⟩) y1 ?_;rotate_left
     · intro w' hSw
       (try dsimp only at hSw)
       go_simp
       (try with_reducible rfl)
     simp only [psA,psB,psC];refine ZaU (i:=8) (oi:=⟨some 110,_,_,_,_,_⟩) (v:=?_) (L':=(bA 16 511)) rfl rfl (by kernel_rfl) (by kernel_rfl) (by kernel_rfl) (by kernel_rfl) (by kernel_rfl) HP.out (Or.inl ⟨by rfl,?_⟩) y1 ?_;rotate_left
     · intro w' hSw
       (try dsimp only at hSw)
       go_simp
       (try with_reducible rfl)
     simp only [psA,psB,psC];refine ZaU (i:=9) (oi:=⟨some 111,_,_,_,_,_⟩) (v:=?_) (L':=(bA 16 1023)) rfl rfl (by kernel_rfl) (by kernel_rfl) (by kernel_rfl) (by kernel_rfl) (by kernel_rfl) HP.out (Or.inl ⟨by rfl,?_⟩) y1 ?_;rotate_left
     · intro w' hSw
       (try dsimp only at hSw)
       go_simp
       (try with_reducible rfl)
     simp only [psA,psB,psC];refine ZaU (i:=11) (oi:=⟨some 113,_,_,_,_,_⟩) (v:=?_) (L':=(bA 16 3071)) rfl rfl (by kernel_rfl) (by kernel_rfl) (by kernel_rfl) (by kernel_rfl) (by kernel_rfl) HP.out (Or.inl ⟨by rfl,?_⟩) y1 ?_;rotate_left
     · intro w' hSw
       (try dsimp only at hSw)
       go_simp
       (try with_reducible rfl)
     simp only [psA,psB,psC];obtain⟨x0,hx0⟩:∃ x0,w7.drew=x0:=⟨_,rfl⟩;have hgx0:w7.grownBy x0 (some g):=(by rw [←hx0];exact(Fr.refl _ w7).drew.grown);have HMK:=hI (HO.out.mkg HMK.out nR hgx0);have HO:=hI (HO.out.calls hgx0 (by rw [←hx0];exact HO.out.si.cs.keep (fun _ _=>rfl)));have y1:=HO.out.cell.1.2.1;have hgTx0:=HO.out.lt;rw [hx0];clear hx0 hgx0;refine ZbX (i:=10) (o:=⟨some 112,_,_,_,_,_⟩) (L':=(bA 16 4095)) rfl (by kernel_rfl) (by kernel_rfl) (fun K hK=>?_);have HK:=hI hK;clear hK;go_simp;refine(Zar g (cols.length:Int) x0 (by omega) HO.out.si.cs).mono ?_;rintro e w8 ⟨rw8,rfl,j0,j1,-,hcw8,hgw8,-⟩;have hrw8:=j1 (by omega);obtain⟨jj,rfl⟩:=Int.eq_ofNat_of_zero_le j0;clear j0 j1;have HMK:=hI (HO.out.mkg HMK.out nR hgw8);have HO:=hI (HO.out.calls hgw8 hcw8);have y1:=HO.out.cell.1.2.1;have hgTw8:=HO.out.lt;have hjj:jj<cols.length:=(by omega);clear hrw8 hcw8 hgw8;refine HK.out _ _ (fun _=>y1) ?_;clear HK K
     try simp only [Act.put,psA,psB,psC]
     refine ZbX (i:=12) (o:=⟨some 114,_,_,_,_,_⟩) (L':=(bA 16 8191)) rfl (by kernel_rfl) (by kernel_rfl) (fun K hK=>?_);have HK:=hI hK;clear hK;go_simp;refine(Zbf g w8 HO.out.si.cs).mono ?_;rintro e w9 ⟨t9,rfl,hcw9,hgw9⟩;have HMK:=hI (HO.out.mkg HMK.out nR hgw9);have HO:=hI (HO.out.calls hgw9 hcw9);have y1:=HO.out.cell.1.2.1;have hgTw9:=HO.out.lt;clear hcw9 hgw9;refine HK.out _ _ (fun _=>y1) ?_;clear HK K
     try simp only [Act.put,psA,psB,psC]
     refine ZbX (i:=13) (o:=⟨some 115,_,_,_,_,_⟩) (L':=(bA 16 16383)) rfl (by kernel_rfl) (by kernel_rfl) (fun K hK=>?_);have HK:=hI hK;clear hK;have hjjI:(jj:Int)<(cols.length:Int):=(by omega);go_simp;refine HK.out _ _ (fun h=>absurd h (by decide)) ?_;clear HK K
     try simp only [Act.put,psA,psB,psC]
     refine ZbX (i:=14) (o:=⟨some 116,_,_,_,_,_⟩) (L':=(bA 16 32767)) rfl (by kernel_rfl) (by kernel_rfl) (fun K hK=>?_);have HK:=hI hK;clear hK;go_simp;refine HK.out _ _ (fun h=>absurd h (by decide)) ?_;clear HK K
     try simp only [Act.put,psA,psB,psC]
     refine ZbX (i:=15) (o:=⟨none,_,_,_,_,_⟩) (L':=(bA 16 65535)) rfl (by kernel_rfl) (by kernel_rfl) (fun K hK=>?_);have HK:=hI hK;clear hK;obtain⟨-,yc,-,fc⟩:=ZeJ HMK.out hjj;have hgC9:=(HMK.out.base_le (g:=gC) rfl).2;go_simp;refine HK.out _ _ (fun h=>absurd h (by decide)) ?_;clear HK K
     try simp only [Act.put,psA,psB,psC]
     refine ZgC (by kernel_rfl) ?_;rw [HQ.out];clear HQ HP Q';go_upto_region 36 with fail
     have HMK:=hI (mkcol_kind HMK.out hjj t9);have HO:=hI (HO.out.below ((Below.refl B1 w9).setCell (by show B1≤gC;omega) _:Below B1 w9 (w9.setCell ⟨gC,jj*2+1,none⟩ (.int .i64 t9))));obtain⟨Wa,hWa⟩:∃ Wa,w9.setCell ⟨gC,jj*2+1,none⟩ (.int .i64 t9)=Wa:=⟨_,rfl⟩;rw [hWa] at HMK HO ⊢;obtain⟨-,hca,hcs⟩:=HMK.out.slice (by rw [Zaf (n:=24) (fun _=>rfl),List.length_set];omega);rw [show cols.length=(cols.set jj ⟨cols[jj].name,t9⟩).length from (List.length_set ..).symm] at HO;have HI:=hI (HO.out.endc (by rw [List.length_set];exact hca) hcs);clear hcs hWa;obtain⟨s0,s1,r0,r1,q0,q1,hlx,hly⟩:=HI.out.cells
     go_wp2_with fail
     obtain⟨v0,v1⟩:=HI.out.ends;exact bodyPost_ret (v:=sAgg vs (some ⟨gT,0,none⟩) T.length cT) (by simp [results,Tryz.results24,go_sem,v0,v1]) rfl (HI.out.done (by rw [List.length_set];omega))
   · skip
     go_wp2_with fail
     refine(Zbf g _ HO.out.si.cs).mono ?_;rintro e w9 ⟨t9,rfl,hcw9,hgw9⟩;have HCS:=hI (HO.out.colg HCS.out (by omega) hgw9);have HO:=hI (HO.out.calls hgw9 hcw9);have hzw9:=hgw9.size;obtain⟨⟨-,-,y2,-⟩,-,-,f2,-⟩:=HO.out.cell;have hgT4:=HO.out.lt;go_upto_region 36 with fail
     have HI:=hI (HO.out.end2 hcap (HCS.out.more (Zdz (by omega))) t9);obtain⟨Wa,hWa⟩:∃ Wa,w9.setCell ⟨gT,i*5+2,none⟩ (.int .i64 t9)=Wa:=⟨_,rfl⟩;rw [hWa] at HI ⊢;obtain⟨s0,s1,r0,r1,q0,q1,hlx,hly⟩:=HI.out.cells
     go_wp2_with fail
     obtain⟨v0,v1⟩:=HI.out.ends;exact bodyPost_ret (v:=sAgg vs (some ⟨gT,0,none⟩) T.length cT) (by simp [results,Tryz.results24,go_sem,v0,v1]) rfl (HI.out.done (by rw [List.length_set];omega))
   · skip
     obtain⟨⟨-,y1,-⟩,-,f1,-⟩:=HO.out.cell;have hgT4:=HO.out.lt;go_upto_region 36 with fail
     have HI:=hI (HO.out.end1);obtain⟨Wa,hWa⟩:∃ Wa,w7.setCell ⟨gT,i*5+1,none⟩ (.slice none 0 0)=Wa:=⟨_,rfl⟩;rw [hWa] at HI ⊢;obtain⟨s0,s1,r0,r1,q0,q1,hlx,hly⟩:=HI.out.cells
     go_wp2_with fail
     obtain⟨v0,v1⟩:=HI.out.ends;exact bodyPost_ret (v:=sAgg vs (some ⟨gT,0,none⟩) T.length cT) (by simp [results,Tryz.results24,go_sem,v0,v1]) rfl (HI.out.done (by rw [List.length_set];omega))
   · skip
     go_wp2_with fail
     go_loopw [7] (fun x wr=>∃ (k gX cX:Nat) (cs:List Col),x=.int .i64 (k:Int)∧k≤8∧cs.length≤4+k∧B1≤gX∧SsO w wr g S vs gT cT i B1 D T nm (some ⟨gX,0,none⟩) cs.length cX key A2 c2 refs A3 c3 chks∧Mk wr B1 D 84 2 (.slice (some ⟨gX,0,none⟩) cs.length cX) (cs.map Zbk)) (fun x _=>8 - (intOf x).toNat)
     case atStart=>exact⟨0,gC,cC,cols,rfl,by omega,by omega,by omega,HO.out,HMK.out⟩
     case round =>
      clear HO HMK HCS y1 hgT7;obtain⟨wq,rfl⟩:∃ wq:World,wq=wr:=⟨_,rfl⟩;obtain⟨k,gX,cX,cs,rfl,hk8,hcs,hgX1,hso,hmk⟩:=hrel;have HO:=hI hso;have HMK:=hI hmk;have y1:=hso.cell.1.2.1;have hgT4:=hso.lt;clear hso hmk
      by_cases hk:k<8
      · have h8:k=0∨k=1∨k=2∨k=3∨k=4∨k=5∨k=6∨k=7:=(by omega);rcases h8 with rfl | rfl | rfl | rfl | rfl | rfl | rfl | rfl
        all_goals
         go_upto_region 26 with (at_builtin;refine Zaq rfl (.tmp 139) (.tmp 146) 68 rfl B1 D 84 iC _ 2 24 Tryz.underlying68 hiC cz0 cz1 cz2 rfl (by decide) wq (some ⟨gX,0,none⟩) cs.length cX (cs.map Zbk) HMK.out rfl (Zbk ⟨_,4⟩) #[.string _,.int .i64 4] (ZeH (c:=⟨_,4⟩) (col_size (by decide) _)) (ZeB _) (ZbJ _) 1 rfl (by omega) (by omega) ?_;intro gR cR w9 hm9 hb9 hlt9;obtain⟨tx,htx⟩:∃ tx:ByteArray,Mk w9 B1 D 84 2 (.slice (some ⟨gR,0,none⟩) (cs++[(⟨tx,4⟩:Col)]).length cR) ((cs++[(⟨tx,4⟩:Col)]).map Zbk):=⟨_,by rw [List.length_append,List.map_append];exact hm9⟩;have HMK:=hI htx;have HO:=hI (HO.out.below hb9);obtain⟨⟨-,y1,-⟩,-,f1,-⟩:=HO.out.cell;have hgT9:=HO.out.lt;have hgR9:=(htx.base_le (g:=gR) rfl).1;clear hm9 hb9 htx)
         rw [show cs.length+1=(cs++[(⟨tx,4⟩:Col)]).length by simp];have HMK:=hI (HO.out.mks (j:=i*5+1) (x:=.slice (some ⟨gR,0,none⟩) (cs++[(⟨tx,4⟩:Col)]).length cR) HMK.out nR);have HO:=hI (HO.out.set1 (some ⟨gR,0,none⟩) (cs++[(⟨tx,4⟩:Col)]).length cR);obtain⟨Wz,hWz⟩:∃ Wz,w9.setCell ⟨gT,i*5+1,none⟩ (.slice (some ⟨gR,0,none⟩) (cs++[(⟨tx,4⟩:Col)]).length cR)=Wz:=⟨_,rfl⟩;rw [hWz] at HMK HO ⊢;have hcl:(cs++[(⟨tx,4⟩:Col)]).length=cs.length+1:=(by simp);generalize cs++[(⟨tx,4⟩:Col)]=cz at HMK HO hcl ⊢;clear hWz
         go_wp2_with fail
         go_roundw
         case rel=>first | exact⟨1,gR,cR,cz,by go_num,by omega,by omega,hgR9,HO.out,HMK.out⟩ | exact⟨2,gR,cR,cz,by go_num,by omega,by omega,hgR9,HO.out,HMK.out⟩ | exact⟨3,gR,cR,cz,by go_num,by omega,by omega,hgR9,HO.out,HMK.out⟩ | exact⟨4,gR,cR,cz,by go_num,by omega,by omega,hgR9,HO.out,HMK.out⟩ | exact⟨5,gR,cR,cz,by go_num,by omega,by omega,hgR9,HO.out,HMK.out⟩ | exact⟨6,gR,cR,cz,by go_num,by omega,by omega,hgR9,HO.out,HMK.out⟩ | exact⟨7,gR,cR,cz,by go_num,by omega,by omega,hgR9,HO.out,HMK.out⟩ | exact⟨8,gR,cR,cz,by go_num,by omega,by omega,hgR9,HO.out,HMK.out⟩
         case measure=>simp [intOf]
      · have hd:decide ((k:Int)<8)=false:=decide_eq_false (by omega);go_upto_region 36 with fail
        obtain⟨-,hca,hcs9⟩:=HMK.out.slice (by rw [Zaf (n:=24) (fun _=>rfl)];omega);have HI:=hI (HO.out.endc hca hcs9);obtain⟨s0,s1,r0,r1,q0,q1,hlx,hly⟩:=HI.out.cells
        go_wp2_with fail
        obtain⟨v0,v1⟩:=HI.out.ends;exact bodyPost_ret (v:=sAgg vs (some ⟨gT,0,none⟩) T.length cT) (by simp [results,Tryz.results24,go_sem,v0,v1]) rfl (HI.out.done (by rw [List.length_set];omega))
   · skip
     obtain⟨⟨-,-,-,y3,-⟩,-,-,-,f3,-⟩:=HO.out.cell;have hgT4:=HO.out.lt
     go_wp2_with (at_builtin;refine Zbc rfl (.tmp 156) 69 rfl BB D 87 iR _ 2 32 Tryz.underlying69 hiR rz0 rz1 rz2 rfl (by decide) _ (fun b hb=>by have:=(HO.out.si.dat b hb).2.2.2.2.2;omega) (by omega) (refs.map ZbG) A2 refs.length c2 HO.out.rf.2 (Zbr Zcy _) (fun d hd=>by obtain⟨a,_,rfl⟩:=List.mem_map.1 hd;exact ZbV a) (by simp) rfl (by omega) (by omega) ?_;intro A8 c8 w8 hm8 hb8;have HMR:=hI hm8;have HCS:=hI (HO.out.colb HCS.out (by omega) hb8);have HO:=hI (HO.out.below (hb8.mono (by omega)));have hzw8:=hb8.size;clear hm8 hb8)
     refine(Zbf g _ HO.out.si.cs).mono ?_;rintro e w9 ⟨x9,rfl,hcw9,hgw9⟩;have hob:∀ b,(Value.slice A8 refs.length c8).ownBlock=some b→b<w8.heap.size:=fun b e=>(HMR.out.base_le e).2;have HMR:=hI (HO.out.mkg HMR.out (by omega) hgw9);have HCS:=hI (HO.out.colg HCS.out (by omega) hgw9);have HO:=hI (HO.out.calls hgw9 hcw9);have hzw9:=hgw9.size;obtain⟨W9,hW9⟩:∃ W9,w9.alloc (.cells #[.int .i64 x9] 3)=W9:=⟨_,rfl⟩;have hb9:Below w9.heap.size w9 W9:=(by rw [←hW9];exact(Below.refl _ _).alloc nR _);obtain⟨nb,hnb⟩:∃ nb,w9.heap.size=nb:=⟨_,rfl⟩;have HNB:=hI (show W9.heap[nb]?=some (.cells #[.int .i64 x9] 3 (0,0)) by rw [←hW9,←hnb];exact heap_alloc_new w9 _);have hnb8:w8.heap.size≤nb:=(by omega);have hnb9:=Zac HNB.out;have HMR:=hI (HMR.out.below hb9);have hb9':=hb9.mono (show BB≤w9.heap.size by omega);have HCS:=hI (HO.out.colb HCS.out (by omega) hb9');have HO:=hI (HO.out.below (hb9'.mono (by omega)));have hzW9:=hb9'.size;clear hb9 hb9' hcw9 hgw9
     go_wp2_with fail
     try rw [hnb]
     try rw [hW9]
     clear hW9 hnb;refine(Zbf g _ HO.out.si.cs).mono ?_;rintro e wa ⟨t10,rfl,hcwa,hgwa⟩;have HNB:=hI ((hgwa.block nb hnb9 (fun e=>by injection e with e;have:=HO.out.si.gl;have:=HO.out.si.b1;omega)).trans HNB.out);have HMR:=hI (HO.out.mkg HMR.out (by omega) hgwa);have HCS:=hI (HO.out.colg HCS.out (by omega) hgwa);have HO:=hI (HO.out.calls hgwa hcwa);have hzwa:=hgwa.size;clear hcwa hgwa;obtain⟨⟨-,-,-,y3,-⟩,-,-,-,f3,-⟩:=HO.out.cell;have hgT4:=HO.out.lt;have hnba:=Zac HNB.out;go_upto_region 36 with (at_builtin;refine Zaq rfl (.tmp 157) (.tmp 164) 69 rfl BB D 87 iR _ 2 32 Tryz.underlying69 hiR rz0 rz1 rz2 rfl (by decide) wa A8 refs.length c8 (refs.map ZbG) HMR.out rfl (ZbG (⟨[x9],t10⟩:Rfr)) #[.slice (some ⟨nb,0,none⟩) 1 1,.int .i64 t10] (ZfQ (r:=(⟨[x9],t10⟩:Rfr)) (Nat.le_refl 1) (ints_one HNB.out (.inr ⟨by omega,hnba,fun e=>by have:=hob nb e.symm;omega⟩))) (Zcy _) (ZbV _) 1 rfl (by omega) (by omega) ?_;intro gR cR wb hm9 hb9 hlt9;have HMR:=hI (show Mk wb BB D 87 2 (.slice (some ⟨gR,0,none⟩) (refs.length+1) cR) ((refs++[(⟨[x9],t10⟩:Rfr)]).map ZbG) by rw [List.map_append];exact hm9);have HCS:=hI (HO.out.colb HCS.out (by omega) hb9);have HO:=hI (HO.out.below (hb9.mono (by omega)));have hzwb:=hb9.size;obtain⟨⟨-,-,-,y3,-⟩,-,-,-,f3,-⟩:=HO.out.cell;have hgT4:=HO.out.lt;clear hm9 hb9)
     obtain⟨hn9,hq9,hsl⟩:=HMR.out.slice (by rw [Zaf (n:=32) (fun _=>rfl)];simp;omega);rw [List.length_map] at hn9;have HI:=hI (HO.out.end3 hcap (HCS.out.more (Zdz (by omega))) ⟨hn9,hq9,hsl.more (fun b hb=>hb.imp id (fun hb=>⟨by omega,hb.2⟩))⟩);obtain⟨Wz,hWz⟩:∃ Wz,wb.setCell ⟨gT,i*5+3,none⟩ (.slice (some ⟨gR,0,none⟩) (refs.length+1) cR)=Wz:=⟨_,rfl⟩;rw [hWz] at HI ⊢;clear hsl hWz;obtain⟨s0,s1,r0,r1,q0,q1,hlx,hly⟩:=HI.out.cells
     go_wp2_with fail
     obtain⟨v0,v1⟩:=HI.out.ends;exact bodyPost_ret (v:=sAgg vs (some ⟨gT,0,none⟩) T.length cT) (by simp [results,Tryz.results24,go_sem,v0,v1]) rfl (HI.out.done (by rw [List.length_set];omega))
   · skip
     obtain⟨⟨-,-,-,y3,-⟩,-,-,-,f3,-⟩:=HO.out.cell;have hgT4:=HO.out.lt;go_upto_region 36 with (first | (at_builtin;refine Zbc rfl (.tmp 174) 69 rfl BB D 87 iR _ 2 32 Tryz.underlying69 hiR rz0 rz1 rz2 rfl (by decide) _ (fun b hb=>by have:=(HO.out.si.dat b hb).2.2.2.2.2;omega) (by omega) (refs.map ZbG) A2 refs.length c2 HO.out.rf.2 (Zbr Zcy _) (fun d hd=>by obtain⟨a,_,rfl⟩:=List.mem_map.1 hd;exact ZbV a) (by simp) rfl (by omega) (by omega) ?_;intro A8 c8 w8 hm8 hb8;have HMR:=hI hm8;have HCS:=hI (HO.out.colb HCS.out (by omega) hb8);have HO:=hI (HO.out.below (hb8.mono (by omega)));have hzw8:=hb8.size;obtain⟨⟨-,-,-,y3,-⟩,-,-,-,f3,-⟩:=HO.out.cell;have hgT4:=HO.out.lt;clear hm8 hb8) | (at_builtin;refine Zaq rfl (.tmp 175) (.tmp 177) 69 rfl BB D 87 iR _ 2 32 Tryz.underlying69 hiR rz0 rz1 rz2 rfl (by decide) w8 A8 refs.length c8 (refs.map ZbG) HMR.out rfl (ZbG (⟨[],0⟩:Rfr)) #[.slice none 0 0,.int .i64 0] (ZfQ (r:=(⟨[],0⟩:Rfr)) (Nat.le_refl 0) Sl.nil_) (Zcy _) (ZbV _) 1 rfl (by omega) (by omega) ?_;intro gR cR wb hm9 hb9 hlt9;have HMR:=hI (show Mk wb BB D 87 2 (.slice (some ⟨gR,0,none⟩) (refs.length+1) cR) ((refs++[(⟨[],0⟩:Rfr)]).map ZbG) by rw [List.map_append];exact hm9);have HCS:=hI (HO.out.colb HCS.out (by omega) hb9);have HO:=hI (HO.out.below (hb9.mono (by omega)));have hzwb:=hb9.size;obtain⟨⟨-,-,-,y3,-⟩,-,-,-,f3,-⟩:=HO.out.cell;have hgT4:=HO.out.lt;clear hm9 hb9))
     obtain⟨hn9,hq9,hsl⟩:=HMR.out.slice (by rw [Zaf (n:=32) (fun _=>rfl)];simp;omega);rw [List.length_map] at hn9;have HI:=hI (HO.out.end3 hcap (HCS.out.more (Zdz (by omega))) ⟨hn9,hq9,hsl.more (fun b hb=>hb.imp id (fun hb=>⟨by omega,hb.2⟩))⟩);obtain⟨Wz,hWz⟩:∃ Wz,wb.setCell ⟨gT,i*5+3,none⟩ (.slice (some ⟨gR,0,none⟩) (refs.length+1) cR)=Wz:=⟨_,rfl⟩;rw [hWz] at HI ⊢;clear hsl hWz;obtain⟨s0,s1,r0,r1,q0,q1,hlx,hly⟩:=HI.out.cells
     go_wp2_with fail
     obtain⟨v0,v1⟩:=HI.out.ends;exact bodyPost_ret (v:=sAgg vs (some ⟨gT,0,none⟩) T.length cT) (by simp [results,Tryz.results24,go_sem,v0,v1]) rfl (HI.out.done (by rw [List.length_set];omega))
   · skip
     obtain⟨⟨-,-,-,y3,-⟩,-,-,-,f3,-⟩:=HO.out.cell;have hgT4:=HO.out.lt;have hmk:=run_make_ref5;go_upto_region 36 with fail
     clear hmk;have HI0:=hI (show SsO w (w7.alloc (.cells ZgE 87)) g S vs gT cT i B1 D T nm (some ⟨gC,0,none⟩) cols.length cC key A2 c2 refs A3 c3 chks from HO.out.below ((Below.refl _ _).alloc (by omega) _));have hcs9:=HO.out.colb HCS.out (by omega) ((Below.refl BB w7).alloc (by omega) (.cells ZgE 87));have HI:=hI (HI0.out.end3 hcap (hcs9.more (Zdz (by simp;omega))) (n:=5) (c:=5) (refs':=[r0,r0,r0,r0,r0]) ⟨rfl,Nat.le_refl 5,refs5 (nb:=w7.heap.size) (heap_alloc_new w7 _) (.inr ⟨by omega,by simp⟩)⟩);clear HI0 hcs9;rw [←World.setCell_alloc_past _ _ _ _ hgT4];obtain⟨Wz,hWz⟩:∃ Wz,(w7.alloc (.cells ZgE 87)).setCell ⟨gT,i*5+3,none⟩ (.slice (some ⟨w7.heap.size,0,none⟩) 5 5)=Wz:=⟨_,rfl⟩;rw [hWz] at HI ⊢;obtain⟨s0,s1,r0,r1,q0,q1,hlx,hly⟩:=HI.out.cells
     go_wp2_with fail
     obtain⟨v0,v1⟩:=HI.out.ends;exact bodyPost_ret (v:=sAgg vs (some ⟨gT,0,none⟩) T.length cT) (by simp [results,Tryz.results24,go_sem,v0,v1]) rfl (HI.out.done (by rw [List.length_set];omega))
   · skip
     obtain⟨⟨-,-,-,-,y4⟩,-,-,-,-,f4⟩:=HO.out.cell;have hgT4:=HO.out.lt
     go_wp2_with (at_builtin;refine Zbc rfl (.tmp 193) 70 rfl BB D 93 iP _ 13 136 Tryz.underlying70 hiP pz0 pz1 pz2 rfl (by decide) _ (fun b hb=>by have:=(HO.out.si.dat b hb).2.2.2.2.2;omega) (by omega) (chks.map encPred) A3 chks.length c3 HO.out.ck.2 (Zbr Zch _) (fun d hd=>by obtain⟨a,_,rfl⟩:=List.mem_map.1 hd;exact Zbx a) (by simp) rfl (by omega) (by omega) ?_;intro A8 c8 w8 hm8 hb8;have HMR:=hI hm8;have HCS:=hI (HO.out.colb HCS.out (by omega) hb8);have HO:=hI (HO.out.below (hb8.mono (by omega)));have hzw8:=hb8.size;clear hm8 hb8)
     refine(spoilPred_any g _ HO.out.si.cs).mono ?_;rintro e w9 ⟨op,cm,lk,li,lvk,lvi,lvt,rk,ri,rvk,rvi,rvt,AP,cp,args,rfl,hap,-,hpr,hs1,hs2,hcw9,hgw9⟩;have hob:∀ b,(Value.slice A8 chks.length c8).ownBlock=some b→b<w8.heap.size:=fun b e=>(HMR.out.base_le e).2;have HPR:=hI hpr;have HMR:=hI (HO.out.mkg HMR.out (by omega) hgw9);have HCS:=hI (HO.out.colg HCS.out (by omega) hgw9);have HO:=hI (HO.out.calls hgw9 hcw9);have hzw9:=hgw9.size;clear hcw9 hgw9 hpr;obtain⟨⟨-,-,-,-,y4⟩,-,-,-,-,f4⟩:=HO.out.cell;have hgT4:=HO.out.lt;go_upto_region 36 with (at_builtin;refine Zaq rfl (.tmp 194) (.tmp 198) 70 rfl BB D 93 iP _ 13 136 Tryz.underlying70 hiP pz0 pz1 pz2 rfl (by decide) w9 A8 chks.length c8 (chks.map encPred) HMR.out rfl (encPred (.mk op cm ⟨lk,li,⟨lvk,lvi,lvt⟩⟩ ⟨rk,ri,⟨rvk,rvi,rvt⟩⟩ args:Pred)) #[.int .i64 op,.int .i64 cm,.int .i64 lk,.int .i64 li,.int .i64 lvk,.int .i64 lvi,.string lvt,.int .i64 rk,.int .i64 ri,.int .i64 rvk,.int .i64 rvi,.string rvt,.slice AP args.length cp] (Zcp hap hs1 hs2 (HPR.out.more (fun b hb=>.inr ⟨by have:=hb.1;omega,hb.2,fun e=>by have:=hob b e.symm;have:=hb.1;omega⟩))) (Zch _) (Zbx _) 1 rfl (by omega) (by omega) ?_;intro gR cR wb hm9 hb9 hlt9;have HMR:=hI (show Mk wb BB D 93 13 (.slice (some ⟨gR,0,none⟩) (chks.length+1) cR) ((chks++[(.mk op cm ⟨lk,li,⟨lvk,lvi,lvt⟩⟩ ⟨rk,ri,⟨rvk,rvi,rvt⟩⟩ args:Pred)]).map encPred) by rw [List.map_append];exact hm9);have HCS:=hI (HO.out.colb HCS.out (by omega) hb9);have HO:=hI (HO.out.below (hb9.mono (by omega)));have hzwb:=hb9.size;obtain⟨⟨-,-,-,-,y4⟩,-,-,-,-,f4⟩:=HO.out.cell;have hgT4:=HO.out.lt;clear hm9 hb9)
     obtain⟨hn9,hq9,hsl⟩:=HMR.out.slice (by rw [Zaf (n:=136) (ZaV)];simp;omega);rw [List.length_map] at hn9;have HI:=hI (HO.out.end4 hcap (HCS.out.more (Zdz (by omega))) ⟨hn9,hq9,hsl.more (fun b hb=>hb.imp id (fun hb=>⟨by omega,hb.2⟩))⟩);obtain⟨Wz,hWz⟩:∃ Wz,wb.setCell ⟨gT,i*5+4,none⟩ (.slice (some ⟨gR,0,none⟩) (chks.length+1) cR)=Wz:=⟨_,rfl⟩;rw [hWz] at HI ⊢;clear hsl hWz;obtain⟨s0,s1,r0,r1,q0,q1,hlx,hly⟩:=HI.out.cells
     go_wp2_with fail
     obtain⟨v0,v1⟩:=HI.out.ends;exact bodyPost_ret (v:=sAgg vs (some ⟨gT,0,none⟩) T.length cT) (by simp [results,Tryz.results24,go_sem,v0,v1]) rfl (HI.out.done (by rw [List.length_set];omega))
   · skip
     have HI:=hI (HO.out.endc hcap (HCS.out.more (Zdz (by omega))));obtain⟨L,hL⟩:∃ L,(T.set i ⟨nm,cols,key,refs,chks⟩)=L:=⟨_,rfl⟩;have hTL:T.length=L.length:=(by rw [←hL,List.length_set]);rw [hL] at HI;have HI:=hI (show SsF w w7 g S vs (some ⟨gT,0,none⟩) L.length cT L by rw [←hTL];exact HI.out);have hL1:1≤L.length:=(by omega);have hL9:L.length≤9:=(by omega);clear hL HMK HO HCS HTS hil
     go_wp2_with fail
     go_loopw [59] (fun _ wr=>∃ (gX cX:Nat) (l:List Tab),1≤l.length∧l.length≤9∧SsF w wr g S vs (some ⟨gX,0,none⟩) l.length cX l) (fun _ wr=>ZfR wr w.heap.size)
     case atStart=>exact⟨gT,cT,L,hL1,hL9,HI.out⟩
     case round =>
      clear HI y1;obtain⟨wq,rfl⟩:∃ wq:World,wq=wr:=⟨_,rfl⟩;obtain⟨gX,cX,l,hl1,hl9,hsf⟩:=hrel;have HI:=hI hsf;have s1:wq.cell? ⟨w.heap.size,1,none⟩=some (.slice (some ⟨gX,0,none⟩) l.length cX):=Zaa HI.out.sb 1 _ rfl;have hlx:w.heap.size<wq.heap.size:=(by have:=HI.out.sz;omega);have hms:=ZeQ s1;clear hsf
      by_cases hk:l.length≤8
      · have hd:decide ((l.length:Int)≤8)=true:=decide_eq_true (by omega);have hl1I:0<l.length:=(by omega);go_upto_region 12 with fail
        refine hideQ (fun c a d v w h=>by cases d<;>exact h) (fun Q' HQ HP=>?_);refine ZdH (fun w'=>w'.cell? ⟨w.heap.size,1,none⟩=some (.slice (some ⟨gX,0,none⟩) l.length cX)) 8 10 (bA 10 0) (by kernel_rfl) (by kernel_rfl) (by kernel_rfl) ?_;refine ZaU (i:=0) (oi:=⟨some 61,_,_,_,_,_⟩) (v:=?_) (L':=(bA 10 1)) rfl rfl (by kernel_rfl) (by kernel_rfl) (by kernel_rfl) (by kernel_rfl) (by kernel_rfl) HP.out (Or.inl ⟨by rfl,?_⟩) s1 ?_;rotate_left
        · intro w' hSw
          (try dsimp only at hSw)
          go_simp
          (try with_reducible rfl)
        simp only [psA,psB,psC];refine ZaU (i:=1) (oi:=⟨some 62,_,_,_,_,_⟩) (v:=?_) (L':=(bA 10 3)) rfl rfl (by kernel_rfl) (by kernel_rfl) (by kernel_rfl) (by kernel_rfl) (by kernel_rfl) HP.out (Or.inl ⟨by rfl,?_⟩) s1 ?_;rotate_left
        · intro w' hSw
          (try dsimp only at hSw)
          go_simp
          (try with_reducible rfl)
        simp only [psA,psB,psC];refine ZaU (i:=2) (oi:=⟨some 63,_,_,_,_,_⟩) (v:=?_) (L':=(bA 10 7)) rfl rfl (by kernel_rfl) (by kernel_rfl) (by kernel_rfl) (by kernel_rfl) (by kernel_rfl) HP.out (Or.inl ⟨by rfl,?_⟩) s1 ?_;rotate_left
        · intro w' hSw
          (try dsimp only at hSw)
          go_simp
          (try with_reducible rfl)
        simp only [psA,psB,psC];refine ZaU (i:=3) (oi:=⟨some 64,_,_,_,_,_⟩) (v:=?_) (L':=(bA 10 15)) rfl rfl (by kernel_rfl) (by kernel_rfl) (by kernel_rfl) (by kernel_rfl) (by kernel_rfl) HP.out (Or.inl ⟨by rfl,?_⟩) s1 ?_;rotate_left
        · intro w' hSw
          (try dsimp only at hSw)
          go_simp
          (try with_reducible rfl)
        simp only [psA,psB,psC];refine ZaU (i:=4) (oi:=⟨some 65,_,_,_,_,_⟩) (v:=?_) (L':=(bA 10 31)) rfl rfl (by kernel_rfl) (by kernel_rfl) (by kernel_rfl) (by kernel_rfl) (by kernel_rfl) HP.out (Or.inl ⟨by rfl,?_⟩) s1 ?_;rotate_left
        · intro w' hSw
          (try dsimp only at hSw)
          go_simp
          (try with_reducible rfl)
        simp only [psA,psB,psC];obtain⟨v0,hv0⟩:∃ v0,wq.drew=v0:=⟨_,rfl⟩;have hfr0:Fr (fun b=>b=g) wq v0:=(by rw [←hv0];exact(Fr.refl _ _).drew);have HI:=hI (HI.out.upd hfr0 (by rw [←hv0];exact HI.out.cs.keep (fun _ _=>rfl)));obtain⟨hgX,x0,x1,x2,x3,x4,hv5,c0,c1',c2',c3',c4⟩:=HI.out.first (by omega);have HV5:=hI hv5;have s1:v0.cell? ⟨w.heap.size,1,none⟩=some (.slice (some ⟨gX,0,none⟩) l.length cX):=Zaa HI.out.sb 1 _ rfl;have hlx:w.heap.size<v0.heap.size:=(by have:=HI.out.sz;omega);rw [hv0];clear hv0 hfr0 hv5;refine ZbX (i:=5) (o:=⟨some 66,_,_,_,_,_⟩) (L':=(bA 10 63)) rfl (by kernel_rfl) (by kernel_rfl) (fun K hK=>?_);have HK:=hI hK;clear hK;go_simp;refine HK.out _ _ (fun _=>s1) ?_;clear HK K
        try simp only [Act.put,psA,psB,psC]
        refine ZbX (i:=6) (o:=⟨some 67,_,_,_,_,_⟩) (L':=(bA 10 127)) rfl (by kernel_rfl) (by kernel_rfl) (fun K hK=>?_);have HK:=hI hK;clear hK;go_simp;have s1a:(v0.alloc (.cells #[x0,x1,x2,x3,x4] 72)).cell? ⟨w.heap.size,1,none⟩=some (.slice (some ⟨gX,0,none⟩) l.length cX):=(Zai hlx).trans s1;refine HK.out _ _ (fun _=>s1a) ?_;clear HK K
        try simp only [Act.put,psA,psB,psC]
        refine ZbX (i:=7) (o:=⟨some 68,_,_,_,_,_⟩) (L':=(bA 10 255)) rfl (by kernel_rfl) (by kernel_rfl) (fun K hK=>?_);have HK:=hI hK;clear hK;refine Zdn (by rfl) (.tmp 62) (.tmp 67) 26 (by rfl) (w.heap.size+2) S 72 iT _ 5 96 Tryz.underlying26 hiT tz0 tz1 tz2 rfl (by decide) v0 (some ⟨gX,0,none⟩) l.length cX (l.map ZaH) HI.out.tm (by rfl) (ZaH l[0]) #[x0,x1,x2,x3,x4] HV5.out (Zez _) (ZbI _) 1 (by rfl) (by omega) (by omega) ?_;intro g9 cap9 w9 hm9 hb9 hlt9;have HM9:=hI (show Mk w9 (w.heap.size+2) S 72 5 (.slice (some ⟨g9,0,none⟩) (l.length+1) cap9) ((l++[l[0]]).map ZaH) by rw [List.map_append];exact hm9);have HB9:=hI hb9;have sx:w9.cell? ⟨w.heap.size,1,none⟩=some (.slice (some ⟨gX,0,none⟩) l.length cX):=cJ hb9 s1;have fx:w9.frozen? ⟨w.heap.size,1,none⟩=false:=(by simp [World.frozen?,hb9.block w.heap.size (by omega),HI.out.sb]);have hl9:w.heap.size<w9.heap.size:=(by omega);clear hm9 hb9;refine HK.out _ _ (fun _=>sx) ?_;clear HK K
        try simp only [Act.put,psA,psB,psC]
        refine ZbX (i:=8) (o:=⟨some 69,_,_,_,_,_⟩) (L':=(bA 10 511)) rfl (by kernel_rfl) (by kernel_rfl) (fun K hK=>?_);have HK:=hI hK;clear hK;go_simp;refine HK.out _ _ (fun h=>absurd h (by decide)) ?_;clear HK K
        try simp only [Act.put,psA,psB,psC]
        refine ZbX (i:=9) (o:=⟨none,_,_,_,_,_⟩) (L':=(bA 10 1023)) rfl (by kernel_rfl) (by kernel_rfl) (fun K hK=>?_);have HK:=hI hK;clear hK;go_simp;refine HK.out _ _ (fun h=>absurd h (by decide)) ?_;clear HK K
        try simp only [Act.put,psA,psB,psC]
        refine ZgC (by kernel_rfl) ?_;rw [HQ.out];clear HQ HP Q';obtain⟨Wz,hWz⟩:∃ Wz,w9.setCell ⟨w.heap.size,1,none⟩ (.slice (some ⟨g9,0,none⟩) (l.length+1) cap9)=Wz:=⟨_,rfl⟩;have HI:=hI (show SsF w Wz g S vs (some ⟨g9,0,none⟩) (l.length+1) cap9 (l++[l[0]]) by rw [←hWz];exact HI.out.grow HB9.out HM9.out)
        try rw [hWz]
        have hms2:=ZeQ (show Wz.cell? ⟨w.heap.size,1,none⟩=some (.slice (some ⟨g9,0,none⟩) (l.length+1) cap9) from Zaa HI.out.sb 1 _ rfl);clear hWz sx fx
        go_wp2_with fail
        go_roundw
        case rel=>exact⟨g9,cap9,l++[l[0]],by simp,by simp;omega,by rw [List.length_append];exact HI.out⟩
        case measure=>rw [hms,hms2];omega
      · have hd:decide ((l.length:Int)≤8)=false:=decide_eq_false (by omega);go_upto_region 36 with fail
        obtain⟨s0,s1,r0,r1,q0,q1,hlx,hly⟩:=HI.out.cells
        go_wp2_with fail
        obtain⟨v0,v1⟩:=HI.out.ends;exact bodyPost_ret (v:=sAgg vs (some ⟨gX,0,none⟩) l.length cX) (by simp [results,Tryz.results24,go_sem,v0,v1]) rfl (HI.out.done (by omega))
 · go_wp2_with fail
   refine(Zbf g _ HI.out.cs).mono ?_;rintro e w4 ⟨t4,rfl,hc4,hg4⟩;have HI:=hI (HI.out.upd (ZaL hg4) hc4);clear hc4 hg4 hl3;obtain⟨s0,-,-,-,-,-,hlx,-⟩:=HI.out.cells;have f0:w4.frozen? ⟨w.heap.size,0,none⟩=false:=(by simp [World.frozen?,HI.out.sb]);go_upto_region 4 with fail
   have HI:=hI (HI.out.setV t4);obtain⟨W5,hW5⟩:∃ W5,w4.setCell ⟨w.heap.size,0,none⟩ (.int .i64 t4)=W5:=⟨_,rfl⟩;rw [hW5] at HI ⊢;clear hW5 s0 f0 hlx;obtain⟨s0,s1,r0,r1,q0,q1,hlx,hly⟩:=HI.out.cells
   go_wp2_with fail
   obtain⟨v0,v1⟩:=HI.out.ends;exact bodyPost_ret (v:=sAgg t4 (some ⟨gT,0,none⟩) T.length cT) (by simp [results,Tryz.results24,go_sem,v0,v1]) rfl (HI.out.done (by omega))
end Go.Proofs.YtkpjjfhfbpfjpaaGreat
