import Derived.Test.YtkpjjfhfbpfjpaaGreatK9674fd
import Derived.Test.YtkpjjfhfbpfjpaaGreatK4e30bf
import Derived.Deep.Cut
import Derived.Test.YtkpjjfhfbpfjpaaGreatK740de7
import Derived.Deep.CutBlock
import Derived.Deep.CutRange
import Derived.Deep.DeepCutAuto
import Derived.Test.YtkpjjfhfbpfjpaaGreatKfa25bd
import Derived.Test.YtkpjjfhfbpfjpaaGreatK42e91f
import Derived.Test.YtkpjjfhfbpfjpaaGreatK3e01fc
import Derived.Test.YtkpjjfhfbpfjpaaGreatK9a2eb5
set_option linter.unusedVariables false
set_option linter.unusedSimpArgs false
set_option maxRecDepth 100000
set_option maxHeartbeats 8000000
namespace Go.Proofs.YtkpjjfhfbpfjpaaGreat
open Go.RowKit
theorem infoLC:(Tryz.prog.info? 23).map (fun i=>(i.zero,i.size,i.bytes))=some (some (.slice none 0 0),1,24):=by kernel_rfl
theorem run_make_chgs (n:Nat) (hn:n≤1000) (w:World) :
  (Instr.makeSlice 60 (.int .i64 (n:Int)) (.int .i64 (n:Int))).run Tryz.prog w=.ok (.slice (some ⟨w.heap.size,0,none⟩) n n) (w.alloc (.cells (Zao n).toArray 23)):=by
 obtain⟨i0,hi,hz0,hz1,hz2⟩:=info_parts infoLC;have hr:=run_make (P:=Tryz.prog) w 60 23 i0 _ Tryz.underlying60 hi hz0 .i64 .i64 n n (by omega) (by omega) (by rw [hz2];omega) (by omega);rw [hr,hz1];simp only [Int.toNat_natCast]
 congr 3
 apply Array.ext
 · simp [size_madeCells,Zao]
 · intro i h1 h2;simp [madeCells,Zao,Value.cells,Nat.mod_one]
theorem ZeX (A0:Option Addr) (c0':Nat) (s:Sch) (n:Int) (AC:Option Addr) (cc:Nat) (l:List Chg) (S:Nat→Prop) (w:World) (hs:TabS w S A0 s.tabs) (hch:ChgS w S AC l) (hS:∀ b,S b→b<w.heap.size) (hll:l.length≤19)
  (hgd:schF pcF s=0→(netF 0 s 1 l).1=0→∀ c ∈ (netF 0 s 1 l).2,ChgN s c) (hnl:(netF (schF pcF s) s 1 l).2.length≤1000) :
  Calls Tryz.prog 32 #[sAgg s.version A0 s.tabs.length c0',.int .i64 n,.slice AC l.length cc] w (SplP (Zcs s n l) w):=by
 have hsl:=hs.len;have HS:=hI hs;have HCH:=hI hch;clear hs hch;obtain⟨i0,hi,hj0',hj1',hj2''⟩:=info_parts infoC;obtain⟨er,her⟩:∃ er,ZbR s n=er:=⟨_,rfl⟩;have HER:=hI her;have HSP:=hI (show Zcs s n l=if er≠0 then (er,[]) else if (netF (schF pcF s) s 1 l).1≠0 then ((netF (schF pcF s) s 1 l).1,[]) else (0,Zbw n.toNat (ZbM s n) (netF (schF pcF s) s 1 l).2) by unfold Zcs;rw [her]);clear her;obtain⟨W0,hW0⟩:∃ W0,w.alloc (.cells #[.int .i64 s.version,.slice A0 s.tabs.length c0'] 28)=W0:=⟨_,rfl⟩;have HB0:=hI (show Below w.heap.size w W0 by rw [←hW0];exact(Below.refl w.heap.size w).alloc nR _);have hz0:W0.heap.size≤w.heap.size+1∧w.heap.size+1≤W0.heap.size:=(by rw [←hW0];simp);have SB:=hI (show W0.heap[w.heap.size]?=some (.cells #[.int .i64 s.version,.slice A0 s.tabs.length c0'] 28 (0,0)) by rw [←hW0];exact heap_alloc_new w _);have x0:W0.cell? ⟨w.heap.size,0,none⟩=some (.int .i64 s.version):=Zaa SB.out 0 _ rfl;have x1:W0.cell? ⟨w.heap.size,1,none⟩=some (.slice A0 s.tabs.length c0'):=Zaa SB.out 1 _ rfl;have hws:w.heap.size<W0.heap.size:=(by omega);go_enter Tryz.func32,Tryz.ntmps32
 go_wp2_with fail
 try rw [hW0]
 clear hW0;refine(Zcp A0 c0' s n S W0 (HS.out.keep (Same.of_below HB0.out hS)) (fun b hb=>by have:=hS b hb;omega)).mono ?_;rintro e w1 ⟨rfl,hb1⟩;rw [HER.out];have y0:=c9Q hb1 hws x0;have y1:=c9Q hb1 hws x1;have HB1:=hI (HB0.out.trans (hb1.mono (by omega)));have hw1:w.heap.size<w1.heap.size:=(by have:=hb1.size;omega);clear hb1 x0 x1 HB0 SB
 by_cases he:er=0
 · subst he;obtain⟨hn1,hn4,hsc⟩:=ZhA HER.out;have HSC:=hI hsc;rw [hsc] at hnl;have HGD:=hI (hgd hsc);have HSP2:=hI (show Zcs s n l=if (netF 0 s 1 l).1≠0 then ((netF 0 s 1 l).1,[]) else (0,Zbw n.toNat (ZbM s n) (netF 0 s 1 l).2) by rw [HSP.out,if_neg (by simp),hsc]);clear HSP hsc hgd
   go_wp2_with fail
   refine(net_any pcF A0 c0' s 1 AC cc l S w1 (HS.out.keep (Same.of_below HB1.out hS)) (HCH.out.keep (Same.of_below HB1.out hS)) (fun b hb=>by have:=hS b hb;omega) (Zct s) (by have:=ZgI HSC.out;omega) hll).mono ?_;rw [HSC.out];generalize netF 0 s 1 l=r at *;obtain⟨re,N⟩:=r;simp only at hnl HSP2 HGD;rintro e w2 ⟨AN,cN,rfl,hcN,hN,hb2⟩;simp only at hcN hN;have HN:=hI hN;have HCN:=hI hcN;have z0:=c9Q hb2 hw1 y0;have z1:=c9Q hb2 hw1 y1;have HB2:=hI (HB1.out.trans (hb2.mono (by omega)));have hw2:w1.heap.size≤w2.heap.size:=hb2.size;clear hN hcN hb2 y0 y1
   by_cases hr:re=0
   · subst hr;have HGE:=hI (show ∀ c ∈ N,ChgN s c from fun c hc=>HGD.out (by simp) c hc);obtain⟨q,rfl⟩:=Int.eq_ofNat_of_zero_le (show 0≤n by omega);have HSP3:=hI (show Zcs s q l=(0,Zbw q (ZbM s q) N) by rw [HSP2.out,if_neg (by simp),Int.toNat_natCast]);have hmk:=run_make_chgs q (by omega);clear HSP2;go_upto_region 8 with fail
     clear hmk;obtain⟨w3,hW3⟩:∃ w3,w2.alloc (.cells (Zao q).toArray 23)=w3:=⟨_,rfl⟩;obtain⟨gP,hgP⟩:∃ gP,w2.heap.size=gP:=⟨_,rfl⟩;have hb3:Below w2.heap.size w2 w3:=(by rw [←hW3];exact(Below.refl _ _).alloc nR _);have PB:=hI (show w3.heap[gP]?=some (.cells (Zao q).toArray 23 (0,0)) by rw [←hW3,←hgP];exact heap_alloc_new w2 _);have hz3:gP+1≤w3.heap.size∧w3.heap.size≤gP+1:=(by rw [←hW3,←hgP];simp);rw [hW3]
     try rw [hgP]
     have x0:=c9J hb3 z0;have x1:=c9J hb3 z1;have HB3:=hI (HB2.out.trans (hb3.mono (by omega)));have HN3:=hI (HN.out.keep (Same.of_below hb3 (fun b hb=>hb.2)));have HG0:=hI (Grid.start (w:=w3) (B0:=w3.heap.size) (n:=1) (T:=q) (G:=fun _=>gP) (TT:=23) (e:=44) (size:=3) (S0:=New w1 w2) (fun i _=>PB.out) (fun i i' h1 h2 _=>by omega) (fun i _=>by omega) (fun b hb=>⟨by have:=hb.2;omega,fun i _=>by have:=hb.2;omega⟩) nR);have HNW:=hI (show ∀ b,New w1 w2 b→b<gP∧w.heap.size<b from fun b hb=>⟨by have:=hb.2;omega,by have:=hb.1;omega⟩);have hgw:w.heap.size<gP:=(by omega);clear hW3 hb3 z0 z1 HN PB hgP;have hnN:N.length≤cN:=HCN.out
     go_wp2_with fail
     go_loopw [34] (fun i wr=>∃ (k:Nat) (V:Nat→Nat→Value),k≤N.length∧i=.int .i64 k∧Fr (fun b=>b=gP) w3 wr∧Grid wr w3.heap.size 44 23 3 (New w1 w2) 1 q (fun _=>gP) V V (fun _ j=>((N.take k).filter fun c=>ZbM s q c == j).map ZaC)) (fun i _=>N.length - (intOf i).toNat)
     case atStart=>exact⟨0,_,Nat.zero_le _,rfl,Fr.refl _ _,HG0.out.congr (fun i j _ _=>by simp)⟩
     case round =>
      clear HG0;obtain⟨k,V,hkk,rfl,hfr,hgr⟩:=hrel;have HFR:=hI hfr;have HGR:=hI hgr;have hsz:=hfr.size;clear hfr hgr
      by_cases hlt:k<N.length
      · have hdk:decide (k<N.length)=true:=(by simp [hlt]);have hk0:(0:Int)≤(k:Int):=(by omega);have hki:(k:Int)<N.length:=(by omega);obtain⟨b1,o1,rfl,hb1,f0,A1,c1,A2,c2,f1,f1c,f1r,f2,f2c,f2r⟩:=(HN3.out.keep (HFR.out.same (fun b hb=>⟨by have:=HNW.out b hb;omega,by have:=HNW.out b hb;omega⟩))).at_ hlt;have hlb:b1<wr.heap.size:=(by have:=HNW.out b1 hb1;omega);have HCG:=hI (HGE.out (N.getD k chg0) (by rw [show N.getD k chg0=N[k] by simp [List.getD,hlt]];exact List.getElem_mem hlt));have HTK:=hI (show N.take (k+1)=N.take k++[N.getD k chg0] by rw [List.take_succ_eq_append_getElem hlt];simp [List.getD,hlt]);have HTL:=hI (show ∀ j,((N.take k).filter fun c=>ZbM s q c == j).length≤1000 from fun j=>by have h1:=List.length_filter_le (fun c=>ZbM s q c == j) (N.take k);rw [List.length_take] at h1;omega);have HF1:=hI f1r;have HF2:=hI f2r;have hl1:=f1r.len;have hl2:=f2r.len;generalize N.getD k chg0=x at f0 f1 f1c f2 f2c HF1 HF2 HCG HTK hl1 hl2;obtain⟨xt,xo,xn⟩:=x;obtain⟨t9,ht9,htl⟩:=HCG.out.tab;simp only at f0 f1 f1c f2 f2c HF1 HF2 hl1 hl2 ht9;subst ht9;have hkl:=Zeg HSC.out htl;have h01:0<xo.length∨0<xn.length:=HCG.out.some_;have HKV:=hI HCG.out.key;have HHL:=hI (homeC_lt (s:=s) (n:=(q:Int)) (c:=⟨t9,xo,xn⟩) hn1);have HF1C:=hI f1c;have HF2C:=hI f2c;clear f1r f2r f1c f2c;go_upto_region 11 with fail
        obtain⟨W1,hW1⟩:∃ W1,wr.alloc (.cells #[.int .i64 t9,.slice A1 xo.length c1,.slice A2 xn.length c2] 44)=W1:=⟨_,rfl⟩;have X0:=hI (show W1.heap[wr.heap.size]?=some (.cells #[.int .i64 t9,.slice A1 xo.length c1,.slice A2 xn.length c2] 44 (0,0)) by rw [←hW1];exact heap_alloc_new wr _);have hbW:Below wr.heap.size wr W1:=(by rw [←hW1];exact(Below.refl _ _).alloc nR _);have hz1:W1.heap.size≤wr.heap.size+1∧wr.heap.size+1≤W1.heap.size:=(by rw [←hW1];simp);have HBX:=hI hbW;have HFW:=hI (show Below w.heap.size w W1 from HB3.out.trans ((HFR.out.below (n:=w.heap.size) (by omega) (fun b hb=>by omega)).trans (hbW.mono (by omega))));have hs0:=(hbW.cell (p:=⟨w.heap.size,0,none⟩) (by show w.heap.size<wr.heap.size;omega)).trans ((HFR.out.cell (b:=w.heap.size) (o:=0) (by omega) (by omega)).trans x0);have hs1:=(hbW.cell (p:=⟨w.heap.size,1,none⟩) (by show w.heap.size<wr.heap.size;omega)).trans ((HFR.out.cell (b:=w.heap.size) (o:=1) (by omega) (by omega)).trans x1);have a0:W1.cell? ⟨wr.heap.size,0,none⟩=some (.int .i64 t9):=Zaa X0.out 0 _ rfl;have a1:W1.cell? ⟨wr.heap.size,1,none⟩=some (.slice A1 xo.length c1):=Zaa X0.out 1 _ rfl;have a2:W1.cell? ⟨wr.heap.size,2,none⟩=some (.slice A2 xn.length c2):=Zaa X0.out 2 _ rfl;have HR1:=hI (HF1.out.keep (Same.of_below hbW (fun b hb=>by have:=HNW.out b hb;omega)));have HR2:=hI (HF2.out.keep (Same.of_below hbW (fun b hb=>by have:=HNW.out b hb;omega)));have hzw:wr.heap.size<W1.heap.size:=(by omega);have hzs:w.heap.size<W1.heap.size:=(by omega);rw [hW1];clear hW1 hbW f0 f1 f2 HF1 HF2 hdk X0;have hco:xo.length≤c1:=HF1C.out;have hcn:xn.length≤c2:=HF2C.out;refine tS (fun w'=>w'.cell? ⟨wr.heap.size,0,none⟩=some (.int .i64 t9)∧w'.cell? ⟨wr.heap.size,1,none⟩=some (.slice A1 xo.length c1)∧w'.cell? ⟨wr.heap.size,2,none⟩=some (.slice A2 xn.length c2)∧w'.cell? ⟨w.heap.size,0,none⟩=some (.int .i64 s.version)∧w'.cell? ⟨w.heap.size,1,none⟩=some (.slice A0 s.tabs.length c0')) 8 8 fun Q' HQ HP=>?_;refine tX 0 38 1 39 2 40 3 41 (bA 8 15) HP.out ⟨a0,a1,a2,hs0,hs1⟩ ?_;refine tJ 4 42 (bA 8 31) HP.out ⟨a0,a1,a2,hs0,hs1⟩ ?_;refine tQ 5 (some 43) (bA 8 63) fun K HK=>?_;go_simp;refine(keyOf_any A0 c0' s t9 xo xn A1 c1 A2 c2 (fun b=>S b∨New w1 w2 b) W1.drew (((HS.out.keep (Same.of_below HFW.out hS)).keep (w':=W1.drew) (fun _ _=>rfl)).more (fun b hb=>Or.inl hb)) (((HR1.out).keep (w':=W1.drew) (fun _ _=>rfl)).more (fun b hb=>Or.inr hb)) hco (((HR2.out).keep (w':=W1.drew) (fun _ _=>rfl)).more (fun b hb=>Or.inr hb)) hcn (fun b hb=>by show b<W1.heap.size;rcases hb with hb | hb;{ have:=hS b hb;omega };have:=HNW.out b hb;omega) htl hkl.2.1 h01).mono ?_;rintro e w4 ⟨A4,c4,rfl,h4,hb4⟩;have hv1:Below W1.heap.size W1 w4:=(Below.refl _ W1).drew.trans hb4;have HK4:=hI (show RowS w4 (fun b=>b<w4.heap.size) A4 (Zeq s ⟨t9,xo,xn⟩) from (Zbx (Zfa HKV.out.1 HKV.out.2) h4).more (fun b hb=>hb.2));have hv1s:=hv1.size;have q0:=c9Q hv1 hzw a0;have q1:=c9Q hv1 hzw a1;have q2:=c9Q hv1 hzw a2;have q3:=c9Q hv1 hzs hs0;have q4:=c9Q hv1 hzs hs1;clear hb4 h4;refine HK.out _ _ (fun _=>⟨q0,q1,q2,q3,q4⟩) ?_;clear HK K
        try simp only [Act.put,psA,psB,psC]
        refine tQ 6 (some 44) (bA 8 127) fun K HK=>?_;go_simp;refine(Zfe (q:Int) t9 A4 c4 (Zeq s ⟨t9,xo,xn⟩) (fun b=>b<w4.heap.size) w4 hn1 hn4 HK4.out (fun b hb=>hb) HKV.out.1 HKV.out.2).mono ?_;rintro e w5 ⟨rfl,hb5⟩;have hv2:Below W1.heap.size W1 w5:=hv1.trans (hb5.mono hv1s);have HRB:=hI hv2;have p0:=c9Q hv2 hzw a0;have p1:=c9Q hv2 hzw a1;have p2:=c9Q hv2 hzw a2;have p3:=c9Q hv2 hzs hs0;have p4:=c9Q hv2 hzs hs1;clear hb5 HK4 q0 q1 q2 q3 q4 hv1s;refine HK.out _ _ (fun _=>⟨p0,p1,p2,p3,p4⟩) ?_;clear HK K
        try simp only [Act.put,psA,psB,psC]
        refine tJ 7 14 (bA 8 255) HP.out ⟨p0,p1,p2,p3,p4⟩ ?_;refine tE HQ ?_;clear HQ HP Q';have HGX:=hI (HGR.out.below (HBX.out.trans (hv2.mono (by omega))));have HB5:=hI (HFW.out.trans (hv2.mono (by omega)));have HFX:=hI (HFR.out.trans (Fr.of_below (HBX.out.trans (hv2.mono (by omega)))) (X:=fun b=>b=gP) (Y:=fun _=>False) (fun b hb h=>h.elim));have hw5:=hv2.size;clear hv1 hv2 p3 p4 HBX HFW hs0 hs1 a0 a1 a2
        go_wp2_with fail
        obtain⟨hj1,hj2'⟩:=HHL.out;rw [hj2'];rw [Int.toNat_natCast] at hj1;obtain⟨j,hj⟩:∃ j,ZbM s q ⟨t9,xo,xn⟩=j:=⟨_,rfl⟩;have HJ:=hI hj;rw [hj] at hj1 ⊢;have hjq:(j:Int)<(q:Int):=(by omega);have hj0:(0:Int)≤(j:Int):=(by omega);clear hj hj2';obtain⟨AV,cV,hAV⟩:=HGX.out.form (i:=0) (j:=j) (by omega) hj1;obtain⟨g2,g3⟩:=HGX.out.cell (i:=0) (j:=j) (by omega) hj1;rw [hAV] at g2;have HOW:=hI (show (V 0 j).ownBlock≠some wr.heap.size from fun e=>by have:=((HGR.out.own 0 j (by omega) hj1).lt e).2;omega);have HAV:=hI hAV;clear hAV;obtain⟨m,hm⟩:∃ m,(((N.take k).filter fun c=>ZbM s q c == j).map ZaC).length=m:=⟨_,rfl⟩;have hmL:m≤1000:=(by rw [←hm,List.length_map];exact HTL.out j);rw [hm] at g2;have HM:=hI hm;clear hm;have hgl:gP<w5.heap.size:=(by omega);have hxl:wr.heap.size<w5.heap.size:=(by omega);have HOG:=hI (show ∀ b,(V 0 j).ownBlock=some b→w3.heap.size≤b from fun b e=>((HGR.out.own 0 j (by omega) hj1).lt e).1);have HVC:=hI (show ∀ wd,Below w5.heap.size w5 wd→Dat.Vals wd (Oth (New w1 w2) wd w3.heap.size 1 q V) (ZaC ⟨t9,xo,xn⟩) [.int .i64 t9,.slice A1 xo.length c1,.slice A2 xn.length c2] from fun wd hwd=>ZeQ ⟨hco,(((HR1.out.keep (Same.of_below HRB.out (fun b hb=>by have:=HNW.out b hb;omega))).keep (Same.of_below hwd (fun b hb=>by have:=HNW.out b hb;omega))).more (fun b hb=>.inl hb))⟩ ⟨hcn,(((HR2.out.keep (Same.of_below HRB.out (fun b hb=>by have:=HNW.out b hb;omega))).keep (Same.of_below hwd (fun b hb=>by have:=HNW.out b hb;omega))).more (fun b hb=>.inl hb))⟩);refine tS (fun w'=>w'.frozen? ⟨gP,j,none⟩=false∧w'.cell? ⟨gP,j,none⟩=some (.slice AV m cV)∧w'.cell? ⟨wr.heap.size,0,none⟩=some (.int .i64 t9)∧w'.cell? ⟨wr.heap.size,1,none⟩=some (.slice A1 xo.length c1)∧w'.cell? ⟨wr.heap.size,2,none⟩=some (.slice A2 xn.length c2)) 10 11 fun Q' HQ HP=>?_;obtain⟨wd,hwd⟩:∃ wd,w5.drew=wd:=⟨_,rfl⟩;have HBD:=hI (show Below w5.heap.size w5 wd by rw [←hwd];exact(Below.refl _ w5).drew);have hwz:wd.heap.size≤w5.heap.size∧w5.heap.size≤wd.heap.size:=(by rw [←hwd];exact⟨Nat.le_refl _,Nat.le_refl _⟩);have HGX:=hI (HGX.out.below HBD.out);have HFX:=hI (HFX.out.trans (Fr.of_below HBD.out) (Y:=fun _=>False) (fun b hb h=>h.elim));have HVC:=hI (HVC.out wd HBD.out);have g2:=c9Q HBD.out hgl g2;have g3:=(HBD.out.frozen (p:=⟨gP,j,none⟩) hgl).trans g3;have u0:=c9Q HBD.out hxl p0;have u1:=c9Q HBD.out hxl p1;have u2:=c9Q HBD.out hxl p2;have hgl:gP<wd.heap.size:=(by omega);have hxl:wr.heap.size<wd.heap.size:=(by omega);rw [hwd];clear hwd p0 p1 p2;refine tX 0 45 1 46 2 47 3 48 (bA 11 15) HP.out ⟨g3,g2,u0,u1,u2⟩ ?_;refine tW 4 49 5 50 (bA 11 63) HP.out ⟨g3,g2,u0,u1,u2⟩ ?_;refine tJ 6 51 (bA 11 127) HP.out ⟨g3,g2,u0,u1,u2⟩ ?_;refine tQ 7 (some 52) (bA 11 255) fun K HK=>?_;go_simp;have l3:(wd.alloc (.cells #[.int .i64 t9,.slice A1 xo.length c1,.slice A2 xn.length c2] 44)).frozen? ⟨gP,j,none⟩=_:=(Zbb hgl).trans g3;have l2:(wd.alloc (.cells #[.int .i64 t9,.slice A1 xo.length c1,.slice A2 xn.length c2] 44)).cell? ⟨gP,j,none⟩=_:=(Zah hgl).trans g2;have m0:(wd.alloc (.cells #[.int .i64 t9,.slice A1 xo.length c1,.slice A2 xn.length c2] 44)).cell? ⟨wr.heap.size,0,none⟩=_:=(Zah hxl).trans u0;have m1:(wd.alloc (.cells #[.int .i64 t9,.slice A1 xo.length c1,.slice A2 xn.length c2] 44)).cell? ⟨wr.heap.size,1,none⟩=_:=(Zah hxl).trans u1;have m2:(wd.alloc (.cells #[.int .i64 t9,.slice A1 xo.length c1,.slice A2 xn.length c2] 44)).cell? ⟨wr.heap.size,2,none⟩=_:=(Zah hxl).trans u2;refine HK.out _ _ (fun _=>⟨l3,l2,m0,m1,m2⟩) ?_;clear HK K
        try simp only [Act.put,psA,psB,psC]
        refine anyT_one (i:=8) (o:=⟨some 53,_,_,_,_,_⟩) (L':=(bA 11 511)) rfl (by kernel_rfl) (by kernel_rfl) (fun K hK=>?_);refine ZcT (by rfl) (.tmp 50) (.tmp 52) 23 (by rfl) i0 _ 56 Tryz.underlying23 hi hj0' hj1' hj2'' rfl (by decide) wd HGX.out (i:=0) (j:=j) (by omega) hj1 (by rw [HAV.out,HM.out];rfl) (ZaC ⟨t9,xo,xn⟩) #[.int .i64 t9,.slice A1 xo.length c1,.slice A2 xn.length c2] HVC.out (Zdl _) (Zbv _) 1 (by rfl) (by rw [HM.out];omega) (by rw [HM.out];omega) ?_;rw [HM.out];intro g7 c7 w7 hg7 hr7;have HG7:=hI hg7;have HR7:=hI hr7;have n2:=(hg7.cell (i:=0) (j:=j) (by omega) hj1).1;rw [HAV.out,HM.out] at n2;have n3:=(hg7.cell (i:=0) (j:=j) (by omega) hj1).2;have n40:=(hr7.cell_far ⟨wr.heap.size,0,none⟩ hxl (fun e=>HOW.out e.symm)).trans u0;have n41:=(hr7.cell_far ⟨wr.heap.size,1,none⟩ hxl (fun e=>HOW.out e.symm)).trans u1;have n42:=(hr7.cell_far ⟨wr.heap.size,2,none⟩ hxl (fun e=>HOW.out e.symm)).trans u2;clear hg7 hr7;refine hK _ _ (fun _=>⟨n3,n2,n40,n41,n42⟩) ?_;clear hK K
        try simp only [Act.put,psA,psB,psC]
        refine tJ 9 54 (bA 11 1023) HP.out ⟨n3,n2,n40,n41,n42⟩ ?_;refine tQ 10 none (bA 11 2047) fun K HK=>?_;go_simp;refine HK.out _ _ (fun h=>absurd rfl h) ?_;clear HK K;refine tE HQ ?_;clear HQ HP Q';have HGN:=hI (HG7.out.store (i:=0) (j:=j) (by omega) hj1 (.slice (some ⟨g7,0,none⟩) (m+1) c7));have HFN:=hI (show Fr (fun b=>b=gP) w3 (w7.setCell ⟨gP,j,none⟩ (.slice (some ⟨g7,0,none⟩) (m+1) c7)) from (HFX.out.trans (Y:=fun b=>w3.heap.size≤b) (Fr.of_grown HR7.out (fun b hb e=>HOG.out b e.symm)) (fun b hb h=>absurd hb (by omega))).setCell _ (fun _=>rfl));clear HGX HFX HG7 HR7 HAV g2 g3
        go_wp2_with fail
        go_roundw
        case rel =>
         refine⟨k+1,upd V 0 j (.slice (some ⟨g7,0,none⟩) (m+1) c7),by omega,by go_num,HFN.out,HGN.out.congr (fun a c ha hc=>?_)⟩;obtain rfl:a=0:=(by omega);rw [HTK.out,filter_snoc,List.map_append,HJ.out]
         by_cases hcj:j=c
         · subst hcj;rw [if_pos rfl,ZbP];rfl
         · rw [if_neg hcj,Zcr (by omega)];simp
        case measure=>(simp [intOf];omega)
      · have hdk:decide (k<N.length)=false:=(by simp;omega);have HTK:=hI (show N.take k=N from List.take_of_length_le (by omega))
        have HEND:=hI (show SplP (Zcs s q l) w (.returned (.tuple #[.slice (some ⟨gP,0,none⟩) q q,.int .i64 0])) wr by
         rw [HSP3.out]
         obtain⟨vs,hv1,hv2⟩:=HGR.out.row (i:=0) (by omega) (fun j _=>by rw [HTK.out,Zag (n:=56) (fun _=>rfl)];have h9:=List.length_filter_le (fun c=>ZbM s q c == j) N;omega) (S':=New w wr) (fun b hb=>by
          rcases hb with hb | hb
          · have:=HNW.out b hb;exact⟨by omega,by omega⟩
          · exact⟨by omega,hb.2⟩)
         have hle:(List.range q).map (fun j=>Dat.slice (((N.take k).filter fun c=>ZbM s q c == j).map ZaC))=(Zbw q (ZbM s q) N).map Zdk:=by
          unfold Zbw Zdk;rw [List.map_map,HTK.out];rfl
         rw [hle] at hv2;refine⟨some ⟨gP,0,none⟩,q,by rw [ZbI],by rw [ZbI];exact Nat.le_refl _,Sl.of_vals (by rw [Zag (n:=24) (fun _=>rfl),ZbI];omega) hv2 (fun _=>⟨gP,0,rfl,⟨by omega,by omega⟩,fun j u hu=>?_⟩),HB3.out.trans (HFR.out.below (n:=w.heap.size) (by omega) (fun b hb=>by omega))⟩;exact Zaa hv1 j u hu)
        go_wp2_with fail
        exact bodyPost_ret (v:=.tuple #[.slice (some ⟨gP,0,none⟩) q q,.int .i64 0]) (by simp [results,Tryz.results32,go_sem]) rfl HEND.out
   · have hd0:(re != 0)=true:=(by simp [hr]);have HF:=hI (show Zcs s n l=(re,[]) by rw [HSP2.out,if_pos hr])
     go_wp2_with fail
     exact bodyPost_ret (v:=.tuple #[.slice none 0 0,.int .i64 re]) (by simp [results,Tryz.results32,go_sem]) rfl (SplP.err HF.out HB2.out)
 · have hd0:(er != 0)=true:=(by simp [he]);have HF:=hI (show Zcs s n l=(er,[]) by rw [HSP.out,if_pos he])
   go_wp2_with fail
   exact bodyPost_ret (v:=.tuple #[.slice none 0 0,.int .i64 er]) (by simp [results,Tryz.results32,go_sem]) rfl (SplP.err HF.out HB1.out)
def Zfq (st:St):Dat:=.slice (st.map ZaG)
theorem sts_at {w:World} {S:Nat→Prop} {A:Option Addr} {L:List St} (h:Sl w S A (L.map Zfq)) {k:Nat} (hk:k<L.length):∃ b off,A=some ⟨b,off,none⟩∧S b∧∃ A' c,w.cell? ⟨b,off+k,none⟩=some (.slice A' (L.getD k []).length c)∧(L.getD k []).length≤c∧StS w S A' (L.getD k []):=by
 obtain⟨b,off,e,hb,h1⟩:=Sl.at_ (n:=1) (fun _=>rfl) [] h hk;rw [Nat.mul_one] at h1;simp only [Zfq,Dat.Held,List.length_map] at h1;obtain⟨A',c,h2,h3,h4,h5⟩:=h1;exact⟨b,off,e,hb,A',c,h2,h3,⟨by simpa using h4,by simpa using h5⟩⟩
theorem infoSte:(Tryz.prog.info? 33).map (fun i=>(i.zero,i.size,i.bytes))=some (some (.agg #[.slice none 0 0]),1,24):=by kernel_rfl
theorem run_make_ste (n:Nat) (hn:n≤1000) (w:World) :
  (Instr.makeSlice 63 (.int .i64 (n:Int)) (.int .i64 (n:Int))).run Tryz.prog w=.ok (.slice (some ⟨w.heap.size,0,none⟩) n n) (w.alloc (.cells (Zao n).toArray 33)):=by
 obtain⟨i0,hi,hz0,hz1,hz2⟩:=info_parts infoSte;have hr:=run_make (P:=Tryz.prog) w 63 33 i0 _ Tryz.underlying63 hi hz0 .i64 .i64 n n (by omega) (by omega) (by rw [hz2];omega) (by omega);rw [hr,hz1];simp only [Int.toNat_natCast]
 congr 3
 apply Array.ext
 · simp [size_madeCells,Zao]
 · intro i h1 h2;simp [madeCells,Zao,Value.cells,Nat.mod_one]
def qh (n:Int) (i:Nat) (t:Nat) (k:Row):Bool:=(Zdy n (t:Int) k).toNat == i
def ZdB (s:Sch) (n:Nat) (st:St):List St:=(List.range n).map fun i=>prtS s (qh n i) st
def PrtP (L:List St) (w:World) (e:Ending) (w':World):Prop:=∃ A c,e=.returned (.tuple #[.slice A L.length c,.int .i64 0])∧L.length≤c∧Sl w' (New w w') A (L.map Zfq)∧Below w.heap.size w w'
def PBv (gP T k:Nat):List Value:=(List.range k).map fun i=>Value.slice (some ⟨gP+1+i,0,none⟩) T T
theorem PB_set {gP T k n:Nat} (h:k<n):(PBv gP T k++Zao (n - k)).set k (.slice (some ⟨gP+1+k,0,none⟩) T T)=PBv gP T (k+1)++Zao (n - (k+1)):=by
 obtain⟨m,hm⟩:∃ m,n - k=m+1:=⟨n - k - 1,by omega⟩;have hl:(PBv gP T k).length=k:=(by simp [PBv]);rw [hm,show n - (k+1)=m by omega];unfold Zao;rw [List.replicate_succ,List.set_append,if_neg (by omega),hl,Nat.sub_self,List.set_cons_zero];unfold PBv;rw [List.range_succ,List.map_append];simp
def LP (s:Sch) (n:Int) (st:St) (u j:Nat):Nat→Nat→List Dat:=fun i t=>if t<u then ((st.getD t []).filter fun r=>qh n i t (keyF s t r)).map Zaw else if t=u then (((st.getD u []).take j).filter fun r=>qh n i u (keyF s u r)).map Zaw else []
theorem LP_next {s:Sch} {n:Int} {st:St} {u j:Nat} (h:(st.getD u []).length≤j) (i t:Nat):LP s n st (u+1) 0 i t=LP s n st u j i t:=by
 unfold LP
 by_cases h1:t<u
 · rw [if_pos h1,if_pos (by omega)]
 · rw [if_neg h1]
   by_cases h2:t=u
   · subst h2;rw [if_pos rfl,if_pos (by omega),List.take_of_length_le h]
   · rw [if_neg h2,if_neg (by omega)]
     by_cases h3:t=u+1
     · rw [if_pos h3];simp
     · rw [if_neg h3]
theorem LP_step {s:Sch} {n:Int} {st:St} {u j p:Nat} {row:Row} (h:(st.getD u [])[j]?=some row) (hp:(Zdy n (u:Int) (keyF s u row)).toNat=p) (i t:Nat):LP s n st u (j+1) i t=upd (LP s n st u j) p u (LP s n st u j p u++[Zaw row]) i t:=by
 by_cases ht:t=u
 · subst ht
   have e:LP s n st t (j+1) i t=LP s n st t j i t++(if p=i then [Zaw row] else []):=by
    unfold LP;rw [if_neg (by omega),if_pos rfl,if_neg (by omega),if_pos rfl,List.take_add_one,h,List.filter_append,List.map_append]
    congr 1
    by_cases hi:p=i
    · simp [qh,hp,hi]
    · simp [qh,hp,hi]
   rw [e]
   by_cases hi:p=i
   · subst hi;rw [if_pos rfl,ZbP]
   · rw [if_neg hi,Zcr (by omega),List.append_nil]
 · rw [Zcr (by omega)];unfold LP
   by_cases h1:t<u
   · rw [if_pos h1,if_pos h1]
   · rw [if_neg h1,if_neg ht,if_neg h1,if_neg ht]
theorem LP_len {s:Sch} {n:Int} {st:St} {u j p:Nat} (h:j≤(st.getD u []).length):(LP s n st u j p u).length≤j:=by
 unfold LP;rw [if_neg (by omega),if_pos rfl,List.length_map];have:=List.length_filter_le (fun r=>qh n p u (keyF s u r)) ((st.getD u []).take j);rw [List.length_take] at this;omega
theorem ZgR (A0:Option Addr) (c0':Nat) (s:Sch) (n:Nat) (A:Option Addr) (ca:Nat) (st:St) (S:Nat→Prop) (w:World) (hs:TabS w S A0 s.tabs) (hst:StS w S A st) (hS:∀ b,S b→b<w.heap.size) (hn1:1≤n) (hn4:n≤4) (hsc:schF pcF s=0) (hok:StOk s 1 st) (hcnt:Zam st≤512) :
  Calls Tryz.prog 33 #[sAgg s.version A0 s.tabs.length c0',.int .i64 (n:Int),Zco A st.length ca] w (PrtP (ZdB s n st) w):=by
 have hsl:=hs.len;have HS:=hI hs;have HST:=hI hst;have HSC:=hI hsc;have HOK:=hI hok;have HCNT:=hI hcnt;have hstt:st.length=s.tabs.length:=hok.1;have HSTT:=hI hstt;have hst8:st.length≤8:=(by have:=ZgI hsc;omega);have HCK:=hI (hok.check (m:=1) rfl hcnt);clear hs hst hsc hok hcnt hstt;obtain⟨i0,hi,hj0,hj1,hj2⟩:=info_parts infoV;obtain⟨ir,hir,hr0,hr1,hr2⟩:=info_parts ZfH;obtain⟨W0,hW0⟩:∃ W0,(w.alloc (.cells #[.int .i64 s.version,.slice A0 s.tabs.length c0'] 28)).alloc (.cells #[.slice A st.length ca] 33)=W0:=⟨_,rfl⟩;have HB0:=hI (show Below w.heap.size w W0 by rw [←hW0];exact((Below.refl w.heap.size w).alloc nR _).alloc (by simp) _);have hz0:W0.heap.size≤w.heap.size+2∧w.heap.size+2≤W0.heap.size:=(by rw [←hW0];simp);obtain⟨gs,hgs⟩:∃ gs,w.heap.size=gs:=⟨_,rfl⟩;have SB:=hI (show W0.heap[gs]?=some (.cells #[.int .i64 s.version,.slice A0 s.tabs.length c0'] 28 (0,0)) by rw [←hW0,←hgs];exact(Below.heap_alloc _ _ _ (by simp)).trans (heap_alloc_new w _));have TB:=hI (show W0.heap[gs+1]?=some (.cells #[.slice A st.length ca] 33 (0,0)) by rw [←hW0,←hgs];simpa using heap_alloc_new (w.alloc (.cells #[.int .i64 s.version,.slice A0 s.tabs.length c0'] 28)) (.cells #[.slice A st.length ca] 33));have x0:W0.cell? ⟨gs,0,none⟩=some (.int .i64 s.version):=Zaa SB.out 0 _ rfl;have x1:W0.cell? ⟨gs,1,none⟩=some (.slice A0 s.tabs.length c0'):=Zaa SB.out 1 _ rfl;have x2:W0.cell? ⟨gs+1,0,none⟩=some (.slice A st.length ca):=Zaa TB.out 0 _ rfl;have hgw:w.heap.size≤gs∧gs≤w.heap.size:=(by omega);have hws:gs<W0.heap.size:=(by omega);have hws1:gs+1<W0.heap.size:=(by omega);have HSH:=hI (show ZbR s (n:Int)=0 by unfold ZbR;rw [if_neg (by omega)];exact HSC.out);go_enter Tryz.func33,Tryz.ntmps33
 go_wp2_with fail
 try rw [hW0]
 try rw [hgs]
 clear hW0 hgs;refine(Zcp A0 c0' s n S W0 (HS.out.keep (Same.of_below HB0.out hS)) (fun b hb=>by have:=hS b hb;omega)).mono ?_;rintro e w1 ⟨rfl,hb1⟩;rw [HSH.out];have HB1:=hI (HB0.out.trans (hb1.mono (by omega)));have SB1:=hI ((hb1.block gs hws).trans SB.out);have TB1:=hI ((hb1.block (gs+1) hws1).trans TB.out);have hw1:=Zad SB1.out;have hw1b:=Zad TB1.out;clear hb1 x0 x1 x2 HB0 SB TB;have x0:w1.cell? ⟨gs,0,none⟩=some (.int .i64 s.version):=Zaa SB1.out 0 _ rfl;have x1:w1.cell? ⟨gs,1,none⟩=some (.slice A0 s.tabs.length c0'):=Zaa SB1.out 1 _ rfl;have x2:w1.cell? ⟨gs+1,0,none⟩=some (.slice A st.length ca):=Zaa TB1.out 0 _ rfl
 go_wp2_with fail
 refine(ZfJ pcF A0 c0' s 1 A ca st S w1 (HS.out.keep (Same.of_below HB1.out hS)) (HST.out.keep (Same.of_below HB1.out hS)) (fun b hb=>by have:=hS b hb;have:=HB1.out.size;omega) (Zct s) (by have:=HCNT.out;omega)).mono ?_;rw [HSC.out,HCK.out];rintro e w2 ⟨rfl,hb2⟩;have HB2:=hI (HB1.out.trans (hb2.mono (by omega)));have SB2:=hI ((hb2.block gs hw1).trans SB1.out);have TB2:=hI ((hb2.block (gs+1) hw1b).trans TB1.out);have hw2:=Zad SB2.out;have hw2b:=Zad TB2.out;clear hb2 x0 x1 x2 HB1 SB1 TB1;have hmk:=run_make_ste n (by omega);go_upto_region 8 with fail
 clear hmk;obtain⟨w3,hW3⟩:∃ w3,w2.alloc (.cells (Zao n).toArray 33)=w3:=⟨_,rfl⟩;obtain⟨gP,hgP⟩:∃ gP,w2.heap.size=gP:=⟨_,rfl⟩;have hb3:Below w2.heap.size w2 w3:=(by rw [←hW3];exact(Below.refl _ _).alloc nR _);have hz3:gP+1≤w3.heap.size∧w3.heap.size≤gP+1:=(by rw [←hW3,←hgP];simp);have PB:=hI (show w3.heap[gP]?=some (.cells (PBv gP st.length 0++Zao (n - 0)).toArray 33 (0,0)) by rw [←hW3,←hgP];exact heap_alloc_new w2 _);have HB3:=hI (HB2.out.trans (hb3.mono (by omega)));have SB3:=hI ((hb3.block gs hw2).trans SB2.out);have TB3:=hI ((hb3.block (gs+1) hw2b).trans TB2.out);have hgg:gs+1<gP:=(by omega);rw [hW3]
 try rw [hgP]
 clear hW3 hgP hb3 SB2 TB2 HB2;have hmkr:=ZcJ st.length (by omega)
 go_wp2_with fail
 go_loopw [33] (fun i wr=>∃ k:Nat,k≤n∧i=.int .i64 k∧Fr (fun b=>b=gP) w3 wr∧wr.heap.size≤gP+1+k∧gP+1+k≤wr.heap.size∧wr.heap[gP]?=some (.cells (PBv gP st.length k++Zao (n - k)).toArray 33 (0,0))∧∀ i,i<k→wr.heap[gP+1+i]?=some (.cells (Zao st.length).toArray 73 (0,0))) (fun i _=>n - (intOf i).toNat)
 case atStart=>exact⟨0,Nat.zero_le _,rfl,Fr.refl _ _,by omega,by omega,PB.out,fun i h=>absurd h (by omega)⟩
 case round =>
  clear PB;obtain⟨k,hk,rfl,hfr,hza,hzb,hpb,hbl⟩:=hrel;have HFR:=hI hfr;have HPB:=hI hpb;have HBL:=hI hbl;clear hfr hpb hbl;have TB4:=hI ((HFR.out.block (gs+1) (by omega) (by omega)).trans TB3.out);have x2:wr.cell? ⟨gs+1,0,none⟩=some (.slice A st.length ca):=Zaa TB4.out 0 _ rfl;have hw4:=Zad TB4.out
  by_cases hkn:k<n
  · have hdk:decide (k<n)=true:=(by simp [hkn]);have hk0:(0:Int)≤(k:Int):=(by omega);have hki:(k:Int)<(n:Int):=(by omega);obtain⟨wa,hwa⟩:∃ wa,wr.alloc (.cells (Zao st.length).toArray 73)=wa:=⟨_,rfl⟩;obtain⟨gq,hgq⟩:∃ gq,wr.heap.size=gq:=⟨_,rfl⟩;have hba:Below wr.heap.size wr wa:=(by rw [←hwa];exact(Below.refl _ _).alloc nR _);have QB:=hI (show wa.heap[gq]?=some (.cells (Zao st.length).toArray 73 (0,0)) by rw [←hwa,←hgq];exact heap_alloc_new wr _);have hzq:wa.heap.size≤gq+1∧gq+1≤wa.heap.size:=(by rw [←hwa,←hgq];simp);have PA:=hI ((hba.block gP (Zad HPB.out)).trans HPB.out);have HBA:=hI hba;have hgqe:gP+1+k=gq:=(by omega)
    have g2:wa.cell? ⟨gP,k,none⟩=some (.slice none 0 0):=by
     have h9:=Zaa PA.out k (.slice none 0 0) (by
      show (PBv gP st.length k++Zao (n - k))[k]?=_;have hl:(PBv gP st.length k).length=k:=(by simp [PBv]);obtain⟨m,hm⟩:∃ m,n - k=m+1:=⟨n - k - 1,by omega⟩;rw [List.getElem?_append_right (by omega),hl,Nat.sub_self,hm];rfl)
     rwa [Nat.zero_add] at h9
    have g3:wa.frozen? ⟨gP,k,none⟩=false:=(by simp [World.frozen?,PA.out]);have hgl:=Zad PA.out;have HGQ:=hI hgqe;clear hgqe
    go_wp2_with fail
    try rw [hwa]
    try rw [hgq]
    have HPN:=hI (show (wa.setCell ⟨gP,k,none⟩ (.slice (some ⟨gq,0,none⟩) st.length st.length)).heap[gP]?=some (.cells (PBv gP st.length (k+1)++Zao (n - (k+1))).toArray 33 (0,0)) by
     rw [←PB_set hkn,HGQ.out];exact Zaf PA.out)
    have HFN:=hI ((HFR.out.trans (Fr.of_below HBA.out) (Y:=fun _=>False) (fun b hb h=>h.elim)).setCell (.slice (some ⟨gq,0,none⟩) st.length st.length) (g:=gP) (o:=k) (fun _=>rfl))
    have HBN:=hI (show ∀ i,i<k+1→(wa.setCell ⟨gP,k,none⟩ (.slice (some ⟨gq,0,none⟩) st.length st.length)).heap[gP+1+i]?=some (.cells (Zao st.length).toArray 73 (0,0)) from fun i hi'=>by
     refine(Below.heap_setCell wa ⟨gP,k,none⟩ _ _ (by show gP+1+i≠gP;omega)).trans ?_;rcases Nat.lt_or_ge i k with h | h
     · exact(HBA.out.block _ (by omega)).trans (HBL.out i h)
     · obtain rfl:i=k:=(by omega);rw [HGQ.out];exact QB.out)
    clear hwa hgq hba g2 g3 x2;go_roundw
    case rel=>exact⟨k+1,by omega,by go_num,HFN.out,by have:=HGQ.out;simp;omega,by have:=HGQ.out;simp;omega,HPN.out,HBN.out⟩
    case measure=>(simp [intOf];omega)
  · have hdk:decide (k<n)=false:=(by simp;omega);obtain rfl:k=n:=(by omega);clear hmkr;obtain⟨wm,rfl⟩:∃ wm:World,wm=wr:=⟨_,rfl⟩;have HPB:=hI (show wm.heap[gP]?=some (.cells (PBv gP st.length k).toArray 33 (0,0)) by have h9:=HPB.out;rwa [show Zao (k - k)=[] by simp [Zao],List.append_nil] at h9);have HG0:=hI (Grid.start (w:=wm) (B0:=wm.heap.size) (n:=k) (T:=st.length) (G:=fun i=>gP+1+i) (TT:=73) (e:=42) (size:=1) (S0:=fun _=>False) (fun i hi'=>HBL.out i hi') (fun i i' h1 h2 h=>by omega) (fun i hi'=>by show gP+1+i<_;omega) (fun b hb=>hb.elim) nR);have HBM:=hI (show Below w.heap.size w wm from HB3.out.trans (HFR.out.below (n:=w.heap.size) (by omega) (fun b hb=>by omega)));have SB4:=hI ((HFR.out.block gs (by omega) (by omega)).trans SB3.out);clear HFR HBL SB3 TB3 HB3
    go_wp2_with fail
    clear x2
    go_loopw [48] (fun i wr=>∃ (u:Nat) (V:Nat→Nat→Value),u≤st.length∧i=.int .i64 u∧Fr (fun b=>gP<b) wm wr∧Grid wr wm.heap.size 42 73 1 (fun _=>False) k st.length (fun i=>gP+1+i) V V (LP s k st u 0)) (fun i _=>st.length - (intOf i).toNat)
    case atStart=>exact⟨0,_,Nat.zero_le _,rfl,Fr.refl _ _,HG0.out.congr (fun i j _ _=>by unfold LP;split;{ omega };split<;>simp)⟩
    case round =>
     clear HG0;obtain⟨u,V,hu,rfl,hfr,hgr⟩:=hrel;have HFR:=hI hfr;have HGR:=hI hgr;have hsz:=hfr.size;clear hfr hgr
     by_cases hul:u<st.length
     · have hdu:decide (u<st.length)=true:=(by simp [hul]);have hu0:(0:Int)≤(u:Int):=(by omega);have hui:(u:Int)<(st.length:Int):=(by omega);have htl:u<s.tabs.length:=(by rw [←HSTT.out];exact hul);have HSM:=hI (show Same S w wr from fun b hb=>(HFR.out.block b (by have:=hS b hb;have:=HBM.out.size;omega) (by have:=hS b hb;omega)).trans (HBM.out.block b (hS b hb)));obtain⟨bt,ot,rfl,hbt,A2,c2,e0,e1,e2⟩:=(show StS wr S A st from HST.out.keep HSM.out).at_ hul;have HRI:=hI e2;have hbtl:bt<wr.heap.size:=(by have:=hS bt hbt;have:=HBM.out.size;omega);have HRO:=hI ((HOK.out.2 u hul).1);have hlI:(st.getD u []).length≤512:=(by have:=Zbl st u;have:=HCNT.out;omega);have HLS:=hI (fun j (row:Row) (h:(st.getD u [])[j]?=some row) p (hp:(Zdy (k:Int) (u:Int) (keyF s u row)).toNat=p)=>LP_step (s:=s) (n:=(k:Int)) h hp);have HLN:=hI (fun j (h:(st.getD u []).length≤j) (a q:Nat)=>LP_next (s:=s) (n:=(k:Int)) h a q);have HLL:=hI (fun j p (h:j≤(st.getD u []).length)=>LP_len (s:=s) (n:=(k:Int)) (p:=p) h);have hkt:=Zeg HSC.out htl;clear e1 e2;obtain⟨LI,hLI⟩:∃ LI,st.getD u []=LI:=⟨_,rfl⟩;rw [hLI] at e0 HRI HRO hlI HLS HLN HLL;clear hLI
       go_wp2_with fail
       go_loopw [55] (fun i wr=>∃ (j:Nat) (V:Nat→Nat→Value),j≤LI.length∧i=.int .i64 j∧Fr (fun b=>gP<b) wm wr∧Grid wr wm.heap.size 42 73 1 (fun _=>False) k st.length (fun i=>gP+1+i) V V (LP s k st u j)) (fun i _=>LI.length - (intOf i).toNat)
       case atStart=>exact⟨0,V,Nat.zero_le _,rfl,HFR.out,HGR.out⟩
       case round =>
        clear HFR HGR e0;obtain⟨j,V,hj,rfl,hfr,hgr⟩:=hrel;have HFR:=hI hfr;have HGR:=hI hgr;have hsz2:=hfr.size;clear hfr hgr;have HSM2:=hI (show Same S w wr from fun b hb=>(HFR.out.block b (by have:=hS b hb;have:=HBM.out.size;omega) (by have:=hS b hb;omega)).trans (HBM.out.block b (hS b hb)))
        by_cases hjl:j<LI.length
        · have hdj:decide (j<LI.length)=true:=(by simp [hjl]);have hj0':(0:Int)≤(j:Int):=(by omega);have hji:(j:Int)<(LI.length:Int):=(by omega);obtain⟨b5,o5,rfl,hb5,A5,c5,f1,f2,f3⟩:=RowsS.at_ (show RowsS wr S A2 LI from Sl.keep HRI.out (fun b hb=>(HSM2.out b hb).trans (HSM.out b hb).symm)) hjl;have HLP:=hI (HLS.out j (LI.getD j []) (by simp [List.getD,hjl]));have HFT:=hI (HRO.out (LI.getD j []) (by rw [show LI.getD j []=LI[j] by simp [List.getD,hjl]];exact List.getElem_mem hjl));obtain⟨row,hrow⟩:∃ row,LI.getD j []=row:=⟨_,rfl⟩;rw [hrow] at f1 f2 f3 HLP HFT;clear hrow;have hrll:=Zfo HFT.out;rw [Int.toNat_natCast] at hrll;have hrl0:0<row.length:=(by omega);have hrl8:row.length≤8:=(by omega);have HVR:=hI (Zet HFT.out);have hlb5:b5<wr.heap.size:=(by have:=hS b5 hb5;have:=HBM.out.size;omega);have HRW:=hI f3;have hca:row.length≤c5:=f2;have SB5:=hI ((HFR.out.block gs (by omega) (by omega)).trans SB4.out);have s0:wr.cell? ⟨gs,0,none⟩=some (.int .i64 s.version):=Zaa SB5.out 0 _ rfl;have s1:wr.cell? ⟨gs,1,none⟩=some (.slice A0 s.tabs.length c0'):=Zaa SB5.out 1 _ rfl;have hgs5:=Zad SB5.out;clear hrll f3
          go_wp2_with fail
          refine(Zgk A0 c0' s u A5 c5 row S wr (HS.out.keep HSM2.out) HRW.out hca (fun b hb=>by have:=hS b hb;have:=HBM.out.size;omega) htl hkt.2.1 hrl0).mono ?_;rintro e w4 ⟨A4,c4,rfl,h4,hb4⟩;have HK4:=hI (show RowS w4 (fun b=>b<w4.heap.size) A4 (keyF s u row) from (Zbx (Zfa (Zdt HVR.out) (by have:=Zgs s (u:Int) row;omega)) h4).more (fun b hb=>hb.2));have HB4:=hI hb4;have f1:=c9Q hb4 hlb5 f1;have hz4:=hb4.size;clear h4 hb4 s0 s1
          go_wp2_with fail
          refine(Zfe (k:Int) (u:Int) A4 c4 (keyF s u row) (fun b=>b<w4.heap.size) w4 (by omega) (by omega) HK4.out (fun b hb=>hb) (Zdt HVR.out) (by have:=Zgs s (u:Int) row;omega)).mono ?_;rintro e w5 ⟨rfl,hb5'⟩;have HB5:=hI (HB4.out.trans (hb5'.mono hz4));have f1:=c9J hb5' f1;have hz5:=HB5.out.size;clear hb5' HB4 HK4;have hhr:=Zfh (n:=(k:Int)) (t:=(u:Int)) (key:=keyF s u row) (by omega);obtain⟨p,hp⟩:=Int.eq_ofNat_of_zero_le hhr.1;rw [hp] at hhr;have hpk:p<k:=(by omega);have HLQ:=hI (HLP.out p (by rw [hp];exact Int.toNat_natCast p));rw [hp];have hp0:(0:Int)≤(p:Int):=(by omega);have hpi:(p:Int)<(k:Int):=(by omega);have HPB5:=hI ((HB5.out.block gP (by have:=Zad HPB.out;omega)).trans ((HFR.out.block gP (Zad HPB.out) (by omega)).trans HPB.out))
          have q0:w5.cell? ⟨gP,p,none⟩=some (.slice (some ⟨gP+1+p,0,none⟩) st.length st.length):=by
           have h9:=Zaa HPB5.out p (.slice (some ⟨gP+1+p,0,none⟩) st.length st.length) (by show (PBv gP st.length k)[p]?=_;simp [PBv,hpk]);rwa [Nat.zero_add] at h9
          have hgP5:=Zad HPB5.out;have HGR:=hI (HGR.out.below HB5.out);have HFR:=hI (HFR.out.trans (Fr.of_below HB5.out) (Y:=fun _=>False) (fun b hb h=>h.elim));have hLL:=HLL.out j p hj;obtain⟨AV,cV,hAV⟩:=HGR.out.form (i:=p) (j:=u) hpk hul;obtain⟨g2,g3⟩:=HGR.out.cell (i:=p) (j:=u) hpk hul;obtain⟨m9,hm9⟩:∃ m9,(LP s k st u j p u).length=m9:=⟨_,rfl⟩;rw [hAV,hm9] at g2;rw [hm9] at hAV hLL;have HM9:=hI hm9;have HAV:=hI hAV;have HOW:=hI (show ∀ b,(V p u).ownBlock=some b→wm.heap.size≤b∧b<w5.heap.size from fun b e=>(HGR.out.own p u hpk hul).lt e);have HSM5:=hI (show Same S w w5 from fun b hb=>(HB5.out.block b (by have:=hS b hb;have:=HBM.out.size;omega)).trans (HSM2.out b hb));obtain⟨rl,hrl⟩:∃ rl,row.length=rl:=⟨_,rfl⟩;have HRL:=hI hrl;obtain⟨b6,o6,e6,hb6,hc6⟩:=(HRW.out.keep (w':=w5) (fun b hb=>(HSM5.out b hb).trans (HSM2.out b hb).symm)).vals (by omega);subst e6;have HC6:=hI hc6;have HOKR:=hI HRW.out.ok;have hlb6:b6<w5.heap.size:=(by have:=hS b6 hb6;have:=HBM.out.size;omega);rw [hrl] at f1 hca hrl0 hrl8 ⊢;obtain⟨gq,hgq⟩:∃ gq,gP+1+p=gq:=⟨_,rfl⟩;have HGQ:=hI hgq;rw [hgq] at q0;have g2:w5.cell? ⟨gq,u,none⟩=some (.slice AV m9 cV):=(by rw [←hgq];exact g2);have g3:w5.frozen? ⟨gq,u,none⟩=false:=(by rw [←hgq];exact g3);have hgql:gq<wm.heap.size:=(by omega);have hgl:gq<w5.heap.size:=(by omega);clear hAV hm9 hrl hc6 hgq hp
          go_wp2_with fail
          clear q0 f1;refine tS (fun w'=>w'.frozen? ⟨gq,u,none⟩=false∧w'.cell? ⟨gq,u,none⟩=some (.slice AV m9 cV)) 11 12 fun Q' HQ HP=>?_;obtain⟨wd,hwd⟩:∃ wd,w5.drew=wd:=⟨_,rfl⟩;have HBD:=hI (show Below w5.heap.size w5 wd by rw [←hwd];exact(Below.refl _ w5).drew);have hwz:wd.heap.size≤w5.heap.size∧w5.heap.size≤wd.heap.size:=(by rw [←hwd];exact⟨Nat.le_refl _,Nat.le_refl _⟩);have HGX:=hI (HGR.out.below HBD.out);have g2:=c9Q HBD.out hgl g2;have g3:=(HBD.out.frozen (p:=⟨gq,u,none⟩) hgl).trans g3
          have HC6:=hI (show ∀ q u,(Zal row)[q]?=some u→wd.cell? ((⟨b6,o6,none⟩:Addr).add q)=some u from fun q u hu=>by
           have h9:=HC6.out q u hu;rw [Zca] at h9 ⊢;exact c9Q HBD.out hlb6 h9)
          have hgl:gq<wd.heap.size:=(by omega);rw [hwd];clear hwd;refine tX 0 70 1 71 2 72 3 73 (bA 12 15) HP.out ⟨g3,g2⟩ ?_;refine tW 4 74 5 75 (bA 12 63) HP.out ⟨g3,g2⟩ ?_;refine tJ 6 76 (bA 12 127) HP.out ⟨g3,g2⟩ ?_;refine anyT_one (i:=7) (o:=⟨some 77,_,_,_,_,_⟩) (L':=(bA 12 255)) rfl (by kernel_rfl) (by kernel_rfl) (fun K hK=>?_);refine step_append_lies _ (by rfl) (.const (.slice none 0 0)) (.tmp 76) 42 (by rfl) wd.heap.size 89 i0 _ 3 32 Tryz.underlying42 hi hj0 hj1 hj2 rfl (by decide) (.slice none 0 0) 0 [] (by rfl) (World.ownsRow_nil _ _ _ _) ⟨b6,o6,none⟩ rl c5 (Zal row) (by rfl) (by rw [ZaE,HRL.out]) HC6.out (ZbJ row) hrl0 (by unfold maxLen;omega) (by omega) nR wd.heap.size rfl ?_;intro gx cx w4' hown hgr hat hlt;rw [List.nil_append,Nat.zero_add] at hown;have HO4:=hI hown;have hb4:Below wd.heap.size wd w4':=⟨hgr.os,hgr.tape,hgr.output,hgr.size,fun b hb=>hgr.block b hb (by simp [Value.ownBlock])⟩;have HB6:=hI (show Below w5.heap.size w5 w4' from HBD.out.trans (hb4.mono (by omega)));have HG4:=hI (HGX.out.below hb4);have k2:=c9Q hb4 hgl g2;have k3:=(hb4.frozen (p:=⟨gq,u,none⟩) hgl).trans g3;have hz4':=hb4.size;have hgl4:gq<w4'.heap.size:=(by omega);have hcx:=ZbL hown rfl;clear hown hgr hat hlt hb4;refine hK _ _ (fun _=>⟨k3,k2⟩) ?_;clear hK K;rw [Nat.zero_add]
          try simp only [Act.put,psA,psB,psC]
          refine tQ 8 (some 78) (bA 12 511) fun K HK=>?_;go_simp;have l3:(w4'.alloc (.cells #[.slice (some ⟨gx,0,none⟩) rl cx] 42)).frozen? ⟨gq,u,none⟩=_:=(Zbb hgl4).trans k3;have l2:(w4'.alloc (.cells #[.slice (some ⟨gx,0,none⟩) rl cx] 42)).cell? ⟨gq,u,none⟩=_:=(Zah hgl4).trans k2;refine HK.out _ _ (fun _=>⟨l3,l2⟩) ?_;clear HK K
          try simp only [Act.put,psA,psB,psC]
          refine anyT_one (i:=9) (o:=⟨some 79,_,_,_,_,_⟩) (L':=(bA 12 1023)) rfl (by kernel_rfl) (by kernel_rfl) (fun K hK=>?_)
          refine ZcT (by rfl) (.tmp 75) (.tmp 78) 73 (by rfl) ir _ 24 Tryz.underlying73 hir hr0 hr1 hr2 rfl (by decide) w4' HG4.out (i:=p) (j:=u) hpk hul (by rw [HAV.out];rfl) (Zaw row) #[.slice (some ⟨gx,0,none⟩) rl cx] (by
           have h9:=Zbx HOKR.out (show w4'.ownsRow wd.heap.size 89 3 (.slice (some ⟨gx,0,none⟩) row.length cx) row.length (Zal row) by rw [HRL.out];exact HO4.out)
           have h8:=Zbs (c:=cx) (by rw [HRL.out];exact hcx) (h9.more (S':=Oth (fun _=>False) w4' wm.heap.size k st.length V) (fun b hb=>Or.inr ⟨by have:=hb.1;omega,hb.2,fun i' j' hi' hj' e=>by
            have h7:=((HGR.out.own i' j' hi' hj').lt e.symm).2;have:=hb.1;omega⟩))
           rw [HRL.out] at h8;exact h8) (by simp [Zaw,Dat.Plain]) rfl 1 (by rfl) (by rw [HM9.out];omega) (by rw [HM9.out];omega) ?_
          rw [HM9.out];intro g7 c7 w7 hg7 hr7;have HG7:=hI hg7;have HR7:=hI hr7;have n2:=(hg7.cell (i:=p) (j:=u) hpk hul).1;rw [HAV.out] at n2;have n3:=(hg7.cell (i:=p) (j:=u) hpk hul).2;have hgqe:=HGQ.out;simp only [hgqe] at n2 n3;clear hg7 hr7 hgqe;refine hK _ _ (fun _=>⟨n3,n2⟩) ?_;clear hK K
          try simp only [Act.put,psA,psB,psC]
          refine tJ 10 80 (bA 12 2047) HP.out ⟨n3,n2⟩ ?_;refine tQ 11 none (bA 12 4095) fun K HK=>?_;go_simp;refine HK.out _ _ (fun h=>absurd rfl h) ?_;clear HK K;refine tE HQ ?_;clear HQ HP Q';have HGN:=hI (HG7.out.store (i:=p) (j:=u) hpk hul (.slice (some ⟨g7,0,none⟩) (m9+1) c7));have HFN:=hI (show Fr (fun b=>gP<b) wm (w7.setCell ⟨gq,u,none⟩ (.slice (some ⟨g7,0,none⟩) (m9+1) c7)) from ((HFR.out.trans (Fr.of_below HB6.out) (Y:=fun _=>False) (fun b hb h=>h.elim)).trans (Y:=fun b=>wm.heap.size≤b) (Fr.of_grown HR7.out (fun b hb e=>(HOW.out b e.symm).1)) (fun b hb h=>absurd hb (by omega))).setCell _ (fun _=>by have:=HGQ.out;show gP<gq;omega));clear HG7 HR7 HAV g2 g3 HB6
          go_wp2_with fail
          go_roundw
          case rel =>
           have h9:=HGN.out.congr (L':=LP s k st u (j+1)) (fun a q ha hq=>HLQ.out a q);rw [HGQ.out] at h9;exact⟨j+1,upd V p u (.slice (some ⟨g7,0,none⟩) (m9+1) c7),by omega,by go_num,HFN.out,h9⟩
          case measure=>(simp [intOf];omega)
        · have hdj:decide (j<LI.length)=false:=(by simp;omega);have HGN:=hI (HGR.out.congr (fun a q _ _=>HLN.out j (by omega) a q))
          go_wp2_with fail
          go_roundw
          case rel=>first | exact⟨u+1,V,by omega,by go_num,HFR.out,HGN.out⟩ | ((repeat apply Exists.intro);exact⟨⟨u+1,V,by omega,by go_num,HFR.out,HGN.out⟩,rfl⟩)
          case measure=>(simp [intOf];omega)
     · have hdu:decide (u<st.length)=false:=(by simp;omega);obtain rfl:u=st.length:=(by omega)
       have HEND:=hI (show PrtP (ZdB s k st) w (.returned (.tuple #[.slice (some ⟨gP,0,none⟩) k k,.int .i64 0])) wr by
        have hlen:(ZdB s k st).length=k:=(by simp [ZdB]);refine⟨some ⟨gP,0,none⟩,k,by rw [hlen],by rw [hlen];exact Nat.le_refl _,?_,HBM.out.trans (HFR.out.below (n:=w.heap.size) (by have:=HBM.out.size;omega) (fun b hb=>by omega))⟩;have hgp:wr.heap[gP]?=some (.cells (PBv gP st.length k).toArray 33 (0,0)):=(HFR.out.block gP (Zad HPB.out) (by omega)).trans HPB.out
        have key:∀ q,q≤k→Dat.ValsAll wr (New w wr) (((List.range q).map fun i=>prtS s (qh k i) st).map Zfq) (PBv gP st.length q):=by
         intro q;induction q with
         | zero=>intro _;simp only [List.range_zero,List.map_nil,PBv];unfold Dat.ValsAll;rfl
         | succ q ih =>
          intro hq;unfold PBv;rw [List.range_succ,List.map_append,List.map_append,List.map_append];simp only [List.map_cons,List.map_nil];refine Zay (ih (by omega)) (ZaS ?_)
          obtain⟨vs,hv1,hv2⟩:=HGR.out.row (i:=q) (by omega) (fun t ht=>by
           unfold LP;rw [if_pos ht,Zag (n:=24) (fun _=>rfl)];have h9:=List.length_filter_le (fun r=>qh k q t (keyF s t r)) (st.getD t []);have h8:=Zbl st t;have:=HCNT.out;omega) (S':=New w wr) (fun b hb=>by
           rcases hb with hb | hb
           · exact hb.elim
           · exact⟨by have:=HBM.out.size;omega,hb.2⟩)
          have hle:(List.range st.length).map (fun t=>Dat.slice (LP s k st st.length 0 q t))=(prtS s (qh k q) st).map ZaG:=by
           unfold prtS;rw [List.map_map];refine List.map_congr_left (fun t ht=>?_);unfold LP;rw [if_pos (List.mem_range.1 ht)];rfl
          rw [hle] at hv2;unfold Zfq Dat.Vals;have hpl:((prtS s (qh k q) st).map ZaG).length=st.length:=(by rw [List.length_map,ZdP]);refine⟨some ⟨gP+1+q,0,none⟩,st.length,by rw [hpl],by rw [hpl];exact Nat.le_refl _,Sl.of_vals (by rw [Zag (n:=24) (fun _=>rfl),ZdP];omega) hv2 (fun _=>⟨gP+1+q,0,rfl,⟨by omega,by have:=Zad hv1;exact this⟩,fun j u' hu'=>Zaa hv1 j u' hu'⟩)⟩
        exact Sl.of_vals (by rw [Zag (n:=24) (fun _=>rfl),hlen];omega) (key k nR) (fun _=>⟨gP,0,rfl,⟨by omega,Zad hgp⟩,fun j u' hu'=>Zaa hgp j u' hu'⟩))
       go_wp2_with fail
       exact bodyPost_ret (v:=.tuple #[.slice (some ⟨gP,0,none⟩) k k,.int .i64 0]) (by simp [results,Tryz.results33,go_sem]) rfl HEND.out
theorem Zff {s:Sch} {n i:Nat} {st:St} (h:i<n):(ZdB s n st).getD i []=prtS s (qh n i) st:=by simp [ZdB,List.getD,h]
theorem Zdr (s:Sch) (n:Nat) (st:St):(ZdB s n st).length=n:=by simp [ZdB]
end Go.Proofs.YtkpjjfhfbpfjpaaGreat
