import Derived.Test.YtkpjjfhfbpfjpaaK093f24
import Derived.Deep.Cut
import Derived.Deep.CutRange
import Derived.Deep.DeepCutAuto
import Derived.Test.YtkpjjfhfbpfjpaaK49244f
import Derived.Test.YtkpjjfhfbpfjpaaK185549
import Derived.Test.YtkpjjfhfbpfjpaaK907fdd
set_option linter.unusedVariables false
set_option linter.unusedSimpArgs false
set_option maxRecDepth 100000
set_option maxHeartbeats 8000000
namespace Go.Proofs.Ytkpjjfhfbpfjpaa
open Go.RowKit
def ChPost (S:Nat→Prop) (s:Sch) (m:Int) (st:St) (most:Nat) (w:World) (g:Nat) (e:Ending) (w':World):Prop :=
 ∃ (B0 gt cap:Nat) (l:List Chg) (A:Option Addr) (c:Nat),e=.returned (.tuple #[.slice A l.length c,ZbM (some ⟨gt,0,none⟩) st.length cap])∧st.length≤cap∧l.length≤most∧Fit s m st l∧Mk w' B0 (fun _=>False) 53 3 (.slice A l.length c) (l.map Zan)∧StC w' (fun b=>S b∨(w.heap.size≤b∧b<B0∧b≠gt)∨Beh B0 w' (.slice A l.length c) b) gt (after s st l)∧w.heap.size≤gt∧gt<B0∧CaseOk w' g∧w.grownBy w' (some g)
theorem changes_any (g:Nat) (A0:Option Addr) (c0':Nat) (s:Sch) (m:Int) (AS:Option Addr) (ca:Nat) (st:St) (most:Nat) (S:Nat→Prop) (w:World) (hs:TabS w S A0 s.tabs) (hst:StS w S AS st) (hS:∀ b,S b→b<w.heap.size∧b≠g) (hgs:GenS s) (hm:ZcG m=true) (hok:StOk s m st) (hcnt:Zal st≤1000) (hmost:most≤100) (hc:CaseOk w g) :
  Calls Try.prog 23 #[.pointer (some ⟨g,0,none⟩),sAgg s.version A0 s.tabs.length c0',.int .i64 m,ZbM AS st.length ca,.int .i64 (most:Int)] w (ChPost S s m st most w g):=by
 obtain⟨i0,hi,hz0,hz1,hz2⟩:=info_parts ZgV;have hgl:=hc.lt;have hsl:=hgs.len;have hstl:st.length=s.tabs.length:=hok.1;have HS:=hI hs;have HST:=hI hst;have HSG:=hI hS;have HGS:=hI hgs;have HC:=hI hc;have HM:=hI hm;have HOK:=hI hok;have HB0:=hI ((((Below.refl w.heap.size w).alloc nR (.cells #[.int .i64 s.version,.slice A0 s.tabs.length c0'] 25)).alloc (by simp) (.cells #[.slice AS st.length ca] 56)).alloc (by simp<;>omega) (.cells #[.slice none 0 0] 56));clear hs hst hgs hc hm hok;go_enter Try.func23,Try.ntmps23
 go_wp2_with fail
 obtain⟨W0,hW0⟩:∃ W0,((w.alloc (.cells #[.int .i64 s.version,.slice A0 s.tabs.length c0'] 25)).alloc (.cells #[.slice AS st.length ca] 56)).alloc (.cells #[.slice none 0 0] 56)=W0:=⟨_,rfl⟩;have hz0':W0.heap.size=w.heap.size+3:=(by rw [←hW0];simp);have b0:W0.cell? ⟨w.heap.size,0,none⟩=some (.int .i64 s.version):=(by rw [←hW0];exact(Zaf (by simp<;>omega)).trans ((Zaf (by simp)).trans (Zad rfl rfl)));have b1:W0.cell? ⟨w.heap.size,1,none⟩=some (.slice A0 s.tabs.length c0'):=(by rw [←hW0];exact(Zaf (by simp<;>omega)).trans ((Zaf (by simp)).trans (Zad rfl rfl)));have s0:W0.cell? ⟨w.heap.size+1,0,none⟩=some (.slice AS st.length ca):=(by rw [←hW0];exact(Zaf (by simp)).trans (Zad (by simp) rfl));have sf:W0.frozen? ⟨w.heap.size+1,0,none⟩=false:=(by rw [←hW0];exact(Zbn (by simp)).trans (ZaK (by simp)));have r0:W0.cell? ⟨w.heap.size+2,0,none⟩=some (.slice none 0 0):=(by rw [←hW0];exact Zad (by simp) rfl);have rf:W0.frozen? ⟨w.heap.size+2,0,none⟩=false:=(by rw [←hW0];exact ZaK (by simp));have hW0':=hW0;rw [hstl] at hW0';rw [hW0'] at ⊢;rw [hW0] at HB0;clear hW0 hW0';have hcop:=Zeu AS ca st S W0 (HST.out.keep (Same.of_below HB0.out (fun b hb=>(HSG.out b hb).1))) (fun b hb=>by have:=(HSG.out b hb).1;omega);rw [hstl] at hcop;refine hcop.mono ?_;rintro e wc ⟨AC,cc,rfl,hmk,hbc⟩;obtain⟨gt,rfl,hgt,-,hcc,hstc⟩:=StC.of_own hmk.own (by omega);have HSTC:=hI hstc;have HBC:=hI hbc;have hgtl:=hstc.lt;have hzc:=hbc.size;have b0':=c9J hbc b0;have b1':=c9J hbc b1;have s0':=c9J hbc s0;have sf':=(hbc.frozen (p:=⟨w.heap.size+1,0,none⟩) (by show w.heap.size+1<W0.heap.size;omega)).trans sf;have r0':=c9J hbc r0;have rf':=(hbc.frozen (p:=⟨w.heap.size+2,0,none⟩) (by show w.heap.size+2<W0.heap.size;omega)).trans rf;have HCAP:=hI hcc
 have HI0:=hI (show ChI w (wc.setCell ⟨w.heap.size+1,0,none⟩ (.slice (some ⟨gt,0,none⟩) s.tabs.length cc)) wc.heap.size gt cc g S s A0 c0' st [] none 0 from by
  have hne:∀ b,b≠w.heap.size+1→(wc.setCell ⟨w.heap.size+1,0,none⟩ (.slice (some ⟨gt,0,none⟩) s.tabs.length cc)).heap[b]?=wc.heap[b]?:=fun b hb=>Below.heap_setCell wc ⟨w.heap.size+1,0,none⟩ _ b hb;have hbw:=HB0.out.trans (hbc.mono (by omega));refine⟨(hstc.keep (by simp) (fun b hb=>hne b ?_) (hne gt (by omega))).more (fun b hb=>.inr (.inl ?_)) (fun b hb=>?_),Mk.start (fun b hb=>hb.elim) (by simp) _ _,(World.cell?_of_block (hne w.heap.size (by omega))).trans b0',(World.cell?_of_block (hne w.heap.size (by omega))).trans b1',World.cell?_setCell_same _ _ _ s0',by rw [World.frozen?_setCell];exact sf',(World.cell?_of_block (hne (w.heap.size+2) (by omega))).trans r0',(World.frozen?_of_block (hne (w.heap.size+2) (by omega))).trans rf',Zab (HC.out.keep (fun b hb=>hbw.block b (by omega))) (by omega),Zac (Fr.of_below (X:=fun b=>b=g) hbw).grown (by omega),by omega,hgtl⟩
  · rcases hb with hb | hb
    · exact hb.elim
    · have:=hb.1;omega
  · rcases hb with hb | hb
    · exact hb.elim
    · exact⟨by have:=hb.1;omega,hb.2.1,fun e=>hb.2.2 (by rw [e];rfl)⟩
  · rcases hb with hb | hb | hb
    · have:=HSG.out b hb;simp;omega
    · exact⟨by have:=hb.2.1;simp;omega,hb.2.2⟩
    · exact⟨hb.2.1,by have:=hb.1;omega⟩)
 clear hmk hbc hstc HC b0 b1 s0 sf r0 rf hcop
 go_wp2_with fail
 obtain⟨W1,hW1⟩:∃ W1,wc.setCell ⟨w.heap.size+1,0,none⟩ (.slice (some ⟨gt,0,none⟩) s.tabs.length cc)=W1:=⟨_,rfl⟩;obtain⟨B0,hB0⟩:∃ B0,wc.heap.size=B0:=⟨_,rfl⟩;rw [hW1] at HI0 ⊢;rw [hB0] at HI0;clear hW1 hB0 b0' b1' s0' sf' r0' rf' HSTC HBC hgtl hzc hz0' hgt;refine(ZaH g ((most:Int)+1) _ (by omega) HI0.out.case).mono ?_;rintro e w1 ⟨r,rfl,r0,r1,-,hcr,hgr,hsr⟩;have hr5:=r1 (by omega);obtain⟨nn,rfl⟩:=Int.eq_ofNat_of_zero_le r0;have HI1:=hI (HI0.out.keep (ZaS hgr) hcr hgl HSG.out);clear hcr hgr hsr r1 HI0
 go_wp2_with fail
 rw [show w.heap.size+1+1=w.heap.size+2 from rfl]
 go_loopw [12,13] (fun out i wr=>∃ (nn:Nat) (l:List Chg) (A:Option Addr) (c:Nat) (cur:St),l.length+nn≤most∧out=.slice A l.length c∧i=.int .i64 nn∧ChI w wr B0 gt cc g S s A0 c0' cur l A c∧StOk s m cur∧Fit s m st l∧cur=after s st l) (fun _ i _=>(intOf i).toNat)
 case atStart=>exact⟨nn,[],none,0,st,by simp;omega,rfl,rfl,HI1.out,HOK.out,trivial,rfl⟩
 case round =>
  clear HI1;obtain⟨nn,l,A,c,cur,hle,rfl,rfl,hci,hco,hfi,haf⟩:=hrel;have HI:=hI hci;have HCO:=hI hco;have HFI:=hI hfi;have HAF:=hI haf;have hsz:=hci.sz;have hlo:=hci.lo;have hhi:=hci.hi;clear hci hco hfi haf;rcases Nat.eq_zero_or_pos nn with hn0 | hn0
  · subst hn0;have s0:=HI.out.s0;have r0:=HI.out.r0;have rf:=HI.out.rf
    go_wp2_with fail
    refine tS (fun w'=>w'.cell? ⟨w.heap.size+1,0,none⟩=some (.slice (some ⟨gt,0,none⟩) s.tabs.length cc)) 3 4 fun Q' HQ HP=>?_;refine tW 0 120 2 10 (bA 4 5) HP.out s0 ?_;refine tJ 1 121 (bA 4 7) HP.out s0 ?_;refine tQ 3 none (bA 4 15) fun K HK=>?_;go_simp;refine HK.out _ _ (fun h=>absurd rfl h) ?_;clear HK K;refine tE HQ ?_;clear HQ HP Q';have hcl:=HCO.out.1;have x0:(wr.setCell ⟨w.heap.size+2,0,none⟩ (.slice (some ⟨gt,0,none⟩) s.tabs.length cc)).cell? ⟨w.heap.size+2,0,none⟩=some (.slice (some ⟨gt,0,none⟩) s.tabs.length cc):=World.cell?_setCell_same _ _ _ r0
    go_wp2_with fail
    obtain⟨wz,hwz⟩:∃ wz,(wr.setCell ⟨w.heap.size+2,0,none⟩ (.slice (some ⟨gt,0,none⟩) s.tabs.length cc)).drew=wz:=⟨_,rfl⟩;have x1:wz.cell? ⟨w.heap.size+2,0,none⟩=some (.slice (some ⟨gt,0,none⟩) s.tabs.length cc):=(by rw [←hwz];exact x0);have hfz:Fr (fun b=>b=w.heap.size+2) wr wz:=(by rw [←hwz];exact((Fr.refl (fun b=>b=w.heap.size+2) wr).setCell (g:=w.heap.size+2) (o:=0) _ (fun _=>rfl)).drew);rw [hwz];clear hwz x0;obtain⟨z1,z2,z3,z4⟩:=HI.out.done hgl HSG.out hfz;rw [HAF.out] at z2;exact bodyPost_ret (v:=.tuple #[.slice A l.length c,ZbM (some ⟨gt,0,none⟩) s.tabs.length cc]) (by simp [results,Try.results23,go_sem,x1]) rfl ⟨B0,gt,cc,l,A,c,by rw [hstl],HCAP.out,by omega,HFI.out,z1,z2,by omega,hhi,z3,z4⟩
  · obtain⟨n1,rfl⟩:∃ n1,nn=n1+1:=⟨nn - 1,by omega⟩;have b1:=HI.out.b1;have hnp:(0:Int)<((n1+1:Nat):Int):=(by omega);have htp:(0:Int)<(s.tabs.length:Int):=by omega
    go_wp2_with fail
    refine(ZaH g (s.tabs.length:Int) _ (by omega) HI.out.case).mono ?_;rintro e w2 ⟨tt,rfl,t0',t1',-,hcr,hgr,hsr⟩;have htl':=t1' (by omega);obtain⟨t,rfl⟩:=Int.eq_ofNat_of_zero_le t0';have htl:t<s.tabs.length:=(by omega);have HI2:=hI (HI.out.keep (ZaS hgr) hcr hgl HSG.out);obtain⟨xb,hxb⟩:∃ xb,w2.heap.size=xb:=⟨_,rfl⟩;have HM2:=hI (show Mid w2 (w2.alloc (.cells #[.int .i64 (t:Int),.slice none 0 0,.slice none 0 0] 53)) g xb [.int .i64 (t:Int),.slice none 0 0,.slice none 0 0] from ⟨Fr.of_below ((Below.refl _ _).alloc nR _),hcr.keep (fun b hb=>Below.heap_alloc _ _ _ (by omega)),by rw [←hxb];exact heap_alloc_new _ _⟩);have hxz:w2.heap.size≤xb:=(by omega);have hxw:wr.heap.size=xb:=(by omega);have hsz2:=HI2.out.sz;clear hcr hgr t1' b1 hnp htp HI hsr hsz
    go_wp2_with fail
    obtain⟨wx,hwx⟩:∃ wx,w2.alloc (.cells #[.int .i64 (t:Int),.slice none 0 0,.slice none 0 0] 53)=wx:=⟨_,rfl⟩;have hzx:wx.heap.size=xb+1:=(by rw [←hwx,←hxb];simp);rw [hwx] at HM2 ⊢;clear hwx hxw hxb;have hgx':g<xb:=(by omega);have HX:=hI (HI2.out.keep HM2.out.fr HM2.out.case hgl HSG.out);have hSw:∀ b,S b→b<w.heap.size:=fun b hb=>(HSG.out b hb).1;have hsame:Same S w wx:=fun b hb=>HX.out.gr.block b (hSw b hb) (fun e=>(HSG.out b hb).2 (by injection e));have HTW:=hI (HS.out.keep hsame);have hSr:∀ b,S b→b<wx.heap.size:=(fun b hb=>by have:=hSw b hb;omega);obtain⟨bT,oT,rfl,hbT,T1,T2,T3,k1,k2,k3,hta⟩:=HTW.out.at_ htl;have lT:bT<wx.heap.size:=hSr bT hbT;have l0:w.heap.size<wx.heap.size:=(by omega);have lx:xb<wx.heap.size:=(by omega);have hg0:¬ w.heap.size=g:=(by omega);have hgT:¬ bT=g:=(HSG.out bT hbT).2;have hgx:¬ xb=g:=(by omega);have u0:=HX.out.b0;have u1:=HX.out.b1;have u2:=hta.key;have u3:wx.cell? ⟨xb,0,none⟩=some (.int .i64 (t:Int)):=Zaa HM2.out.xc 0 _ rfl;have hkl:(ZaZ s t).length≤1000000:=(by have:=(HGS.out.kinds htl).2;omega);have HFT:=hI (fun (r:Row) (h:Zgc (s.tabs.getD t t0).key m (ZaZ s t) r)=>Zet HGS.out HM.out htl h);clear hta hsame;generalize (s.tabs.getD t t0).key=ky at u2 HFT
    go_wp2_with fail
    refine tS (fun w'=>w'.cell? ⟨w.heap.size,0,none⟩=some (.int .i64 s.version)∧w'.cell? ⟨w.heap.size,1,none⟩=some (.slice (some ⟨bT,oT,none⟩) s.tabs.length c0')∧w'.cell? ⟨bT,oT+t*5+2,none⟩=some (.int .i64 ky)∧w'.cell? ⟨xb,0,none⟩=some (.int .i64 (t:Int))) 15 15 fun Q' HQ HP=>?_;refine tX 0 41 1 42 2 43 3 44 (bA 15 15) HP.out ⟨u0,u1,u2,u3⟩ ?_;refine tX 5 46 6 47 7 48 8 49 (bA 15 495) HP.out ⟨u0,u1,u2,u3⟩ ?_;refine tX 9 50 10 51 11 52 12 53 (bA 15 8175) HP.out ⟨u0,u1,u2,u3⟩ ?_;refine tQ 4 (some 45) (bA 15 8191) fun K HK=>?_;go_simp;refine(ZdF (some ⟨bT,oT,none⟩) c0' s t S wx.drew (HTW.out.keep (fun _ _=>rfl)) hSr).mono ?_;rintro e wk ⟨KA,kc,rfl,hks,hkc,-,hbk0⟩;have hbk:Below wx.heap.size wx wk:=(Below.refl _ wx).drew.trans hbk0;have hzk:=hbk.size;have HKS:=hI hks;clear hks hbk0;have p0:=c9Q hbk l0 u0;have p1:=c9Q hbk l0 u1;have p2:=c9Q hbk lT u2;have p3:=c9Q hbk lx u3;refine HK.out _ _ (fun _=>⟨p0,p1,p2,p3⟩) ?_;clear HK K
    try simp only [Act.put,psA,psB,psC]
    refine tQ 13 (some 54) (bA 15 16383) fun K HK=>?_;go_simp;refine(ZgI g KA kc (ZaZ s t) ky m (New wx.drew wk) wk HKS.out (fun b hb=>⟨hb.2,by have h9:wx.heap.size≤b:=hb.1;omega⟩) hkl (HX.out.case.keep (fun b hb=>hbk.block b (by omega)))).mono ?_;rintro e wq ⟨row,RA,rc,rfl,hgen,hrow,hcq,hgq⟩;have hzq:=hgq.size;have HFQ:=hI (show Fr (fun b=>b=g) wx wq from (Fr.of_below hbk).trans (ZaS hgq) (fun _ _ e=>e));have HIQ:=hI (HX.out.keep HFQ.out hcq hgl HSG.out);have HFIT:=hI (HFT.out row hgen);have HROK:=hI (Zes hgen hkl);have HROW:=hI (Zdb hrow hzk);clear hgen hrow hcq;have q0:=(HFQ.out.cell (b:=w.heap.size) l0 hg0).trans u0;have q1:=(HFQ.out.cell (b:=w.heap.size) l0 hg0).trans u1;have q2:=(HFQ.out.cell (b:=bT) lT hgT).trans u2;have q3:=(HFQ.out.cell (b:=xb) lx hgx).trans u3;clear hgq;refine HK.out _ _ (fun _=>⟨q0,q1,q2,q3⟩) ?_;clear HK K
    try simp only [Act.put,psA,psB,psC]
    refine tJ 14 15 (bA 15 32767) HP.out ⟨q0,q1,q2,q3⟩ ?_;refine tE HQ ?_;clear HQ HP Q';have HMQ:=hI (HM2.out.calls HFQ.out HIQ.out.case hgx');have HRTQ:=hI (show RowT wq xb RA rc row from ⟨(ZaQ HROW.out HROK.out nR).1,(ZaQ HROW.out HROK.out nR).2.more (fun b hb=>⟨by have h9:wx.heap.size≤b:=hb.1;omega,hb.2⟩)⟩);have hwid:=HGS.out.wide t htl;have hrwl:0<row.length:=(by have h9:=Zcu HFIT.out;rw [Int.toNat_natCast] at h9;rw [h9];exact hwid);have hzq':wx.heap.size≤wq.heap.size:=HFQ.out.size;have HCT:=hI (show Zal cur≤1100 by rw [HAF.out];have:=(Zhk HOK.out HFI.out).2;omega);have HCL:=hI HCO.out.1;have htc:t<cur.length:=(by rw [HCL.out];exact htl);obtain⟨hfzq,AT,ct,d1,d2,d3⟩:=HIQ.out.stc.at_ (k:=t) htc;have s0:=HIQ.out.s0;have lgt:gt<wq.heap.size:=(by have:=HIQ.out.sz;omega);have HRS:=hI d3;have hrl:=d3.len;have HRW:=hI (show ∀ r ∈ cur.getD t [],ZaE s t r m=true from (HCO.out.2 t htc).1);clear p0 p1 p2 p3 u0 u1 u2 u3 q0 q1 q2 d2 d3 hfzq hzk hbk hzq hwid lT l0 lx hg0 hgT hgx;have hrc:(cur.getD t []).length≤1100:=(by have:=ZbO cur t;have:=HCT.out;omega);generalize cur.getD t []=rows at d1 HRS hrl HRW hrc;go_upto_region 9 with fail
    go_cut [67] (fun p W=>∃ bb:Bool,p=.bool bb∧(bb=true→0<rows.length)∧CaseOk W g∧wq.grownBy W (some g)∧W.heap.size=wq.heap.size)
    case first =>
     by_cases hr0:rows.length=0
     · have hd0:decide (0<rows.length)=false:=decide_eq_false (by omega);have hd1:decide ((0:Int)<(rows.length:Int))=false:=decide_eq_false (by omega);clear hr0
       go_wp2_with fail
       go_meet;exact⟨false,rfl,fun e=>(by cases e),HMQ.out.case,World.grownBy.refl _ _,rfl⟩
     · have hd0:decide (0<rows.length)=true:=decide_eq_true (by omega);have hd1:(0:Int)<(rows.length:Int):=by omega
       go_wp2_with fail
       refine(ZaD g 2 _ (by omega) (by omega) HMQ.out.case).mono ?_;rintro e wb ⟨bb,rfl,hcb,hgb,hsb⟩
       go_wp2_with fail
       go_meet;exact⟨bb,rfl,fun _=>by omega,hcb,hgb,hsb⟩
    case rest =>
     obtain⟨bb,rfl,hbb,hcb,hgb,hsb⟩:=hcut;have HMB:=hI (HMQ.out.calls (ZaS hgb) hcb hgx');have HRTB:=hI (HRTQ.out.step (xb:=xb) (Fr.or_g (ZaS hgb)) hgx')
     have HRSB:=hI (HRS.out.keep (w':=wc) (fun b hb=>hgb.block b (HIQ.out.stc.mem b hb).1 (fun e=>by
      injection e with e;rcases hb with hb | hb | hb
      · exact(HSG.out b hb).2 e
      · omega
      · have:=hb.1;omega)))
     have HROWB:=hI (ZaC HROW.out (w':=wc) (fun q hq=>hgb.block q (Zaz HROW.out hq) (fun e=>by injection e with e;have:=ZaA HROW.out hq;omega)));have hzb:wc.heap.size=wq.heap.size:=hsb;obtain⟨wb,rfl⟩:∃ wb:World,wb=wc:=⟨_,rfl⟩;clear hcb hgb hsb;go_upto_if 67 with fail
     go_cut [15] (fun p W=>∃ (RA':Option Addr) (rw_:Row),p=.slice RA' rw_.length rc∧Mid w2 W g xb [.int .i64 (t:Int),.slice none 0 0,.slice none 0 0]∧RowT W xb RA' rc rw_∧RowOk rw_∧ZaE s t rw_ m=true)
     case first =>
      cases bb
      · go_wp2_with fail
        go_meet;exact⟨RA,row,rfl,HMB.out,HRTB.out,HROK.out,HFIT.out⟩
      · have hd1:=hbb rfl;clear hbb
        go_wp2_with fail
        refine(ZaH g (rows.length:Int) _ (by omega) HMB.out.case).mono ?_;rintro e wi ⟨ri,rfl,i0',i1',-,hcr,hgr,hsr⟩;have hri:=i1' (by omega);obtain⟨ki,rfl⟩:=Int.eq_ofNat_of_zero_le i0';have hkil:ki<rows.length:=(by omega);have HMI:=hI (HMB.out.calls (ZaS hgr) hcr hgx');have HRTI:=hI (HRTB.out.step (xb:=xb) (Fr.or_g (ZaS hgr)) hgx')
        have hngi:∀ b,(S b∨(w.heap.size+3≤b∧b<B0∧b≠gt)∨Beh B0 wq (.slice A l.length c) b)→b<wb.heap.size∧some b≠some g:=fun b hb=>⟨by have:=(HIQ.out.stc.mem b hb).1;omega,fun e=>by
         injection e with e;rcases hb with hb | hb | hb
         · exact(HSG.out b hb).2 e
         · omega
         · have:=hb.1;omega⟩
        have HRSI:=hI (HRSB.out.keep (w':=wi) (fun b hb=>hgr.block b (hngi b hb).1 (hngi b hb).2));have HROWI:=hI (ZaC HROWB.out (w':=wi) (fun q hq=>hgr.block q (Zaz HROWB.out hq) (fun e=>by injection e with e;have:=ZaA HROWB.out hq;omega)));have hzi:wi.heap.size=wb.heap.size:=hsr;obtain⟨bO,oO,hAT,hbO,AO,cO,e1,e2,e3⟩:=HRSI.out.at_ hkil;subst hAT;have lO:bO<wi.heap.size:=(by have:=(hngi bO hbO).1;omega);have HOR:=hI (e3.more (S':=fun b=>b<wi.heap.size) (fun b hb=>by have:=(hngi b hb).1;show b<wi.heap.size;omega));have HOC:=hI e2;have HOF:=hI (HRW.out (rows.getD ki []) (by rw [ZbY hkil];exact List.getElem_mem hkil));have hol:=e3.len;have HIW:=hI (HI2.out.keep HMI.out.fr HMI.out.case hgl HSG.out);have y0:=HIW.out.b0;have y1:=HIW.out.b1;have y2:wi.cell? ⟨xb,0,none⟩=some (.int .i64 (t:Int)):=Zaa HMI.out.xc 0 _ rfl;clear e2 e3 hcr hgr hsr i1';generalize rows.getD ki []=orow at e1 HOR HOC HOF hol
        go_wp2_with fail
        refine(Zdq (some ⟨bT,oT,none⟩) c0' s t AO cO orow (fun b=>b<wi.heap.size) _ ((HS.out.keep (show Same S w wi from fun b hb=>(HIW.out).gr.block b (hSw b hb) (fun e=>(HSG.out b hb).2 (by injection e)))).more (fun b hb=>by have:=hSw b hb;show b<wi.heap.size;omega)) HOR.out HOC.out (fun b hb=>hb)).mono ?_;rintro e wk ⟨KA,kc,rfl,hkey,hbk⟩;have HKY:=hI (ZaQ hkey (ZcD HOR.out.ok) nR);have HKOK:=hI (ZcD (s:=s) (t:=(t:Int)) HOR.out.ok);have HMK0:=hI (HMI.out.below hbk hgx');have HROWK:=hI (ZaC HROWI.out (w':=wk) (fun q hq=>hbk.block q (Zaz HROWI.out hq)));have hzk0:=hbk.size;have hk0:=c9J hbk y0;have hk1:=c9J hbk y1;have hk2:=c9J hbk y2;obtain⟨hkle,hmixf⟩:=fits_mix htl HOF.out HFIT.out
        have hkpos:0<(keyF s (t:Int) orow).length:=by
         have h9:=Zcu HOF.out;have h8:=HGS.out.tab htl;rw [Int.toNat_natCast] at h9;rw [Zfv htl,List.length_take];unfold keyN;have:=h8.1;have:=h8.2.2.1;omega
        have HMIX:=hI hmixf;clear hkey hbk hmixf;generalize keyF s (t:Int) orow=kk at HKY HKOK hkle hkpos HMIX;obtain⟨kb,ko,hKA,hkb,hkcells⟩:=HKY.out.2.vals hkpos;subst hKA
        obtain⟨gr,capr,curr,hRA,hbr,hhr,hcr1,hcr2,hcr3,hcr4⟩:∃ gr capr curr,Value.slice RA row.length rc=.slice (some ⟨gr,0,none⟩) row.length capr∧wx.heap.size≤gr∧wk.heap[gr]?=some (.cells curr 51 (0,0))∧row.length≤capr∧capr≤maxLen∧curr.size=capr*3∧curr.toList.take (row.length*3)=Zak row:=by
         rcases HROWK.out.2 with ⟨h9,h8⟩ | ⟨gr,capr,curr,h1,h2,h3,h4,h5,h6,h7⟩
         · omega
         · exact⟨gr,capr,curr,h1,h2,h3,h4,h5,h6,h7⟩
        injection hRA with hRA1 _ hRA2;subst hRA1 hRA2;have HHR:=hI (show wk.heap[gr]?=some (.cells curr.toList.toArray 51 (0,0)) by simpa using hhr);have HC4:=hI hcr4;have HC3:=hI hcr3;have hrk3:row.length*3≤curr.size:=(by rw [hcr3];omega);clear hhr hcr4 hcr3
        go_wp2_with (refine wpList_copy_k (o:=⟨some 81,_,_,_,_,_⟩) rfl (.tmp 75) (.tmp 80) 27 27 rfl 51 3 Try.underlying27 (by kernel_rfl) gr row.length rc ⟨kb,ko,none⟩ kk.length kc rfl rfl curr.toList 51 HHR.out (Zak kk) kk.length (Nat.min_eq_left hkle).symm (ZaP _) hkcells (by rw [ZaP];simp;omega) (Zcp _) ?_;intro wm hm1 hm2;have HM1:=hI hm1;have HM2':=hI hm2;have hzm:=hm2.size;have m0:=(hm2.cell (b:=w.heap.size) (o:=0) (by omega) (by omega)).trans hk0;have m1:=(hm2.cell (b:=w.heap.size) (o:=1) (by omega) (by omega)).trans hk1;have m2:=(hm2.cell (b:=xb) (o:=0) (by omega) (by omega)).trans hk2;clear hm1 hm2)
        have HOWC:=hI (owns_copied (base:=wx.heap.size) hcr1 hcr2 hbr hkle (by have:=HC3.out;simpa using this) HC4.out HM1.out);have HROKM:=hI (rowOk_mix HKOK.out HROK.out hkle);have HMY:=hI (HMK0.out.far HM2'.out (fun b hb=>by have h9:b=gr:=hb;omega) hgx' hxz);obtain⟨rw_,hrw⟩:∃ rw_,mixR kk row=rw_:=⟨_,rfl⟩;have hlr:row.length=rw_.length:=(by rw [←hrw,ZcH hkle]);rw [hrw] at HOWC HROKM HMIX;have HRT:=hI (show RowT wm xb (some ⟨gr,0,none⟩) rc rw_ from ⟨(ZaQ HOWC.out HROKM.out nR).1,(ZaQ HOWC.out HROKM.out nR).2.more (fun b hb=>⟨by have h9:wx.heap.size≤b:=hb.1;omega,hb.2⟩)⟩);rw [hlr];clear hrw hlr HOWC HM1 HM2' HHR HC3 HC4 HROWK HROWI HROWB HROW HKY HKOK y0 y1 y2 e1 hk0 hk1 hk2 m0 m1 m2 hkcells hrk3 hcr1 hcr2 hkle hkpos hrwl
        go_wp2_with fail
        go_meet;exact⟨some ⟨gr,0,none⟩,rw_,rfl,HMY.out,HRT.out,HROKM.out,HMIX.out⟩
     case rest =>
      clear HMB HRTB HRSB HROWB HROW hzb hbb HRTQ HROK HFIT HMQ HRS HRW hrl hrwl hrc hzq' HIQ HFQ;obtain⟨RA',rw_,rfl,hmy,hrt,hrk,hfr⟩:=hcut;obtain⟨wy,rfl⟩:∃ wy:World,wy=wc:=⟨_,rfl⟩;have HMY:=hI hmy;have HRT:=hI hrt;have HRK:=hI hrk;have HFR:=hI hfr;clear hmy hrt hrk hfr;have HIY:=hI (HI2.out.keep HMY.out.fr HMY.out.case hgl HSG.out);have y0:=HIY.out.b0;have y1:=HIY.out.b1;have y2:wy.cell? ⟨xb,0,none⟩=some (.int .i64 (t:Int)):=Zaa HMY.out.xc 0 _ rfl;have hzy:xb<wy.heap.size:=Zae HMY.out.xc
      go_wp2_with fail
      clear s0 d1;refine(Zdq (some ⟨bT,oT,none⟩) c0' s t RA' rc rw_ (fun b=>b<wy.heap.size) _ ((HS.out.keep (show Same S w wy from fun b hb=>(HIY.out).gr.block b (hSw b hb) (fun e=>(HSG.out b hb).2 (by injection e)))).more (fun b hb=>by have:=hSw b hb;show b<wy.heap.size;omega)) (HRT.out.2.more (fun b hb=>hb.2)) HRT.out.1 (fun b hb=>hb)).mono ?_;rintro e wk ⟨KA,kc,rfl,hkey,hbk⟩;have HKY:=hI (show RowT wk xb KA kc (keyF s (t:Int) rw_) from ⟨(ZaQ hkey (ZcD HRK.out) nR).1,(ZaQ hkey (ZcD HRK.out) nR).2.more (fun b hb=>⟨by have h9:wy.heap.size≤b:=hb.1;omega,hb.2⟩)⟩);have HMK0:=hI (HMY.out.below hbk hgx');have HRTK:=hI (HRT.out.step (xb:=xb) (Fr.or_g (g:=g) (Fr.of_below hbk)) hgx');have hzk0:=hbk.size;clear hkey hbk y0 y1 y2;obtain⟨key,hkeq⟩:∃ key,keyF s (t:Int) rw_=key:=⟨_,rfl⟩;rw [hkeq] at HKY ⊢;have HKQ:=hI hkeq;clear hkeq;have HIK:=hI (HI2.out.keep HMK0.out.fr HMK0.out.case hgl HSG.out);have y0:=HIK.out.b0;have y1:=HIK.out.b1;have y3:=HIK.out.s0;have y2:wk.cell? ⟨xb,0,none⟩=some (.int .i64 (t:Int)):=Zaa HMK0.out.xc 0 _ rfl
      go_wp2_with fail
      have hget:=rget_any (some ⟨bT,oT,none⟩) c0' s (some ⟨gt,0,none⟩) cc cur t KA kc key (fun b=>b<wk.heap.size) wk ((HS.out.keep (show Same S w wk from fun b hb=>(HIK.out).gr.block b (hSw b hb) (fun e=>(HSG.out b hb).2 (by injection e)))).more (fun b hb=>by have:=hSw b hb;show b<wk.heap.size;omega)) (HIK.out.stc.slice (by have:=HCL.out;omega) (fun b hb=>(HIK.out.stc.mem b hb).1) (by show gt<wk.heap.size;omega)) (HKY.out.2.more (fun b hb=>hb.2)) (fun b hb=>hb);rw [HCL.out] at hget;refine hget.mono ?_;rintro e wg ⟨OA,oc,rfl,hold,hbg⟩;rw [getS_look htl htc key] at hold ⊢;obtain⟨old,hoq⟩:∃ old,look s cur t key=old:=⟨_,rfl⟩
      have HOFT:=hI (show old=[]∨ZaE s t old m=true by
       by_cases h0:0<old.length
       · exact .inr (ZfT HCO.out htc hoq h0)
       · exact .inl (List.eq_nil_of_length_eq_zero (by omega)))
      rw [hoq] at hold ⊢;have HOQ:=hI hoq;have HOL:=hI (show RowT wg xb OA oc old from ⟨(ZaQ hold (ZeY HGS.out htl HOFT.out) nR).1,(ZaQ hold (ZeY HGS.out htl HOFT.out) nR).2.more (fun b hb=>⟨by have h9:wk.heap.size≤b:=hb.1;omega,hb.2⟩)⟩);have HMG:=hI (HMK0.out.below hbg hgx');have HRTG:=hI (HRTK.out.step (xb:=xb) (Fr.or_g (g:=g) (Fr.of_below hbg)) hgx');have HKYG:=hI (HKY.out.step (xb:=xb) (Fr.or_g (g:=g) (Fr.of_below hbg)) hgx');have hzg:=hbg.size;clear hoq hold hbg hget y0 y1 y2 y3;have c0:wg.cell? ⟨xb,0,none⟩=some (.int .i64 (t:Int)):=Zaa HMG.out.xc 0 _ rfl;have c1:wg.cell? ⟨xb,1,none⟩=some (.slice none 0 0):=Zaa HMG.out.xc 1 _ rfl;have c2:wg.cell? ⟨xb,2,none⟩=some (.slice none 0 0):=Zaa HMG.out.xc 2 _ rfl;have f1:wg.frozen? ⟨xb,1,none⟩=false:=(by simp [World.frozen?,HMG.out.xc]);have f2:wg.frozen? ⟨xb,2,none⟩=false:=(by simp [World.frozen?,HMG.out.xc]);have hlg:xb<wg.heap.size:=Zae HMG.out.xc;have hlg1:xb<wg.heap.size+1:=(by omega);go_upto_region 14 with fail
      have HMG1:=hI (HMG.out.set 1 (.slice OA old.length oc) hgx' hxz)
      go_cut [105] (fun p W=>∃ bw:Bool,p=.bool bw∧(bw=false→old.length≠0)∧CaseOk W g∧(wg.setCell ⟨xb,1,none⟩ (.slice OA old.length oc)).grownBy W (some g)∧W.heap.size=(wg.setCell ⟨xb,1,none⟩ (.slice OA old.length oc)).heap.size)
      case first =>
       by_cases ho0:old.length=0
       · have hq:((old.length:Int) == 0)=true:=(by simp [ho0]);clear ho0
         go_wp2_with fail
         go_meet;exact⟨true,rfl,fun e=>(by cases e),HMG1.out.case,World.grownBy.refl _ _,rfl⟩
       · have hq:((old.length:Int) == 0)=false:=(by simp;intro e;rw [e] at ho0;simp at ho0);have HO0:=hI ho0;clear ho0
         go_wp2_with fail
         refine(ZaD g 3 _ (by omega) (by omega) HMG1.out.case).mono ?_;rintro e wh ⟨bb,rfl,hcb,hgb,hsb⟩
         go_wp2_with fail
         go_meet;exact⟨!bb,rfl,fun _=>HO0.out,hcb,hgb,hsb⟩
      case rest =>
       obtain⟨bw,rfl,hbw,hcb,hgb,hsb⟩:=hcut;obtain⟨wh,rfl⟩:∃ wh:World,wh=wc:=⟨_,rfl⟩;have HMH:=hI (HMG1.out.calls (ZaS hgb) hcb hgx');have HSTP:=hI (show ∀ (A9:Option Addr) (c9:Nat) (r9:Row),RowT wg xb A9 c9 r9→RowT wh xb A9 c9 r9 from fun A9 c9 r9 h9=>(h9.step (Fr.or_set (g:=g) (xb:=xb) 1 (.slice OA old.length oc)) hgx').step (Fr.or_g (ZaS hgb)) hgx');have HKH:=hI (HSTP.out _ _ _ HKYG.out);have HRH:=hI (HSTP.out _ _ _ HRTG.out);have HOH:=hI (HSTP.out _ _ _ HOL.out);have hzh:wh.heap.size=wg.heap.size:=(by simpa using hsb);have e0:wh.cell? ⟨xb,0,none⟩=some (.int .i64 (t:Int)):=Zaa HMH.out.xc 0 _ rfl;have e1:wh.cell? ⟨xb,1,none⟩=some (.slice OA old.length oc):=Zaa HMH.out.xc 1 _ rfl;have e2:wh.cell? ⟨xb,2,none⟩=some (.slice none 0 0):=Zaa HMH.out.xc 2 _ rfl;have g2:wh.frozen? ⟨xb,2,none⟩=false:=(by simp [World.frozen?,HMH.out.xc]);have hlh:xb<wh.heap.size:=Zae HMH.out.xc
       have HCH:=hI (show ∀ new:Row,new=(if bw then rw_ else [])→Zat s m ⟨t,old,new⟩=true∧ZcW s ⟨t,old,new⟩ (cur.getD t [])=true∧keyC s ⟨t,old,new⟩=key from fun new hn=>by
        have h9:=chg_ok HGS.out.wide HCO.out htl HFR.out (b:=bw) (x:=⟨t,old,new⟩) (by rw [HKQ.out,HOQ.out];intro e9;cases bw;{ exact absurd (by rw [e9];rfl) (hbw rfl) };rfl) (by rw [HKQ.out,HOQ.out,hn]);rw [HKQ.out] at h9;exact h9)
       clear hcb hgb hsb c0 c1 c2 f1 f2 hlg hlg1 hzh HSTP hbw;go_upto_if 105 with fail
       go_cut [] (fun W=>∃ (NA:Option Addr) (new:Row) (nc:Nat),Mid w2 W g xb [.int .i64 (t:Int),.slice OA old.length oc,.slice NA new.length nc]∧RowT W xb KA kc key∧RowT W xb OA oc old∧RowT W xb NA nc new∧(Zat s m ⟨t,old,new⟩=true∧ZcW s ⟨t,old,new⟩ (cur.getD t [])=true∧keyC s ⟨t,old,new⟩=key))
       case first =>
        cases bw
        · go_wp2_with fail
          go_meet;exact⟨none,[],0,HMH.out,HKH.out,HOH.out,RowT.nil_,HCH.out _ rfl⟩
        · go_wp2_with fail
          go_meet;exact⟨RA',rw_,rc,HMH.out.set 2 (.slice RA' rw_.length rc) hgx' hxz,HKH.out.step (Fr.or_set (g:=g) (xb:=xb) 2 (.slice RA' rw_.length rc)) hgx',HOH.out.step (Fr.or_set (g:=g) (xb:=xb) 2 (.slice RA' rw_.length rc)) hgx',HRH.out.step (Fr.or_set (g:=g) (xb:=xb) 2 (.slice RA' rw_.length rc)) hgx',HCH.out _ rfl⟩
       case rest =>
        obtain⟨NA,new,nc,hmn,hkn,hon,hnn,hch⟩:=hcut;obtain⟨wn,rfl⟩:∃ wn:World,wn=wc:=⟨_,rfl⟩;clear HMH HKH HRH HOH HCH e0 e1 e2 g2 hlh HMG1;have HMN:=hI hmn;have HKN:=hI hkn;have HON:=hI hon;have HNN:=hI hnn;have HCH:=hI hch;clear hmn hkn hon hnn hch;have n0:wn.cell? ⟨xb,0,none⟩=some (.int .i64 (t:Int)):=Zaa HMN.out.xc 0 _ rfl;have n1':wn.cell? ⟨xb,1,none⟩=some (.slice OA old.length oc):=Zaa HMN.out.xc 1 _ rfl;have n2':wn.cell? ⟨xb,2,none⟩=some (.slice NA new.length nc):=Zaa HMN.out.xc 2 _ rfl;have hown:∀ b,some b=(Value.slice A l.length c).ownBlock→B0≤b∧b<xb:=(fun b e=>by have:=HI2.out.mkl.base_le e.symm;omega);have hln:xb<wn.heap.size:=Zae HMN.out.xc;have HIN:=hI (HI2.out.keep HMN.out.fr HMN.out.case hgl HSG.out);have HTB:=hI (show ∀ b,(xb<b∧b<wn.heap.size)→False∨Beh B0 wn (.slice A l.length c) b from fun b hb=>.inr ⟨by omega,hb.2,fun e=>by have:=(HI2.out.mkl.base_le e.symm).2;have:=hb.1;omega⟩)
        go_wp2_with (at_builtin;refine wpList_append_mkf rfl (.tmp 108) (.tmp 110) 48 rfl B0 (fun _=>False) 53 i0 _ 3 56 Try.underlying48 hi hz0 hz1 hz2 rfl (by decide) _ _ _ _ _ HIN.out.mkl rfl (Zan (⟨t,old,new⟩:Chg)) #[.int .i64 (t:Int),.slice OA old.length oc,.slice NA new.length nc] (ZcO ⟨HON.out.1,HON.out.2.more HTB.out⟩ ⟨HNN.out.1,HNN.out.2.more HTB.out⟩) (Zee _) (Zbj _) 1 rfl (by omega) (by omega) ?_;intro g7 cap7 wl hm7 hb7 hlt7 hf7 hat7;have HM7:=hI hm7;have HF7:=hI hf7;have HAT7:=hI hat7;have hz7:=hf7.size;have v0:=(hf7.cell (b:=w.heap.size) (o:=0) (by omega) (fun e=>by have:=hown _ e;omega)).trans HIN.out.b0;have v1:=(hf7.cell (b:=w.heap.size) (o:=1) (by omega) (fun e=>by have:=hown _ e;omega)).trans HIN.out.b1;have v2:=(hf7.cell (b:=w.heap.size+1) (o:=0) (by omega) (fun e=>by have:=hown _ e;omega)).trans HIN.out.s0;have v5:=(hf7.frozenF (b:=w.heap.size+1) (o:=0) (by omega) (fun e=>by have:=hown _ e;omega)).trans HIN.out.sf;have v3:=(hf7.cell (b:=xb) (o:=0) (by omega) (fun e=>by have:=hown _ e;omega)).trans n0;have v4:=(hf7.cell (b:=xb) (o:=2) (by omega) (fun e=>by have:=hown _ e;omega)).trans n2';clear hm7 hb7 hlt7 hf7 hat7)
        have HL:=hI (HIN.out.push (x:=(⟨t,old,new⟩:Chg)) hgl HSG.out HM7.out HF7.out HAT7.out);have HXL:=hI ((HF7.out.block xb (Zae HMN.out.xc) (fun e=>by have:=hown _ e;omega)).trans HMN.out.xc);have HKL:=hI (show RowT wl xb KA kc key from ⟨HKN.out.1,(HKN.out.2.keep (HF7.out.same (fun b hb=>⟨hb.2,fun e=>by have:=hown _ e;have:=hb.1;omega⟩))).more (fun b hb=>⟨hb.1,by have:=hb.2;omega⟩)⟩);have HNL:=hI (show RowT wl xb NA nc (new) from ⟨HNN.out.1,(HNN.out.2.keep (HF7.out.same (fun b hb=>⟨hb.2,fun e=>by have:=hown _ e;have:=hb.1;omega⟩))).more (fun b hb=>⟨hb.1,by have:=hb.2;omega⟩)⟩);have hTL:∀ b,(xb<b∧b<wl.heap.size)→some b≠(Value.slice (some ⟨g7,0,none⟩) (l++[(⟨t,old,new⟩:Chg)]).length cap7).ownBlock→(S b∨(w.heap.size+3≤b∧b<B0∧b≠gt)∨Beh B0 wl (.slice (some ⟨g7,0,none⟩) (l++[(⟨t,old,new⟩:Chg)]).length cap7) b):=fun b hb hne=>.inr (.inr ⟨by omega,hb.2,hne⟩)
        have hg7n:∀ b,(xb<b∧b<wn.heap.size)→some b≠(Value.slice (some ⟨g7,0,none⟩) (l++[(⟨t,old,new⟩:Chg)]).length cap7).ownBlock:=fun b hb e=>by
         have e9:b=g7:=(by simpa [Value.ownBlock] using e);rcases HAT7.out with h9 | h9
         · have:=hown g7 h9.symm;omega
         · omega
        have hput:=Zgp (some ⟨bT,oT,none⟩) c0' s gt cc cur t KA kc key NA nc (new) (fun b=>S b∨(w.heap.size+3≤b∧b<B0∧b≠gt)∨Beh B0 wl (.slice (some ⟨g7,0,none⟩) (l++[(⟨t,old,new⟩:Chg)]).length cap7) b) wl ((HS.out.keep (show Same S w wl from fun b hb=>(HL.out).gr.block b (hSw b hb) (fun e=>(HSG.out b hb).2 (by injection e)))).more (fun b hb=>.inl hb)) HL.out.stc (((HKN.out.2.keep (HF7.out.same (fun b hb=>⟨hb.2,fun e=>by have:=hown _ e;have:=hb.1;omega⟩))).more (fun b hb=>hTL b ⟨hb.1,by have:=hb.2;omega⟩ (hg7n b hb)))) (((HNN.out.2.keep (HF7.out.same (fun b hb=>⟨hb.2,fun e=>by have:=hown _ e;have:=hb.1;omega⟩))).more (fun b hb=>hTL b ⟨hb.1,by have:=hb.2;omega⟩ (hg7n b hb)))) htl htc (by have:=ZbO cur t;have:=HCT.out;omega) (by have:=HCL.out;omega);rw [HCL.out] at hput;have HPUT:=hI hput;have hzl:xb<wl.heap.size:=Zae HXL.out;clear hput hTL hg7n hown;have hlw3:w.heap.size+3<wl.heap.size:=(by omega);refine HPUT.out.mono ?_;rintro e wp ⟨rfl,hstp,hfp⟩;have HSTP:=hI hstp;have HFP:=hI hfp;have hzp:=hfp.size;have tf:=(hfp.frozenF (b:=w.heap.size+1) (o:=0) (by show _<wl.heap.size;omega) (by omega)).trans v5;have tc:=(hfp.cell (b:=w.heap.size+1) (o:=0) (by show _<wl.heap.size;omega) (by omega)).trans v2;clear hstp hfp v0 v1 v2 v3 v4 v5;have HF:=hI (HL.out.put hgl HSG.out HSTP.out HFP.out);have HPE:=hI (put_chg HCO.out htc (x:=(⟨t,old,new⟩:Chg)) rfl HCH.out.2.2)
        go_wp2_with fail
        go_roundw
        case rel =>
         have hf9:=HF.out;rw [show (new)=(⟨t,old,new⟩:Chg).new from rfl,HPE.out] at hf9;exact⟨n1,l++[(⟨t,old,new⟩:Chg)],some ⟨g7,0,none⟩,cap7,_,by simp;omega,by simp,by go_num,hf9,(Zge HCO.out HCH.out.1).1,Fit.snoc HFI.out HCH.out.1 (by rw [←HAF.out];exact HCH.out.2.1),by rw [after_snoc,←HAF.out]⟩
        case measure=>(simp [intOf];try omega)
structure Kp (g:Nat) (w w':World):Prop where
 sz:w.heap.size≤w'.heap.size
 blk:∀ b,b<w.heap.size→b≠g→w'.heap[b]?=w.heap[b]?
abbrev LtG (w:World) (g:Nat):Nat→Prop:=fun b=>b<w.heap.size∧b≠g
def Bx (w:World) (g b:Nat) (vs:Array Value) (t:TypeId):Prop:=w.heap[b]?=some (.cells vs t (0,0))∧b≠g
section
variable {g:Nat} {w w':World} {A:Option Addr}
theorem Kp.below (h:Below w.heap.size w w'):Kp g w w':=⟨h.size,fun b hb _=>h.block b hb⟩
theorem Kp.grown (h:w.grownBy w' (some g)):Kp g w w':=⟨h.size,fun b hb hn=>h.block b hb (fun e=>by injection e with e;exact hn e)⟩
theorem Kp.lt (k:Kp g w w'):∀ b,LtG w g b→LtG w' g b:=fun b hb=>⟨by have:=k.sz;have:=hb.1;omega,hb.2⟩
theorem Kp.sl {l:List Dat} (k:Kp g w w') (h:Sl w (LtG w g) A l):Sl w' (LtG w' g) A l:=Sl.more (Sl.keep h (fun b hb=>k.blk b hb.1 hb.2)) k.lt
theorem Kp.tab {l:List Tab} (k:Kp g w w') (h:TabS w (LtG w g) A l):TabS w' (LtG w' g) A l:=k.sl h
theorem Kp.st {l:St} (k:Kp g w w') (h:StS w (LtG w g) A l):StS w' (LtG w' g) A l:=k.sl h
theorem Kp.ch {l:List Chg} (k:Kp g w w') (h:ChgS w (LtG w g) A l):ChgS w' (LtG w' g) A l:=k.sl h
theorem Kp.bx {b:Nat} {vs:Array Value} {t:TypeId} (k:Kp g w w') (h:Bx w g b vs t):Bx w' g b vs t:=⟨(k.blk b (Zae h.1) h.2).trans h.1,h.2⟩
theorem Bx.lt {b:Nat} {vs:Array Value} {t:TypeId} (h:Bx w g b vs t):b<w.heap.size:=Zae h.1
theorem Bx.at_ {b:Nat} {vs:Array Value} {t:TypeId} (h:Bx w g b vs t) (j:Nat) (u:Value) (hu:vs.toList[j]?=some u):w.cell? ⟨b,j,none⟩=some u:=by
 have:=Zaa h.1 j u hu;rwa [Nat.zero_add] at this
end
def Alike (v v':Value):Prop:=v'=v∨(∃ a b,v=.int .i64 a∧v'=.int .i64 b)∨(∃ a b,v=.string a∧v'=.string b)
structure Wrt (B:Nat) (w w':World):Prop where
 bel:Below B w w'
 cell:∀ b k v,w.cell? ⟨b,k,none⟩=some v→∃ v',w'.cell? ⟨b,k,none⟩=some v'∧Alike v v'
 fl:∀ b,Fl w b→Fl w' b
section
variable {B:Nat} {w w':World}
theorem Wrt.refl (B:Nat) (w:World):Wrt B w w:=⟨Below.refl _ _,fun _ _ v h=>⟨v,h,.inl rfl⟩,fun _ h=>h⟩
theorem Wrt.slice (h:Wrt B w w') {b k n c:Nat} {A:Option Addr} (hc:w.cell? ⟨b,k,none⟩=some (.slice A n c)):w'.cell? ⟨b,k,none⟩=some (.slice A n c):=by
 obtain⟨v',h1,h2⟩:=h.cell b k _ hc;rcases h2 with rfl | ⟨x,y,e,_⟩ | ⟨x,y,e,_⟩
 · exact h1
 · cases e
 · cases e
theorem fl_set {w:World} {b b' k:Nat} {u:Value} (h:Fl w b):Fl (w.setCell ⟨b',k,none⟩ u) b:=by
 obtain⟨cs,t,h⟩:=h;obtain⟨vs⟩:=cs
 by_cases e:b'=b
 · subst e;exact⟨_,_,Zah h⟩
 · exact⟨_,_,(Below.heap_setCell w ⟨b',k,none⟩ u b (fun h'=>e h'.symm)).trans h⟩
theorem Wrt.set (h:Wrt B w w') {b k:Nat} {v u:Value} (hb:B≤b) (hc:w.cell? ⟨b,k,none⟩=some v) (hv:Alike v u):Wrt B w (w'.setCell ⟨b,k,none⟩ u):=by
 refine⟨h.bel.setCell (p:=⟨b,k,none⟩) hb _,fun b' k' v' h'=>?_,fun b' hb'=>fl_set (h.fl b' hb')⟩
 by_cases e:b'=b∧k'=k
 · obtain⟨rfl,rfl⟩:=e;rw [hc] at h';injection h' with h';subst h';obtain⟨v1,h1,-⟩:=h.cell b' k' _ hc;exact⟨u,World.cell?_setCell_same _ _ _ h1,hv⟩
 · obtain⟨v1,h1,h2⟩:=h.cell b' k' v' h';refine⟨v1,?_,h2⟩;rw [World.cell?_setCell_other _ _ _ _ (fun e'=>e ⟨(congrArg Addr.block e').symm,(congrArg Addr.off e').symm⟩)];exact h1
end
theorem ZeR:∀ (r:Row) (k:Nat),k<r.length→(Zak r)[k*3]?=some (.int .i64 (r.getD k v0).k)∧(Zak r)[k*3+1]?=some (.int .i64 (r.getD k v0).i)∧(Zak r)[k*3+2]?=some (.string (r.getD k v0).t)
 | [],k,h=>by simp at h
 | v :: r,0,_=>⟨rfl,rfl,rfl⟩
 | v :: r,k+1,h=>by
  have:=ZeR r k (by simpa using h);rw [show (k+1)*3=k*3+1+1+1 by omega];simpa [Zak] using this
theorem fresh_walk (a:Option Addr) (len cap0:Nat) (zs:List Int) (w:World) (hrow:Zht .u8 w a len cap0 zs) :
  Calls Try.prog 6 #[.slice a len cap0] w (ZaN true w):=by
 have HROW:=hI hrow;clear hrow;go_enter Try.func6,Try.ntmps6
 go_wp2_with fail
 refine(new_any a len cap0 zs 160 _ (by omega) HROW.out).mono ?_;rintro e w1 ⟨g,rfl,hg0,hc1,hb1⟩;have HC:=hI hc1;have HB:=hI hb1;have hz1:=hb1.size;clear hc1 hb1 HROW
 go_wp2_with fail
 refine(schema_any g _ HC.out).mono ?_;rintro e w2 ⟨s,A0,c0',rfl,hgs,hcap,hts,hc2,hg2⟩;have hsl:=hgs.len;have HGS:=hI hgs;have HTS':=hI (show TabS w2 (LtG w2 g) A0 s.tabs from hts.more (fun b hb=>⟨hb.2,by have:=HC.out.lt;have:=hb.1;omega⟩));have hkw2:=Kp.grown (g:=g) hg2;have HB:=hI (Zdh HB.out hg2 hg0 HB.out.size);have hzw2:w1.heap.size≤w2.heap.size:=hkw2.sz;clear hkw2;have HTS:=HTS';have HC:=hI hc2;clear HTS' hgs hts hc2 hg2 hcap;obtain⟨w3,hw3⟩:∃ w3,w2.alloc (.cells #[.int .i64 s.version,.slice A0 s.tabs.length c0'] 25)=w3:=⟨_,rfl⟩;have hbw3:Below w2.heap.size w2 w3:=(by rw [←hw3];exact(Below.refl _ _).alloc nR _);obtain⟨sb,hsb⟩:∃ sb,w2.heap.size=sb:=⟨_,rfl⟩;have SB':=hI (show Bx w3 g sb #[.int .i64 s.version,.slice A0 s.tabs.length c0'] 25 from ⟨by rw [←hw3,←hsb];exact heap_alloc_new w2 _,by have:=HC.out.lt;omega⟩);have hkw3:=Kp.below (g:=g) hbw3;have HTS:=hI (hkw3.tab HTS.out);have HB:=hI (HB.out.trans (hbw3.mono HB.out.size));have HC:=hI (HC.out.keep (fun b hb'=>hbw3.block b (by have:=HC.out.lt;omega)));have hzw3:w2.heap.size≤w3.heap.size:=hkw3.sz;clear hkw3;have SB:=SB';clear SB' hbw3;have s0:w3.cell? ⟨sb,0,none⟩=some (.int .i64 s.version):=SB.out.at_ 0 _ rfl;have s1:w3.cell? ⟨sb,1,none⟩=some (.slice A0 s.tabs.length c0'):=SB.out.at_ 1 _ rfl;have sl:sb<w3.heap.size:=SB.out.lt
 go_wp2_with fail
 try rw [hw3]
 try rw [hsb]
 clear hw3 hsb;clear s0 s1 sl;refine(state_any g A0 c0' s 1 (LtG w3 g) _ HTS.out (fun b hb=>hb) HGS.out rfl HC.out).mono ?_;rintro e w5 ⟨gt,st,rfl,hso,hs4,hgt,hstc,hc5,hg5⟩;have HSO:=hI hso;have hstl:st.length≤4:=(by have h8:=hso.1;omega);have hstt:st.length=s.tabs.length:=hso.1;have HSTT:=hI hstt;have hc16:Zal st≤16:=(by have h9:=ZfZ st 4 hs4;omega);have HC16:=hI hc16;have HST':=hI (show StS w5 (LtG w5 g) (some ⟨gt,0,none⟩) st from hstc.slice (by have h8:=hso.1;omega) (fun b hb=>by have h9:=HC.out.lt;have h7:=hg5.size;rcases hb with hb | hb;{ exact⟨by have:=hb.1;omega,hb.2⟩ };exact⟨hb.2,by have:=hb.1;omega⟩) ⟨hstc.lt,by have:=HC.out.lt;omega⟩);have hkw5:=Kp.grown (g:=g) hg5;have HTS:=hI (hkw5.tab HTS.out);have SB:=hI (hkw5.bx SB.out);have HB:=hI (Zdh HB.out hg5 hg0 HB.out.size);have hzw5:w3.heap.size≤w5.heap.size:=hkw5.sz;clear hkw5;have HST:=HST';have HC:=hI hc5;clear HST' hso hs4 hstc hc5 hg5 hgt hstt hc16;obtain⟨w6,hw6⟩:∃ w6,w5.alloc (.cells #[.slice (some ⟨gt,0,none⟩) st.length st.length] 56)=w6:=⟨_,rfl⟩;have hbw6:Below w5.heap.size w5 w6:=(by rw [←hw6];exact(Below.refl _ _).alloc nR _);obtain⟨tb,htb⟩:∃ tb,w5.heap.size=tb:=⟨_,rfl⟩;have TB':=hI (show Bx w6 g tb #[.slice (some ⟨gt,0,none⟩) st.length st.length] 56 from ⟨by rw [←hw6,←htb];exact heap_alloc_new w5 _,by have:=HC.out.lt;omega⟩);have hkw6:=Kp.below (g:=g) hbw6;have HTS:=hI (hkw6.tab HTS.out);have SB:=hI (hkw6.bx SB.out);have HST:=hI (hkw6.st HST.out);have HB:=hI (HB.out.trans (hbw6.mono HB.out.size));have HC:=hI (HC.out.keep (fun b hb'=>hbw6.block b (by have:=HC.out.lt;omega)));have hzw6:w5.heap.size≤w6.heap.size:=hkw6.sz;clear hkw6;have TB:=TB';clear TB' hbw6;have s0:w6.cell? ⟨sb,0,none⟩=some (.int .i64 s.version):=SB.out.at_ 0 _ rfl;have s1:w6.cell? ⟨sb,1,none⟩=some (.slice A0 s.tabs.length c0'):=SB.out.at_ 1 _ rfl;have sl:sb<w6.heap.size:=SB.out.lt;have t0:w6.cell? ⟨tb,0,none⟩=some (.slice (some ⟨gt,0,none⟩) st.length st.length):=TB.out.at_ 0 _ rfl;have tl:tb<w6.heap.size:=TB.out.lt
 go_wp2_with fail
 try rw [hw6]
 try rw [htb]
 clear hw6 htb;clear s0 s1 sl t0 tl;refine(changes_any g A0 c0' s 1 (some ⟨gt,0,none⟩) st.length st 5 (LtG w6 g) w6 HTS.out HST.out (fun b hb=>hb) HGS.out rfl HSO.out (by have:=HC16.out;omega) (by omega) HC.out).mono ?_;rintro e w7 ⟨B0,gt2,cap,l,AL,cl,rfl,hcap,hl5,hfit,hmk,hst2,hgt2,hgtB,hc7,hg7⟩;have HFIT:=hI hfit;have hgl7:g<B0:=(by have:=HC.out.lt;omega);obtain⟨-,hlc,hlS⟩:=hmk.slice (by rw [Zag (n:=56) (fun _=>rfl)];omega);have HCH':=hI (show ChgS w7 (LtG w7 g) AL l from Sl.more hlS (fun b hb=>by rcases hb with hb | hb;{ exact hb.elim };exact⟨hb.2,by have:=hb.1;omega⟩))
 have HAF':=hI (show StS w7 (LtG w7 g) (some ⟨gt2,0,none⟩) (after s st l) from hst2.slice (by rw [ZeN];omega) (fun b hb=>by
  have h9:=(hst2.mem b hb).1;have h8:=HC.out.lt;rcases hb with hb | hb | hb
  · exact⟨h9,hb.2⟩
  · exact⟨h9,by have:=hb.1;omega⟩
  · exact⟨h9,by have:=hb.1;omega⟩) ⟨hst2.lt,by have:=HC.out.lt;omega⟩)
 have hap:Zcc 0 s 1 st l=(0,after s st l):=by
  have hk:=HSO.out.check (m:=1) rfl (by have:=HC16.out;omega);unfold Zcc;rw [hk,if_neg (by simp)];exact ZfW HSO.out hfit (by have:=HC16.out;omega)
 have hal:(after s st l).length=st.length:=ZeN _ _;obtain⟨af,hAF⟩:∃ af,after s st l=af:=⟨_,rfl⟩;rw [hAF] at hap hal HAF';have HAP:=hI hap;have HAL:=hI hal;clear hAF hap hal;have hkw7:=Kp.grown (g:=g) hg7;have HTS:=hI (hkw7.tab HTS.out);have SB:=hI (hkw7.bx SB.out);have HST:=hI (hkw7.st HST.out);have TB:=hI (hkw7.bx TB.out);have HB:=hI (Zdh HB.out hg7 hg0 HB.out.size);have hzw7:w6.heap.size≤w7.heap.size:=hkw7.sz;clear hkw7;have HCH:=HCH';have HAF:=HAF';have HC:=hI hc7;clear HCH' HAF' hfit hmk hlS hc7 hg7 hgt2 hgtB hgl7 hst2;rw [←HAL.out] at hcap;obtain⟨w8,hw8⟩:∃ w8,w7.alloc (.cells #[.slice (some ⟨gt2,0,none⟩) st.length cap] 56)=w8:=⟨_,rfl⟩;have hbw8:Below w7.heap.size w7 w8:=(by rw [←hw8];exact(Below.refl _ _).alloc nR _);obtain⟨ab,hab⟩:∃ ab,w7.heap.size=ab:=⟨_,rfl⟩;have AB':=hI (show Bx w8 g ab #[.slice (some ⟨gt2,0,none⟩) st.length cap] 56 from ⟨by rw [←hw8,←hab];exact heap_alloc_new w7 _,by have:=HC.out.lt;omega⟩);have hkw8:=Kp.below (g:=g) hbw8;have HTS:=hI (hkw8.tab HTS.out);have SB:=hI (hkw8.bx SB.out);have HST:=hI (hkw8.st HST.out);have TB:=hI (hkw8.bx TB.out);have HCH:=hI (hkw8.ch HCH.out);have HAF:=hI (hkw8.st HAF.out);have HB:=hI (HB.out.trans (hbw8.mono HB.out.size));have HC:=hI (HC.out.keep (fun b hb'=>hbw8.block b (by have:=HC.out.lt;omega)));have hzw8:w7.heap.size≤w8.heap.size:=hkw8.sz;clear hkw8;have AB:=AB';clear AB' hbw8;have t0:w8.cell? ⟨tb,0,none⟩=some (.slice (some ⟨gt,0,none⟩) st.length st.length):=TB.out.at_ 0 _ rfl;have tl:tb<w8.heap.size:=TB.out.lt
 go_wp2_with fail
 try rw [hw8]
 try rw [hab]
 clear hw8 hab;clear t0 tl;have hgc:=HC.out.lt;refine(Zeu (some ⟨gt,0,none⟩) st.length st (LtG w8 g) w8 HST.out (fun b hb=>hb.1)).mono ?_;rintro e w9 ⟨WA,cw,rfl,hmk,hb9⟩;have hcw:=(hmk.slice (by rw [Zag (n:=24) (fun _=>rfl),];omega)).2.1;have HWS':=hI (show StS w9 (LtG w9 g) WA st from Sl.more (hmk.slice (by rw [Zag (n:=24) (fun _=>rfl)];omega)).2.2 (fun b hb=>by rcases hb with hb | hb;{ exact hb.elim };exact⟨hb.2,by have:=hb.1;omega⟩));clear hmk;have hkw9:=Kp.below (g:=g) hb9;have HTS:=hI (hkw9.tab HTS.out);have SB:=hI (hkw9.bx SB.out);have HST:=hI (hkw9.st HST.out);have TB:=hI (hkw9.bx TB.out);have HCH:=hI (hkw9.ch HCH.out);have HAF:=hI (hkw9.st HAF.out);have AB:=hI (hkw9.bx AB.out);have HB:=hI (HB.out.trans (hb9.mono HB.out.size));have hzw9:w8.heap.size≤w9.heap.size:=hkw9.sz;clear hkw9;have HWS:=HWS';clear HWS' hb9;obtain⟨wA,hwA⟩:∃ wA,w9.alloc (.cells #[.slice WA st.length cw] 56)=wA:=⟨_,rfl⟩;have hbwA:Below w9.heap.size w9 wA:=(by rw [←hwA];exact(Below.refl _ _).alloc nR _);obtain⟨wb,hwb⟩:∃ wb,w9.heap.size=wb:=⟨_,rfl⟩;have WB':=hI (show Bx wA g wb #[.slice WA st.length cw] 56 from ⟨by rw [←hwA,←hwb];exact heap_alloc_new w9 _,by have:=hgc;omega⟩);have hkwA:=Kp.below (g:=g) hbwA;have HTS:=hI (hkwA.tab HTS.out);have SB:=hI (hkwA.bx SB.out);have HST:=hI (hkwA.st HST.out);have TB:=hI (hkwA.bx TB.out);have HCH:=hI (hkwA.ch HCH.out);have HAF:=hI (hkwA.st HAF.out);have AB:=hI (hkwA.bx AB.out);have HWS:=hI (hkwA.st HWS.out);have HB:=hI (HB.out.trans (hbwA.mono HB.out.size));have hzwA:w9.heap.size≤wA.heap.size:=hkwA.sz;clear hkwA;have WB:=WB';clear WB' hbwA;have s0:wA.cell? ⟨sb,0,none⟩=some (.int .i64 s.version):=SB.out.at_ 0 _ rfl;have s1:wA.cell? ⟨sb,1,none⟩=some (.slice A0 s.tabs.length c0'):=SB.out.at_ 1 _ rfl;have sl:sb<wA.heap.size:=SB.out.lt;have t0:wA.cell? ⟨tb,0,none⟩=some (.slice (some ⟨gt,0,none⟩) st.length st.length):=TB.out.at_ 0 _ rfl;have tl:tb<wA.heap.size:=TB.out.lt
 go_wp2_with fail
 try rw [hwA]
 try rw [hwb]
 clear hwA hwb;clear s0 s1 sl t0 tl;have hcl:=ZeK pcF A0 c0' s 1 (some ⟨gt,0,none⟩) st.length st AL cl l (LtG wA g) wA HTS.out HST.out HCH.out (fun b hb=>hb.1) (ZfL s) (by have:=HC16.out;omega);rw [HGS.out.check,HAP.out] at hcl;refine(show Calls _ _ _ _ _ from hcl).mono ?_;rintro e wB ⟨AX,cx,rfl,-,hax,hbB⟩;clear hcl;have HAX:=hI (show StS wB (NewF wA wB) AX af from hax);clear hax;have HBB:=hI hbB;have HTSo:=HTS;have HSTo:=HST;have HCHo:=HCH;have HAFo:=HAF;have HWSo:=HWS;have SBo:=SB;have TBo:=TB;have ABo:=AB;have WBo:=WB;have HBo:=HB;have hkwB:=Kp.below (g:=g) hbB;have HTS:=hI (hkwB.tab HTS.out);have SB:=hI (hkwB.bx SB.out);have HST:=hI (hkwB.st HST.out);have TB:=hI (hkwB.bx TB.out);have HCH:=hI (hkwB.ch HCH.out);have HAF:=hI (hkwB.st HAF.out);have AB:=hI (hkwB.bx AB.out);have HWS:=hI (hkwB.st HWS.out);have WB:=hI (hkwB.bx WB.out);have HB:=hI (HB.out.trans (hbB.mono HB.out.size));have hzwB:wA.heap.size≤wB.heap.size:=hkwB.sz;clear hkwB;clear hbB;dsimp only;obtain⟨wC,hwC⟩:∃ wC,wB.alloc (.cells #[.slice AX af.length cx] 56)=wC:=⟨_,rfl⟩;have hbC:Below wB.heap.size wB wC:=(by rw [←hwC];exact(Below.refl _ _).alloc nR _);obtain⟨xb,hxb⟩:∃ xb,wB.heap.size=xb:=⟨_,rfl⟩;have XB0:=hI (show wC.cell? ⟨xb,0,none⟩=some (.slice AX af.length cx) from by rw [←hwC,←hxb];exact Zad rfl rfl);have HAXC:=hI (show StS wC (fun b=>wA.heap.size≤b∧Fl wC b) AX af from (HAX.out.keep (fun b hb=>hbC.block b hb.2.1)).more (fun b hb=>⟨hb.1,hb.2.2.keep (hbC.block b hb.2.1)⟩));have HBC:=hI (HBB.out.trans (hbC.mono HBB.out.size));clear hbC HAX HBB;clear HTS;clear HST;clear HCH;clear HAF;clear HWS;clear SB;clear TB;clear AB;clear WB;have x0:=XB0.out;have hafl:af.length≤4:=by have:=HAL.out;omega
 go_wp2_with fail
 try rw [hwC]
 try rw [hxb]
 clear hwC hxb x0
 go_loopw [42] (fun i wr=>∃ k:Nat,k≤af.length∧i=.int .i64 k∧Wrt wA.heap.size wC wr) (fun i _=>af.length - (intOf i).toNat)
 case atStart=>exact⟨0,Nat.zero_le _,rfl,Wrt.refl _ _⟩
 case round =>
  obtain⟨k,hk,rfl,hw⟩:=hrel;have HW:=hI hw;clear hw
  by_cases hkl:k<af.length
  · have hdk:decide (k<af.length)=true:=decide_eq_true hkl;have hk0:(0:Int)≤(k:Int):=(by omega);have hki:(k:Int)<af.length:=(by omega);obtain⟨b2,o2,rfl,hb2,RA,rc,d1,d2,d3⟩:=HAXC.out.at_ hkl;obtain⟨rows,hrows⟩:∃ rows,af.getD k []=rows:=⟨_,rfl⟩;rw [hrows] at d1 d2 d3;have hrl:=d3.len;have HRW:=hI d3;have D1:=hI d1;clear d2 d3 hrows hb2 d1;have x0:=HW.out.slice XB0.out;have d1:=HW.out.slice D1.out
    go_wp2_with fail
    clear x0 d1
    go_loopw [51] (fun i wr=>∃ j:Nat,j≤rows.length∧i=.int .i64 j∧Wrt wA.heap.size wC wr) (fun i _=>rows.length - (intOf i).toNat)
    case atStart=>exact⟨0,Nat.zero_le _,rfl,HW.out⟩
    case round =>
     clear HW;obtain⟨j,hj,rfl,hw⟩:=hrel;have HW:=hI hw;clear hw
     by_cases hjl:j<rows.length
     · have hdj:decide (j<rows.length)=true:=decide_eq_true hjl;have hj0':(0:Int)≤(j:Int):=(by omega);have hji:(j:Int)<rows.length:=(by omega);obtain⟨b5,o5,rfl,hb5,A5,c5,f1,f2,f3⟩:=RowsS.at_ HRW.out hjl;obtain⟨row,hrow⟩:∃ row,rows.getD j []=row:=⟨_,rfl⟩;rw [hrow] at f1 f2 f3;have hrwl:=f3.len;have HRO:=hI f3;have F1:=hI f1;clear hrow f2 f3 hb5 f1;have x0:=HW.out.slice XB0.out;have d1:=HW.out.slice D1.out;have f1:=HW.out.slice F1.out
       go_wp2_with fail
       clear x0 d1 f1
       go_loopw [63] (fun i wr=>∃ q:Nat,q≤row.length∧i=.int .i64 q∧Wrt wA.heap.size wC wr) (fun i _=>row.length - (intOf i).toNat)
       case atStart=>exact⟨0,Nat.zero_le _,rfl,HW.out⟩
       case round =>
        clear HW;obtain⟨q,hq,rfl,hw⟩:=hrel;have HW:=hI hw;clear hw
        by_cases hql:q<row.length
        · have hdq:decide (q<row.length)=true:=decide_eq_true hql;have hq0:(0:Int)≤(q:Int):=(by omega);have hqi:(q:Int)<row.length:=(by omega);obtain⟨b6,o6,rfl,hb6,hc6⟩:=HRO.out.vals (by omega);have hb60:=hb6.1;have HF6:=hI hb6.2;obtain⟨v1,v2,v3⟩:=ZeR row q hql;have g0:wC.cell? ⟨b6,o6+q*3,none⟩=_:=(congrArg _ (ZbR b6 o6 (q*3)).symm).trans (hc6 _ _ v1);have g1:wC.cell? ⟨b6,o6+q*3+1,none⟩=_:=(congrArg _ (ZbR b6 o6 (q*3+1)).symm).trans (hc6 _ _ v2);have g2:wC.cell? ⟨b6,o6+q*3+2,none⟩=_:=(congrArg _ (ZbR b6 o6 (q*3+2)).symm).trans (hc6 _ _ v3);have G0:=hI g0;have G1:=hI g1;have G2:=hI g2;obtain⟨y0,z0,-⟩:=HW.out.cell _ _ _ g0;obtain⟨y1,z1,-⟩:=HW.out.cell _ _ _ g1;obtain⟨y2,z2,-⟩:=HW.out.cell _ _ _ g2;clear g0 g1 g2 v1 v2 v3 hc6 hb6;have f0':=(HW.out.fl _ HF6.out).frozen (k:=o6+q*3);have f1':=(HW.out.fl _ HF6.out).frozen (k:=o6+q*3+1);have f2':=(HW.out.fl _ HF6.out).frozen (k:=o6+q*3+2);have x0:=HW.out.slice XB0.out;have d1:=HW.out.slice D1.out;have f1:=HW.out.slice F1.out
          go_wp2_with fail
          go_roundw
          case rel=>exact⟨q+1,by omega,by go_num,((HW.out.set hb60 G0.out (.inr (.inl ⟨_,_,rfl,rfl⟩))).set hb60 G1.out (.inr (.inl ⟨_,_,rfl,rfl⟩))).set hb60 G2.out (.inr (.inr ⟨_,_,rfl,rfl⟩))⟩
          case measure=>(simp [intOf];omega)
        · have hdq:decide (q<row.length)=false:=decide_eq_false hql
          go_wp2_with fail
          go_roundw
          case rel=>exact⟨j+1,by omega,by go_num,HW.out⟩
          case measure=>(simp [intOf];omega)
     · have hdj:decide (j<rows.length)=false:=decide_eq_false hjl
       go_wp2_with fail
       go_roundw
       case rel=>exact⟨k+1,by omega,by go_num,HW.out⟩
       case measure=>(simp [intOf];omega)
  · have hdk:decide (k<af.length)=false:=decide_eq_false hkl;have hbD:=HBC.out.trans HW.out.bel;have hkr:=Kp.below (g:=g) hbD;have hbw:Below w.heap.size w wr:=HBo.out.trans (hbD.mono HBo.out.size);have HB:=hI hbw;clear hbw HW HAXC XB0;have HTS:=hI (show TabS wr (LtG wr g) A0 s.tabs from hkr.tab HTSo.out);have HST:=hI (show StS wr (LtG wr g) (some ⟨gt,0,none⟩) st from hkr.st HSTo.out);have HCH:=hI (show ChgS wr (LtG wr g) AL l from hkr.ch HCHo.out);have HAF:=hI (show StS wr (LtG wr g) (some ⟨gt2,0,none⟩) af from hkr.st HAFo.out);have HWS:=hI (show StS wr (LtG wr g) WA st from hkr.st HWSo.out);have SB:=hI (show Bx wr g sb #[.int .i64 s.version,.slice A0 s.tabs.length c0'] 25 from hkr.bx SBo.out);have TB:=hI (show Bx wr g tb #[.slice (some ⟨gt,0,none⟩) st.length st.length] 56 from hkr.bx TBo.out);have AB:=hI (show Bx wr g ab #[.slice (some ⟨gt2,0,none⟩) st.length cap] 56 from hkr.bx ABo.out);have WB:=hI (show Bx wr g wb #[.slice WA st.length cw] 56 from hkr.bx WBo.out);have hgc:g<wr.heap.size:=(by have h5:=hkr.sz;omega);clear hkr hbD;have s0:wr.cell? ⟨sb,0,none⟩=some (.int .i64 s.version):=SB.out.at_ 0 _ rfl;have s1:wr.cell? ⟨sb,1,none⟩=some (.slice A0 s.tabs.length c0'):=SB.out.at_ 1 _ rfl;have sl:sb<wr.heap.size:=SB.out.lt;have t0:wr.cell? ⟨tb,0,none⟩=some (.slice (some ⟨gt,0,none⟩) st.length st.length):=TB.out.at_ 0 _ rfl;have tl:tb<wr.heap.size:=TB.out.lt
    go_wp2_with fail
    clear s0 s1 sl t0 tl;have hcl:=Zcm pcF A0 c0' s 1 (some ⟨gt,0,none⟩) st.length st AL cl l (LtG wr g) wr HTS.out HST.out HCH.out (fun b hb=>hb.1) (ZfL s) (by have:=HC16.out;omega);rw [HGS.out.check,HAP.out] at hcl;refine(show Calls _ _ _ _ _ from hcl).mono ?_;rintro e wS ⟨AY,cy,rfl,-,hay,hbS⟩;clear hcl;have HAY':=hI (show StS wS (LtG wS g) AY af from hay.more (fun b hb=>⟨hb.2,by have:=hb.1;omega⟩));clear hay;have hkwS:=Kp.below (g:=g) hbS;have HTS:=hI (hkwS.tab HTS.out);have HST:=hI (hkwS.st HST.out);have HCH:=hI (hkwS.ch HCH.out);have HAF:=hI (hkwS.st HAF.out);have HWS:=hI (hkwS.st HWS.out);have SB:=hI (hkwS.bx SB.out);have TB:=hI (hkwS.bx TB.out);have AB:=hI (hkwS.bx AB.out);have WB:=hI (hkwS.bx WB.out);have HB:=hI (HB.out.trans (hbS.mono HB.out.size));have hzwS:wr.heap.size≤wS.heap.size:=hkwS.sz;clear hkwS;have HAY:=HAY';clear HAY' hbS;dsimp only;obtain⟨wT,hwT⟩:∃ wT,wS.alloc (.cells #[.slice AY af.length cy] 56)=wT:=⟨_,rfl⟩;have hbwT:Below wS.heap.size wS wT:=(by rw [←hwT];exact(Below.refl _ _).alloc nR _);obtain⟨yb,hyb⟩:∃ yb,wS.heap.size=yb:=⟨_,rfl⟩;have YB':=hI (show Bx wT g yb #[.slice AY af.length cy] 56 from ⟨by rw [←hwT,←hyb];exact heap_alloc_new wS _,by have:=hgc;omega⟩);have hkwT:=Kp.below (g:=g) hbwT;have HTS:=hI (hkwT.tab HTS.out);have HST:=hI (hkwT.st HST.out);have HCH:=hI (hkwT.ch HCH.out);have HAF:=hI (hkwT.st HAF.out);have HWS:=hI (hkwT.st HWS.out);have SB:=hI (hkwT.bx SB.out);have TB:=hI (hkwT.bx TB.out);have AB:=hI (hkwT.bx AB.out);have WB:=hI (hkwT.bx WB.out);have HAY:=hI (hkwT.st HAY.out);have HB:=hI (HB.out.trans (hbwT.mono HB.out.size));have hzwT:wS.heap.size≤wT.heap.size:=hkwT.sz;clear hkwT;have YB:=YB';clear YB' hbwT;have y0:wT.cell? ⟨yb,0,none⟩=some (.slice AY af.length cy):=YB.out.at_ 0 _ rfl;have yl:yb<wT.heap.size:=YB.out.lt;have t0:wT.cell? ⟨tb,0,none⟩=some (.slice (some ⟨gt,0,none⟩) st.length st.length):=TB.out.at_ 0 _ rfl;have tl:tb<wT.heap.size:=TB.out.lt;have a0:wT.cell? ⟨ab,0,none⟩=some (.slice (some ⟨gt2,0,none⟩) st.length cap):=AB.out.at_ 0 _ rfl;have al:ab<wT.heap.size:=AB.out.lt;have b0:wT.cell? ⟨wb,0,none⟩=some (.slice WA st.length cw):=WB.out.at_ 0 _ rfl;have bl:wb<wT.heap.size:=WB.out.lt
    go_wp2_with fail
    try rw [hwT]
    try rw [hyb]
    clear hwT hyb;clear y0 yl t0 tl a0 al b0 bl;refine(begun8_any wT).mono ?_;rintro e wU ⟨rfl,hbU⟩;have hkwU:=Kp.below (g:=g) hbU;have HTS:=hI (hkwU.tab HTS.out);have HST:=hI (hkwU.st HST.out);have HCH:=hI (hkwU.ch HCH.out);have HAF:=hI (hkwU.st HAF.out);have HWS:=hI (hkwU.st HWS.out);have SB:=hI (hkwU.bx SB.out);have TB:=hI (hkwU.bx TB.out);have AB:=hI (hkwU.bx AB.out);have WB:=hI (hkwU.bx WB.out);have HAY:=hI (hkwU.st HAY.out);have YB:=hI (hkwU.bx YB.out);have HB:=hI (HB.out.trans (hbU.mono HB.out.size));have hzwU:wT.heap.size≤wU.heap.size:=hkwU.sz;clear hkwU;clear hbU;have y0:wU.cell? ⟨yb,0,none⟩=some (.slice AY af.length cy):=YB.out.at_ 0 _ rfl;have yl:yb<wU.heap.size:=YB.out.lt;have t0:wU.cell? ⟨tb,0,none⟩=some (.slice (some ⟨gt,0,none⟩) st.length st.length):=TB.out.at_ 0 _ rfl;have tl:tb<wU.heap.size:=TB.out.lt;have a0:wU.cell? ⟨ab,0,none⟩=some (.slice (some ⟨gt2,0,none⟩) st.length cap):=AB.out.at_ 0 _ rfl;have al:ab<wU.heap.size:=AB.out.lt;have b0:wU.cell? ⟨wb,0,none⟩=some (.slice WA st.length cw):=WB.out.at_ 0 _ rfl;have bl:wb<wU.heap.size:=WB.out.lt
    go_wp2_with fail
    clear y0 yl t0 tl a0 al b0 bl;have hcl:=ZfM (some ⟨gt,0,none⟩) WA st.length cw st st (LtG wU g) wU HST.out HWS.out (fun b hb=>hb.1);rw [decide_eq_true (rfl:st=st)] at hcl;refine(show Calls _ _ _ _ _ from hcl).mono ?_;rintro e wV ⟨rfl,hbwV⟩;clear hcl;have hkwV:=Kp.below (g:=g) hbwV;have HTS:=hI (hkwV.tab HTS.out);have HST:=hI (hkwV.st HST.out);have HCH:=hI (hkwV.ch HCH.out);have HAF:=hI (hkwV.st HAF.out);have HWS:=hI (hkwV.st HWS.out);have SB:=hI (hkwV.bx SB.out);have TB:=hI (hkwV.bx TB.out);have AB:=hI (hkwV.bx AB.out);have WB:=hI (hkwV.bx WB.out);have HAY:=hI (hkwV.st HAY.out);have YB:=hI (hkwV.bx YB.out);have HB:=hI (HB.out.trans (hbwV.mono HB.out.size));have hzwV:wU.heap.size≤wV.heap.size:=hkwV.sz;clear hkwV;clear hbwV;have y0:wV.cell? ⟨yb,0,none⟩=some (.slice AY af.length cy):=YB.out.at_ 0 _ rfl;have yl:yb<wV.heap.size:=YB.out.lt;have t0:wV.cell? ⟨tb,0,none⟩=some (.slice (some ⟨gt,0,none⟩) st.length st.length):=TB.out.at_ 0 _ rfl;have tl:tb<wV.heap.size:=TB.out.lt;have a0:wV.cell? ⟨ab,0,none⟩=some (.slice (some ⟨gt2,0,none⟩) st.length cap):=AB.out.at_ 0 _ rfl;have al:ab<wV.heap.size:=AB.out.lt;have b0:wV.cell? ⟨wb,0,none⟩=some (.slice WA st.length cw):=WB.out.at_ 0 _ rfl;have bl:wb<wV.heap.size:=WB.out.lt
    go_wp2_with fail
    clear y0 yl t0 tl a0 al b0 bl;have hcl:=ZfM AY (some ⟨gt2,0,none⟩) cy cap af af (LtG wV g) wV HAY.out HAF.out (fun b hb=>hb.1);rw [decide_eq_true (rfl:af=af),HAL.out] at hcl
    try rw [HAL.out]
    refine(show Calls _ _ _ _ _ from hcl).mono ?_;rintro e wX ⟨rfl,hbwX⟩;clear hcl;have hkwX:=Kp.below (g:=g) hbwX;have HTS:=hI (hkwX.tab HTS.out);have HST:=hI (hkwX.st HST.out);have HCH:=hI (hkwX.ch HCH.out);have HAF:=hI (hkwX.st HAF.out);have HWS:=hI (hkwX.st HWS.out);have SB:=hI (hkwX.bx SB.out);have TB:=hI (hkwX.bx TB.out);have AB:=hI (hkwX.bx AB.out);have WB:=hI (hkwX.bx WB.out);have HAY:=hI (hkwX.st HAY.out);have YB:=hI (hkwX.bx YB.out);have HB:=hI (HB.out.trans (hbwX.mono HB.out.size));have hzwX:wV.heap.size≤wX.heap.size:=hkwX.sz;clear hkwX;clear hbwX
    go_wp2_with fail
    go_ret;exact⟨rfl,HB.out⟩
end Go.Proofs.Ytkpjjfhfbpfjpaa
