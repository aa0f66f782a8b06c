import Derived.Test.YtkpjjfhfbpfjpaaGreatK093f24
import Derived.Deep.Cut
import Derived.Deep.CutRange
import Derived.Deep.DeepCutAuto
import Derived.Test.YtkpjjfhfbpfjpaaGreatK9c4ebf
set_option linter.unusedVariables false
set_option linter.unusedSimpArgs false
set_option maxRecDepth 100000
set_option maxHeartbeats 8000000
namespace Go.Proofs.YtkpjjfhfbpfjpaaGreat
open Go.RowKit
def ChPost (S:Nat→Prop) (s:Sch) (m:Int) (st:St) (most:Nat) (w:World) (g:Nat) (e:Ending) (w':World):Prop :=
 ∃ (B0 gt cap:Nat) (l:List Chg) (A:Option Addr) (c:Nat),e=.returned (.tuple #[.slice A l.length c,Zco (some ⟨gt,0,none⟩) st.length cap])∧st.length≤cap∧l.length≤most∧Fit s m st l∧Mk w' B0 (fun _=>False) 44 3 (.slice A l.length c) (l.map ZaC)∧StC w' (fun b=>S b∨(w.heap.size≤b∧b<B0∧b≠gt)∨Beh B0 w' (.slice A l.length c) b) gt (after s st l)∧w.heap.size≤gt∧gt<B0∧CaseOk w' g∧w.grownBy w' (some g)
theorem changes_any (g:Nat) (A0:Option Addr) (c0':Nat) (s:Sch) (m:Int) (AS:Option Addr) (ca:Nat) (st:St) (most:Nat) (S:Nat→Prop) (w:World) (hs:TabS w S A0 s.tabs) (hst:StS w S AS st) (hS:∀ b,S b→b<w.heap.size∧b≠g) (hgs:GenS s) (hm:Zcx m=true) (hok:StOk s m st) (hcnt:Zam st≤1000) (hmost:most≤100) (hc:CaseOk w g) :
  Calls Tryz.prog 13 #[.pointer (some ⟨g,0,none⟩),sAgg s.version A0 s.tabs.length c0',.int .i64 m,Zco AS st.length ca,.int .i64 (most:Int)] w (ChPost S s m st most w g):=by
 obtain⟨i0,hi,hz0,hz1,hz2⟩:=info_parts infoC;have hgl:=hc.lt;have hsl:=hgs.len;have hstl:st.length=s.tabs.length:=hok.1;have HS:=hI hs;have HST:=hI hst;have HSG:=hI hS;have HGS:=hI hgs;have HC:=hI hc;have HM:=hI hm;have HOK:=hI hok;have HB0:=hI ((((Below.refl w.heap.size w).alloc nR (.cells #[.int .i64 s.version,.slice A0 s.tabs.length c0'] 28)).alloc (by simp) (.cells #[.slice AS st.length ca] 33)).alloc (by simp<;>omega) (.cells #[.slice none 0 0] 33));clear hs hst hgs hc hm hok;go_enter Tryz.func13,Tryz.ntmps13
 go_wp2_with fail
 obtain⟨W0,hW0⟩:∃ W0,((w.alloc (.cells #[.int .i64 s.version,.slice A0 s.tabs.length c0'] 28)).alloc (.cells #[.slice AS st.length ca] 33)).alloc (.cells #[.slice none 0 0] 33)=W0:=⟨_,rfl⟩;have hz0':W0.heap.size=w.heap.size+3:=(by rw [←hW0];simp);have b0:W0.cell? ⟨w.heap.size,0,none⟩=some (.int .i64 s.version):=(by rw [←hW0];exact(Zah (by simp<;>omega)).trans ((Zah (by simp)).trans (Zae rfl rfl)));have b1:W0.cell? ⟨w.heap.size,1,none⟩=some (.slice A0 s.tabs.length c0'):=(by rw [←hW0];exact(Zah (by simp<;>omega)).trans ((Zah (by simp)).trans (Zae rfl rfl)));have s0:W0.cell? ⟨w.heap.size+1,0,none⟩=some (.slice AS st.length ca):=(by rw [←hW0];exact(Zah (by simp)).trans (Zae (by simp) rfl));have sf:W0.frozen? ⟨w.heap.size+1,0,none⟩=false:=(by rw [←hW0];exact(Zbb (by simp)).trans (ZaP (by simp)));have r0:W0.cell? ⟨w.heap.size+2,0,none⟩=some (.slice none 0 0):=(by rw [←hW0];exact Zae (by simp) rfl);have rf:W0.frozen? ⟨w.heap.size+2,0,none⟩=false:=(by rw [←hW0];exact ZaP (by simp));have hW0':=hW0;rw [hstl] at hW0';rw [hW0'] at ⊢;rw [hW0] at HB0;clear hW0 hW0';have hcop:=rcopySt_any AS ca st S W0 (HST.out.keep (Same.of_below HB0.out (fun b hb=>(HSG.out b hb).1))) (fun b hb=>by have:=(HSG.out b hb).1;omega);rw [hstl] at hcop;refine hcop.mono ?_;rintro e wc ⟨AC,cc,rfl,hmk,hbc⟩;obtain⟨gt,rfl,hgt,-,hcc,hstc⟩:=StC.of_own hmk.own (by omega);have HSTC:=hI hstc;have HBC:=hI hbc;have hgtl:=hstc.lt;have hzc:=hbc.size;have b0':=c9J hbc b0;have b1':=c9J hbc b1;have s0':=c9J hbc s0;have sf':=(hbc.frozen (p:=⟨w.heap.size+1,0,none⟩) (by show w.heap.size+1<W0.heap.size;omega)).trans sf;have r0':=c9J hbc r0;have rf':=(hbc.frozen (p:=⟨w.heap.size+2,0,none⟩) (by show w.heap.size+2<W0.heap.size;omega)).trans rf;have HCAP:=hI hcc
 have HI0:=hI (show ChI w (wc.setCell ⟨w.heap.size+1,0,none⟩ (.slice (some ⟨gt,0,none⟩) s.tabs.length cc)) wc.heap.size gt cc g S s A0 c0' st [] none 0 from by
  have hne:∀ b,b≠w.heap.size+1→(wc.setCell ⟨w.heap.size+1,0,none⟩ (.slice (some ⟨gt,0,none⟩) s.tabs.length cc)).heap[b]?=wc.heap[b]?:=fun b hb=>Below.heap_setCell wc ⟨w.heap.size+1,0,none⟩ _ b hb;have hbw:=HB0.out.trans (hbc.mono (by omega));refine⟨(hstc.keep (by simp) (fun b hb=>hne b ?_) (hne gt (by omega))).more (fun b hb=>.inr (.inl ?_)) (fun b hb=>?_),Mk.start (fun b hb=>hb.elim) (by simp) _ _,(World.cell?_of_block (hne w.heap.size (by omega))).trans b0',(World.cell?_of_block (hne w.heap.size (by omega))).trans b1',World.cell?_setCell_same _ _ _ s0',by rw [World.frozen?_setCell];exact sf',(World.cell?_of_block (hne (w.heap.size+2) (by omega))).trans r0',(World.frozen?_of_block (hne (w.heap.size+2) (by omega))).trans rf',Zab (HC.out.keep (fun b hb=>hbw.block b (by omega))) (by omega),Zac (Fr.of_below (X:=fun b=>b=g) hbw).grown (by omega),by omega,hgtl⟩
  · rcases hb with hb | hb
    · exact hb.elim
    · have:=hb.1;omega
  · rcases hb with hb | hb
    · exact hb.elim
    · exact⟨by have:=hb.1;omega,hb.2.1,fun e=>hb.2.2 (by rw [e];rfl)⟩
  · rcases hb with hb | hb | hb
    · have:=HSG.out b hb;simp;omega
    · exact⟨by have:=hb.2.1;simp;omega,hb.2.2⟩
    · exact⟨hb.2.1,by have:=hb.1;omega⟩)
 clear hmk hbc hstc HC b0 b1 s0 sf r0 rf hcop
 go_wp2_with fail
 obtain⟨W1,hW1⟩:∃ W1,wc.setCell ⟨w.heap.size+1,0,none⟩ (.slice (some ⟨gt,0,none⟩) s.tabs.length cc)=W1:=⟨_,rfl⟩;obtain⟨B0,hB0⟩:∃ B0,wc.heap.size=B0:=⟨_,rfl⟩;rw [hW1] at HI0 ⊢;rw [hB0] at HI0;clear hW1 hB0 b0' b1' s0' sf' r0' rf' HSTC HBC hgtl hzc hz0' hgt;refine(ZaF g ((most:Int)+1) _ (by omega) HI0.out.case).mono ?_;rintro e w1 ⟨r,rfl,r0,r1,-,hcr,hgr,hsr⟩;have hr5:=r1 (by omega);obtain⟨nn,rfl⟩:=Int.eq_ofNat_of_zero_le r0;have HI1:=hI (HI0.out.keep (ZaU hgr) hcr hgl HSG.out);clear hcr hgr hsr r1 HI0
 go_wp2_with fail
 rw [show w.heap.size+1+1=w.heap.size+2 from rfl]
 go_loopw [12,13] (fun out i wr=>∃ (nn:Nat) (l:List Chg) (A:Option Addr) (c:Nat) (cur:St),l.length+nn≤most∧out=.slice A l.length c∧i=.int .i64 nn∧ChI w wr B0 gt cc g S s A0 c0' cur l A c∧StOk s m cur∧Fit s m st l∧cur=after s st l) (fun _ i _=>(intOf i).toNat)
 case atStart=>exact⟨nn,[],none,0,st,by simp;omega,rfl,rfl,HI1.out,HOK.out,trivial,rfl⟩
 case round =>
  clear HI1;obtain⟨nn,l,A,c,cur,hle,rfl,rfl,hci,hco,hfi,haf⟩:=hrel;have HI:=hI hci;have HCO:=hI hco;have HFI:=hI hfi;have HAF:=hI haf;have hsz:=hci.sz;have hlo:=hci.lo;have hhi:=hci.hi;clear hci hco hfi haf;rcases Nat.eq_zero_or_pos nn with hn0 | hn0
  · subst hn0;have s0:=HI.out.s0;have r0:=HI.out.r0;have rf:=HI.out.rf
    go_wp2_with fail
    refine tS (fun w'=>w'.cell? ⟨w.heap.size+1,0,none⟩=some (.slice (some ⟨gt,0,none⟩) s.tabs.length cc)) 3 4 fun Q' HQ HP=>?_;refine tW 0 120 2 10 (bA 4 5) HP.out s0 ?_;refine tJ 1 121 (bA 4 7) HP.out s0 ?_;refine tQ 3 none (bA 4 15) fun K HK=>?_;go_simp;refine HK.out _ _ (fun h=>absurd rfl h) ?_;clear HK K;refine tE HQ ?_;clear HQ HP Q';have hcl:=HCO.out.1;have x0:(wr.setCell ⟨w.heap.size+2,0,none⟩ (.slice (some ⟨gt,0,none⟩) s.tabs.length cc)).cell? ⟨w.heap.size+2,0,none⟩=some (.slice (some ⟨gt,0,none⟩) s.tabs.length cc):=World.cell?_setCell_same _ _ _ r0
    go_wp2_with fail
    obtain⟨wz,hwz⟩:∃ wz,(wr.setCell ⟨w.heap.size+2,0,none⟩ (.slice (some ⟨gt,0,none⟩) s.tabs.length cc)).drew=wz:=⟨_,rfl⟩;have x1:wz.cell? ⟨w.heap.size+2,0,none⟩=some (.slice (some ⟨gt,0,none⟩) s.tabs.length cc):=(by rw [←hwz];exact x0);have hfz:Fr (fun b=>b=w.heap.size+2) wr wz:=(by rw [←hwz];exact((Fr.refl (fun b=>b=w.heap.size+2) wr).setCell (g:=w.heap.size+2) (o:=0) _ (fun _=>rfl)).drew);rw [hwz];clear hwz x0;obtain⟨z1,z2,z3,z4⟩:=HI.out.done hgl HSG.out hfz;rw [HAF.out] at z2;exact bodyPost_ret (v:=.tuple #[.slice A l.length c,Zco (some ⟨gt,0,none⟩) s.tabs.length cc]) (by simp [results,Tryz.results13,go_sem,x1]) rfl ⟨B0,gt,cc,l,A,c,by rw [hstl],HCAP.out,by omega,HFI.out,z1,z2,by omega,hhi,z3,z4⟩
  · obtain⟨n1,rfl⟩:∃ n1,nn=n1+1:=⟨nn - 1,by omega⟩;have b1:=HI.out.b1;have hnp:(0:Int)<((n1+1:Nat):Int):=(by omega);have htp:(0:Int)<(s.tabs.length:Int):=by omega
    go_wp2_with fail
    refine(ZaF g (s.tabs.length:Int) _ (by omega) HI.out.case).mono ?_;rintro e w2 ⟨tt,rfl,t0',t1',-,hcr,hgr,hsr⟩;have htl':=t1' (by omega);obtain⟨t,rfl⟩:=Int.eq_ofNat_of_zero_le t0';have htl:t<s.tabs.length:=(by omega);have HI2:=hI (HI.out.keep (ZaU hgr) hcr hgl HSG.out);obtain⟨xb,hxb⟩:∃ xb,w2.heap.size=xb:=⟨_,rfl⟩;have HM2:=hI (show Mid w2 (w2.alloc (.cells #[.int .i64 (t:Int),.slice none 0 0,.slice none 0 0] 44)) g xb [.int .i64 (t:Int),.slice none 0 0,.slice none 0 0] from ⟨Fr.of_below ((Below.refl _ _).alloc nR _),hcr.keep (fun b hb=>Below.heap_alloc _ _ _ (by omega)),by rw [←hxb];exact heap_alloc_new _ _⟩);have hxz:w2.heap.size≤xb:=(by omega);have hxw:wr.heap.size=xb:=(by omega);have hsz2:=HI2.out.sz;clear hcr hgr t1' b1 hnp htp HI hsr hsz
    go_wp2_with fail
    obtain⟨wx,hwx⟩:∃ wx,w2.alloc (.cells #[.int .i64 (t:Int),.slice none 0 0,.slice none 0 0] 44)=wx:=⟨_,rfl⟩;have hzx:wx.heap.size=xb+1:=(by rw [←hwx,←hxb];simp);rw [hwx] at HM2 ⊢;clear hwx hxw hxb;have hgx':g<xb:=(by omega);have HX:=hI (HI2.out.keep HM2.out.fr HM2.out.case hgl HSG.out);have hSw:∀ b,S b→b<w.heap.size:=fun b hb=>(HSG.out b hb).1;have hsame:Same S w wx:=fun b hb=>HX.out.gr.block b (hSw b hb) (fun e=>(HSG.out b hb).2 (by injection e));have HTW:=hI (HS.out.keep hsame);have hSr:∀ b,S b→b<wx.heap.size:=(fun b hb=>by have:=hSw b hb;omega);obtain⟨bT,oT,rfl,hbT,T1,T2,T3,k1,k2,k3,hta⟩:=HTW.out.at_ htl;have lT:bT<wx.heap.size:=hSr bT hbT;have l0:w.heap.size<wx.heap.size:=(by omega);have lx:xb<wx.heap.size:=(by omega);have hg0:¬ w.heap.size=g:=(by omega);have hgT:¬ bT=g:=(HSG.out bT hbT).2;have hgx:¬ xb=g:=(by omega);have u0:=HX.out.b0;have u1:=HX.out.b1;have u2:=hta.key;have u3:wx.cell? ⟨xb,0,none⟩=some (.int .i64 (t:Int)):=Zaa HM2.out.xc 0 _ rfl;have hkl:(ZaM s t).length≤1000000:=(by have:=(HGS.out.kinds htl).2;omega);have HFT:=hI (fun (r:Row) (h:Zhn (s.tabs.getD t t0).key m (ZaM s t) r)=>Zfc HGS.out HM.out htl h);clear hta hsame;generalize (s.tabs.getD t t0).key=ky at u2 HFT
    go_wp2_with fail
    refine tS (fun w'=>w'.cell? ⟨w.heap.size,0,none⟩=some (.int .i64 s.version)∧w'.cell? ⟨w.heap.size,1,none⟩=some (.slice (some ⟨bT,oT,none⟩) s.tabs.length c0')∧w'.cell? ⟨bT,oT+t*5+2,none⟩=some (.int .i64 ky)∧w'.cell? ⟨xb,0,none⟩=some (.int .i64 (t:Int))) 15 15 fun Q' HQ HP=>?_;refine tX 0 41 1 42 2 43 3 44 (bA 15 15) HP.out ⟨u0,u1,u2,u3⟩ ?_;refine tX 5 46 6 47 7 48 8 49 (bA 15 495) HP.out ⟨u0,u1,u2,u3⟩ ?_;refine tX 9 50 10 51 11 52 12 53 (bA 15 8175) HP.out ⟨u0,u1,u2,u3⟩ ?_;refine tQ 4 (some 45) (bA 15 8191) fun K HK=>?_;go_simp;refine(Zei (some ⟨bT,oT,none⟩) c0' s t S wx.drew (HTW.out.keep (fun _ _=>rfl)) hSr).mono ?_;rintro e wk ⟨KA,kc,rfl,hks,hkc,-,hbk0⟩;have hbk:Below wx.heap.size wx wk:=(Below.refl _ wx).drew.trans hbk0;have hzk:=hbk.size;have HKS:=hI hks;clear hks hbk0;have p0:=c9Q hbk l0 u0;have p1:=c9Q hbk l0 u1;have p2:=c9Q hbk lT u2;have p3:=c9Q hbk lx u3;refine HK.out _ _ (fun _=>⟨p0,p1,p2,p3⟩) ?_;clear HK K
    try simp only [Act.put,psA,psB,psC]
    refine tQ 13 (some 54) (bA 15 16383) fun K HK=>?_;go_simp;refine(row_any g KA kc (ZaM s t) ky m (New wx.drew wk) wk HKS.out (fun b hb=>⟨hb.2,by have h9:wx.heap.size≤b:=hb.1;omega⟩) hkl (HX.out.case.keep (fun b hb=>hbk.block b (by omega)))).mono ?_;rintro e wq ⟨row,RA,rc,rfl,hgen,hrow,hcq,hgq⟩;have hzq:=hgq.size;have HFQ:=hI (show Fr (fun b=>b=g) wx wq from (Fr.of_below hbk).trans (ZaU hgq) (fun _ _ e=>e));have HIQ:=hI (HX.out.keep HFQ.out hcq hgl HSG.out);have HFIT:=hI (HFT.out row hgen);have HROK:=hI (Zfb hgen hkl);have HROW:=hI (ZdG hrow hzk);clear hgen hrow hcq;have q0:=(HFQ.out.cell (b:=w.heap.size) l0 hg0).trans u0;have q1:=(HFQ.out.cell (b:=w.heap.size) l0 hg0).trans u1;have q2:=(HFQ.out.cell (b:=bT) lT hgT).trans u2;have q3:=(HFQ.out.cell (b:=xb) lx hgx).trans u3;clear hgq;refine HK.out _ _ (fun _=>⟨q0,q1,q2,q3⟩) ?_;clear HK K
    try simp only [Act.put,psA,psB,psC]
    refine tJ 14 15 (bA 15 32767) HP.out ⟨q0,q1,q2,q3⟩ ?_;refine tE HQ ?_;clear HQ HP Q';have HMQ:=hI (HM2.out.calls HFQ.out HIQ.out.case hgx');have HRTQ:=hI (show RowT wq xb RA rc row from ⟨(ZaL HROW.out HROK.out nR).1,(ZaL HROW.out HROK.out nR).2.more (fun b hb=>⟨by have h9:wx.heap.size≤b:=hb.1;omega,hb.2⟩)⟩);have hwid:=HGS.out.wide t htl;have hrwl:0<row.length:=(by have h9:=ZcN HFIT.out;rw [Int.toNat_natCast] at h9;rw [h9];exact hwid);have hzq':wx.heap.size≤wq.heap.size:=HFQ.out.size;have HCT:=hI (show Zam cur≤1100 by rw [HAF.out];have:=(Zgc HOK.out HFI.out).2;omega);have HCL:=hI HCO.out.1;have htc:t<cur.length:=(by rw [HCL.out];exact htl);obtain⟨hfzq,AT,ct,d1,d2,d3⟩:=HIQ.out.stc.at_ (k:=t) htc;have s0:=HIQ.out.s0;have lgt:gt<wq.heap.size:=(by have:=HIQ.out.sz;omega);have HRS:=hI d3;have hrl:=d3.len;have HRW:=hI (show ∀ r ∈ cur.getD t [],Zax s t r m=true from (HCO.out.2 t htc).1);clear p0 p1 p2 p3 u0 u1 u2 u3 q0 q1 q2 d2 d3 hfzq hzk hbk hzq hwid lT l0 lx hg0 hgT hgx;have hrc:(cur.getD t []).length≤1100:=(by have:=Zbl cur t;have:=HCT.out;omega);generalize cur.getD t []=rows at d1 HRS hrl HRW hrc;go_upto_region 9 with fail
    go_cut [67] (fun p W=>∃ bb:Bool,p=.bool bb∧(bb=true→0<rows.length)∧CaseOk W g∧wq.grownBy W (some g)∧W.heap.size=wq.heap.size)
    case first =>
     by_cases hr0:rows.length=0
     · have hd0:decide (0<rows.length)=false:=decide_eq_false (by omega);have hd1:decide ((0:Int)<(rows.length:Int))=false:=decide_eq_false (by omega);clear hr0
       go_wp2_with fail
       go_meet;exact⟨false,rfl,fun e=>(by cases e),HMQ.out.case,World.grownBy.refl _ _,rfl⟩
     · have hd0:decide (0<rows.length)=true:=decide_eq_true (by omega);have hd1:(0:Int)<(rows.length:Int):=by omega
       go_wp2_with fail
       refine(ZaD g 2 _ (by omega) (by omega) HMQ.out.case).mono ?_;rintro e wb ⟨bb,rfl,hcb,hgb,hsb⟩
       go_wp2_with fail
       go_meet;exact⟨bb,rfl,fun _=>by omega,hcb,hgb,hsb⟩
    case rest =>
     obtain⟨bb,rfl,hbb,hcb,hgb,hsb⟩:=hcut;have HMB:=hI (HMQ.out.calls (ZaU hgb) hcb hgx');have HRTB:=hI (HRTQ.out.step (xb:=xb) (Fr.or_g (ZaU hgb)) hgx')
     have HRSB:=hI (HRS.out.keep (w':=wc) (fun b hb=>hgb.block b (HIQ.out.stc.mem b hb).1 (fun e=>by
      injection e with e;rcases hb with hb | hb | hb
      · exact(HSG.out b hb).2 e
      · omega
      · have:=hb.1;omega)))
     have HROWB:=hI (ZaK HROW.out (w':=wc) (fun q hq=>hgb.block q (ZaO HROW.out hq) (fun e=>by injection e with e;have:=Zaz HROW.out hq;omega)));have hzb:wc.heap.size=wq.heap.size:=hsb;obtain⟨wb,rfl⟩:∃ wb:World,wb=wc:=⟨_,rfl⟩;clear hcb hgb hsb;go_upto_if 67 with fail
     go_cut [15] (fun p W=>∃ (RA':Option Addr) (rw_:Row),p=.slice RA' rw_.length rc∧Mid w2 W g xb [.int .i64 (t:Int),.slice none 0 0,.slice none 0 0]∧RowT W xb RA' rc rw_∧RowOk rw_∧Zax s t rw_ m=true)
     case first =>
      cases bb
      · go_wp2_with fail
        go_meet;exact⟨RA,row,rfl,HMB.out,HRTB.out,HROK.out,HFIT.out⟩
      · have hd1:=hbb rfl;clear hbb
        go_wp2_with fail
        refine(ZaF g (rows.length:Int) _ (by omega) HMB.out.case).mono ?_;rintro e wi ⟨ri,rfl,i0',i1',-,hcr,hgr,hsr⟩;have hri:=i1' (by omega);obtain⟨ki,rfl⟩:=Int.eq_ofNat_of_zero_le i0';have hkil:ki<rows.length:=(by omega);have HMI:=hI (HMB.out.calls (ZaU hgr) hcr hgx');have HRTI:=hI (HRTB.out.step (xb:=xb) (Fr.or_g (ZaU hgr)) hgx')
        have hngi:∀ b,(S b∨(w.heap.size+3≤b∧b<B0∧b≠gt)∨Beh B0 wq (.slice A l.length c) b)→b<wb.heap.size∧some b≠some g:=fun b hb=>⟨by have:=(HIQ.out.stc.mem b hb).1;omega,fun e=>by
         injection e with e;rcases hb with hb | hb | hb
         · exact(HSG.out b hb).2 e
         · omega
         · have:=hb.1;omega⟩
        have HRSI:=hI (HRSB.out.keep (w':=wi) (fun b hb=>hgr.block b (hngi b hb).1 (hngi b hb).2));have HROWI:=hI (ZaK HROWB.out (w':=wi) (fun q hq=>hgr.block q (ZaO HROWB.out hq) (fun e=>by injection e with e;have:=Zaz HROWB.out hq;omega)));have hzi:wi.heap.size=wb.heap.size:=hsr;obtain⟨bO,oO,hAT,hbO,AO,cO,e1,e2,e3⟩:=HRSI.out.at_ hkil;subst hAT;have lO:bO<wi.heap.size:=(by have:=(hngi bO hbO).1;omega);have HOR:=hI (e3.more (S':=fun b=>b<wi.heap.size) (fun b hb=>by have:=(hngi b hb).1;show b<wi.heap.size;omega));have HOC:=hI e2;have HOF:=hI (HRW.out (rows.getD ki []) (by rw [Zch hkil];exact List.getElem_mem hkil));have hol:=e3.len;have HIW:=hI (HI2.out.keep HMI.out.fr HMI.out.case hgl HSG.out);have y0:=HIW.out.b0;have y1:=HIW.out.b1;have y2:wi.cell? ⟨xb,0,none⟩=some (.int .i64 (t:Int)):=Zaa HMI.out.xc 0 _ rfl;clear e2 e3 hcr hgr hsr i1';generalize rows.getD ki []=orow at e1 HOR HOC HOF hol
        go_wp2_with fail
        refine(ZdN (some ⟨bT,oT,none⟩) c0' s t AO cO orow (fun b=>b<wi.heap.size) _ ((HS.out.keep (show Same S w wi from fun b hb=>(HIW.out).gr.block b (hSw b hb) (fun e=>(HSG.out b hb).2 (by injection e)))).more (fun b hb=>by have:=hSw b hb;show b<wi.heap.size;omega)) HOR.out HOC.out (fun b hb=>hb)).mono ?_;rintro e wk ⟨KA,kc,rfl,hkey,hbk⟩;have HKY:=hI (ZaL hkey (Zdb HOR.out.ok) nR);have HKOK:=hI (Zdb (s:=s) (t:=(t:Int)) HOR.out.ok);have HMK0:=hI (HMI.out.below hbk hgx');have HROWK:=hI (ZaK HROWI.out (w':=wk) (fun q hq=>hbk.block q (ZaO HROWI.out hq)));have hzk0:=hbk.size;have hk0:=c9J hbk y0;have hk1:=c9J hbk y1;have hk2:=c9J hbk y2;obtain⟨hkle,hmixf⟩:=fits_mix htl HOF.out HFIT.out
        have hkpos:0<(keyF s (t:Int) orow).length:=by
         have h9:=ZcN HOF.out;have h8:=HGS.out.tab htl;rw [Int.toNat_natCast] at h9;rw [Zgt htl,List.length_take];unfold keyN;have:=h8.1;have:=h8.2.2.1;omega
        have HMIX:=hI hmixf;clear hkey hbk hmixf;generalize keyF s (t:Int) orow=kk at HKY HKOK hkle hkpos HMIX;obtain⟨kb,ko,hKA,hkb,hkcells⟩:=HKY.out.2.vals hkpos;subst hKA
        obtain⟨gr,capr,curr,hRA,hbr,hhr,hcr1,hcr2,hcr3,hcr4⟩:∃ gr capr curr,Value.slice RA row.length rc=.slice (some ⟨gr,0,none⟩) row.length capr∧wx.heap.size≤gr∧wk.heap[gr]?=some (.cells curr 89 (0,0))∧row.length≤capr∧capr≤maxLen∧curr.size=capr*3∧curr.toList.take (row.length*3)=Zal row:=by
         rcases HROWK.out.2 with ⟨h9,h8⟩ | ⟨gr,capr,curr,h1,h2,h3,h4,h5,h6,h7⟩
         · omega
         · exact⟨gr,capr,curr,h1,h2,h3,h4,h5,h6,h7⟩
        injection hRA with hRA1 _ hRA2;subst hRA1 hRA2;have HHR:=hI (show wk.heap[gr]?=some (.cells curr.toList.toArray 89 (0,0)) by simpa using hhr);have HC4:=hI hcr4;have HC3:=hI hcr3;have hrk3:row.length*3≤curr.size:=(by rw [hcr3];omega);clear hhr hcr4 hcr3
        go_wp2_with (refine ZdL (o:=⟨some 81,_,_,_,_,_⟩) rfl (.tmp 75) (.tmp 80) 42 42 rfl 89 3 Tryz.underlying42 (by kernel_rfl) gr row.length rc ⟨kb,ko,none⟩ kk.length kc rfl rfl curr.toList 89 HHR.out (Zal kk) kk.length (Nat.min_eq_left hkle).symm (ZaE _) hkcells (by rw [ZaE];simp;omega) (ZbJ _) ?_;intro wm hm1 hm2;have HM1:=hI hm1;have HM2':=hI hm2;have hzm:=hm2.size;have m0:=(hm2.cell (b:=w.heap.size) (o:=0) (by omega) (by omega)).trans hk0;have m1:=(hm2.cell (b:=w.heap.size) (o:=1) (by omega) (by omega)).trans hk1;have m2:=(hm2.cell (b:=xb) (o:=0) (by omega) (by omega)).trans hk2;clear hm1 hm2)
        have HOWC:=hI (owns_copied (base:=wx.heap.size) hcr1 hcr2 hbr hkle (by have:=HC3.out;simpa using this) HC4.out HM1.out);have HROKM:=hI (rowOk_mix HKOK.out HROK.out hkle);have HMY:=hI (HMK0.out.far HM2'.out (fun b hb=>by have h9:b=gr:=hb;omega) hgx' hxz);obtain⟨rw_,hrw⟩:∃ rw_,mixR kk row=rw_:=⟨_,rfl⟩;have hlr:row.length=rw_.length:=(by rw [←hrw,Zdf hkle]);rw [hrw] at HOWC HROKM HMIX;have HRT:=hI (show RowT wm xb (some ⟨gr,0,none⟩) rc rw_ from ⟨(ZaL HOWC.out HROKM.out nR).1,(ZaL HOWC.out HROKM.out nR).2.more (fun b hb=>⟨by have h9:wx.heap.size≤b:=hb.1;omega,hb.2⟩)⟩);rw [hlr];clear hrw hlr HOWC HM1 HM2' HHR HC3 HC4 HROWK HROWI HROWB HROW HKY HKOK y0 y1 y2 e1 hk0 hk1 hk2 m0 m1 m2 hkcells hrk3 hcr1 hcr2 hkle hkpos hrwl
        go_wp2_with fail
        go_meet;exact⟨some ⟨gr,0,none⟩,rw_,rfl,HMY.out,HRT.out,HROKM.out,HMIX.out⟩
     case rest =>
      clear HMB HRTB HRSB HROWB HROW hzb hbb HRTQ HROK HFIT HMQ HRS HRW hrl hrwl hrc hzq' HIQ HFQ;obtain⟨RA',rw_,rfl,hmy,hrt,hrk,hfr⟩:=hcut;obtain⟨wy,rfl⟩:∃ wy:World,wy=wc:=⟨_,rfl⟩;have HMY:=hI hmy;have HRT:=hI hrt;have HRK:=hI hrk;have HFR:=hI hfr;clear hmy hrt hrk hfr;have HIY:=hI (HI2.out.keep HMY.out.fr HMY.out.case hgl HSG.out);have y0:=HIY.out.b0;have y1:=HIY.out.b1;have y2:wy.cell? ⟨xb,0,none⟩=some (.int .i64 (t:Int)):=Zaa HMY.out.xc 0 _ rfl;have hzy:xb<wy.heap.size:=Zad HMY.out.xc
      go_wp2_with fail
      clear s0 d1;refine(ZdN (some ⟨bT,oT,none⟩) c0' s t RA' rc rw_ (fun b=>b<wy.heap.size) _ ((HS.out.keep (show Same S w wy from fun b hb=>(HIY.out).gr.block b (hSw b hb) (fun e=>(HSG.out b hb).2 (by injection e)))).more (fun b hb=>by have:=hSw b hb;show b<wy.heap.size;omega)) (HRT.out.2.more (fun b hb=>hb.2)) HRT.out.1 (fun b hb=>hb)).mono ?_;rintro e wk ⟨KA,kc,rfl,hkey,hbk⟩;have HKY:=hI (show RowT wk xb KA kc (keyF s (t:Int) rw_) from ⟨(ZaL hkey (Zdb HRK.out) nR).1,(ZaL hkey (Zdb HRK.out) nR).2.more (fun b hb=>⟨by have h9:wy.heap.size≤b:=hb.1;omega,hb.2⟩)⟩);have HMK0:=hI (HMY.out.below hbk hgx');have HRTK:=hI (HRT.out.step (xb:=xb) (Fr.or_g (g:=g) (Fr.of_below hbk)) hgx');have hzk0:=hbk.size;clear hkey hbk y0 y1 y2;obtain⟨key,hkeq⟩:∃ key,keyF s (t:Int) rw_=key:=⟨_,rfl⟩;rw [hkeq] at HKY ⊢;have HKQ:=hI hkeq;clear hkeq;have HIK:=hI (HI2.out.keep HMK0.out.fr HMK0.out.case hgl HSG.out);have y0:=HIK.out.b0;have y1:=HIK.out.b1;have y3:=HIK.out.s0;have y2:wk.cell? ⟨xb,0,none⟩=some (.int .i64 (t:Int)):=Zaa HMK0.out.xc 0 _ rfl
      go_wp2_with fail
      have hget:=rget_any (some ⟨bT,oT,none⟩) c0' s (some ⟨gt,0,none⟩) cc cur t KA kc key (fun b=>b<wk.heap.size) wk ((HS.out.keep (show Same S w wk from fun b hb=>(HIK.out).gr.block b (hSw b hb) (fun e=>(HSG.out b hb).2 (by injection e)))).more (fun b hb=>by have:=hSw b hb;show b<wk.heap.size;omega)) (HIK.out.stc.slice (by have:=HCL.out;omega) (fun b hb=>(HIK.out.stc.mem b hb).1) (by show gt<wk.heap.size;omega)) (HKY.out.2.more (fun b hb=>hb.2)) (fun b hb=>hb);rw [HCL.out] at hget;refine hget.mono ?_;rintro e wg ⟨OA,oc,rfl,hold,hbg⟩;rw [getS_look htl htc key] at hold ⊢;obtain⟨old,hoq⟩:∃ old,look s cur t key=old:=⟨_,rfl⟩
      have HOFT:=hI (show old=[]∨Zax s t old m=true by
       by_cases h0:0<old.length
       · exact .inr (ZdT HCO.out htc hoq h0)
       · exact .inl (List.eq_nil_of_length_eq_zero (by omega)))
      rw [hoq] at hold ⊢;have HOQ:=hI hoq;have HOL:=hI (show RowT wg xb OA oc old from ⟨(ZaL hold (ZfP HGS.out htl HOFT.out) nR).1,(ZaL hold (ZfP HGS.out htl HOFT.out) nR).2.more (fun b hb=>⟨by have h9:wk.heap.size≤b:=hb.1;omega,hb.2⟩)⟩);have HMG:=hI (HMK0.out.below hbg hgx');have HRTG:=hI (HRTK.out.step (xb:=xb) (Fr.or_g (g:=g) (Fr.of_below hbg)) hgx');have HKYG:=hI (HKY.out.step (xb:=xb) (Fr.or_g (g:=g) (Fr.of_below hbg)) hgx');have hzg:=hbg.size;clear hoq hold hbg hget y0 y1 y2 y3;have c0:wg.cell? ⟨xb,0,none⟩=some (.int .i64 (t:Int)):=Zaa HMG.out.xc 0 _ rfl;have c1:wg.cell? ⟨xb,1,none⟩=some (.slice none 0 0):=Zaa HMG.out.xc 1 _ rfl;have c2:wg.cell? ⟨xb,2,none⟩=some (.slice none 0 0):=Zaa HMG.out.xc 2 _ rfl;have f1:wg.frozen? ⟨xb,1,none⟩=false:=(by simp [World.frozen?,HMG.out.xc]);have f2:wg.frozen? ⟨xb,2,none⟩=false:=(by simp [World.frozen?,HMG.out.xc]);have hlg:xb<wg.heap.size:=Zad HMG.out.xc;have hlg1:xb<wg.heap.size+1:=(by omega);go_upto_region 14 with fail
      have HMG1:=hI (HMG.out.set 1 (.slice OA old.length oc) hgx' hxz)
      go_cut [105] (fun p W=>∃ bw:Bool,p=.bool bw∧(bw=false→old.length≠0)∧CaseOk W g∧(wg.setCell ⟨xb,1,none⟩ (.slice OA old.length oc)).grownBy W (some g)∧W.heap.size=(wg.setCell ⟨xb,1,none⟩ (.slice OA old.length oc)).heap.size)
      case first =>
       by_cases ho0:old.length=0
       · have hq:((old.length:Int) == 0)=true:=(by simp [ho0]);clear ho0
         go_wp2_with fail
         go_meet;exact⟨true,rfl,fun e=>(by cases e),HMG1.out.case,World.grownBy.refl _ _,rfl⟩
       · have hq:((old.length:Int) == 0)=false:=(by simp;intro e;rw [e] at ho0;simp at ho0);have HO0:=hI ho0;clear ho0
         go_wp2_with fail
         refine(ZaD g 3 _ (by omega) (by omega) HMG1.out.case).mono ?_;rintro e wh ⟨bb,rfl,hcb,hgb,hsb⟩
         go_wp2_with fail
         go_meet;exact⟨!bb,rfl,fun _=>HO0.out,hcb,hgb,hsb⟩
      case rest =>
       obtain⟨bw,rfl,hbw,hcb,hgb,hsb⟩:=hcut;obtain⟨wh,rfl⟩:∃ wh:World,wh=wc:=⟨_,rfl⟩;have HMH:=hI (HMG1.out.calls (ZaU hgb) hcb hgx');have HSTP:=hI (show ∀ (A9:Option Addr) (c9:Nat) (r9:Row),RowT wg xb A9 c9 r9→RowT wh xb A9 c9 r9 from fun A9 c9 r9 h9=>(h9.step (Fr.or_set (g:=g) (xb:=xb) 1 (.slice OA old.length oc)) hgx').step (Fr.or_g (ZaU hgb)) hgx');have HKH:=hI (HSTP.out _ _ _ HKYG.out);have HRH:=hI (HSTP.out _ _ _ HRTG.out);have HOH:=hI (HSTP.out _ _ _ HOL.out);have hzh:wh.heap.size=wg.heap.size:=(by simpa using hsb);have e0:wh.cell? ⟨xb,0,none⟩=some (.int .i64 (t:Int)):=Zaa HMH.out.xc 0 _ rfl;have e1:wh.cell? ⟨xb,1,none⟩=some (.slice OA old.length oc):=Zaa HMH.out.xc 1 _ rfl;have e2:wh.cell? ⟨xb,2,none⟩=some (.slice none 0 0):=Zaa HMH.out.xc 2 _ rfl;have g2:wh.frozen? ⟨xb,2,none⟩=false:=(by simp [World.frozen?,HMH.out.xc]);have hlh:xb<wh.heap.size:=Zad HMH.out.xc
       have HCH:=hI (show ∀ new:Row,new=(if bw then rw_ else [])→Zap s m ⟨t,old,new⟩=true∧ZcB s ⟨t,old,new⟩ (cur.getD t [])=true∧keyC s ⟨t,old,new⟩=key from fun new hn=>by
        have h9:=chg_ok HGS.out.wide HCO.out htl HFR.out (b:=bw) (x:=⟨t,old,new⟩) (by rw [HKQ.out,HOQ.out];intro e9;cases bw;{ exact absurd (by rw [e9];rfl) (hbw rfl) };rfl) (by rw [HKQ.out,HOQ.out,hn]);rw [HKQ.out] at h9;exact h9)
       clear hcb hgb hsb c0 c1 c2 f1 f2 hlg hlg1 hzh HSTP hbw;go_upto_if 105 with fail
       go_cut [] (fun W=>∃ (NA:Option Addr) (new:Row) (nc:Nat),Mid w2 W g xb [.int .i64 (t:Int),.slice OA old.length oc,.slice NA new.length nc]∧RowT W xb KA kc key∧RowT W xb OA oc old∧RowT W xb NA nc new∧(Zap s m ⟨t,old,new⟩=true∧ZcB s ⟨t,old,new⟩ (cur.getD t [])=true∧keyC s ⟨t,old,new⟩=key))
       case first =>
        cases bw
        · go_wp2_with fail
          go_meet;exact⟨none,[],0,HMH.out,HKH.out,HOH.out,RowT.nil_,HCH.out _ rfl⟩
        · go_wp2_with fail
          go_meet;exact⟨RA',rw_,rc,HMH.out.set 2 (.slice RA' rw_.length rc) hgx' hxz,HKH.out.step (Fr.or_set (g:=g) (xb:=xb) 2 (.slice RA' rw_.length rc)) hgx',HOH.out.step (Fr.or_set (g:=g) (xb:=xb) 2 (.slice RA' rw_.length rc)) hgx',HRH.out.step (Fr.or_set (g:=g) (xb:=xb) 2 (.slice RA' rw_.length rc)) hgx',HCH.out _ rfl⟩
       case rest =>
        obtain⟨NA,new,nc,hmn,hkn,hon,hnn,hch⟩:=hcut;obtain⟨wn,rfl⟩:∃ wn:World,wn=wc:=⟨_,rfl⟩;clear HMH HKH HRH HOH HCH e0 e1 e2 g2 hlh HMG1;have HMN:=hI hmn;have HKN:=hI hkn;have HON:=hI hon;have HNN:=hI hnn;have HCH:=hI hch;clear hmn hkn hon hnn hch;have n0:wn.cell? ⟨xb,0,none⟩=some (.int .i64 (t:Int)):=Zaa HMN.out.xc 0 _ rfl;have n1':wn.cell? ⟨xb,1,none⟩=some (.slice OA old.length oc):=Zaa HMN.out.xc 1 _ rfl;have n2':wn.cell? ⟨xb,2,none⟩=some (.slice NA new.length nc):=Zaa HMN.out.xc 2 _ rfl;have hown:∀ b,some b=(Value.slice A l.length c).ownBlock→B0≤b∧b<xb:=(fun b e=>by have:=HI2.out.mkl.base_le e.symm;omega);have hln:xb<wn.heap.size:=Zad HMN.out.xc;have HIN:=hI (HI2.out.keep HMN.out.fr HMN.out.case hgl HSG.out);have HTB:=hI (show ∀ b,(xb<b∧b<wn.heap.size)→False∨Beh B0 wn (.slice A l.length c) b from fun b hb=>.inr ⟨by omega,hb.2,fun e=>by have:=(HI2.out.mkl.base_le e.symm).2;have:=hb.1;omega⟩)
        go_wp2_with (at_builtin;refine wpList_append_mkf rfl (.tmp 108) (.tmp 110) 23 rfl B0 (fun _=>False) 44 i0 _ 3 56 Tryz.underlying23 hi hz0 hz1 hz2 rfl (by decide) _ _ _ _ _ HIN.out.mkl rfl (ZaC (⟨t,old,new⟩:Chg)) #[.int .i64 (t:Int),.slice OA old.length oc,.slice NA new.length nc] (ZeQ ⟨HON.out.1,HON.out.2.more HTB.out⟩ ⟨HNN.out.1,HNN.out.2.more HTB.out⟩) (Zdl _) (Zbv _) 1 rfl (by omega) (by omega) ?_;intro g7 cap7 wl hm7 hb7 hlt7 hf7 hat7;have HM7:=hI hm7;have HF7:=hI hf7;have HAT7:=hI hat7;have hz7:=hf7.size;have v0:=(hf7.cell (b:=w.heap.size) (o:=0) (by omega) (fun e=>by have:=hown _ e;omega)).trans HIN.out.b0;have v1:=(hf7.cell (b:=w.heap.size) (o:=1) (by omega) (fun e=>by have:=hown _ e;omega)).trans HIN.out.b1;have v2:=(hf7.cell (b:=w.heap.size+1) (o:=0) (by omega) (fun e=>by have:=hown _ e;omega)).trans HIN.out.s0;have v5:=(hf7.frozenF (b:=w.heap.size+1) (o:=0) (by omega) (fun e=>by have:=hown _ e;omega)).trans HIN.out.sf;have v3:=(hf7.cell (b:=xb) (o:=0) (by omega) (fun e=>by have:=hown _ e;omega)).trans n0;have v4:=(hf7.cell (b:=xb) (o:=2) (by omega) (fun e=>by have:=hown _ e;omega)).trans n2';clear hm7 hb7 hlt7 hf7 hat7)
        have HL:=hI (HIN.out.push (x:=(⟨t,old,new⟩:Chg)) hgl HSG.out HM7.out HF7.out HAT7.out);have HXL:=hI ((HF7.out.block xb (Zad HMN.out.xc) (fun e=>by have:=hown _ e;omega)).trans HMN.out.xc);have HKL:=hI (show RowT wl xb KA kc key from ⟨HKN.out.1,(HKN.out.2.keep (HF7.out.same (fun b hb=>⟨hb.2,fun e=>by have:=hown _ e;have:=hb.1;omega⟩))).more (fun b hb=>⟨hb.1,by have:=hb.2;omega⟩)⟩);have HNL:=hI (show RowT wl xb NA nc (new) from ⟨HNN.out.1,(HNN.out.2.keep (HF7.out.same (fun b hb=>⟨hb.2,fun e=>by have:=hown _ e;have:=hb.1;omega⟩))).more (fun b hb=>⟨hb.1,by have:=hb.2;omega⟩)⟩);have hTL:∀ b,(xb<b∧b<wl.heap.size)→some b≠(Value.slice (some ⟨g7,0,none⟩) (l++[(⟨t,old,new⟩:Chg)]).length cap7).ownBlock→(S b∨(w.heap.size+3≤b∧b<B0∧b≠gt)∨Beh B0 wl (.slice (some ⟨g7,0,none⟩) (l++[(⟨t,old,new⟩:Chg)]).length cap7) b):=fun b hb hne=>.inr (.inr ⟨by omega,hb.2,hne⟩)
        have hg7n:∀ b,(xb<b∧b<wn.heap.size)→some b≠(Value.slice (some ⟨g7,0,none⟩) (l++[(⟨t,old,new⟩:Chg)]).length cap7).ownBlock:=fun b hb e=>by
         have e9:b=g7:=(by simpa [Value.ownBlock] using e);rcases HAT7.out with h9 | h9
         · have:=hown g7 h9.symm;omega
         · omega
        have hput:=ZhB (some ⟨bT,oT,none⟩) c0' s gt cc cur t KA kc key NA nc (new) (fun b=>S b∨(w.heap.size+3≤b∧b<B0∧b≠gt)∨Beh B0 wl (.slice (some ⟨g7,0,none⟩) (l++[(⟨t,old,new⟩:Chg)]).length cap7) b) wl ((HS.out.keep (show Same S w wl from fun b hb=>(HL.out).gr.block b (hSw b hb) (fun e=>(HSG.out b hb).2 (by injection e)))).more (fun b hb=>.inl hb)) HL.out.stc (((HKN.out.2.keep (HF7.out.same (fun b hb=>⟨hb.2,fun e=>by have:=hown _ e;have:=hb.1;omega⟩))).more (fun b hb=>hTL b ⟨hb.1,by have:=hb.2;omega⟩ (hg7n b hb)))) (((HNN.out.2.keep (HF7.out.same (fun b hb=>⟨hb.2,fun e=>by have:=hown _ e;have:=hb.1;omega⟩))).more (fun b hb=>hTL b ⟨hb.1,by have:=hb.2;omega⟩ (hg7n b hb)))) htl htc (by have:=Zbl cur t;have:=HCT.out;omega) (by have:=HCL.out;omega);rw [HCL.out] at hput;have HPUT:=hI hput;have hzl:xb<wl.heap.size:=Zad HXL.out;clear hput hTL hg7n hown;have hlw3:w.heap.size+3<wl.heap.size:=(by omega);refine HPUT.out.mono ?_;rintro e wp ⟨rfl,hstp,hfp⟩;have HSTP:=hI hstp;have HFP:=hI hfp;have hzp:=hfp.size;have tf:=(hfp.frozenF (b:=w.heap.size+1) (o:=0) (by show _<wl.heap.size;omega) (by omega)).trans v5;have tc:=(hfp.cell (b:=w.heap.size+1) (o:=0) (by show _<wl.heap.size;omega) (by omega)).trans v2;clear hstp hfp v0 v1 v2 v3 v4 v5;have HF:=hI (HL.out.put hgl HSG.out HSTP.out HFP.out);have HPE:=hI (put_chg HCO.out htc (x:=(⟨t,old,new⟩:Chg)) rfl HCH.out.2.2)
        go_wp2_with fail
        go_roundw
        case rel =>
         have hf9:=HF.out;rw [show (new)=(⟨t,old,new⟩:Chg).new from rfl,HPE.out] at hf9;exact⟨n1,l++[(⟨t,old,new⟩:Chg)],some ⟨g7,0,none⟩,cap7,_,by simp;omega,by simp,by go_num,hf9,(ZeW HCO.out HCH.out.1).1,Fit.snoc HFI.out HCH.out.1 (by rw [←HAF.out];exact HCH.out.2.1),by rw [after_snoc,←HAF.out]⟩
        case measure=>(simp [intOf];try omega)
structure Kp (g:Nat) (w w':World):Prop where
 sz:w.heap.size≤w'.heap.size
 blk:∀ b,b<w.heap.size→b≠g→w'.heap[b]?=w.heap[b]?
abbrev LtG (w:World) (g:Nat):Nat→Prop:=fun b=>b<w.heap.size∧b≠g
def Bx (w:World) (g b:Nat) (vs:Array Value) (t:TypeId):Prop:=w.heap[b]?=some (.cells vs t (0,0))∧b≠g
section
variable {g:Nat} {w w':World} {A:Option Addr}
theorem Kp.below (h:Below w.heap.size w w'):Kp g w w':=⟨h.size,fun b hb _=>h.block b hb⟩
theorem Kp.grown (h:w.grownBy w' (some g)):Kp g w w':=⟨h.size,fun b hb hn=>h.block b hb (fun e=>by injection e with e;exact hn e)⟩
theorem Kp.lt (k:Kp g w w'):∀ b,LtG w g b→LtG w' g b:=fun b hb=>⟨by have:=k.sz;have:=hb.1;omega,hb.2⟩
theorem Kp.sl {l:List Dat} (k:Kp g w w') (h:Sl w (LtG w g) A l):Sl w' (LtG w' g) A l:=Sl.more (Sl.keep h (fun b hb=>k.blk b hb.1 hb.2)) k.lt
theorem Kp.tab {l:List Tab} (k:Kp g w w') (h:TabS w (LtG w g) A l):TabS w' (LtG w' g) A l:=k.sl h
theorem Kp.st {l:St} (k:Kp g w w') (h:StS w (LtG w g) A l):StS w' (LtG w' g) A l:=k.sl h
theorem Kp.ch {l:List Chg} (k:Kp g w w') (h:ChgS w (LtG w g) A l):ChgS w' (LtG w' g) A l:=k.sl h
theorem Kp.bx {b:Nat} {vs:Array Value} {t:TypeId} (k:Kp g w w') (h:Bx w g b vs t):Bx w' g b vs t:=⟨(k.blk b (Zad h.1) h.2).trans h.1,h.2⟩
theorem Bx.lt {b:Nat} {vs:Array Value} {t:TypeId} (h:Bx w g b vs t):b<w.heap.size:=Zad h.1
theorem Bx.at_ {b:Nat} {vs:Array Value} {t:TypeId} (h:Bx w g b vs t) (j:Nat) (u:Value) (hu:vs.toList[j]?=some u):w.cell? ⟨b,j,none⟩=some u:=by
 have:=Zaa h.1 j u hu;rwa [Nat.zero_add] at this
end
end Go.Proofs.YtkpjjfhfbpfjpaaGreat
