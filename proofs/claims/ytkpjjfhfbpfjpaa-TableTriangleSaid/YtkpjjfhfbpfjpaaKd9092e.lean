import Derived.Test.YtkpjjfhfbpfjpaaK1d267e
import Derived.Test.YtkpjjfhfbpfjpaaK49244f
import Derived.Test.YtkpjjfhfbpfjpaaK879bd8
import Derived.Test.YtkpjjfhfbpfjpaaK7ecf46
import Derived.Test.YtkpjjfhfbpfjpaaK868ea6
import Derived.Test.YtkpjjfhfbpfjpaaK907fdd
import Derived.Deep.Cut
import Derived.Deep.CutRange
import Derived.Deep.DeepCutAuto
set_option linter.unusedVariables false
set_option linter.unusedSimpArgs false
set_option maxRecDepth 100000
set_option maxHeartbeats 8000000
namespace Go.Proofs.Ytkpjjfhfbpfjpaa
open Go.RowKit
theorem Kp.rt {g:Nat} {w w':World} {A:Option Addr} {l:List Tab} (k:Kp g w w') (h:TabS w (Rng g w) A l):TabS w' (Rng g w') A l:=Sl.more (Sl.keep h (fun b hb=>k.blk b hb.2 (by have:=hb.1;omega))) (fun b hb=>⟨hb.1,by have:=k.sz;have:=hb.2;omega⟩)
theorem Zao {P:Program} {ops:Array Oper} {Q:Exit→Act→World→Prop} {md:Region.Mode} {S:World→Prop} {d n:Nat} {listed:Array Bool} {a:Act} {w:World} (n':Nat) (L':Array Bool) (f:Nat→Nat→Nat→Made→Made→Made→Act→Act) (F:Nat→Nat→Nat→Made→Made→Made→World→Prop)
  (h1:∀ q6 q7 q8 x y z W,F q6 q7 q8 x y z W→AnyU P md ops Q S d n' L' (f q6 q7 q8 x y z a) W) (h2:(∀ q6 q7 q8 x y z W,F q6 q7 q8 x y z W→AnyU P md ops Q S d n' L' (f q6 q7 q8 x y z a) W)→AnyU P md ops Q S d n listed a w):AnyU P md ops Q S d n listed a w:=h2 h1
theorem ZfV {s:Sch} {m:Int} {a b:St} (hgs:GenS s) (hm:Zcm m=true) (ha:StOk s m a) (hb:StOk s m b) (ca:Zak a≤16) (cb:Zak b≤16):ZfQ (schF pcF s) s m a b=(0,Zbu s a b)∧(Zbu s a b).length≤32:=by
 refine⟨?_,by have h9:=Zfg s a b 0;show (ZbF s 0 a b).length≤32;omega⟩;unfold ZfQ;rw [hgs.check,ha.check hm (by omega),hb.check hm (by omega)];simp only [ne_eq,not_true,if_false]
theorem ZgW {w:World} {S:Nat→Prop} {A:Option Addr} {l:List Chg} (h:ChgS w S A l):∃ vs,Dat.ValsAll w S (l.map Zal) vs∧(0<l.length→∃ b off,A=some ⟨b,off,none⟩∧S b∧CellsAt w b off vs):=by
 obtain⟨vs,h1,h2⟩:=Sl.vals h;exact⟨vs,h1,fun h0=>h2 (by simpa using h0)⟩
theorem tri_walk (a:Option Addr) (len cap0:Nat) (zs:List Int) (w:World) (hrow:IsRow .u8 w a len cap0 zs) :
  Calls Try.prog 9 #[.slice a len cap0] w (ZaS true w):=by
 have HROW:=hI hrow;clear hrow;obtain⟨i0,hi,hz0,hz1c,hz2⟩:=info_parts ZhJ;go_enter Try.func9,Try.ntmps9
 go_wp2_with fail
 refine(new_any a len cap0 zs 240 _ (by omega) HROW.out).mono ?_;rintro e w1 ⟨g,rfl,hg0,hc1,hb1⟩;have HC:=hI hc1;have HB:=hI hb1;have hz1:=hb1.size;clear hc1 hb1 HROW
 go_wp2_with fail
 refine(schema_any g _ HC.out).mono ?_;rintro e w2 ⟨s,A0,c0',rfl,hgs,hcap,hts,hc2,hg2⟩;have hsl:=hgs.len;have HGS:=hI hgs;have HTS':=hI (show TabS w2 (LtG w2 g) A0 s.tabs from hts.more (fun b hb=>⟨hb.2,by have:=HC.out.lt;have:=hb.1;omega⟩));have HTR':=hI (show TabS w2 (Rng g w2) A0 s.tabs from hts.more (fun b hb=>⟨by have:=HC.out.lt;have:=hb.1;omega,hb.2⟩));have hkw2:=Kp.grown (g:=g) hg2;have HB:=hI (ZdC HB.out hg2 hg0 HB.out.size);have hzw2:w1.heap.size≤w2.heap.size:=hkw2.sz;clear hkw2;have HTS:=HTS';have HTR:=HTR';have HC:=hI hc2;clear HTS' HTR' hgs hts hc2 hg2 hcap;obtain⟨w3,hw3⟩:∃ w3,w2.alloc (.cells #[.int .i64 s.version,.slice A0 s.tabs.length c0'] 25)=w3:=⟨_,rfl⟩;have hbw3:Below w2.heap.size w2 w3:=(by rw [←hw3];exact(Below.refl _ _).alloc nR _);obtain⟨sb,hsb⟩:∃ sb,w2.heap.size=sb:=⟨_,rfl⟩;have SB':=hI (show Bx w3 g sb #[.int .i64 s.version,.slice A0 s.tabs.length c0'] 25 from ⟨by rw [←hw3,←hsb];exact heap_alloc_new w2 _,by have:=HC.out.lt;omega⟩);have hkw3:=Kp.below (g:=g) hbw3;have HTS:=hI (hkw3.tab HTS.out);have HTR:=hI (hkw3.rt HTR.out);have HB:=hI (HB.out.trans (hbw3.mono HB.out.size));have HC:=hI (HC.out.keep (fun b hb'=>hbw3.block b (by have:=HC.out.lt;omega)));have hzw3:w2.heap.size≤w3.heap.size:=hkw3.sz;clear hkw3;have SB:=SB';clear SB' hbw3;have s0:w3.cell? ⟨sb,0,none⟩=some (.int .i64 s.version):=SB.out.at_ 0 _ rfl;have s1:w3.cell? ⟨sb,1,none⟩=some (.slice A0 s.tabs.length c0'):=SB.out.at_ 1 _ rfl;have sl:sb<w3.heap.size:=SB.out.lt
 go_wp2_with fail
 try rw [hw3]
 try rw [hsb]
 clear hw3 hsb;clear s0 s1 sl;refine(ZaO g 3 _ (by omega) HC.out).mono ?_;rintro e w4 ⟨r,rfl,r0,r1,-,hc4,hg4,-⟩;have hr3:=r1 (by omega);have hkw4:=Kp.grown (g:=g) hg4;have HTS:=hI (hkw4.tab HTS.out);have HTR:=hI (hkw4.rt HTR.out);have SB:=hI (hkw4.bx SB.out);have HB:=hI (ZdC HB.out hg4 hg0 HB.out.size);have hzw4:w3.heap.size≤w4.heap.size:=hkw4.sz;clear hkw4;have HC:=hI hc4;clear hc4 hg4 r1;obtain⟨m,hm⟩:∃ m,1+r=m:=⟨_,rfl⟩;have HMO:=hI (show Zcm m=true by rw [←hm];have:r=0∨r=1∨r=2:=(by omega);rcases this with rfl | rfl | rfl<;>rfl);have hm0:IntKind.i64.wrap (1+r)=m:=(by rw [←hm];exact IntWalk.i64_in _ (by omega));have hmb:1≤m∧m≤3:=(by omega);have s0:w4.cell? ⟨sb,0,none⟩=some (.int .i64 s.version):=SB.out.at_ 0 _ rfl;have s1:w4.cell? ⟨sb,1,none⟩=some (.slice A0 s.tabs.length c0'):=SB.out.at_ 1 _ rfl;have sl:sb<w4.heap.size:=SB.out.lt;go_upto_region 4 with fail
 try rw [hm]
 clear s0 s1 sl;clear hm hm0;have hgs4:=HC.out.lt;have hsb4:=SB.out.lt;have hsbg:=SB.out.2
 go_cut [6,7,8] (fun p q u W=>∃ (p6 p7 p8 g1:Nat) (sta:St) (g2:Nat) (stb:St) (g3:Nat) (stc:St),p=.pointer (some ⟨p6,0,none⟩)∧q=.pointer (some ⟨p7,0,none⟩)∧u=.pointer (some ⟨p8,0,none⟩)∧Three w4 W g s m sb (.cells #[.int .i64 s.version,.slice A0 s.tabs.length c0'] 25 (0,0)) p6 p7 p8 g1 sta g2 stb g3 stc)
 case first =>
  obtain⟨y0,hy0⟩:∃ y0,w4.drew=y0:=⟨_,rfl⟩;have HF:=hI (show Way w4 y0 g s m sb (.cells #[.int .i64 s.version,.slice A0 s.tabs.length c0'] 25 (0,0)) [none,none,none] [] by rw [←hy0];exact⟨⟨⟨rfl,rfl,rfl,Nat.le_refl _,fun _ _ _=>rfl⟩,HC.out.keep (fun _ _=>rfl)⟩,SB.out.1,fun p hp=>by simp at hp,by simp,fun x hx=>by simp at hx,fun p hp x hx=>by simp at hx⟩);refine tS (fun w'=>w'.heap[sb]?=some (.cells #[.int .i64 s.version,.slice A0 s.tabs.length c0'] 25 (0,0))) 17 18 fun Q' HQ HP=>?_;rw [hy0];clear hy0;refine tX 0 24 2 26 4 28 6 30 (bA 18 85) HP.out HF.out.sbx ?_;refine tW 8 32 10 34 (bA 18 1365) HP.out HF.out.sbx ?_;refine anyT_take (i:=1) (oi:=⟨some 25,_,_,_,_,_⟩) (v:=.agg #[.int .i64 s.version,.slice A0 s.tabs.length c0']) (L':=(bA 18 1367)) rfl rfl (by kernel_rfl) (by kernel_rfl) (by kernel_rfl) (by kernel_rfl) (by kernel_rfl) HP.out (Or.inl ⟨by rfl,?_⟩) HF.out.sbx ?_
  · intro w' hSw;have x0:=Zaa hSw 0 _ rfl;have x1:=Zaa hSw 1 _ rfl;go_simp
    (try with_reducible rfl)
  simp only [psA,psB,psC];refine anyT_take (i:=5) (oi:=⟨some 29,_,_,_,_,_⟩) (v:=.agg #[.int .i64 s.version,.slice A0 s.tabs.length c0']) (L':=(bA 18 1399)) rfl rfl (by kernel_rfl) (by kernel_rfl) (by kernel_rfl) (by kernel_rfl) (by kernel_rfl) HP.out (Or.inl ⟨by rfl,?_⟩) HF.out.sbx ?_
  · intro w' hSw;have x0:=Zaa hSw 0 _ rfl;have x1:=Zaa hSw 1 _ rfl;go_simp
    (try with_reducible rfl)
  simp only [psA,psB,psC];refine anyT_take (i:=9) (oi:=⟨some 33,_,_,_,_,_⟩) (v:=.agg #[.int .i64 s.version,.slice A0 s.tabs.length c0']) (L':=(bA 18 1911)) rfl rfl (by kernel_rfl) (by kernel_rfl) (by kernel_rfl) (by kernel_rfl) (by kernel_rfl) HP.out (Or.inl ⟨by rfl,?_⟩) HF.out.sbx ?_
  · intro w' hSw;have x0:=Zaa hSw 0 _ rfl;have x1:=Zaa hSw 1 _ rfl;go_simp
    (try with_reducible rfl)
  simp only [psA,psB,psC];refine Zao 3 (bA 18 32767) (fun q6 q7 q8 x y z act=>((((((act.put (some 27) (Zay (some ⟨x.gt,0,none⟩) x.st.length x.st.length)).put (some 31) (Zay (some ⟨y.gt,0,none⟩) y.st.length y.st.length)).put (some 35) (Zay (some ⟨z.gt,0,none⟩) z.st.length z.st.length)).put (some 6) (.pointer (some ⟨q6,0,none⟩))).put (some 7) (.pointer (some ⟨q7,0,none⟩))).put (some 8) (.pointer (some ⟨q8,0,none⟩)))) (fun q6 q7 q8 x y z W=>Way w4 W g s m sb (.cells #[.int .i64 s.version,.slice A0 s.tabs.length c0'] 25 (0,0)) [some q6,some q7,some q8] [x,y,z]) (fun q6 q7 q8 x y z W hF=>?_) (fun N3111=>?_)
  · simp only [Act.put,psA,psB,psC];have HF:=hI hF;clear hF;obtain⟨n6,n7,n8,n67,n68,n78,b6,b7,b8,s6,s7,s8⟩:=HF.out.boxes hsb4;have HDN:=hI (HF.out.done HGS.out hsb4 hgs4);have l6:=Zad b6;have l7:=Zad b7;have l8:=Zad b8;have ca:W.cell? ⟨q6,0,none⟩=some (.slice none 0 0):=Zaa b6 0 _ rfl;have fa:W.frozen? ⟨q6,0,none⟩=false:=(by simp [World.frozen?,b6]);have e7:=(Below.heap_setCell W ⟨q6,0,none⟩ (.slice (some ⟨x.gt,0,none⟩) x.st.length x.st.length) q7 (Ne.symm n67)).trans b7;have e8:=(Below.heap_setCell (W.setCell ⟨q6,0,none⟩ (.slice (some ⟨x.gt,0,none⟩) x.st.length x.st.length)) ⟨q7,0,none⟩ (.slice (some ⟨y.gt,0,none⟩) y.st.length y.st.length) q8 (Ne.symm n78)).trans ((Below.heap_setCell W ⟨q6,0,none⟩ (.slice (some ⟨x.gt,0,none⟩) x.st.length x.st.length) q8 (Ne.symm n68)).trans b8);have SB6:=hI ((Below.heap_setCell W ⟨q6,0,none⟩ (.slice (some ⟨x.gt,0,none⟩) x.st.length x.st.length) sb s6).trans HF.out.sbx);have SB7:=hI ((Below.heap_setCell (W.setCell ⟨q6,0,none⟩ (.slice (some ⟨x.gt,0,none⟩) x.st.length x.st.length)) ⟨q7,0,none⟩ (.slice (some ⟨y.gt,0,none⟩) y.st.length y.st.length) sb s7).trans SB6.out);have cb:(W.setCell ⟨q6,0,none⟩ (.slice (some ⟨x.gt,0,none⟩) x.st.length x.st.length)).cell? ⟨q7,0,none⟩=some (.slice none 0 0):=Zaa e7 0 _ rfl;have fb:(W.setCell ⟨q6,0,none⟩ (.slice (some ⟨x.gt,0,none⟩) x.st.length x.st.length)).frozen? ⟨q7,0,none⟩=false:=(by simp [World.frozen?,e7]);have cc:((W.setCell ⟨q6,0,none⟩ (.slice (some ⟨x.gt,0,none⟩) x.st.length x.st.length)).setCell ⟨q7,0,none⟩ (.slice (some ⟨y.gt,0,none⟩) y.st.length y.st.length)).cell? ⟨q8,0,none⟩=some (.slice none 0 0):=Zaa e8 0 _ rfl;have fc:((W.setCell ⟨q6,0,none⟩ (.slice (some ⟨x.gt,0,none⟩) x.st.length x.st.length)).setCell ⟨q7,0,none⟩ (.slice (some ⟨y.gt,0,none⟩) y.st.length y.st.length)).frozen? ⟨q8,0,none⟩=false:=(by simp [World.frozen?,e8]);clear b6 b7 b8 e7 e8 HF;refine tQ 15 none (bA 18 65535) fun K HK=>?_;go_simp;refine HK.out _ _ (fun _=>SB6.out) ?_;clear HK K
    try simp only [Act.put,psA,psB,psC]
    refine tQ 16 none (bA 18 131071) fun K HK=>?_;go_simp;refine HK.out _ _ (fun _=>SB7.out) ?_;clear HK K
    try simp only [Act.put,psA,psB,psC]
    refine tQ 17 none (bA 18 262143) fun K HK=>?_;go_simp;refine HK.out _ _ (fun h=>absurd rfl h) ?_;clear HK K;refine tE HQ ?_;clear HQ HP Q'
    go_wp2_with fail
    go_meet;exact⟨q6,q7,q8,x.gt,x.st,y.gt,y.st,z.gt,z.st,rfl,rfl,rfl,HDN.out⟩
  try simp only [Act.put,psA,psB,psC] at N3111
  refine Zao 4 (bA 18 16383) (fun q6 q7 q8 x y z act=>(((((act.put (some 27) (Zay (some ⟨x.gt,0,none⟩) x.st.length x.st.length)).put (some 31) (Zay (some ⟨y.gt,0,none⟩) y.st.length y.st.length)).put (some 35) (Zay (some ⟨z.gt,0,none⟩) z.st.length z.st.length)).put (some 6) (.pointer (some ⟨q6,0,none⟩))).put (some 7) (.pointer (some ⟨q7,0,none⟩)))) (fun q6 q7 q8 x y z W=>Way w4 W g s m sb (.cells #[.int .i64 s.version,.slice A0 s.tabs.length c0'] 25 (0,0)) [some q6,some q7,none] [x,y,z]) (fun q6 q7 q8 x y z W hF=>?_) (fun N3110=>?_)
  · simp only [Act.put,psA,psB,psC];have HF:=hI hF;clear hF;refine tQ 14 (some 8) (bA 18 32767) fun K HK=>?_;go_simp;have HW:=hI (HF.out.alloc (B1:=[some q6,some q7]) (B2:=[]) hsbg hgs4);refine HK.out _ _ (fun _=>HW.out.sbx) ?_;clear HK K
    try simp only [Act.put,psA,psB,psC]
    exact N3111 q6 q7 W.heap.size x y z (W.alloc (.cells #[.slice none 0 0] 56)) HW.out
  try simp only [Act.put,psA,psB,psC] at N3110
  refine Zao 4 (bA 18 24575) (fun q6 q7 q8 x y z act=>(((((act.put (some 27) (Zay (some ⟨x.gt,0,none⟩) x.st.length x.st.length)).put (some 31) (Zay (some ⟨y.gt,0,none⟩) y.st.length y.st.length)).put (some 35) (Zay (some ⟨z.gt,0,none⟩) z.st.length z.st.length)).put (some 6) (.pointer (some ⟨q6,0,none⟩))).put (some 8) (.pointer (some ⟨q8,0,none⟩)))) (fun q6 q7 q8 x y z W=>Way w4 W g s m sb (.cells #[.int .i64 s.version,.slice A0 s.tabs.length c0'] 25 (0,0)) [some q6,none,some q8] [x,y,z]) (fun q6 q7 q8 x y z W hF=>?_) (fun N3101=>?_)
  · simp only [Act.put,psA,psB,psC];have HF:=hI hF;clear hF;refine tQ 13 (some 7) (bA 18 32767) fun K HK=>?_;go_simp;have HW:=hI (HF.out.alloc (B1:=[some q6]) (B2:=[some q8]) hsbg hgs4);refine HK.out _ _ (fun _=>HW.out.sbx) ?_;clear HK K
    try simp only [Act.put,psA,psB,psC]
    exact N3111 q6 W.heap.size q8 x y z (W.alloc (.cells #[.slice none 0 0] 56)) HW.out
  try simp only [Act.put,psA,psB,psC] at N3101
  refine Zao 4 (bA 18 28671) (fun q6 q7 q8 x y z act=>(((((act.put (some 27) (Zay (some ⟨x.gt,0,none⟩) x.st.length x.st.length)).put (some 31) (Zay (some ⟨y.gt,0,none⟩) y.st.length y.st.length)).put (some 35) (Zay (some ⟨z.gt,0,none⟩) z.st.length z.st.length)).put (some 7) (.pointer (some ⟨q7,0,none⟩))).put (some 8) (.pointer (some ⟨q8,0,none⟩)))) (fun q6 q7 q8 x y z W=>Way w4 W g s m sb (.cells #[.int .i64 s.version,.slice A0 s.tabs.length c0'] 25 (0,0)) [none,some q7,some q8] [x,y,z]) (fun q6 q7 q8 x y z W hF=>?_) (fun N3011=>?_)
  · simp only [Act.put,psA,psB,psC];have HF:=hI hF;clear hF;refine tQ 12 (some 6) (bA 18 32767) fun K HK=>?_;go_simp;have HW:=hI (HF.out.alloc (B1:=[]) (B2:=[some q7,some q8]) hsbg hgs4);refine HK.out _ _ (fun _=>HW.out.sbx) ?_;clear HK K
    try simp only [Act.put,psA,psB,psC]
    exact N3111 W.heap.size q7 q8 x y z (W.alloc (.cells #[.slice none 0 0] 56)) HW.out
  try simp only [Act.put,psA,psB,psC] at N3011
  refine Zao 4 (bA 18 30719) (fun q6 q7 q8 x y z act=>(((((act.put (some 27) (Zay (some ⟨x.gt,0,none⟩) x.st.length x.st.length)).put (some 31) (Zay (some ⟨y.gt,0,none⟩) y.st.length y.st.length)).put (some 6) (.pointer (some ⟨q6,0,none⟩))).put (some 7) (.pointer (some ⟨q7,0,none⟩))).put (some 8) (.pointer (some ⟨q8,0,none⟩)))) (fun q6 q7 q8 x y z W=>Way w4 W g s m sb (.cells #[.int .i64 s.version,.slice A0 s.tabs.length c0'] 25 (0,0)) [some q6,some q7,some q8] [x,y]) (fun q6 q7 q8 x y z W hF=>?_) (fun N2111=>?_)
  · simp only [Act.put,psA,psB,psC];have HF:=hI hF;clear hF;refine tQ 11 (some 35) (bA 18 32767) fun K HK=>?_;go_simp;refine(ZaN HTR.out hgs4 HGS.out HMO.out HF.out.gx).mono ?_;rintro e wn ⟨gt,st,rfl,ns,ngx,hgn⟩;have HW:=hI (HF.out.call ns ngx hgn hsbg hgs4);clear ns ngx hgn;refine HK.out _ _ (fun _=>HW.out.sbx) ?_;clear HK K
    try simp only [Act.put,psA,psB,psC]
    exact N3111 q6 q7 q8 x y ⟨W.heap.size,wn.heap.size,gt,st⟩ wn HW.out
  try simp only [Act.put,psA,psB,psC] at N2111
  refine Zao 5 (bA 18 8191) (fun q6 q7 q8 x y z act=>((((act.put (some 27) (Zay (some ⟨x.gt,0,none⟩) x.st.length x.st.length)).put (some 31) (Zay (some ⟨y.gt,0,none⟩) y.st.length y.st.length)).put (some 35) (Zay (some ⟨z.gt,0,none⟩) z.st.length z.st.length)).put (some 6) (.pointer (some ⟨q6,0,none⟩)))) (fun q6 q7 q8 x y z W=>Way w4 W g s m sb (.cells #[.int .i64 s.version,.slice A0 s.tabs.length c0'] 25 (0,0)) [some q6,none,none] [x,y,z]) (fun q6 q7 q8 x y z W hF=>?_) (fun N3100=>?_)
  · simp only [Act.put,psA,psB,psC];have HF:=hI hF;clear hF;refine Zbh (i:=13) (j:=14) (oi:=⟨some 7,_,_,_,_,_⟩) (oj:=⟨some 8,_,_,_,_,_⟩) (Li:=(bA 18 16383)) (Lj:=(bA 18 24575)) rfl rfl (by kernel_rfl) (by kernel_rfl) (by kernel_rfl) (fun K hK=>?_) (fun K hK=>?_)
    · have HK:=hI hK;clear hK;go_simp;have HW:=hI (HF.out.alloc (B1:=[some q6]) (B2:=[none]) hsbg hgs4);refine HK.out _ _ (fun _=>HW.out.sbx) ?_;clear HK K
      try simp only [Act.put,psA,psB,psC]
      exact N3110 q6 W.heap.size 0 x y z (W.alloc (.cells #[.slice none 0 0] 56)) HW.out
    · have HK:=hI hK;clear hK;go_simp;have HW:=hI (HF.out.alloc (B1:=[some q6,none]) (B2:=[]) hsbg hgs4);refine HK.out _ _ (fun _=>HW.out.sbx) ?_;clear HK K
      try simp only [Act.put,psA,psB,psC]
      exact N3101 q6 0 W.heap.size x y z (W.alloc (.cells #[.slice none 0 0] 56)) HW.out
  try simp only [Act.put,psA,psB,psC] at N3100
  refine Zao 5 (bA 18 12287) (fun q6 q7 q8 x y z act=>((((act.put (some 27) (Zay (some ⟨x.gt,0,none⟩) x.st.length x.st.length)).put (some 31) (Zay (some ⟨y.gt,0,none⟩) y.st.length y.st.length)).put (some 35) (Zay (some ⟨z.gt,0,none⟩) z.st.length z.st.length)).put (some 7) (.pointer (some ⟨q7,0,none⟩)))) (fun q6 q7 q8 x y z W=>Way w4 W g s m sb (.cells #[.int .i64 s.version,.slice A0 s.tabs.length c0'] 25 (0,0)) [none,some q7,none] [x,y,z]) (fun q6 q7 q8 x y z W hF=>?_) (fun N3010=>?_)
  · simp only [Act.put,psA,psB,psC];have HF:=hI hF;clear hF;refine Zbh (i:=12) (j:=14) (oi:=⟨some 6,_,_,_,_,_⟩) (oj:=⟨some 8,_,_,_,_,_⟩) (Li:=(bA 18 16383)) (Lj:=(bA 18 28671)) rfl rfl (by kernel_rfl) (by kernel_rfl) (by kernel_rfl) (fun K hK=>?_) (fun K hK=>?_)
    · have HK:=hI hK;clear hK;go_simp;have HW:=hI (HF.out.alloc (B1:=[]) (B2:=[some q7,none]) hsbg hgs4);refine HK.out _ _ (fun _=>HW.out.sbx) ?_;clear HK K
      try simp only [Act.put,psA,psB,psC]
      exact N3110 W.heap.size q7 0 x y z (W.alloc (.cells #[.slice none 0 0] 56)) HW.out
    · have HK:=hI hK;clear hK;go_simp;have HW:=hI (HF.out.alloc (B1:=[none,some q7]) (B2:=[]) hsbg hgs4);refine HK.out _ _ (fun _=>HW.out.sbx) ?_;clear HK K
      try simp only [Act.put,psA,psB,psC]
      exact N3011 0 q7 W.heap.size x y z (W.alloc (.cells #[.slice none 0 0] 56)) HW.out
  try simp only [Act.put,psA,psB,psC] at N3010
  refine Zao 5 (bA 18 20479) (fun q6 q7 q8 x y z act=>((((act.put (some 27) (Zay (some ⟨x.gt,0,none⟩) x.st.length x.st.length)).put (some 31) (Zay (some ⟨y.gt,0,none⟩) y.st.length y.st.length)).put (some 35) (Zay (some ⟨z.gt,0,none⟩) z.st.length z.st.length)).put (some 8) (.pointer (some ⟨q8,0,none⟩)))) (fun q6 q7 q8 x y z W=>Way w4 W g s m sb (.cells #[.int .i64 s.version,.slice A0 s.tabs.length c0'] 25 (0,0)) [none,none,some q8] [x,y,z]) (fun q6 q7 q8 x y z W hF=>?_) (fun N3001=>?_)
  · simp only [Act.put,psA,psB,psC];have HF:=hI hF;clear hF;refine Zbh (i:=12) (j:=13) (oi:=⟨some 6,_,_,_,_,_⟩) (oj:=⟨some 7,_,_,_,_,_⟩) (Li:=(bA 18 24575)) (Lj:=(bA 18 28671)) rfl rfl (by kernel_rfl) (by kernel_rfl) (by kernel_rfl) (fun K hK=>?_) (fun K hK=>?_)
    · have HK:=hI hK;clear hK;go_simp;have HW:=hI (HF.out.alloc (B1:=[]) (B2:=[none,some q8]) hsbg hgs4);refine HK.out _ _ (fun _=>HW.out.sbx) ?_;clear HK K
      try simp only [Act.put,psA,psB,psC]
      exact N3101 W.heap.size 0 q8 x y z (W.alloc (.cells #[.slice none 0 0] 56)) HW.out
    · have HK:=hI hK;clear hK;go_simp;have HW:=hI (HF.out.alloc (B1:=[none]) (B2:=[some q8]) hsbg hgs4);refine HK.out _ _ (fun _=>HW.out.sbx) ?_;clear HK K
      try simp only [Act.put,psA,psB,psC]
      exact N3011 0 W.heap.size q8 x y z (W.alloc (.cells #[.slice none 0 0] 56)) HW.out
  try simp only [Act.put,psA,psB,psC] at N3001
  refine Zao 5 (bA 18 14335) (fun q6 q7 q8 x y z act=>((((act.put (some 27) (Zay (some ⟨x.gt,0,none⟩) x.st.length x.st.length)).put (some 31) (Zay (some ⟨y.gt,0,none⟩) y.st.length y.st.length)).put (some 6) (.pointer (some ⟨q6,0,none⟩))).put (some 7) (.pointer (some ⟨q7,0,none⟩)))) (fun q6 q7 q8 x y z W=>Way w4 W g s m sb (.cells #[.int .i64 s.version,.slice A0 s.tabs.length c0'] 25 (0,0)) [some q6,some q7,none] [x,y]) (fun q6 q7 q8 x y z W hF=>?_) (fun N2110=>?_)
  · simp only [Act.put,psA,psB,psC];have HF:=hI hF;clear hF;refine Zbh (i:=11) (j:=14) (oi:=⟨some 35,_,_,_,_,_⟩) (oj:=⟨some 8,_,_,_,_,_⟩) (Li:=(bA 18 16383)) (Lj:=(bA 18 30719)) rfl rfl (by kernel_rfl) (by kernel_rfl) (by kernel_rfl) (fun K hK=>?_) (fun K hK=>?_)
    · have HK:=hI hK;clear hK;go_simp;refine(ZaN HTR.out hgs4 HGS.out HMO.out HF.out.gx).mono ?_;rintro e wn ⟨gt,st,rfl,ns,ngx,hgn⟩;have HW:=hI (HF.out.call ns ngx hgn hsbg hgs4);clear ns ngx hgn;refine HK.out _ _ (fun _=>HW.out.sbx) ?_;clear HK K
      try simp only [Act.put,psA,psB,psC]
      exact N3110 q6 q7 0 x y ⟨W.heap.size,wn.heap.size,gt,st⟩ wn HW.out
    · have HK:=hI hK;clear hK;go_simp;have HW:=hI (HF.out.alloc (B1:=[some q6,some q7]) (B2:=[]) hsbg hgs4);refine HK.out _ _ (fun _=>HW.out.sbx) ?_;clear HK K
      try simp only [Act.put,psA,psB,psC]
      exact N2111 q6 q7 W.heap.size x y ⟨0,0,0,[]⟩ (W.alloc (.cells #[.slice none 0 0] 56)) HW.out
  try simp only [Act.put,psA,psB,psC] at N2110
  refine Zao 5 (bA 18 22527) (fun q6 q7 q8 x y z act=>((((act.put (some 27) (Zay (some ⟨x.gt,0,none⟩) x.st.length x.st.length)).put (some 31) (Zay (some ⟨y.gt,0,none⟩) y.st.length y.st.length)).put (some 6) (.pointer (some ⟨q6,0,none⟩))).put (some 8) (.pointer (some ⟨q8,0,none⟩)))) (fun q6 q7 q8 x y z W=>Way w4 W g s m sb (.cells #[.int .i64 s.version,.slice A0 s.tabs.length c0'] 25 (0,0)) [some q6,none,some q8] [x,y]) (fun q6 q7 q8 x y z W hF=>?_) (fun N2101=>?_)
  · simp only [Act.put,psA,psB,psC];have HF:=hI hF;clear hF;refine Zbh (i:=11) (j:=13) (oi:=⟨some 35,_,_,_,_,_⟩) (oj:=⟨some 7,_,_,_,_,_⟩) (Li:=(bA 18 24575)) (Lj:=(bA 18 30719)) rfl rfl (by kernel_rfl) (by kernel_rfl) (by kernel_rfl) (fun K hK=>?_) (fun K hK=>?_)
    · have HK:=hI hK;clear hK;go_simp;refine(ZaN HTR.out hgs4 HGS.out HMO.out HF.out.gx).mono ?_;rintro e wn ⟨gt,st,rfl,ns,ngx,hgn⟩;have HW:=hI (HF.out.call ns ngx hgn hsbg hgs4);clear ns ngx hgn;refine HK.out _ _ (fun _=>HW.out.sbx) ?_;clear HK K
      try simp only [Act.put,psA,psB,psC]
      exact N3101 q6 0 q8 x y ⟨W.heap.size,wn.heap.size,gt,st⟩ wn HW.out
    · have HK:=hI hK;clear hK;go_simp;have HW:=hI (HF.out.alloc (B1:=[some q6]) (B2:=[some q8]) hsbg hgs4);refine HK.out _ _ (fun _=>HW.out.sbx) ?_;clear HK K
      try simp only [Act.put,psA,psB,psC]
      exact N2111 q6 W.heap.size q8 x y ⟨0,0,0,[]⟩ (W.alloc (.cells #[.slice none 0 0] 56)) HW.out
  try simp only [Act.put,psA,psB,psC] at N2101
  refine Zao 5 (bA 18 26623) (fun q6 q7 q8 x y z act=>((((act.put (some 27) (Zay (some ⟨x.gt,0,none⟩) x.st.length x.st.length)).put (some 31) (Zay (some ⟨y.gt,0,none⟩) y.st.length y.st.length)).put (some 7) (.pointer (some ⟨q7,0,none⟩))).put (some 8) (.pointer (some ⟨q8,0,none⟩)))) (fun q6 q7 q8 x y z W=>Way w4 W g s m sb (.cells #[.int .i64 s.version,.slice A0 s.tabs.length c0'] 25 (0,0)) [none,some q7,some q8] [x,y]) (fun q6 q7 q8 x y z W hF=>?_) (fun N2011=>?_)
  · simp only [Act.put,psA,psB,psC];have HF:=hI hF;clear hF;refine Zbh (i:=11) (j:=12) (oi:=⟨some 35,_,_,_,_,_⟩) (oj:=⟨some 6,_,_,_,_,_⟩) (Li:=(bA 18 28671)) (Lj:=(bA 18 30719)) rfl rfl (by kernel_rfl) (by kernel_rfl) (by kernel_rfl) (fun K hK=>?_) (fun K hK=>?_)
    · have HK:=hI hK;clear hK;go_simp;refine(ZaN HTR.out hgs4 HGS.out HMO.out HF.out.gx).mono ?_;rintro e wn ⟨gt,st,rfl,ns,ngx,hgn⟩;have HW:=hI (HF.out.call ns ngx hgn hsbg hgs4);clear ns ngx hgn;refine HK.out _ _ (fun _=>HW.out.sbx) ?_;clear HK K
      try simp only [Act.put,psA,psB,psC]
      exact N3011 0 q7 q8 x y ⟨W.heap.size,wn.heap.size,gt,st⟩ wn HW.out
    · have HK:=hI hK;clear hK;go_simp;have HW:=hI (HF.out.alloc (B1:=[]) (B2:=[some q7,some q8]) hsbg hgs4);refine HK.out _ _ (fun _=>HW.out.sbx) ?_;clear HK K
      try simp only [Act.put,psA,psB,psC]
      exact N2111 W.heap.size q7 q8 x y ⟨0,0,0,[]⟩ (W.alloc (.cells #[.slice none 0 0] 56)) HW.out
  try simp only [Act.put,psA,psB,psC] at N2011
  refine Zao 5 (bA 18 30591) (fun q6 q7 q8 x y z act=>((((act.put (some 27) (Zay (some ⟨x.gt,0,none⟩) x.st.length x.st.length)).put (some 6) (.pointer (some ⟨q6,0,none⟩))).put (some 7) (.pointer (some ⟨q7,0,none⟩))).put (some 8) (.pointer (some ⟨q8,0,none⟩)))) (fun q6 q7 q8 x y z W=>Way w4 W g s m sb (.cells #[.int .i64 s.version,.slice A0 s.tabs.length c0'] 25 (0,0)) [some q6,some q7,some q8] [x]) (fun q6 q7 q8 x y z W hF=>?_) (fun N1111=>?_)
  · simp only [Act.put,psA,psB,psC];have HF:=hI hF;clear hF;refine tQ 7 (some 31) (bA 18 30719) fun K HK=>?_;go_simp;refine(ZaN HTR.out hgs4 HGS.out HMO.out HF.out.gx).mono ?_;rintro e wn ⟨gt,st,rfl,ns,ngx,hgn⟩;have HW:=hI (HF.out.call ns ngx hgn hsbg hgs4);clear ns ngx hgn;refine HK.out _ _ (fun _=>HW.out.sbx) ?_;clear HK K
    try simp only [Act.put,psA,psB,psC]
    exact N2111 q6 q7 q8 x ⟨W.heap.size,wn.heap.size,gt,st⟩ ⟨0,0,0,[]⟩ wn HW.out
  try simp only [Act.put,psA,psB,psC] at N1111
  refine Zao 6 (bA 18 4095) (fun q6 q7 q8 x y z act=>(((act.put (some 27) (Zay (some ⟨x.gt,0,none⟩) x.st.length x.st.length)).put (some 31) (Zay (some ⟨y.gt,0,none⟩) y.st.length y.st.length)).put (some 35) (Zay (some ⟨z.gt,0,none⟩) z.st.length z.st.length))) (fun q6 q7 q8 x y z W=>Way w4 W g s m sb (.cells #[.int .i64 s.version,.slice A0 s.tabs.length c0'] 25 (0,0)) [none,none,none] [x,y,z]) (fun q6 q7 q8 x y z W hF=>?_) (fun N3000=>?_)
  · simp only [Act.put,psA,psB,psC];have HF:=hI hF;clear hF;refine Zbl (i:=12) (j:=13) (k:=14) (oi:=⟨some 6,_,_,_,_,_⟩) (oj:=⟨some 7,_,_,_,_,_⟩) (ok:=⟨some 8,_,_,_,_,_⟩) (Li:=(bA 18 8191)) (Lj:=(bA 18 12287)) (Lk:=(bA 18 20479)) rfl rfl rfl (by kernel_rfl) (by kernel_rfl) (by kernel_rfl) (by kernel_rfl) (fun K hK=>?_) (fun K hK=>?_) (fun K hK=>?_)
    · have HK:=hI hK;clear hK;go_simp;have HW:=hI (HF.out.alloc (B1:=[]) (B2:=[none,none]) hsbg hgs4);refine HK.out _ _ (fun _=>HW.out.sbx) ?_;clear HK K
      try simp only [Act.put,psA,psB,psC]
      exact N3100 W.heap.size 0 0 x y z (W.alloc (.cells #[.slice none 0 0] 56)) HW.out
    · have HK:=hI hK;clear hK;go_simp;have HW:=hI (HF.out.alloc (B1:=[none]) (B2:=[none]) hsbg hgs4);refine HK.out _ _ (fun _=>HW.out.sbx) ?_;clear HK K
      try simp only [Act.put,psA,psB,psC]
      exact N3010 0 W.heap.size 0 x y z (W.alloc (.cells #[.slice none 0 0] 56)) HW.out
    · have HK:=hI hK;clear hK;go_simp;have HW:=hI (HF.out.alloc (B1:=[none,none]) (B2:=[]) hsbg hgs4);refine HK.out _ _ (fun _=>HW.out.sbx) ?_;clear HK K
      try simp only [Act.put,psA,psB,psC]
      exact N3001 0 0 W.heap.size x y z (W.alloc (.cells #[.slice none 0 0] 56)) HW.out
  try simp only [Act.put,psA,psB,psC] at N3000
  refine Zao 6 (bA 18 6143) (fun q6 q7 q8 x y z act=>(((act.put (some 27) (Zay (some ⟨x.gt,0,none⟩) x.st.length x.st.length)).put (some 31) (Zay (some ⟨y.gt,0,none⟩) y.st.length y.st.length)).put (some 6) (.pointer (some ⟨q6,0,none⟩)))) (fun q6 q7 q8 x y z W=>Way w4 W g s m sb (.cells #[.int .i64 s.version,.slice A0 s.tabs.length c0'] 25 (0,0)) [some q6,none,none] [x,y]) (fun q6 q7 q8 x y z W hF=>?_) (fun N2100=>?_)
  · simp only [Act.put,psA,psB,psC];have HF:=hI hF;clear hF;refine Zbl (i:=11) (j:=13) (k:=14) (oi:=⟨some 35,_,_,_,_,_⟩) (oj:=⟨some 7,_,_,_,_,_⟩) (ok:=⟨some 8,_,_,_,_,_⟩) (Li:=(bA 18 8191)) (Lj:=(bA 18 14335)) (Lk:=(bA 18 22527)) rfl rfl rfl (by kernel_rfl) (by kernel_rfl) (by kernel_rfl) (by kernel_rfl) (fun K hK=>?_) (fun K hK=>?_) (fun K hK=>?_)
    · have HK:=hI hK;clear hK;go_simp;refine(ZaN HTR.out hgs4 HGS.out HMO.out HF.out.gx).mono ?_;rintro e wn ⟨gt,st,rfl,ns,ngx,hgn⟩;have HW:=hI (HF.out.call ns ngx hgn hsbg hgs4);clear ns ngx hgn;refine HK.out _ _ (fun _=>HW.out.sbx) ?_;clear HK K
      try simp only [Act.put,psA,psB,psC]
      exact N3100 q6 0 0 x y ⟨W.heap.size,wn.heap.size,gt,st⟩ wn HW.out
    · have HK:=hI hK;clear hK;go_simp;have HW:=hI (HF.out.alloc (B1:=[some q6]) (B2:=[none]) hsbg hgs4);refine HK.out _ _ (fun _=>HW.out.sbx) ?_;clear HK K
      try simp only [Act.put,psA,psB,psC]
      exact N2110 q6 W.heap.size 0 x y ⟨0,0,0,[]⟩ (W.alloc (.cells #[.slice none 0 0] 56)) HW.out
    · have HK:=hI hK;clear hK;go_simp;have HW:=hI (HF.out.alloc (B1:=[some q6,none]) (B2:=[]) hsbg hgs4);refine HK.out _ _ (fun _=>HW.out.sbx) ?_;clear HK K
      try simp only [Act.put,psA,psB,psC]
      exact N2101 q6 0 W.heap.size x y ⟨0,0,0,[]⟩ (W.alloc (.cells #[.slice none 0 0] 56)) HW.out
  try simp only [Act.put,psA,psB,psC] at N2100
  refine Zao 6 (bA 18 10239) (fun q6 q7 q8 x y z act=>(((act.put (some 27) (Zay (some ⟨x.gt,0,none⟩) x.st.length x.st.length)).put (some 31) (Zay (some ⟨y.gt,0,none⟩) y.st.length y.st.length)).put (some 7) (.pointer (some ⟨q7,0,none⟩)))) (fun q6 q7 q8 x y z W=>Way w4 W g s m sb (.cells #[.int .i64 s.version,.slice A0 s.tabs.length c0'] 25 (0,0)) [none,some q7,none] [x,y]) (fun q6 q7 q8 x y z W hF=>?_) (fun N2010=>?_)
  · simp only [Act.put,psA,psB,psC];have HF:=hI hF;clear hF;refine Zbl (i:=11) (j:=12) (k:=14) (oi:=⟨some 35,_,_,_,_,_⟩) (oj:=⟨some 6,_,_,_,_,_⟩) (ok:=⟨some 8,_,_,_,_,_⟩) (Li:=(bA 18 12287)) (Lj:=(bA 18 14335)) (Lk:=(bA 18 26623)) rfl rfl rfl (by kernel_rfl) (by kernel_rfl) (by kernel_rfl) (by kernel_rfl) (fun K hK=>?_) (fun K hK=>?_) (fun K hK=>?_)
    · have HK:=hI hK;clear hK;go_simp;refine(ZaN HTR.out hgs4 HGS.out HMO.out HF.out.gx).mono ?_;rintro e wn ⟨gt,st,rfl,ns,ngx,hgn⟩;have HW:=hI (HF.out.call ns ngx hgn hsbg hgs4);clear ns ngx hgn;refine HK.out _ _ (fun _=>HW.out.sbx) ?_;clear HK K
      try simp only [Act.put,psA,psB,psC]
      exact N3010 0 q7 0 x y ⟨W.heap.size,wn.heap.size,gt,st⟩ wn HW.out
    · have HK:=hI hK;clear hK;go_simp;have HW:=hI (HF.out.alloc (B1:=[]) (B2:=[some q7,none]) hsbg hgs4);refine HK.out _ _ (fun _=>HW.out.sbx) ?_;clear HK K
      try simp only [Act.put,psA,psB,psC]
      exact N2110 W.heap.size q7 0 x y ⟨0,0,0,[]⟩ (W.alloc (.cells #[.slice none 0 0] 56)) HW.out
    · have HK:=hI hK;clear hK;go_simp;have HW:=hI (HF.out.alloc (B1:=[none,some q7]) (B2:=[]) hsbg hgs4);refine HK.out _ _ (fun _=>HW.out.sbx) ?_;clear HK K
      try simp only [Act.put,psA,psB,psC]
      exact N2011 0 q7 W.heap.size x y ⟨0,0,0,[]⟩ (W.alloc (.cells #[.slice none 0 0] 56)) HW.out
  try simp only [Act.put,psA,psB,psC] at N2010
  refine Zao 6 (bA 18 18431) (fun q6 q7 q8 x y z act=>(((act.put (some 27) (Zay (some ⟨x.gt,0,none⟩) x.st.length x.st.length)).put (some 31) (Zay (some ⟨y.gt,0,none⟩) y.st.length y.st.length)).put (some 8) (.pointer (some ⟨q8,0,none⟩)))) (fun q6 q7 q8 x y z W=>Way w4 W g s m sb (.cells #[.int .i64 s.version,.slice A0 s.tabs.length c0'] 25 (0,0)) [none,none,some q8] [x,y]) (fun q6 q7 q8 x y z W hF=>?_) (fun N2001=>?_)
  · simp only [Act.put,psA,psB,psC];have HF:=hI hF;clear hF;refine Zbl (i:=11) (j:=12) (k:=13) (oi:=⟨some 35,_,_,_,_,_⟩) (oj:=⟨some 6,_,_,_,_,_⟩) (ok:=⟨some 7,_,_,_,_,_⟩) (Li:=(bA 18 20479)) (Lj:=(bA 18 22527)) (Lk:=(bA 18 26623)) rfl rfl rfl (by kernel_rfl) (by kernel_rfl) (by kernel_rfl) (by kernel_rfl) (fun K hK=>?_) (fun K hK=>?_) (fun K hK=>?_)
    · have HK:=hI hK;clear hK;go_simp;refine(ZaN HTR.out hgs4 HGS.out HMO.out HF.out.gx).mono ?_;rintro e wn ⟨gt,st,rfl,ns,ngx,hgn⟩;have HW:=hI (HF.out.call ns ngx hgn hsbg hgs4);clear ns ngx hgn;refine HK.out _ _ (fun _=>HW.out.sbx) ?_;clear HK K
      try simp only [Act.put,psA,psB,psC]
      exact N3001 0 0 q8 x y ⟨W.heap.size,wn.heap.size,gt,st⟩ wn HW.out
    · have HK:=hI hK;clear hK;go_simp;have HW:=hI (HF.out.alloc (B1:=[]) (B2:=[none,some q8]) hsbg hgs4);refine HK.out _ _ (fun _=>HW.out.sbx) ?_;clear HK K
      try simp only [Act.put,psA,psB,psC]
      exact N2101 W.heap.size 0 q8 x y ⟨0,0,0,[]⟩ (W.alloc (.cells #[.slice none 0 0] 56)) HW.out
    · have HK:=hI hK;clear hK;go_simp;have HW:=hI (HF.out.alloc (B1:=[none]) (B2:=[some q8]) hsbg hgs4);refine HK.out _ _ (fun _=>HW.out.sbx) ?_;clear HK K
      try simp only [Act.put,psA,psB,psC]
      exact N2011 0 W.heap.size q8 x y ⟨0,0,0,[]⟩ (W.alloc (.cells #[.slice none 0 0] 56)) HW.out
  try simp only [Act.put,psA,psB,psC] at N2001
  refine Zao 6 (bA 18 14207) (fun q6 q7 q8 x y z act=>(((act.put (some 27) (Zay (some ⟨x.gt,0,none⟩) x.st.length x.st.length)).put (some 6) (.pointer (some ⟨q6,0,none⟩))).put (some 7) (.pointer (some ⟨q7,0,none⟩)))) (fun q6 q7 q8 x y z W=>Way w4 W g s m sb (.cells #[.int .i64 s.version,.slice A0 s.tabs.length c0'] 25 (0,0)) [some q6,some q7,none] [x]) (fun q6 q7 q8 x y z W hF=>?_) (fun N1110=>?_)
  · simp only [Act.put,psA,psB,psC];have HF:=hI hF;clear hF;refine Zbh (i:=7) (j:=14) (oi:=⟨some 31,_,_,_,_,_⟩) (oj:=⟨some 8,_,_,_,_,_⟩) (Li:=(bA 18 14335)) (Lj:=(bA 18 30591)) rfl rfl (by kernel_rfl) (by kernel_rfl) (by kernel_rfl) (fun K hK=>?_) (fun K hK=>?_)
    · have HK:=hI hK;clear hK;go_simp;refine(ZaN HTR.out hgs4 HGS.out HMO.out HF.out.gx).mono ?_;rintro e wn ⟨gt,st,rfl,ns,ngx,hgn⟩;have HW:=hI (HF.out.call ns ngx hgn hsbg hgs4);clear ns ngx hgn;refine HK.out _ _ (fun _=>HW.out.sbx) ?_;clear HK K
      try simp only [Act.put,psA,psB,psC]
      exact N2110 q6 q7 0 x ⟨W.heap.size,wn.heap.size,gt,st⟩ ⟨0,0,0,[]⟩ wn HW.out
    · have HK:=hI hK;clear hK;go_simp;have HW:=hI (HF.out.alloc (B1:=[some q6,some q7]) (B2:=[]) hsbg hgs4);refine HK.out _ _ (fun _=>HW.out.sbx) ?_;clear HK K
      try simp only [Act.put,psA,psB,psC]
      exact N1111 q6 q7 W.heap.size x ⟨0,0,0,[]⟩ ⟨0,0,0,[]⟩ (W.alloc (.cells #[.slice none 0 0] 56)) HW.out
  try simp only [Act.put,psA,psB,psC] at N1110
  refine Zao 6 (bA 18 22399) (fun q6 q7 q8 x y z act=>(((act.put (some 27) (Zay (some ⟨x.gt,0,none⟩) x.st.length x.st.length)).put (some 6) (.pointer (some ⟨q6,0,none⟩))).put (some 8) (.pointer (some ⟨q8,0,none⟩)))) (fun q6 q7 q8 x y z W=>Way w4 W g s m sb (.cells #[.int .i64 s.version,.slice A0 s.tabs.length c0'] 25 (0,0)) [some q6,none,some q8] [x]) (fun q6 q7 q8 x y z W hF=>?_) (fun N1101=>?_)
  · simp only [Act.put,psA,psB,psC];have HF:=hI hF;clear hF;refine Zbh (i:=7) (j:=13) (oi:=⟨some 31,_,_,_,_,_⟩) (oj:=⟨some 7,_,_,_,_,_⟩) (Li:=(bA 18 22527)) (Lj:=(bA 18 30591)) rfl rfl (by kernel_rfl) (by kernel_rfl) (by kernel_rfl) (fun K hK=>?_) (fun K hK=>?_)
    · have HK:=hI hK;clear hK;go_simp;refine(ZaN HTR.out hgs4 HGS.out HMO.out HF.out.gx).mono ?_;rintro e wn ⟨gt,st,rfl,ns,ngx,hgn⟩;have HW:=hI (HF.out.call ns ngx hgn hsbg hgs4);clear ns ngx hgn;refine HK.out _ _ (fun _=>HW.out.sbx) ?_;clear HK K
      try simp only [Act.put,psA,psB,psC]
      exact N2101 q6 0 q8 x ⟨W.heap.size,wn.heap.size,gt,st⟩ ⟨0,0,0,[]⟩ wn HW.out
    · have HK:=hI hK;clear hK;go_simp;have HW:=hI (HF.out.alloc (B1:=[some q6]) (B2:=[some q8]) hsbg hgs4);refine HK.out _ _ (fun _=>HW.out.sbx) ?_;clear HK K
      try simp only [Act.put,psA,psB,psC]
      exact N1111 q6 W.heap.size q8 x ⟨0,0,0,[]⟩ ⟨0,0,0,[]⟩ (W.alloc (.cells #[.slice none 0 0] 56)) HW.out
  try simp only [Act.put,psA,psB,psC] at N1101
  refine Zao 6 (bA 18 26495) (fun q6 q7 q8 x y z act=>(((act.put (some 27) (Zay (some ⟨x.gt,0,none⟩) x.st.length x.st.length)).put (some 7) (.pointer (some ⟨q7,0,none⟩))).put (some 8) (.pointer (some ⟨q8,0,none⟩)))) (fun q6 q7 q8 x y z W=>Way w4 W g s m sb (.cells #[.int .i64 s.version,.slice A0 s.tabs.length c0'] 25 (0,0)) [none,some q7,some q8] [x]) (fun q6 q7 q8 x y z W hF=>?_) (fun N1011=>?_)
  · simp only [Act.put,psA,psB,psC];have HF:=hI hF;clear hF;refine Zbh (i:=7) (j:=12) (oi:=⟨some 31,_,_,_,_,_⟩) (oj:=⟨some 6,_,_,_,_,_⟩) (Li:=(bA 18 26623)) (Lj:=(bA 18 30591)) rfl rfl (by kernel_rfl) (by kernel_rfl) (by kernel_rfl) (fun K hK=>?_) (fun K hK=>?_)
    · have HK:=hI hK;clear hK;go_simp;refine(ZaN HTR.out hgs4 HGS.out HMO.out HF.out.gx).mono ?_;rintro e wn ⟨gt,st,rfl,ns,ngx,hgn⟩;have HW:=hI (HF.out.call ns ngx hgn hsbg hgs4);clear ns ngx hgn;refine HK.out _ _ (fun _=>HW.out.sbx) ?_;clear HK K
      try simp only [Act.put,psA,psB,psC]
      exact N2011 0 q7 q8 x ⟨W.heap.size,wn.heap.size,gt,st⟩ ⟨0,0,0,[]⟩ wn HW.out
    · have HK:=hI hK;clear hK;go_simp;have HW:=hI (HF.out.alloc (B1:=[]) (B2:=[some q7,some q8]) hsbg hgs4);refine HK.out _ _ (fun _=>HW.out.sbx) ?_;clear HK K
      try simp only [Act.put,psA,psB,psC]
      exact N1111 W.heap.size q7 q8 x ⟨0,0,0,[]⟩ ⟨0,0,0,[]⟩ (W.alloc (.cells #[.slice none 0 0] 56)) HW.out
  try simp only [Act.put,psA,psB,psC] at N1011
  refine Zao 6 (bA 18 30583) (fun q6 q7 q8 x y z act=>(((act.put (some 6) (.pointer (some ⟨q6,0,none⟩))).put (some 7) (.pointer (some ⟨q7,0,none⟩))).put (some 8) (.pointer (some ⟨q8,0,none⟩)))) (fun q6 q7 q8 x y z W=>Way w4 W g s m sb (.cells #[.int .i64 s.version,.slice A0 s.tabs.length c0'] 25 (0,0)) [some q6,some q7,some q8] []) (fun q6 q7 q8 x y z W hF=>?_) (fun N0111=>?_)
  · simp only [Act.put,psA,psB,psC];have HF:=hI hF;clear hF;refine tQ 3 (some 27) (bA 18 30591) fun K HK=>?_;go_simp;refine(ZaN HTR.out hgs4 HGS.out HMO.out HF.out.gx).mono ?_;rintro e wn ⟨gt,st,rfl,ns,ngx,hgn⟩;have HW:=hI (HF.out.call ns ngx hgn hsbg hgs4);clear ns ngx hgn;refine HK.out _ _ (fun _=>HW.out.sbx) ?_;clear HK K
    try simp only [Act.put,psA,psB,psC]
    exact N1111 q6 q7 q8 ⟨W.heap.size,wn.heap.size,gt,st⟩ ⟨0,0,0,[]⟩ ⟨0,0,0,[]⟩ wn HW.out
  try simp only [Act.put,psA,psB,psC] at N0111
  refine Zao 7 (bA 18 2047) (fun q6 q7 q8 x y z act=>((act.put (some 27) (Zay (some ⟨x.gt,0,none⟩) x.st.length x.st.length)).put (some 31) (Zay (some ⟨y.gt,0,none⟩) y.st.length y.st.length))) (fun q6 q7 q8 x y z W=>Way w4 W g s m sb (.cells #[.int .i64 s.version,.slice A0 s.tabs.length c0'] 25 (0,0)) [none,none,none] [x,y]) (fun q6 q7 q8 x y z W hF=>?_) (fun N2000=>?_)
  · simp only [Act.put,psA,psB,psC];have HF:=hI hF;clear hF;refine Zfp (i:=11) (j:=12) (k:=13) (m:=14) (oi:=⟨some 35,_,_,_,_,_⟩) (oj:=⟨some 6,_,_,_,_,_⟩) (ok:=⟨some 7,_,_,_,_,_⟩) (om:=⟨some 8,_,_,_,_,_⟩) (Li:=(bA 18 4095)) (Lj:=(bA 18 6143)) (Lk:=(bA 18 10239)) (Lm:=(bA 18 18431)) rfl rfl rfl rfl (by kernel_rfl) (by kernel_rfl) (by kernel_rfl) (by kernel_rfl) (by kernel_rfl) (fun K hK=>?_) (fun K hK=>?_) (fun K hK=>?_) (fun K hK=>?_)
    · have HK:=hI hK;clear hK;go_simp;refine(ZaN HTR.out hgs4 HGS.out HMO.out HF.out.gx).mono ?_;rintro e wn ⟨gt,st,rfl,ns,ngx,hgn⟩;have HW:=hI (HF.out.call ns ngx hgn hsbg hgs4);clear ns ngx hgn;refine HK.out _ _ (fun _=>HW.out.sbx) ?_;clear HK K
      try simp only [Act.put,psA,psB,psC]
      exact N3000 0 0 0 x y ⟨W.heap.size,wn.heap.size,gt,st⟩ wn HW.out
    · have HK:=hI hK;clear hK;go_simp;have HW:=hI (HF.out.alloc (B1:=[]) (B2:=[none,none]) hsbg hgs4);refine HK.out _ _ (fun _=>HW.out.sbx) ?_;clear HK K
      try simp only [Act.put,psA,psB,psC]
      exact N2100 W.heap.size 0 0 x y ⟨0,0,0,[]⟩ (W.alloc (.cells #[.slice none 0 0] 56)) HW.out
    · have HK:=hI hK;clear hK;go_simp;have HW:=hI (HF.out.alloc (B1:=[none]) (B2:=[none]) hsbg hgs4);refine HK.out _ _ (fun _=>HW.out.sbx) ?_;clear HK K
      try simp only [Act.put,psA,psB,psC]
      exact N2010 0 W.heap.size 0 x y ⟨0,0,0,[]⟩ (W.alloc (.cells #[.slice none 0 0] 56)) HW.out
    · have HK:=hI hK;clear hK;go_simp;have HW:=hI (HF.out.alloc (B1:=[none,none]) (B2:=[]) hsbg hgs4);refine HK.out _ _ (fun _=>HW.out.sbx) ?_;clear HK K
      try simp only [Act.put,psA,psB,psC]
      exact N2001 0 0 W.heap.size x y ⟨0,0,0,[]⟩ (W.alloc (.cells #[.slice none 0 0] 56)) HW.out
  try simp only [Act.put,psA,psB,psC] at N2000
  refine Zao 7 (bA 18 6015) (fun q6 q7 q8 x y z act=>((act.put (some 27) (Zay (some ⟨x.gt,0,none⟩) x.st.length x.st.length)).put (some 6) (.pointer (some ⟨q6,0,none⟩)))) (fun q6 q7 q8 x y z W=>Way w4 W g s m sb (.cells #[.int .i64 s.version,.slice A0 s.tabs.length c0'] 25 (0,0)) [some q6,none,none] [x]) (fun q6 q7 q8 x y z W hF=>?_) (fun N1100=>?_)
  · simp only [Act.put,psA,psB,psC];have HF:=hI hF;clear hF;refine Zbl (i:=7) (j:=13) (k:=14) (oi:=⟨some 31,_,_,_,_,_⟩) (oj:=⟨some 7,_,_,_,_,_⟩) (ok:=⟨some 8,_,_,_,_,_⟩) (Li:=(bA 18 6143)) (Lj:=(bA 18 14207)) (Lk:=(bA 18 22399)) rfl rfl rfl (by kernel_rfl) (by kernel_rfl) (by kernel_rfl) (by kernel_rfl) (fun K hK=>?_) (fun K hK=>?_) (fun K hK=>?_)
    · have HK:=hI hK;clear hK;go_simp;refine(ZaN HTR.out hgs4 HGS.out HMO.out HF.out.gx).mono ?_;rintro e wn ⟨gt,st,rfl,ns,ngx,hgn⟩;have HW:=hI (HF.out.call ns ngx hgn hsbg hgs4);clear ns ngx hgn;refine HK.out _ _ (fun _=>HW.out.sbx) ?_;clear HK K
      try simp only [Act.put,psA,psB,psC]
      exact N2100 q6 0 0 x ⟨W.heap.size,wn.heap.size,gt,st⟩ ⟨0,0,0,[]⟩ wn HW.out
    · have HK:=hI hK;clear hK;go_simp;have HW:=hI (HF.out.alloc (B1:=[some q6]) (B2:=[none]) hsbg hgs4);refine HK.out _ _ (fun _=>HW.out.sbx) ?_;clear HK K
      try simp only [Act.put,psA,psB,psC]
      exact N1110 q6 W.heap.size 0 x ⟨0,0,0,[]⟩ ⟨0,0,0,[]⟩ (W.alloc (.cells #[.slice none 0 0] 56)) HW.out
    · have HK:=hI hK;clear hK;go_simp;have HW:=hI (HF.out.alloc (B1:=[some q6,none]) (B2:=[]) hsbg hgs4);refine HK.out _ _ (fun _=>HW.out.sbx) ?_;clear HK K
      try simp only [Act.put,psA,psB,psC]
      exact N1101 q6 0 W.heap.size x ⟨0,0,0,[]⟩ ⟨0,0,0,[]⟩ (W.alloc (.cells #[.slice none 0 0] 56)) HW.out
  try simp only [Act.put,psA,psB,psC] at N1100
  refine Zao 7 (bA 18 10111) (fun q6 q7 q8 x y z act=>((act.put (some 27) (Zay (some ⟨x.gt,0,none⟩) x.st.length x.st.length)).put (some 7) (.pointer (some ⟨q7,0,none⟩)))) (fun q6 q7 q8 x y z W=>Way w4 W g s m sb (.cells #[.int .i64 s.version,.slice A0 s.tabs.length c0'] 25 (0,0)) [none,some q7,none] [x]) (fun q6 q7 q8 x y z W hF=>?_) (fun N1010=>?_)
  · simp only [Act.put,psA,psB,psC];have HF:=hI hF;clear hF;refine Zbl (i:=7) (j:=12) (k:=14) (oi:=⟨some 31,_,_,_,_,_⟩) (oj:=⟨some 6,_,_,_,_,_⟩) (ok:=⟨some 8,_,_,_,_,_⟩) (Li:=(bA 18 10239)) (Lj:=(bA 18 14207)) (Lk:=(bA 18 26495)) rfl rfl rfl (by kernel_rfl) (by kernel_rfl) (by kernel_rfl) (by kernel_rfl) (fun K hK=>?_) (fun K hK=>?_) (fun K hK=>?_)
    · have HK:=hI hK;clear hK;go_simp;refine(ZaN HTR.out hgs4 HGS.out HMO.out HF.out.gx).mono ?_;rintro e wn ⟨gt,st,rfl,ns,ngx,hgn⟩;have HW:=hI (HF.out.call ns ngx hgn hsbg hgs4);clear ns ngx hgn;refine HK.out _ _ (fun _=>HW.out.sbx) ?_;clear HK K
      try simp only [Act.put,psA,psB,psC]
      exact N2010 0 q7 0 x ⟨W.heap.size,wn.heap.size,gt,st⟩ ⟨0,0,0,[]⟩ wn HW.out
    · have HK:=hI hK;clear hK;go_simp;have HW:=hI (HF.out.alloc (B1:=[]) (B2:=[some q7,none]) hsbg hgs4);refine HK.out _ _ (fun _=>HW.out.sbx) ?_;clear HK K
      try simp only [Act.put,psA,psB,psC]
      exact N1110 W.heap.size q7 0 x ⟨0,0,0,[]⟩ ⟨0,0,0,[]⟩ (W.alloc (.cells #[.slice none 0 0] 56)) HW.out
    · have HK:=hI hK;clear hK;go_simp;have HW:=hI (HF.out.alloc (B1:=[none,some q7]) (B2:=[]) hsbg hgs4);refine HK.out _ _ (fun _=>HW.out.sbx) ?_;clear HK K
      try simp only [Act.put,psA,psB,psC]
      exact N1011 0 q7 W.heap.size x ⟨0,0,0,[]⟩ ⟨0,0,0,[]⟩ (W.alloc (.cells #[.slice none 0 0] 56)) HW.out
  try simp only [Act.put,psA,psB,psC] at N1010
  refine Zao 7 (bA 18 18303) (fun q6 q7 q8 x y z act=>((act.put (some 27) (Zay (some ⟨x.gt,0,none⟩) x.st.length x.st.length)).put (some 8) (.pointer (some ⟨q8,0,none⟩)))) (fun q6 q7 q8 x y z W=>Way w4 W g s m sb (.cells #[.int .i64 s.version,.slice A0 s.tabs.length c0'] 25 (0,0)) [none,none,some q8] [x]) (fun q6 q7 q8 x y z W hF=>?_) (fun N1001=>?_)
  · simp only [Act.put,psA,psB,psC];have HF:=hI hF;clear hF;refine Zbl (i:=7) (j:=12) (k:=13) (oi:=⟨some 31,_,_,_,_,_⟩) (oj:=⟨some 6,_,_,_,_,_⟩) (ok:=⟨some 7,_,_,_,_,_⟩) (Li:=(bA 18 18431)) (Lj:=(bA 18 22399)) (Lk:=(bA 18 26495)) rfl rfl rfl (by kernel_rfl) (by kernel_rfl) (by kernel_rfl) (by kernel_rfl) (fun K hK=>?_) (fun K hK=>?_) (fun K hK=>?_)
    · have HK:=hI hK;clear hK;go_simp;refine(ZaN HTR.out hgs4 HGS.out HMO.out HF.out.gx).mono ?_;rintro e wn ⟨gt,st,rfl,ns,ngx,hgn⟩;have HW:=hI (HF.out.call ns ngx hgn hsbg hgs4);clear ns ngx hgn;refine HK.out _ _ (fun _=>HW.out.sbx) ?_;clear HK K
      try simp only [Act.put,psA,psB,psC]
      exact N2001 0 0 q8 x ⟨W.heap.size,wn.heap.size,gt,st⟩ ⟨0,0,0,[]⟩ wn HW.out
    · have HK:=hI hK;clear hK;go_simp;have HW:=hI (HF.out.alloc (B1:=[]) (B2:=[none,some q8]) hsbg hgs4);refine HK.out _ _ (fun _=>HW.out.sbx) ?_;clear HK K
      try simp only [Act.put,psA,psB,psC]
      exact N1101 W.heap.size 0 q8 x ⟨0,0,0,[]⟩ ⟨0,0,0,[]⟩ (W.alloc (.cells #[.slice none 0 0] 56)) HW.out
    · have HK:=hI hK;clear hK;go_simp;have HW:=hI (HF.out.alloc (B1:=[none]) (B2:=[some q8]) hsbg hgs4);refine HK.out _ _ (fun _=>HW.out.sbx) ?_;clear HK K
      try simp only [Act.put,psA,psB,psC]
      exact N1011 0 W.heap.size q8 x ⟨0,0,0,[]⟩ ⟨0,0,0,[]⟩ (W.alloc (.cells #[.slice none 0 0] 56)) HW.out
  try simp only [Act.put,psA,psB,psC] at N1001
  refine Zao 7 (bA 18 14199) (fun q6 q7 q8 x y z act=>((act.put (some 6) (.pointer (some ⟨q6,0,none⟩))).put (some 7) (.pointer (some ⟨q7,0,none⟩)))) (fun q6 q7 q8 x y z W=>Way w4 W g s m sb (.cells #[.int .i64 s.version,.slice A0 s.tabs.length c0'] 25 (0,0)) [some q6,some q7,none] []) (fun q6 q7 q8 x y z W hF=>?_) (fun N0110=>?_)
  · simp only [Act.put,psA,psB,psC];have HF:=hI hF;clear hF;refine Zbh (i:=3) (j:=14) (oi:=⟨some 27,_,_,_,_,_⟩) (oj:=⟨some 8,_,_,_,_,_⟩) (Li:=(bA 18 14207)) (Lj:=(bA 18 30583)) rfl rfl (by kernel_rfl) (by kernel_rfl) (by kernel_rfl) (fun K hK=>?_) (fun K hK=>?_)
    · have HK:=hI hK;clear hK;go_simp;refine(ZaN HTR.out hgs4 HGS.out HMO.out HF.out.gx).mono ?_;rintro e wn ⟨gt,st,rfl,ns,ngx,hgn⟩;have HW:=hI (HF.out.call ns ngx hgn hsbg hgs4);clear ns ngx hgn;refine HK.out _ _ (fun _=>HW.out.sbx) ?_;clear HK K
      try simp only [Act.put,psA,psB,psC]
      exact N1110 q6 q7 0 ⟨W.heap.size,wn.heap.size,gt,st⟩ ⟨0,0,0,[]⟩ ⟨0,0,0,[]⟩ wn HW.out
    · have HK:=hI hK;clear hK;go_simp;have HW:=hI (HF.out.alloc (B1:=[some q6,some q7]) (B2:=[]) hsbg hgs4);refine HK.out _ _ (fun _=>HW.out.sbx) ?_;clear HK K
      try simp only [Act.put,psA,psB,psC]
      exact N0111 q6 q7 W.heap.size ⟨0,0,0,[]⟩ ⟨0,0,0,[]⟩ ⟨0,0,0,[]⟩ (W.alloc (.cells #[.slice none 0 0] 56)) HW.out
  try simp only [Act.put,psA,psB,psC] at N0110
  refine Zao 7 (bA 18 22391) (fun q6 q7 q8 x y z act=>((act.put (some 6) (.pointer (some ⟨q6,0,none⟩))).put (some 8) (.pointer (some ⟨q8,0,none⟩)))) (fun q6 q7 q8 x y z W=>Way w4 W g s m sb (.cells #[.int .i64 s.version,.slice A0 s.tabs.length c0'] 25 (0,0)) [some q6,none,some q8] []) (fun q6 q7 q8 x y z W hF=>?_) (fun N0101=>?_)
  · simp only [Act.put,psA,psB,psC];have HF:=hI hF;clear hF;refine Zbh (i:=3) (j:=13) (oi:=⟨some 27,_,_,_,_,_⟩) (oj:=⟨some 7,_,_,_,_,_⟩) (Li:=(bA 18 22399)) (Lj:=(bA 18 30583)) rfl rfl (by kernel_rfl) (by kernel_rfl) (by kernel_rfl) (fun K hK=>?_) (fun K hK=>?_)
    · have HK:=hI hK;clear hK;go_simp;refine(ZaN HTR.out hgs4 HGS.out HMO.out HF.out.gx).mono ?_;rintro e wn ⟨gt,st,rfl,ns,ngx,hgn⟩;have HW:=hI (HF.out.call ns ngx hgn hsbg hgs4);clear ns ngx hgn;refine HK.out _ _ (fun _=>HW.out.sbx) ?_;clear HK K
      try simp only [Act.put,psA,psB,psC]
      exact N1101 q6 0 q8 ⟨W.heap.size,wn.heap.size,gt,st⟩ ⟨0,0,0,[]⟩ ⟨0,0,0,[]⟩ wn HW.out
    · have HK:=hI hK;clear hK;go_simp;have HW:=hI (HF.out.alloc (B1:=[some q6]) (B2:=[some q8]) hsbg hgs4);refine HK.out _ _ (fun _=>HW.out.sbx) ?_;clear HK K
      try simp only [Act.put,psA,psB,psC]
      exact N0111 q6 W.heap.size q8 ⟨0,0,0,[]⟩ ⟨0,0,0,[]⟩ ⟨0,0,0,[]⟩ (W.alloc (.cells #[.slice none 0 0] 56)) HW.out
  try simp only [Act.put,psA,psB,psC] at N0101
  refine Zao 7 (bA 18 26487) (fun q6 q7 q8 x y z act=>((act.put (some 7) (.pointer (some ⟨q7,0,none⟩))).put (some 8) (.pointer (some ⟨q8,0,none⟩)))) (fun q6 q7 q8 x y z W=>Way w4 W g s m sb (.cells #[.int .i64 s.version,.slice A0 s.tabs.length c0'] 25 (0,0)) [none,some q7,some q8] []) (fun q6 q7 q8 x y z W hF=>?_) (fun N0011=>?_)
  · simp only [Act.put,psA,psB,psC];have HF:=hI hF;clear hF;refine Zbh (i:=3) (j:=12) (oi:=⟨some 27,_,_,_,_,_⟩) (oj:=⟨some 6,_,_,_,_,_⟩) (Li:=(bA 18 26495)) (Lj:=(bA 18 30583)) rfl rfl (by kernel_rfl) (by kernel_rfl) (by kernel_rfl) (fun K hK=>?_) (fun K hK=>?_)
    · have HK:=hI hK;clear hK;go_simp;refine(ZaN HTR.out hgs4 HGS.out HMO.out HF.out.gx).mono ?_;rintro e wn ⟨gt,st,rfl,ns,ngx,hgn⟩;have HW:=hI (HF.out.call ns ngx hgn hsbg hgs4);clear ns ngx hgn;refine HK.out _ _ (fun _=>HW.out.sbx) ?_;clear HK K
      try simp only [Act.put,psA,psB,psC]
      exact N1011 0 q7 q8 ⟨W.heap.size,wn.heap.size,gt,st⟩ ⟨0,0,0,[]⟩ ⟨0,0,0,[]⟩ wn HW.out
    · have HK:=hI hK;clear hK;go_simp;have HW:=hI (HF.out.alloc (B1:=[]) (B2:=[some q7,some q8]) hsbg hgs4);refine HK.out _ _ (fun _=>HW.out.sbx) ?_;clear HK K
      try simp only [Act.put,psA,psB,psC]
      exact N0111 W.heap.size q7 q8 ⟨0,0,0,[]⟩ ⟨0,0,0,[]⟩ ⟨0,0,0,[]⟩ (W.alloc (.cells #[.slice none 0 0] 56)) HW.out
  try simp only [Act.put,psA,psB,psC] at N0011
  refine Zao 8 (bA 18 1919) (fun q6 q7 q8 x y z act=>(act.put (some 27) (Zay (some ⟨x.gt,0,none⟩) x.st.length x.st.length))) (fun q6 q7 q8 x y z W=>Way w4 W g s m sb (.cells #[.int .i64 s.version,.slice A0 s.tabs.length c0'] 25 (0,0)) [none,none,none] [x]) (fun q6 q7 q8 x y z W hF=>?_) (fun N1000=>?_)
  · simp only [Act.put,psA,psB,psC];have HF:=hI hF;clear hF;refine Zfp (i:=7) (j:=12) (k:=13) (m:=14) (oi:=⟨some 31,_,_,_,_,_⟩) (oj:=⟨some 6,_,_,_,_,_⟩) (ok:=⟨some 7,_,_,_,_,_⟩) (om:=⟨some 8,_,_,_,_,_⟩) (Li:=(bA 18 2047)) (Lj:=(bA 18 6015)) (Lk:=(bA 18 10111)) (Lm:=(bA 18 18303)) rfl rfl rfl rfl (by kernel_rfl) (by kernel_rfl) (by kernel_rfl) (by kernel_rfl) (by kernel_rfl) (fun K hK=>?_) (fun K hK=>?_) (fun K hK=>?_) (fun K hK=>?_)
    · have HK:=hI hK;clear hK;go_simp;refine(ZaN HTR.out hgs4 HGS.out HMO.out HF.out.gx).mono ?_;rintro e wn ⟨gt,st,rfl,ns,ngx,hgn⟩;have HW:=hI (HF.out.call ns ngx hgn hsbg hgs4);clear ns ngx hgn;refine HK.out _ _ (fun _=>HW.out.sbx) ?_;clear HK K
      try simp only [Act.put,psA,psB,psC]
      exact N2000 0 0 0 x ⟨W.heap.size,wn.heap.size,gt,st⟩ ⟨0,0,0,[]⟩ wn HW.out
    · have HK:=hI hK;clear hK;go_simp;have HW:=hI (HF.out.alloc (B1:=[]) (B2:=[none,none]) hsbg hgs4);refine HK.out _ _ (fun _=>HW.out.sbx) ?_;clear HK K
      try simp only [Act.put,psA,psB,psC]
      exact N1100 W.heap.size 0 0 x ⟨0,0,0,[]⟩ ⟨0,0,0,[]⟩ (W.alloc (.cells #[.slice none 0 0] 56)) HW.out
    · have HK:=hI hK;clear hK;go_simp;have HW:=hI (HF.out.alloc (B1:=[none]) (B2:=[none]) hsbg hgs4);refine HK.out _ _ (fun _=>HW.out.sbx) ?_;clear HK K
      try simp only [Act.put,psA,psB,psC]
      exact N1010 0 W.heap.size 0 x ⟨0,0,0,[]⟩ ⟨0,0,0,[]⟩ (W.alloc (.cells #[.slice none 0 0] 56)) HW.out
    · have HK:=hI hK;clear hK;go_simp;have HW:=hI (HF.out.alloc (B1:=[none,none]) (B2:=[]) hsbg hgs4);refine HK.out _ _ (fun _=>HW.out.sbx) ?_;clear HK K
      try simp only [Act.put,psA,psB,psC]
      exact N1001 0 0 W.heap.size x ⟨0,0,0,[]⟩ ⟨0,0,0,[]⟩ (W.alloc (.cells #[.slice none 0 0] 56)) HW.out
  try simp only [Act.put,psA,psB,psC] at N1000
  refine Zao 8 (bA 18 6007) (fun q6 q7 q8 x y z act=>(act.put (some 6) (.pointer (some ⟨q6,0,none⟩)))) (fun q6 q7 q8 x y z W=>Way w4 W g s m sb (.cells #[.int .i64 s.version,.slice A0 s.tabs.length c0'] 25 (0,0)) [some q6,none,none] []) (fun q6 q7 q8 x y z W hF=>?_) (fun N0100=>?_)
  · simp only [Act.put,psA,psB,psC];have HF:=hI hF;clear hF;refine Zbl (i:=3) (j:=13) (k:=14) (oi:=⟨some 27,_,_,_,_,_⟩) (oj:=⟨some 7,_,_,_,_,_⟩) (ok:=⟨some 8,_,_,_,_,_⟩) (Li:=(bA 18 6015)) (Lj:=(bA 18 14199)) (Lk:=(bA 18 22391)) rfl rfl rfl (by kernel_rfl) (by kernel_rfl) (by kernel_rfl) (by kernel_rfl) (fun K hK=>?_) (fun K hK=>?_) (fun K hK=>?_)
    · have HK:=hI hK;clear hK;go_simp;refine(ZaN HTR.out hgs4 HGS.out HMO.out HF.out.gx).mono ?_;rintro e wn ⟨gt,st,rfl,ns,ngx,hgn⟩;have HW:=hI (HF.out.call ns ngx hgn hsbg hgs4);clear ns ngx hgn;refine HK.out _ _ (fun _=>HW.out.sbx) ?_;clear HK K
      try simp only [Act.put,psA,psB,psC]
      exact N1100 q6 0 0 ⟨W.heap.size,wn.heap.size,gt,st⟩ ⟨0,0,0,[]⟩ ⟨0,0,0,[]⟩ wn HW.out
    · have HK:=hI hK;clear hK;go_simp;have HW:=hI (HF.out.alloc (B1:=[some q6]) (B2:=[none]) hsbg hgs4);refine HK.out _ _ (fun _=>HW.out.sbx) ?_;clear HK K
      try simp only [Act.put,psA,psB,psC]
      exact N0110 q6 W.heap.size 0 ⟨0,0,0,[]⟩ ⟨0,0,0,[]⟩ ⟨0,0,0,[]⟩ (W.alloc (.cells #[.slice none 0 0] 56)) HW.out
    · have HK:=hI hK;clear hK;go_simp;have HW:=hI (HF.out.alloc (B1:=[some q6,none]) (B2:=[]) hsbg hgs4);refine HK.out _ _ (fun _=>HW.out.sbx) ?_;clear HK K
      try simp only [Act.put,psA,psB,psC]
      exact N0101 q6 0 W.heap.size ⟨0,0,0,[]⟩ ⟨0,0,0,[]⟩ ⟨0,0,0,[]⟩ (W.alloc (.cells #[.slice none 0 0] 56)) HW.out
  try simp only [Act.put,psA,psB,psC] at N0100
  refine Zao 8 (bA 18 10103) (fun q6 q7 q8 x y z act=>(act.put (some 7) (.pointer (some ⟨q7,0,none⟩)))) (fun q6 q7 q8 x y z W=>Way w4 W g s m sb (.cells #[.int .i64 s.version,.slice A0 s.tabs.length c0'] 25 (0,0)) [none,some q7,none] []) (fun q6 q7 q8 x y z W hF=>?_) (fun N0010=>?_)
  · simp only [Act.put,psA,psB,psC];have HF:=hI hF;clear hF;refine Zbl (i:=3) (j:=12) (k:=14) (oi:=⟨some 27,_,_,_,_,_⟩) (oj:=⟨some 6,_,_,_,_,_⟩) (ok:=⟨some 8,_,_,_,_,_⟩) (Li:=(bA 18 10111)) (Lj:=(bA 18 14199)) (Lk:=(bA 18 26487)) rfl rfl rfl (by kernel_rfl) (by kernel_rfl) (by kernel_rfl) (by kernel_rfl) (fun K hK=>?_) (fun K hK=>?_) (fun K hK=>?_)
    · have HK:=hI hK;clear hK;go_simp;refine(ZaN HTR.out hgs4 HGS.out HMO.out HF.out.gx).mono ?_;rintro e wn ⟨gt,st,rfl,ns,ngx,hgn⟩;have HW:=hI (HF.out.call ns ngx hgn hsbg hgs4);clear ns ngx hgn;refine HK.out _ _ (fun _=>HW.out.sbx) ?_;clear HK K
      try simp only [Act.put,psA,psB,psC]
      exact N1010 0 q7 0 ⟨W.heap.size,wn.heap.size,gt,st⟩ ⟨0,0,0,[]⟩ ⟨0,0,0,[]⟩ wn HW.out
    · have HK:=hI hK;clear hK;go_simp;have HW:=hI (HF.out.alloc (B1:=[]) (B2:=[some q7,none]) hsbg hgs4);refine HK.out _ _ (fun _=>HW.out.sbx) ?_;clear HK K
      try simp only [Act.put,psA,psB,psC]
      exact N0110 W.heap.size q7 0 ⟨0,0,0,[]⟩ ⟨0,0,0,[]⟩ ⟨0,0,0,[]⟩ (W.alloc (.cells #[.slice none 0 0] 56)) HW.out
    · have HK:=hI hK;clear hK;go_simp;have HW:=hI (HF.out.alloc (B1:=[none,some q7]) (B2:=[]) hsbg hgs4);refine HK.out _ _ (fun _=>HW.out.sbx) ?_;clear HK K
      try simp only [Act.put,psA,psB,psC]
      exact N0011 0 q7 W.heap.size ⟨0,0,0,[]⟩ ⟨0,0,0,[]⟩ ⟨0,0,0,[]⟩ (W.alloc (.cells #[.slice none 0 0] 56)) HW.out
  try simp only [Act.put,psA,psB,psC] at N0010
  refine Zao 8 (bA 18 18295) (fun q6 q7 q8 x y z act=>(act.put (some 8) (.pointer (some ⟨q8,0,none⟩)))) (fun q6 q7 q8 x y z W=>Way w4 W g s m sb (.cells #[.int .i64 s.version,.slice A0 s.tabs.length c0'] 25 (0,0)) [none,none,some q8] []) (fun q6 q7 q8 x y z W hF=>?_) (fun N0001=>?_)
  · simp only [Act.put,psA,psB,psC];have HF:=hI hF;clear hF;refine Zbl (i:=3) (j:=12) (k:=13) (oi:=⟨some 27,_,_,_,_,_⟩) (oj:=⟨some 6,_,_,_,_,_⟩) (ok:=⟨some 7,_,_,_,_,_⟩) (Li:=(bA 18 18303)) (Lj:=(bA 18 22391)) (Lk:=(bA 18 26487)) rfl rfl rfl (by kernel_rfl) (by kernel_rfl) (by kernel_rfl) (by kernel_rfl) (fun K hK=>?_) (fun K hK=>?_) (fun K hK=>?_)
    · have HK:=hI hK;clear hK;go_simp;refine(ZaN HTR.out hgs4 HGS.out HMO.out HF.out.gx).mono ?_;rintro e wn ⟨gt,st,rfl,ns,ngx,hgn⟩;have HW:=hI (HF.out.call ns ngx hgn hsbg hgs4);clear ns ngx hgn;refine HK.out _ _ (fun _=>HW.out.sbx) ?_;clear HK K
      try simp only [Act.put,psA,psB,psC]
      exact N1001 0 0 q8 ⟨W.heap.size,wn.heap.size,gt,st⟩ ⟨0,0,0,[]⟩ ⟨0,0,0,[]⟩ wn HW.out
    · have HK:=hI hK;clear hK;go_simp;have HW:=hI (HF.out.alloc (B1:=[]) (B2:=[none,some q8]) hsbg hgs4);refine HK.out _ _ (fun _=>HW.out.sbx) ?_;clear HK K
      try simp only [Act.put,psA,psB,psC]
      exact N0101 W.heap.size 0 q8 ⟨0,0,0,[]⟩ ⟨0,0,0,[]⟩ ⟨0,0,0,[]⟩ (W.alloc (.cells #[.slice none 0 0] 56)) HW.out
    · have HK:=hI hK;clear hK;go_simp;have HW:=hI (HF.out.alloc (B1:=[none]) (B2:=[some q8]) hsbg hgs4);refine HK.out _ _ (fun _=>HW.out.sbx) ?_;clear HK K
      try simp only [Act.put,psA,psB,psC]
      exact N0011 0 W.heap.size q8 ⟨0,0,0,[]⟩ ⟨0,0,0,[]⟩ ⟨0,0,0,[]⟩ (W.alloc (.cells #[.slice none 0 0] 56)) HW.out
  try simp only [Act.put,psA,psB,psC] at N0001
  refine Zfp (i:=3) (j:=12) (k:=13) (m:=14) (oi:=⟨some 27,_,_,_,_,_⟩) (oj:=⟨some 6,_,_,_,_,_⟩) (ok:=⟨some 7,_,_,_,_,_⟩) (om:=⟨some 8,_,_,_,_,_⟩) (Li:=(bA 18 1919)) (Lj:=(bA 18 6007)) (Lk:=(bA 18 10103)) (Lm:=(bA 18 18295)) rfl rfl rfl rfl (by kernel_rfl) (by kernel_rfl) (by kernel_rfl) (by kernel_rfl) (by kernel_rfl) (fun K hK=>?_) (fun K hK=>?_) (fun K hK=>?_) (fun K hK=>?_)
  · have HK:=hI hK;clear hK;go_simp;refine(ZaN HTR.out hgs4 HGS.out HMO.out HF.out.gx).mono ?_;rintro e wn ⟨gt,st,rfl,ns,ngx,hgn⟩;have HW:=hI (HF.out.call ns ngx hgn hsbg hgs4);clear ns ngx hgn;refine HK.out _ _ (fun _=>HW.out.sbx) ?_;clear HK K
    try simp only [Act.put,psA,psB,psC]
    exact N1000 0 0 0 ⟨y0.heap.size,wn.heap.size,gt,st⟩ ⟨0,0,0,[]⟩ ⟨0,0,0,[]⟩ wn HW.out
  · have HK:=hI hK;clear hK;go_simp;have HW:=hI (HF.out.alloc (B1:=[]) (B2:=[none,none]) hsbg hgs4);refine HK.out _ _ (fun _=>HW.out.sbx) ?_;clear HK K
    try simp only [Act.put,psA,psB,psC]
    exact N0100 y0.heap.size 0 0 ⟨0,0,0,[]⟩ ⟨0,0,0,[]⟩ ⟨0,0,0,[]⟩ (y0.alloc (.cells #[.slice none 0 0] 56)) HW.out
  · have HK:=hI hK;clear hK;go_simp;have HW:=hI (HF.out.alloc (B1:=[none]) (B2:=[none]) hsbg hgs4);refine HK.out _ _ (fun _=>HW.out.sbx) ?_;clear HK K
    try simp only [Act.put,psA,psB,psC]
    exact N0010 0 y0.heap.size 0 ⟨0,0,0,[]⟩ ⟨0,0,0,[]⟩ ⟨0,0,0,[]⟩ (y0.alloc (.cells #[.slice none 0 0] 56)) HW.out
  · have HK:=hI hK;clear hK;go_simp;have HW:=hI (HF.out.alloc (B1:=[none,none]) (B2:=[]) hsbg hgs4);refine HK.out _ _ (fun _=>HW.out.sbx) ?_;clear HK K
    try simp only [Act.put,psA,psB,psC]
    exact N0001 0 0 y0.heap.size ⟨0,0,0,[]⟩ ⟨0,0,0,[]⟩ ⟨0,0,0,[]⟩ (y0.alloc (.cells #[.slice none 0 0] 56)) HW.out
 case rest =>
  obtain⟨p6,p7,p8,g1,sta,g2,stb,g3,stc,rfl,rfl,rfl,hth⟩:=hcut;obtain⟨wd,rfl⟩:∃ wd:World,wd=wc:=⟨_,rfl⟩;have HTH:=hI hth;clear hth;have hgd:=HTH.out.gr;have hkwd:=Kp.grown (g:=g) hgd;have HTS:=hI (hkwd.tab HTS.out);have HTR:=hI (hkwd.rt HTR.out);have SB:=hI (hkwd.bx SB.out);have HB:=hI (ZdC HB.out hgd hg0 HB.out.size);have hzwd:w4.heap.size≤wd.heap.size:=hkwd.sz;clear hkwd;have HC:=hI HTH.out.cs;clear hgd;have hgc:=HC.out.lt;have P6:=hI (show Bx wd g p6 #[.slice (some ⟨g1,0,none⟩) sta.length sta.length] 56 from ⟨HTH.out.b6,by have:=HTH.out.n6;omega⟩);have P7:=hI (show Bx wd g p7 #[.slice (some ⟨g2,0,none⟩) stb.length stb.length] 56 from ⟨HTH.out.b7,by have:=HTH.out.n7;omega⟩);have P8:=hI (show Bx wd g p8 #[.slice (some ⟨g3,0,none⟩) stc.length stc.length] 56 from ⟨HTH.out.b8,by have:=HTH.out.n8;omega⟩);have HSA:=hI (show StS wd (LtG wd g) (some ⟨g1,0,none⟩) sta from HTH.out.sa);have HSB:=hI (show StS wd (LtG wd g) (some ⟨g2,0,none⟩) stb from HTH.out.sb');have HSC:=hI (show StS wd (LtG wd g) (some ⟨g3,0,none⟩) stc from HTH.out.sc);obtain⟨hd1,hl1⟩:=ZfV HGS.out HMO.out HTH.out.oka HTH.out.okb HTH.out.ca HTH.out.cb;have HD1:=hI hd1;clear hd1;obtain⟨hd2,hl2⟩:=ZfV HGS.out HMO.out HTH.out.okb HTH.out.okc HTH.out.cb HTH.out.cc;have HD2:=hI hd2;clear hd2;obtain⟨hd3,hl3⟩:=ZfV HGS.out HMO.out HTH.out.oka HTH.out.okc HTH.out.ca HTH.out.cc;have HD3:=hI hd3;clear hd3;have HNT:=hI (tri_plain HGS.out HMO.out HTH.out.oka HTH.out.okb HTH.out.okc HTH.out.ca HTH.out.cb HTH.out.cc);have hq1:=HTH.out.ca;have hq2:=HTH.out.cb;have hq3:=HTH.out.cc;have HLA:=hI HSA.out.len;have HLB:=hI HSB.out.len;have HLC:=hI HSC.out.len;obtain⟨D1,hD1⟩:∃ D,Zbu s sta stb=D:=⟨_,rfl⟩;obtain⟨D2,hD2⟩:∃ D,Zbu s stb stc=D:=⟨_,rfl⟩;obtain⟨D3,hD3⟩:∃ D,Zbu s sta stc=D:=⟨_,rfl⟩;rw [hD1] at HD1 hl1 HNT;rw [hD2] at HD2 hl2 HNT;rw [hD3] at HD3 hl3 HNT;clear hD1 hD2 hD3;have s0:wd.cell? ⟨sb,0,none⟩=some (.int .i64 s.version):=SB.out.at_ 0 _ rfl;have s1:wd.cell? ⟨sb,1,none⟩=some (.slice A0 s.tabs.length c0'):=SB.out.at_ 1 _ rfl;have sl:sb<wd.heap.size:=SB.out.lt;have v60:wd.cell? ⟨p6,0,none⟩=some (.slice (some ⟨g1,0,none⟩) sta.length sta.length):=P6.out.at_ 0 _ rfl;have v6l:p6<wd.heap.size:=P6.out.lt;have v70:wd.cell? ⟨p7,0,none⟩=some (.slice (some ⟨g2,0,none⟩) stb.length stb.length):=P7.out.at_ 0 _ rfl;have v7l:p7<wd.heap.size:=P7.out.lt
  go_wp2_with fail
  clear s0 s1 sl v60 v6l v70 v7l;have hcl:=Zgi pcF A0 c0' s m (some ⟨g1,0,none⟩) sta.length sta (some ⟨g2,0,none⟩) stb.length stb (LtG wd g) wd HTS.out HSA.out HSB.out (fun b hb=>hb.1) (ZdI s) (by omega) (by omega);rw [HD1.out] at hcl;refine(show Calls _ _ _ _ _ from hcl).mono ?_;rintro e we ⟨XA,xc,rfl,hxc,hx,hbwe⟩;clear hcl;have HX1':=hI (show ChgS we (LtG we g) XA D1 from Sl.more hx (fun b hb=>⟨hb.2,by have:=hb.1;omega⟩));clear hx;have hkwe:=Kp.below (g:=g) hbwe;have HTS:=hI (hkwe.tab HTS.out);have HTR:=hI (hkwe.rt HTR.out);have SB:=hI (hkwe.bx SB.out);have P6:=hI (hkwe.bx P6.out);have P7:=hI (hkwe.bx P7.out);have P8:=hI (hkwe.bx P8.out);have HSA:=hI (hkwe.st HSA.out);have HSB:=hI (hkwe.st HSB.out);have HSC:=hI (hkwe.st HSC.out);have HB:=hI (HB.out.trans (hbwe.mono HB.out.size));have hzwe:wd.heap.size≤we.heap.size:=hkwe.sz;clear hkwe;have HX1:=HX1';clear HX1' hbwe;dsimp only;dsimp only at hxc;have s0:we.cell? ⟨sb,0,none⟩=some (.int .i64 s.version):=SB.out.at_ 0 _ rfl;have s1:we.cell? ⟨sb,1,none⟩=some (.slice A0 s.tabs.length c0'):=SB.out.at_ 1 _ rfl;have sl:sb<we.heap.size:=SB.out.lt;have v70:we.cell? ⟨p7,0,none⟩=some (.slice (some ⟨g2,0,none⟩) stb.length stb.length):=P7.out.at_ 0 _ rfl;have v7l:p7<we.heap.size:=P7.out.lt;have v80:we.cell? ⟨p8,0,none⟩=some (.slice (some ⟨g3,0,none⟩) stc.length stc.length):=P8.out.at_ 0 _ rfl;have v8l:p8<we.heap.size:=P8.out.lt
  go_wp2_with fail
  clear s0 s1 sl v70 v7l v80 v8l;have hcl:=Zgi pcF A0 c0' s m (some ⟨g2,0,none⟩) stb.length stb (some ⟨g3,0,none⟩) stc.length stc (LtG we g) we HTS.out HSB.out HSC.out (fun b hb=>hb.1) (ZdI s) (by omega) (by omega);rw [HD2.out] at hcl;refine(show Calls _ _ _ _ _ from hcl).mono ?_;rintro e wf ⟨YA,yc,rfl,hyc,hx,hbwf⟩;clear hcl;have HX2':=hI (show ChgS wf (LtG wf g) YA D2 from Sl.more hx (fun b hb=>⟨hb.2,by have:=hb.1;omega⟩));clear hx;have hkwf:=Kp.below (g:=g) hbwf;have HTS:=hI (hkwf.tab HTS.out);have HTR:=hI (hkwf.rt HTR.out);have SB:=hI (hkwf.bx SB.out);have P6:=hI (hkwf.bx P6.out);have P7:=hI (hkwf.bx P7.out);have P8:=hI (hkwf.bx P8.out);have HSA:=hI (hkwf.st HSA.out);have HSB:=hI (hkwf.st HSB.out);have HSC:=hI (hkwf.st HSC.out);have HX1:=hI (hkwf.ch HX1.out);have HB:=hI (HB.out.trans (hbwf.mono HB.out.size));have hzwf:we.heap.size≤wf.heap.size:=hkwf.sz;clear hkwf;have HX2:=HX2';clear HX2' hbwf;dsimp only;dsimp only at hyc;have s0:wf.cell? ⟨sb,0,none⟩=some (.int .i64 s.version):=SB.out.at_ 0 _ rfl;have s1:wf.cell? ⟨sb,1,none⟩=some (.slice A0 s.tabs.length c0'):=SB.out.at_ 1 _ rfl;have sl:sb<wf.heap.size:=SB.out.lt;have v60:wf.cell? ⟨p6,0,none⟩=some (.slice (some ⟨g1,0,none⟩) sta.length sta.length):=P6.out.at_ 0 _ rfl;have v6l:p6<wf.heap.size:=P6.out.lt;have v80:wf.cell? ⟨p8,0,none⟩=some (.slice (some ⟨g3,0,none⟩) stc.length stc.length):=P8.out.at_ 0 _ rfl;have v8l:p8<wf.heap.size:=P8.out.lt
  go_wp2_with fail
  clear s0 s1 sl v60 v6l v80 v8l;have hcl:=Zgi pcF A0 c0' s m (some ⟨g1,0,none⟩) sta.length sta (some ⟨g3,0,none⟩) stc.length stc (LtG wf g) wf HTS.out HSA.out HSC.out (fun b hb=>hb.1) (ZdI s) (by omega) (by omega);rw [HD3.out] at hcl;refine(show Calls _ _ _ _ _ from hcl).mono ?_;rintro e wg ⟨ZA,zc,rfl,hzc,hx,hbwg⟩;clear hcl;have HX3':=hI (show ChgS wg (LtG wg g) ZA D3 from Sl.more hx (fun b hb=>⟨hb.2,by have:=hb.1;omega⟩));clear hx;have hkwg:=Kp.below (g:=g) hbwg;have HTS:=hI (hkwg.tab HTS.out);have HTR:=hI (hkwg.rt HTR.out);have SB:=hI (hkwg.bx SB.out);have P6:=hI (hkwg.bx P6.out);have P7:=hI (hkwg.bx P7.out);have P8:=hI (hkwg.bx P8.out);have HSA:=hI (hkwg.st HSA.out);have HSB:=hI (hkwg.st HSB.out);have HSC:=hI (hkwg.st HSC.out);have HX1:=hI (hkwg.ch HX1.out);have HX2:=hI (hkwg.ch HX2.out);have HB:=hI (HB.out.trans (hbwg.mono HB.out.size));have hzwg:wf.heap.size≤wg.heap.size:=hkwg.sz;clear hkwg;have HX3:=HX3';clear HX3' hbwg;dsimp only;dsimp only at hzc;have s0:wg.cell? ⟨sb,0,none⟩=some (.int .i64 s.version):=SB.out.at_ 0 _ rfl;have s1:wg.cell? ⟨sb,1,none⟩=some (.slice A0 s.tabs.length c0'):=SB.out.at_ 1 _ rfl;have sl:sb<wg.heap.size:=SB.out.lt;go_upto_region 8 with fail
  obtain⟨vx,hvx,hcx⟩:=ZgW HX1.out;obtain⟨vy,hvy,hcy⟩:=ZgW HX2.out;have HVX:=hI hvx;have HVY:=hI hvy;have HCX:=hI hcx;have HCY:=hI hcy;clear hvx hvy hcx hcy;obtain⟨n1,hn1⟩:∃ n1,D1.length=n1:=⟨_,rfl⟩;obtain⟨n2,hn2⟩:∃ n2,D2.length=n2:=⟨_,rfl⟩;have HN1:=hI hn1;have HN2:=hI hn2;rw [hn1] at hxc hl1 HCX ⊢;rw [hn2] at hyc hl2 HCY ⊢;clear hn1 hn2;refine tS (fun w'=>w'.cell? ⟨sb,0,none⟩=some (.int .i64 s.version)∧w'.cell? ⟨sb,1,none⟩=some (.slice A0 s.tabs.length c0')) 12 12 fun Q' HQ HP=>?_;obtain⟨v0,hv0⟩:∃ v0,wg.drew=v0:=⟨_,rfl⟩;have HB0:=hI (show Below wg.heap.size wg v0 by rw [←hv0];exact(Below.refl _ wg).drew);have hzv0:wg.heap.size≤v0.heap.size∧v0.heap.size≤wg.heap.size:=(by rw [←hv0];exact⟨Nat.le_refl _,Nat.le_refl _⟩);rw [hv0];clear hv0;have s0:=c9Q HB0.out sl s0;have s1:=c9Q HB0.out sl s1;refine tX 0 61 1 62 2 63 4 65 (bA 12 23) HP.out ⟨s0,s1⟩ ?_;refine tQ 3 (some 64) (bA 12 31) fun K HK=>?_;refine ZcU (by rfl) (.const (.slice none 0 0)) (.tmp 63) _ (by rfl) wg.heap.size (fun b=>b<wg.heap.size∧b≠g) 53 i0 _ 3 56 Try.underlying48 hi hz0 hz1c hz2 rfl (by decide) v0 none 0 0 [] (Mk.start (fun b hb=>hb.1) (by omega) _ _) (by rfl) (D1.map Zal) vx (Dat.ValsAll.more (fun b hb=>.inl hb) _ _ (Dat.ValsAll.keep (Same.of_below HB0.out (fun b hb=>hb.1)) _ _ HVX.out)) (Zcs Zbg _) (fun d hd=>by obtain⟨a,_,rfl⟩:=List.mem_map.1 hd;rfl) XA n1 xc (by rw [List.length_map,HN1.out]) (by rfl) (fun hp=>by obtain⟨b,off,q1,q2,q3⟩:=HCX.out hp;exact⟨⟨b,off,none⟩,q1,(q3.keep (HB0.out.block b q2.1)).add⟩) (by omega) (by omega) ?_;intro B3 d3 v1 hm3 hb3;have HM3:=hI hm3;have HB0:=hI (HB0.out.trans hb3);have hzv1:=HB0.out.size;have s0:=c9Q hb3 sl s0;have s1:=c9Q hb3 sl s1;clear hm3 hb3;refine HK.out _ _ (fun _=>⟨s0,s1⟩) ?_;clear HK K
  try simp only [Act.put,psA,psB,psC]
  refine tQ 5 (some 66) (bA 12 63) fun K HK=>?_;refine ZcU (by rfl) (.tmp 64) (.tmp 65) _ (by rfl) wg.heap.size (fun b=>b<wg.heap.size∧b≠g) 53 i0 _ 3 56 Try.underlying48 hi hz0 hz1c hz2 rfl (by decide) v1 B3 (0+n1) d3 ([]++D1.map Zal) HM3.out (by rfl) (D2.map Zal) vy (Dat.ValsAll.more (fun b hb=>.inl hb) _ _ (Dat.ValsAll.keep (Same.of_below HB0.out (fun b hb=>hb.1)) _ _ HVY.out)) (Zcs Zbg _) (fun d hd=>by obtain⟨a,_,rfl⟩:=List.mem_map.1 hd;rfl) YA n2 yc (by rw [List.length_map,HN2.out]) (by rfl) (fun hp=>by obtain⟨b,off,q1,q2,q3⟩:=HCY.out hp;exact⟨⟨b,off,none⟩,q1,(q3.keep (HB0.out.block b q2.1)).add⟩) (by omega) (by omega) ?_;intro B5 d5 v2 hm5 hb5;have HM5:=hI hm5;have HB0:=hI (HB0.out.trans hb5);have hzv2:=HB0.out.size;have s0:=c9Q hb5 sl s0;have s1:=c9Q hb5 sl s1;clear hm5 hb5;refine HK.out _ _ (fun _=>⟨s0,s1⟩) ?_;clear HK K
  try simp only [Act.put,psA,psB,psC]
  refine tQ 6 (some 67) (bA 12 127) fun K HK=>?_;go_simp;have hsl8:=HM5.out.slice (by rw [List.nil_append,←List.map_append,Zag (n:=56) (fun _=>rfl),List.length_append,HN1.out,HN2.out];omega);rw [List.nil_append,←List.map_append] at hsl8;have HCL:=hI (show ChgS v2 (LtG v2 g) B5 (D1++D2) from Sl.more hsl8.2.2 (fun b hb=>by rcases hb with hb | hb;{ exact⟨by have:=hb.1;omega,hb.2⟩ };exact⟨hb.2,by have:=hb.1;omega⟩));clear hsl8;have HKD:=hI (Kp.below (g:=g) HB0.out);have hcl:=net_any pcF A0 c0' s m B5 d5 (D1++D2) (LtG v2 g) v2 (HKD.out.tab HTS.out) HCL.out (fun b hb=>hb.1) (ZdI s) (by omega) (by rw [List.length_append,HN1.out,HN2.out];omega);rw [HGS.out.check,HNT.out,List.length_append,HN1.out,HN2.out] at hcl
  try rw [Nat.zero_add]
  refine(show Calls _ _ _ _ _ from hcl).mono ?_;rintro e v3 ⟨NA,nc,rfl,-,hnx,hbv3⟩;clear hcl;have HNX:=hI (show ChgS v3 (LtG v3 g) NA D3 from Sl.more hnx (fun b hb=>⟨hb.2,by have:=hb.1;omega⟩));have HBZ:=hI (HB0.out.trans (hbv3.mono (by omega)));have hzv3:=HBZ.out.size;have s0:=c9J hbv3 s0;have s1:=c9J hbv3 s1;clear hnx hbv3;refine HK.out _ _ (fun _=>⟨s0,s1⟩) ?_;clear HK K
  try simp only [Act.put,psA,psB,psC]
  refine tX 7 60 8 68 9 69 10 15 (bA 12 2047) HP.out ⟨s0,s1⟩ ?_;refine tJ 11 16 (bA 12 4095) HP.out ⟨s0,s1⟩ ?_;refine tE HQ ?_;clear HQ HP Q';clear s0 s1;have hbz:=HBZ.out;have hkv3:=Kp.below (g:=g) hbz;have HTS:=hI (hkv3.tab HTS.out);have HX3:=hI (hkv3.ch HX3.out);have HB:=hI (HB.out.trans (hbz.mono HB.out.size));have hzv3:wg.heap.size≤v3.heap.size:=hkv3.sz;clear hkv3;clear hbz
  go_wp2_with fail
  refine(begun8_any v3).mono ?_;rintro e v4 ⟨rfl,hbv4⟩;have hkv4:=Kp.below (g:=g) hbv4;have HTS:=hI (hkv4.tab HTS.out);have HX3:=hI (hkv4.ch HX3.out);have HNX:=hI (hkv4.ch HNX.out);have HB:=hI (HB.out.trans (hbv4.mono HB.out.size));have hzv4:v3.heap.size≤v4.heap.size:=hkv4.sz;clear hkv4;clear hbv4
  go_wp2_with fail
  have hcl:=rsameChanges_any NA ZA nc zc D3 D3 (LtG v4 g) v4 HNX.out HX3.out (fun b hb=>hb.1);rw [decide_eq_true (rfl:D3=D3)] at hcl;refine(show Calls _ _ _ _ _ from hcl).mono ?_;rintro e v5 ⟨rfl,hbv5⟩;clear hcl;have hkv5:=Kp.below (g:=g) hbv5;have HTS:=hI (hkv5.tab HTS.out);have HX3:=hI (hkv5.ch HX3.out);have HNX:=hI (hkv5.ch HNX.out);have HB:=hI (HB.out.trans (hbv5.mono HB.out.size));have hzv5:v4.heap.size≤v5.heap.size:=hkv5.sz;clear hkv5;clear hbv5
  go_wp2_with fail
  go_ret;exact⟨rfl,HB.out⟩
end Go.Proofs.Ytkpjjfhfbpfjpaa
