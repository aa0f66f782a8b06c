import Derived.Test.YtkpjjfhfbpfjpaaGreatK660fb2
import Derived.Deep.Slices
import Derived.Deep.Strs
import Derived.ChangeSame
import Derived.SizedLaws
import Derived.Test.YtkpjjfhfbpfjpaaGreatK81a5f2
import Derived.Test.YtkpjjfhfbpfjpaaGreatK907fdd
import Derived.Test.YtkpjjfhfbpfjpaaGreatK185549
import Derived.Test.YtkpjjfhfbpfjpaaGreatKf7d106
import Derived.Test.YtkpjjfhfbpfjpaaGreatK016a5b
import Derived.Test.YtkpjjfhfbpfjpaaGreatK765010
import Derived.Deep.Cut
import Derived.Deep.CutRange
import Derived.Deep.DeepCutAuto
set_option linter.unusedVariables false
set_option linter.unusedSimpArgs false
set_option maxRecDepth 100000
set_option maxHeartbeats 8000000
namespace Go.Proofs.YtkpjjfhfbpfjpaaGreat
open Go.RowKit Go.ChangeShapes Go.Deep
abbrev Lt (W:World):Nat→Prop:=fun b=>b<W.heap.size
section
variable {H:Type} {enc:TypeId × Value→H} {W:World} {fuel:Nat} {cs:List Value} {x:DataW H × List MemPlace}
theorem spot_none {a:Addr} {v:Value} (h:W.cell? a=some v):∃ b off,a=⟨b,off,none⟩∧b<W.heap.size:=by
 have hb:=World.block_lt_of_cell? W _ h
 have hs:a.spot=none:=by
  unfold World.cell? at h;split at h
  · by_cases hs:a.spot.isSome
    · simp [hs] at h
    · simpa using hs
  · cases h
 obtain⟨b,off,sp⟩:=a;simp only at hs hb;subst hs;exact⟨b,off,rfl,hb⟩
theorem ZdT {P:Program} {e:TypeId}:∀ {ds:List (DataW H)} {d:DataW H},d ∈ ds→∀ n ∈ d.weights P e,n ∈ DataW.weightsAll P e ds
 | [],_,h,_,_=>by cases h
 | a :: r,d,h,n,hn=>by
  unfold DataW.weightsAll;rcases List.mem_cons.1 h with h' | h'
  · subst h';exact List.mem_append.2 (.inl hn)
  · exact List.mem_append.2 (.inr (ZdT h' n hn))
theorem Zht {α:Type} [Inhabited α] (ed:α→Dat) {T E:TypeId} {n by_:Nat} (hu:Tryz.prog.underlying T=some (.slice E)) (hn:Tryz.prog.cellsOf E=n) (hn0:0<n) (hb:Tryz.prog.bytesOf E=by_) (hsz:∀ a,(ed a).size=n) (hby:∀ a,(ed a).bytes=by_)
  (each:∀ (fuel:Nat) (cs:List Value) (x:DataW H × List MemPlace),DataW.trod enc Tryz.prog W 0 (fun _=>true) true fuel E cs=some x→(∀ k ∈ x.1.weights Tryz.prog E,k≤reachBytes)→∃ a,Dat.Vals W (Lt W) (ed a) cs)
  (h:DataW.trod enc Tryz.prog W 0 (fun _=>true) true fuel T cs=some x) (hw:∀ k ∈ x.1.weights Tryz.prog T,k≤reachBytes) :
  ∃ A cap l,cs=[.slice A (l:List α).length cap]∧l.length≤cap∧Sl W (Lt W) A (l.map ed):=by
 rcases open_slice hu h with ⟨hcs,_⟩ | ⟨a,len,cap,m,f,D,Pl,hcs,_,hl,hm,hmm,rfl,hx⟩
 · exact⟨none,0,[],hcs,by simp,Sl.nil_⟩
 · simp only [if_true] at hmm;subst hmm
   have hwl:len*by_≤140737488355328:=by
    have h1:=hw ((len+(m - len))*by_) (by
     simp only [DataW.weights,hu];refine List.mem_cons.2 (.inl ?_);simp only [List.length_map,List.length_range,hb])
    have h2:len*by_≤(len+(m - len))*by_:=Nat.mul_le_mul_right _ (by omega);unfold reachBytes at h1;omega
   have each':∀ i,i<len→∃ v:α,∃ vs,Dat.Vals W (Lt W) (ed v) vs∧∀ j u,vs[j]?=some u→W.cell? ((a.add (i*n)).add j)=some u:=by
    intro i hi;obtain⟨cs',h1,h2⟩:=hx i (by omega);rw [hn] at h1
    obtain⟨v,hv⟩:=each _ _ _ h2 (fun k hk=>hw k (by
     simp only [DataW.weights,hu];exact List.mem_cons.2 (.inr (List.mem_append.2 (.inl (ZdT (List.mem_map.2 ⟨i,List.mem_range.2 hi,rfl⟩) k hk))))))
    refine⟨v,cs',hv,fun j u hu'=>?_⟩;obtain⟨hlen,_,hc⟩:=World.cells?_some h1;have hj:j<cs'.length:=(List.getElem?_eq_some_iff.1 hu').1;have hjn:j<n:=(by rw [Dat.Vals.len _ _ hv,hsz] at hj;exact hj);have:=hc j hjn;rw [this];simpa using hu'
   obtain⟨f,hf⟩:=choose_lt (α:=α) each';refine⟨some a,m,(List.range len).map f,by rw [List.length_map,List.length_range];exact hcs,by simpa using hl,by rw [Zaf (n:=by_) hby,List.length_map,List.length_range];exact hwl,fun hn'=>?_⟩;have hl0:0<len:=(by simpa using hn');obtain⟨vs0,hv0,hc0⟩:=hf 0 hl0;have hvl:0<vs0.length:=(by rw [Dat.Vals.len _ _ hv0,hsz];exact hn0);have hcell:=hc0 0 vs0[0] (by simp);obtain⟨b,off,ha,hb'⟩:=spot_none hcell;have ha':a=⟨b,off,none⟩:=(by simpa [Addr.add] using ha);subst ha';refine⟨b,off,rfl,hb',ZdK (n:=n) (fun d hd=>by obtain⟨v,_,rfl⟩:=List.mem_map.1 hd;exact hsz v) (fun k hk=>?_)⟩;have hk':k<len:=(by simpa using hk);have e:((((List.range len).map f)).map ed)[k]=ed (f k):=(by simp);rw [e];obtain⟨vs,hv,hc⟩:=hf k hk';refine held_of_cells _ vs _ _ hv (fun j u hu'=>?_);have:=hc j u hu';rw [Zcn,Zcn] at this;exact this
instance:Inhabited V:=⟨v0⟩
instance:Inhabited Chg:=⟨chg0⟩
theorem raw_val (h:DataW.trod enc Tryz.prog W 0 (fun _=>true) true fuel 89 cs=some x):∃ v:V,Dat.Vals W (Lt W) (encV v) cs:=by
 obtain⟨y0,y1,y2,n,rfl,hl,h0,h1,h2⟩:=trod_struct3 Tryz.underlying89 h;rw [show Tryz.prog.cellsOf 89=3 by kernel_rfl] at hl
 match cs,hl with
 | [c0,c1,c2],_ =>
  have h0':DataW.trod enc Tryz.prog W 0 (fun _=>true) true n 3 [c0]=some y0:=h0;have h1':DataW.trod enc Tryz.prog W 0 (fun _=>true) true n 2 [c1]=some y1:=h1;have h2':DataW.trod enc Tryz.prog W 0 (fun _=>true) true n 9 [c2]=some y2:=h2;obtain⟨a,e0,_,_⟩:=DataW.trod_int Tryz.underlying3 h0';obtain⟨b,e1,_,_⟩:=DataW.trod_int Tryz.underlying2 h1';obtain⟨t,e2,_,ht⟩:=DataW.trod_string Tryz.underlying9 h2';injection e0 with e0;injection e1 with e1;injection e2 with e2;subst e0 e1 e2;refine⟨⟨a,b,t⟩,?_⟩;unfold maxLen at ht;simp only [encV,Dat.Vals,Dat.ValsAll,ZaW,ZaK];exact⟨[.int .i64 a],_,rfl,⟨rfl,trivial⟩,[.int .i64 b],_,rfl,⟨rfl,trivial⟩,[.string t],[],rfl,⟨rfl,by omega⟩,rfl⟩
theorem raw_row (h:DataW.trod enc Tryz.prog W 0 (fun _=>true) true fuel 42 cs=some x) (hw:∀ k ∈ x.1.weights Tryz.prog 42,k≤reachBytes):∃ A cap r,cs=[.slice A (r:Row).length cap]∧r.length≤cap∧RowS W (Lt W) A r :=
 Zht (n:=3) (by_:=32) encV Tryz.underlying42 (by kernel_rfl) (by decide) (by kernel_rfl) ZeA (fun _=>rfl) (fun fuel cs x h _=>raw_val h) h hw
theorem raw_chg (h:DataW.trod enc Tryz.prog W 0 (fun _=>true) true fuel 44 cs=some x) (hw:∀ k ∈ x.1.weights Tryz.prog 44,k≤reachBytes):∃ c:Chg,Dat.Vals W (Lt W) (Zax c) cs:=by
 obtain⟨y0,y1,y2,n,rfl,hl,h0,h1,h2⟩:=trod_struct3 Tryz.underlying44 h;rw [show Tryz.prog.cellsOf 44=3 by kernel_rfl] at hl
 match cs,hl with
 | [c0,c1,c2],_ =>
  have h0':DataW.trod enc Tryz.prog W 0 (fun _=>true) true n 3 [c0]=some y0:=h0;have h1':DataW.trod enc Tryz.prog W 0 (fun _=>true) true n 42 [c1]=some y1:=h1;have h2':DataW.trod enc Tryz.prog W 0 (fun _=>true) true n 42 [c2]=some y2:=h2;obtain⟨a,e0,_,_⟩:=DataW.trod_int Tryz.underlying3 h0'
  obtain⟨B,cb,r,e1,hb,hr⟩:=raw_row h1' (fun k hk=>hw k (by
   simp only [DataW.weights,Tryz.underlying44];show k ∈ DataW.weightsEach Tryz.prog [3,42,42] [y0.1,y1.1,y2.1];simp only [DataW.weightsEach,List.mem_append];exact .inr (.inl hk)))
  obtain⟨C,cc,q,e2,hc,hq⟩:=raw_row h2' (fun k hk=>hw k (by
   simp only [DataW.weights,Tryz.underlying44];show k ∈ DataW.weightsEach Tryz.prog [3,42,42] [y0.1,y1.1,y2.1];simp only [DataW.weightsEach,List.mem_append];exact .inr (.inr (.inl hk))))
  injection e0 with e0;injection e1 with e1;injection e2 with e2;subst e0 e1 e2;exact⟨⟨a,r,q⟩,Zcl ⟨hb,hr⟩ ⟨hc,hq⟩⟩
theorem raw_chgs (h:DataW.trod enc Tryz.prog W 0 (fun _=>true) true fuel 23 cs=some x) (hw:∀ k ∈ x.1.weights Tryz.prog 23,k≤reachBytes):∃ A cap l,cs=[.slice A (l:List Chg).length cap]∧l.length≤cap∧ChgS W (Lt W) A l :=
 Zht (n:=3) (by_:=56) Zax Tryz.underlying23 (by kernel_rfl) (by decide) (by kernel_rfl) ZaR (fun _=>rfl) (fun fuel cs x h hw=>raw_chg h hw) h hw
end
theorem Mk.keep2 {w w':World} {base size:Nat} {S0 X:Nat→Prop} {e:TypeId} {v:Value} {l:List Dat} (h:Mk w base S0 e size v l) (hf:Fr X w w') (hX:∀ b,X b→(b<base∧¬ S0 b)∨w.heap.size≤b):Mk w' base S0 e size v l :=
 h.keep (X:=fun b=>X b∧b<base∧¬ S0 b) ⟨hf.os,hf.tape,hf.output,hf.size,fun b hb hx=>hf.block b hb (fun hxb=>by
  rcases hX b hxb with h9 | h9
  · exact hx ⟨hxb,h9⟩
  · omega)⟩ (fun b hb=>hb.2)
theorem nets_walk (a:Option Addr) (len cap0:Nat) (zs:List Int) (AR:Option Addr) (cr:Nat) (raw:List Chg) (mo:Int) (w:World) (hrow:IsRow .u8 w a len cap0 zs) (hraw:ChgS w (LtW w) AR raw) (hcr:raw.length≤cr) :
  Calls Tryz.prog 4 #[.slice a len cap0,.slice AR raw.length cr,.int .i64 mo] w (ZaP true w):=by
 have HROW:=hI hrow;have HRAW:=hI hraw;have HCR:=hI hcr;clear hrow hraw hcr;go_enter Tryz.func4,Tryz.ntmps4
 go_wp2_with fail
 refine(new_any a len cap0 zs 160 _ (by omega) HROW.out).mono ?_;rintro e w1 ⟨g,rfl,hg0,hc1,hb1⟩;have hgl1:=hc1.lt;have HC1:=hI hc1;have HB1:=hI hb1;have hz1:=hb1.size;clear hc1 hb1
 go_wp2_with fail
 refine(schema_any g _ HC1.out).mono ?_;rintro e w2 ⟨s,A0,c0',rfl,hgs,hcap,hts,hc2,hg2⟩;have hz2:=hg2.size;have hsl:=hgs.len;have HGS:=hI hgs;have HTS:=hI (hts.more (S':=Rng g w2) (fun b hb=>⟨by have:=hb.1;omega,hb.2⟩));have HC2:=hI hc2;have HB2:=hI (ZcL HB1.out hg2 hg0 (by omega));clear hgs hts hc2 hg2 HC1 HB1;obtain⟨W2,hW2⟩:∃ W2,w2.alloc (.cells #[.int .i64 s.version,.slice A0 s.tabs.length c0'] 28)=W2:=⟨_,rfl⟩;obtain⟨sb,hsb⟩:∃ sb,w2.heap.size=sb:=⟨_,rfl⟩;have hbW2:Below w2.heap.size w2 W2:=(by rw [←hW2];exact(Below.refl _ _).alloc nR _);have SB:=hI (show W2.heap[sb]?=some (.cells #[.int .i64 s.version,.slice A0 s.tabs.length c0'] 28 (0,0)) by rw [←hW2,←hsb];exact heap_alloc_new w2 _);have HTS:=hI (HTS.out.keep (Same.of_below hbW2 (fun b hb=>hb.2)));have hw2s:w2.heap.size≤sb∧sb≤w2.heap.size:=(by omega);have HC2:=hI (HC2.out.keep (fun b hb=>hbW2.block b (by omega)));have HB2:=hI (HB2.out.trans (hbW2.mono (by omega)));have hzW2:W2.heap.size=sb+1:=(by rw [←hW2,←hsb];simp);have hgs2:g<sb:=by omega
 go_wp2_with fail
 skip
 clear hW2 hbW2 hsb;refine(Zas g 3 _ (by omega) HC2.out).mono ?_;rintro e w3 ⟨r,rfl,r0,r1,-,hc3,hg3,hs3⟩;have hr3:=r1 (by omega);obtain⟨m,hm⟩:∃ m,1+r=m:=⟨_,rfl⟩;have HMO:=hI (show Zbx m=true by rw [←hm];have:r=0∨r=1∨r=2:=(by omega);rcases this with rfl | rfl | rfl<;>rfl);have HTS:=hI (HTS.out.keep (fun b hb=>hg3.block b (by have:=hb.2;omega) (fun e=>by injection e with e;have:=hb.1;omega)));have SB:=hI ((hg3.block sb (by omega) (fun e=>by injection e with e;omega)).trans SB.out);have HC3:=hI hc3;have HB3:=hI (ZcL HB2.out hg3 hg0 (by omega));have hz3:w3.heap.size=sb+1:=(by omega);have s0:w3.cell? ⟨sb,0,none⟩=some (.int .i64 s.version):=Zaa SB.out 0 _ rfl;have s1:w3.cell? ⟨sb,1,none⟩=some (.slice A0 s.tabs.length c0'):=Zaa SB.out 1 _ rfl;clear hc3 hg3 hs3 r1 HC2 HB2;go_upto_region 4 with fail
 have hgs3:g<w3.heap.size:=by omega
 go_cut [10,11] (fun p q W=>∃ (B0 cl:Nat) (AL:Option Addr) (l:List Chg) (st:St),p=.slice AL l.length cl∧l.length≤7∧StOk s m st∧Zap st≤16∧Fit s m st l∧Mk W B0 (fun _=>False) 44 3 (.slice AL l.length cl) (l.map Zax)∧w3.heap.size≤B0∧Gx w3 W g)
 case first =>
  obtain⟨y0,hy0⟩:∃ y0,w3.drew=y0:=⟨_,rfl⟩;have GX:=hI (show Gx w3 y0 g by rw [←hy0];exact⟨⟨rfl,rfl,rfl,Nat.le_refl _,fun _ _ _=>rfl⟩,HC3.out.keep (fun _ _=>rfl)⟩);have SBX:=hI (show y0.heap[sb]?=some (.cells #[.int .i64 s.version,.slice A0 s.tabs.length c0'] 28 (0,0)) by rw [←hy0];exact SB.out);have hzy0:y0.heap.size≤w3.heap.size∧w3.heap.size≤y0.heap.size:=(by rw [←hy0];exact⟨Nat.le_refl _,Nat.le_refl _⟩);refine tS (fun w'=>w'.heap[sb]?=some (.cells #[.int .i64 s.version,.slice A0 s.tabs.length c0'] 28 (0,0))) 13 14 fun Q' HQ HP=>?_;rw [hy0];clear hy0;refine tX 0 30 2 32 3 33 5 35 (bA 14 45) HP.out SBX.out ?_;refine anyT_take (i:=1) (oi:=⟨some 31,_,_,_,_,_⟩) (v:=.agg #[.int .i64 s.version,.slice A0 s.tabs.length c0']) (L':=(bA 14 47)) rfl rfl (by kernel_rfl) (by kernel_rfl) (by kernel_rfl) (by kernel_rfl) (by kernel_rfl) HP.out (Or.inl ⟨by rfl,?_⟩) SBX.out ?_
  · intro w' hSw;have x0:=Zaa hSw 0 _ rfl;have x1:=Zaa hSw 1 _ rfl;go_simp
    (try with_reducible rfl)
  simp only [psA,psB,psC];refine anyT_take (i:=4) (oi:=⟨some 34,_,_,_,_,_⟩) (v:=.agg #[.int .i64 s.version,.slice A0 s.tabs.length c0']) (L':=(bA 14 63)) rfl rfl (by kernel_rfl) (by kernel_rfl) (by kernel_rfl) (by kernel_rfl) (by kernel_rfl) HP.out (Or.inl ⟨by rfl,?_⟩) SBX.out ?_
  · intro w' hSw;have x0:=Zaa hSw 0 _ rfl;have x1:=Zaa hSw 1 _ rfl;go_simp
    (try with_reducible rfl)
  simp only [psA,psB,psC];refine Zcm (i:=6) (j:=11) (oi:=⟨some 36,_,_,_,_,_⟩) (oj:=⟨some 11,_,_,_,_,_⟩) (Li:=(bA 14 127)) (Lj:=(bA 14 2111)) rfl rfl (by kernel_rfl) (by kernel_rfl) (by kernel_rfl) (fun K hK=>?_) (fun K hK=>?_)
  · have HK:=hI hK;clear hK;go_simp;refine(state_x (HTS.out.more (fun b hb=>⟨hb.1,by have:=hb.2;omega⟩)) hgs3 HGS.out HMO.out GX.out).mono ?_;rintro e y1 ⟨gt1,st1,rfl,ns1,ngx,hgy1⟩;have NS1:=hI ns1;have GX:=hI ngx;have hzy1:=hgy1.size;clear ns1 ngx;have SBX:=hI (ZbS SBX.out hgy1 (by omega));clear hgy1;refine HK.out _ _ (fun _=>SBX.out) ?_;clear HK K
    try simp only [Act.put,psA,psB,psC]
    refine Zcm (i:=7) (j:=11) (oi:=⟨some 37,_,_,_,_,_⟩) (oj:=⟨some 11,_,_,_,_,_⟩) (Li:=(bA 14 255)) (Lj:=(bA 14 2175)) rfl rfl (by kernel_rfl) (by kernel_rfl) (by kernel_rfl) (fun K hK=>?_) (fun K hK=>?_)
    · have HK:=hI hK;clear hK;go_simp;have hc16:Zap st1≤16:=(by have h9:=ZeB st1 4 NS1.out.few;have h8:=NS1.out.ok.1;have:=hsl.2;omega);refine(Zem g A0 c0' s m (some ⟨gt1,0,none⟩) st1.length st1 7 (fun b=>b<y1.heap.size∧b≠g) y1 ((HTS.out.keep (fun b hb=>GX.out.gr.block b (by have:=hb.2;omega) (fun e=>by injection e with e;have:=hb.1;omega))).more (fun b hb=>⟨by have:=hb.2;have:=GX.out.gr.size;omega,by have:=hb.1;omega⟩)) (NS1.out.st.more (fun b hb=>by have h1:=NS1.out.sz;have h2:=NS1.out.hi_le;have h3:=NS1.out.lo_le;rcases hb with hb | hb<;>exact⟨by omega,by omega⟩)) (fun b hb=>hb) HGS.out HMO.out NS1.out.ok (by omega) (by omega) GX.out.cs).mono ?_;rintro e y2 ⟨B0,gt2,cap,l,AL,cl,rfl,-,hl7,hfit,hmk,-,hgt2,hgtB,hcy2,hgy2⟩;have HFIT:=hI hfit;have HMK:=hI hmk;have HFM:=hI (Fr.refl (fun _=>False) y2);have hB0:y1.heap.size≤B0:=(by omega);have HSO:=hI NS1.out.ok;have HC16:=hI hc16;have GX:=hI (show Gx w3 y2 g from ⟨GX.out.gr.trans hgy2,hcy2⟩);have hzy2:=hgy2.size;clear hfit hmk hcy2 hc16 hgt2 hgtB NS1;have SBX:=hI (ZbS SBX.out hgy2 (by omega));clear hgy2;refine HK.out _ _ (fun _=>SBX.out) ?_;clear HK K
      try simp only [Act.put,psA,psB,psC]
      refine tW 8 29 9 38 (bA 14 1023) HP.out SBX.out ?_;refine tJ 10 39 (bA 14 2047) HP.out SBX.out ?_;refine tQ 11 (some 11) (bA 14 4095) fun K HK=>?_;go_simp;obtain⟨y3,hy3⟩:∃ y3,y2.alloc (.cells #[.slice none 0 0] 33)=y3:=⟨_,rfl⟩;have hgy3:y2.grownBy y3 (some g):=(by rw [←hy3];exact World.grownBy_alloc y2 _ _);obtain⟨q11,hq11⟩:∃ q,y2.heap.size=q:=⟨_,rfl⟩;have hzy3:y3.heap.size≤q11+1∧q11+1≤y3.heap.size:=(by rw [←hy3,←hq11];simp);have hr11:y2.heap.size≤q11∧q11≤y2.heap.size:=(by omega);have GX:=hI (show Gx w3 y3 g by rw [←hy3];exact GX.out.alloc _);have NB11:=hI (show y3.heap[q11]?=some zBx by rw [←hy3,←hq11];exact heap_alloc_new y2 _);have HFM:=hI (show Fr (fun _=>False) y2 y3 by rw [←hy3];exact HFM.out.alloc _);rw [hy3];rw [hq11];clear hy3 hq11;have SBX:=hI (ZbS SBX.out hgy3 (by omega));clear hgy3;refine HK.out _ _ (fun _=>SBX.out) ?_;clear HK K
      try simp only [Act.put,psA,psB,psC]
      refine tQ 12 (some 10) (bA 14 8191) fun K HK=>?_;go_simp;refine HK.out _ _ (fun _=>SBX.out) ?_;clear HK K
      try simp only [Act.put,psA,psB,psC]
      have ca:y3.cell? ⟨q11,0,none⟩=some (.slice none 0 0):=Zaa NB11.out 0 _ rfl;have fa:y3.frozen? ⟨q11,0,none⟩=false:=(by simp [World.frozen?,NB11.out]);have l11:q11<y3.heap.size:=Zad NB11.out;refine tQ 13 none (bA 14 16383) fun K HK=>?_;go_simp;refine HK.out _ _ (fun h=>absurd rfl h) ?_;clear HK K;refine tE HQ ?_;clear HQ HP Q'
      go_wp2_with fail
      go_meet;exact⟨B0,cl,AL,l,st1,rfl,hl7,HSO.out,HC16.out,HFIT.out,HMK.out.keep2 ((HFM.out.mono (fun _ _ h=>h.elim)).trans (Y:=fun b=>b=q11) ((Fr.refl (fun b=>b=q11) _).setCell _ (fun _=>rfl)) (fun b _ e=>e):Fr (fun b=>b=q11) _ _) (fun b e=>by subst e;rcases Nat.lt_or_ge b B0 with h9 | h9;{ exact .inl ⟨h9,fun h=>h⟩ };exact .inr (by omega)),by omega,gx_set GX.out (by omega) hgs3⟩
    · have HK:=hI hK;clear hK;go_simp;obtain⟨y4,hy4⟩:∃ y4,y1.alloc (.cells #[.slice none 0 0] 33)=y4:=⟨_,rfl⟩;have hgy4:y1.grownBy y4 (some g):=(by rw [←hy4];exact World.grownBy_alloc y1 _ _);obtain⟨q11,hq11⟩:∃ q,y1.heap.size=q:=⟨_,rfl⟩;have hzy4:y4.heap.size≤q11+1∧q11+1≤y4.heap.size:=(by rw [←hy4,←hq11];simp);have hr11:y1.heap.size≤q11∧q11≤y1.heap.size:=(by omega);have GX:=hI (show Gx w3 y4 g by rw [←hy4];exact GX.out.alloc _);have NB11:=hI (show y4.heap[q11]?=some zBx by rw [←hy4,←hq11];exact heap_alloc_new y1 _);rw [hy4];rw [hq11];clear hy4 hq11;have NS1:=hI (NS1.out.keep hgy4 hgs3);have SBX:=hI (ZbS SBX.out hgy4 (by omega));clear hgy4;refine HK.out _ _ (fun _=>SBX.out) ?_;clear HK K
      try simp only [Act.put,psA,psB,psC]
      refine tQ 7 (some 37) (bA 14 2303) fun K HK=>?_;go_simp;have hc16:Zap st1≤16:=(by have h9:=ZeB st1 4 NS1.out.few;have h8:=NS1.out.ok.1;have:=hsl.2;omega);refine(Zem g A0 c0' s m (some ⟨gt1,0,none⟩) st1.length st1 7 (fun b=>b<y4.heap.size∧b≠g) y4 ((HTS.out.keep (fun b hb=>GX.out.gr.block b (by have:=hb.2;omega) (fun e=>by injection e with e;have:=hb.1;omega))).more (fun b hb=>⟨by have:=hb.2;have:=GX.out.gr.size;omega,by have:=hb.1;omega⟩)) (NS1.out.st.more (fun b hb=>by have h1:=NS1.out.sz;have h2:=NS1.out.hi_le;have h3:=NS1.out.lo_le;rcases hb with hb | hb<;>exact⟨by omega,by omega⟩)) (fun b hb=>hb) HGS.out HMO.out NS1.out.ok (by omega) (by omega) GX.out.cs).mono ?_;rintro e y5 ⟨B0,gt2,cap,l,AL,cl,rfl,-,hl7,hfit,hmk,-,hgt2,hgtB,hcy5,hgy5⟩;have HFIT:=hI hfit;have HMK:=hI hmk;have HFM:=hI (Fr.refl (fun _=>False) y5);have hB0:y4.heap.size≤B0:=(by omega);have HSO:=hI NS1.out.ok;have HC16:=hI hc16;have GX:=hI (show Gx w3 y5 g from ⟨GX.out.gr.trans hgy5,hcy5⟩);have hzy5:=hgy5.size;clear hfit hmk hcy5 hc16 hgt2 hgtB NS1;have NB11:=hI (ZbS NB11.out hgy5 (by omega));have SBX:=hI (ZbS SBX.out hgy5 (by omega));clear hgy5;refine HK.out _ _ (fun _=>SBX.out) ?_;clear HK K
      try simp only [Act.put,psA,psB,psC]
      refine tW 8 29 9 38 (bA 14 3071) HP.out SBX.out ?_;refine tJ 10 39 (bA 14 4095) HP.out SBX.out ?_;refine tQ 12 (some 10) (bA 14 8191) fun K HK=>?_;go_simp;refine HK.out _ _ (fun _=>SBX.out) ?_;clear HK K
      try simp only [Act.put,psA,psB,psC]
      have ca:y5.cell? ⟨q11,0,none⟩=some (.slice none 0 0):=Zaa NB11.out 0 _ rfl;have fa:y5.frozen? ⟨q11,0,none⟩=false:=(by simp [World.frozen?,NB11.out]);have l11:q11<y5.heap.size:=Zad NB11.out;refine tQ 13 none (bA 14 16383) fun K HK=>?_;go_simp;refine HK.out _ _ (fun h=>absurd rfl h) ?_;clear HK K;refine tE HQ ?_;clear HQ HP Q'
      go_wp2_with fail
      go_meet;exact⟨B0,cl,AL,l,st1,rfl,hl7,HSO.out,HC16.out,HFIT.out,HMK.out.keep2 ((HFM.out.mono (fun _ _ h=>h.elim)).trans (Y:=fun b=>b=q11) ((Fr.refl (fun b=>b=q11) _).setCell _ (fun _=>rfl)) (fun b _ e=>e):Fr (fun b=>b=q11) _ _) (fun b e=>by subst e;rcases Nat.lt_or_ge b B0 with h9 | h9;{ exact .inl ⟨h9,fun h=>h⟩ };exact .inr (by omega)),by omega,gx_set GX.out (by omega) hgs3⟩
  · have HK:=hI hK;clear hK;go_simp;obtain⟨y6,hy6⟩:∃ y6,y0.alloc (.cells #[.slice none 0 0] 33)=y6:=⟨_,rfl⟩;have hgy6:y0.grownBy y6 (some g):=(by rw [←hy6];exact World.grownBy_alloc y0 _ _);obtain⟨q11,hq11⟩:∃ q,y0.heap.size=q:=⟨_,rfl⟩;have hzy6:y6.heap.size≤q11+1∧q11+1≤y6.heap.size:=(by rw [←hy6,←hq11];simp);have hr11:y0.heap.size≤q11∧q11≤y0.heap.size:=(by omega);have GX:=hI (show Gx w3 y6 g by rw [←hy6];exact GX.out.alloc _);have NB11:=hI (show y6.heap[q11]?=some zBx by rw [←hy6,←hq11];exact heap_alloc_new y0 _);rw [hy6];rw [hq11];clear hy6 hq11;have SBX:=hI (ZbS SBX.out hgy6 (by omega));clear hgy6;refine HK.out _ _ (fun _=>SBX.out) ?_;clear HK K
    try simp only [Act.put,psA,psB,psC]
    refine tQ 6 (some 36) (bA 14 2175) fun K HK=>?_;go_simp;refine(state_x (HTS.out.more (fun b hb=>⟨hb.1,by have:=hb.2;omega⟩)) hgs3 HGS.out HMO.out GX.out).mono ?_;rintro e y7 ⟨gt1,st1,rfl,ns1,ngx,hgy7⟩;have NS1:=hI ns1;have GX:=hI ngx;have hzy7:=hgy7.size;clear ns1 ngx;have NB11:=hI (ZbS NB11.out hgy7 (by omega));have SBX:=hI (ZbS SBX.out hgy7 (by omega));clear hgy7;refine HK.out _ _ (fun _=>SBX.out) ?_;clear HK K
    try simp only [Act.put,psA,psB,psC]
    refine tQ 7 (some 37) (bA 14 2303) fun K HK=>?_;go_simp;have hc16:Zap st1≤16:=(by have h9:=ZeB st1 4 NS1.out.few;have h8:=NS1.out.ok.1;have:=hsl.2;omega);refine(Zem g A0 c0' s m (some ⟨gt1,0,none⟩) st1.length st1 7 (fun b=>b<y7.heap.size∧b≠g) y7 ((HTS.out.keep (fun b hb=>GX.out.gr.block b (by have:=hb.2;omega) (fun e=>by injection e with e;have:=hb.1;omega))).more (fun b hb=>⟨by have:=hb.2;have:=GX.out.gr.size;omega,by have:=hb.1;omega⟩)) (NS1.out.st.more (fun b hb=>by have h1:=NS1.out.sz;have h2:=NS1.out.hi_le;have h3:=NS1.out.lo_le;rcases hb with hb | hb<;>exact⟨by omega,by omega⟩)) (fun b hb=>hb) HGS.out HMO.out NS1.out.ok (by omega) (by omega) GX.out.cs).mono ?_;rintro e y8 ⟨B0,gt2,cap,l,AL,cl,rfl,-,hl7,hfit,hmk,-,hgt2,hgtB,hcy8,hgy8⟩;have HFIT:=hI hfit;have HMK:=hI hmk;have HFM:=hI (Fr.refl (fun _=>False) y8);have hB0:y7.heap.size≤B0:=(by omega);have HSO:=hI NS1.out.ok;have HC16:=hI hc16;have GX:=hI (show Gx w3 y8 g from ⟨GX.out.gr.trans hgy8,hcy8⟩);have hzy8:=hgy8.size;clear hfit hmk hcy8 hc16 hgt2 hgtB NS1;have NB11:=hI (ZbS NB11.out hgy8 (by omega));have SBX:=hI (ZbS SBX.out hgy8 (by omega));clear hgy8;refine HK.out _ _ (fun _=>SBX.out) ?_;clear HK K
    try simp only [Act.put,psA,psB,psC]
    refine tW 8 29 9 38 (bA 14 3071) HP.out SBX.out ?_;refine tJ 10 39 (bA 14 4095) HP.out SBX.out ?_;refine tQ 12 (some 10) (bA 14 8191) fun K HK=>?_;go_simp;refine HK.out _ _ (fun _=>SBX.out) ?_;clear HK K
    try simp only [Act.put,psA,psB,psC]
    have ca:y8.cell? ⟨q11,0,none⟩=some (.slice none 0 0):=Zaa NB11.out 0 _ rfl;have fa:y8.frozen? ⟨q11,0,none⟩=false:=(by simp [World.frozen?,NB11.out]);have l11:q11<y8.heap.size:=Zad NB11.out;refine tQ 13 none (bA 14 16383) fun K HK=>?_;go_simp;refine HK.out _ _ (fun h=>absurd rfl h) ?_;clear HK K;refine tE HQ ?_;clear HQ HP Q'
    go_wp2_with fail
    go_meet;exact⟨B0,cl,AL,l,st1,rfl,hl7,HSO.out,HC16.out,HFIT.out,HMK.out.keep2 ((HFM.out.mono (fun _ _ h=>h.elim)).trans (Y:=fun b=>b=q11) ((Fr.refl (fun b=>b=q11) _).setCell _ (fun _=>rfl)) (fun b _ e=>e):Fr (fun b=>b=q11) _ _) (fun b e=>by subst e;rcases Nat.lt_or_ge b B0 with h9 | h9;{ exact .inl ⟨h9,fun h=>h⟩ };exact .inr (by omega)),by omega,gx_set GX.out (by omega) hgs3⟩
 case rest =>
  obtain⟨wd,rfl⟩:∃ wd:World,wd=wc:=⟨_,rfl⟩;obtain⟨B0,cl,AL,l,st,rfl,hl7,hso,hc16,hfit,hmk,hB0,hgx⟩:=hcut;have hzd:=hgx.gr.size;have HNE:=hI (show netF (schF pcF s) s m l=(0,diffF s st (after s st l)) by rw [HGS.out.check];exact net_diff HGS.out.wide HMO.out hso hfit);have HFR:=hI (fits_row HGS.out hfit);obtain⟨NL,hNL⟩:∃ NL,diffF s st (after s st l)=NL:=⟨_,rfl⟩;rw [hNL] at HNE;have HMK:=hI hmk;have HC6:=hI hgx.cs;have HTS:=hI (HTS.out.keep (fun b hb=>hgx.gr.block b (by have:=hb.2;omega) (fun e=>by injection e with e;have:=hb.1;omega)));have SB:=hI (ZbS SB.out hgx.gr (by omega));have HB6:=hI (ZcL HB3.out hgx.gr hg0 (by omega));have lsb:sb<wd.heap.size:=(by omega);have hB0s:sb<B0:=(by omega);have hwW:w.heap.size≤wd.heap.size:=HB6.out.size;have hgW:g<sb:=hgs2;have hwsb:w.heap.size≤sb:=(by have:=HB3.out.size;omega);have k0:wd.cell? ⟨sb,0,none⟩=some (.int .i64 s.version):=Zaa SB.out 0 _ rfl;have k1:wd.cell? ⟨sb,1,none⟩=some (.slice A0 s.tabs.length c0'):=Zaa SB.out 1 _ rfl;clear hso hc16 hfit hmk hgx hNL s0 s1 HC3 HB3;have HLs:=hI (((HMK.out.slice (by rw [Zaf (n:=56) (fun _=>rfl)];omega)).2.2).more (S':=LtW wd) (fun b hb=>hb.elim (fun h=>h.elim) (fun hb=>hb.2)))
  go_wp2_with fail
  have hcl:=ZgR pcF A0 c0' s m AL cl l (LtW wd) wd (HTS.out.more (fun b hb=>by have:=hb.2;show b<_;omega)) HLs.out (fun b hb=>hb) (Zfy s) (by have:=hsl.2;omega) (by omega);rw [HNE.out] at hcl;refine hcl.mono ?_;rintro e w7 ⟨XA,xc,rfl,hxc,hXA,hbw7⟩;clear hcl;have hzw7:wd.heap.size≤w7.heap.size:=hbw7.size;have k0:w7.cell? ⟨sb,0,none⟩=some (.int .i64 s.version):=cJ hbw7 k0;have k1:w7.cell? ⟨sb,1,none⟩=some (.slice A0 s.tabs.length c0'):=cJ hbw7 k1;have HTS:=hI (HTS.out.keep (fun b hb'=>hbw7.block b (by have:=hb'.2;omega)));have SB:=hI ((hbw7.block sb (by omega)).trans SB.out);have HMK:=hI (HMK.out.below hbw7);have HC6:=hI (HC6.out.keep (fun b hb'=>hbw7.block b (by omega)));have HB6:=hI (HB6.out.trans (hbw7.mono (by omega)));have lsb:sb<w7.heap.size:=(by omega);have HLs:=hI ((HLs.out.keep (Zav hbw7)).more (ZaI hzw7));have HXA:=hI (hXA.more (S':=LtW w7) (fun b hb=>hb.2));clear hXA hxc hbw7
  go_wp2_with fail
  have hcl:=ZgO A0 c0' s m AL cl l (LtW w7) w7 (HTS.out.more (fun b hb=>by have:=hb.2;show b<_;omega)) HLs.out (fun b hb=>hb) (by omega);rw [HNE.out] at hcl;refine hcl.mono ?_;rintro e w8 ⟨YA,yc,rfl,hyc,hYA,hbw8⟩;clear hcl;have hzw8:w7.heap.size≤w8.heap.size:=hbw8.size;have k0:w8.cell? ⟨sb,0,none⟩=some (.int .i64 s.version):=cJ hbw8 k0;have k1:w8.cell? ⟨sb,1,none⟩=some (.slice A0 s.tabs.length c0'):=cJ hbw8 k1;have HTS:=hI (HTS.out.keep (fun b hb'=>hbw8.block b (by have:=hb'.2;omega)));have SB:=hI ((hbw8.block sb (by omega)).trans SB.out);have HMK:=hI (HMK.out.below hbw8);have HC6:=hI (HC6.out.keep (fun b hb'=>hbw8.block b (by omega)));have HB6:=hI (HB6.out.trans (hbw8.mono (by omega)));have lsb:sb<w8.heap.size:=(by omega);have HLs:=hI ((HLs.out.keep (Zav hbw8)).more (ZaI hzw8));have HXA:=hI ((HXA.out.keep (Zav hbw8)).more (ZaI hzw8));have HYA:=hI (hYA.more (S':=LtW w8) (fun b hb=>hb.2));clear hYA hyc hbw8;have h00:((0:Int) != 0)=false:=by decide
  go_wp2_with fail
  have hcl:=Zcq XA YA xc yc NL NL (LtW w8) w8 HXA.out HYA.out (fun b hb=>hb);rw [decide_eq_true (rfl:NL=NL)] at hcl;refine hcl.mono ?_;rintro e w9 ⟨rfl,hb9⟩;clear hcl HXA HYA HLs;have hzw9:w8.heap.size≤w9.heap.size:=hb9.size;have k0:w9.cell? ⟨sb,0,none⟩=some (.int .i64 s.version):=cJ hb9 k0;have k1:w9.cell? ⟨sb,1,none⟩=some (.slice A0 s.tabs.length c0'):=cJ hb9 k1;have HTS:=hI (HTS.out.keep (fun b hb'=>hb9.block b (by have:=hb'.2;omega)));have SB:=hI ((hb9.block sb (by omega)).trans SB.out);have HMK:=hI (HMK.out.below hb9);have HC6:=hI (HC6.out.keep (fun b hb'=>hb9.block b (by omega)));have HB6:=hI (HB6.out.trans (hb9.mono (by omega)));have lsb:sb<w9.heap.size:=(by omega);clear hb9 HNE;go_upto_if 68 with fail
  go_cut [] (fun W=>∃ (l':List Chg),l'.length=l.length∧ChgS W (fun b=>B0≤b∧b<W.heap.size) AL l'∧CaseOk W g∧Fr (fun b=>b=g∨B0≤b) w9 W)
  case first =>
   rcases Nat.eq_zero_or_pos l.length with h0 | h0
   · have hlt:decide ((0:Int)<(l.length:Int))=false:=decide_eq_false (by omega)
     go_wp2_with fail
     go_meet;exact⟨l,rfl,((HMK.out.slice (by rw [Zaf (n:=56) (fun _=>rfl)];omega)).2.2).more (fun b hb=>hb.elim (fun h=>h.elim) (fun hb=>hb)),HC6.out,Fr.refl _ _⟩
   · have hlt:decide ((0:Int)<(l.length:Int))=true:=decide_eq_true (by omega);obtain⟨gl,hAL,hglB,hgl',-⟩:=mk_blk HMK.out h0;subst hAL
     go_wp2_with fail
     refine(Zas g (l.length:Int) w9 (by omega) HC6.out).mono ?_;rintro e w10 ⟨r1,rfl,r10,r1l,-,hc10,hg10,hs10⟩;have r1l':=r1l (by omega);obtain⟨i,hi⟩:∃ i:Nat,r1=(i:Int):=⟨r1.toNat,by omega⟩;subst hi;have hil:i<l.length:=(by omega);have HMK:=hI (HMK.out.keep (X:=fun b=>b=g) (Fr.of_grown hg10 (fun b _ e=>by injection e)) (fun b hb=>⟨by omega,fun h=>h⟩));have HFR9:=hI (show Fr (fun b=>b=g∨B0≤b) w9 w10 from Fr.of_grown hg10 (fun b _ e=>.inl (by injection e)));have HC6:=hI hc10;clear hc10 hg10 r1l r1l' r10
     go_wp2_with fail
     refine(Zas g (l.length:Int) w10 (by omega) HC6.out).mono ?_;rintro e w11 ⟨r2,rfl,r20,r2l,-,hc11,hg11,hs11⟩;have r2l':=r2l (by omega);obtain⟨j,hj⟩:∃ j:Nat,r2=(j:Int):=⟨r2.toNat,by omega⟩;subst hj;have hjl:j<l.length:=(by omega);have HMK:=hI (HMK.out.keep (X:=fun b=>b=g) (Fr.of_grown hg11 (fun b _ e=>by injection e)) (fun b hb=>⟨by omega,fun h=>h⟩));have HFR9:=hI (HFR9.out.trans (Y:=fun b=>b=g∨B0≤b) (Fr.of_grown hg11 (fun b _ e=>.inl (by injection e))) (fun b _ h=>h));have HC6:=hI hc11;clear hc11 hg11 r2l r2l' r20;have hcs:ChgS w11 (fun b=>B0≤b∧b<w11.heap.size) (some ⟨gl,0,none⟩) l:=((HMK.out.slice (by rw [Zaf (n:=56) (fun _=>rfl)];omega)).2.2).more (fun b hb=>hb.elim (fun h=>h.elim) (fun hb=>hb));obtain⟨b',off,e',-,ca,A1,c1,A2,c2,cb,h1c,hr1,cc,h2c,hr2⟩:=hcs.at_ hjl;injection e' with e';injection e' with e1 e2 _;subst e1 e2;have hmem:l.getD j chg0 ∈ l:=(by rw [show l.getD j chg0=l[j] by simp [List.getD,hjl]];exact List.getElem_mem hjl);have hrw:=HFR.out _ hmem;obtain⟨ch0,hch0⟩:∃ ch0,l.getD j chg0=ch0:=⟨_,rfl⟩;rw [hch0] at ca cb cc h1c h2c hr1 hr2 hrw;rw [Nat.zero_add] at ca cb cc;clear hcs hch0 hmem
     go_wp2_with fail
     refine(spoilChange_any g ch0.table A1 c1 ch0.old A2 c2 ch0.new 4 (fun b=>B0≤b∧b<w11.heap.size) w11 hr1 hr2 (fun b hb=>hb.2) hrw.1 hrw.2 (by omega) HC6.out).mono ?_;rintro e w12 ⟨ch,P,cp,Q,cq,rfl,hpc,hqc,-,-,hP,hQ,hc12,hg12⟩;have hz12:=hg12.size;have hB11:B0≤w11.heap.size:=HMK.out.hi;have HMK:=hI (HMK.out.keep (X:=fun b=>b=g) (Fr.of_grown hg12 (fun b _ e=>by injection e)) (fun b hb=>⟨by omega,fun h=>h⟩));have HFR9:=hI (HFR9.out.trans (Y:=fun b=>b=g∨B0≤b) (Fr.of_grown hg12 (fun b _ e=>.inl (by injection e))) (fun b _ h=>h));have HC6:=hI hc12;have HP0:=hI hP;have HQ0:=hI hQ;obtain⟨gl2,e2,-,hgl12,hblk⟩:=mk_blk HMK.out h0;injection e2 with e2;injection e2 with e2 _ _;subst e2;obtain⟨v0,d0⟩:=(hblk (i*3) (by omega)).1;obtain⟨v1,d1⟩:=(hblk (i*3+1) (by omega)).1;obtain⟨v2,d2⟩:=(hblk (i*3+2) (by omega)).1;have f0:=(hblk (i*3) (by omega)).2;have f1:=(hblk (i*3+1) (by omega)).2;have f2:=(hblk (i*3+2) (by omega)).2;clear hblk hc12 hg12 hP hQ ca cb cc hr1 hr2 h1c h2c hrw
     go_wp2_with fail
     go_meet;refine⟨l.set i ch,by simp,?_,?_,?_⟩
     · exact(mk_put HMK.out hil rfl (by omega) ⟨hpc,HP0.out⟩ ⟨hqc,HQ0.out⟩ (fun b hb=>⟨by have:=hb.1;omega,hb.2,by have:=hb.1;omega⟩)).more (fun b hb=>⟨hb.1,by simpa using hb.2⟩)
     · exact HC6.out.keep (fun b hb=>by have hne:b≠gl:=(by omega);exact(Below.heap_setCell _ ⟨gl,_,none⟩ _ b hne).trans ((Below.heap_setCell _ ⟨gl,_,none⟩ _ b hne).trans (Below.heap_setCell _ ⟨gl,_,none⟩ _ b hne)))
     · exact((HFR9.out.setCell _ (fun _=>.inr hglB)).setCell _ (fun _=>.inr hglB)).setCell _ (fun _=>.inr hglB)
  case rest =>
   obtain⟨x1,rfl⟩:∃ x1:World,x1=wc:=⟨_,rfl⟩;obtain⟨l',hl',hcl',hc',hfr⟩:=hcut;have HLEN:=hI hl';have hz1':=hfr.size;have HTS:=hI (HTS.out.keep (fun b hb=>hfr.block b (by have:=hb.2;omega) (fun hx=>by have:=hb.1;have:=hb.2;rcases hx with hx | hx<;>omega)));have k0:=(hfr.cell (b:=sb) (o:=0) (by omega) (fun hx=>by rcases hx with hx | hx<;>omega)).trans k0;have k1:=(hfr.cell (b:=sb) (o:=1) (by omega) (fun hx=>by rcases hx with hx | hx<;>omega)).trans k1;have SB:=hI ((hfr.block sb (by omega) (fun hx=>by rcases hx with hx | hx<;>omega)).trans SB.out);have HB6:=hI (HB6.out.trans (hfr.below (n:=w.heap.size) (by omega) (fun b hb hx=>by rcases hx with hx | hx<;>omega)));have HCL:=hI hcl';have HC6:=hI hc';have hlsb:sb<x1.heap.size:=(by omega);have hBx:B0≤x1.heap.size:=(by have:=HMK.out.hi;omega);clear hl' hcl' hc' hfr HMK HFR
   go_wp2_with fail
   refine(ZaH g 5 _ (by omega) (by omega) HC6.out).mono ?_;rintro e x2 ⟨bb,rfl,hcx2,hgx2,hsx2⟩;have HTS:=hI (HTS.out.keep (fun b hb=>hgx2.block b (by have:=hb.2;omega) (fun e=>by injection e with e;have:=hb.1;omega)));have HCL:=hI (HCL.out.keep (fun b hb=>hgx2.block b (by have:=hb.2;omega) (fun e=>by injection e with e;have:=hb.1;omega)));have k0:x2.cell? ⟨sb,0,none⟩=some (.int .i64 s.version):=hgx2.cell k0 (by intro e;injection e with e;have e':sb=g:=e;omega);have k1:x2.cell? ⟨sb,1,none⟩=some (.slice A0 s.tabs.length c0'):=hgx2.cell k1 (by intro e;injection e with e;have e':sb=g:=e;omega);have SB:=hI (ZbS SB.out hgx2 (by omega));have HB6:=hI (ZcL HB6.out hgx2 hg0 (by omega));have hzx2:x2.heap.size=x1.heap.size:=hsx2;have HC6:=hI hcx2;clear hcx2 hgx2 hsx2;go_upto_if 85 with fail
   go_cut [9] (fun p W=>W=x2∧∃ m',p=.int .i64 m')
   case first =>
    cases bb
    · go_wp2_with fail
      go_meet;exact⟨rfl,m,rfl⟩
    · go_wp2_with fail
      go_meet;exact⟨rfl,mo,rfl⟩
   case rest =>
    obtain⟨hw2,m',rfl⟩:=hcut;subst hw2;obtain⟨x3,rfl⟩:∃ x3:World,x3=wc:=⟨_,rfl⟩
    go_wp2_with fail
    refine(ZaH g 5 _ (by omega) (by omega) HC6.out).mono ?_;rintro e x4 ⟨bb,rfl,hcx4,hgx4,hsx4⟩;have HTS:=hI (HTS.out.keep (fun b hb=>hgx4.block b (by have:=hb.2;omega) (fun e=>by injection e with e;have:=hb.1;omega)));have HCL:=hI (HCL.out.keep (fun b hb=>hgx4.block b (by have:=hb.2;omega) (fun e=>by injection e with e;have:=hb.1;omega)));have k0:x4.cell? ⟨sb,0,none⟩=some (.int .i64 s.version):=hgx4.cell k0 (by intro e;injection e with e;have e':sb=g:=e;omega);have k1:x4.cell? ⟨sb,1,none⟩=some (.slice A0 s.tabs.length c0'):=hgx4.cell k1 (by intro e;injection e with e;have e':sb=g:=e;omega);have SB:=hI (ZbS SB.out hgx4 (by omega));have HB6:=hI (ZcL HB6.out hgx4 hg0 (by omega));have hzx4:x4.heap.size=x3.heap.size:=hsx4;have HC6:=hI hcx4;have hlt4:sb<x4.heap.size:=(by omega);clear hcx4 hgx4 hsx4;go_upto_if 88 with fail
    go_cut [] (fun W=>∃ (s':Sch) (AT:Option Addr) (ct:Nat),W.cell? ⟨sb,0,none⟩=some (.int .i64 s'.version)∧W.cell? ⟨sb,1,none⟩=some (.slice AT s'.tabs.length ct)∧TabS W (LtW W) AT s'.tabs∧s'.tabs.length≤9∧Fr (fun b=>b=g∨b=sb) x4 W)
    case first =>
     cases bb
     · go_wp2_with fail
       go_meet;exact⟨s,A0,c0',k0,k1,HTS.out.more (fun b hb=>by have:=hb.2;show b<_;omega),by have:=hsl.2;omega,Fr.refl _ _⟩
     · go_wp2_with fail
       refine(spoilSchema_any g A0 c0' s (Rng g w2) x4 HTS.out (fun b hb=>⟨by have:=hb.2;omega,by have:=hb.1;omega⟩) HGS.out HC6.out).mono ?_;rintro e x5 ⟨s',AT,ct,rfl,hct,ht9,hts',-,hgx5⟩;have hz5':=hgx5.size;have SB5:=hI (ZbS SB.out hgx5 (by omega));have k05:x5.cell? ⟨sb,0,none⟩=some (.int .i64 s.version):=Zaa SB5.out 0 _ rfl;have k15:x5.cell? ⟨sb,1,none⟩=some (.slice A0 s.tabs.length c0'):=Zaa SB5.out 1 _ rfl;have ft5:x5.frozen? ⟨sb,0,none⟩=false:=(by simp [World.frozen?,SB5.out]);have ft6:x5.frozen? ⟨sb,1,none⟩=false:=(by simp [World.frozen?,SB5.out]);have HXS:=hI hts';have HGX:=hI hgx5;clear hts' hgx5
       go_wp2_with fail
       go_meet;have e3:=ZdW (a0:=.int .i64 s'.version) (a1:=.slice AT s'.tabs.length ct) SB5.out;refine⟨s',AT,ct,Zaa e3 0 _ rfl,Zaa e3 1 _ rfl,?_,ht9,((Fr.of_grown HGX.out (fun b _ e=>.inl (by injection e))).setCell _ (fun _=>.inr rfl)).setCell _ (fun _=>.inr rfl)⟩;exact(HXS.out.keep (fun b hb=>by have hne:b≠sb:=(by rcases hb with hb | hb;{ have:=hb.2;omega };have:=hb.1;omega);exact(Below.heap_setCell _ ⟨sb,_,none⟩ _ b hne).trans (Below.heap_setCell _ ⟨sb,_,none⟩ _ b hne))).more (fun b hb=>by show b<_;rcases hb with hb | hb;{ have:=hb.2;simp;omega };have:=hb.2;simpa using this)
    case rest =>
     obtain⟨v0,rfl⟩:∃ v0:World,v0=wc:=⟨_,rfl⟩;obtain⟨s',AT,ct,j0,j1,hts',ht9,hfr⟩:=hcut;have hzv0:=hfr.size;have HTS:=hI hts';have HCL:=hI ((HCL.out.keep (fun b hb=>hfr.block b (by have:=hb.2;omega) (fun hx=>by have:=hb.1;have:=hb.2;rcases hx with hx | hx<;>omega))).more (S':=LtW v0) (fun b hb=>by have:=hb.2;show b<_;omega));have HB:=hI (HB6.out.trans (hfr.below (n:=w.heap.size) (by omega) (fun b hb hx=>by rcases hx with hx | hx<;>omega)));have HRAW:=hI ((HRAW.out.keep (fun b hb=>HB.out.block b hb)).more (S':=LtW v0) (fun b hb=>by have h9:b<w.heap.size:=hb;have:=HB.out.size;show b<_;omega));have hgu:g<v0.heap.size:=(by omega);have hl_sb:sb<v0.heap.size:=(by omega);obtain⟨e1,X1,hX1⟩:∃ e1 X1,netF (schF pcF s') s' m' l'=(e1,X1):=⟨_,_,rfl⟩;have HX1:=hI hX1;obtain⟨e2,X2,hX2⟩:∃ e2 X2,netF (schF pcF s') s' m' (raw.take 4)=(e2,X2):=⟨_,_,rfl⟩;have HX2:=hI hX2;have HRT:=hI (show ChgS v0 (LtW v0) AR (raw.take 4) by rcases Nat.lt_or_ge raw.length 4 with h9 | h9;{ rw [List.take_of_length_le (by omega)];exact HRAW.out };exact ChgS.take HRAW.out h9);have hm0:0≤min (raw.length:Int) 4:=(by omega);have hm1:min (raw.length:Int) 4≤(cr:Int):=(by have:=HCR.out;omega);have HT9:=hI ht9;clear hX1 hX2 hts' ht9 hfr k0 k1 HB6 SB HMO HC6 bb HRAW
     go_wp2_with fail
     have hcl:=ZgR pcF AT ct s' m' AL cl l' (LtW v0) v0 HTS.out HCL.out (fun b hb=>hb) (Zfy s') (by have:=HT9.out;omega) (by have:=HLEN.out;omega);rw [HX1.out] at hcl;rw [HLEN.out] at hcl;refine hcl.mono ?_;rintro e v1 ⟨XA,xc,rfl,hxc,hXA,hbv1⟩;clear hcl;have hzv1:v0.heap.size≤v1.heap.size:=hbv1.size;have j0:v1.cell? ⟨sb,0,none⟩=some (.int .i64 s'.version):=cJ hbv1 j0;have j1:v1.cell? ⟨sb,1,none⟩=some (.slice AT s'.tabs.length ct):=cJ hbv1 j1;have HTS:=hI ((HTS.out.keep (Zav hbv1)).more (ZaI hzv1));have HCL:=hI ((HCL.out.keep (Zav hbv1)).more (ZaI hzv1));have HRT:=hI ((HRT.out.keep (Zav hbv1)).more (ZaI hzv1));have hl_sb:sb<v1.heap.size:=(by omega);have HB:=hI (HB.out.trans (hbv1.mono (by omega)));have hgu:g<v1.heap.size:=(by omega);have HXA:=hI (hXA.more (S':=LtW v1) (fun b hb=>hb.2));clear hXA hxc hbv1
     go_wp2_with fail
     have hcl:=ZgO AT ct s' m' AL cl l' (LtW v1) v1 HTS.out HCL.out (fun b hb=>hb) (by have:=HLEN.out;omega);rw [HX1.out] at hcl;rw [HLEN.out] at hcl;refine hcl.mono ?_;rintro e v2 ⟨YA,yc,rfl,hyc,hYA,hbv2⟩;clear hcl;have hzv2:v1.heap.size≤v2.heap.size:=hbv2.size;have j0:v2.cell? ⟨sb,0,none⟩=some (.int .i64 s'.version):=cJ hbv2 j0;have j1:v2.cell? ⟨sb,1,none⟩=some (.slice AT s'.tabs.length ct):=cJ hbv2 j1;have HTS:=hI ((HTS.out.keep (Zav hbv2)).more (ZaI hzv2));have HCL:=hI ((HCL.out.keep (Zav hbv2)).more (ZaI hzv2));have HRT:=hI ((HRT.out.keep (Zav hbv2)).more (ZaI hzv2));have HXA:=hI ((HXA.out.keep (Zav hbv2)).more (ZaI hzv2));have hl_sb:sb<v2.heap.size:=(by omega);have HB:=hI (HB.out.trans (hbv2.mono (by omega)));have hgu:g<v2.heap.size:=(by omega);have HYA:=hI (hYA.more (S':=LtW v2) (fun b hb=>hb.2));clear hYA hyc hbv2;obtain⟨rt,hrt⟩:∃ rt,raw.take 4=rt:=⟨_,rfl⟩;have hrtl:(min (raw.length:Int) 4).toNat=rt.length:=(by rw [←hrt,List.length_take];omega);have HRL:=hI (show rt.length≤4 by rw [←hrt,List.length_take];omega);rw [hrt] at HRT HX2;clear hrt
     go_wp2_with fail
     try rw [hrtl]
     clear hm0 hm1 hrtl;have hcl:=ZgR pcF AT ct s' m' AR cr rt (LtW v2) v2 HTS.out HRT.out (fun b hb=>hb) (Zfy s') (by have:=HT9.out;omega) (by have:=HRL.out;omega);rw [HX2.out] at hcl;refine hcl.mono ?_;rintro e v3 ⟨UA,uc,rfl,huc,hUA,hbv3⟩;clear hcl;have hzv3:v2.heap.size≤v3.heap.size:=hbv3.size;have j0:v3.cell? ⟨sb,0,none⟩=some (.int .i64 s'.version):=cJ hbv3 j0;have j1:v3.cell? ⟨sb,1,none⟩=some (.slice AT s'.tabs.length ct):=cJ hbv3 j1;have HTS:=hI ((HTS.out.keep (Zav hbv3)).more (ZaI hzv3));have HRT:=hI ((HRT.out.keep (Zav hbv3)).more (ZaI hzv3));have HXA:=hI ((HXA.out.keep (Zav hbv3)).more (ZaI hzv3));have HYA:=hI ((HYA.out.keep (Zav hbv3)).more (ZaI hzv3));have hl_sb:sb<v3.heap.size:=(by omega);have HB:=hI (HB.out.trans (hbv3.mono (by omega)));have hgu:g<v3.heap.size:=(by omega);have HUA:=hI (hUA.more (S':=LtW v3) (fun b hb=>hb.2));clear hUA huc hbv3
     go_wp2_with fail
     have hcl:=ZgO AT ct s' m' AR cr rt (LtW v3) v3 HTS.out HRT.out (fun b hb=>hb) (by have:=HRL.out;omega);rw [HX2.out] at hcl;refine hcl.mono ?_;rintro e v4 ⟨VA,vc,rfl,hvc,hVA,hbv4⟩;clear hcl;have hzv4:v3.heap.size≤v4.heap.size:=hbv4.size;have j0:v4.cell? ⟨sb,0,none⟩=some (.int .i64 s'.version):=cJ hbv4 j0;have j1:v4.cell? ⟨sb,1,none⟩=some (.slice AT s'.tabs.length ct):=cJ hbv4 j1;have HTS:=hI ((HTS.out.keep (Zav hbv4)).more (ZaI hzv4));have HRT:=hI ((HRT.out.keep (Zav hbv4)).more (ZaI hzv4));have HXA:=hI ((HXA.out.keep (Zav hbv4)).more (ZaI hzv4));have HYA:=hI ((HYA.out.keep (Zav hbv4)).more (ZaI hzv4));have HUA:=hI ((HUA.out.keep (Zav hbv4)).more (ZaI hzv4));have hl_sb:sb<v4.heap.size:=(by omega);have HB:=hI (HB.out.trans (hbv4.mono (by omega)));have hgu:g<v4.heap.size:=(by omega);have HVA:=hI (hVA.more (S':=LtW v4) (fun b hb=>hb.2));clear hVA hvc hbv4;have he1:(e1 == e1)=true:=(by simp);have he2:(e2 == e2)=true:=by simp
     go_wp2_with fail
     refine(begun8_any v4).mono ?_;rintro e v9 ⟨rfl,hbv9⟩;have hzv9:v4.heap.size≤v9.heap.size:=hbv9.size;have HXA:=hI ((HXA.out.keep (Zav hbv9)).more (ZaI hzv9));have HYA:=hI ((HYA.out.keep (Zav hbv9)).more (ZaI hzv9));have HUA:=hI ((HUA.out.keep (Zav hbv9)).more (ZaI hzv9));have HVA:=hI ((HVA.out.keep (Zav hbv9)).more (ZaI hzv9));have HB:=hI (HB.out.trans (hbv9.mono (by omega)));have hgu:g<v9.heap.size:=(by omega);clear hbv9
     go_wp2_with fail
     have hcl:=Zcq XA YA xc yc X1 X1 (LtW v9) v9 HXA.out HYA.out (fun b hb=>hb);rw [decide_eq_true (rfl:X1=X1)] at hcl;refine hcl.mono ?_;rintro e va ⟨rfl,hbva⟩;clear hcl;have hzva:v9.heap.size≤va.heap.size:=hbva.size;have HXA:=hI ((HXA.out.keep (Zav hbva)).more (ZaI hzva));have HYA:=hI ((HYA.out.keep (Zav hbva)).more (ZaI hzva));have HUA:=hI ((HUA.out.keep (Zav hbva)).more (ZaI hzva));have HVA:=hI ((HVA.out.keep (Zav hbva)).more (ZaI hzva));have HB:=hI (HB.out.trans (hbva.mono (by omega)));have hgu:g<va.heap.size:=(by omega);clear hbva
     go_wp2_with fail
     have hcl:=Zcq UA VA uc vc X2 X2 (LtW va) va HUA.out HVA.out (fun b hb=>hb);rw [decide_eq_true (rfl:X2=X2)] at hcl;refine hcl.mono ?_;rintro e vb ⟨rfl,hbvb⟩;clear hcl;have hzvb:va.heap.size≤vb.heap.size:=hbvb.size;have HXA:=hI ((HXA.out.keep (Zav hbvb)).more (ZaI hzvb));have HYA:=hI ((HYA.out.keep (Zav hbvb)).more (ZaI hzvb));have HUA:=hI ((HUA.out.keep (Zav hbvb)).more (ZaI hzvb));have HVA:=hI ((HVA.out.keep (Zav hbvb)).more (ZaI hzvb));have HB:=hI (HB.out.trans (hbvb.mono (by omega)));have hgu:g<vb.heap.size:=(by omega);clear hbvb
     go_wp2_with fail
     go_ret;exact⟨rfl,HB.out⟩
end Go.Proofs.YtkpjjfhfbpfjpaaGreat
