import Derived.Test.YtkpjjfhfbpfjpaaKd9b46f
set_option linter.unusedVariables false
set_option linter.unusedSimpArgs false
set_option maxRecDepth 100000
namespace Go.Proofs.Ytkpjjfhfbpfjpaa
open Go.RowKit
theorem chg_block {w:World} {S:Nat→Prop} {b g:Nat} {i:Int} {t:ByteArray} (h:w.heap[b]?=some (.cells #[.int .i64 0,.slice none 0 0,.slice (some ⟨g,0,none⟩) 2 2] 53 (0,0))) (hS:S b) (hr:RowS w S (some ⟨g,0,none⟩) (rowN i t)):ChgS w S (some ⟨b,0,none⟩) [⟨0,[],rowN i t⟩] :=
 Sl.of_vals (vs:=[.int .i64 0,.slice none 0 0,.slice (some ⟨g,0,none⟩) 2 2]) (by rw [bytesAll_map (n:=56) (fun _=>rfl)];simp) (valsAll_one (vals_chg (A:=none) (c:=0) (B:=some ⟨g,0,none⟩) (d:=2) ⟨Nat.le_refl _,RowS.nil_⟩ ⟨Nat.le_refl _,hr⟩)) (fun _=>⟨b,0,rfl,hS,cells_of_block h⟩)
theorem both_block {w:World} {S:Nat→Prop} {b g h:Nat} (hh:w.heap[b]?=some (.cells #[.int .i64 0,.slice none 0 0,.slice (some ⟨g,0,none⟩) 2 2,.int .i64 0,.slice (some ⟨h,0,none⟩) 2 2,.slice none 0 0] 53 (0,0))) (hS:S b) (hr:RowS w S (some ⟨g,0,none⟩) (rowN 2 tB)) (hr':RowS w S (some ⟨h,0,none⟩) (rowN 2 tB)):ChgS w S (some ⟨b,0,none⟩) bothC :=
 Sl.of_vals (vs:=[.int .i64 0,.slice none 0 0,.slice (some ⟨g,0,none⟩) 2 2]++[.int .i64 0,.slice (some ⟨h,0,none⟩) 2 2,.slice none 0 0]) (by rw [bytesAll_map (n:=56) (fun _=>rfl)];simp [bothC])
  (valsAll_append (l:=[encChg ⟨0,[],rowN 2 tB⟩]) (valsAll_one (vals_chg (A:=none) (c:=0) (B:=some ⟨g,0,none⟩) (d:=2) ⟨Nat.le_refl _,RowS.nil_⟩ ⟨Nat.le_refl _,hr⟩)) (valsAll_one (vals_chg (A:=some ⟨h,0,none⟩) (c:=2) (B:=none) (d:=0) ⟨Nat.le_refl _,hr'⟩ ⟨Nat.le_refl _,RowS.nil_⟩))) (fun _=>⟨b,0,rfl,hS,by exact cells_of_block hh⟩)
set_option maxHeartbeats 400000 in
theorem named8_any (i:Int) (t:ByteArray) (w:World):Calls Try.prog 62 #[.int .i64 i,.string t] w fun e w'=>e=.returned (.slice (some ⟨w.heap.size,0,none⟩) 2 2)∧w'=w.alloc (.cells (rowCells i t) 51):=by
 go_enter Try.func62,Try.ntmps62
 go_wp2
 go_ret
 exact⟨rfl,rfl⟩
set_option maxHeartbeats 4000000 in
theorem begun8_any (w:World):Calls Try.prog 20 #[] w (BoolBel true w):=by
 go_enter Try.func20,Try.ntmps20
 go_wp2_with (go_at_call 62;refine(named8_any _ _ _).mono ?_;rintro e w' ⟨rfl,rfl⟩)
 change Calls Try.prog _ _ ((begOs w.heap.size).foldl World.alloc w) _
 obtain⟨W,hW⟩:∃ W,(begOs w.heap.size).foldl World.alloc w=W:=⟨_,rfl⟩
 obtain⟨hWB,hWs⟩:=allocs_below (begOs w.heap.size) w
 have hk:∀ k (hk:k<10),W.heap[w.heap.size+k]?=(begOs w.heap.size)[k]?:=fun k hk=>by rw [←hW];exact allocs_at _ _ _ hk
 rw [hW] at hWB hWs
 have hWs':W.heap.size=w.heap.size+10:=hWs
 have HWB0:=Lib.hid hWB
 have HT:=Lib.hid (show TabS W (fun b=>b<W.heap.size) (some ⟨w.heap.size+1,0,none⟩) sB.tabs from tab_block (hk 1 (by omega)) rfl (by decide) (by omega) (by decide) (col_block (hk 0 (by omega)) (by omega)))
 have HST:=Lib.hid (show StS W (fun b=>b<W.heap.size) (some ⟨w.heap.size+1+1+1+1+1,0,none⟩) stB from st_block (hk 5 (by omega)) (by omega) (by decide) (rows_block (hk 4 (by omega)) (by omega) (by decide) (row_block (hk 3 (by omega)) (by omega) (by decide))))
 have HBO:=Lib.hid (show ChgS W (fun b=>b<W.heap.size) (some ⟨w.heap.size+1+1+1+1+1+1+1+1+1,0,none⟩) bothC from both_block (hk 9 (by omega)) (by omega) (row_block (hk 7 (by omega)) (by omega) (by decide)) (row_block (hk 8 (by omega)) (by omega) (by decide)))
 have y0:W.cell? ⟨w.heap.size+1+1,0,none⟩=some (.int .i64 0):=(cells_of_block (hk 2 (by omega))) 0 _ rfl
 have y1:W.cell? ⟨w.heap.size+1+1,1,none⟩=some (.slice (some ⟨w.heap.size+1,0,none⟩) 1 1):=(cells_of_block (hk 2 (by omega))) 1 _ rfl
 have y2:W.cell? ⟨w.heap.size+1+1+1+1+1+1,0,none⟩=some (.slice (some ⟨w.heap.size+1+1+1+1+1,0,none⟩) 1 1):=(cells_of_block (hk 6 (by omega))) 0 _ rfl
 rw [hW]
 have HWS:=Lib.hid hWs'
 clear hW hk hWs hWB
 have hl0:w.heap.size+10≤W.heap.size:=by omega
 clear hWs'
 have hAP:=apply_any pc0 (some ⟨w.heap.size+1,0,none⟩) 1 sB 1 (some ⟨w.heap.size+1+1+1+1+1,0,none⟩) 1 stB (some ⟨w.heap.size+1+1+1+1+1+1+1+1+1,0,none⟩) 2 bothC (fun b=>b<W.heap.size) W HT.out HST.out HBO.out (fun b hb=>hb) preds_sB (by decide)
 rw [apply_both] at hAP
 refine(show Calls _ _ _ _ _ from hAP).mono ?_
 rintro e w1 ⟨A4,c4,rfl,hc4,hS4,hb4⟩
 clear hAP
 have HS4:=Lib.hid hS4
 have HC4:=Lib.hid hc4
 have hz1:=hb4.size
 have HB1:=Lib.hid hb4
 have z0:=(hb4.cell (p:=⟨w.heap.size+1+1,0,none⟩) (by simp;omega)).trans y0
 have z1:=(hb4.cell (p:=⟨w.heap.size+1+1,1,none⟩) (by simp;omega)).trans y1
 have z2:=(hb4.cell (p:=⟨w.heap.size+1+1+1+1+1+1,0,none⟩) (by simp;omega)).trans y2
 have hq0:w.heap.size+1+1<w1.heap.size:=by omega
 have hq1:w.heap.size+1+1+1+1+1+1<w1.heap.size:=by omega
 clear hb4 hS4 hc4
 dsimp only
 go_wp2_with fail
 obtain⟨w1',hw1'⟩:∃ w1',w1.alloc (.cells #[.slice A4 1 c4] 56)=w1':=⟨_,rfl⟩
 have hbA1:Below w1.heap.size w1 w1':=by rw [←hw1'];exact(Below.refl _ _).alloc (Nat.le_refl _) _
 have hkX1:w1'.heap[w1.heap.size]?=some (.cells #[.slice A4 1 c4] 56 (0,0)):=by rw [←hw1'];exact heap_alloc_new w1 _
 have hz1':=hbA1.size
 have hlX1:=lt_of_heap hkX1
 change Calls Try.prog _ _ (w1.alloc (.cells #[.slice A4 1 c4] 56)) _
 rw [hw1']
 clear hw1'
 have HB1':=Lib.hid (HB1.out.trans (hbA1.mono hz1))
 have hNE:=net_any pc0 (some ⟨w.heap.size+1,0,none⟩) 1 sB 1 (some ⟨w.heap.size+1+1+1+1+1+1+1+1+1,0,none⟩) 2 bothC (fun b=>b<W.heap.size) w1' (HT.out.keep (fun b hb=>HB1'.out.block b hb)) (HBO.out.keep (fun b hb=>HB1'.out.block b hb)) (fun b hb=>by omega) preds_sB (by decide) (by decide)
 rw [net_both] at hNE
 refine(show Calls _ _ _ _ _ from hNE).mono ?_
 rintro e w2 ⟨A5,c5,rfl,-,-,hb5⟩
 clear hNE
 have hz2:=hb5.size
 have HWB:=Lib.hid (HB1'.out.trans (hb5.mono (by omega)))
 have HWB0:=Lib.hid (HWB0.out.trans (HWB.out.mono (by omega)))
 have x0:=(hb5.cell (p:=⟨w.heap.size+1+1,0,none⟩) (by simp;omega)).trans ((hbA1.cell (p:=⟨w.heap.size+1+1,0,none⟩) (by simp;omega)).trans z0)
 have x1:=(hb5.cell (p:=⟨w.heap.size+1+1,1,none⟩) (by simp;omega)).trans ((hbA1.cell (p:=⟨w.heap.size+1+1,1,none⟩) (by simp;omega)).trans z1)
 have x2:=(hb5.cell (p:=⟨w.heap.size+1+1+1+1+1+1,0,none⟩) (by simp;omega)).trans ((hbA1.cell (p:=⟨w.heap.size+1+1+1+1+1+1,0,none⟩) (by simp;omega)).trans z2)
 have HKX:=Lib.hid ((hb5.block _ hlX1).trans hkX1)
 have HX4:=Lib.hid ((HS4.out.keep (w':=w2) (fun b hb=>(hb5.block b (by have:=hb.2;omega)).trans (hbA1.block b hb.2))).more (S':=fun b=>b<w2.heap.size) (fun b hb=>by have:=hb.2;omega))
 clear hb5 hbA1 hkX1 z0 z1 z2 y0 y1 y2 HS4
 have y0:=x0
 have y1:=x1
 have y2:=x2
 have HBw2:=Lib.hid (Below.refl w2.heap.size w2)
 dsimp only
 go_wp2_with fail
 refine hideQ (fun c a d v w h=>by cases d<;>exact h) (fun Q' HQ HP=>?_)
 refine regionT_until (fun w'=>w'.cell? ⟨w.heap.size+1+1,0,none⟩=some (.int .i64 0)∧w'.cell? ⟨w.heap.size+1+1,1,none⟩=some (.slice (some ⟨w.heap.size+1,0,none⟩) 1 1)∧w'.cell? ⟨w.heap.size+1+1+1+1+1+1,0,none⟩=some (.slice (some ⟨w.heap.size+1+1+1+1+1,0,none⟩) 1 1)) 13 12 (bA 12 0) (by kernel_rfl) (by kernel_rfl) (by kernel_rfl) ?_
 obtain⟨wd,hwd⟩:∃ wd,w2.drew=wd:=⟨_,rfl⟩
 have hbd:Below w2.heap.size w2 wd:=by rw [←hwd];exact(Below.refl _ w2).drew
 rw [hwd]
 clear hwd
 have x0:=(hbd.cell (p:=⟨w.heap.size+1+1,0,none⟩) (by simp;omega)).trans x0
 have x1:=(hbd.cell (p:=⟨w.heap.size+1+1,1,none⟩) (by simp;omega)).trans x1
 have x2:=(hbd.cell (p:=⟨w.heap.size+1+1+1+1+1+1,0,none⟩) (by simp;omega)).trans x2
 have hzwd:w2.heap.size≤wd.heap.size:=hbd.size
 have HBwd:=Lib.hid hbd
 clear hbd
 refine tk 0 39 (bA 12 1) _ rfl (by kernel_rfl) (by kernel_rfl) HP.out (by rfl) (fun w' hSw=>by (try dsimp only at hSw);go_simp;(try with_reducible rfl)) ⟨x0,x1,x2⟩ ?_
 simp only [psA,psB,psC]
 refine tk 1 40 (bA 12 3) _ rfl (by kernel_rfl) (by kernel_rfl) HP.out (by rfl) (fun w' hSw=>by (try dsimp only at hSw);go_simp;(try with_reducible rfl)) ⟨x0,x1,x2⟩ ?_
 simp only [psA,psB,psC]
 refine anyT_two (i:=2) (j:=9) (oi:=⟨some 41,_,_,_,_,_⟩) (oj:=⟨some 8,_,_,_,_,_⟩) (Li:=(bA 12 7)) (Lj:=(bA 12 515)) rfl rfl (by kernel_rfl) (by kernel_rfl) (by kernel_rfl) (fun K hK=>?_) (fun K hK=>?_)
 · have HK:=Lib.hid hK
   clear hK
   go_simp
   refine(named8_any 1 tC wd).mono ?_
   rintro e w' ⟨rfl,rfl⟩
   obtain⟨v1,hv1⟩:∃ v1,wd.alloc (.cells (rowCells 1 tC) 51)=v1:=⟨_,rfl⟩
   have hbN:Below wd.heap.size wd v1:=by rw [←hv1];exact(Below.refl _ _).alloc (Nat.le_refl _) _
   have hkN:v1.heap[wd.heap.size]?=some (.cells (rowCells 1 tC) 51 (0,0)):=by rw [←hv1];exact heap_alloc_new wd _
   rw [hv1]
   clear hv1
   have x0:v1.cell? ⟨w.heap.size+1+1,0,none⟩=_:=(hbN.cell (p:=⟨w.heap.size+1+1,0,none⟩) (by simp;omega)).trans x0
   have x1:v1.cell? ⟨w.heap.size+1+1,1,none⟩=_:=(hbN.cell (p:=⟨w.heap.size+1+1,1,none⟩) (by simp;omega)).trans x1
   have x2:v1.cell? ⟨w.heap.size+1+1+1+1+1+1,0,none⟩=_:=(hbN.cell (p:=⟨w.heap.size+1+1+1+1+1+1,0,none⟩) (by simp;omega)).trans x2
   have hzv1:wd.heap.size≤v1.heap.size:=hbN.size
   have HBv1:=Lib.hid (show Below w2.heap.size w2 v1 from HBwd.out.trans (hbN.mono (by omega)))
   have hlN:wd.heap.size<v1.heap.size:=lt_of_heap hkN
   refine HK.out _ _ (fun _=>⟨x0,x1,x2⟩) ?_
   clear HK K
   try simp only [Act.put,psA,psB,psC]
   refine tk 3 42 (bA 12 15) _ rfl (by kernel_rfl) (by kernel_rfl) HP.out (by rfl) (fun w' hSw=>by (try dsimp only at hSw);go_simp;(try with_reducible rfl)) ⟨x0,x1,x2⟩ ?_
   simp only [psA,psB,psC]
   refine anyT_two (i:=4) (j:=9) (oi:=⟨some 43,_,_,_,_,_⟩) (oj:=⟨some 8,_,_,_,_,_⟩) (Li:=(bA 12 31)) (Lj:=(bA 12 527)) rfl rfl (by kernel_rfl) (by kernel_rfl) (by kernel_rfl) (fun K hK=>?_) (fun K hK=>?_)
   · have HK:=Lib.hid hK
     clear hK
     go_simp
     obtain⟨v2,hv2⟩:∃ v2,v1.alloc (.cells #[.int .i64 0,.slice none 0 0,.slice (some ⟨wd.heap.size,0,none⟩) 2 2] 53)=v2:=⟨_,rfl⟩
     have hbC:Below v1.heap.size v1 v2:=by rw [←hv2];exact(Below.refl _ _).alloc (Nat.le_refl _) _
     have hkC:v2.heap[v1.heap.size]?=some (.cells #[.int .i64 0,.slice none 0 0,.slice (some ⟨wd.heap.size,0,none⟩) 2 2] 53 (0,0)):=by rw [←hv2];exact heap_alloc_new v1 _
     have hkN:v2.heap[wd.heap.size]?=some (.cells (rowCells 1 tC) 51 (0,0)):=(hbC.block _ (by omega)).trans hkN
     rw [hv2]
     clear hv2
     have x0:v2.cell? ⟨w.heap.size+1+1,0,none⟩=_:=(hbC.cell (p:=⟨w.heap.size+1+1,0,none⟩) (by simp;omega)).trans x0
     have x1:v2.cell? ⟨w.heap.size+1+1,1,none⟩=_:=(hbC.cell (p:=⟨w.heap.size+1+1,1,none⟩) (by simp;omega)).trans x1
     have x2:v2.cell? ⟨w.heap.size+1+1+1+1+1+1,0,none⟩=_:=(hbC.cell (p:=⟨w.heap.size+1+1+1+1+1+1,0,none⟩) (by simp;omega)).trans x2
     have hzv2:v1.heap.size≤v2.heap.size:=hbC.size
     have HBv2:=Lib.hid (show Below w2.heap.size w2 v2 from HBv1.out.trans (hbC.mono (by omega)))
     have hlC:v1.heap.size<v2.heap.size:=lt_of_heap hkC
     refine HK.out _ _ (fun _=>⟨x0,x1,x2⟩) ?_
     clear HK K
     try simp only [Act.put,psA,psB,psC]
     refine anyT_two (i:=5) (j:=9) (oi:=⟨some 44,_,_,_,_,_⟩) (oj:=⟨some 8,_,_,_,_,_⟩) (Li:=(bA 12 63)) (Lj:=(bA 12 543)) rfl rfl (by kernel_rfl) (by kernel_rfl) (by kernel_rfl) (fun K hK=>?_) (fun K hK=>?_)
     · have HK:=Lib.hid hK
       clear hK
       go_simp
       have hAP:=apply_any pc0 (some ⟨w.heap.size+1,0,none⟩) 1 sB 1 (some ⟨w.heap.size+1+1+1+1+1,0,none⟩) 1 stB (some ⟨v1.heap.size,0,none⟩) 1 oneC (fun b=>b<v2.heap.size) v2 ((HT.out.keep (fun b hb=>(HBv2.out.block b (by omega)).trans (HWB.out.block b hb))).more (fun b hb=>by omega)) ((HST.out.keep (fun b hb=>(HBv2.out.block b (by omega)).trans (HWB.out.block b hb))).more (fun b hb=>by omega)) (chg_block hkC (by omega) (row_block hkN (by omega) (by decide))) (fun b hb=>hb) preds_sB (by decide)
       rw [apply_one] at hAP
       refine(show Calls _ _ _ _ _ from hAP).mono ?_
       rintro e v3 ⟨A9,c9,rfl,-,-,hbP⟩
       clear hAP
       have x0:v3.cell? ⟨w.heap.size+1+1,0,none⟩=_:=(hbP.cell (p:=⟨w.heap.size+1+1,0,none⟩) (by simp;omega)).trans x0
       have x1:v3.cell? ⟨w.heap.size+1+1,1,none⟩=_:=(hbP.cell (p:=⟨w.heap.size+1+1,1,none⟩) (by simp;omega)).trans x1
       have x2:v3.cell? ⟨w.heap.size+1+1+1+1+1+1,0,none⟩=_:=(hbP.cell (p:=⟨w.heap.size+1+1+1+1+1+1,0,none⟩) (by simp;omega)).trans x2
       have hzv3:v2.heap.size≤v3.heap.size:=hbP.size
       have HBv3:=Lib.hid (show Below w2.heap.size w2 v3 from HBv2.out.trans (hbP.mono (by omega)))
       refine HK.out _ _ (fun _=>⟨x0,x1,x2⟩) ?_
       clear HK K
       try simp only [Act.put,psA,psB,psC]
       refine tk 6 38 (bA 12 127) _ rfl (by kernel_rfl) (by kernel_rfl) HP.out (by rfl) (fun w' hSw=>by (try dsimp only at hSw);go_simp;(try with_reducible rfl)) ⟨x0,x1,x2⟩ ?_
       simp only [psA,psB,psC]
       refine tk 7 45 (bA 12 255) _ rfl (by kernel_rfl) (by kernel_rfl) HP.out (by rfl) (fun w' hSw=>by (try dsimp only at hSw);go_simp;(try with_reducible rfl)) ⟨x0,x1,x2⟩ ?_
       simp only [psA,psB,psC]
       refine tk 8 46 (bA 12 511) _ rfl (by kernel_rfl) (by kernel_rfl) HP.out (by rfl) (fun w' hSw=>by (try dsimp only at hSw);go_simp;(try with_reducible rfl)) ⟨x0,x1,x2⟩ ?_
       simp only [psA,psB,psC]
       refine anyT_one (i:=9) (o:=⟨some 8,_,_,_,_,_⟩) (L':=(bA 12 1023)) rfl (by kernel_rfl) (by kernel_rfl) (fun K hK=>?_)
       have HK:=Lib.hid hK
       clear hK
       go_simp
       obtain⟨v4,hv4⟩:∃ v4,v3.alloc (.cells #[.slice none 0 0] 56)=v4:=⟨_,rfl⟩
       have hbA:Below v3.heap.size v3 v4:=by rw [←hv4];exact(Below.refl _ _).alloc (Nat.le_refl _) _
       have hkA:v4.heap[v3.heap.size]?=some (.cells #[.slice none 0 0] 56 (0,0)):=by rw [←hv4];exact heap_alloc_new v3 _
       rw [hv4]
       clear hv4
       have x0:v4.cell? ⟨w.heap.size+1+1,0,none⟩=_:=(hbA.cell (p:=⟨w.heap.size+1+1,0,none⟩) (by simp;omega)).trans x0
       have x1:v4.cell? ⟨w.heap.size+1+1,1,none⟩=_:=(hbA.cell (p:=⟨w.heap.size+1+1,1,none⟩) (by simp;omega)).trans x1
       have x2:v4.cell? ⟨w.heap.size+1+1+1+1+1+1,0,none⟩=_:=(hbA.cell (p:=⟨w.heap.size+1+1+1+1+1+1,0,none⟩) (by simp;omega)).trans x2
       have hzv4:v3.heap.size≤v4.heap.size:=hbA.size
       have HBv4:=Lib.hid (show Below w2.heap.size w2 v4 from HBv3.out.trans (hbA.mono (by omega)))
       have hlA:v3.heap.size<v4.heap.size:=lt_of_heap hkA
       refine HK.out _ _ (fun _=>⟨x0,x1,x2⟩) ?_
       clear HK K
       try simp only [Act.put,psA,psB,psC]
       refine anyT_one (i:=10) (o:=⟨none,_,_,_,_,_⟩) (L':=(bA 12 2047)) rfl (by kernel_rfl) (by kernel_rfl) (fun K hK=>?_)
       have HK:=Lib.hid hK
       clear hK
       have hca:v4.cell? ⟨v3.heap.size,0,none⟩=some (.slice none 0 0):=by simp [World.cell?,hkA]
       have hfa:v4.frozen? ⟨v3.heap.size,0,none⟩=false:=by simp [World.frozen?,hkA]
       go_simp
       obtain⟨vE,hvE⟩:∃ vE,v4.setCell ⟨v3.heap.size,0,none⟩ (.slice A9 0 c9)=vE:=⟨_,rfl⟩
       have hbE:Below w2.heap.size w2 vE:=by rw [←hvE];exact HBv4.out.setCell (p:=⟨v3.heap.size,0,none⟩) (by simp;omega) _
       have x0:vE.cell? ⟨w.heap.size+1+1,0,none⟩=_:=(hbE.cell (p:=⟨w.heap.size+1+1,0,none⟩) (by simp;omega)).trans y0
       have x1:vE.cell? ⟨w.heap.size+1+1,1,none⟩=_:=(hbE.cell (p:=⟨w.heap.size+1+1,1,none⟩) (by simp;omega)).trans y1
       have x2:vE.cell? ⟨w.heap.size+1+1+1+1+1+1,0,none⟩=_:=(hbE.cell (p:=⟨w.heap.size+1+1+1+1+1+1,0,none⟩) (by simp;omega)).trans y2
       have hszE:w2.heap.size≤vE.heap.size:=hbE.size
       have HBE:=Lib.hid hbE
       clear hca hfa hkA hbE
       try rw [hvE]
       clear hvE
       refine HK.out _ _ (fun _=>⟨x0,x1,x2⟩) ?_
       clear HK K
       try simp only [Act.put,psA,psB,psC]
       refine tk 11 9 (bA 12 4095) _ rfl (by kernel_rfl) (by kernel_rfl) HP.out (by rfl) (fun w' hSw=>by (try dsimp only at hSw);go_simp;(try with_reducible rfl)) ⟨x0,x1,x2⟩ ?_
       simp only [psA,psB,psC]
       refine anyU_done (by kernel_rfl) ?_
       rw [HQ.out]
       clear HQ HP Q'
       have HBEV:=Lib.hid (show Below w.heap.size w vE from HWB0.out.trans (HBE.out.mono (by omega)))
       have HWE:=Lib.hid (show Below W.heap.size W vE from HWB.out.trans (HBE.out.mono (by omega)))
       have hx4:vE.cell? ⟨w1.heap.size,0,none⟩=some (.slice A4 1 c4):=cells_of_block ((HBE.out.block _ (by omega)).trans HKX.out) 0 _ rfl
       have HX4E:=Lib.hid (HX4.out.keep (w':=vE) (fun b hb=>HBE.out.block b hb))
       go_wp2_with fail
       refine(show Calls _ _ _ _ _ from count_any A4 c4 stB (fun b=>b<w2.heap.size) vE HX4E.out (fun b hb=>by omega) (by decide)).mono ?_
       rintro e wF ⟨rfl,hbF⟩
       rw [show ((countF stB:Nat):Int)=1 from rfl]
       have hx4:=(hbF.cell (p:=⟨w1.heap.size,0,none⟩) (by simp;omega)).trans hx4
       have x0:=(hbF.cell (p:=⟨w.heap.size+1+1,0,none⟩) (by simp;omega)).trans x0
       have x1:=(hbF.cell (p:=⟨w.heap.size+1+1,1,none⟩) (by simp;omega)).trans x1
       have x2:=(hbF.cell (p:=⟨w.heap.size+1+1+1+1+1+1,0,none⟩) (by simp;omega)).trans x2
       have hzF:vE.heap.size≤wF.heap.size:=hbF.size
       have HWF:=Lib.hid (HWE.out.trans (hbF.mono (by omega)))
       have HBF:=Lib.hid (HBEV.out.trans (hbF.mono (by omega)))
       have HX4F:=Lib.hid (HX4E.out.keep (w':=wF) (fun b hb=>hbF.block b (by omega)))
       clear hbF
       go_wp2_with fail
       refine(show Calls _ _ _ _ _ from invert_any (some ⟨w.heap.size+1+1+1+1+1+1+1+1+1,0,none⟩) 2 bothC (fun b=>b<W.heap.size) wF (HBO.out.keep (fun b hb=>HWF.out.block b hb)) (fun b hb=>by omega)).mono ?_
       rintro e wG ⟨A6,c6,rfl,-,-,hbG⟩
       rw [show (invF bothC).length=2 from rfl]
       have hx4:=(hbG.cell (p:=⟨w1.heap.size,0,none⟩) (by simp;omega)).trans hx4
       have x0:=(hbG.cell (p:=⟨w.heap.size+1+1,0,none⟩) (by simp;omega)).trans x0
       have x1:=(hbG.cell (p:=⟨w.heap.size+1+1,1,none⟩) (by simp;omega)).trans x1
       have x2:=(hbG.cell (p:=⟨w.heap.size+1+1+1+1+1+1,0,none⟩) (by simp;omega)).trans x2
       have hzG:wF.heap.size≤wG.heap.size:=hbG.size
       have HWG:=Lib.hid (HWF.out.trans (hbG.mono (by omega)))
       have HBG:=Lib.hid (HBF.out.trans (hbG.mono (by omega)))
       have HX4G:=Lib.hid (HX4F.out.keep (w':=wG) (fun b hb=>hbG.block b (by omega)))
       clear hbG
       go_wp2_with fail
       refine(show Calls _ _ _ _ _ from within_true (some ⟨w.heap.size+1,0,none⟩) 1 sB (some ⟨w.heap.size+1+1+1+1+1,0,none⟩) 1 stB A4 c4 stB (fun b=>b<w2.heap.size) wG ((HT.out.keep (fun b hb=>HWG.out.block b hb)).more (fun b hb=>by omega)) ((HST.out.keep (fun b hb=>HWG.out.block b hb)).more (fun b hb=>by omega)) HX4G.out (fun b hb=>by omega) inside_sB).mono ?_
       rintro e wH ⟨rfl,hbH⟩
       have HBH:=Lib.hid (HBG.out.trans (hbH.mono (by omega)))
       clear hbH
       go_wp2_with fail
       go_ret
       exact⟨rfl,HBH.out⟩
     · have HK:=Lib.hid hK
       clear hK
       go_simp
       obtain⟨v5,hv5⟩:∃ v5,v2.alloc (.cells #[.slice none 0 0] 56)=v5:=⟨_,rfl⟩
       have hbA:Below v2.heap.size v2 v5:=by rw [←hv5];exact(Below.refl _ _).alloc (Nat.le_refl _) _
       have hkA:v5.heap[v2.heap.size]?=some (.cells #[.slice none 0 0] 56 (0,0)):=by rw [←hv5];exact heap_alloc_new v2 _
       have hkN:v5.heap[wd.heap.size]?=some (.cells (rowCells 1 tC) 51 (0,0)):=(hbA.block _ (by omega)).trans hkN
       have hkC:v5.heap[v1.heap.size]?=some (.cells #[.int .i64 0,.slice none 0 0,.slice (some ⟨wd.heap.size,0,none⟩) 2 2] 53 (0,0)):=(hbA.block _ (by omega)).trans hkC
       rw [hv5]
       clear hv5
       have x0:v5.cell? ⟨w.heap.size+1+1,0,none⟩=_:=(hbA.cell (p:=⟨w.heap.size+1+1,0,none⟩) (by simp;omega)).trans x0
       have x1:v5.cell? ⟨w.heap.size+1+1,1,none⟩=_:=(hbA.cell (p:=⟨w.heap.size+1+1,1,none⟩) (by simp;omega)).trans x1
       have x2:v5.cell? ⟨w.heap.size+1+1+1+1+1+1,0,none⟩=_:=(hbA.cell (p:=⟨w.heap.size+1+1+1+1+1+1,0,none⟩) (by simp;omega)).trans x2
       have hzv5:v2.heap.size≤v5.heap.size:=hbA.size
       have HBv5:=Lib.hid (show Below w2.heap.size w2 v5 from HBv2.out.trans (hbA.mono (by omega)))
       have hlA:v2.heap.size<v5.heap.size:=lt_of_heap hkA
       refine HK.out _ _ (fun _=>⟨x0,x1,x2⟩) ?_
       clear HK K
       try simp only [Act.put,psA,psB,psC]
       refine anyT_one (i:=5) (o:=⟨some 44,_,_,_,_,_⟩) (L':=(bA 12 575)) rfl (by kernel_rfl) (by kernel_rfl) (fun K hK=>?_)
       have HK:=Lib.hid hK
       clear hK
       go_simp
       have hAP:=apply_any pc0 (some ⟨w.heap.size+1,0,none⟩) 1 sB 1 (some ⟨w.heap.size+1+1+1+1+1,0,none⟩) 1 stB (some ⟨v1.heap.size,0,none⟩) 1 oneC (fun b=>b<v5.heap.size) v5 ((HT.out.keep (fun b hb=>(HBv5.out.block b (by omega)).trans (HWB.out.block b hb))).more (fun b hb=>by omega)) ((HST.out.keep (fun b hb=>(HBv5.out.block b (by omega)).trans (HWB.out.block b hb))).more (fun b hb=>by omega)) (chg_block hkC (by omega) (row_block hkN (by omega) (by decide))) (fun b hb=>hb) preds_sB (by decide)
       rw [apply_one] at hAP
       refine(show Calls _ _ _ _ _ from hAP).mono ?_
       rintro e v6 ⟨A9,c9,rfl,-,-,hbP⟩
       have hkA:v6.heap[v2.heap.size]?=some (.cells #[.slice none 0 0] 56 (0,0)):=(hbP.block _ (by omega)).trans hkA
       clear hAP
       have x0:v6.cell? ⟨w.heap.size+1+1,0,none⟩=_:=(hbP.cell (p:=⟨w.heap.size+1+1,0,none⟩) (by simp;omega)).trans x0
       have x1:v6.cell? ⟨w.heap.size+1+1,1,none⟩=_:=(hbP.cell (p:=⟨w.heap.size+1+1,1,none⟩) (by simp;omega)).trans x1
       have x2:v6.cell? ⟨w.heap.size+1+1+1+1+1+1,0,none⟩=_:=(hbP.cell (p:=⟨w.heap.size+1+1+1+1+1+1,0,none⟩) (by simp;omega)).trans x2
       have hzv6:v5.heap.size≤v6.heap.size:=hbP.size
       have HBv6:=Lib.hid (show Below w2.heap.size w2 v6 from HBv5.out.trans (hbP.mono (by omega)))
       refine HK.out _ _ (fun _=>⟨x0,x1,x2⟩) ?_
       clear HK K
       try simp only [Act.put,psA,psB,psC]
       refine tk 6 38 (bA 12 639) _ rfl (by kernel_rfl) (by kernel_rfl) HP.out (by rfl) (fun w' hSw=>by (try dsimp only at hSw);go_simp;(try with_reducible rfl)) ⟨x0,x1,x2⟩ ?_
       simp only [psA,psB,psC]
       refine tk 7 45 (bA 12 767) _ rfl (by kernel_rfl) (by kernel_rfl) HP.out (by rfl) (fun w' hSw=>by (try dsimp only at hSw);go_simp;(try with_reducible rfl)) ⟨x0,x1,x2⟩ ?_
       simp only [psA,psB,psC]
       refine tk 8 46 (bA 12 1023) _ rfl (by kernel_rfl) (by kernel_rfl) HP.out (by rfl) (fun w' hSw=>by (try dsimp only at hSw);go_simp;(try with_reducible rfl)) ⟨x0,x1,x2⟩ ?_
       simp only [psA,psB,psC]
       refine anyT_one (i:=10) (o:=⟨none,_,_,_,_,_⟩) (L':=(bA 12 2047)) rfl (by kernel_rfl) (by kernel_rfl) (fun K hK=>?_)
       have HK:=Lib.hid hK
       clear hK
       have hca:v6.cell? ⟨v2.heap.size,0,none⟩=some (.slice none 0 0):=by simp [World.cell?,hkA]
       have hfa:v6.frozen? ⟨v2.heap.size,0,none⟩=false:=by simp [World.frozen?,hkA]
       go_simp
       obtain⟨vE,hvE⟩:∃ vE,v6.setCell ⟨v2.heap.size,0,none⟩ (.slice A9 0 c9)=vE:=⟨_,rfl⟩
       have hbE:Below w2.heap.size w2 vE:=by rw [←hvE];exact HBv6.out.setCell (p:=⟨v2.heap.size,0,none⟩) (by simp;omega) _
       have x0:vE.cell? ⟨w.heap.size+1+1,0,none⟩=_:=(hbE.cell (p:=⟨w.heap.size+1+1,0,none⟩) (by simp;omega)).trans y0
       have x1:vE.cell? ⟨w.heap.size+1+1,1,none⟩=_:=(hbE.cell (p:=⟨w.heap.size+1+1,1,none⟩) (by simp;omega)).trans y1
       have x2:vE.cell? ⟨w.heap.size+1+1+1+1+1+1,0,none⟩=_:=(hbE.cell (p:=⟨w.heap.size+1+1+1+1+1+1,0,none⟩) (by simp;omega)).trans y2
       have hszE:w2.heap.size≤vE.heap.size:=hbE.size
       have HBE:=Lib.hid hbE
       clear hca hfa hkA hbE
       try rw [hvE]
       clear hvE
       refine HK.out _ _ (fun _=>⟨x0,x1,x2⟩) ?_
       clear HK K
       try simp only [Act.put,psA,psB,psC]
       refine tk 11 9 (bA 12 4095) _ rfl (by kernel_rfl) (by kernel_rfl) HP.out (by rfl) (fun w' hSw=>by (try dsimp only at hSw);go_simp;(try with_reducible rfl)) ⟨x0,x1,x2⟩ ?_
       simp only [psA,psB,psC]
       refine anyU_done (by kernel_rfl) ?_
       rw [HQ.out]
       clear HQ HP Q'
       have HBEV:=Lib.hid (show Below w.heap.size w vE from HWB0.out.trans (HBE.out.mono (by omega)))
       have HWE:=Lib.hid (show Below W.heap.size W vE from HWB.out.trans (HBE.out.mono (by omega)))
       have hx4:vE.cell? ⟨w1.heap.size,0,none⟩=some (.slice A4 1 c4):=cells_of_block ((HBE.out.block _ (by omega)).trans HKX.out) 0 _ rfl
       have HX4E:=Lib.hid (HX4.out.keep (w':=vE) (fun b hb=>HBE.out.block b hb))
       go_wp2_with fail
       refine(show Calls _ _ _ _ _ from count_any A4 c4 stB (fun b=>b<w2.heap.size) vE HX4E.out (fun b hb=>by omega) (by decide)).mono ?_
       rintro e wF ⟨rfl,hbF⟩
       rw [show ((countF stB:Nat):Int)=1 from rfl]
       have hx4:=(hbF.cell (p:=⟨w1.heap.size,0,none⟩) (by simp;omega)).trans hx4
       have x0:=(hbF.cell (p:=⟨w.heap.size+1+1,0,none⟩) (by simp;omega)).trans x0
       have x1:=(hbF.cell (p:=⟨w.heap.size+1+1,1,none⟩) (by simp;omega)).trans x1
       have x2:=(hbF.cell (p:=⟨w.heap.size+1+1+1+1+1+1,0,none⟩) (by simp;omega)).trans x2
       have hzF:vE.heap.size≤wF.heap.size:=hbF.size
       have HWF:=Lib.hid (HWE.out.trans (hbF.mono (by omega)))
       have HBF:=Lib.hid (HBEV.out.trans (hbF.mono (by omega)))
       have HX4F:=Lib.hid (HX4E.out.keep (w':=wF) (fun b hb=>hbF.block b (by omega)))
       clear hbF
       go_wp2_with fail
       refine(show Calls _ _ _ _ _ from invert_any (some ⟨w.heap.size+1+1+1+1+1+1+1+1+1,0,none⟩) 2 bothC (fun b=>b<W.heap.size) wF (HBO.out.keep (fun b hb=>HWF.out.block b hb)) (fun b hb=>by omega)).mono ?_
       rintro e wG ⟨A6,c6,rfl,-,-,hbG⟩
       rw [show (invF bothC).length=2 from rfl]
       have hx4:=(hbG.cell (p:=⟨w1.heap.size,0,none⟩) (by simp;omega)).trans hx4
       have x0:=(hbG.cell (p:=⟨w.heap.size+1+1,0,none⟩) (by simp;omega)).trans x0
       have x1:=(hbG.cell (p:=⟨w.heap.size+1+1,1,none⟩) (by simp;omega)).trans x1
       have x2:=(hbG.cell (p:=⟨w.heap.size+1+1+1+1+1+1,0,none⟩) (by simp;omega)).trans x2
       have hzG:wF.heap.size≤wG.heap.size:=hbG.size
       have HWG:=Lib.hid (HWF.out.trans (hbG.mono (by omega)))
       have HBG:=Lib.hid (HBF.out.trans (hbG.mono (by omega)))
       have HX4G:=Lib.hid (HX4F.out.keep (w':=wG) (fun b hb=>hbG.block b (by omega)))
       clear hbG
       go_wp2_with fail
       refine(show Calls _ _ _ _ _ from within_true (some ⟨w.heap.size+1,0,none⟩) 1 sB (some ⟨w.heap.size+1+1+1+1+1,0,none⟩) 1 stB A4 c4 stB (fun b=>b<w2.heap.size) wG ((HT.out.keep (fun b hb=>HWG.out.block b hb)).more (fun b hb=>by omega)) ((HST.out.keep (fun b hb=>HWG.out.block b hb)).more (fun b hb=>by omega)) HX4G.out (fun b hb=>by omega) inside_sB).mono ?_
       rintro e wH ⟨rfl,hbH⟩
       have HBH:=Lib.hid (HBG.out.trans (hbH.mono (by omega)))
       clear hbH
       go_wp2_with fail
       go_ret
       exact⟨rfl,HBH.out⟩
   · have HK:=Lib.hid hK
     clear hK
     go_simp
     obtain⟨v7,hv7⟩:∃ v7,v1.alloc (.cells #[.slice none 0 0] 56)=v7:=⟨_,rfl⟩
     have hbA:Below v1.heap.size v1 v7:=by rw [←hv7];exact(Below.refl _ _).alloc (Nat.le_refl _) _
     have hkA:v7.heap[v1.heap.size]?=some (.cells #[.slice none 0 0] 56 (0,0)):=by rw [←hv7];exact heap_alloc_new v1 _
     have hkN:v7.heap[wd.heap.size]?=some (.cells (rowCells 1 tC) 51 (0,0)):=(hbA.block _ (by omega)).trans hkN
     rw [hv7]
     clear hv7
     have x0:v7.cell? ⟨w.heap.size+1+1,0,none⟩=_:=(hbA.cell (p:=⟨w.heap.size+1+1,0,none⟩) (by simp;omega)).trans x0
     have x1:v7.cell? ⟨w.heap.size+1+1,1,none⟩=_:=(hbA.cell (p:=⟨w.heap.size+1+1,1,none⟩) (by simp;omega)).trans x1
     have x2:v7.cell? ⟨w.heap.size+1+1+1+1+1+1,0,none⟩=_:=(hbA.cell (p:=⟨w.heap.size+1+1+1+1+1+1,0,none⟩) (by simp;omega)).trans x2
     have hzv7:v1.heap.size≤v7.heap.size:=hbA.size
     have HBv7:=Lib.hid (show Below w2.heap.size w2 v7 from HBv1.out.trans (hbA.mono (by omega)))
     have hlA:v1.heap.size<v7.heap.size:=lt_of_heap hkA
     refine HK.out _ _ (fun _=>⟨x0,x1,x2⟩) ?_
     clear HK K
     try simp only [Act.put,psA,psB,psC]
     refine anyT_one (i:=4) (o:=⟨some 43,_,_,_,_,_⟩) (L':=(bA 12 543)) rfl (by kernel_rfl) (by kernel_rfl) (fun K hK=>?_)
     have HK:=Lib.hid hK
     clear hK
     go_simp
     obtain⟨v8,hv8⟩:∃ v8,v7.alloc (.cells #[.int .i64 0,.slice none 0 0,.slice (some ⟨wd.heap.size,0,none⟩) 2 2] 53)=v8:=⟨_,rfl⟩
     have hbC:Below v7.heap.size v7 v8:=by rw [←hv8];exact(Below.refl _ _).alloc (Nat.le_refl _) _
     have hkC:v8.heap[v7.heap.size]?=some (.cells #[.int .i64 0,.slice none 0 0,.slice (some ⟨wd.heap.size,0,none⟩) 2 2] 53 (0,0)):=by rw [←hv8];exact heap_alloc_new v7 _
     have hkN:v8.heap[wd.heap.size]?=some (.cells (rowCells 1 tC) 51 (0,0)):=(hbC.block _ (by omega)).trans hkN
     rw [hv8]
     clear hv8
     have hkA:v8.heap[v1.heap.size]?=some (.cells #[.slice none 0 0] 56 (0,0)):=(hbC.block _ (by omega)).trans hkA
     have x0:v8.cell? ⟨w.heap.size+1+1,0,none⟩=_:=(hbC.cell (p:=⟨w.heap.size+1+1,0,none⟩) (by simp;omega)).trans x0
     have x1:v8.cell? ⟨w.heap.size+1+1,1,none⟩=_:=(hbC.cell (p:=⟨w.heap.size+1+1,1,none⟩) (by simp;omega)).trans x1
     have x2:v8.cell? ⟨w.heap.size+1+1+1+1+1+1,0,none⟩=_:=(hbC.cell (p:=⟨w.heap.size+1+1+1+1+1+1,0,none⟩) (by simp;omega)).trans x2
     have hzv8:v7.heap.size≤v8.heap.size:=hbC.size
     have HBv8:=Lib.hid (show Below w2.heap.size w2 v8 from HBv7.out.trans (hbC.mono (by omega)))
     have hlC:v7.heap.size<v8.heap.size:=lt_of_heap hkC
     refine HK.out _ _ (fun _=>⟨x0,x1,x2⟩) ?_
     clear HK K
     try simp only [Act.put,psA,psB,psC]
     refine anyT_one (i:=5) (o:=⟨some 44,_,_,_,_,_⟩) (L':=(bA 12 575)) rfl (by kernel_rfl) (by kernel_rfl) (fun K hK=>?_)
     have HK:=Lib.hid hK
     clear hK
     go_simp
     have hAP:=apply_any pc0 (some ⟨w.heap.size+1,0,none⟩) 1 sB 1 (some ⟨w.heap.size+1+1+1+1+1,0,none⟩) 1 stB (some ⟨v7.heap.size,0,none⟩) 1 oneC (fun b=>b<v8.heap.size) v8 ((HT.out.keep (fun b hb=>(HBv8.out.block b (by omega)).trans (HWB.out.block b hb))).more (fun b hb=>by omega)) ((HST.out.keep (fun b hb=>(HBv8.out.block b (by omega)).trans (HWB.out.block b hb))).more (fun b hb=>by omega)) (chg_block hkC (by omega) (row_block hkN (by omega) (by decide))) (fun b hb=>hb) preds_sB (by decide)
     rw [apply_one] at hAP
     refine(show Calls _ _ _ _ _ from hAP).mono ?_
     rintro e v9 ⟨A9,c9,rfl,-,-,hbP⟩
     have hkA:v9.heap[v1.heap.size]?=some (.cells #[.slice none 0 0] 56 (0,0)):=(hbP.block _ (by omega)).trans hkA
     clear hAP
     have x0:v9.cell? ⟨w.heap.size+1+1,0,none⟩=_:=(hbP.cell (p:=⟨w.heap.size+1+1,0,none⟩) (by simp;omega)).trans x0
     have x1:v9.cell? ⟨w.heap.size+1+1,1,none⟩=_:=(hbP.cell (p:=⟨w.heap.size+1+1,1,none⟩) (by simp;omega)).trans x1
     have x2:v9.cell? ⟨w.heap.size+1+1+1+1+1+1,0,none⟩=_:=(hbP.cell (p:=⟨w.heap.size+1+1+1+1+1+1,0,none⟩) (by simp;omega)).trans x2
     have hzv9:v8.heap.size≤v9.heap.size:=hbP.size
     have HBv9:=Lib.hid (show Below w2.heap.size w2 v9 from HBv8.out.trans (hbP.mono (by omega)))
     refine HK.out _ _ (fun _=>⟨x0,x1,x2⟩) ?_
     clear HK K
     try simp only [Act.put,psA,psB,psC]
     refine tk 6 38 (bA 12 639) _ rfl (by kernel_rfl) (by kernel_rfl) HP.out (by rfl) (fun w' hSw=>by (try dsimp only at hSw);go_simp;(try with_reducible rfl)) ⟨x0,x1,x2⟩ ?_
     simp only [psA,psB,psC]
     refine tk 7 45 (bA 12 767) _ rfl (by kernel_rfl) (by kernel_rfl) HP.out (by rfl) (fun w' hSw=>by (try dsimp only at hSw);go_simp;(try with_reducible rfl)) ⟨x0,x1,x2⟩ ?_
     simp only [psA,psB,psC]
     refine tk 8 46 (bA 12 1023) _ rfl (by kernel_rfl) (by kernel_rfl) HP.out (by rfl) (fun w' hSw=>by (try dsimp only at hSw);go_simp;(try with_reducible rfl)) ⟨x0,x1,x2⟩ ?_
     simp only [psA,psB,psC]
     refine anyT_one (i:=10) (o:=⟨none,_,_,_,_,_⟩) (L':=(bA 12 2047)) rfl (by kernel_rfl) (by kernel_rfl) (fun K hK=>?_)
     have HK:=Lib.hid hK
     clear hK
     have hca:v9.cell? ⟨v1.heap.size,0,none⟩=some (.slice none 0 0):=by simp [World.cell?,hkA]
     have hfa:v9.frozen? ⟨v1.heap.size,0,none⟩=false:=by simp [World.frozen?,hkA]
     go_simp
     obtain⟨vE,hvE⟩:∃ vE,v9.setCell ⟨v1.heap.size,0,none⟩ (.slice A9 0 c9)=vE:=⟨_,rfl⟩
     have hbE:Below w2.heap.size w2 vE:=by rw [←hvE];exact HBv9.out.setCell (p:=⟨v1.heap.size,0,none⟩) (by simp;omega) _
     have x0:vE.cell? ⟨w.heap.size+1+1,0,none⟩=_:=(hbE.cell (p:=⟨w.heap.size+1+1,0,none⟩) (by simp;omega)).trans y0
     have x1:vE.cell? ⟨w.heap.size+1+1,1,none⟩=_:=(hbE.cell (p:=⟨w.heap.size+1+1,1,none⟩) (by simp;omega)).trans y1
     have x2:vE.cell? ⟨w.heap.size+1+1+1+1+1+1,0,none⟩=_:=(hbE.cell (p:=⟨w.heap.size+1+1+1+1+1+1,0,none⟩) (by simp;omega)).trans y2
     have hszE:w2.heap.size≤vE.heap.size:=hbE.size
     have HBE:=Lib.hid hbE
     clear hca hfa hkA hbE
     try rw [hvE]
     clear hvE
     refine HK.out _ _ (fun _=>⟨x0,x1,x2⟩) ?_
     clear HK K
     try simp only [Act.put,psA,psB,psC]
     refine tk 11 9 (bA 12 4095) _ rfl (by kernel_rfl) (by kernel_rfl) HP.out (by rfl) (fun w' hSw=>by (try dsimp only at hSw);go_simp;(try with_reducible rfl)) ⟨x0,x1,x2⟩ ?_
     simp only [psA,psB,psC]
     refine anyU_done (by kernel_rfl) ?_
     rw [HQ.out]
     clear HQ HP Q'
     have HBEV:=Lib.hid (show Below w.heap.size w vE from HWB0.out.trans (HBE.out.mono (by omega)))
     have HWE:=Lib.hid (show Below W.heap.size W vE from HWB.out.trans (HBE.out.mono (by omega)))
     have hx4:vE.cell? ⟨w1.heap.size,0,none⟩=some (.slice A4 1 c4):=cells_of_block ((HBE.out.block _ (by omega)).trans HKX.out) 0 _ rfl
     have HX4E:=Lib.hid (HX4.out.keep (w':=vE) (fun b hb=>HBE.out.block b hb))
     go_wp2_with fail
     refine(show Calls _ _ _ _ _ from count_any A4 c4 stB (fun b=>b<w2.heap.size) vE HX4E.out (fun b hb=>by omega) (by decide)).mono ?_
     rintro e wF ⟨rfl,hbF⟩
     rw [show ((countF stB:Nat):Int)=1 from rfl]
     have hx4:=(hbF.cell (p:=⟨w1.heap.size,0,none⟩) (by simp;omega)).trans hx4
     have x0:=(hbF.cell (p:=⟨w.heap.size+1+1,0,none⟩) (by simp;omega)).trans x0
     have x1:=(hbF.cell (p:=⟨w.heap.size+1+1,1,none⟩) (by simp;omega)).trans x1
     have x2:=(hbF.cell (p:=⟨w.heap.size+1+1+1+1+1+1,0,none⟩) (by simp;omega)).trans x2
     have hzF:vE.heap.size≤wF.heap.size:=hbF.size
     have HWF:=Lib.hid (HWE.out.trans (hbF.mono (by omega)))
     have HBF:=Lib.hid (HBEV.out.trans (hbF.mono (by omega)))
     have HX4F:=Lib.hid (HX4E.out.keep (w':=wF) (fun b hb=>hbF.block b (by omega)))
     clear hbF
     go_wp2_with fail
     refine(show Calls _ _ _ _ _ from invert_any (some ⟨w.heap.size+1+1+1+1+1+1+1+1+1,0,none⟩) 2 bothC (fun b=>b<W.heap.size) wF (HBO.out.keep (fun b hb=>HWF.out.block b hb)) (fun b hb=>by omega)).mono ?_
     rintro e wG ⟨A6,c6,rfl,-,-,hbG⟩
     rw [show (invF bothC).length=2 from rfl]
     have hx4:=(hbG.cell (p:=⟨w1.heap.size,0,none⟩) (by simp;omega)).trans hx4
     have x0:=(hbG.cell (p:=⟨w.heap.size+1+1,0,none⟩) (by simp;omega)).trans x0
     have x1:=(hbG.cell (p:=⟨w.heap.size+1+1,1,none⟩) (by simp;omega)).trans x1
     have x2:=(hbG.cell (p:=⟨w.heap.size+1+1+1+1+1+1,0,none⟩) (by simp;omega)).trans x2
     have hzG:wF.heap.size≤wG.heap.size:=hbG.size
     have HWG:=Lib.hid (HWF.out.trans (hbG.mono (by omega)))
     have HBG:=Lib.hid (HBF.out.trans (hbG.mono (by omega)))
     have HX4G:=Lib.hid (HX4F.out.keep (w':=wG) (fun b hb=>hbG.block b (by omega)))
     clear hbG
     go_wp2_with fail
     refine(show Calls _ _ _ _ _ from within_true (some ⟨w.heap.size+1,0,none⟩) 1 sB (some ⟨w.heap.size+1+1+1+1+1,0,none⟩) 1 stB A4 c4 stB (fun b=>b<w2.heap.size) wG ((HT.out.keep (fun b hb=>HWG.out.block b hb)).more (fun b hb=>by omega)) ((HST.out.keep (fun b hb=>HWG.out.block b hb)).more (fun b hb=>by omega)) HX4G.out (fun b hb=>by omega) inside_sB).mono ?_
     rintro e wH ⟨rfl,hbH⟩
     have HBH:=Lib.hid (HBG.out.trans (hbH.mono (by omega)))
     clear hbH
     go_wp2_with fail
     go_ret
     exact⟨rfl,HBH.out⟩
 · have HK:=Lib.hid hK
   clear hK
   go_simp
   obtain⟨v10,hv10⟩:∃ v10,wd.alloc (.cells #[.slice none 0 0] 56)=v10:=⟨_,rfl⟩
   have hbA:Below wd.heap.size wd v10:=by rw [←hv10];exact(Below.refl _ _).alloc (Nat.le_refl _) _
   have hkA:v10.heap[wd.heap.size]?=some (.cells #[.slice none 0 0] 56 (0,0)):=by rw [←hv10];exact heap_alloc_new wd _
   rw [hv10]
   clear hv10
   have x0:v10.cell? ⟨w.heap.size+1+1,0,none⟩=_:=(hbA.cell (p:=⟨w.heap.size+1+1,0,none⟩) (by simp;omega)).trans x0
   have x1:v10.cell? ⟨w.heap.size+1+1,1,none⟩=_:=(hbA.cell (p:=⟨w.heap.size+1+1,1,none⟩) (by simp;omega)).trans x1
   have x2:v10.cell? ⟨w.heap.size+1+1+1+1+1+1,0,none⟩=_:=(hbA.cell (p:=⟨w.heap.size+1+1+1+1+1+1,0,none⟩) (by simp;omega)).trans x2
   have hzv10:wd.heap.size≤v10.heap.size:=hbA.size
   have HBv10:=Lib.hid (show Below w2.heap.size w2 v10 from HBwd.out.trans (hbA.mono (by omega)))
   have hlA:wd.heap.size<v10.heap.size:=lt_of_heap hkA
   refine HK.out _ _ (fun _=>⟨x0,x1,x2⟩) ?_
   clear HK K
   try simp only [Act.put,psA,psB,psC]
   refine anyT_one (i:=2) (o:=⟨some 41,_,_,_,_,_⟩) (L':=(bA 12 519)) rfl (by kernel_rfl) (by kernel_rfl) (fun K hK=>?_)
   have HK:=Lib.hid hK
   clear hK
   go_simp
   refine(named8_any 1 tC v10).mono ?_
   rintro e w' ⟨rfl,rfl⟩
   obtain⟨v11,hv11⟩:∃ v11,v10.alloc (.cells (rowCells 1 tC) 51)=v11:=⟨_,rfl⟩
   have hbN:Below v10.heap.size v10 v11:=by rw [←hv11];exact(Below.refl _ _).alloc (Nat.le_refl _) _
   have hkN:v11.heap[v10.heap.size]?=some (.cells (rowCells 1 tC) 51 (0,0)):=by rw [←hv11];exact heap_alloc_new v10 _
   rw [hv11]
   clear hv11
   have hkA:v11.heap[wd.heap.size]?=some (.cells #[.slice none 0 0] 56 (0,0)):=(hbN.block _ (by omega)).trans hkA
   have x0:v11.cell? ⟨w.heap.size+1+1,0,none⟩=_:=(hbN.cell (p:=⟨w.heap.size+1+1,0,none⟩) (by simp;omega)).trans x0
   have x1:v11.cell? ⟨w.heap.size+1+1,1,none⟩=_:=(hbN.cell (p:=⟨w.heap.size+1+1,1,none⟩) (by simp;omega)).trans x1
   have x2:v11.cell? ⟨w.heap.size+1+1+1+1+1+1,0,none⟩=_:=(hbN.cell (p:=⟨w.heap.size+1+1+1+1+1+1,0,none⟩) (by simp;omega)).trans x2
   have hzv11:v10.heap.size≤v11.heap.size:=hbN.size
   have HBv11:=Lib.hid (show Below w2.heap.size w2 v11 from HBv10.out.trans (hbN.mono (by omega)))
   have hlN:v10.heap.size<v11.heap.size:=lt_of_heap hkN
   refine HK.out _ _ (fun _=>⟨x0,x1,x2⟩) ?_
   clear HK K
   try simp only [Act.put,psA,psB,psC]
   refine tk 3 42 (bA 12 527) _ rfl (by kernel_rfl) (by kernel_rfl) HP.out (by rfl) (fun w' hSw=>by (try dsimp only at hSw);go_simp;(try with_reducible rfl)) ⟨x0,x1,x2⟩ ?_
   simp only [psA,psB,psC]
   refine anyT_one (i:=4) (o:=⟨some 43,_,_,_,_,_⟩) (L':=(bA 12 543)) rfl (by kernel_rfl) (by kernel_rfl) (fun K hK=>?_)
   have HK:=Lib.hid hK
   clear hK
   go_simp
   obtain⟨v12,hv12⟩:∃ v12,v11.alloc (.cells #[.int .i64 0,.slice none 0 0,.slice (some ⟨v10.heap.size,0,none⟩) 2 2] 53)=v12:=⟨_,rfl⟩
   have hbC:Below v11.heap.size v11 v12:=by rw [←hv12];exact(Below.refl _ _).alloc (Nat.le_refl _) _
   have hkC:v12.heap[v11.heap.size]?=some (.cells #[.int .i64 0,.slice none 0 0,.slice (some ⟨v10.heap.size,0,none⟩) 2 2] 53 (0,0)):=by rw [←hv12];exact heap_alloc_new v11 _
   have hkN:v12.heap[v10.heap.size]?=some (.cells (rowCells 1 tC) 51 (0,0)):=(hbC.block _ (by omega)).trans hkN
   rw [hv12]
   clear hv12
   have hkA:v12.heap[wd.heap.size]?=some (.cells #[.slice none 0 0] 56 (0,0)):=(hbC.block _ (by omega)).trans hkA
   have x0:v12.cell? ⟨w.heap.size+1+1,0,none⟩=_:=(hbC.cell (p:=⟨w.heap.size+1+1,0,none⟩) (by simp;omega)).trans x0
   have x1:v12.cell? ⟨w.heap.size+1+1,1,none⟩=_:=(hbC.cell (p:=⟨w.heap.size+1+1,1,none⟩) (by simp;omega)).trans x1
   have x2:v12.cell? ⟨w.heap.size+1+1+1+1+1+1,0,none⟩=_:=(hbC.cell (p:=⟨w.heap.size+1+1+1+1+1+1,0,none⟩) (by simp;omega)).trans x2
   have hzv12:v11.heap.size≤v12.heap.size:=hbC.size
   have HBv12:=Lib.hid (show Below w2.heap.size w2 v12 from HBv11.out.trans (hbC.mono (by omega)))
   have hlC:v11.heap.size<v12.heap.size:=lt_of_heap hkC
   refine HK.out _ _ (fun _=>⟨x0,x1,x2⟩) ?_
   clear HK K
   try simp only [Act.put,psA,psB,psC]
   refine anyT_one (i:=5) (o:=⟨some 44,_,_,_,_,_⟩) (L':=(bA 12 575)) rfl (by kernel_rfl) (by kernel_rfl) (fun K hK=>?_)
   have HK:=Lib.hid hK
   clear hK
   go_simp
   have hAP:=apply_any pc0 (some ⟨w.heap.size+1,0,none⟩) 1 sB 1 (some ⟨w.heap.size+1+1+1+1+1,0,none⟩) 1 stB (some ⟨v11.heap.size,0,none⟩) 1 oneC (fun b=>b<v12.heap.size) v12 ((HT.out.keep (fun b hb=>(HBv12.out.block b (by omega)).trans (HWB.out.block b hb))).more (fun b hb=>by omega)) ((HST.out.keep (fun b hb=>(HBv12.out.block b (by omega)).trans (HWB.out.block b hb))).more (fun b hb=>by omega)) (chg_block hkC (by omega) (row_block hkN (by omega) (by decide))) (fun b hb=>hb) preds_sB (by decide)
   rw [apply_one] at hAP
   refine(show Calls _ _ _ _ _ from hAP).mono ?_
   rintro e v13 ⟨A9,c9,rfl,-,-,hbP⟩
   have hkA:v13.heap[wd.heap.size]?=some (.cells #[.slice none 0 0] 56 (0,0)):=(hbP.block _ (by omega)).trans hkA
   clear hAP
   have x0:v13.cell? ⟨w.heap.size+1+1,0,none⟩=_:=(hbP.cell (p:=⟨w.heap.size+1+1,0,none⟩) (by simp;omega)).trans x0
   have x1:v13.cell? ⟨w.heap.size+1+1,1,none⟩=_:=(hbP.cell (p:=⟨w.heap.size+1+1,1,none⟩) (by simp;omega)).trans x1
   have x2:v13.cell? ⟨w.heap.size+1+1+1+1+1+1,0,none⟩=_:=(hbP.cell (p:=⟨w.heap.size+1+1+1+1+1+1,0,none⟩) (by simp;omega)).trans x2
   have hzv13:v12.heap.size≤v13.heap.size:=hbP.size
   have HBv13:=Lib.hid (show Below w2.heap.size w2 v13 from HBv12.out.trans (hbP.mono (by omega)))
   refine HK.out _ _ (fun _=>⟨x0,x1,x2⟩) ?_
   clear HK K
   try simp only [Act.put,psA,psB,psC]
   refine tk 6 38 (bA 12 639) _ rfl (by kernel_rfl) (by kernel_rfl) HP.out (by rfl) (fun w' hSw=>by (try dsimp only at hSw);go_simp;(try with_reducible rfl)) ⟨x0,x1,x2⟩ ?_
   simp only [psA,psB,psC]
   refine tk 7 45 (bA 12 767) _ rfl (by kernel_rfl) (by kernel_rfl) HP.out (by rfl) (fun w' hSw=>by (try dsimp only at hSw);go_simp;(try with_reducible rfl)) ⟨x0,x1,x2⟩ ?_
   simp only [psA,psB,psC]
   refine tk 8 46 (bA 12 1023) _ rfl (by kernel_rfl) (by kernel_rfl) HP.out (by rfl) (fun w' hSw=>by (try dsimp only at hSw);go_simp;(try with_reducible rfl)) ⟨x0,x1,x2⟩ ?_
   simp only [psA,psB,psC]
   refine anyT_one (i:=10) (o:=⟨none,_,_,_,_,_⟩) (L':=(bA 12 2047)) rfl (by kernel_rfl) (by kernel_rfl) (fun K hK=>?_)
   have HK:=Lib.hid hK
   clear hK
   have hca:v13.cell? ⟨wd.heap.size,0,none⟩=some (.slice none 0 0):=by simp [World.cell?,hkA]
   have hfa:v13.frozen? ⟨wd.heap.size,0,none⟩=false:=by simp [World.frozen?,hkA]
   go_simp
   obtain⟨vE,hvE⟩:∃ vE,v13.setCell ⟨wd.heap.size,0,none⟩ (.slice A9 0 c9)=vE:=⟨_,rfl⟩
   have hbE:Below w2.heap.size w2 vE:=by rw [←hvE];exact HBv13.out.setCell (p:=⟨wd.heap.size,0,none⟩) (by simp;omega) _
   have x0:vE.cell? ⟨w.heap.size+1+1,0,none⟩=_:=(hbE.cell (p:=⟨w.heap.size+1+1,0,none⟩) (by simp;omega)).trans y0
   have x1:vE.cell? ⟨w.heap.size+1+1,1,none⟩=_:=(hbE.cell (p:=⟨w.heap.size+1+1,1,none⟩) (by simp;omega)).trans y1
   have x2:vE.cell? ⟨w.heap.size+1+1+1+1+1+1,0,none⟩=_:=(hbE.cell (p:=⟨w.heap.size+1+1+1+1+1+1,0,none⟩) (by simp;omega)).trans y2
   have hszE:w2.heap.size≤vE.heap.size:=hbE.size
   have HBE:=Lib.hid hbE
   clear hca hfa hkA hbE
   try rw [hvE]
   clear hvE
   refine HK.out _ _ (fun _=>⟨x0,x1,x2⟩) ?_
   clear HK K
   try simp only [Act.put,psA,psB,psC]
   refine tk 11 9 (bA 12 4095) _ rfl (by kernel_rfl) (by kernel_rfl) HP.out (by rfl) (fun w' hSw=>by (try dsimp only at hSw);go_simp;(try with_reducible rfl)) ⟨x0,x1,x2⟩ ?_
   simp only [psA,psB,psC]
   refine anyU_done (by kernel_rfl) ?_
   rw [HQ.out]
   clear HQ HP Q'
   have HBEV:=Lib.hid (show Below w.heap.size w vE from HWB0.out.trans (HBE.out.mono (by omega)))
   have HWE:=Lib.hid (show Below W.heap.size W vE from HWB.out.trans (HBE.out.mono (by omega)))
   have hx4:vE.cell? ⟨w1.heap.size,0,none⟩=some (.slice A4 1 c4):=cells_of_block ((HBE.out.block _ (by omega)).trans HKX.out) 0 _ rfl
   have HX4E:=Lib.hid (HX4.out.keep (w':=vE) (fun b hb=>HBE.out.block b hb))
   go_wp2_with fail
   refine(show Calls _ _ _ _ _ from count_any A4 c4 stB (fun b=>b<w2.heap.size) vE HX4E.out (fun b hb=>by omega) (by decide)).mono ?_
   rintro e wF ⟨rfl,hbF⟩
   rw [show ((countF stB:Nat):Int)=1 from rfl]
   have hx4:=(hbF.cell (p:=⟨w1.heap.size,0,none⟩) (by simp;omega)).trans hx4
   have x0:=(hbF.cell (p:=⟨w.heap.size+1+1,0,none⟩) (by simp;omega)).trans x0
   have x1:=(hbF.cell (p:=⟨w.heap.size+1+1,1,none⟩) (by simp;omega)).trans x1
   have x2:=(hbF.cell (p:=⟨w.heap.size+1+1+1+1+1+1,0,none⟩) (by simp;omega)).trans x2
   have hzF:vE.heap.size≤wF.heap.size:=hbF.size
   have HWF:=Lib.hid (HWE.out.trans (hbF.mono (by omega)))
   have HBF:=Lib.hid (HBEV.out.trans (hbF.mono (by omega)))
   have HX4F:=Lib.hid (HX4E.out.keep (w':=wF) (fun b hb=>hbF.block b (by omega)))
   clear hbF
   go_wp2_with fail
   refine(show Calls _ _ _ _ _ from invert_any (some ⟨w.heap.size+1+1+1+1+1+1+1+1+1,0,none⟩) 2 bothC (fun b=>b<W.heap.size) wF (HBO.out.keep (fun b hb=>HWF.out.block b hb)) (fun b hb=>by omega)).mono ?_
   rintro e wG ⟨A6,c6,rfl,-,-,hbG⟩
   rw [show (invF bothC).length=2 from rfl]
   have hx4:=(hbG.cell (p:=⟨w1.heap.size,0,none⟩) (by simp;omega)).trans hx4
   have x0:=(hbG.cell (p:=⟨w.heap.size+1+1,0,none⟩) (by simp;omega)).trans x0
   have x1:=(hbG.cell (p:=⟨w.heap.size+1+1,1,none⟩) (by simp;omega)).trans x1
   have x2:=(hbG.cell (p:=⟨w.heap.size+1+1+1+1+1+1,0,none⟩) (by simp;omega)).trans x2
   have hzG:wF.heap.size≤wG.heap.size:=hbG.size
   have HWG:=Lib.hid (HWF.out.trans (hbG.mono (by omega)))
   have HBG:=Lib.hid (HBF.out.trans (hbG.mono (by omega)))
   have HX4G:=Lib.hid (HX4F.out.keep (w':=wG) (fun b hb=>hbG.block b (by omega)))
   clear hbG
   go_wp2_with fail
   refine(show Calls _ _ _ _ _ from within_true (some ⟨w.heap.size+1,0,none⟩) 1 sB (some ⟨w.heap.size+1+1+1+1+1,0,none⟩) 1 stB A4 c4 stB (fun b=>b<w2.heap.size) wG ((HT.out.keep (fun b hb=>HWG.out.block b hb)).more (fun b hb=>by omega)) ((HST.out.keep (fun b hb=>HWG.out.block b hb)).more (fun b hb=>by omega)) HX4G.out (fun b hb=>by omega) inside_sB).mono ?_
   rintro e wH ⟨rfl,hbH⟩
   have HBH:=Lib.hid (HBG.out.trans (hbH.mono (by omega)))
   clear hbH
   go_wp2_with fail
   go_ret
   exact⟨rfl,HBH.out⟩
end Go.Proofs.Ytkpjjfhfbpfjpaa

