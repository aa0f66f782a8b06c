import Derived.Test.YtkpjjfhfbpfjpaaK6f1ba9
import Derived.Test.YtkpjjfhfbpfjpaaKd9b46f
set_option linter.unusedVariables false
set_option linter.unusedSimpArgs false
set_option maxRecDepth 100000
namespace Go.Proofs.Ytkpjjfhfbpfjpaa
open Go.RowKit
theorem Fr.frozenF {X:Nat→Prop} {w w':World} (h:Fr X w w') {b o:Nat} (hb:b<w.heap.size) (hx:¬ X b):w'.frozen? ⟨b,o,none⟩=w.frozen? ⟨b,o,none⟩:=World.frozen?_of_block (h.block b hb hx)
theorem rowGen_ok {key m:Int} {ks:List Int} {r:Row} (h:RowGen key m ks r) (hl:ks.length≤1000000):RowOk r:=by
 refine⟨by rw [h.1];omega,fun v hv=>?_⟩
 obtain⟨i,hi,rfl⟩:=List.getElem_of_mem hv
 have h1:=h.2 i (by rw [←h.1];exact hi)
 rw [getD_lt hi] at h1
 unfold fitsV at h1
 simp only [Bool.and_eq_true] at h1
 have:=valid_text64 h1.1
 omega
theorem rowOk_key {s:Sch} {t:Int} {r:Row} (h:RowOk r):RowOk (keyF s t r):=by
 unfold keyF
 split
 · exact⟨by rw [List.length_take];have:=h.1;omega,fun v hv=>h.2 v (List.mem_of_mem_take hv)⟩
 · exact⟨by simp,fun v hv=>by simp at hv⟩
structure StI (w wr:World) (g:Nat) (S:Nat→Prop) (s:Sch) (A0:Option Addr) (c0':Nat) (m:Int) (cur:St):Prop where
 stc:StC wr (fun b=>S b∨(w.heap.size+4≤b∧b<wr.heap.size)) (w.heap.size+2) cur
 ok:StOk s m cur
 b0:wr.cell? ⟨w.heap.size,0,none⟩=some (.int .i64 s.version)
 b1:wr.cell? ⟨w.heap.size,1,none⟩=some (.slice A0 s.tabs.length c0')
 r0:wr.cell? ⟨w.heap.size+1,0,none⟩=some (.slice none 0 0)
 rf:wr.frozen? ⟨w.heap.size+1,0,none⟩=false
 t0:wr.cell? ⟨w.heap.size+3,0,none⟩=some (.slice (some ⟨w.heap.size+2,0,none⟩) s.tabs.length s.tabs.length)
 tf:wr.frozen? ⟨w.heap.size+3,0,none⟩=false
 case:CaseOk wr g
 gr:w.grownBy wr (some g)
 sz:w.heap.size+4≤wr.heap.size
section
variable {w wr wx wp:World} {g:Nat} {S:Nat→Prop} {s:Sch} {A0:Option Addr} {c0':Nat} {m:Int} {cur cur':St}
theorem StI.keep (h:StI w wr g S s A0 c0' m cur) (hf:Fr (fun b=>b=g) wr wx) (hc:CaseOk wx g) (hgl:g<w.heap.size) (hS:∀ b,S b→b<w.heap.size∧b≠g):StI w wx g S s A0 c0' m cur:=by
 have hz:=h.sz
 have hzx:=hf.size
 refine⟨(h.stc.fr hf (fun b hb hl=>⟨fun hb'=>?_,by omega⟩)).more (fun b hb=>hb.imp id (fun hb=>⟨hb.1,by have:=hb.2;omega⟩)) (fun b hb=>?_),h.ok,(hf.cell (by omega) (by omega)).trans h.b0,(hf.cell (by omega) (by omega)).trans h.b1,(hf.cell (by omega) (by omega)).trans h.r0,(hf.frozenF (by omega) (by omega)).trans h.rf,(hf.cell (by omega) (by omega)).trans h.t0,(hf.frozenF (by omega) (by omega)).trans h.tf,hc,h.gr.trans hf.grown,by omega⟩
 · rcases hb' with hb' | hb'
   · exact(hS b hb').2 hb
   · omega
 · rcases hb with hb | hb
   · have:=hS b hb;omega
   · exact⟨hb.2,by have:=hb.1;omega⟩
theorem StI.put (h:StI w wr g S s A0 c0' m cur) (hgl:g<w.heap.size) (hS:∀ b,S b→b<w.heap.size∧b≠g) (hb:Below wr.heap.size wr wx) (hst:StC wp (fun b=>(S b∨(w.heap.size+4≤b∧b<wx.heap.size))∨New wx wp b) (w.heap.size+2) cur') (hf:Fr (fun b=>b=w.heap.size+2) wx wp) (hok:StOk s m cur') :
  StI w (wp.setCell ⟨w.heap.size+3,0,none⟩ (.slice (some ⟨w.heap.size+2,0,none⟩) s.tabs.length s.tabs.length)) g S s A0 c0' m cur':=by
 have hz:=h.sz
 have hzx:=hb.size
 have hzp:=hf.size
 have hne:∀ b,b≠w.heap.size+3→(wp.setCell ⟨w.heap.size+3,0,none⟩ (.slice (some ⟨w.heap.size+2,0,none⟩) s.tabs.length s.tabs.length)).heap[b]?=wp.heap[b]?:=fun b hb=>Below.heap_setCell wp ⟨w.heap.size+3,0,none⟩ _ b hb
 have hblk:∀ b,b<wr.heap.size→b≠w.heap.size+2→wp.heap[b]?=wr.heap[b]?:=fun b h1 h2=>(hf.block b (by omega) h2).trans (hb.block b h1)
 have hall:∀ b,b<wr.heap.size→b≠w.heap.size+2→b≠w.heap.size+3→(wp.setCell ⟨w.heap.size+3,0,none⟩ (.slice (some ⟨w.heap.size+2,0,none⟩) s.tabs.length s.tabs.length)).heap[b]?=wr.heap[b]?:=fun b h1 h2 h3=>(hne b h3).trans (hblk b h1 h2)
 have hnew:∀ b,((S b∨(w.heap.size+4≤b∧b<wx.heap.size))∨New wx wp b)→S b∨(w.heap.size+4≤b∧b<wp.heap.size):=fun b hb'=>by
  rcases hb' with (hb' | hb') | hb'
  · exact .inl hb'
  · exact .inr ⟨hb'.1,by have:=hb'.2;omega⟩
  · exact .inr ⟨by have h9:wx.heap.size≤b:=hb'.1;omega,hb'.2⟩
 have hlow:∀ b,(S b∨(w.heap.size+4≤b∧b<wp.heap.size))→b<wp.heap.size∧b≠w.heap.size+2:=fun b hb'=>by
  rcases hb' with hb' | hb'
  · have:=hS b hb';omega
  · exact⟨hb'.2,by have:=hb'.1;omega⟩
 have hst1:=hst.more (S':=fun b=>S b∨(w.heap.size+4≤b∧b<wp.heap.size)) hnew hlow
 have hfg:Fr (fun b=>b=g) wr (wp.setCell ⟨w.heap.size+3,0,none⟩ (.slice (some ⟨w.heap.size+2,0,none⟩) s.tabs.length s.tabs.length))→True:=fun _=>trivial
 refine⟨(hst1.keep (by simp) (fun b hb'=>hne b ?_) (hne (w.heap.size+2) (by omega))).more (fun b hb'=>hb'.imp id (fun hb'=>⟨hb'.1,by have:=hb'.2;simpa using this⟩)) (fun b hb'=>?_),hok,?_,?_,?_,?_,?_,?_,?_,?_,by simp;omega⟩
 · rcases hb' with hb' | hb'
   · have:=hS b hb';omega
   · have:=hb'.1;omega
 · have:=hlow b (by simpa using hb')
   simpa using this
 · exact(World.cell?_of_block (hall (w.heap.size) (by omega) (by omega) (by omega))).trans h.b0
 · exact(World.cell?_of_block (hall (w.heap.size) (by omega) (by omega) (by omega))).trans h.b1
 · exact(World.cell?_of_block (hall (w.heap.size+1) (by omega) (by omega) (by omega))).trans h.r0
 · exact(World.frozen?_of_block (hall (w.heap.size+1) (by omega) (by omega) (by omega))).trans h.rf
 · exact World.cell?_setCell_same _ _ _ ((World.cell?_of_block (hblk (w.heap.size+3) (by omega) (by omega))).trans h.t0)
 · rw [World.frozen?_setCell];exact(World.frozen?_of_block (hblk (w.heap.size+3) (by omega) (by omega))).trans h.tf
 · exact h.case.keep (fun b hb'=>hall b (by omega) (by omega) (by omega))
 · have h1:=h.gr
   refine⟨?_,?_,?_,by simp;omega,fun b hb1 hb2=>(hall b (by omega) (by omega) (by omega)).trans (h1.block b hb1 hb2)⟩
   · exact hf.os.trans (hb.os.trans h1.os)
   · exact hf.tape.trans (hb.tape.trans h1.tape)
   · exact hf.output.trans (hb.output.trans h1.output)
end
def CntOk (cur:St) (t nn:Nat):Prop:=(∀ j,(cur.getD j []).length≤4)∧(cur.getD t []).length+nn≤4∧∀ j,t<j→cur.getD j []=[]
theorem CntOk.put {cur:St} {t nn:Nat} {P:List Row} (h:CntOk cur t (nn+1)) (ht:t<cur.length) (hP:P.length≤(cur.getD t []).length+1):CntOk (cur.set t P) t nn:=by
 have e1:(cur.set t P).getD t []=P:=by simp [List.getD,ht]
 have e2:∀ j,j≠t→(cur.set t P).getD j []=cur.getD j []:=fun j hj=>by simp [List.getD,List.getElem?_set_ne (Ne.symm hj)]
 refine⟨fun j=>?_,?_,fun j hj=>?_⟩
 · by_cases hj:j=t
   · rw [hj,e1];have:=h.2.1;omega
   · rw [e2 j hj];exact h.1 j
 · rw [e1];have:=h.2.1;omega
 · rw [e2 j (by omega)];exact h.2.2 j hj
theorem getD_nil (n j:Nat):(List.replicate n ([]:List Row)).getD j []=[]:=by
 by_cases h:j<n<;>simp [List.getD,h]
def StatePost (s:Sch) (m:Int) (S:Nat→Prop) (w:World) (g:Nat) (e:Ending) (w':World):Prop:=∃ (gt:Nat) (st:St),e=.returned (stAgg (some ⟨gt,0,none⟩) st.length st.length)∧StOk s m st∧(∀ j,(st.getD j []).length≤4)∧w.heap.size≤gt∧StC w' (fun b=>S b∨(gt<b∧b<w'.heap.size)) gt st∧CaseOk w' g∧w.grownBy w' (some g)
set_option maxHeartbeats 4000000 in
theorem state_any (g:Nat) (A0:Option Addr) (c0':Nat) (s:Sch) (m:Int) (S:Nat→Prop) (w:World) (hs:TabS w S A0 s.tabs) (hS:∀ b,S b→b<w.heap.size∧b≠g) (hgs:GenS s) (hm:modeOk m=true) (hc:CaseOk w g) :
  Calls Try.prog 22 #[.pointer (some ⟨g,0,none⟩),sAgg s.version A0 s.tabs.length c0',.int .i64 m] w (StatePost s m S w g):=by
 have hgl:=hc.lt
 have hsl:=hgs.len
 have HS:=Lib.hid hs
 have HSG:=Lib.hid hS
 have HGS:=Lib.hid hgs
 have HC:=Lib.hid hc
 have HM:=Lib.hid hm
 clear hs hgs hc hm
 have hmk:∀ w:World,(Instr.makeSlice 54 (.int .i64 (s.tabs.length:Int)) (.int .i64 (s.tabs.length:Int))).run Try.prog w=.ok (.slice (some ⟨w.heap.size,0,none⟩) s.tabs.length s.tabs.length) (w.alloc (.cells (nilCells s.tabs.length).toArray 49)):=fun w=>run_make_rows s.tabs.length (by omega) w
 go_enter Try.func22,Try.ntmps22
 go_wp2_with fail
 clear hmk
 rw [show w.heap.size+1+1+1=w.heap.size+3 from rfl,show w.heap.size+1+1=w.heap.size+2 from rfl]
 obtain⟨W,hW⟩:∃ W,(((w.alloc (.cells #[.int .i64 s.version,.slice A0 s.tabs.length c0'] 25)).alloc (.cells #[.slice none 0 0] 56)).alloc (.cells (nilCells s.tabs.length).toArray 49)).alloc (.cells #[.slice (some ⟨w.heap.size+2,0,none⟩) s.tabs.length s.tabs.length] 56)=W:=⟨_,rfl⟩
 have HI0:=Lib.hid (show StI w W g S s A0 c0' m (List.replicate s.tabs.length []) from by
  subst hW
  have hb:Below w.heap.size w ((((w.alloc (.cells #[.int .i64 s.version,.slice A0 s.tabs.length c0'] 25)).alloc (.cells #[.slice none 0 0] 56)).alloc (.cells (nilCells s.tabs.length).toArray 49)).alloc (.cells #[.slice (some ⟨w.heap.size+2,0,none⟩) s.tabs.length s.tabs.length] 56)):=((((Below.refl w.heap.size w).alloc (Nat.le_refl _) _).alloc (by simp) _).alloc (by simp;omega) _).alloc (by simp;omega) _
  have hg:(((((w.alloc (.cells #[.int .i64 s.version,.slice A0 s.tabs.length c0'] 25)).alloc (.cells #[.slice none 0 0] 56)).alloc (.cells (nilCells s.tabs.length).toArray 49)).alloc (.cells #[.slice (some ⟨w.heap.size+2,0,none⟩) s.tabs.length s.tabs.length] 56))).heap[w.heap.size+2]?=some (.cells (nilCells s.tabs.length).toArray 49 (0,0)):=by
   refine(Below.heap_alloc _ _ _ (by simp)).trans ?_
   have:=heap_alloc_new ((w.alloc (.cells #[.int .i64 s.version,.slice A0 s.tabs.length c0'] 25)).alloc (.cells #[.slice none 0 0] 56)) (.cells (nilCells s.tabs.length).toArray 49)
   simpa using this
  exact⟨(StC.made hg).more (fun _ h=>h.elim) (fun b hb'=>by
   rcases hb' with hb' | hb'
   · have:=HSG.out b hb';simp;omega
   · exact⟨hb'.2,by have:=hb'.1;omega⟩),stOk_nil _ rfl,(cell_old (by simp<;>omega)).trans ((cell_old (by simp<;>omega)).trans ((cell_old (by simp)).trans (cell_new rfl rfl))),(cell_old (by simp<;>omega)).trans ((cell_old (by simp<;>omega)).trans ((cell_old (by simp)).trans (cell_new rfl rfl))),(cell_old (by simp<;>omega)).trans ((cell_old (by simp)).trans (cell_new (by simp) rfl)),(frozen_old (by simp<;>omega)).trans ((frozen_old (by simp)).trans (frozen_new (by simp))),cell_new (by simp) rfl,frozen_new (by simp),HC.out.keep (fun b hb'=>hb.block b (by omega)),(Fr.of_below (X:=fun b=>b=g) hb).grown,by simp⟩)
 rw [hW]
 clear hW HC
 go_loopw [19] (fun i wr=>∃ (t:Nat) (cur:St),t≤s.tabs.length∧i=.int .i64 t∧StI w wr g S s A0 c0' m cur∧(∀ j,(cur.getD j []).length≤4)∧∀ j,t≤j→cur.getD j []=[]) (fun i _=>s.tabs.length - (intOf i).toNat)
 case atStart=>exact⟨0,_,Nat.zero_le _,rfl,HI0.out,fun j=>by rw [getD_nil];simp,fun j _=>getD_nil _ _⟩
 case round =>
  obtain⟨t,cur,ht,rfl,hi,hc4,hcn⟩:=hrel
  have HI:=Lib.hid hi
  have HC4:=Lib.hid hc4
  have HCN:=Lib.hid hcn
  have hsz:=hi.sz
  clear hi hc4 hcn
  by_cases htl:t<s.tabs.length
  · go_wp2_with fail
    refine(int_any g 5 _ (by omega) HI.out.case).mono ?_
    rintro e w1 ⟨r,rfl,r0,r1,-,hcr,hgr,hsr⟩
    have hr5:=r1 (by omega)
    obtain⟨nn,rfl⟩:=Int.eq_ofNat_of_zero_le r0
    have HI1:=Lib.hid (HI.out.keep (fr_of hgr) hcr hgl HSG.out)
    clear hcr hgr hsr r1
    go_wp2_with fail
    go_loopw [9] (fun i wr=>∃ (nn:Nat) (cur:St),nn≤4∧i=.int .i64 nn∧StI w wr g S s A0 c0' m cur∧CntOk cur t nn) (fun i _=>(intOf i).toNat)
    case atStart=>exact⟨nn,cur,by omega,rfl,HI1.out,HC4.out,by rw [HCN.out t (Nat.le_refl _)];simp;omega,fun j hj=>HCN.out j (by omega)⟩
    case round =>
     clear HI HI1 HC4 HCN hsz
     obtain⟨nn,cur,hnn,rfl,hi,hcn⟩:=hrel
     have HI:=Lib.hid hi
     have HCN:=Lib.hid hcn
     have hsz:=hi.sz
     clear hi hcn
     rcases Nat.eq_zero_or_pos nn with hn0 | hn0
     · subst hn0
       go_wp2_with fail
       go_roundw
       case rel=>exact⟨t+1,cur,by omega,by go_num,HI.out,HCN.out.1,fun j hj=>HCN.out.2.2 j (by omega)⟩
       case measure=>(simp [intOf];try omega)
     · obtain⟨n1,rfl⟩:∃ n1,nn=n1+1:=⟨nn - 1,by omega⟩
       have hSw:∀ b,S b→b<w.heap.size:=fun b hb=>(HSG.out b hb).1
       have hsame:Same S w wr:=fun b hb=>HI.out.gr.block b (hSw b hb) (fun e=>(HSG.out b hb).2 (by injection e))
       have HTW:=Lib.hid (HS.out.keep hsame)
       have hSr:∀ b,S b→b<wr.heap.size:=fun b hb=>by have:=hSw b hb;omega
       obtain⟨bT,oT,rfl,hbT,A1,A2,A3,c1,c2,c3,hta⟩:=HTW.out.at_ htl
       have lT:bT<wr.heap.size:=hSr bT hbT
       have l0:w.heap.size<wr.heap.size:=by omega
       have hg0:¬ w.heap.size=g:=by omega
       have hgT:¬ bT=g:=(HSG.out bT hbT).2
       have u0:=HI.out.b0
       have u1:=HI.out.b1
       have u2:=hta.key
       have hkl:(kindsF s t).length≤1000000:=by have:=(HGS.out.kinds htl).2;omega
       have HFIT:=Lib.hid (fun (r:Row) (h:RowGen (s.tabs.getD t t0).key m (kindsF s t) r)=>rowGen_fits HGS.out HM.out htl h)
       clear hta hsame
       generalize (s.tabs.getD t t0).key=ky at u2 HFIT
       go_wp2_with fail
       refine hideQ (fun c a d v w h=>by cases d<;>exact h) (fun Q' HQ HP=>?_)
       refine regionT_until (fun w'=>w'.cell? ⟨w.heap.size,0,none⟩=some (.int .i64 s.version)∧w'.cell? ⟨w.heap.size,1,none⟩=some (.slice (some ⟨bT,oT,none⟩) s.tabs.length c0')∧w'.cell? ⟨bT,oT+t*5+2,none⟩=some (.int .i64 ky)) 13 13 (bA 13 0) (by kernel_rfl) (by kernel_rfl) (by kernel_rfl) ?_
       refine tk 0 28 (bA 13 1) _ rfl (by kernel_rfl) (by kernel_rfl) HP.out (by rfl) (fun w' hSw=>by (try dsimp only at hSw);go_simp;(try with_reducible rfl)) ⟨u0,u1,u2⟩ ?_
       simp only [psA,psB,psC]
       refine tk 1 29 (bA 13 3) _ rfl (by kernel_rfl) (by kernel_rfl) HP.out (by rfl) (fun w' hSw=>by (try dsimp only at hSw);go_simp;(try with_reducible rfl)) ⟨u0,u1,u2⟩ ?_
       simp only [psA,psB,psC]
       refine tk 2 30 (bA 13 7) _ rfl (by kernel_rfl) (by kernel_rfl) HP.out (by rfl) (fun w' hSw=>by (try dsimp only at hSw);go_simp;(try with_reducible rfl)) ⟨u0,u1,u2⟩ ?_
       simp only [psA,psB,psC]
       refine tk 4 32 (bA 13 23) _ rfl (by kernel_rfl) (by kernel_rfl) HP.out (by rfl) (fun w' hSw=>by (try dsimp only at hSw);go_simp;(try with_reducible rfl)) ⟨u0,u1,u2⟩ ?_
       simp only [psA,psB,psC]
       refine tk 5 33 (bA 13 55) _ rfl (by kernel_rfl) (by kernel_rfl) HP.out (by rfl) (fun w' hSw=>by (try dsimp only at hSw);go_simp;(try with_reducible rfl)) ⟨u0,u1,u2⟩ ?_
       simp only [psA,psB,psC]
       refine tk 6 34 (bA 13 119) _ rfl (by kernel_rfl) (by kernel_rfl) HP.out (by rfl) (fun w' hSw=>by (try dsimp only at hSw);go_simp;(try with_reducible rfl)) ⟨u0,u1,u2⟩ ?_
       simp only [psA,psB,psC]
       refine tk 7 35 (bA 13 247) _ rfl (by kernel_rfl) (by kernel_rfl) HP.out (by rfl) (fun w' hSw=>by (try dsimp only at hSw);go_simp;(try with_reducible rfl)) ⟨u0,u1,u2⟩ ?_
       simp only [psA,psB,psC]
       refine tk 8 36 (bA 13 503) _ rfl (by kernel_rfl) (by kernel_rfl) HP.out (by rfl) (fun w' hSw=>by (try dsimp only at hSw);go_simp;(try with_reducible rfl)) ⟨u0,u1,u2⟩ ?_
       simp only [psA,psB,psC]
       refine tk 9 37 (bA 13 1015) _ rfl (by kernel_rfl) (by kernel_rfl) HP.out (by rfl) (fun w' hSw=>by (try dsimp only at hSw);go_simp;(try with_reducible rfl)) ⟨u0,u1,u2⟩ ?_
       simp only [psA,psB,psC]
       refine tk 10 38 (bA 13 2039) _ rfl (by kernel_rfl) (by kernel_rfl) HP.out (by rfl) (fun w' hSw=>by (try dsimp only at hSw);go_simp;(try with_reducible rfl)) ⟨u0,u1,u2⟩ ?_
       simp only [psA,psB,psC]
       refine anyT_one (i:=3) (o:=⟨some 31,_,_,_,_,_⟩) (L':=(bA 13 2047)) rfl (by kernel_rfl) (by kernel_rfl) (fun K hK=>?_)
       have HK:=Lib.hid hK
       clear hK
       go_simp
       refine(rkinds_any (some ⟨bT,oT,none⟩) c0' s t S wr.drew (HTW.out.keep (fun _ _=>rfl)) hSr).mono ?_
       rintro e wk ⟨KA,kc,rfl,hks,hkc,-,hbk0⟩
       have hbk:Below wr.heap.size wr wk:=(Below.refl _ wr).drew.trans hbk0
       have hzk:=hbk.size
       have HKS:=Lib.hid hks
       clear hks hbk0
       have p0:=(hbk.cell (p:=⟨w.heap.size,0,none⟩) l0).trans u0
       have p1:=(hbk.cell (p:=⟨w.heap.size,1,none⟩) l0).trans u1
       have p2:=(hbk.cell (p:=⟨bT,oT+t*5+2,none⟩) lT).trans u2
       refine HK.out _ _ (fun _=>⟨p0,p1,p2⟩) ?_
       clear HK K
       try simp only [Act.put,psA,psB,psC]
       refine anyT_one (i:=11) (o:=⟨some 39,_,_,_,_,_⟩) (L':=(bA 13 4095)) rfl (by kernel_rfl) (by kernel_rfl) (fun K hK=>?_)
       have HK:=Lib.hid hK
       clear hK
       go_simp
       refine(row_any g KA kc (kindsF s t) ky m (New wr.drew wk) wk HKS.out (fun b hb=>⟨hb.2,by have h9:wr.heap.size≤b:=hb.1;omega⟩) hkl (HI.out.case.keep (fun b hb=>hbk.block b (by omega)))).mono ?_
       rintro e wq ⟨row,RA,rc,rfl,hgen,hrow,hcq,hgq⟩
       have hzq:=hgq.size
       have HGEN:=Lib.hid hgen
       have HROW:=Lib.hid (new_row hrow (rowGen_ok HGEN.out hkl) (Nat.le_refl _))
       have HFQ:=Lib.hid (show Fr (fun b=>b=g) wr wq from (Fr.of_below hbk).trans (fr_of hgq) (fun _ _ e=>e))
       have HIQ:=Lib.hid (HI.out.keep HFQ.out hcq hgl HSG.out)
       clear hgen hrow hcq
       have q0:=(HFQ.out.cell (b:=w.heap.size) l0 hg0).trans u0
       have q1:=(HFQ.out.cell (b:=w.heap.size) l0 hg0).trans u1
       have q2:=(HFQ.out.cell (b:=bT) lT hgT).trans u2
       clear hgq
       refine HK.out _ _ (fun _=>⟨q0,q1,q2⟩) ?_
       clear HK K
       try simp only [Act.put,psA,psB,psC]
       refine tk 12 10 (bA 13 8191) _ rfl (by kernel_rfl) (by kernel_rfl) HP.out (by rfl) (fun w' hSw=>by (try dsimp only at hSw);go_simp;(try with_reducible rfl)) ⟨q0,q1,q2⟩ ?_
       simp only [psA,psB,psC]
       refine anyU_done (by kernel_rfl) ?_
       rw [HQ.out]
       clear HQ HP Q'
       have HTQ:=Lib.hid (HTW.out.keep (HFQ.out.same (fun b hb=>⟨hSr b hb,(HSG.out b hb).2⟩)))
       have hsq:=HIQ.out.sz
       clear p0 p1 p2 u0 u1 u2 q2
       have u0:=q0
       have u1:=q1
       have u2:=HIQ.out.t0
       clear q0 q1
       have hqq:wr.heap.size≤wq.heap.size:=HFQ.out.size
       go_wp2_with fail
       refine hideQ (fun c a d v w h=>by cases d<;>exact h) (fun Q' HQ HP=>?_)
       refine regionT_until (fun w'=>w'.cell? ⟨w.heap.size,0,none⟩=some (.int .i64 s.version)∧w'.cell? ⟨w.heap.size,1,none⟩=some (.slice (some ⟨bT,oT,none⟩) s.tabs.length c0')∧w'.cell? ⟨w.heap.size+3,0,none⟩=some (.slice (some ⟨w.heap.size+2,0,none⟩) s.tabs.length s.tabs.length)) 9 10 (bA 10 0) (by kernel_rfl) (by kernel_rfl) (by kernel_rfl) ?_
       refine tk 0 40 (bA 10 1) _ rfl (by kernel_rfl) (by kernel_rfl) HP.out (by rfl) (fun w' hSw=>by (try dsimp only at hSw);go_simp;(try with_reducible rfl)) ⟨u0,u1,u2⟩ ?_
       simp only [psA,psB,psC]
       refine tk 1 41 (bA 10 3) _ rfl (by kernel_rfl) (by kernel_rfl) HP.out (by rfl) (fun w' hSw=>by (try dsimp only at hSw);go_simp;(try with_reducible rfl)) ⟨u0,u1,u2⟩ ?_
       simp only [psA,psB,psC]
       refine tk 2 42 (bA 10 7) _ rfl (by kernel_rfl) (by kernel_rfl) HP.out (by rfl) (fun w' hSw=>by (try dsimp only at hSw);go_simp;(try with_reducible rfl)) ⟨u0,u1,u2⟩ ?_
       simp only [psA,psB,psC]
       refine tk 3 43 (bA 10 15) _ rfl (by kernel_rfl) (by kernel_rfl) HP.out (by rfl) (fun w' hSw=>by (try dsimp only at hSw);go_simp;(try with_reducible rfl)) ⟨u0,u1,u2⟩ ?_
       simp only [psA,psB,psC]
       refine tk 4 44 (bA 10 31) _ rfl (by kernel_rfl) (by kernel_rfl) HP.out (by rfl) (fun w' hSw=>by (try dsimp only at hSw);go_simp;(try with_reducible rfl)) ⟨u0,u1,u2⟩ ?_
       simp only [psA,psB,psC]
       refine tk 5 45 (bA 10 63) _ rfl (by kernel_rfl) (by kernel_rfl) HP.out (by rfl) (fun w' hSw=>by (try dsimp only at hSw);go_simp;(try with_reducible rfl)) ⟨u0,u1,u2⟩ ?_
       simp only [psA,psB,psC]
       refine tk 7 47 (bA 10 191) _ rfl (by kernel_rfl) (by kernel_rfl) HP.out (by rfl) (fun w' hSw=>by (try dsimp only at hSw);go_simp;(try with_reducible rfl)) ⟨u0,u1,u2⟩ ?_
       simp only [psA,psB,psC]
       refine anyT_one (i:=6) (o:=⟨some 46,_,_,_,_,_⟩) (L':=(bA 10 255)) rfl (by kernel_rfl) (by kernel_rfl) (fun K hK=>?_)
       have HK:=Lib.hid hK
       clear hK
       go_simp
       refine(rkey_any (some ⟨bT,oT,none⟩) c0' s t RA rc row (fun b=>b<wq.heap.size) wq.drew ((HTQ.out.keep (w':=wq.drew) (fun _ _=>rfl)).more (fun b hb=>by have:=hSr b hb;show b<wq.heap.size;omega)) ((HROW.out.2.keep (w':=wq.drew) (fun _ _=>rfl)).more (fun b hb=>hb.2)) HROW.out.1 (fun b hb=>hb)).mono ?_
       rintro e wk ⟨KA2,kc2,rfl,hkey,hbk0⟩
       have hbk:Below wq.heap.size wq wk:=(Below.refl _ wq).drew.trans hbk0
       have hzk2:=hbk.size
       have HKEY:=Lib.hid (new_row hkey (rowOk_key (s:=s) (t:=t) (rowGen_ok HGEN.out hkl)) (show wq.heap.size≤_ from Nat.le_refl _))
       clear hkey hbk0
       have p0:=(hbk.cell (p:=⟨w.heap.size,0,none⟩) (by show _<_;simp;omega)).trans u0
       have p1:=(hbk.cell (p:=⟨w.heap.size,1,none⟩) (by show _<_;simp;omega)).trans u1
       have p2:=(hbk.cell (p:=⟨w.heap.size+3,0,none⟩) (by show _<_;simp;omega)).trans u2
       refine HK.out _ _ (fun _=>⟨p0,p1,p2⟩) ?_
       clear HK K
       try simp only [Act.put,psA,psB,psC]
       refine anyT_one (i:=8) (o:=⟨some 48,_,_,_,_,_⟩) (L':=(bA 10 511)) rfl (by kernel_rfl) (by kernel_rfl) (fun K hK=>?_)
       have HK:=Lib.hid hK
       clear hK
       go_simp
       have HST:=Lib.hid (HIQ.out.stc.below hbk)
       have hlen2:=HIQ.out.ok.1
       have hput:=rput_any (some ⟨bT,oT,none⟩) c0' s (w.heap.size+2) s.tabs.length cur t KA2 kc2 (keyF s t row) RA rc row (fun b=>S b∨(w.heap.size+4≤b∧b<wk.heap.size)) wk ((HTQ.out.keep (Same.of_below hbk (fun b hb=>by have:=hSr b hb;omega))).more (fun b hb=>.inl hb)) (HST.out.more (fun b hb=>hb.imp id (fun hb=>⟨hb.1,by have:=hb.2;omega⟩)) (fun b hb=>by rcases hb with hb | hb;{ have:=HSG.out b hb;omega };exact⟨hb.2,by have:=hb.1;omega⟩)) (HKEY.out.2.more (fun b hb=>.inr ⟨by have h9:wq.heap.size≤b:=hb.1;omega,hb.2⟩)) ((HROW.out.2.keep (Same.of_below hbk (fun b hb=>hb.2))).more (fun b hb=>.inr ⟨by have h9:_≤b:=hb.1;omega,by have:=hb.2;omega⟩)) htl (by omega) (by have:=HCN.out.1 t;omega) (by omega)
       rw [hlen2] at hput
       refine hput.mono ?_
       rintro e wp ⟨rfl,hstp,hfp⟩
       have HSTP:=Lib.hid hstp
       have HFP:=Lib.hid hfp
       have hzp:=hfp.size
       clear hput hstp hfp
       have q0:=(HFP.out.cell (b:=w.heap.size) (by omega) (by omega)).trans p0
       have q1:=(HFP.out.cell (b:=w.heap.size) (by omega) (by omega)).trans p1
       have q2:=(HFP.out.cell (b:=w.heap.size+3) (by omega) (by omega)).trans p2
       refine HK.out _ _ (fun _=>⟨q0,q1,q2⟩) ?_
       clear HK K
       try simp only [Act.put,psA,psB,psC]
       refine anyT_one (i:=9) (o:=⟨none,_,_,_,_,_⟩) (L':=(bA 10 1023)) rfl (by kernel_rfl) (by kernel_rfl) (fun K hK=>?_)
       have HK:=Lib.hid hK
       clear hK
       have tf:=(HFP.out.frozenF (b:=w.heap.size+3) (o:=0) (by omega) (by omega)).trans ((hbk.frozen (p:=⟨w.heap.size+3,0,none⟩) (by show _<_;simp;omega)).trans HIQ.out.tf)
       go_simp
       refine HK.out _ _ (fun h=>absurd rfl h) ?_
       clear HK K
       refine anyU_done (by kernel_rfl) ?_
       rw [HQ.out]
       clear HQ HP Q'
       have hok:=put_ok HIQ.out.ok (t:=t) (by rw [HIQ.out.ok.1];exact htl) (key:=keyF s t row) (row:=row) (fun _=>rfl) (fun _=>HFIT.out row HGEN.out)
       have HF:=Lib.hid (HIQ.out.put hgl HSG.out hbk HSTP.out HFP.out hok.1)
       go_wp2_with fail
       go_roundw
       case rel=>exact⟨n1,_,by omega,by go_num,HF.out,HCN.out.put (by rw [HIQ.out.ok.1];exact htl) (by rw [hok.2];exact putL_len _ _ _ _)⟩
       case measure=>(simp [intOf];try omega)
  · have r0:=HI.out.r0
    have rf:=HI.out.rf
    have t0':=HI.out.t0
    have hl3:w.heap.size+3<wr.heap.size:=by omega
    have hl1:w.heap.size+1<wr.heap.size:=by omega
    go_wp2_with fail
    have x0:(wr.setCell ⟨w.heap.size+1,0,none⟩ (.slice (some ⟨w.heap.size+2,0,none⟩) s.tabs.length s.tabs.length)).cell? ⟨w.heap.size+1,0,none⟩=some (.slice (some ⟨w.heap.size+2,0,none⟩) s.tabs.length s.tabs.length):=World.cell?_setCell_same _ _ _ r0
    have hne:∀ b,b≠w.heap.size+1→(wr.setCell ⟨w.heap.size+1,0,none⟩ (.slice (some ⟨w.heap.size+2,0,none⟩) s.tabs.length s.tabs.length)).heap[b]?=wr.heap[b]?:=fun b hb=>Below.heap_setCell wr ⟨w.heap.size+1,0,none⟩ _ b hb
    have hlen:=HI.out.ok.1
    have hst:=(HI.out.stc.keep (w':=wr.setCell ⟨w.heap.size+1,0,none⟩ (.slice (some ⟨w.heap.size+2,0,none⟩) s.tabs.length s.tabs.length)) (by simp) (fun b hb=>hne b (by rcases hb with hb | hb;{ have:=HSG.out b hb;omega };have:=hb.1;omega)) (hne (w.heap.size+2) (by omega))).more (S':=fun b=>S b∨(w.heap.size+2<b∧b<(wr.setCell ⟨w.heap.size+1,0,none⟩ (.slice (some ⟨w.heap.size+2,0,none⟩) s.tabs.length s.tabs.length)).heap.size)) (fun b hb=>hb.imp id (fun hb=>⟨by have:=hb.1;omega,by have:=hb.2;simpa using this⟩)) (fun b hb=>by
     rcases hb with hb | hb
     · have:=HSG.out b hb;simp;omega
     · exact⟨hb.2,by have:=hb.1;omega⟩)
    exact bodyPost_ret (v:=stAgg (some ⟨w.heap.size+2,0,none⟩) s.tabs.length s.tabs.length) (by simp [results,Try.results22,go_sem,x0]) rfl ⟨w.heap.size+2,cur,by rw [hlen],HI.out.ok,HC4.out,by omega,hst,case_set HI.out.case (by omega),grown_s HI.out.gr (by omega)⟩
end Go.Proofs.Ytkpjjfhfbpfjpaa

