import Derived.Test.YtkpjjfhfbpfjpaaKdd71e8
set_option linter.unusedVariables false
set_option linter.unusedSimpArgs false
set_option maxRecDepth 100000
namespace Go.Proofs.Ytkpjjfhfbpfjpaa
open Go.RowKit
theorem step_append_val {ops:Array Oper} {o:Oper} {a:Act} {K:Act→World→Prop} {Q:Exit→Act→World→Prop} {E:Prop} (hgd:o.guard=none) (s x:Operand) (t:TypeId)
  (ho:o.op=.call { callee:=.builtin .append,args:=#[s,x],argTypes:=#[t,t] }) (ht:Try.prog.underlying t=some (.slice 51))
  (w0:World) (B:Nat) (A:Option Addr) (n c:Nat) (hR:RowN w0 B n (.slice A n c)) (v:V) (hv:v.t.size≤9223372036854775807) (hn:n+1≤1000000) (hB:B≤w0.heap.size)
  (hs:a.eval s=.slice A n c) (c':Nat) (hx:a.eval x=.slice (some ⟨w0.heap.size,0,none⟩) 1 c')
  (h:∀ g cap w',Stp w0 w' B RVv→RowN w' B (n+1) (.slice (some ⟨g,0,none⟩) (n+1) cap)→Below B w0 w'→(∀ (b:Nat) (T:TypeId) (cur:Array Value),T≠51→w0.heap[b]?=some (.cells cur T (0,0))→w'.heap[b]?=some (.cells cur T (0,0)))→w0.heap.size<w'.heap.size→K (a.put o.dst (.slice (some ⟨g,0,none⟩) (n+1) cap)) w') :
  if Region.wanted o (yielded ops a.tmps)=true then Oper.wp Try.prog o a (w0.alloc (.cells #[.int .i64 v.k,.int .i64 v.i,.string v.t] 51)) K Q else E:=by
 rw [if_pos (by simp [Region.wanted,hgd])]
 exact wp_append_val s x t ho ht w0 B A n c hR v hv hn hB hs c' hx h
theorem step_append_row {ops:Array Oper} {o:Oper} {a:Act} {K:Act→World→Prop} {Q:Exit→Act→World→Prop} {E:Prop} (hgd:o.guard=none) (s x:Operand) (t:TypeId)
  (ho:o.op=.call { callee:=.builtin .append,args:=#[s,x],argTypes:=#[t,t] }) (ht:Try.prog.underlying t=some (.slice 27))
  (w0:World) (B lo N lo' N':Nat) (hlo:lo'≤lo) (hN:N≤N') (A:Option Addr) (n c:Nat) (hR:RowsH w0 B lo N n (.slice A n c)) (hn:n+1≤N') (hN6:N'≤1000000) (x0:Value) (hx0:RowH w0 B lo' N' x0) (hB:B≤w0.heap.size)
  (hs:a.eval s=.slice A n c) (c':Nat) (hx:a.eval x=.slice (some ⟨w0.heap.size,0,none⟩) 1 c')
  (h:∀ g cap w',(∀ k u,StH w0 B lo N k u→StH w' B lo' N' k u)→RowsH w' B lo' N' (n+1) (.slice (some ⟨g,0,none⟩) (n+1) cap)→Below B w0 w'→(∀ (b:Nat) (T:TypeId) (cur:Array Value),T≠27→w0.heap[b]?=some (.cells cur T (0,0))→w'.heap[b]?=some (.cells cur T (0,0)))→w0.heap.size<w'.heap.size→K (a.put o.dst (.slice (some ⟨g,0,none⟩) (n+1) cap)) w') :
  if Region.wanted o (yielded ops a.tmps)=true then Oper.wp Try.prog o a (w0.alloc (.cells #[x0] 27)) K Q else E:=by
 rw [if_pos (by simp [Region.wanted,hgd])]
 exact wp_append_row s x t ho ht w0 B lo N lo' N' hlo hN A n c hR hn hN6 x0 hx0 hB hs c' hx h
structure SpI (w wr:World) (g lo N n:Nat) (A:Option Addr) (c:Nat):Prop where
 st:StH wr (w.heap.size+2) lo N n (.slice A n c)
 b0:wr.cell? ⟨w.heap.size,0,none⟩=some (.slice A n c)
 f0:wr.frozen? ⟨w.heap.size,0,none⟩=false
 r0:wr.cell? ⟨w.heap.size+1,0,none⟩=some (.slice none 0 0)
 rf:wr.frozen? ⟨w.heap.size+1,0,none⟩=false
 case:CaseOk wr g
 gr:w.grownBy wr (some g)
 sz:w.heap.size+2≤wr.heap.size
def SpPost (n N:Nat) (w:World) (g:Nat) (e:Ending) (w':World):Prop:=∃ (x:St) (A:Option Addr) (c:Nat),e=.returned (stAgg A x.length c)∧x.length≤c∧x.length≤n∧(∀ l ∈ x,l.length≤N∧∀ r ∈ l,r.length≤N)∧StS w' (New w w') A x∧CaseOk w' g∧w.grownBy w' (some g)
section
variable {w wr wx:World} {g lo N n lo' N' n':Nat} {A A':Option Addr} {c c':Nat}
theorem SpI.calls (h:SpI w wr g lo N n A c) (hf:Fr (fun b=>b=g) wr wx) (hc:CaseOk wx g) (hgl:g<w.heap.size):SpI w wx g lo N n A c:=by
 have hz:=h.sz
 exact⟨h.st.vstp (stp_same fun b hb hl=>hf.block b hl (by omega)),(hf.cell (by omega) (by omega)).trans h.b0,(World.frozen?_of_block (hf.block w.heap.size (by omega) (by omega))).trans h.f0,(hf.cell (by omega) (by omega)).trans h.r0,(World.frozen?_of_block (hf.block (w.heap.size+1) (by omega) (by omega))).trans h.rf,hc,h.gr.trans ⟨hf.os,hf.tape,hf.output,hf.size,fun b hb hne=>hf.block b hb (fun e=>hne (by rw [e]))⟩,by have:=hf.size;omega⟩
theorem SpI.upd (h:SpI w wr g lo N n A c) (hb:Below (w.heap.size+2) wr wx) (hst:StH wx (w.heap.size+2) lo' N' n (.slice A n c)) (hgl:g<w.heap.size):SpI w wx g lo' N' n A c:=by
 have hz:=h.sz
 exact⟨hst,(hb.cell (p:=⟨w.heap.size,0,none⟩) (by show w.heap.size<_;omega)).trans h.b0,(hb.frozen (p:=⟨w.heap.size,0,none⟩) (by show w.heap.size<_;omega)).trans h.f0,(hb.cell (p:=⟨w.heap.size+1,0,none⟩) (by show w.heap.size+1<_;omega)).trans h.r0,(hb.frozen (p:=⟨w.heap.size+1,0,none⟩) (by show w.heap.size+1<_;omega)).trans h.rf,h.case.keep (fun b hb'=>hb.block b (by omega)),⟨hb.os.trans h.gr.os,hb.tape.trans h.gr.tape,hb.output.trans h.gr.output,by have:=hb.size;omega,fun b h1 h2=>(hb.block b (by omega)).trans (h.gr.block b h1 h2)⟩,by have:=hb.size;omega⟩
theorem SpI.box (h:SpI w wr g lo N n A c) (hb:Below (w.heap.size+2) wr wx) (hst:StH wx (w.heap.size+2) lo' N' n' (.slice A' n' c')) (hgl:g<w.heap.size):SpI w (wx.setCell ⟨w.heap.size,0,none⟩ (.slice A' n' c')) g lo' N' n' A' c':=by
 have hz:=h.sz
 have hzx:=hb.size
 have hne:∀ b,b≠w.heap.size→(wx.setCell ⟨w.heap.size,0,none⟩ (.slice A' n' c')).heap[b]?=wx.heap[b]?:=fun b hb'=>Below.heap_setCell wx ⟨w.heap.size,0,none⟩ _ b hb'
 refine⟨hst.vstp (stp_same fun b hb' _=>hne b (by omega)),World.cell?_setCell_same _ _ _ ((hb.cell (p:=⟨w.heap.size,0,none⟩) (by show w.heap.size<_;omega)).trans h.b0),?_,(World.cell?_of_block (hne (w.heap.size+1) (by omega))).trans ((hb.cell (p:=⟨w.heap.size+1,0,none⟩) (by show w.heap.size+1<_;omega)).trans h.r0),(World.frozen?_of_block (hne (w.heap.size+1) (by omega))).trans ((hb.frozen (p:=⟨w.heap.size+1,0,none⟩) (by show w.heap.size+1<_;omega)).trans h.rf),h.case.keep (fun b hb'=>(hne b (by omega)).trans (hb.block b (by omega))),?_,by simp;omega⟩
 · rw [World.frozen?_setCell];exact(hb.frozen (p:=⟨w.heap.size,0,none⟩) (by show w.heap.size<_;omega)).trans h.f0
 · have h1:=h.gr
   exact⟨hb.os.trans h1.os,hb.tape.trans h1.tape,hb.output.trans h1.output,by simp;omega,fun b hb1 hb2=>(hne b (by omega)).trans ((hb.block b (by omega)).trans (h1.block b hb1 hb2))⟩
theorem SpI.low (h:SpI w wr g lo N n A c):SpI w wr g 0 (N+1) n A c:=⟨h.st.mono (Nat.le_refl _) (Nat.zero_le _) (by omega),h.b0,h.f0,h.r0,h.rf,h.case,h.gr,h.sz⟩
theorem SpI.done {m:Nat} (h:SpI w wr g 0 N n A c) (hgl:g<w.heap.size) (hN:N≤1000000) (hn:n≤1000000) (hm:n≤m):SpPost m N w g (.returned (stAgg A n c)) (wr.setCell ⟨w.heap.size+1,0,none⟩ (.slice A n c)):=by
 have hz:=h.sz
 have hne:∀ b,b≠w.heap.size+1→(wr.setCell ⟨w.heap.size+1,0,none⟩ (.slice A n c)).heap[b]?=wr.heap[b]?:=fun b hb'=>Below.heap_setCell wr ⟨w.heap.size+1,0,none⟩ _ b hb'
 have hst:StH (wr.setCell ⟨w.heap.size+1,0,none⟩ (.slice A n c)) (w.heap.size+2) 0 N n (.slice A n c):=h.st.vstp (stp_same fun b hb' _=>hne b (by omega))
 obtain⟨x,A1,c1,e,h1,h2,h3,h4⟩:=hst.reads hN hn
 injection e with e1 e2 e3
 subst e1 e3
 refine⟨x,A,c,by rw [e2],h1,by omega,fun l hl=>⟨(h3 l hl).1,fun r hr=>((h3 l hl).2 r hr).2⟩,h4.more (fun b hb=>⟨by have:=hb.1;omega,hb.2⟩),h.case.keep (fun b hb'=>hne b (by omega)),?_⟩
 have h1:=h.gr
 exact⟨h1.os,h1.tape,h1.output,by simp;omega,fun b hb1 hb2=>(hne b (by omega)).trans (h1.block b hb1 hb2)⟩
end
set_option maxHeartbeats 8000000 in
theorem spoilState_any (g:Nat) (AS:Option Addr) (ca:Nat) (st:St) (N:Nat) (S:Nat→Prop) (w:World) (hst:StS w S AS st) (hS:∀ b,S b→b<w.heap.size) (hN:∀ l ∈ st,l.length≤N∧∀ r ∈ l,1≤r.length∧r.length≤N) (hN3:3≤N) (hN6:N≤1000) (hl6:st.length≤1000) (hc:CaseOk w g) :
  Calls Try.prog 29 #[.pointer (some ⟨g,0,none⟩),stAgg AS st.length ca] w (SpPost (st.length+1) (N+1) w g):=by
 have hgl:=hc.lt
 have HST:=Lib.hid hst
 have HN:=Lib.hid hN
 have HC:=Lib.hid hc
 clear hst hN hc
 have HB0:=Lib.hid (((Below.refl w.heap.size w).alloc (Nat.le_refl _) (.cells #[.slice AS st.length ca] 56)).alloc (by simp) (.cells #[.slice none 0 0] 56))
 go_enter Try.func29,Try.ntmps29
 go_wp2_with fail
 obtain⟨W0,hW0⟩:∃ W0,(w.alloc (.cells #[.slice AS st.length ca] 56)).alloc (.cells #[.slice none 0 0] 56)=W0:=⟨_,rfl⟩
 have hz0:W0.heap.size=w.heap.size+2:=by rw [←hW0];simp
 have b0:W0.cell? ⟨w.heap.size,0,none⟩=some (.slice AS st.length ca):=by rw [←hW0];exact(cell_old (by simp)).trans (cell_new rfl rfl)
 have f0:W0.frozen? ⟨w.heap.size,0,none⟩=false:=by rw [←hW0];exact(frozen_old (by simp)).trans (frozen_new rfl)
 have r0:W0.cell? ⟨w.heap.size+1,0,none⟩=some (.slice none 0 0):=by rw [←hW0];exact cell_new (by simp) rfl
 have rf:W0.frozen? ⟨w.heap.size+1,0,none⟩=false:=by rw [←hW0];exact frozen_new (by simp)
 rw [hW0] at HB0 ⊢
 clear hW0
 refine(rcopyT_any AS ca st 1 N S W0 (HST.out.keep (Same.of_below HB0.out hS)) (fun b hb=>by have:=hS b hb;omega) HN.out (by omega) (by omega)).mono ?_
 rintro e w1 ⟨A,c,rfl,hcc,hsth,hb1⟩
 have hz1:=hb1.size
 have HI0:=Lib.hid (show SpI w (w1.setCell ⟨w.heap.size,0,none⟩ (.slice A st.length c)) g 1 N st.length A c from by
  have hi0:SpI w W0 g 0 0 0 AS 0→True:=fun _=>trivial
  have hbw:=HB0.out.trans (hb1.mono (by omega))
  have hne:∀ b,b≠w.heap.size→(w1.setCell ⟨w.heap.size,0,none⟩ (.slice A st.length c)).heap[b]?=w1.heap[b]?:=fun b hb'=>Below.heap_setCell w1 ⟨w.heap.size,0,none⟩ _ b hb'
  rw [hz0] at hsth
  refine⟨hsth.vstp (stp_same fun b hb' _=>hne b (by omega)),World.cell?_setCell_same _ _ _ ((hb1.cell (p:=⟨w.heap.size,0,none⟩) (by show w.heap.size<_;omega)).trans b0),?_,(World.cell?_of_block (hne (w.heap.size+1) (by omega))).trans ((hb1.cell (p:=⟨w.heap.size+1,0,none⟩) (by show w.heap.size+1<_;omega)).trans r0),(World.frozen?_of_block (hne (w.heap.size+1) (by omega))).trans ((hb1.frozen (p:=⟨w.heap.size+1,0,none⟩) (by show w.heap.size+1<_;omega)).trans rf),HC.out.keep (fun b hb'=>(hne b (by omega)).trans (hbw.block b (by omega))),⟨hbw.os,hbw.tape,hbw.output,by simp;omega,fun b hb1' _=>(hne b (by omega)).trans (hbw.block b hb1')⟩,by simp;omega⟩
  rw [World.frozen?_setCell];exact(hb1.frozen (p:=⟨w.heap.size,0,none⟩) (by show w.heap.size<_;omega)).trans f0)
 have b1:=(hb1.cell (p:=⟨w.heap.size,0,none⟩) (by show w.heap.size<_;omega)).trans b0
 have f1:=(hb1.frozen (p:=⟨w.heap.size,0,none⟩) (by show w.heap.size<_;omega)).trans f0
 have hlw1:w.heap.size<w1.heap.size:=by omega
 clear b0 f0 r0 rf hsth hb1 HC HB0
 obtain⟨n,hn⟩:∃ n,st.length=n:=⟨_,rfl⟩
 have b1':=b1
 rw [hn] at HI0 hl6 hcc b1' ⊢
 have x0:(w1.setCell ⟨w.heap.size,0,none⟩ (.slice A n c)).cell? ⟨w.heap.size,0,none⟩=some (.slice A n c):=World.cell?_setCell_same _ _ _ b1'
 have x1:(w1.setCell ⟨w.heap.size,0,none⟩ (.slice A n c)).frozen? ⟨w.heap.size,0,none⟩=false:=by rw [World.frozen?_setCell];exact f1
 have HNN:=Lib.hid hn
 clear hn b1 hz1 hz0 HST HN
 by_cases hz:n=0
 · have hd:((n:Int) == 0)=true:=by simp [hz]
   clear hz
   have hl1:w.heap.size<(w1.setCell ⟨w.heap.size,0,none⟩ (.slice A n c)).heap.size:=by simp;omega
   have b0:=HI0.out.b0
   have f0:=HI0.out.f0
   have r0:=HI0.out.r0
   have rf:=HI0.out.rf
   have hl0:w.heap.size<(w1.setCell ⟨w.heap.size,0,none⟩ (.slice A n c)).heap.size:=by have:=HI0.out.sz;omega
   go_wp2_with (at_builtin;refine wpList_append_list rfl (.tmp 19) (.tmp 20) 54 rfl Try.underlying54 _ (w.heap.size+2) 1 N A n c HI0.out.st (by omega) (.slice none 0 0) ⟨0,Nat.zero_le _,RowsH.nil_⟩ (by have:=HI0.out.sz;omega) rfl 1 (by rw [show (w1.setCell ⟨w.heap.size,0,none⟩ (.slice A n c)).heap.size=w1.heap.size by simp];rfl) ?_;intro g6 cap6 w6 hm6 hb6 hlt6;have MK6:=Lib.hid hm6;have HB6:=Lib.hid hb6;have hz6:=hb6.size;have b6:=(hb6.cell (p:=⟨w.heap.size,0,none⟩) (by show w.heap.size<_;omega)).trans b0;have f6:=(hb6.frozen (p:=⟨w.heap.size,0,none⟩) (by show w.heap.size<_;omega)).trans f0;have r6:=(hb6.cell (p:=⟨w.heap.size+1,0,none⟩) (by show w.heap.size+1<_;omega)).trans r0;have rf6:=(hb6.frozen (p:=⟨w.heap.size+1,0,none⟩) (by show w.heap.size+1<_;omega)).trans rf;clear hm6 hb6;have hk6:w.heap.size<w6.heap.size:=(by omega);have hk7:w.heap.size+1<w6.heap.size:=(by have:=HI0.out.sz;omega))
   have HI7:=Lib.hid ((HI0.out.box HB6.out MK6.out hgl).low)
   have x9:((w6.setCell ⟨w.heap.size,0,none⟩ (.slice (some ⟨g6,0,none⟩) (n+1) cap6)).setCell ⟨w.heap.size+1,0,none⟩ (.slice (some ⟨g6,0,none⟩) (n+1) cap6)).cell? ⟨w.heap.size+1,0,none⟩=some (.slice (some ⟨g6,0,none⟩) (n+1) cap6):=World.cell?_setCell_same _ _ _ HI7.out.r0
   exact bodyPost_ret (v:=stAgg (some ⟨g6,0,none⟩) (n+1) cap6) (by simp [results,Try.results29,go_sem,x9]) rfl (HI7.out.done hgl (by omega) (by omega) (by have:=HNN.out;omega))
 · have hd:((n:Int) == 0)=false:=by simp;omega
   go_wp2_with fail
   obtain⟨W1,hW1⟩:∃ W1,w1.setCell ⟨w.heap.size,0,none⟩ (.slice A n c)=W1:=⟨_,rfl⟩
   rw [hW1] at HI0 ⊢
   clear hW1 b1' f1 hlw1 x0 x1
   refine(bool_any g 6 _ (by omega) (by omega) HI0.out.case).mono ?_
   rintro e wa ⟨bb,rfl,hcb,hgb,hsb⟩
   have HI1:=Lib.hid (HI0.out.calls (fr_of hgb) hcb hgl)
   clear hcb hgb hsb HI0
   cases bb
   · have b0:=HI1.out.b0
     have hl0:w.heap.size<wa.heap.size:=by have:=HI1.out.sz;omega
     go_wp2_with fail
     refine(int_any g (n:Int) _ (by omega) HI1.out.case).mono ?_
     rintro e w2 ⟨ri,rfl,i0',i1',-,hc3,hg3,hs3⟩
     have hri:=i1' (by omega)
     obtain⟨i,rfl⟩:=Int.eq_ofNat_of_zero_le i0'
     have hin:i<n:=by omega
     have HI2:=Lib.hid (HI1.out.calls (fr_of hg3) hc3 hgl)
     clear i1' hc3 hg3 hs3 b0 hl0 HI1 hri i0'
     obtain⟨AS',cS',eS,hnc,hform⟩:=LsH.form HI2.out.st
     injection eS with e1 _ e3
     subst e1 e3
     obtain⟨gS,curS,rfl,hBS,hhS,hszS,hcm,hEl⟩:=hform (by omega)
     obtain⟨xl,hxl,m,hmN,hRH⟩:=hEl i hin
     obtain⟨A1,c1,rfl,hmc,hRf⟩:=LsH.form hRH
     have HhS:=Lib.hid hhS
     have HRH:=Lib.hid hRH
     have hgS:¬ gS=g:=by omega
     have b0:=HI2.out.b0
     have hl0:w.heap.size<w2.heap.size:=by have:=HI2.out.sz;omega
     have s0:w2.cell? ⟨gS,i,none⟩=some (.slice A1 m c1):=cell_of_arr hhS hxl
     have hlS:gS<w2.heap.size:=lt_of_heap hhS
     have hini:(i:Int)<(n:Int):=by omega
     have HRf:=Lib.hid hRf
     have HXL:=Lib.hid hxl
     clear hhS hform hEl hRH hRf hxl hnc hszS hcm
     by_cases hm0:m=0
     · have hd2:((m:Int) == 0)=true:=by simp [hm0]
       clear hm0
       go_wp2_with fail
       have u0:=HI2.out.b0
       refine hideQ (fun c a d v w h=>by cases d<;>exact h) (fun Q' HQ HP=>?_)
       refine regionT_until (fun w'=>w'.cell? ⟨w.heap.size,0,none⟩=some (.slice (some ⟨gS,0,none⟩) n c)) 9 10 (bA 10 0) (by kernel_rfl) (by kernel_rfl) (by kernel_rfl) ?_
       refine tk 0 37 (bA 10 1) _ rfl (by kernel_rfl) (by kernel_rfl) HP.out (by rfl) (fun w' hSw=>by (try dsimp only at hSw);go_simp;(try with_reducible rfl)) u0 ?_
       simp only [psA,psB,psC]
       refine tk 1 38 (bA 10 3) _ rfl (by kernel_rfl) (by kernel_rfl) HP.out (by rfl) (fun w' hSw=>by (try dsimp only at hSw);go_simp;(try with_reducible rfl)) u0 ?_
       simp only [psA,psB,psC]
       refine tk 2 39 (bA 10 7) _ rfl (by kernel_rfl) (by kernel_rfl) HP.out (by rfl) (fun w' hSw=>by (try dsimp only at hSw);go_simp;(try with_reducible rfl)) u0 ?_
       simp only [psA,psB,psC]
       refine tk 3 40 (bA 10 15) _ rfl (by kernel_rfl) (by kernel_rfl) HP.out (by rfl) (fun w' hSw=>by (try dsimp only at hSw);go_simp;(try with_reducible rfl)) u0 ?_
       simp only [psA,psB,psC]
       refine tk 4 41 (bA 10 31) _ rfl (by kernel_rfl) (by kernel_rfl) HP.out (by rfl) (fun w' hSw=>by (try dsimp only at hSw);go_simp;(try with_reducible rfl)) u0 ?_
       simp only [psA,psB,psC]
       refine anyT_one (i:=5) (o:=⟨some 42,_,_,_,_,_⟩) (L':=(bA 10 63)) rfl (by kernel_rfl) (by kernel_rfl) (fun K hK=>?_)
       have HK:=Lib.hid hK
       clear hK
       go_simp
       refine(int_any g 4 w2.drew (by omega) (HI2.out.case.keep (fun _ _=>rfl))).mono ?_
       rintro e w3 ⟨ri,rfl,i0',i1',-,hc3,hg3,hs3⟩
       have hri:=i1' (by omega)
       obtain⟨q,rfl⟩:=Int.eq_ofNat_of_zero_le i0'
       have HF3:=Lib.hid (show Fr (fun b=>b=g) w2 w3 from (Fr.refl _ w2).drew.trans (fr_of hg3) (fun _ _ e=>e))
       have HI3:=Lib.hid (HI2.out.calls HF3.out hc3 hgl)
       have hz3:w3.heap.size=w2.heap.size:=hs3
       clear i1' hc3 hg3 hs3
       have u0:=HI3.out.b0
       refine HK.out _ _ (fun _=>u0) ?_
       clear HK K
       try simp only [Act.put,psA,psB,psC]
       refine anyT_one (i:=6) (o:=⟨some 43,_,_,_,_,_⟩) (L':=(bA 10 127)) rfl (by kernel_rfl) (by kernel_rfl) (fun K hK=>?_)
       have HK:=Lib.hid hK
       clear hK
       go_simp
       refine(cells_any g q _ (by omega) HI3.out.case).mono ?_
       rintro e w4 ⟨CA,cc,rfl,hrow,hc4,hg4⟩
       have HF4:=Lib.hid (fr_of hg4)
       have HI4:=Lib.hid (HI3.out.calls HF4.out hc4 hgl)
       have HROW:=Lib.hid hrow
       have hz4:=hg4.size
       clear hrow hc4 hg4
       have u0:=HI4.out.b0
       refine HK.out _ _ (fun _=>u0) ?_
       clear HK K
       try simp only [Act.put,psA,psB,psC]
       refine anyT_one (i:=7) (o:=⟨some 44,_,_,_,_,_⟩) (L':=(bA 10 255)) rfl (by kernel_rfl) (by kernel_rfl) (fun K hK=>?_)
       have HK:=Lib.hid hK
       clear hK
       go_simp
       obtain⟨W5,hW5⟩:∃ W5,w4.alloc (.cells #[.slice CA q cc] 27)=W5:=⟨_,rfl⟩
       have hb5:Below w4.heap.size w4 W5:=by rw [←hW5];exact(Below.refl _ _).alloc (Nat.le_refl _) _
       have HI5:=Lib.hid (HI4.out.upd (hb5.mono (by have:=HI4.out.sz;omega)) (HI4.out.st.vstp (stp_below hb5 (Nat.le_refl _))) hgl)
       have HL5:=Lib.hid (show ListH W5 (w.heap.size+2) 0 (N+1) (.slice (some ⟨w4.heap.size,0,none⟩) 1 1) from ⟨1,by omega,#[.slice CA q cc],.inr ⟨w4.heap.size,1,rfl,by have:=HI4.out.sz;omega,by rw [←hW5];exact heap_alloc_new w4 _,Nat.le_refl _,by unfold maxLen;omega,rfl⟩,fun j hj=>(by obtain rfl:j=0:=(by omega);exact⟨_,rfl,q,Nat.zero_le _,(by omega),(HROW.out.mono (by have:=HI3.out.sz;omega) (fun _ _ h=>h)).stp (stp_below hb5 (Nat.le_refl _)) (fun _ _ j _ hr=>hr.1 rfl j)⟩)⟩)
       have HS5:=Lib.hid ((hb5.block gS (by have:=HF3.out.size;have:=HF4.out.size;have:=lt_of_heap HhS.out;omega)).trans ((HF4.out.block gS (by have:=HF3.out.size;have:=lt_of_heap HhS.out;omega) hgS).trans ((HF3.out.block gS (lt_of_heap HhS.out) hgS).trans HhS.out)))
       rw [hW5]
       clear hW5 hb5
       have u0:=HI5.out.b0
       refine HK.out _ _ (fun _=>u0) ?_
       clear HK K
       try simp only [Act.put,psA,psB,psC]
       refine tk 8 45 (bA 10 511) _ rfl (by kernel_rfl) (by kernel_rfl) HP.out (by rfl) (fun w' hSw=>by (try dsimp only at hSw);go_simp;(try with_reducible rfl)) u0 ?_
       simp only [psA,psB,psC]
       refine anyT_one (i:=9) (o:=⟨none,_,_,_,_,_⟩) (L':=(bA 10 1023)) rfl (by kernel_rfl) (by kernel_rfl) (fun K hK=>?_)
       have HK:=Lib.hid hK
       clear hK
       have s5:W5.cell? ⟨gS,i,none⟩=some (.slice A1 m c1):=cell_of_arr HS5.out HXL.out
       have sf:W5.frozen? ⟨gS,i,none⟩=false:=by simp [World.frozen?,HS5.out]
       have hl5:gS<W5.heap.size:=lt_of_heap HS5.out
       go_simp
       refine HK.out _ _ (fun h=>absurd rfl h) ?_
       clear HK K
       refine anyU_done (by kernel_rfl) ?_
       rw [HQ.out]
       clear HQ HP Q'
       obtain⟨W6,hW6⟩:∃ W6,W5.setCell ⟨gS,i,none⟩ (.slice (some ⟨w4.heap.size,0,none⟩) 1 1)=W6:=⟨_,rfl⟩
       have HI6:=Lib.hid (show SpI w W6 g 0 (N+1) n (some ⟨gS,0,none⟩) c by
        rw [←hW6]
        exact HI5.out.upd ((Below.refl _ _).setCell (by show w.heap.size+2≤gS;omega) _) (HI5.out.st.lstp (stp_list HS5.out HL5.out (Nat.zero_le _) (by omega))) hgl)
       rw [hW6]
       clear hW6 s5 sf
       have b0:=HI6.out.b0
       have r0:=HI6.out.r0
       have rf:=HI6.out.rf
       have hl0:w.heap.size<W6.heap.size:=by have:=HI6.out.sz;omega
       have hl1:w.heap.size+1<W6.heap.size:=by have:=HI6.out.sz;omega
       go_wp2_with fail
       have x0:(W6.setCell ⟨w.heap.size+1,0,none⟩ (.slice (some ⟨gS,0,none⟩) n c)).cell? ⟨w.heap.size+1,0,none⟩=some (.slice (some ⟨gS,0,none⟩) n c):=World.cell?_setCell_same _ _ _ r0
       exact bodyPost_ret (v:=stAgg (some ⟨gS,0,none⟩) n c) (by simp [results,Try.results29,go_sem,x0]) rfl (HI6.out.done hgl (by omega) (by omega) (by have:=HNN.out;omega))
     · have hd2:((m:Int) == 0)=false:=by simp;omega
       have hm1:0<m:=by omega
       clear hm0
       go_wp2_with fail
       refine(int_any g (m:Int) _ (by omega) HI2.out.case).mono ?_
       rintro e w3 ⟨ri,rfl,i0',i1',-,hc3,hg3,hs3⟩
       have hri:=i1' (by omega)
       obtain⟨k,rfl⟩:=Int.eq_ofNat_of_zero_le i0'
       have hkm:k<m:=by omega
       have HF3:=Lib.hid (fr_of hg3)
       have HI3:=Lib.hid (HI2.out.calls HF3.out hc3 hgl)
       clear i1' hc3 hg3 hs3 b0 hl0 s0 hlS hri i0'
       go_wp2_with fail
       refine(int_any g 5 _ (by omega) HI3.out.case).mono ?_
       rintro e w4 ⟨r5,rfl,i0',i1',-,hc4,hg4,hs4⟩
       have hr5:=i1' (by omega)
       have HF4:=Lib.hid (HF3.out.trans (fr_of hg4) (fun _ _ e=>e))
       have HI4:=Lib.hid (HI3.out.calls (fr_of hg4) hc4 hgl)
       have hz4:=HF4.out.size
       clear i1' hc4 hg4 hs4
       have hsame:∀ b,w.heap.size+2≤b→b<w2.heap.size→w4.heap[b]?=w2.heap[b]?:=fun b h1 h2=>HF4.out.block b h2 (by omega)
       have HS4:=Lib.hid ((hsame gS hBS (lt_of_heap HhS.out)).trans HhS.out)
       have hst4:Stp w2 w4 (w.heap.size+2) RVv:=stp_same hsame
       have HRH4:=Lib.hid (HRH.out.vstp hst4)
       obtain⟨gR,curR,rfl,hBR,hhR,hszR,hcmR,hEr⟩:=HRf.out hm1
       have HR4:=Lib.hid ((hsame gR hBR (lt_of_heap hhR)).trans hhR)
       have HEr:=Lib.hid (show ∀ j,j<m→RowAt w4 (w.heap.size+2) 1 N curR j from fun j hj=>(hEr j hj).vstp hst4)
       obtain⟨xr,hxr,q,hq1,hqN,hVH⟩:=HEr.out k hkm
       obtain⟨A2,c2,rfl,hqc,hVf⟩:=LsH.form hVH
       obtain⟨gV,curV,rfl,hBV,hhV,hszV,hcmV,hEv⟩:=hVf (by omega)
       have HVH:=Lib.hid hVH
       have HV4:=Lib.hid hhV
       have HEv:=Lib.hid hEv
       have HXR:=Lib.hid hxr
       have hgR:¬ gR=g:=by omega
       have hgV:¬ gV=g:=by omega
       have hkmi:(k:Int)<(m:Int):=by omega
       have hlR4:gR<w4.heap.size:=lt_of_heap HR4.out
       have t0:w4.cell? ⟨gR,k,none⟩=some (.slice (some ⟨gV,0,none⟩) q c2):=cell_of_arr HR4.out hxr
       clear hsame hst4 HRH HRf HhS hhR hEr hxr hVH hVf hhV hEv HF3 HI3 HI2 HF4 hszR hcmR
       have hc5:r5=0∨r5=1∨r5=2∨r5=3∨r5=4:=by omega
       clear hr5 i0'
       rcases hc5 with rfl | rfl | rfl | rfl | rfl
       · go_wp2_with fail
         refine hideQ (fun c a d v w h=>by cases d<;>exact h) (fun Q' HQ HP=>?_)
         refine regionT_until (fun w'=>w'.cell? ⟨gR,k,none⟩=some (.slice (some ⟨gV,0,none⟩) q c2)) 11 12 (bA 12 0) (by kernel_rfl) (by kernel_rfl) (by kernel_rfl) ?_
         refine tk 0 58 (bA 12 1) _ rfl (by kernel_rfl) (by kernel_rfl) HP.out (by rfl) (fun w' hSw=>by (try dsimp only at hSw);go_simp;(try with_reducible rfl)) t0 ?_
         simp only [psA,psB,psC]
         refine tk 1 59 (bA 12 3) _ rfl (by kernel_rfl) (by kernel_rfl) HP.out (by rfl) (fun w' hSw=>by (try dsimp only at hSw);go_simp;(try with_reducible rfl)) t0 ?_
         simp only [psA,psB,psC]
         refine tk 2 60 (bA 12 7) _ rfl (by kernel_rfl) (by kernel_rfl) HP.out (by rfl) (fun w' hSw=>by (try dsimp only at hSw);go_simp;(try with_reducible rfl)) t0 ?_
         simp only [psA,psB,psC]
         refine tk 3 61 (bA 12 15) _ rfl (by kernel_rfl) (by kernel_rfl) HP.out (by rfl) (fun w' hSw=>by (try dsimp only at hSw);go_simp;(try with_reducible rfl)) t0 ?_
         simp only [psA,psB,psC]
         refine tk 4 62 (bA 12 31) _ rfl (by kernel_rfl) (by kernel_rfl) HP.out (by rfl) (fun w' hSw=>by (try dsimp only at hSw);go_simp;(try with_reducible rfl)) t0 ?_
         simp only [psA,psB,psC]
         refine tk 5 63 (bA 12 63) _ rfl (by kernel_rfl) (by kernel_rfl) HP.out (by rfl) (fun w' hSw=>by (try dsimp only at hSw);go_simp;(try with_reducible rfl)) t0 ?_
         simp only [psA,psB,psC]
         refine tk 6 64 (bA 12 127) _ rfl (by kernel_rfl) (by kernel_rfl) HP.out (by rfl) (fun w' hSw=>by (try dsimp only at hSw);go_simp;(try with_reducible rfl)) t0 ?_
         simp only [psA,psB,psC]
         refine anyT_one (i:=7) (o:=⟨some 65,_,_,_,_,_⟩) (L':=(bA 12 255)) rfl (by kernel_rfl) (by kernel_rfl) (fun K hK=>?_)
         have HK:=Lib.hid hK
         clear hK
         go_simp
         refine(anyV_any g w4.drew (HI4.out.case.keep (fun _ _=>rfl))).mono ?_
         rintro e w5 ⟨v,rfl,hv,hc5,hg5⟩
         have HF5:=Lib.hid (show Fr (fun b=>b=g) w4 w5 from (Fr.refl _ w4).drew.trans (fr_of hg5) (fun _ _ e=>e))
         have HI5:=Lib.hid (HI4.out.calls HF5.out hc5 hgl)
         have HVs:=Lib.hid (any_size hv)
         have HR5:=Lib.hid ((HF5.out.block gR (lt_of_heap HR4.out) hgR).trans HR4.out)
         have HRW5:=Lib.hid (show RowN w5 (w.heap.size+2) q (.slice (some ⟨gV,0,none⟩) q c2) from HVH.out.stp (stp_same fun b h1 h2=>HF5.out.block b h2 (by omega)) (fun _ _ j _ hr=>hr.1 rfl j))
         obtain⟨vk,vi,vt⟩:=v
         clear hv hc5 hg5
         have t0:=cell_of_arr HR5.out HXR.out
         refine HK.out _ _ (fun _=>t0) ?_
         clear HK K
         try simp only [Act.put,psA,psB,psC]
         refine anyT_one (i:=8) (o:=⟨some 66,_,_,_,_,_⟩) (L':=(bA 12 511)) rfl (by kernel_rfl) (by kernel_rfl) (fun K hK=>?_)
         have HK:=Lib.hid hK
         clear hK
         go_simp
         have t1:(w5.alloc (.cells #[.int .i64 vk,.int .i64 vi,.string vt] 51)).cell? ⟨gR,k,none⟩=some (.slice (some ⟨gV,0,none⟩) q c2):=(cell_old (lt_of_heap HR5.out)).trans t0
         refine HK.out _ _ (fun _=>t1) ?_
         clear HK K
         try simp only [Act.put,psA,psB,psC]
         refine anyT_one (i:=9) (o:=⟨some 67,_,_,_,_,_⟩) (L':=(bA 12 1023)) rfl (by kernel_rfl) (by kernel_rfl) (fun K hK=>?_)
         refine step_append_val (by rfl) (.tmp 63) (.tmp 66) 27 (by rfl) Try.underlying27 w5 (w.heap.size+2) (some ⟨gV,0,none⟩) q c2 HRW5.out ⟨vk,vi,vt⟩ HVs.out (by omega) (by have:=HI5.out.sz;omega) (by rfl) 1 (by rfl) ?_
         intro g6 cap6 w6 hst6 hm6 hb6 hT6 hlt6
         have HR6:=Lib.hid (hT6 gR _ curR (by decide) HR5.out)
         have HS6:=Lib.hid hst6
         have HM6:=Lib.hid hm6
         have HB6:=Lib.hid hb6
         clear hst6 hm6 hb6 hT6
         have t2:=cell_of_arr HR6.out HXR.out
         refine hK _ _ (fun _=>t2) ?_
         clear hK K
         try simp only [Act.put,psA,psB,psC]
         refine tk 10 68 (bA 12 2047) _ rfl (by kernel_rfl) (by kernel_rfl) HP.out (by rfl) (fun w' hSw=>by (try dsimp only at hSw);go_simp;(try with_reducible rfl)) t2 ?_
         simp only [psA,psB,psC]
         refine anyT_one (i:=11) (o:=⟨none,_,_,_,_,_⟩) (L':=(bA 12 4095)) rfl (by kernel_rfl) (by kernel_rfl) (fun K hK=>?_)
         have HK:=Lib.hid hK
         clear hK
         have sf:w6.frozen? ⟨gR,k,none⟩=false:=by simp [World.frozen?,HR6.out]
         have hl6':gR<w6.heap.size:=lt_of_heap HR6.out
         go_simp
         refine HK.out _ _ (fun h=>absurd rfl h) ?_
         clear HK K
         refine anyU_done (by kernel_rfl) ?_
         rw [HQ.out]
         clear HQ HP Q'
         obtain⟨W6,hW6⟩:∃ W6,w6.setCell ⟨gR,k,none⟩ (.slice (some ⟨g6,0,none⟩) (q+1) cap6)=W6:=⟨_,rfl⟩
         have HI6:=Lib.hid (show SpI w W6 g 0 (N+1) n (some ⟨gS,0,none⟩) c by
          rw [←hW6]
          exact HI5.out.upd (HB6.out.setCell (by show w.heap.size+2≤gR;omega) _) ((HI5.out.st.vstp HS6.out).rstp (stp_row HR6.out ⟨q+1,Nat.zero_le _,by omega,HM6.out⟩ (Nat.zero_le _) (by omega)) (by omega)) hgl)
         rw [hW6]
         clear hW6 t0 t1 t2 sf
         have b0:=HI6.out.b0
         have r0:=HI6.out.r0
         have rf:=HI6.out.rf
         have hl0:w.heap.size<W6.heap.size:=by have:=HI6.out.sz;omega
         have hl1:w.heap.size+1<W6.heap.size:=by have:=HI6.out.sz;omega
         go_wp2_with fail
         have x0:(W6.setCell ⟨w.heap.size+1,0,none⟩ (.slice (some ⟨gS,0,none⟩) n c)).cell? ⟨w.heap.size+1,0,none⟩=some (.slice (some ⟨gS,0,none⟩) n c):=World.cell?_setCell_same _ _ _ r0
         exact bodyPost_ret (v:=stAgg (some ⟨gS,0,none⟩) n c) (by simp [results,Try.results29,go_sem,x0]) rfl (HI6.out.done hgl (by omega) (by omega) (by have:=HNN.out;omega))
       · go_wp2_with fail
         refine hideQ (fun c a d v w h=>by cases d<;>exact h) (fun Q' HQ HP=>?_)
         refine regionT_until (fun w'=>w'.cell? ⟨gR,k,none⟩=some (.slice (some ⟨gV,0,none⟩) q c2)) 14 15 (bA 15 0) (by kernel_rfl) (by kernel_rfl) (by kernel_rfl) ?_
         refine tk 0 71 (bA 15 1) _ rfl (by kernel_rfl) (by kernel_rfl) HP.out (by rfl) (fun w' hSw=>by (try dsimp only at hSw);go_simp;(try with_reducible rfl)) t0 ?_
         simp only [psA,psB,psC]
         refine tk 1 72 (bA 15 3) _ rfl (by kernel_rfl) (by kernel_rfl) HP.out (by rfl) (fun w' hSw=>by (try dsimp only at hSw);go_simp;(try with_reducible rfl)) t0 ?_
         simp only [psA,psB,psC]
         refine tk 2 73 (bA 15 7) _ rfl (by kernel_rfl) (by kernel_rfl) HP.out (by rfl) (fun w' hSw=>by (try dsimp only at hSw);go_simp;(try with_reducible rfl)) t0 ?_
         simp only [psA,psB,psC]
         refine tk 3 74 (bA 15 15) _ rfl (by kernel_rfl) (by kernel_rfl) HP.out (by rfl) (fun w' hSw=>by (try dsimp only at hSw);go_simp;(try with_reducible rfl)) t0 ?_
         simp only [psA,psB,psC]
         refine tk 4 75 (bA 15 31) _ rfl (by kernel_rfl) (by kernel_rfl) HP.out (by rfl) (fun w' hSw=>by (try dsimp only at hSw);go_simp;(try with_reducible rfl)) t0 ?_
         simp only [psA,psB,psC]
         refine tk 5 76 (bA 15 63) _ rfl (by kernel_rfl) (by kernel_rfl) HP.out (by rfl) (fun w' hSw=>by (try dsimp only at hSw);go_simp;(try with_reducible rfl)) t0 ?_
         simp only [psA,psB,psC]
         refine tk 6 77 (bA 15 127) _ rfl (by kernel_rfl) (by kernel_rfl) HP.out (by rfl) (fun w' hSw=>by (try dsimp only at hSw);go_simp;(try with_reducible rfl)) t0 ?_
         simp only [psA,psB,psC]
         refine tk 7 78 (bA 15 255) _ rfl (by kernel_rfl) (by kernel_rfl) HP.out (by rfl) (fun w' hSw=>by (try dsimp only at hSw);go_simp;(try with_reducible rfl)) t0 ?_
         simp only [psA,psB,psC]
         refine tk 8 79 (bA 15 511) _ rfl (by kernel_rfl) (by kernel_rfl) HP.out (by rfl) (fun w' hSw=>by (try dsimp only at hSw);go_simp;(try with_reducible rfl)) t0 ?_
         simp only [psA,psB,psC]
         refine tk 9 80 (bA 15 1023) _ rfl (by kernel_rfl) (by kernel_rfl) HP.out (by rfl) (fun w' hSw=>by (try dsimp only at hSw);go_simp;(try with_reducible rfl)) t0 ?_
         simp only [psA,psB,psC]
         refine tk 11 82 (bA 15 3071) _ rfl (by kernel_rfl) (by kernel_rfl) HP.out (by rfl) (fun w' hSw=>by (try dsimp only at hSw);go_simp;(try with_reducible rfl)) t0 ?_
         simp only [psA,psB,psC]
         refine anyT_one (i:=10) (o:=⟨some 81,_,_,_,_,_⟩) (L':=(bA 15 4095)) rfl (by kernel_rfl) (by kernel_rfl) (fun K hK=>?_)
         have HK:=Lib.hid hK
         clear hK
         go_simp
         refine(int_any g (q:Int) w4.drew (by omega) (HI4.out.case.keep (fun _ _=>rfl))).mono ?_
         rintro e w5 ⟨rj,rfl,j0',j1',-,hc5,hg5,hs5⟩
         have hrj:=j1' (by omega)
         obtain⟨jj,rfl⟩:=Int.eq_ofNat_of_zero_le j0'
         have HF5:=Lib.hid (show Fr (fun b=>b=g) w4 w5 from (Fr.refl _ w4).drew.trans (fr_of hg5) (fun _ _ e=>e))
         have HI5:=Lib.hid (HI4.out.calls HF5.out hc5 hgl)
         clear j1' hc5 hg5 hs5
         have t0:=(HF5.out.cell (b:=gR) (o:=k) hlR4 hgR).trans t0
         refine HK.out _ _ (fun _=>t0) ?_
         clear HK K
         try simp only [Act.put,psA,psB,psC]
         refine anyT_one (i:=12) (o:=⟨some 83,_,_,_,_,_⟩) (L':=(bA 15 8191)) rfl (by kernel_rfl) (by kernel_rfl) (fun K hK=>?_)
         have HK:=Lib.hid hK
         clear hK
         go_simp
         refine(anyV_any g _ HI5.out.case).mono ?_
         rintro e w6 ⟨v,rfl,hv,hc6,hg6⟩
         have HF6:=Lib.hid (HF5.out.trans (fr_of hg6) (fun _ _ e=>e))
         have HI6:=Lib.hid (HI5.out.calls (fr_of hg6) hc6 hgl)
         have HVs:=Lib.hid (any_size hv)
         have HV6:=Lib.hid ((HF6.out.block gV (lt_of_heap HV4.out) hgV).trans HV4.out)
         obtain⟨vk,vi,vt⟩:=v
         have t0:=((fr_of hg6).cell (b:=gR) (o:=k) (by have:=HF5.out.size;omega) hgR).trans t0
         clear hv hc6 hg6
         refine HK.out _ _ (fun _=>t0) ?_
         clear HK K
         try simp only [Act.put,psA,psB,psC]
         refine tk 13 84 (bA 15 16383) _ rfl (by kernel_rfl) (by kernel_rfl) HP.out (by rfl) (fun w' hSw=>by (try dsimp only at hSw);go_simp;(try with_reducible rfl)) t0 ?_
         simp only [psA,psB,psC]
         refine anyT_one (i:=14) (o:=⟨none,_,_,_,_,_⟩) (L':=(bA 15 32767)) rfl (by kernel_rfl) (by kernel_rfl) (fun K hK=>?_)
         have HK:=Lib.hid hK
         clear hK
         obtain⟨ka,kb,kt,hk1,hk2,hk3,_⟩:=HEv.out jj (by omega)
         have y0:w6.cell? ⟨gV,jj*3,none⟩=some (.int .i64 ka):=cell_of_arr HV6.out hk1
         have y1:w6.cell? ⟨gV,jj*3+1,none⟩=some (.int .i64 kb):=cell_of_arr HV6.out hk2
         have y2:w6.cell? ⟨gV,jj*3+2,none⟩=some (.string kt):=cell_of_arr HV6.out hk3
         have z0:∀ o,w6.frozen? ⟨gV,o,none⟩=false:=fun o=>by simp [World.frozen?,HV6.out]
         have z1:=z0 (jj*3)
         have z2:=z0 (jj*3+1)
         have z3:=z0 (jj*3+2)
         have hlV:gV<w6.heap.size:=lt_of_heap HV6.out
         clear z0 hk1 hk2 hk3
         go_simp
         refine HK.out _ _ (fun h=>absurd rfl h) ?_
         clear HK K
         refine anyU_done (by kernel_rfl) ?_
         rw [HQ.out]
         clear HQ HP Q'
         obtain⟨W6,hW6⟩:∃ W6,((w6.setCell ⟨gV,jj*3,none⟩ (.int .i64 vk)).setCell ⟨gV,jj*3+1,none⟩ (.int .i64 vi)).setCell ⟨gV,jj*3+2,none⟩ (.string vt)=W6:=⟨_,rfl⟩
         have HI7:=Lib.hid (show SpI w W6 g 0 (N+1) n (some ⟨gS,0,none⟩) c by
          rw [←hW6]
          exact(HI6.out.upd ((((Below.refl _ w6).setCell (by show w.heap.size+2≤gV;omega) _).setCell (by show w.heap.size+2≤gV;omega) _).setCell (by show w.heap.size+2≤gV;omega) _) (HI6.out.st.vstp (stp_val HV6.out (by omega) HVs.out)) hgl).low)
         rw [hW6]
         clear hW6 t0 y0 y1 y2 z1 z2 z3
         have b0:=HI7.out.b0
         have r0:=HI7.out.r0
         have rf:=HI7.out.rf
         have hl0:w.heap.size<W6.heap.size:=by have:=HI7.out.sz;omega
         have hl1:w.heap.size+1<W6.heap.size:=by have:=HI7.out.sz;omega
         go_wp2_with fail
         have x0:(W6.setCell ⟨w.heap.size+1,0,none⟩ (.slice (some ⟨gS,0,none⟩) n c)).cell? ⟨w.heap.size+1,0,none⟩=some (.slice (some ⟨gS,0,none⟩) n c):=World.cell?_setCell_same _ _ _ r0
         exact bodyPost_ret (v:=stAgg (some ⟨gS,0,none⟩) n c) (by simp [results,Try.results29,go_sem,x0]) rfl (HI7.out.done hgl (by omega) (by omega) (by have:=HNN.out;omega))
       · go_wp2_with fail
         have b0:=HI4.out.b0
         obtain⟨rr,RA,rc,er,hrc,hrl,hrs⟩:=(show RowH w4 (w.heap.size+2) 1 N (.slice (some ⟨gV,0,none⟩) q c2) from ⟨q,hq1,hqN,HVH.out⟩).reads (by omega)
         injection er with e1 e2 e3
         subst e1 e2 e3
         have HRS:=Lib.hid hrs
         have HRL:=Lib.hid hrl
         clear hrs hrl hrc
         refine hideQ (fun c a d v w h=>by cases d<;>exact h) (fun Q' HQ HP=>?_)
         refine regionT_until (fun w'=>w'.cell? ⟨w.heap.size,0,none⟩=some (.slice (some ⟨gS,0,none⟩) n c)) 12 13 (bA 13 0) (by kernel_rfl) (by kernel_rfl) (by kernel_rfl) ?_
         refine tk 0 87 (bA 13 1) _ rfl (by kernel_rfl) (by kernel_rfl) HP.out (by rfl) (fun w' hSw=>by (try dsimp only at hSw);go_simp;(try with_reducible rfl)) b0 ?_
         simp only [psA,psB,psC]
         refine tk 1 88 (bA 13 3) _ rfl (by kernel_rfl) (by kernel_rfl) HP.out (by rfl) (fun w' hSw=>by (try dsimp only at hSw);go_simp;(try with_reducible rfl)) b0 ?_
         simp only [psA,psB,psC]
         refine tk 2 89 (bA 13 7) _ rfl (by kernel_rfl) (by kernel_rfl) HP.out (by rfl) (fun w' hSw=>by (try dsimp only at hSw);go_simp;(try with_reducible rfl)) b0 ?_
         simp only [psA,psB,psC]
         refine tk 3 90 (bA 13 15) _ rfl (by kernel_rfl) (by kernel_rfl) HP.out (by rfl) (fun w' hSw=>by (try dsimp only at hSw);go_simp;(try with_reducible rfl)) b0 ?_
         simp only [psA,psB,psC]
         refine tk 4 91 (bA 13 31) _ rfl (by kernel_rfl) (by kernel_rfl) HP.out (by rfl) (fun w' hSw=>by (try dsimp only at hSw);go_simp;(try with_reducible rfl)) b0 ?_
         simp only [psA,psB,psC]
         refine tk 5 92 (bA 13 63) _ rfl (by kernel_rfl) (by kernel_rfl) HP.out (by rfl) (fun w' hSw=>by (try dsimp only at hSw);go_simp;(try with_reducible rfl)) b0 ?_
         simp only [psA,psB,psC]
         refine tk 6 93 (bA 13 127) _ rfl (by kernel_rfl) (by kernel_rfl) HP.out (by rfl) (fun w' hSw=>by (try dsimp only at hSw);go_simp;(try with_reducible rfl)) b0 ?_
         simp only [psA,psB,psC]
         refine anyT_one (i:=7) (o:=⟨some 94,_,_,_,_,_⟩) (L':=(bA 13 255)) rfl (by kernel_rfl) (by kernel_rfl) (fun K hK=>?_)
         have HK:=Lib.hid hK
         clear hK
         have t0':w4.drew.cell? ⟨gR,k,none⟩=some (.slice (some ⟨gV,0,none⟩) rr.length c2):=t0
         go_simp
         refine HK.out _ _ (fun _=>b0) ?_
         clear HK K t0'
         try simp only [Act.put,psA,psB,psC]
         refine anyT_one (i:=8) (o:=⟨some 95,_,_,_,_,_⟩) (L':=(bA 13 511)) rfl (by kernel_rfl) (by kernel_rfl) (fun K hK=>?_)
         have HK:=Lib.hid hK
         clear hK
         go_simp
         refine(rcopy_any (some ⟨gV,0,none⟩) c2 rr _ w4.drew (HRS.out.keep (w':=w4.drew) (fun _ _=>rfl))).mono ?_
         rintro e w5 ⟨KA,kc,rfl,hown,hb50⟩
         have hb5:Below w4.heap.size w4 w5:=(Below.refl _ w4).drew.trans hb50
         have HI5:=Lib.hid (HI4.out.upd (hb5.mono (by have:=HI4.out.sz;omega)) (HI4.out.st.vstp (stp_below hb5 (Nat.le_refl _))) hgl)
         have HRW5:=Lib.hid ((RowH.of_owns hown HRS.out.ok HRL.out.1 HRL.out.2).mono (show w.heap.size+2≤_ from HI4.out.sz) (Nat.le_refl _) (Nat.le_refl _))
         have HRH5:=Lib.hid (HRH4.out.vstp (stp_below hb5 (Nat.le_refl _)))
         have HS5:=Lib.hid ((hb5.block gS (lt_of_heap HS4.out)).trans HS4.out)
         have HR5:=Lib.hid ((hb5.block gR (lt_of_heap HR4.out)).trans HR4.out)
         clear hb50 hb5 hown
         have b0:=HI5.out.b0
         have t0:=cell_of_arr HR5.out HXR.out
         refine HK.out _ _ (fun _=>b0) ?_
         clear HK K
         try simp only [Act.put,psA,psB,psC]
         refine anyT_one (i:=9) (o:=⟨some 96,_,_,_,_,_⟩) (L':=(bA 13 1023)) rfl (by kernel_rfl) (by kernel_rfl) (fun K hK=>?_)
         have HK:=Lib.hid hK
         clear hK
         go_simp
         have t1:(w5.alloc (.cells #[.slice KA rr.length kc] 27)).cell? ⟨gR,k,none⟩=some (.slice (some ⟨gV,0,none⟩) rr.length c2):=(cell_old (lt_of_heap HR5.out)).trans t0
         have b1:(w5.alloc (.cells #[.slice KA rr.length kc] 27)).cell? ⟨w.heap.size,0,none⟩=some (.slice (some ⟨gS,0,none⟩) n c):=(cell_old (by have:=HI5.out.sz;omega)).trans b0
         refine HK.out _ _ (fun _=>b1) ?_
         clear HK K
         try simp only [Act.put,psA,psB,psC]
         refine anyT_one (i:=10) (o:=⟨some 97,_,_,_,_,_⟩) (L':=(bA 13 2047)) rfl (by kernel_rfl) (by kernel_rfl) (fun K hK=>?_)
         refine step_append_row (by rfl) (.tmp 90) (.tmp 96) 49 (by rfl) Try.underlying49 w5 (w.heap.size+2) 1 N 1 (N+1) (Nat.le_refl _) (by omega) (some ⟨gR,0,none⟩) m c1 HRH5.out (by omega) (by omega) (.slice KA rr.length kc) (HRW5.out.mono (Nat.le_refl _) (Nat.le_refl _) (by omega)) (by have:=HI5.out.sz;omega) (by rfl) 1 (by rfl) ?_
         intro g6 cap6 w6 hst6 hm6 hb6 hT6 hlt6
         have HS6:=Lib.hid (hT6 gS _ curS (by decide) HS5.out)
         have HI6:=Lib.hid (HI5.out.upd hb6 (hst6 _ _ HI5.out.st) hgl)
         have HM6:=Lib.hid hm6
         clear hst6 hm6 hb6 hT6 t0 t1 b0 b1
         have b2:=HI6.out.b0
         refine hK _ _ (fun _=>b2) ?_
         clear hK K
         try simp only [Act.put,psA,psB,psC]
         refine tk 11 98 (bA 13 4095) _ rfl (by kernel_rfl) (by kernel_rfl) HP.out (by rfl) (fun w' hSw=>by (try dsimp only at hSw);go_simp;(try with_reducible rfl)) b2 ?_
         simp only [psA,psB,psC]
         refine anyT_one (i:=12) (o:=⟨none,_,_,_,_,_⟩) (L':=(bA 13 8191)) rfl (by kernel_rfl) (by kernel_rfl) (fun K hK=>?_)
         have HK:=Lib.hid hK
         clear hK
         have s6:w6.cell? ⟨gS,i,none⟩=some (.slice (some ⟨gR,0,none⟩) m c1):=cell_of_arr HS6.out HXL.out
         have sf:w6.frozen? ⟨gS,i,none⟩=false:=by simp [World.frozen?,HS6.out]
         have hl6':gS<w6.heap.size:=lt_of_heap HS6.out
         go_simp
         refine HK.out _ _ (fun h=>absurd rfl h) ?_
         clear HK K
         refine anyU_done (by kernel_rfl) ?_
         rw [HQ.out]
         clear HQ HP Q'
         obtain⟨W6,hW6⟩:∃ W6,w6.setCell ⟨gS,i,none⟩ (.slice (some ⟨g6,0,none⟩) (m+1) cap6)=W6:=⟨_,rfl⟩
         have HI7:=Lib.hid (show SpI w W6 g 0 (N+1) n (some ⟨gS,0,none⟩) c by
          rw [←hW6]
          exact HI6.out.upd ((Below.refl _ w6).setCell (by show w.heap.size+2≤gS;omega) _) (HI6.out.st.lstp (stp_list HS6.out ⟨m+1,by omega,HM6.out.mono (Nat.le_refl _) (Nat.zero_le _) (Nat.le_refl _)⟩ (Nat.zero_le _) (Nat.le_refl _))) hgl)
         rw [hW6]
         clear hW6 b2 s6 sf
         have b0:=HI7.out.b0
         have r0:=HI7.out.r0
         have rf:=HI7.out.rf
         have hl0:w.heap.size<W6.heap.size:=by have:=HI7.out.sz;omega
         have hl1:w.heap.size+1<W6.heap.size:=by have:=HI7.out.sz;omega
         go_wp2_with fail
         have x0:(W6.setCell ⟨w.heap.size+1,0,none⟩ (.slice (some ⟨gS,0,none⟩) n c)).cell? ⟨w.heap.size+1,0,none⟩=some (.slice (some ⟨gS,0,none⟩) n c):=World.cell?_setCell_same _ _ _ r0
         exact bodyPost_ret (v:=stAgg (some ⟨gS,0,none⟩) n c) (by simp [results,Try.results29,go_sem,x0]) rfl (HI7.out.done hgl (by omega) (by omega) (by have:=HNN.out;omega))
       · go_wp2_with fail
         have HI4d:=Lib.hid (show SpI w w4.drew g 1 N n (some ⟨gS,0,none⟩) c from ⟨HI4.out.st,HI4.out.b0,HI4.out.f0,HI4.out.r0,HI4.out.rf,HI4.out.case,⟨HI4.out.gr.os,HI4.out.gr.tape,HI4.out.gr.output,HI4.out.gr.size,HI4.out.gr.block⟩,HI4.out.sz⟩)
         have HR4d:=Lib.hid (show w4.drew.heap[gR]?=some (.cells curR 27 (0,0)) from HR4.out)
         obtain⟨xa,hxa,hRa⟩:=HEr.out 0 hm1
         obtain⟨xz,hxz,hRz⟩:=HEr.out (m - 1) (by omega)
         obtain⟨Aa,ka,xca,rfl,-,-,-⟩:=hRa.slice
         obtain⟨Az,kz,xcz,rfl,-,-,-⟩:=hRz.slice
         have HRa:=Lib.hid (show RowH w4.drew (w.heap.size+2) 1 N (.slice Aa ka xca) from hRa)
         have HRz:=Lib.hid (show RowH w4.drew (w.heap.size+2) 1 N (.slice Az kz xcz) from hRz)
         have ca:w4.drew.cell? ⟨gR,0,none⟩=some (.slice Aa ka xca):=cell_of_arr HR4.out hxa
         have cz:w4.drew.cell? ⟨gR,m - 1,none⟩=some (.slice Az kz xcz):=cell_of_arr HR4.out hxz
         have hmi0:(0:Int)<(m:Int):=by omega
         have hmi1:((m - 1:Nat):Int)<(m:Int):=by omega
         have fa:∀ o,w4.drew.frozen? ⟨gR,o,none⟩=false:=fun o=>by show w4.frozen? ⟨gR,o,none⟩=false;simp [World.frozen?,HR4.out]
         have f0':=fa 0
         have f1':=fa (m - 1)
         have hlR4':gR<w4.drew.heap.size:=hlR4
         have HW1:=Lib.hid (stp_row (lo:=1) (N:=N) HR4d.out (k:=0) (v:=.slice Az kz xcz) HRz.out (Nat.le_refl _) (Nat.le_refl _))
         have HI5:=Lib.hid (HI4d.out.upd ((Below.refl _ w4.drew).setCell (p:=⟨gR,0,none⟩) (by show w.heap.size+2≤gR;omega) (.slice Az kz xcz)) (HI4d.out.st.rstp HW1.out (Nat.le_refl _)) hgl)
         obtain⟨cur5,h51,h52,h53,h54⟩:=setCell_arr (k:=0) (v:=.slice Az kz xcz) HR4d.out
         have HI6:=Lib.hid (HI5.out.upd ((Below.refl _ _).setCell (p:=⟨gR,m - 1,none⟩) (by show w.heap.size+2≤gR;omega) (.slice Aa ka xca)) (HI5.out.st.rstp (stp_row (lo:=1) (N:=N) (k:=m - 1) h51 (HRa.out.rstp HW1.out) (Nat.le_refl _) (Nat.le_refl _)) (Nat.le_refl _)) hgl)
         have f1q:w4.frozen? ⟨gR,m - 1,none⟩=false:=f1'
         have hsz5:m - 1<cur5.size:=by rw [h52];exact(Array.getElem?_eq_some_iff.1 hxz).1
         have ccx:(w4.setCell ⟨gR,0,none⟩ (.slice Az kz xcz)).cell? ⟨gR,m - 1,none⟩=some cur5[m - 1]:=cell_of_arr (w:=w4.setCell ⟨gR,0,none⟩ (.slice Az kz xcz)) h51 (by simp [hsz5])
         generalize cur5[m - 1]=cx5 at ccx
         clear fa hRa hRz h51 h52 h53 h54 hxa hxz hsz5
         refine hideQ (fun c a d v w h=>by cases d<;>exact h) (fun Q' HQ HP=>?_)
         refine regionT_until (fun _=>True) 18 18 (bA 18 0) (by kernel_rfl) (by kernel_rfl) (by kernel_rfl) ?_
         refine tk 0 101 (bA 18 1) _ rfl (by kernel_rfl) (by kernel_rfl) HP.out (by rfl) (fun w' hSw=>by (try dsimp only at hSw);go_simp;(try with_reducible rfl)) trivial ?_
         simp only [psA,psB,psC]
         refine tk 1 102 (bA 18 3) _ rfl (by kernel_rfl) (by kernel_rfl) HP.out (by rfl) (fun w' hSw=>by (try dsimp only at hSw);go_simp;(try with_reducible rfl)) trivial ?_
         simp only [psA,psB,psC]
         refine tk 2 103 (bA 18 7) _ rfl (by kernel_rfl) (by kernel_rfl) HP.out (by rfl) (fun w' hSw=>by (try dsimp only at hSw);go_simp;(try with_reducible rfl)) trivial ?_
         simp only [psA,psB,psC]
         refine tk 3 104 (bA 18 15) _ rfl (by kernel_rfl) (by kernel_rfl) HP.out (by rfl) (fun w' hSw=>by (try dsimp only at hSw);go_simp;(try with_reducible rfl)) trivial ?_
         simp only [psA,psB,psC]
         refine anyT_take (i:=4) (oi:=⟨some 105,_,_,_,_,_⟩) (v:=.int .i64 ((m - 1:Nat):Int)) (L':=(bA 18 31)) rfl rfl (by kernel_rfl) (by kernel_rfl) (by kernel_rfl) (by kernel_rfl) (by kernel_rfl) HP.out (Or.inl ⟨by rfl,?_⟩) trivial ?_
         · intro w' hSw
           go_simp
           (try (rw [show ((m:Int) - 1)=((m - 1:Nat):Int) by omega]))
           (try (rw [IntKind.wrap_i64];omega))
         simp only [psA,psB,psC]
         refine tk 5 106 (bA 18 63) _ rfl (by kernel_rfl) (by kernel_rfl) HP.out (by rfl) (fun w' hSw=>by (try dsimp only at hSw);go_simp;(try with_reducible rfl)) trivial ?_
         simp only [psA,psB,psC]
         refine tk 6 107 (bA 18 127) _ rfl (by kernel_rfl) (by kernel_rfl) HP.out (by rfl) (fun w' hSw=>by (try dsimp only at hSw);go_simp;(try with_reducible rfl)) trivial ?_
         simp only [psA,psB,psC]
         refine tk 7 108 (bA 18 255) _ rfl (by kernel_rfl) (by kernel_rfl) HP.out (by rfl) (fun w' hSw=>by (try dsimp only at hSw);go_simp;(try with_reducible rfl)) trivial ?_
         simp only [psA,psB,psC]
         refine anyT_take (i:=8) (oi:=⟨some 109,_,_,_,_,_⟩) (v:=.int .i64 ((m - 1:Nat):Int)) (L':=(bA 18 511)) rfl rfl (by kernel_rfl) (by kernel_rfl) (by kernel_rfl) (by kernel_rfl) (by kernel_rfl) HP.out (Or.inl ⟨by rfl,?_⟩) trivial ?_
         · intro w' hSw
           go_simp
           (try (rw [show ((m:Int) - 1)=((m - 1:Nat):Int) by omega]))
           (try (rw [IntKind.wrap_i64];omega))
         simp only [psA,psB,psC]
         refine tk 9 110 (bA 18 1023) _ rfl (by kernel_rfl) (by kernel_rfl) HP.out (by rfl) (fun w' hSw=>by (try dsimp only at hSw);go_simp;(try with_reducible rfl)) trivial ?_
         simp only [psA,psB,psC]
         refine tk 11 112 (bA 18 3071) _ rfl (by kernel_rfl) (by kernel_rfl) HP.out (by rfl) (fun w' hSw=>by (try dsimp only at hSw);go_simp;(try with_reducible rfl)) trivial ?_
         simp only [psA,psB,psC]
         refine tk 12 113 (bA 18 7167) _ rfl (by kernel_rfl) (by kernel_rfl) HP.out (by rfl) (fun w' hSw=>by (try dsimp only at hSw);go_simp;(try with_reducible rfl)) trivial ?_
         simp only [psA,psB,psC]
         refine anyT_two (i:=10) (j:=13) (oi:=⟨some 111,_,_,_,_,_⟩) (oj:=⟨some 114,_,_,_,_,_⟩) (Li:=(bA 18 8191)) (Lj:=(bA 18 15359)) rfl rfl (by kernel_rfl) (by kernel_rfl) (by kernel_rfl) (fun K hK=>?_) (fun K hK=>?_)
         · skip
           have HK:=Lib.hid hK
           clear hK
           go_simp
           refine HK.out _ _ (fun _=>trivial) ?_
           clear HK K
           try simp only [Act.put,psA,psB,psC]
           refine anyT_one (i:=13) (o:=⟨some 114,_,_,_,_,_⟩) (L':=(bA 18 16383)) rfl (by kernel_rfl) (by kernel_rfl) (fun K hK=>?_)
           have HK:=Lib.hid hK
           clear hK
           go_simp
           refine HK.out _ _ (fun _=>trivial) ?_
           clear HK K
           try simp only [Act.put,psA,psB,psC]
           refine tk 14 115 (bA 18 32767) _ rfl (by kernel_rfl) (by kernel_rfl) HP.out (by rfl) (fun w' hSw=>by (try dsimp only at hSw);go_simp;(try with_reducible rfl)) trivial ?_
           simp only [psA,psB,psC]
           refine anyT_one (i:=15) (o:=⟨none,_,_,_,_,_⟩) (L':=(bA 18 65535)) rfl (by kernel_rfl) (by kernel_rfl) (fun K hK=>?_)
           have HK:=Lib.hid hK
           clear hK
           have cz':(w4.drew.setCell ⟨gR,0,none⟩ (.slice Az kz xcz)).frozen? ⟨gR,m - 1,none⟩=false:=by rw [World.frozen?_setCell];exact f1'
           go_simp
           refine HK.out _ _ (fun _=>trivial) ?_
           clear HK K
           try simp only [Act.put,psA,psB,psC]
           refine tk 16 116 (bA 18 131071) _ rfl (by kernel_rfl) (by kernel_rfl) HP.out (by rfl) (fun w' hSw=>by (try dsimp only at hSw);go_simp;(try with_reducible rfl)) trivial ?_
           simp only [psA,psB,psC]
           refine anyT_one (i:=17) (o:=⟨none,_,_,_,_,_⟩) (L':=(bA 18 262143)) rfl (by kernel_rfl) (by kernel_rfl) (fun K hK=>?_)
           have HK:=Lib.hid hK
           clear hK
           have cz':(w4.drew.setCell ⟨gR,0,none⟩ (.slice Az kz xcz)).frozen? ⟨gR,m - 1,none⟩=false:=by rw [World.frozen?_setCell];exact f1'
           go_simp
           refine HK.out _ _ (fun _=>trivial) ?_
           clear HK K
           try simp only [Act.put,psA,psB,psC]
           refine anyU_done (by kernel_rfl) ?_
           rw [HQ.out]
           clear HQ HP Q'
           obtain⟨W6,hW6⟩:∃ W6,((w4.setCell ⟨gR,0,none⟩ (.slice Az kz xcz)).setCell ⟨gR,m - 1,none⟩ (.slice Aa ka xca)).drew=W6:=⟨_,rfl⟩
           have HI7:=Lib.hid (show SpI w W6 g 0 (N+1) n (some ⟨gS,0,none⟩) c by rw [←hW6];exact HI6.out.low)
           rw [hW6]
           clear hW6
           have b0:=HI7.out.b0
           have r0:=HI7.out.r0
           have rf:=HI7.out.rf
           have hl0:w.heap.size<W6.heap.size:=by have:=HI7.out.sz;omega
           have hl1:w.heap.size+1<W6.heap.size:=by have:=HI7.out.sz;omega
           go_wp2_with fail
           have x0:(W6.setCell ⟨w.heap.size+1,0,none⟩ (.slice (some ⟨gS,0,none⟩) n c)).cell? ⟨w.heap.size+1,0,none⟩=some (.slice (some ⟨gS,0,none⟩) n c):=World.cell?_setCell_same _ _ _ r0
           exact bodyPost_ret (v:=stAgg (some ⟨gS,0,none⟩) n c) (by simp [results,Try.results29,go_sem,x0]) rfl (HI7.out.done hgl (by omega) (by omega) (by have:=HNN.out;omega))
         · skip
           have HK:=Lib.hid hK
           clear hK
           go_simp
           refine HK.out _ _ (fun _=>trivial) ?_
           clear HK K
           try simp only [Act.put,psA,psB,psC]
           refine anyT_one (i:=10) (o:=⟨some 111,_,_,_,_,_⟩) (L':=(bA 18 16383)) rfl (by kernel_rfl) (by kernel_rfl) (fun K hK=>?_)
           have HK:=Lib.hid hK
           clear hK
           go_simp
           refine HK.out _ _ (fun _=>trivial) ?_
           clear HK K
           try simp only [Act.put,psA,psB,psC]
           refine tk 14 115 (bA 18 32767) _ rfl (by kernel_rfl) (by kernel_rfl) HP.out (by rfl) (fun w' hSw=>by (try dsimp only at hSw);go_simp;(try with_reducible rfl)) trivial ?_
           simp only [psA,psB,psC]
           refine anyT_one (i:=15) (o:=⟨none,_,_,_,_,_⟩) (L':=(bA 18 65535)) rfl (by kernel_rfl) (by kernel_rfl) (fun K hK=>?_)
           have HK:=Lib.hid hK
           clear hK
           have cz':(w4.drew.setCell ⟨gR,0,none⟩ (.slice Az kz xcz)).frozen? ⟨gR,m - 1,none⟩=false:=by rw [World.frozen?_setCell];exact f1'
           go_simp
           refine HK.out _ _ (fun _=>trivial) ?_
           clear HK K
           try simp only [Act.put,psA,psB,psC]
           refine tk 16 116 (bA 18 131071) _ rfl (by kernel_rfl) (by kernel_rfl) HP.out (by rfl) (fun w' hSw=>by (try dsimp only at hSw);go_simp;(try with_reducible rfl)) trivial ?_
           simp only [psA,psB,psC]
           refine anyT_one (i:=17) (o:=⟨none,_,_,_,_,_⟩) (L':=(bA 18 262143)) rfl (by kernel_rfl) (by kernel_rfl) (fun K hK=>?_)
           have HK:=Lib.hid hK
           clear hK
           have cz':(w4.drew.setCell ⟨gR,0,none⟩ (.slice Az kz xcz)).frozen? ⟨gR,m - 1,none⟩=false:=by rw [World.frozen?_setCell];exact f1'
           go_simp
           refine HK.out _ _ (fun _=>trivial) ?_
           clear HK K
           try simp only [Act.put,psA,psB,psC]
           refine anyU_done (by kernel_rfl) ?_
           rw [HQ.out]
           clear HQ HP Q'
           obtain⟨W6,hW6⟩:∃ W6,((w4.setCell ⟨gR,0,none⟩ (.slice Az kz xcz)).setCell ⟨gR,m - 1,none⟩ (.slice Aa ka xca)).drew=W6:=⟨_,rfl⟩
           have HI7:=Lib.hid (show SpI w W6 g 0 (N+1) n (some ⟨gS,0,none⟩) c by rw [←hW6];exact HI6.out.low)
           rw [hW6]
           clear hW6
           have b0:=HI7.out.b0
           have r0:=HI7.out.r0
           have rf:=HI7.out.rf
           have hl0:w.heap.size<W6.heap.size:=by have:=HI7.out.sz;omega
           have hl1:w.heap.size+1<W6.heap.size:=by have:=HI7.out.sz;omega
           go_wp2_with fail
           have x0:(W6.setCell ⟨w.heap.size+1,0,none⟩ (.slice (some ⟨gS,0,none⟩) n c)).cell? ⟨w.heap.size+1,0,none⟩=some (.slice (some ⟨gS,0,none⟩) n c):=World.cell?_setCell_same _ _ _ r0
           exact bodyPost_ret (v:=stAgg (some ⟨gS,0,none⟩) n c) (by simp [results,Try.results29,go_sem,x0]) rfl (HI7.out.done hgl (by omega) (by omega) (by have:=HNN.out;omega))
       · have b0:=HI4.out.b0
         have r0:=HI4.out.r0
         have rf:=HI4.out.rf
         have tf:w4.frozen? ⟨gR,k,none⟩=false:=by simp [World.frozen?,HR4.out]
         have hl0:w.heap.size<w4.heap.size:=by have:=HI4.out.sz;omega
         have hl1:w.heap.size+1<w4.heap.size:=by have:=HI4.out.sz;omega
         have hnR:¬ gR=w.heap.size:=by omega
         have hnR1:¬ gR=w.heap.size+1:=by omega
         go_wp2_with fail
         have HI7:=Lib.hid (show SpI w (w4.setCell ⟨gR,k,none⟩ (.slice none 0 0)) g 0 (N+1) n (some ⟨gS,0,none⟩) c from HI4.out.upd ((Below.refl _ w4).setCell (by show w.heap.size+2≤gR;omega) _) (HI4.out.st.rstp (stp_row HR4.out (RowH.nil_ (N+1)) (Nat.zero_le _) (by omega)) (by omega)) hgl)
         have x9:((w4.setCell ⟨gR,k,none⟩ (.slice none 0 0)).setCell ⟨w.heap.size+1,0,none⟩ (.slice (some ⟨gS,0,none⟩) n c)).cell? ⟨w.heap.size+1,0,none⟩=some (.slice (some ⟨gS,0,none⟩) n c):=World.cell?_setCell_same _ _ _ HI7.out.r0
         exact bodyPost_ret (v:=stAgg (some ⟨gS,0,none⟩) n c) (by simp [results,Try.results29,go_sem,x9]) rfl (HI7.out.done hgl (by omega) (by omega) (by have:=HNN.out;omega))
   · skip
     have b0:=HI1.out.b0
     have f0:=HI1.out.f0
     have r0:=HI1.out.r0
     have rf:=HI1.out.rf
     have hl0:w.heap.size<wa.heap.size:=by have:=HI1.out.sz;omega
     go_wp2_with (at_builtin;refine wpList_append_list rfl (.tmp 19) (.tmp 20) 54 rfl Try.underlying54 _ (w.heap.size+2) 1 N A n c HI1.out.st (by omega) (.slice none 0 0) ⟨0,Nat.zero_le _,RowsH.nil_⟩ (by have:=HI1.out.sz;omega) rfl 1 rfl ?_;intro g6 cap6 w6 hm6 hb6 hlt6;have MK6:=Lib.hid hm6;have HB6:=Lib.hid hb6;have hz6:=hb6.size;have b6:=(hb6.cell (p:=⟨w.heap.size,0,none⟩) (by show w.heap.size<_;omega)).trans b0;have f6:=(hb6.frozen (p:=⟨w.heap.size,0,none⟩) (by show w.heap.size<_;omega)).trans f0;have r6:=(hb6.cell (p:=⟨w.heap.size+1,0,none⟩) (by show w.heap.size+1<_;omega)).trans r0;have rf6:=(hb6.frozen (p:=⟨w.heap.size+1,0,none⟩) (by show w.heap.size+1<_;omega)).trans rf;clear hm6 hb6;have hk6:w.heap.size<w6.heap.size:=(by omega);have hk7:w.heap.size+1<w6.heap.size:=(by have:=HI1.out.sz;omega))
     have HI7:=Lib.hid ((HI1.out.box HB6.out MK6.out hgl).low)
     have x9:((w6.setCell ⟨w.heap.size,0,none⟩ (.slice (some ⟨g6,0,none⟩) (n+1) cap6)).setCell ⟨w.heap.size+1,0,none⟩ (.slice (some ⟨g6,0,none⟩) (n+1) cap6)).cell? ⟨w.heap.size+1,0,none⟩=some (.slice (some ⟨g6,0,none⟩) (n+1) cap6):=World.cell?_setCell_same _ _ _ HI7.out.r0
     exact bodyPost_ret (v:=stAgg (some ⟨g6,0,none⟩) (n+1) cap6) (by simp [results,Try.results29,go_sem,x9]) rfl (HI7.out.done hgl (by omega) (by omega) (by have:=HNN.out;omega))
end Go.Proofs.Ytkpjjfhfbpfjpaa

