import Derived.Test.YtkpjjfhfbpfjpaaGreatKdd71e8
import Derived.Test.YtkpjjfhfbpfjpaaGreatK402e36
import Derived.Test.YtkpjjfhfbpfjpaaGreatKfed508
import Derived.Test.YtkpjjfhfbpfjpaaGreatK879bd8
import Derived.Test.YtkpjjfhfbpfjpaaGreatKb0a16e
set_option linter.unusedVariables false
set_option linter.unusedSimpArgs false
set_option maxRecDepth 100000
set_option maxHeartbeats 8000000
namespace Go.Proofs.YtkpjjfhfbpfjpaaGreat
open Go.RowKit
theorem step_append_val {ops:Array Oper} {o:Oper} {a:Act} {K:Act→World→Prop} {Q:Exit→Act→World→Prop} {E:Prop} (hgd:o.guard=none) (s x:Operand) (t:TypeId)
  (ho:o.op=.call { callee:=.builtin .append,args:=#[s,x],argTypes:=#[t,t] }) (ht:Tryz.prog.underlying t=some (.slice 89))
  (w0:World) (B:Nat) (A:Option Addr) (n c:Nat) (hR:RowN w0 B n (.slice A n c)) (v:V) (hv:v.t.size≤9223372036854775807) (hn:n+1≤1000000) (hB:B≤w0.heap.size)
  (hs:a.eval s=.slice A n c) (c':Nat) (hx:a.eval x=.slice (some ⟨w0.heap.size,0,none⟩) 1 c')
  (h:∀ g cap w',Stp w0 w' B RVv→RowN w' B (n+1) (.slice (some ⟨g,0,none⟩) (n+1) cap)→Below B w0 w'→(∀ (b:Nat) (T:TypeId) (cur:Array Value),T≠89→w0.heap[b]?=some (.cells cur T (0,0))→w'.heap[b]?=some (.cells cur T (0,0)))→w0.heap.size<w'.heap.size→K (a.put o.dst (.slice (some ⟨g,0,none⟩) (n+1) cap)) w') :
  if Region.wanted o (yielded ops a.tmps)=true then Oper.wp Tryz.prog o a (w0.alloc (.cells #[.int .i64 v.k,.int .i64 v.i,.string v.t] 89)) K Q else E:=by
 rw [if_pos (by simp [Region.wanted,hgd])];exact ZdB s x t ho ht w0 B A n c hR v hv hn hB hs c' hx h
theorem step_append_row {ops:Array Oper} {o:Oper} {a:Act} {K:Act→World→Prop} {Q:Exit→Act→World→Prop} {E:Prop} (hgd:o.guard=none) (s x:Operand) (t:TypeId)
  (ho:o.op=.call { callee:=.builtin .append,args:=#[s,x],argTypes:=#[t,t] }) (ht:Tryz.prog.underlying t=some (.slice 42))
  (w0:World) (B lo N lo' N':Nat) (hlo:lo'≤lo) (hN:N≤N') (A:Option Addr) (n c:Nat) (hR:RowsH w0 B lo N n (.slice A n c)) (hn:n+1≤N') (hN6:N'≤1000000) (x0:Value) (hx0:RowH w0 B lo' N' x0) (hB:B≤w0.heap.size)
  (hs:a.eval s=.slice A n c) (c':Nat) (hx:a.eval x=.slice (some ⟨w0.heap.size,0,none⟩) 1 c')
  (h:∀ g cap w',(∀ k u,StH w0 B lo N k u→StH w' B lo' N' k u)→RowsH w' B lo' N' (n+1) (.slice (some ⟨g,0,none⟩) (n+1) cap)→Below B w0 w'→(∀ (b:Nat) (T:TypeId) (cur:Array Value),T≠42→w0.heap[b]?=some (.cells cur T (0,0))→w'.heap[b]?=some (.cells cur T (0,0)))→w0.heap.size<w'.heap.size→K (a.put o.dst (.slice (some ⟨g,0,none⟩) (n+1) cap)) w') :
  if Region.wanted o (yielded ops a.tmps)=true then Oper.wp Tryz.prog o a (w0.alloc (.cells #[x0] 42)) K Q else E:=by
 rw [if_pos (by simp [Region.wanted,hgd])];exact ZdC s x t ho ht w0 B lo N lo' N' hlo hN A n c hR hn hN6 x0 hx0 hB hs c' hx h
structure SpI (w wr:World) (g lo N n:Nat) (A:Option Addr) (c:Nat):Prop where
 st:StH wr (w.heap.size+2) lo N n (.slice A n c)
 b0:wr.cell? ⟨w.heap.size,0,none⟩=some (.slice A n c)
 f0:wr.frozen? ⟨w.heap.size,0,none⟩=false
 r0:wr.cell? ⟨w.heap.size+1,0,none⟩=some (.slice none 0 0)
 rf:wr.frozen? ⟨w.heap.size+1,0,none⟩=false
 case:CaseOk wr g
 gr:w.grownBy wr (some g)
 sz:w.heap.size+2≤wr.heap.size
def SpPost (n N:Nat) (w:World) (g:Nat) (e:Ending) (w':World):Prop:=∃ (x:St) (A:Option Addr) (c:Nat),e=.returned (ZbE A x.length c)∧x.length≤c∧x.length≤n∧(∀ l ∈ x,l.length≤N∧∀ r ∈ l,r.length≤N)∧StS w' (New w w') A x∧CaseOk w' g∧w.grownBy w' (some g)
section
variable {w wr wx:World} {g lo N n lo' N' n':Nat} {A A':Option Addr} {c c':Nat}
theorem SpI.calls (h:SpI w wr g lo N n A c) (hf:Fr (fun b=>b=g) wr wx) (hc:CaseOk wx g) (hgl:g<w.heap.size):SpI w wx g lo N n A c:=by
 have hz:=h.sz;exact⟨h.st.vstp (ZbW fun b hb hl=>hf.block b hl (by omega)),(hf.cell (by omega) (by omega)).trans h.b0,(World.frozen?_of_block (hf.block w.heap.size (by omega) (by omega))).trans h.f0,(hf.cell (by omega) (by omega)).trans h.r0,(World.frozen?_of_block (hf.block (w.heap.size+1) (by omega) (by omega))).trans h.rf,hc,h.gr.trans ⟨hf.os,hf.tape,hf.output,hf.size,fun b hb hne=>hf.block b hb (fun e=>hne (by rw [e]))⟩,by have:=hf.size;omega⟩
theorem SpI.upd (h:SpI w wr g lo N n A c) (hb:Below (w.heap.size+2) wr wx) (hst:StH wx (w.heap.size+2) lo' N' n (.slice A n c)) (hgl:g<w.heap.size):SpI w wx g lo' N' n A c:=by
 have hz:=h.sz;exact⟨hst,cJ hb h.b0,(hb.frozen (p:=⟨w.heap.size,0,none⟩) (by show w.heap.size<_;omega)).trans h.f0,cJ hb h.r0,(hb.frozen (p:=⟨w.heap.size+1,0,none⟩) (by show w.heap.size+1<_;omega)).trans h.rf,h.case.keep (fun b hb'=>hb.block b (by omega)),⟨hb.os.trans h.gr.os,hb.tape.trans h.gr.tape,hb.output.trans h.gr.output,by have:=hb.size;omega,fun b h1 h2=>(hb.block b (by omega)).trans (h.gr.block b h1 h2)⟩,by have:=hb.size;omega⟩
theorem SpI.box (h:SpI w wr g lo N n A c) (hb:Below (w.heap.size+2) wr wx) (hst:StH wx (w.heap.size+2) lo' N' n' (.slice A' n' c')) (hgl:g<w.heap.size):SpI w (wx.setCell ⟨w.heap.size,0,none⟩ (.slice A' n' c')) g lo' N' n' A' c':=by
 have hz:=h.sz;have hzx:=hb.size;have hne:∀ b,b≠w.heap.size→(wx.setCell ⟨w.heap.size,0,none⟩ (.slice A' n' c')).heap[b]?=wx.heap[b]?:=fun b hb'=>Below.heap_setCell wx ⟨w.heap.size,0,none⟩ _ b hb';refine⟨hst.vstp (ZbW fun b hb' _=>hne b (by omega)),World.cell?_setCell_same _ _ _ (cJ hb h.b0),?_,(World.cell?_of_block (hne (w.heap.size+1) (by omega))).trans (cJ hb h.r0),(World.frozen?_of_block (hne (w.heap.size+1) (by omega))).trans ((hb.frozen (p:=⟨w.heap.size+1,0,none⟩) (by show w.heap.size+1<_;omega)).trans h.rf),h.case.keep (fun b hb'=>(hne b (by omega)).trans (hb.block b (by omega))),?_,by simp;omega⟩
 · rw [World.frozen?_setCell];exact(hb.frozen (p:=⟨w.heap.size,0,none⟩) (by show w.heap.size<_;omega)).trans h.f0
 · have h1:=h.gr;exact⟨hb.os.trans h1.os,hb.tape.trans h1.tape,hb.output.trans h1.output,by simp;omega,fun b hb1 hb2=>(hne b (by omega)).trans ((hb.block b (by omega)).trans (h1.block b hb1 hb2))⟩
theorem SpI.low (h:SpI w wr g lo N n A c):SpI w wr g 0 (N+1) n A c:=⟨h.st.mono nR (Nat.zero_le _) (by omega),h.b0,h.f0,h.r0,h.rf,h.case,h.gr,h.sz⟩
theorem SpI.done {m:Nat} (h:SpI w wr g 0 N n A c) (hgl:g<w.heap.size) (hN:N≤1000000) (hn:n≤1000000) (hm:n≤m):SpPost m N w g (.returned (ZbE A n c)) (wr.setCell ⟨w.heap.size+1,0,none⟩ (.slice A n c)):=by
 have hz:=h.sz;have hne:∀ b,b≠w.heap.size+1→(wr.setCell ⟨w.heap.size+1,0,none⟩ (.slice A n c)).heap[b]?=wr.heap[b]?:=fun b hb'=>Below.heap_setCell wr ⟨w.heap.size+1,0,none⟩ _ b hb';have hst:StH (wr.setCell ⟨w.heap.size+1,0,none⟩ (.slice A n c)) (w.heap.size+2) 0 N n (.slice A n c):=h.st.vstp (ZbW fun b hb' _=>hne b (by omega));obtain⟨x,A1,c1,e,h1,h2,h3,h4⟩:=hst.reads hN hn;injection e with e1 e2 e3;subst e1 e3;refine⟨x,A,c,by rw [e2],h1,by omega,fun l hl=>⟨(h3 l hl).1,fun r hr=>((h3 l hl).2 r hr).2⟩,h4.more (fun b hb=>⟨by have:=hb.1;omega,hb.2⟩),h.case.keep (fun b hb'=>hne b (by omega)),?_⟩;have h1:=h.gr;exact⟨h1.os,h1.tape,h1.output,by simp;omega,fun b hb1 hb2=>(hne b (by omega)).trans (h1.block b hb1 hb2)⟩
end
theorem spoilState_any (g:Nat) (AS:Option Addr) (ca:Nat) (st:St) (N:Nat) (S:Nat→Prop) (w:World) (hst:StS w S AS st) (hS:∀ b,S b→b<w.heap.size) (hN:∀ l ∈ st,l.length≤N∧∀ r ∈ l,1≤r.length∧r.length≤N) (hN3:3≤N) (hN6:N≤1000) (hl6:st.length≤1000) (hc:CaseOk w g) :
  Calls Tryz.prog 18 #[.pointer (some ⟨g,0,none⟩),ZbE AS st.length ca] w (SpPost (st.length+1) (N+1) w g):=by
 have hgl:=hc.lt;have HST:=hI hst;have HN:=hI hN;have HC:=hI hc;clear hst hN hc;have HB0:=hI (((Below.refl w.heap.size w).alloc nR (.cells #[.slice AS st.length ca] 33)).alloc (by simp) (.cells #[.slice none 0 0] 33));go_enter Tryz.func18,Tryz.ntmps18
 go_wp2_with fail
 obtain⟨W0,hW0⟩:∃ W0,(w.alloc (.cells #[.slice AS st.length ca] 33)).alloc (.cells #[.slice none 0 0] 33)=W0:=⟨_,rfl⟩;have hz0:W0.heap.size=w.heap.size+2:=(by rw [←hW0];simp);have b0:W0.cell? ⟨w.heap.size,0,none⟩=some (.slice AS st.length ca):=(by rw [←hW0];exact(Zai (by simp)).trans (Zah rfl rfl));have f0:W0.frozen? ⟨w.heap.size,0,none⟩=false:=(by rw [←hW0];exact(Zbh (by simp)).trans (ZaS rfl));have r0:W0.cell? ⟨w.heap.size+1,0,none⟩=some (.slice none 0 0):=(by rw [←hW0];exact Zah (by simp) rfl);have rf:W0.frozen? ⟨w.heap.size+1,0,none⟩=false:=(by rw [←hW0];exact ZaS (by simp));rw [hW0] at HB0 ⊢;clear hW0;refine(rcopyT_any AS ca st 1 N S W0 (HST.out.keep (Same.of_below HB0.out hS)) (fun b hb=>by have:=hS b hb;omega) HN.out (by omega) (by omega)).mono ?_;rintro e w1 ⟨A,c,rfl,hcc,hsth,hb1⟩;have hz1:=hb1.size
 have HI0:=hI (show SpI w (w1.setCell ⟨w.heap.size,0,none⟩ (.slice A st.length c)) g 1 N st.length A c from by
  have hi0:SpI w W0 g 0 0 0 AS 0→True:=fun _=>trivial;have hbw:=HB0.out.trans (hb1.mono (by omega));have hne:∀ b,b≠w.heap.size→(w1.setCell ⟨w.heap.size,0,none⟩ (.slice A st.length c)).heap[b]?=w1.heap[b]?:=fun b hb'=>Below.heap_setCell w1 ⟨w.heap.size,0,none⟩ _ b hb';rw [hz0] at hsth;refine⟨hsth.vstp (ZbW fun b hb' _=>hne b (by omega)),World.cell?_setCell_same _ _ _ (cJ hb1 b0),?_,(World.cell?_of_block (hne (w.heap.size+1) (by omega))).trans (cJ hb1 r0),(World.frozen?_of_block (hne (w.heap.size+1) (by omega))).trans ((hb1.frozen (p:=⟨w.heap.size+1,0,none⟩) (by show w.heap.size+1<_;omega)).trans rf),HC.out.keep (fun b hb'=>(hne b (by omega)).trans (hbw.block b (by omega))),⟨hbw.os,hbw.tape,hbw.output,by simp;omega,fun b hb1' _=>(hne b (by omega)).trans (hbw.block b hb1')⟩,by simp;omega⟩;rw [World.frozen?_setCell];exact(hb1.frozen (p:=⟨w.heap.size,0,none⟩) (by show w.heap.size<_;omega)).trans f0)
 have b1:=cJ hb1 b0;have f1:=(hb1.frozen (p:=⟨w.heap.size,0,none⟩) (by show w.heap.size<_;omega)).trans f0;have hlw1:w.heap.size<w1.heap.size:=(by omega);clear b0 f0 r0 rf hsth hb1 HC HB0;obtain⟨n,hn⟩:∃ n,st.length=n:=⟨_,rfl⟩;have b1':=b1;rw [hn] at HI0 hl6 hcc b1' ⊢;have x0:(w1.setCell ⟨w.heap.size,0,none⟩ (.slice A n c)).cell? ⟨w.heap.size,0,none⟩=some (.slice A n c):=World.cell?_setCell_same _ _ _ b1';have x1:(w1.setCell ⟨w.heap.size,0,none⟩ (.slice A n c)).frozen? ⟨w.heap.size,0,none⟩=false:=(by rw [World.frozen?_setCell];exact f1);have HNN:=hI hn;clear hn b1 hz1 hz0 HST HN
 by_cases hz:n=0
 · have hd:((n:Int) == 0)=true:=(by simp [hz]);clear hz;have hl1:w.heap.size<(w1.setCell ⟨w.heap.size,0,none⟩ (.slice A n c)).heap.size:=(by simp;omega);have b0:=HI0.out.b0;have f0:=HI0.out.f0;have r0:=HI0.out.r0;have rf:=HI0.out.rf;have hl0:w.heap.size<(w1.setCell ⟨w.heap.size,0,none⟩ (.slice A n c)).heap.size:=by have:=HI0.out.sz;omega
   go_wp2_with (at_builtin;refine ZbN rfl (.tmp 19) (.tmp 20) 31 rfl Tryz.underlying31 _ (w.heap.size+2) 1 N A n c HI0.out.st (by omega) (.slice none 0 0) ⟨0,Nat.zero_le _,RowsH.nil_⟩ (by have:=HI0.out.sz;omega) rfl 1 (by rw [show (w1.setCell ⟨w.heap.size,0,none⟩ (.slice A n c)).heap.size=w1.heap.size by simp];rfl) ?_;intro g6 cap6 w6 hm6 hb6 hlt6;have MK6:=hI hm6;have HB6:=hI hb6;have hz6:=hb6.size;have b6:=cJ hb6 b0;have f6:=(hb6.frozen (p:=⟨w.heap.size,0,none⟩) (by show w.heap.size<_;omega)).trans f0;have r6:=cJ hb6 r0;have rf6:=(hb6.frozen (p:=⟨w.heap.size+1,0,none⟩) (by show w.heap.size+1<_;omega)).trans rf;clear hm6 hb6;have hk6:w.heap.size<w6.heap.size:=(by omega);have hk7:w.heap.size+1<w6.heap.size:=(by have:=HI0.out.sz;omega))
   have HI7:=hI ((HI0.out.box HB6.out MK6.out hgl).low);have x9:((w6.setCell ⟨w.heap.size,0,none⟩ (.slice (some ⟨g6,0,none⟩) (n+1) cap6)).setCell ⟨w.heap.size+1,0,none⟩ (.slice (some ⟨g6,0,none⟩) (n+1) cap6)).cell? ⟨w.heap.size+1,0,none⟩=some (.slice (some ⟨g6,0,none⟩) (n+1) cap6):=World.cell?_setCell_same _ _ _ HI7.out.r0;exact bodyPost_ret (v:=ZbE (some ⟨g6,0,none⟩) (n+1) cap6) (by simp [results,Tryz.results18,go_sem,x9]) rfl (HI7.out.done hgl (by omega) (by omega) (by have:=HNN.out;omega))
 · have hd:((n:Int) == 0)=false:=by simp;omega
   go_wp2_with fail
   obtain⟨W1,hW1⟩:∃ W1,w1.setCell ⟨w.heap.size,0,none⟩ (.slice A n c)=W1:=⟨_,rfl⟩;rw [hW1] at HI0 ⊢;clear hW1 b1' f1 hlw1 x0 x1;refine(ZaJ g 6 _ (by omega) (by omega) HI0.out.case).mono ?_;rintro e wa ⟨bb,rfl,hcb,hgb,hsb⟩;have HI1:=hI (HI0.out.calls (ZaL hgb) hcb hgl);clear hcb hgb hsb HI0;cases bb
   · have b0:=HI1.out.b0;have hl0:w.heap.size<wa.heap.size:=by have:=HI1.out.sz;omega
     go_wp2_with fail
     refine(Zar g (n:Int) _ (by omega) HI1.out.case).mono ?_;rintro e w2 ⟨ri,rfl,i0',i1',-,hc3,hg3,hs3⟩;have hri:=i1' (by omega);obtain⟨i,rfl⟩:=Int.eq_ofNat_of_zero_le i0';have hin:i<n:=(by omega);have HI2:=hI (HI1.out.calls (ZaL hg3) hc3 hgl);clear i1' hc3 hg3 hs3 b0 hl0 HI1 hri i0';obtain⟨AS',cS',eS,hnc,hform⟩:=LsH.form HI2.out.st;injection eS with e1 _ e3;subst e1 e3;obtain⟨gS,curS,rfl,hBS,hhS,hszS,hcm,hEl⟩:=hform (by omega);obtain⟨xl,hxl,m,hmN,hRH⟩:=hEl i hin;obtain⟨A1,c1,rfl,hmc,hRf⟩:=LsH.form hRH;have HhS:=hI hhS;have HRH:=hI hRH;have hgS:¬ gS=g:=(by omega);have b0:=HI2.out.b0;have hl0:w.heap.size<w2.heap.size:=(by have:=HI2.out.sz;omega);have s0:w2.cell? ⟨gS,i,none⟩=some (.slice A1 m c1):=Zav hhS hxl;have hlS:gS<w2.heap.size:=Zac hhS;have hini:(i:Int)<(n:Int):=(by omega);have HRf:=hI hRf;have HXL:=hI hxl;clear hhS hform hEl hRH hRf hxl hnc hszS hcm
     by_cases hm0:m=0
     · have hd2:((m:Int) == 0)=true:=(by simp [hm0]);clear hm0
       go_wp2_with fail
       have u0:=HI2.out.b0;refine tS (fun w'=>w'.cell? ⟨w.heap.size,0,none⟩=some (.slice (some ⟨gS,0,none⟩) n c)) 9 10 fun Q' HQ HP=>?_;refine tX 0 37 1 38 2 39 3 40 (bA 10 15) HP.out u0 ?_;refine tJ 4 41 (bA 10 31) HP.out u0 ?_;refine tQ 5 (some 42) (bA 10 63) fun K HK=>?_;go_simp;refine(Zar g 4 w2.drew (by omega) (HI2.out.case.keep (fun _ _=>rfl))).mono ?_;rintro e w3 ⟨ri,rfl,i0',i1',-,hc3,hg3,hs3⟩;have hri:=i1' (by omega);obtain⟨q,rfl⟩:=Int.eq_ofNat_of_zero_le i0';have HF3:=hI (show Fr (fun b=>b=g) w2 w3 from (Fr.refl _ w2).drew.trans (ZaL hg3) (fun _ _ e=>e));have HI3:=hI (HI2.out.calls HF3.out hc3 hgl);have hz3:w3.heap.size=w2.heap.size:=hs3;clear i1' hc3 hg3 hs3;have u0:=HI3.out.b0;refine HK.out _ _ (fun _=>u0) ?_;clear HK K
       try simp only [Act.put,psA,psB,psC]
       refine tQ 6 (some 43) (bA 10 127) fun K HK=>?_;go_simp;refine(cells_any g q _ (by omega) HI3.out.case).mono ?_;rintro e w4 ⟨CA,cc,rfl,hrow,hc4,hg4⟩;have HF4:=hI (ZaL hg4);have HI4:=hI (HI3.out.calls HF4.out hc4 hgl);have HROW:=hI hrow;have hz4:=hg4.size;clear hrow hc4 hg4;have u0:=HI4.out.b0;refine HK.out _ _ (fun _=>u0) ?_;clear HK K
       try simp only [Act.put,psA,psB,psC]
       refine tQ 7 (some 44) (bA 10 255) fun K HK=>?_;go_simp;obtain⟨W5,hW5⟩:∃ W5,w4.alloc (.cells #[.slice CA q cc] 42)=W5:=⟨_,rfl⟩;have hb5:Below w4.heap.size w4 W5:=(by rw [←hW5];exact(Below.refl _ _).alloc nR _);have HI5:=hI (HI4.out.upd (hb5.mono (by have:=HI4.out.sz;omega)) (HI4.out.st.vstp (ZbY hb5 nR)) hgl);have HL5:=hI (show ListH W5 (w.heap.size+2) 0 (N+1) (.slice (some ⟨w4.heap.size,0,none⟩) 1 1) from ⟨1,by omega,#[.slice CA q cc],.inr ⟨w4.heap.size,1,rfl,by have:=HI4.out.sz;omega,by rw [←hW5];exact heap_alloc_new w4 _,Nat.le_refl _,by unfold maxLen;omega,rfl⟩,fun j hj=>(by obtain rfl:j=0:=(by omega);exact⟨_,rfl,q,Nat.zero_le _,(by omega),(HROW.out.mono (by have:=HI3.out.sz;omega) (fun _ _ h=>h)).stp (ZbY hb5 nR) (fun _ _ j _ hr=>hr.1 rfl j)⟩)⟩);have HS5:=hI ((hb5.block gS (by have:=HF3.out.size;have:=HF4.out.size;have:=Zac HhS.out;omega)).trans ((HF4.out.block gS (by have:=HF3.out.size;have:=Zac HhS.out;omega) hgS).trans ((HF3.out.block gS (Zac HhS.out) hgS).trans HhS.out)));rw [hW5];clear hW5 hb5;have u0:=HI5.out.b0;refine HK.out _ _ (fun _=>u0) ?_;clear HK K
       try simp only [Act.put,psA,psB,psC]
       refine tJ 8 45 (bA 10 511) HP.out u0 ?_;refine tQ 9 none (bA 10 1023) fun K HK=>?_;have s5:W5.cell? ⟨gS,i,none⟩=some (.slice A1 m c1):=Zav HS5.out HXL.out;have sf:W5.frozen? ⟨gS,i,none⟩=false:=(by simp [World.frozen?,HS5.out]);have hl5:gS<W5.heap.size:=Zac HS5.out;go_simp;refine HK.out _ _ (fun h=>absurd rfl h) ?_;clear HK K;refine tE HQ ?_;clear HQ HP Q';obtain⟨W6,hW6⟩:∃ W6,W5.setCell ⟨gS,i,none⟩ (.slice (some ⟨w4.heap.size,0,none⟩) 1 1)=W6:=⟨_,rfl⟩
       have HI6:=hI (show SpI w W6 g 0 (N+1) n (some ⟨gS,0,none⟩) c by
        rw [←hW6];exact HI5.out.upd ((Below.refl _ _).setCell (by show w.heap.size+2≤gS;omega) _) (HI5.out.st.lstp (ZgP HS5.out HL5.out (Nat.zero_le _) (by omega))) hgl)
       rw [hW6];clear hW6 s5 sf;have b0:=HI6.out.b0;have r0:=HI6.out.r0;have rf:=HI6.out.rf;have hl0:w.heap.size<W6.heap.size:=(by have:=HI6.out.sz;omega);have hl1:w.heap.size+1<W6.heap.size:=by have:=HI6.out.sz;omega
       go_wp2_with fail
       have x0:(W6.setCell ⟨w.heap.size+1,0,none⟩ (.slice (some ⟨gS,0,none⟩) n c)).cell? ⟨w.heap.size+1,0,none⟩=some (.slice (some ⟨gS,0,none⟩) n c):=World.cell?_setCell_same _ _ _ r0;exact bodyPost_ret (v:=ZbE (some ⟨gS,0,none⟩) n c) (by simp [results,Tryz.results18,go_sem,x0]) rfl (HI6.out.done hgl (by omega) (by omega) (by have:=HNN.out;omega))
     · have hd2:((m:Int) == 0)=false:=(by simp;omega);have hm1:0<m:=(by omega);clear hm0
       go_wp2_with fail
       refine(Zar g (m:Int) _ (by omega) HI2.out.case).mono ?_;rintro e w3 ⟨ri,rfl,i0',i1',-,hc3,hg3,hs3⟩;have hri:=i1' (by omega);obtain⟨k,rfl⟩:=Int.eq_ofNat_of_zero_le i0';have hkm:k<m:=(by omega);have HF3:=hI (ZaL hg3);have HI3:=hI (HI2.out.calls HF3.out hc3 hgl);clear i1' hc3 hg3 hs3 b0 hl0 s0 hlS hri i0'
       go_wp2_with fail
       refine(Zar g 5 _ (by omega) HI3.out.case).mono ?_;rintro e w4 ⟨r5,rfl,i0',i1',-,hc4,hg4,hs4⟩;have hr5:=i1' (by omega);have HF4:=hI (HF3.out.trans (ZaL hg4) (fun _ _ e=>e));have HI4:=hI (HI3.out.calls (ZaL hg4) hc4 hgl);have hz4:=HF4.out.size;clear i1' hc4 hg4 hs4;have hsame:∀ b,w.heap.size+2≤b→b<w2.heap.size→w4.heap[b]?=w2.heap[b]?:=fun b h1 h2=>HF4.out.block b h2 (by omega);have HS4:=hI ((hsame gS hBS (Zac HhS.out)).trans HhS.out);have hst4:Stp w2 w4 (w.heap.size+2) RVv:=ZbW hsame;have HRH4:=hI (HRH.out.vstp hst4);obtain⟨gR,curR,rfl,hBR,hhR,hszR,hcmR,hEr⟩:=HRf.out hm1;have HR4:=hI ((hsame gR hBR (Zac hhR)).trans hhR);have HEr:=hI (show ∀ j,j<m→RowAt w4 (w.heap.size+2) 1 N curR j from fun j hj=>(hEr j hj).vstp hst4);obtain⟨xr,hxr,q,hq1,hqN,hVH⟩:=HEr.out k hkm;obtain⟨A2,c2,rfl,hqc,hVf⟩:=LsH.form hVH;obtain⟨gV,curV,rfl,hBV,hhV,hszV,hcmV,hEv⟩:=hVf (by omega);have HVH:=hI hVH;have HV4:=hI hhV;have HEv:=hI hEv;have HXR:=hI hxr;have hgR:¬ gR=g:=(by omega);have hgV:¬ gV=g:=(by omega);have hkmi:(k:Int)<(m:Int):=(by omega);have hlR4:gR<w4.heap.size:=Zac HR4.out;have t0:w4.cell? ⟨gR,k,none⟩=some (.slice (some ⟨gV,0,none⟩) q c2):=Zav HR4.out hxr;clear hsame hst4 HRH HRf HhS hhR hEr hxr hVH hVf hhV hEv HF3 HI3 HI2 HF4 hszR hcmR;have hc5:r5=0∨r5=1∨r5=2∨r5=3∨r5=4:=(by omega);clear hr5 i0';rcases hc5 with rfl | rfl | rfl | rfl | rfl
       · go_wp2_with fail
         refine tS (fun w'=>w'.cell? ⟨gR,k,none⟩=some (.slice (some ⟨gV,0,none⟩) q c2)) 11 12 fun Q' HQ HP=>?_;refine tX 0 58 1 59 2 60 3 61 (bA 12 15) HP.out t0 ?_;refine tW 4 62 5 63 (bA 12 63) HP.out t0 ?_;refine tJ 6 64 (bA 12 127) HP.out t0 ?_;refine tQ 7 (some 65) (bA 12 255) fun K HK=>?_;go_simp;refine(ZeO g w4.drew (HI4.out.case.keep (fun _ _=>rfl))).mono ?_;rintro e w5 ⟨v,rfl,hv,hc5,hg5⟩;have HF5:=hI (show Fr (fun b=>b=g) w4 w5 from (Fr.refl _ w4).drew.trans (ZaL hg5) (fun _ _ e=>e));have HI5:=hI (HI4.out.calls HF5.out hc5 hgl);have HVs:=hI (ZeN hv);have HR5:=hI ((HF5.out.block gR (Zac HR4.out) hgR).trans HR4.out);have HRW5:=hI (show RowN w5 (w.heap.size+2) q (.slice (some ⟨gV,0,none⟩) q c2) from HVH.out.stp (ZbW fun b h1 h2=>HF5.out.block b h2 (by omega)) (fun _ _ j _ hr=>hr.1 rfl j));obtain⟨vk,vi,vt⟩:=v;clear hv hc5 hg5;have t0:=Zav HR5.out HXR.out;refine HK.out _ _ (fun _=>t0) ?_;clear HK K
         try simp only [Act.put,psA,psB,psC]
         refine tQ 8 (some 66) (bA 12 511) fun K HK=>?_;go_simp;have t1:(w5.alloc (.cells #[.int .i64 vk,.int .i64 vi,.string vt] 89)).cell? ⟨gR,k,none⟩=some (.slice (some ⟨gV,0,none⟩) q c2):=(Zai (Zac HR5.out)).trans t0;refine HK.out _ _ (fun _=>t1) ?_;clear HK K
         try simp only [Act.put,psA,psB,psC]
         refine anyT_one (i:=9) (o:=⟨some 67,_,_,_,_,_⟩) (L':=(bA 12 1023)) rfl (by kernel_rfl) (by kernel_rfl) (fun K hK=>?_);refine step_append_val (by rfl) (.tmp 63) (.tmp 66) 42 (by rfl) Tryz.underlying42 w5 (w.heap.size+2) (some ⟨gV,0,none⟩) q c2 HRW5.out ⟨vk,vi,vt⟩ HVs.out (by omega) (by have:=HI5.out.sz;omega) (by rfl) 1 (by rfl) ?_;intro g6 cap6 w6 hst6 hm6 hb6 hT6 hlt6;have HR6:=hI (hT6 gR _ curR (by decide) HR5.out);have HS6:=hI hst6;have HM6:=hI hm6;have HB6:=hI hb6;clear hst6 hm6 hb6 hT6;have t2:=Zav HR6.out HXR.out;refine hK _ _ (fun _=>t2) ?_;clear hK K
         try simp only [Act.put,psA,psB,psC]
         refine tJ 10 68 (bA 12 2047) HP.out t2 ?_;refine tQ 11 none (bA 12 4095) fun K HK=>?_;have sf:w6.frozen? ⟨gR,k,none⟩=false:=(by simp [World.frozen?,HR6.out]);have hl6':gR<w6.heap.size:=Zac HR6.out;go_simp;refine HK.out _ _ (fun h=>absurd rfl h) ?_;clear HK K;refine tE HQ ?_;clear HQ HP Q';obtain⟨W6,hW6⟩:∃ W6,w6.setCell ⟨gR,k,none⟩ (.slice (some ⟨g6,0,none⟩) (q+1) cap6)=W6:=⟨_,rfl⟩
         have HI6:=hI (show SpI w W6 g 0 (N+1) n (some ⟨gS,0,none⟩) c by
          rw [←hW6];exact HI5.out.upd (HB6.out.setCell (by show w.heap.size+2≤gR;omega) _) ((HI5.out.st.vstp HS6.out).rstp (ZfV HR6.out ⟨q+1,Nat.zero_le _,by omega,HM6.out⟩ (Nat.zero_le _) (by omega)) (by omega)) hgl)
         rw [hW6];clear hW6 t0 t1 t2 sf;have b0:=HI6.out.b0;have r0:=HI6.out.r0;have rf:=HI6.out.rf;have hl0:w.heap.size<W6.heap.size:=(by have:=HI6.out.sz;omega);have hl1:w.heap.size+1<W6.heap.size:=by have:=HI6.out.sz;omega
         go_wp2_with fail
         have x0:(W6.setCell ⟨w.heap.size+1,0,none⟩ (.slice (some ⟨gS,0,none⟩) n c)).cell? ⟨w.heap.size+1,0,none⟩=some (.slice (some ⟨gS,0,none⟩) n c):=World.cell?_setCell_same _ _ _ r0;exact bodyPost_ret (v:=ZbE (some ⟨gS,0,none⟩) n c) (by simp [results,Tryz.results18,go_sem,x0]) rfl (HI6.out.done hgl (by omega) (by omega) (by have:=HNN.out;omega))
       · go_wp2_with fail
         refine tS (fun w'=>w'.cell? ⟨gR,k,none⟩=some (.slice (some ⟨gV,0,none⟩) q c2)) 14 15 fun Q' HQ HP=>?_;refine tX 0 71 1 72 2 73 3 74 (bA 15 15) HP.out t0 ?_;refine tX 4 75 5 76 6 77 7 78 (bA 15 255) HP.out t0 ?_;refine tW 8 79 9 80 (bA 15 1023) HP.out t0 ?_;refine tJ 11 82 (bA 15 3071) HP.out t0 ?_;refine tQ 10 (some 81) (bA 15 4095) fun K HK=>?_;go_simp;refine(Zar g (q:Int) w4.drew (by omega) (HI4.out.case.keep (fun _ _=>rfl))).mono ?_;rintro e w5 ⟨rj,rfl,j0',j1',-,hc5,hg5,hs5⟩;have hrj:=j1' (by omega);obtain⟨jj,rfl⟩:=Int.eq_ofNat_of_zero_le j0';have HF5:=hI (show Fr (fun b=>b=g) w4 w5 from (Fr.refl _ w4).drew.trans (ZaL hg5) (fun _ _ e=>e));have HI5:=hI (HI4.out.calls HF5.out hc5 hgl);clear j1' hc5 hg5 hs5;have t0:=(HF5.out.cell (b:=gR) (o:=k) hlR4 hgR).trans t0;refine HK.out _ _ (fun _=>t0) ?_;clear HK K
         try simp only [Act.put,psA,psB,psC]
         refine tQ 12 (some 83) (bA 15 8191) fun K HK=>?_;go_simp;refine(ZeO g _ HI5.out.case).mono ?_;rintro e w6 ⟨v,rfl,hv,hc6,hg6⟩;have HF6:=hI (HF5.out.trans (ZaL hg6) (fun _ _ e=>e));have HI6:=hI (HI5.out.calls (ZaL hg6) hc6 hgl);have HVs:=hI (ZeN hv);have HV6:=hI ((HF6.out.block gV (Zac HV4.out) hgV).trans HV4.out);obtain⟨vk,vi,vt⟩:=v;have t0:=((ZaL hg6).cell (b:=gR) (o:=k) (by have:=HF5.out.size;omega) hgR).trans t0;clear hv hc6 hg6;refine HK.out _ _ (fun _=>t0) ?_;clear HK K
         try simp only [Act.put,psA,psB,psC]
         refine tJ 13 84 (bA 15 16383) HP.out t0 ?_;refine tQ 14 none (bA 15 32767) fun K HK=>?_;obtain⟨ka,kb,kt,hk1,hk2,hk3,_⟩:=HEv.out jj (by omega);have y0:w6.cell? ⟨gV,jj*3,none⟩=some (.int .i64 ka):=Zav HV6.out hk1;have y1:w6.cell? ⟨gV,jj*3+1,none⟩=some (.int .i64 kb):=Zav HV6.out hk2;have y2:w6.cell? ⟨gV,jj*3+2,none⟩=some (.string kt):=Zav HV6.out hk3;have z0:∀ o,w6.frozen? ⟨gV,o,none⟩=false:=(fun o=>by simp [World.frozen?,HV6.out]);have z1:=z0 (jj*3);have z2:=z0 (jj*3+1);have z3:=z0 (jj*3+2);have hlV:gV<w6.heap.size:=Zac HV6.out;clear z0 hk1 hk2 hk3;go_simp;refine HK.out _ _ (fun h=>absurd rfl h) ?_;clear HK K;refine tE HQ ?_;clear HQ HP Q';obtain⟨W6,hW6⟩:∃ W6,((w6.setCell ⟨gV,jj*3,none⟩ (.int .i64 vk)).setCell ⟨gV,jj*3+1,none⟩ (.int .i64 vi)).setCell ⟨gV,jj*3+2,none⟩ (.string vt)=W6:=⟨_,rfl⟩
         have HI7:=hI (show SpI w W6 g 0 (N+1) n (some ⟨gS,0,none⟩) c by
          rw [←hW6];exact(HI6.out.upd ((((Below.refl _ w6).setCell (by show w.heap.size+2≤gV;omega) _).setCell (by show w.heap.size+2≤gV;omega) _).setCell (by show w.heap.size+2≤gV;omega) _) (HI6.out.st.vstp (stp_val HV6.out (by omega) HVs.out)) hgl).low)
         rw [hW6];clear hW6 t0 y0 y1 y2 z1 z2 z3;have b0:=HI7.out.b0;have r0:=HI7.out.r0;have rf:=HI7.out.rf;have hl0:w.heap.size<W6.heap.size:=(by have:=HI7.out.sz;omega);have hl1:w.heap.size+1<W6.heap.size:=by have:=HI7.out.sz;omega
         go_wp2_with fail
         have x0:(W6.setCell ⟨w.heap.size+1,0,none⟩ (.slice (some ⟨gS,0,none⟩) n c)).cell? ⟨w.heap.size+1,0,none⟩=some (.slice (some ⟨gS,0,none⟩) n c):=World.cell?_setCell_same _ _ _ r0;exact bodyPost_ret (v:=ZbE (some ⟨gS,0,none⟩) n c) (by simp [results,Tryz.results18,go_sem,x0]) rfl (HI7.out.done hgl (by omega) (by omega) (by have:=HNN.out;omega))
       · go_wp2_with fail
         have b0:=HI4.out.b0;obtain⟨rr,RA,rc,er,hrc,hrl,hrs⟩:=(show RowH w4 (w.heap.size+2) 1 N (.slice (some ⟨gV,0,none⟩) q c2) from ⟨q,hq1,hqN,HVH.out⟩).reads (by omega);injection er with e1 e2 e3;subst e1 e2 e3;have HRS:=hI hrs;have HRL:=hI hrl;clear hrs hrl hrc;refine tS (fun w'=>w'.cell? ⟨w.heap.size,0,none⟩=some (.slice (some ⟨gS,0,none⟩) n c)) 12 13 fun Q' HQ HP=>?_;refine tX 0 87 1 88 2 89 3 90 (bA 13 15) HP.out b0 ?_;refine tW 4 91 5 92 (bA 13 63) HP.out b0 ?_;refine tJ 6 93 (bA 13 127) HP.out b0 ?_;refine tQ 7 (some 94) (bA 13 255) fun K HK=>?_;have t0':w4.drew.cell? ⟨gR,k,none⟩=some (.slice (some ⟨gV,0,none⟩) rr.length c2):=t0;go_simp;refine HK.out _ _ (fun _=>b0) ?_;clear HK K t0'
         try simp only [Act.put,psA,psB,psC]
         refine tQ 8 (some 95) (bA 13 511) fun K HK=>?_;go_simp;refine(ZcF (some ⟨gV,0,none⟩) c2 rr _ w4.drew (HRS.out.keep (w':=w4.drew) (fun _ _=>rfl))).mono ?_;rintro e w5 ⟨KA,kc,rfl,hown,hb50⟩;have hb5:Below w4.heap.size w4 w5:=(Below.refl _ w4).drew.trans hb50;have HI5:=hI (HI4.out.upd (hb5.mono (by have:=HI4.out.sz;omega)) (HI4.out.st.vstp (ZbY hb5 nR)) hgl);have HRW5:=hI ((RowH.of_owns hown HRS.out.ok HRL.out.1 HRL.out.2).mono (show w.heap.size+2≤_ from HI4.out.sz) nR nR);have HRH5:=hI (HRH4.out.vstp (ZbY hb5 nR));have HS5:=hI ((hb5.block gS (Zac HS4.out)).trans HS4.out);have HR5:=hI ((hb5.block gR (Zac HR4.out)).trans HR4.out);clear hb50 hb5 hown;have b0:=HI5.out.b0;have t0:=Zav HR5.out HXR.out;refine HK.out _ _ (fun _=>b0) ?_;clear HK K
         try simp only [Act.put,psA,psB,psC]
         refine tQ 9 (some 96) (bA 13 1023) fun K HK=>?_;go_simp;have t1:(w5.alloc (.cells #[.slice KA rr.length kc] 42)).cell? ⟨gR,k,none⟩=some (.slice (some ⟨gV,0,none⟩) rr.length c2):=(Zai (Zac HR5.out)).trans t0;have b1:(w5.alloc (.cells #[.slice KA rr.length kc] 42)).cell? ⟨w.heap.size,0,none⟩=some (.slice (some ⟨gS,0,none⟩) n c):=(Zai (by have:=HI5.out.sz;omega)).trans b0;refine HK.out _ _ (fun _=>b1) ?_;clear HK K
         try simp only [Act.put,psA,psB,psC]
         refine anyT_one (i:=10) (o:=⟨some 97,_,_,_,_,_⟩) (L':=(bA 13 2047)) rfl (by kernel_rfl) (by kernel_rfl) (fun K hK=>?_);refine step_append_row (by rfl) (.tmp 90) (.tmp 96) 73 (by rfl) Tryz.underlying73 w5 (w.heap.size+2) 1 N 1 (N+1) nR (by omega) (some ⟨gR,0,none⟩) m c1 HRH5.out (by omega) (by omega) (.slice KA rr.length kc) (HRW5.out.mono nR nR (by omega)) (by have:=HI5.out.sz;omega) (by rfl) 1 (by rfl) ?_;intro g6 cap6 w6 hst6 hm6 hb6 hT6 hlt6;have HS6:=hI (hT6 gS _ curS (by decide) HS5.out);have HI6:=hI (HI5.out.upd hb6 (hst6 _ _ HI5.out.st) hgl);have HM6:=hI hm6;clear hst6 hm6 hb6 hT6 t0 t1 b0 b1;have b2:=HI6.out.b0;refine hK _ _ (fun _=>b2) ?_;clear hK K
         try simp only [Act.put,psA,psB,psC]
         refine tJ 11 98 (bA 13 4095) HP.out b2 ?_;refine tQ 12 none (bA 13 8191) fun K HK=>?_;have s6:w6.cell? ⟨gS,i,none⟩=some (.slice (some ⟨gR,0,none⟩) m c1):=Zav HS6.out HXL.out;have sf:w6.frozen? ⟨gS,i,none⟩=false:=(by simp [World.frozen?,HS6.out]);have hl6':gS<w6.heap.size:=Zac HS6.out;go_simp;refine HK.out _ _ (fun h=>absurd rfl h) ?_;clear HK K;refine tE HQ ?_;clear HQ HP Q';obtain⟨W6,hW6⟩:∃ W6,w6.setCell ⟨gS,i,none⟩ (.slice (some ⟨g6,0,none⟩) (m+1) cap6)=W6:=⟨_,rfl⟩
         have HI7:=hI (show SpI w W6 g 0 (N+1) n (some ⟨gS,0,none⟩) c by
          rw [←hW6];exact HI6.out.upd ((Below.refl _ w6).setCell (by show w.heap.size+2≤gS;omega) _) (HI6.out.st.lstp (ZgP HS6.out ⟨m+1,by omega,HM6.out.mono nR (Nat.zero_le _) nR⟩ (Nat.zero_le _) nR)) hgl)
         rw [hW6];clear hW6 b2 s6 sf;have b0:=HI7.out.b0;have r0:=HI7.out.r0;have rf:=HI7.out.rf;have hl0:w.heap.size<W6.heap.size:=(by have:=HI7.out.sz;omega);have hl1:w.heap.size+1<W6.heap.size:=by have:=HI7.out.sz;omega
         go_wp2_with fail
         have x0:(W6.setCell ⟨w.heap.size+1,0,none⟩ (.slice (some ⟨gS,0,none⟩) n c)).cell? ⟨w.heap.size+1,0,none⟩=some (.slice (some ⟨gS,0,none⟩) n c):=World.cell?_setCell_same _ _ _ r0;exact bodyPost_ret (v:=ZbE (some ⟨gS,0,none⟩) n c) (by simp [results,Tryz.results18,go_sem,x0]) rfl (HI7.out.done hgl (by omega) (by omega) (by have:=HNN.out;omega))
       · go_wp2_with fail
         have HI4d:=hI (show SpI w w4.drew g 1 N n (some ⟨gS,0,none⟩) c from ⟨HI4.out.st,HI4.out.b0,HI4.out.f0,HI4.out.r0,HI4.out.rf,HI4.out.case,⟨HI4.out.gr.os,HI4.out.gr.tape,HI4.out.gr.output,HI4.out.gr.size,HI4.out.gr.block⟩,HI4.out.sz⟩);have HR4d:=hI (show w4.drew.heap[gR]?=some (.cells curR 42 (0,0)) from HR4.out);obtain⟨xa,hxa,hRa⟩:=HEr.out 0 hm1;obtain⟨xz,hxz,hRz⟩:=HEr.out (m - 1) (by omega);obtain⟨Aa,ka,xca,rfl,-,-,-⟩:=hRa.slice;obtain⟨Az,kz,xcz,rfl,-,-,-⟩:=hRz.slice;have HRa:=hI (show RowH w4.drew (w.heap.size+2) 1 N (.slice Aa ka xca) from hRa);have HRz:=hI (show RowH w4.drew (w.heap.size+2) 1 N (.slice Az kz xcz) from hRz);have ca:w4.drew.cell? ⟨gR,0,none⟩=some (.slice Aa ka xca):=Zav HR4.out hxa;have cz:w4.drew.cell? ⟨gR,m - 1,none⟩=some (.slice Az kz xcz):=Zav HR4.out hxz;have hmi0:(0:Int)<(m:Int):=(by omega);have hmi1:((m - 1:Nat):Int)<(m:Int):=(by omega);have fa:∀ o,w4.drew.frozen? ⟨gR,o,none⟩=false:=(fun o=>by show w4.frozen? ⟨gR,o,none⟩=false;simp [World.frozen?,HR4.out]);have f0':=fa 0;have f1':=fa (m - 1);have hlR4':gR<w4.drew.heap.size:=hlR4;have HW1:=hI (ZfV (lo:=1) (N:=N) HR4d.out (k:=0) (v:=.slice Az kz xcz) HRz.out nR nR);have HI5:=hI (HI4d.out.upd ((Below.refl _ w4.drew).setCell (p:=⟨gR,0,none⟩) (by show w.heap.size+2≤gR;omega) (.slice Az kz xcz)) (HI4d.out.st.rstp HW1.out nR) hgl);obtain⟨cur5,h51,h52,h53,h54⟩:=ZbT (k:=0) (v:=.slice Az kz xcz) HR4d.out;have HI6:=hI (HI5.out.upd ((Below.refl _ _).setCell (p:=⟨gR,m - 1,none⟩) (by show w.heap.size+2≤gR;omega) (.slice Aa ka xca)) (HI5.out.st.rstp (ZfV (lo:=1) (N:=N) (k:=m - 1) h51 (HRa.out.rstp HW1.out) nR nR) nR) hgl);have f1q:w4.frozen? ⟨gR,m - 1,none⟩=false:=f1';have hsz5:m - 1<cur5.size:=(by rw [h52];exact(Array.getElem?_eq_some_iff.1 hxz).1);have ccx:(w4.setCell ⟨gR,0,none⟩ (.slice Az kz xcz)).cell? ⟨gR,m - 1,none⟩=some cur5[m - 1]:=Zav (w:=w4.setCell ⟨gR,0,none⟩ (.slice Az kz xcz)) h51 (by simp [hsz5]);generalize cur5[m - 1]=cx5 at ccx;clear fa hRa hRz h51 h52 h53 h54 hxa hxz hsz5;refine tS (fun _=>True) 18 18 fun Q' HQ HP=>?_;refine tX 0 101 1 102 2 103 3 104 (bA 18 15) HP.out trivial ?_;refine anyT_take (i:=4) (oi:=⟨some 105,_,_,_,_,_⟩) (v:=.int .i64 ((m - 1:Nat):Int)) (L':=(bA 18 31)) rfl rfl (by kernel_rfl) (by kernel_rfl) (by kernel_rfl) (by kernel_rfl) (by kernel_rfl) HP.out (Or.inl ⟨by rfl,?_⟩) trivial ?_
         · intro w' hSw;go_simp
           (try (rw [show ((m:Int) - 1)=((m - 1:Nat):Int) by omega]))
           (try (rw [IntKind.wrap_i64];omega))
         simp only [psA,psB,psC];refine tW 5 106 6 107 (bA 18 127) HP.out trivial ?_;refine tJ 7 108 (bA 18 255) HP.out trivial ?_;refine anyT_take (i:=8) (oi:=⟨some 109,_,_,_,_,_⟩) (v:=.int .i64 ((m - 1:Nat):Int)) (L':=(bA 18 511)) rfl rfl (by kernel_rfl) (by kernel_rfl) (by kernel_rfl) (by kernel_rfl) (by kernel_rfl) HP.out (Or.inl ⟨by rfl,?_⟩) trivial ?_
         · intro w' hSw;go_simp
           (try (rw [show ((m:Int) - 1)=((m - 1:Nat):Int) by omega]))
           (try (rw [IntKind.wrap_i64];omega))
         simp only [psA,psB,psC];refine tW 9 110 11 112 (bA 18 3071) HP.out trivial ?_;refine tJ 12 113 (bA 18 7167) HP.out trivial ?_;refine Zdi (i:=10) (j:=13) (oi:=⟨some 111,_,_,_,_,_⟩) (oj:=⟨some 114,_,_,_,_,_⟩) (Li:=(bA 18 8191)) (Lj:=(bA 18 15359)) rfl rfl (by kernel_rfl) (by kernel_rfl) (by kernel_rfl) (fun K hK=>?_) (fun K hK=>?_)
         · skip
           have HK:=hI hK;clear hK;go_simp;refine HK.out _ _ (fun _=>trivial) ?_;clear HK K
           try simp only [Act.put,psA,psB,psC]
           refine tQ 13 (some 114) (bA 18 16383) fun K HK=>?_;go_simp;refine HK.out _ _ (fun _=>trivial) ?_;clear HK K
           try simp only [Act.put,psA,psB,psC]
           refine tJ 14 115 (bA 18 32767) HP.out trivial ?_;refine tQ 15 none (bA 18 65535) fun K HK=>?_;have cz':(w4.drew.setCell ⟨gR,0,none⟩ (.slice Az kz xcz)).frozen? ⟨gR,m - 1,none⟩=false:=(by rw [World.frozen?_setCell];exact f1');go_simp;refine HK.out _ _ (fun _=>trivial) ?_;clear HK K
           try simp only [Act.put,psA,psB,psC]
           refine tJ 16 116 (bA 18 131071) HP.out trivial ?_;refine tQ 17 none (bA 18 262143) fun K HK=>?_;have cz':(w4.drew.setCell ⟨gR,0,none⟩ (.slice Az kz xcz)).frozen? ⟨gR,m - 1,none⟩=false:=(by rw [World.frozen?_setCell];exact f1');go_simp;refine HK.out _ _ (fun _=>trivial) ?_;clear HK K
           try simp only [Act.put,psA,psB,psC]
           refine tE HQ ?_;clear HQ HP Q';obtain⟨W6,hW6⟩:∃ W6,((w4.setCell ⟨gR,0,none⟩ (.slice Az kz xcz)).setCell ⟨gR,m - 1,none⟩ (.slice Aa ka xca)).drew=W6:=⟨_,rfl⟩;have HI7:=hI (show SpI w W6 g 0 (N+1) n (some ⟨gS,0,none⟩) c by rw [←hW6];exact HI6.out.low);rw [hW6];clear hW6;have b0:=HI7.out.b0;have r0:=HI7.out.r0;have rf:=HI7.out.rf;have hl0:w.heap.size<W6.heap.size:=(by have:=HI7.out.sz;omega);have hl1:w.heap.size+1<W6.heap.size:=by have:=HI7.out.sz;omega
           go_wp2_with fail
           have x0:(W6.setCell ⟨w.heap.size+1,0,none⟩ (.slice (some ⟨gS,0,none⟩) n c)).cell? ⟨w.heap.size+1,0,none⟩=some (.slice (some ⟨gS,0,none⟩) n c):=World.cell?_setCell_same _ _ _ r0;exact bodyPost_ret (v:=ZbE (some ⟨gS,0,none⟩) n c) (by simp [results,Tryz.results18,go_sem,x0]) rfl (HI7.out.done hgl (by omega) (by omega) (by have:=HNN.out;omega))
         · skip
           have HK:=hI hK;clear hK;go_simp;refine HK.out _ _ (fun _=>trivial) ?_;clear HK K
           try simp only [Act.put,psA,psB,psC]
           refine tQ 10 (some 111) (bA 18 16383) fun K HK=>?_;go_simp;refine HK.out _ _ (fun _=>trivial) ?_;clear HK K
           try simp only [Act.put,psA,psB,psC]
           refine tJ 14 115 (bA 18 32767) HP.out trivial ?_;refine tQ 15 none (bA 18 65535) fun K HK=>?_;have cz':(w4.drew.setCell ⟨gR,0,none⟩ (.slice Az kz xcz)).frozen? ⟨gR,m - 1,none⟩=false:=(by rw [World.frozen?_setCell];exact f1');go_simp;refine HK.out _ _ (fun _=>trivial) ?_;clear HK K
           try simp only [Act.put,psA,psB,psC]
           refine tJ 16 116 (bA 18 131071) HP.out trivial ?_;refine tQ 17 none (bA 18 262143) fun K HK=>?_;have cz':(w4.drew.setCell ⟨gR,0,none⟩ (.slice Az kz xcz)).frozen? ⟨gR,m - 1,none⟩=false:=(by rw [World.frozen?_setCell];exact f1');go_simp;refine HK.out _ _ (fun _=>trivial) ?_;clear HK K
           try simp only [Act.put,psA,psB,psC]
           refine tE HQ ?_;clear HQ HP Q';obtain⟨W6,hW6⟩:∃ W6,((w4.setCell ⟨gR,0,none⟩ (.slice Az kz xcz)).setCell ⟨gR,m - 1,none⟩ (.slice Aa ka xca)).drew=W6:=⟨_,rfl⟩;have HI7:=hI (show SpI w W6 g 0 (N+1) n (some ⟨gS,0,none⟩) c by rw [←hW6];exact HI6.out.low);rw [hW6];clear hW6;have b0:=HI7.out.b0;have r0:=HI7.out.r0;have rf:=HI7.out.rf;have hl0:w.heap.size<W6.heap.size:=(by have:=HI7.out.sz;omega);have hl1:w.heap.size+1<W6.heap.size:=by have:=HI7.out.sz;omega
           go_wp2_with fail
           have x0:(W6.setCell ⟨w.heap.size+1,0,none⟩ (.slice (some ⟨gS,0,none⟩) n c)).cell? ⟨w.heap.size+1,0,none⟩=some (.slice (some ⟨gS,0,none⟩) n c):=World.cell?_setCell_same _ _ _ r0;exact bodyPost_ret (v:=ZbE (some ⟨gS,0,none⟩) n c) (by simp [results,Tryz.results18,go_sem,x0]) rfl (HI7.out.done hgl (by omega) (by omega) (by have:=HNN.out;omega))
       · have b0:=HI4.out.b0;have r0:=HI4.out.r0;have rf:=HI4.out.rf;have tf:w4.frozen? ⟨gR,k,none⟩=false:=(by simp [World.frozen?,HR4.out]);have hl0:w.heap.size<w4.heap.size:=(by have:=HI4.out.sz;omega);have hl1:w.heap.size+1<w4.heap.size:=(by have:=HI4.out.sz;omega);have hnR:¬ gR=w.heap.size:=(by omega);have hnR1:¬ gR=w.heap.size+1:=by omega
         go_wp2_with fail
         have HI7:=hI (show SpI w (w4.setCell ⟨gR,k,none⟩ (.slice none 0 0)) g 0 (N+1) n (some ⟨gS,0,none⟩) c from HI4.out.upd ((Below.refl _ w4).setCell (by show w.heap.size+2≤gR;omega) _) (HI4.out.st.rstp (ZfV HR4.out (RowH.nil_ (N+1)) (Nat.zero_le _) (by omega)) (by omega)) hgl);have x9:((w4.setCell ⟨gR,k,none⟩ (.slice none 0 0)).setCell ⟨w.heap.size+1,0,none⟩ (.slice (some ⟨gS,0,none⟩) n c)).cell? ⟨w.heap.size+1,0,none⟩=some (.slice (some ⟨gS,0,none⟩) n c):=World.cell?_setCell_same _ _ _ HI7.out.r0;exact bodyPost_ret (v:=ZbE (some ⟨gS,0,none⟩) n c) (by simp [results,Tryz.results18,go_sem,x9]) rfl (HI7.out.done hgl (by omega) (by omega) (by have:=HNN.out;omega))
   · skip
     have b0:=HI1.out.b0;have f0:=HI1.out.f0;have r0:=HI1.out.r0;have rf:=HI1.out.rf;have hl0:w.heap.size<wa.heap.size:=by have:=HI1.out.sz;omega
     go_wp2_with (at_builtin;refine ZbN rfl (.tmp 19) (.tmp 20) 31 rfl Tryz.underlying31 _ (w.heap.size+2) 1 N A n c HI1.out.st (by omega) (.slice none 0 0) ⟨0,Nat.zero_le _,RowsH.nil_⟩ (by have:=HI1.out.sz;omega) rfl 1 rfl ?_;intro g6 cap6 w6 hm6 hb6 hlt6;have MK6:=hI hm6;have HB6:=hI hb6;have hz6:=hb6.size;have b6:=cJ hb6 b0;have f6:=(hb6.frozen (p:=⟨w.heap.size,0,none⟩) (by show w.heap.size<_;omega)).trans f0;have r6:=cJ hb6 r0;have rf6:=(hb6.frozen (p:=⟨w.heap.size+1,0,none⟩) (by show w.heap.size+1<_;omega)).trans rf;clear hm6 hb6;have hk6:w.heap.size<w6.heap.size:=(by omega);have hk7:w.heap.size+1<w6.heap.size:=(by have:=HI1.out.sz;omega))
     have HI7:=hI ((HI1.out.box HB6.out MK6.out hgl).low);have x9:((w6.setCell ⟨w.heap.size,0,none⟩ (.slice (some ⟨g6,0,none⟩) (n+1) cap6)).setCell ⟨w.heap.size+1,0,none⟩ (.slice (some ⟨g6,0,none⟩) (n+1) cap6)).cell? ⟨w.heap.size+1,0,none⟩=some (.slice (some ⟨g6,0,none⟩) (n+1) cap6):=World.cell?_setCell_same _ _ _ HI7.out.r0;exact bodyPost_ret (v:=ZbE (some ⟨g6,0,none⟩) (n+1) cap6) (by simp [results,Tryz.results18,go_sem,x9]) rfl (HI7.out.done hgl (by omega) (by omega) (by have:=HNN.out;omega))
def CnPost (w:World) (g:Nat) (e:Ending) (w':World):Prop:=∃ r:Int,e=.returned (.int .i64 r)∧CaseOk w' g∧w.grownBy w' (some g)
theorem Zbf (g:Nat) (w:World) (hc:CaseOk w g):Calls Tryz.prog 54 #[.pointer (some ⟨g,0,none⟩)] w (CnPost w g):=by
 go_enter Tryz.func54,Tryz.ntmps54
 go_wp2_with fail
 refine(Zar g 6 w (by omega) hc).mono ?_;rintro e w1 ⟨r,rfl,hr0,hr1,-,hc1,hg1,-⟩;have hr:=hr1 (by omega);have HC:=hI hc1;have HG:=hI hg1;clear hr1 hc1 hg1;have h6:r=0∨r=1∨r=2∨r=3∨r=4∨r=5:=(by omega);clear hr0 hr;rcases h6 with rfl | rfl | rfl | rfl | rfl | rfl
 · go_wp2_with fail
   go_ret;exact⟨_,rfl,HC.out,HG.out⟩
 · go_wp2_with fail
   go_ret;exact⟨_,rfl,HC.out,HG.out⟩
 · go_wp2_with fail
   go_ret;exact⟨_,rfl,HC.out,HG.out⟩
 · go_wp2_with fail
   refine(Zar g 3 w1 (by omega) HC.out).mono ?_;rintro e w2 ⟨q,rfl,-,-,-,hc2,hg2,-⟩;have HC2:=hI hc2;have HG2:=hI (HG.out.trans hg2);clear hc2 hg2
   go_wp2_with fail
   go_ret;exact⟨_,rfl,HC2.out,HG2.out⟩
 · go_wp2_with fail
   refine(Zar g 6 w1 (by omega) HC.out).mono ?_;rintro e w2 ⟨q,rfl,-,-,-,hc2,hg2,-⟩;have HC2:=hI hc2;have HG2:=hI (HG.out.trans hg2);clear hc2 hg2
   go_wp2_with fail
   go_ret;exact⟨_,rfl,HC2.out,HG2.out⟩
 · go_wp2_with fail
   refine(Zar g 6 w1 (by omega) HC.out).mono ?_;rintro e w2 ⟨q,rfl,-,-,-,hc2,hg2,-⟩;have HC2:=hI hc2;have HG2:=hI (HG.out.trans hg2);clear hc2 hg2
   go_wp2_with fail
   go_ret;exact⟨_,rfl,HC2.out,HG2.out⟩
section
variable {w wr wx:World} {g n c m d n' c' m' d':Nat} {t t':Int} {A B A' B':Option Addr}
end
section
variable {w w':World} {B B' n:Nat} {r:Row} {A:Option Addr} {c:Nat} {v:Value}
end
theorem set_split {α:Type} {l:List α} {i:Nat} {a:α} (h:i<l.length):l.set i a=l.take i++a :: l.drop (i+1):=by
 rw [List.set_eq_take_append_cons_drop,if_pos h]
section
variable {w:World} {B0 n c gl cp cq:Nat} {A P Q:Option Addr} {l:List Chg} {ch:Chg}
end
section
variable {w w':World} {base n c:Nat} {A:Option Addr} {L:List NetE} {S:Nat→Prop}
theorem valsAll_at {α:Type} {enc:α→Dat} {n:Nat} (hs:∀ a,(enc a).size=n) {l:List α} {vs:List Value} (h:Dat.ValsAll w S (l.map enc) vs) {i:Nat} (hi:i<l.length) :
  Dat.ValsAll w S ((l.take i).map enc) (vs.take (i*n))∧Dat.Vals w S (enc l[i]) ((vs.drop (i*n)).take n)∧Dat.ValsAll w S ((l.drop (i+1)).map enc) (vs.drop (i*n+n))∧vs=vs.take (i*n)++((vs.drop (i*n)).take n++vs.drop (i*n+n)):=by
 have h1:=(ZaW hs h i (by omega)).1;have h2:=(ZaW hs h (i+1) (by omega)).2;have h3:=(ZaW hs h i (by omega)).2;have e:vs.drop (i*n+n)=(vs.drop (i*n)).drop n:=(by rw [List.drop_drop]);refine⟨h1,?_,by rw [Nat.add_mul,Nat.one_mul] at h2;exact h2,by rw [e,List.take_append_drop,List.take_append_drop]⟩;have h4:l.drop i=l[i] :: l.drop (i+1):=List.drop_eq_getElem_cons hi;rw [h4,List.map_cons] at h3;unfold Dat.ValsAll at h3;obtain⟨a,b,e1,h5,_⟩:=h3;have hl:a.length=n:=(by rw [h5.len,hs]);rw [e1,←hl,List.take_left];exact h5
end
section
variable {α:Type} {enc:α→Dat} {w w':World} {base size n c gl i:Nat} {e:TypeId} {D S0 X:Nat→Prop} {L:List α} {row:List Value}
theorem owns_set {vals:List Value} (h:w.ownsRow base e size (.slice (some ⟨gl,0,none⟩) n c) n vals) (k:Nat) (x:Value):(w.setCell ⟨gl,k,none⟩ x).ownsRow base e size (.slice (some ⟨gl,0,none⟩) n c) n (vals.set k x):=by
 rcases h.2 with ⟨e,_⟩ | ⟨g',cap,cur,e1,b1,hh,b2,b3,b4,b5⟩
 · injection e with e _ _;cases e
 · obtain⟨vs⟩:=cur;have eg:gl=g':=(by injection e1 with e1 _ _;injection e1 with e1;injection e1);subst eg;refine⟨by rw [List.length_set];exact h.1,.inr ⟨gl,cap,(vs.set k x).toArray,e1,b1,Zae hh,b2,b3,by simpa using b4,?_⟩⟩;have b5':vs.take (n*size)=vals:=b5;show (vs.set k x).take (n*size)=_;rw [←b5',List.take_set]
theorem owns_cell {vals:List Value} (h:w.ownsRow base e size (.slice (some ⟨gl,0,none⟩) n c) n vals) {k:Nat} {x:Value} (hk:vals[k]?=some x):w.cell? ⟨gl,k,none⟩=some x∧w.frozen? ⟨gl,k,none⟩=false:=by
 rcases h.2 with ⟨e,_⟩ | ⟨g',cap,cur,e1,b1,hh,b2,b3,b4,b5⟩
 · injection e with e _ _;cases e
 · obtain⟨vs⟩:=cur;have eg:gl=g':=(by injection e1 with e1 _ _;injection e1 with e1;injection e1);subst eg;have b5':vs.take (n*size)=vals:=b5;refine⟨(show w.cell? ⟨gl,k,none⟩=w.cell? ⟨gl,0+k,none⟩ by rw [Nat.zero_add]).trans (Zaa hh k _ ?_),by simp [World.frozen?,hh]⟩;rw [←b5',List.getElem?_take] at hk;split at hk
   · exact hk
   · cases hk
theorem ZgX {A:Option Addr} {l:List Dat} (h:Mk w base S0 e size (.slice A n c) l) (hn:0<n):∃ gl,A=some ⟨gl,0,none⟩∧base≤gl∧gl<w.heap.size:=by
 obtain⟨vals,h1,h2,h3⟩:=h.own;have hn':=h.len;rw [←hn'] at h1;obtain⟨gl,e1,h4,h5,-⟩:=ZbZ h1 hn;exact⟨gl,e1,h4,h5⟩
structure RowO (w:World) (base:Nat) (e:TypeId) (size gl c i:Nat) (enc:α→Dat) (D:Nat→Prop) (L:List α) (row:List Value):Prop where
 own:∃ v0 v2,v0.length=i*size∧w.ownsRow base e size (.slice (some ⟨gl,0,none⟩) L.length c) L.length (v0++(row++v2))∧Dat.ValsAll w D ((L.take i).map enc) v0∧Dat.ValsAll w D ((L.drop (i+1)).map enc) v2
 lt:i<L.length
 len:row.length=size
 dat:∀ b,D b→b<w.heap.size∧b≠gl
theorem RowO.open_ (hs:∀ a,(enc a).size=size) (h:Mk w base S0 e size (.slice (some ⟨gl,0,none⟩) n c) (L.map enc)) (hi:i<L.length):∃ row,RowO w base e size gl c i enc (fun b=>S0 b∨Beh base w (.slice (some ⟨gl,0,none⟩) n c) b) L row∧Dat.Vals w (fun b=>S0 b∨Beh base w (.slice (some ⟨gl,0,none⟩) n c) b) (enc L[i]) row:=by
 obtain⟨vals,h1,h2,h3⟩:=h.own;have hn:=h.len;rw [List.length_map] at hn h1;subst hn;obtain⟨q1,q2,q3,q4⟩:=valsAll_at hs h2 hi;have hl:=q2.len;rw [hs] at hl;refine⟨_,⟨⟨_,_,?_,by rw [←q4];exact h1,q1,q3⟩,hi,hl,fun b hb=>?_⟩,q2⟩
 · have hv:=h1.1;rw [List.length_take];have:i*size≤L.length*size:=Nat.mul_le_mul_right _ (by omega);omega
 · refine⟨(h3 b hb).1,fun e=>(h3 b hb).2 (by rw [e];rfl)⟩
theorem RowO.at_ (h:RowO w base e size gl c i enc D L row) {j:Nat} {x:Value} (hj:row[j]?=some x):w.cell? ⟨gl,i*size+j,none⟩=some x∧w.frozen? ⟨gl,i*size+j,none⟩=false:=by
 obtain⟨v0,v2,h0,h1,h2,h3⟩:=h.own;refine owns_cell h1 ?_;rw [List.getElem?_append_right (by omega),h0,Nat.add_sub_cancel_left,List.getElem?_append_left (List.getElem?_eq_some_iff.1 hj).1];exact hj
theorem RowO.blk (h:RowO w base e size gl c i enc D L row):base≤gl∧gl<w.heap.size:=by
 obtain⟨v0,v2,h0,h1,h2,h3⟩:=h.own;obtain⟨gl',e1,h4,h5,-⟩:=ZbZ h1 (by have:=h.lt;omega);injection e1 with e1;injection e1 with e1;subst e1;exact⟨h4,h5⟩
theorem RowO.set (h:RowO w base e size gl c i enc D L row) {j:Nat} (hj:j<size) (x:Value):RowO (w.setCell ⟨gl,i*size+j,none⟩ x) base e size gl c i enc D L (row.set j x):=by
 obtain⟨v0,v2,h0,h1,h2,h3⟩:=h.own;have h4:=owns_set h1 (i*size+j) x;have hl:=h.len
 have hs:(v0++(row++v2)).set (i*size+j) x=v0++(row.set j x++v2):=by
  rw [←h0];simp [List.set_append,hl,hj]
 rw [hs] at h4;have hk:Same D w (w.setCell ⟨gl,i*size+j,none⟩ x):=fun b hb=>Below.heap_setCell _ ⟨gl,_,none⟩ _ b (h.dat b hb).2;exact⟨⟨v0,v2,h0,h4,Dat.ValsAll.keep hk _ _ h2,Dat.ValsAll.keep hk _ _ h3⟩,h.lt,by rw [List.length_set];exact hl,fun b hb=>⟨by simpa using (h.dat b hb).1,(h.dat b hb).2⟩⟩
theorem RowO.keep (h:RowO w base e size gl c i enc D L row) (hf:Fr X w w') (hX:∀ b,X b→b≠gl∧¬ D b):RowO w' base e size gl c i enc D L row:=by
 obtain⟨v0,v2,h0,h1,h2,h3⟩:=h.own;have hb:=h.blk;have hk:Same D w w':=fun b hb=>hf.block b (h.dat b hb).1 (fun hx=>(hX b hx).2 hb);refine⟨⟨v0,v2,h0,ZaY h1 (fun g hg=>?_),Dat.ValsAll.keep hk _ _ h2,Dat.ValsAll.keep hk _ _ h3⟩,h.lt,h.len,fun b hb=>⟨by have:=(h.dat b hb).1;have:=hf.size;omega,(h.dat b hb).2⟩⟩;have e':gl=g:=(by simpa [Value.ownBlock] using hg);subst e';exact hf.block _ hb.2 (fun hx=>(hX _ hx).1 rfl)
theorem RowO.close (h:RowO w base e size gl c i enc D L row) (hS:∀ b,S0 b→b<base) (hb:base≤w.heap.size) (hD:∀ b,D b→S0 b∨base≤b) (a:α) (hV:Dat.Vals w (fun b=>S0 b∨Beh base w (.slice (some ⟨gl,0,none⟩) L.length c) b) (enc a) row):Mk w base S0 e size (.slice (some ⟨gl,0,none⟩) L.length c) ((L.set i a).map enc):=by
 obtain⟨v0,v2,h0,h1,h2,h3⟩:=h.own;have hg:=h.blk;have hm:∀ b,D b→(S0 b∨Beh base w (.slice (some ⟨gl,0,none⟩) L.length c) b):=fun b hb=>(hD b hb).imp id (fun h9=>⟨h9,(h.dat b hb).1,fun e=>(h.dat b hb).2 (by simpa [Value.ownBlock] using e)⟩);refine⟨⟨v0++(row++v2),by rw [List.length_map,List.length_set];exact h1,?_,fun b hb'=>?_⟩,hS,hb⟩
 · rw [set_split h.lt,List.map_append,List.map_cons];exact Zan (Dat.ValsAll.more hm _ _ h2) (Zan (l:=[enc a]) (Zat hV) (Dat.ValsAll.more hm _ _ h3))
 · rcases hb' with hb' | hb'
   · refine⟨by have:=hS b hb';omega,fun e=>?_⟩;have e':b=gl:=(by simpa [Value.ownBlock] using e);have:=hS b hb';omega
   · exact⟨hb'.2.1,hb'.2.2⟩
theorem Zbc {ops:Array Oper} {rest:List Oper} {o:Oper} {a:Act} {Q:Exit→Act→World→Prop} (hgd:o.guard=none) (x:Operand) (t:TypeId)
  (ho:o.op=.call { callee:=.builtin .append,args:=#[.const (.slice none 0 0),x],argTypes:=#[t,t] })
  (base:Nat) (S0:Nat→Prop) (e:TypeId) (i:TypeInfo) (z:Value) (size bytes:Nat) (ht:Tryz.prog.underlying t=some (.slice e)) (hi:Tryz.prog.info? e=some i) (hz:i.zero=some z)
  (hsize:i.size=size) (hby:i.bytes=bytes) (hzs:z.cells.size=size) (hsz:0<size)
  (w0:World) (hS:∀ b,S0 b→b<base) (hb:base≤w0.heap.size) (l2:List Dat) (B:Option Addr) (m c':Nat) (hsl:Sl w0 S0 B l2) (hpl:Dat.PlainAll l2) (hds:∀ d ∈ l2,d.size=size) (hm:m=l2.length) (hx:a.eval x=.slice B m c')
  (h63:m≤17592186044416) (hbytes:m*bytes≤140737488355328)
  (h:∀ A' cap w',Mk w' base S0 e size (.slice A' m cap) l2→Below base w0 w'→wpList Tryz.prog ops Q rest (a.put o.dst (.slice A' m cap)) w'):wpList Tryz.prog ops Q (o :: rest) a w0:=by
 refine wpList_plain hgd fun K hK=>?_;obtain⟨news,hv,hc⟩:=hsl.vals
 have h9:=wp_append_mks (o:=o) (a:=a) (K:=K) (Q:=Q) (.const (.slice none 0 0)) x t ho base S0 e i z size bytes ht hi hz hsize hby hzs hsz w0 none 0 0 [] (Mk.start hS hb _ _) rfl l2 news (Dat.ValsAll.more (fun b hb=>.inl hb) _ _ hv) hpl hds B m c' hm hx
  (fun hp=>by obtain⟨b,off,e1,-,hc'⟩:=hc (by omega);exact⟨_,e1,fun j u hu=>hc'.add j u hu⟩) (by omega) (by rw [Nat.zero_add];exact hbytes)
 refine h9 (fun A' cap w' hmk hbw=>?_);rw [Nat.zero_add] at hmk ⊢;exact hK _ _ (h A' cap w' hmk hbw)
end
end Go.Proofs.YtkpjjfhfbpfjpaaGreat
