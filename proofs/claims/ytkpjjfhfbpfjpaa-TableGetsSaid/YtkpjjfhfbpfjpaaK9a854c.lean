import Derived.Test.YtkpjjfhfbpfjpaaKc1a552
import Derived.Test.YtkpjjfhfbpfjpaaKb0474c
import Derived.Test.YtkpjjfhfbpfjpaaK39c398
set_option linter.unusedVariables false
set_option linter.unusedSimpArgs false
set_option maxRecDepth 100000
namespace Go.Proofs.Ytkpjjfhfbpfjpaa
open Go.RowKit
theorem infoP:(Try.prog.info? 100).map (fun i=>(i.zero,i.size,i.bytes))=some (some (.agg #[.int .i64 0,.int .i64 0,.int .i64 0,.int .i64 0,.int .i64 0,.int .i64 0,.string ⟨#[]⟩,.int .i64 0,.int .i64 0,.int .i64 0,.int .i64 0,.string ⟨#[]⟩,.slice none 0 0]),13,136):=by kernel_rfl
theorem encPred_plain (p:Pred):(encPred p).Plain:=by cases p;unfold encPred;simp [encOpd,encV,Dat.Plain,Dat.PlainAll,Value.oneCell']
theorem vals_pred {w:World} {S:Nat→Prop} {ao ac alk ali alvk alvi ark ari arvk arvi:Int} {alvt arvt:ByteArray} {args:List Pred} {AA:Option Addr} {ca:Nat} (hc:args.length≤ca) (h1:alvt.size≤9223372036854775807) (h2:arvt.size≤9223372036854775807) (h:PredS w S AA args):Dat.Vals w S (encPred (.mk ao ac ⟨alk,ali,⟨alvk,alvi,alvt⟩⟩ ⟨ark,ari,⟨arvk,arvi,arvt⟩⟩ args)) #[.int .i64 ao,.int .i64 ac,.int .i64 alk,.int .i64 ali,.int .i64 alvk,.int .i64 alvi,.string alvt,.int .i64 ark,.int .i64 ari,.int .i64 arvk,.int .i64 arvi,.string arvt,.slice AA args.length ca].toList:=by
 unfold encPred
 simp only [Dat.Vals,Dat.ValsAll,encOpd,encV,litOk_int,litOk_string]
 refine⟨[.int .i64 ao],_,rfl,⟨rfl,trivial⟩,[.int .i64 ac],_,rfl,⟨rfl,trivial⟩,[.int .i64 alk,.int .i64 ali,.int .i64 alvk,.int .i64 alvi,.string alvt],_,rfl,?_,[.int .i64 ark,.int .i64 ari,.int .i64 arvk,.int .i64 arvi,.string arvt],_,rfl,?_,[.slice AA args.length ca],[],rfl,?_,rfl⟩
 · exact⟨[.int .i64 alk],_,rfl,⟨rfl,trivial⟩,[.int .i64 ali],_,rfl,⟨rfl,trivial⟩,[.int .i64 alvk,.int .i64 alvi,.string alvt],[],rfl,⟨[.int .i64 alvk],_,rfl,⟨rfl,trivial⟩,[.int .i64 alvi],_,rfl,⟨rfl,trivial⟩,[.string alvt],[],rfl,⟨rfl,h1⟩,rfl⟩,rfl⟩
 · exact⟨[.int .i64 ark],_,rfl,⟨rfl,trivial⟩,[.int .i64 ari],_,rfl,⟨rfl,trivial⟩,[.int .i64 arvk,.int .i64 arvi,.string arvt],[],rfl,⟨[.int .i64 arvk],_,rfl,⟨rfl,trivial⟩,[.int .i64 arvi],_,rfl,⟨rfl,trivial⟩,[.string arvt],[],rfl,⟨rfl,h2⟩,rfl⟩,rfl⟩
 · rw [encPreds_map]
   exact⟨AA,ca,by rw [List.length_map],by rw [List.length_map];exact hc,h⟩
theorem wrap_d {n:Nat} (h:n≤1000):IntKind.i64.wrap (n:Int)=n:=by
 simp [IntKind.wrap,IntKind.bits,IntKind.signed]
 omega
theorem fr13 {w:World} {B:Nat} {a0 a1 a2 a3 a4 a5 a6 a7 a8 a9 a10 a11 a12:Value}:Fr (fun b=>b=B) w (((((((((((((w.setCell ⟨B,0,none⟩ a0).setCell ⟨B,1,none⟩ a1).setCell ⟨B,2,none⟩ a2).setCell ⟨B,3,none⟩ a3).setCell ⟨B,4,none⟩ a4).setCell ⟨B,5,none⟩ a5).setCell ⟨B,6,none⟩ a6).setCell ⟨B,7,none⟩ a7).setCell ⟨B,8,none⟩ a8).setCell ⟨B,9,none⟩ a9).setCell ⟨B,10,none⟩ a10).setCell ⟨B,11,none⟩ a11).setCell ⟨B,12,none⟩ a12):=by
 repeat (refine Fr.setCell (X:=fun b=>b=B) ?_ _ (fun _=>rfl))
 exact Fr.refl _ _
structure AoI (w w1 wr:World) (g:Nat) (op:Int) (cols params:List Int) (d m:Nat) (A:Option Addr) (n c:Nat) (L:List Pred):Prop where
 mkl:Mk wr (w1.heap.size+1) (fun _=>False) 100 13 (.slice A n c) (L.map encPred)
 ml:L.length=m
 gen:∀ p ∈ L,GenP cols params (ND d) (d+1) p
 pb:wr.heap[w1.heap.size]?=some (.cells #[.int .i64 op,.int .i64 0,.int .i64 0,.int .i64 0,.int .i64 0,.int .i64 0,.string ⟨#[]⟩,.int .i64 0,.int .i64 0,.int .i64 0,.int .i64 0,.string ⟨#[]⟩,.slice A n c] 100 (0,0))
 case:CaseOk wr g
 gr:w.grownBy wr (some g)
 rb:wr.heap[w.heap.size]?=some zP
theorem AoI.len {w w1 wr:World} {g:Nat} {op:Int} {cols params:List Int} {d m:Nat} {A:Option Addr} {n c:Nat} {L:List Pred} (h:AoI w w1 wr g op cols params d m A n c L):n=L.length:=by have:=h.mkl.len;simpa using this
theorem AoI.next {w w1 wr wt w7:World} {g:Nat} {op:Int} {cols params:List Int} {d m:Nat} {A A':Option Addr} {n n' c c':Nat} {L:List Pred} {p:Pred} (h:AoI w w1 wr g op cols params d m A n c L) (hgl:g<w.heap.size) (hlt:w.heap.size<w1.heap.size) (hg:wr.grownBy wt (some g)) (hc:CaseOk wt g) (hb:Below (w1.heap.size+1) wt w7) (hm:Mk w7 (w1.heap.size+1) (fun _=>False) 100 13 (.slice A' n' c') (L.map encPred++[encPred p])) (hp:GenP cols params (ND d) (d+1) p) :
  AoI w w1 (w7.setCell ⟨w1.heap.size,12,none⟩ (.slice A' n' c')) g op cols params d (m+1) A' n' c' (L++[p]):=by
 have hwr:=h.mkl.hi
 have hF:Fr (fun b=>b=w1.heap.size) w7 (w7.setCell ⟨w1.heap.size,12,none⟩ (.slice A' n' c')):=Fr.setCell (X:=fun b=>b=w1.heap.size) (Fr.refl _ _) _ (fun _=>rfl)
 have hwt:=hg.size
 have hk:∀ b,b<w1.heap.size+1→b≠g→w7.heap[b]?=wr.heap[b]?:=fun b hb' hne=>(hb.block b hb').trans (hg.block b (by omega) (fun e=>hne (by injection e)))
 refine⟨by rw [List.map_append];exact hm.keep hF (fun b hb=>⟨by omega,fun h=>h⟩),by simp [h.ml],fun q hq=>?_,?_,?_,?_,?_⟩
 · rcases List.mem_append.1 hq with hq | hq
   · exact h.gen q hq
   · rw [List.mem_singleton] at hq;rw [hq];exact hp
 · have h1:w7.heap[w1.heap.size]?=some (.cells [.int .i64 op,.int .i64 0,.int .i64 0,.int .i64 0,.int .i64 0,.int .i64 0,.string ⟨#[]⟩,.int .i64 0,.int .i64 0,.int .i64 0,.int .i64 0,.string ⟨#[]⟩,.slice A n c].toArray 100 (0,0)):=(hk _ (by omega) (by omega)).trans h.pb
   have h2:=setCell_block (k:=12) (v:=.slice A' n' c') h1
   simpa using h2
 · exact case_set (hc.keep (fun b hb'=>hb.block b (by omega))) (by omega)
 · have h1:w.grownBy wt (some g):=h.gr.trans hg
   have hgs:=h.gr.size
   exact grown_s ⟨hb.os.trans h1.os,hb.tape.trans h1.tape,hb.output.trans h1.output,Nat.le_trans h1.size hb.size,fun b hb' hne=>(hb.block b (by omega)).trans (h1.block b hb' hne)⟩ (by omega)
 · exact far_set (by omega) ((hk _ (by omega) (by omega)).trans h.rb)
set_option maxHeartbeats 16000000 in
theorem tree_succ (g:Nat) (K B:Option Addr) (ck cb:Nat) (cols params:List Int) (hl:cols.length≤100000) (hl2:params.length≤100000) (hpos:0<cols.length) (hkk:kindsOk cols=true) (d:Nat) (hdd0:d≤1000) (ih:∀ (S:Nat→Prop) (w:World),IntS w S K cols→IntS w S B params→(∀ b,S b→b<w.heap.size∧b≠g)→CaseOk w g →
  Calls Try.prog 88 #[.pointer (some ⟨g,0,none⟩),.slice K cols.length ck,.slice B params.length cb,.int .i64 (d:Int)] w (TreePost cols params d w g)):∀ (S:Nat→Prop) (w:World),IntS w S K cols→IntS w S B params→(∀ b,S b→b<w.heap.size∧b≠g)→CaseOk w g →
  Calls Try.prog 88 #[.pointer (some ⟨g,0,none⟩),.slice K cols.length ck,.slice B params.length cb,.int .i64 ((d:Int)+1)] w (TreePost cols params (d+1) w g):=by
  obtain⟨i0,hi,jz0,jz1,jz2⟩:=info_parts infoP
  have HKK:=Lib.hid hkk
  have IH:=Lib.hid ih
  clear hkk ih
  intro S w hK hB hS hc
  have hdd:decide ((d:Int)+1<1)=false:=decide_eq_false (by omega)
  have hdd1:(d:Int)≤1000:=by omega
  have hdd2:(0:Int)≤d:=by omega
  have hdw:=wrap_d hdd0
  clear hdd0
  obtain⟨b1,o1,rfl,hb1,-⟩:=hK.at_ hpos
  have hgl:=hc.lt
  have hSl:∀ b,S b→b<w.heap.size:=fun b hb=>(hS b hb).1
  have HK:=Lib.hid hK
  have HBB:=Lib.hid hB
  have HS:=Lib.hid hS
  have HC0:=Lib.hid (hc.keep (w':=w.alloc zP) (fun b hb=>Below.heap_alloc _ _ _ (by omega)))
  have hza:(w.alloc zP).heap.size=w.heap.size+1:=by simp
  have HG0:=Lib.hid (World.grownBy_alloc w zP (some g))
  have HR0:=Lib.hid (heap_alloc_new w zP)
  have hlb1:b1<w.heap.size:=hSl b1 hb1
  clear hK hB hc hS
  go_enter Try.func88,Try.ntmps88
  go_wp2_with fail
  refine(int_any g 9 _ (by omega) HC0.out).mono ?_
  rintro e w1 ⟨r,rfl,h0,h1,-,hc1,hg1,hs1⟩
  have hr:=h1 (by omega)
  have HC:=Lib.hid hc1
  have HG:=Lib.hid (HG0.out.trans hg1)
  have HR:=Lib.hid ((hg1.block w.heap.size (by omega) (by intro e;injection e with e;omega)).trans HR0.out)
  have hz1:w.heap.size<w1.heap.size:=by omega
  clear hc1 hg1 h1 HC0 HG0 HR0
  by_cases hr0:r=0
  · subst hr0
    go_wp2_with fail
    refine(bool_any g 2 _ (by omega) (by omega) HC.out).mono ?_
    rintro e w2 ⟨bb,rfl,hcb,hgb,hsb⟩
    have HC:=Lib.hid hcb
    have HR:=Lib.hid ((hgb.block w.heap.size (by omega) (by intro e;injection e with e;omega)).trans HR.out)
    have HG:=Lib.hid (HG.out.trans hgb)
    have hz2:w.heap.size<w2.heap.size:=by omega
    clear hcb hgb
    cases bb
    · go_wp2_with fail
      refine(int_any g cols.length _ (by omega) HC.out).mono ?_
      rintro e wa ⟨j,rfl,j0,j1,-,hca,hga,hsa⟩
      have hj:=j1 (by omega)
      obtain⟨jn,rfl⟩:=Int.eq_ofNat_of_zero_le j0
      have hjn:jn<cols.length:=by omega
      have HC:=Lib.hid hca
      have HR:=Lib.hid ((hga.block w.heap.size (by omega) (by intro e;injection e with e;omega)).trans HR.out)
      have HG:=Lib.hid (HG.out.trans hga)
      obtain⟨-,d1⟩:=ints_cell (HK.out.keep ((fr_of HG.out).same HS.out)) hjn
      have HKD:=Lib.hid (kindsOk_at HKK.out hjn)
      generalize cols.getD jn 0=kd at d1 HKD
      have HKZ:=Lib.hid (show kd≠0 by intro e;have:=HKD.out;rw [e] at this;cases this)
      have hza':w.heap.size<wa.heap.size:=by omega
      have hlb:b1<wa.heap.size:=by omega
      clear hca hga j1
      go_wp2_with fail
      refine(int_any g 6 _ (by omega) HC.out).mono ?_
      rintro e wc ⟨r6,rfl,p0,p1,-,hcc,hgc,hsc⟩
      have hr6:=p1 (by omega)
      have HC:=Lib.hid hcc
      have HR:=Lib.hid ((hgc.block w.heap.size (by omega) (by intro e;injection e with e;omega)).trans HR.out)
      have HG:=Lib.hid (HG.out.trans hgc)
      clear hcc hgc p1 d1
      go_wp2_with fail
      refine(operand_any g (some ⟨b1,o1,none⟩) B ck cb cols params kd S _ (HK.out.keep ((fr_of HG.out).same HS.out)) (HBB.out.keep ((fr_of HG.out).same HS.out)) (fun b hb=>⟨by have:=(HS.out b hb).1;omega,(HS.out b hb).2⟩) hl hl2 HKD.out HC.out).mono ?_
      rintro e wo ⟨⟨lk,li,⟨lvk,lvi,lvt⟩⟩,rfl,hlo,hco,hgo⟩
      have HLO:=Lib.hid hlo
      have HC:=Lib.hid hco
      have HR:=Lib.hid ((hgo.block w.heap.size (by omega) (by intro e;injection e with e;omega)).trans HR.out)
      have HG:=Lib.hid (HG.out.trans hgo)
      have hzo:=hgo.size
      clear hco hgo hlo
      go_wp2_with fail
      refine(value_any g kd _ HC.out).mono ?_
      rintro e wv ⟨⟨rvk,rvi,rvt⟩,rfl,hv,hcv,hgv0⟩
      have HRO:=Lib.hid (opd_val (cols:=cols) (params:=params) HKD.out hv)
      have HC:=Lib.hid hcv
      have HR:=Lib.hid ((hgv0.block w.heap.size (by omega) (by intro e;injection e with e;omega)).trans HR.out)
      have HG:=Lib.hid (HG.out.trans hgv0)
      have hzv:=hgv0.size
      have hzv':w.heap.size<wv.heap.size:=by omega
      have hgv:g<wv.heap.size:=by omega
      have hwv:w.heap.size≤wv.heap.size:=by omega
      have hnv:w.heap.size≠wv.heap.size:=by omega
      have hnv2:wv.heap.size≠w.heap.size:=by omega
      clear hcv hgv0 hv
      go_wp2_with fail
      have HPB:=Lib.hid (heap_alloc_new wv (.cells #[.int .i64 3,.int .i64 (1+r6),.int .i64 lk,.int .i64 li,.int .i64 lvk,.int .i64 lvi,.string lvt,.int .i64 3,.int .i64 0,.int .i64 rvk,.int .i64 rvi,.string rvt,.slice none 0 0] 100))
      have HC:=Lib.hid (HC.out.keep (w':=wv.alloc (.cells #[.int .i64 3,.int .i64 (1+r6),.int .i64 lk,.int .i64 li,.int .i64 lvk,.int .i64 lvi,.string lvt,.int .i64 3,.int .i64 0,.int .i64 rvk,.int .i64 rvi,.string rvt,.slice none 0 0] 100)) (fun b hb=>Below.heap_alloc _ _ _ (by omega)))
      have HR:=Lib.hid ((Below.heap_alloc wv (.cells #[.int .i64 3,.int .i64 (1+r6),.int .i64 lk,.int .i64 li,.int .i64 lvk,.int .i64 lvi,.string lvt,.int .i64 3,.int .i64 0,.int .i64 rvk,.int .i64 rvi,.string rvt,.slice none 0 0] 100) _ hzv').trans HR.out)
      have HG:=Lib.hid (HG.out.trans (World.grownBy_alloc wv (.cells #[.int .i64 3,.int .i64 (1+r6),.int .i64 lk,.int .i64 li,.int .i64 lvk,.int .i64 lvi,.string lvt,.int .i64 3,.int .i64 0,.int .i64 rvk,.int .i64 rvi,.string rvt,.slice none 0 0] 100) (some g)))
      refine(bool_any g 3 _ (by omega) (by omega) HC.out).mono ?_
      rintro e wd ⟨bb3,rfl,hcb,hgb,hsb⟩
      have HPB:=Lib.hid ((hgb.block wv.heap.size (by simp) (by intro e;injection e with e;omega)).trans HPB.out)
      have HR:=Lib.hid ((hgb.block w.heap.size (by simp;omega) (by intro e;injection e with e;omega)).trans HR.out)
      have HC:=Lib.hid hcb
      have HG:=Lib.hid (HG.out.trans hgb)
      have hzd:wv.heap.size<wd.heap.size:=by have:=hgb.size;simp at this;omega
      have hzd':w.heap.size<wd.heap.size:=by omega
      clear hcb hgb hsb
      have HI:=Lib.hid (show CmpI w wd g wv.heap.size (1+r6) cols params kd ⟨lk,li,⟨lvk,lvi,lvt⟩⟩ ⟨3,0,⟨rvk,rvi,rvt⟩⟩ from ⟨HPB.out,HR.out,HC.out,HG.out,HLO.out,HRO.out⟩)
      clear HPB HR HC HG HLO HRO
      go_upto_if 58 with fail
      go_cut [11] (fun p W=>∃ (sk si svk svi:Int) (svt:ByteArray),p=.pointer (some ⟨wv.heap.size,0,none⟩)∧CmpI w W g wv.heap.size (1+r6) cols params kd ⟨lk,li,⟨lvk,lvi,lvt⟩⟩ ⟨sk,si,⟨svk,svi,svt⟩⟩)
      case first =>
       cases bb3
       · go_wp2_with fail
         go_meet
         exact⟨3,0,rvk,rvi,rvt,rfl,HI.out⟩
       · go_wp2_with fail
         refine(operand_any g (some ⟨b1,o1,none⟩) B ck cb cols params kd S _ (HK.out.keep ((fr_of HI.out.gr).same HS.out)) (HBB.out.keep ((fr_of HI.out.gr).same HS.out)) (fun b hb=>⟨by have:=(HS.out b hb).1;omega,(HS.out b hb).2⟩) hl hl2 HKD.out HI.out.case).mono ?_
         rintro e ws ⟨⟨sk,si,⟨svk,svi,svt⟩⟩,rfl,hso,hcs,hgs⟩
         have HI2:=Lib.hid (HI.out.keep hwv hgv hnv hgs hcs hgl)
         have HSO:=Lib.hid hso
         have hp13:=HI2.out.pb
         obtain⟨y0,f0,y1,f1,y2,f2,y3,f3,y4,f4,y5,f5,y6,f6,y7,f7,y8,f8,y9,f9,y10,f10,y11,f11,y12,f12⟩:=cells13 hp13
         have hzs:wv.heap.size<ws.heap.size:=lt_of_heap hp13
         clear hcs hgs hso hp13
         go_wp2_with fail
         go_meet
         exact⟨sk,si,svk,svi,svt,rfl,HI2.out.right hwv hgv hnv HSO.out⟩
      case rest =>
       obtain⟨sk,si,svk,svi,svt,rfl,hi2⟩:=hcut
       have HI2:=Lib.hid hi2
       clear hi2 HI
       go_wp2_with fail
       refine(bool_any g 6 _ (by omega) (by omega) HI2.out.case).mono ?_
       rintro e wf ⟨bb6,rfl,hcb,hgb,hsb⟩
       have HI3:=Lib.hid (HI2.out.keep hwv hgv hnv hgb hcb hgl)
       clear hcb hgb hsb HI2
       go_upto_if 66 with fail
       go_cut [11] (fun p W=>∃ (ak ai avk avi:Int) (avt:ByteArray) (bk bi bvk bvi:Int) (bvt:ByteArray),p=.pointer (some ⟨wv.heap.size,0,none⟩)∧CmpI w W g wv.heap.size (1+r6) cols params kd ⟨ak,ai,⟨avk,avi,avt⟩⟩ ⟨bk,bi,⟨bvk,bvi,bvt⟩⟩)
       case first =>
        cases bb6
        · go_wp2_with fail
          go_meet
          exact⟨_,_,_,_,_,_,_,_,_,_,rfl,HI3.out⟩
        · have hp13:=HI3.out.pb
          obtain⟨y0,f0,y1,f1,y2,f2,y3,f3,y4,f4,y5,f5,y6,f6,y7,f7,y8,f8,y9,f9,y10,f10,y11,f11,y12,f12⟩:=cells13 hp13
          have hzf:wv.heap.size<wf.heap.size:=lt_of_heap hp13
          clear hp13
          go_wp2_with fail
          go_meet
          exact⟨_,_,_,_,_,_,_,_,_,_,rfl,HI3.out.swap hwv hgv hnv⟩
       case rest =>
        obtain⟨ak,ai,avk,avi,avt,bk,bi,bvk,bvi,bvt,rfl,hi4⟩:=hcut
        have HI4:=Lib.hid hi4
        have hp13:=hi4.pb
        have hr13:=hi4.rb
        obtain⟨y0,f0,y1,f1,y2,f2,y3,f3,y4,f4,y5,f5,y6,f6,y7,f7,y8,f8,y9,f9,y10,f10,y11,f11,y12,f12⟩:=cells13 hp13
        obtain⟨z0,q0,z1,q1,z2,q2,z3,q3,z4,q4,z5,q5,z6,q6,z7,q7,z8,q8,z9,q9,z10,q10,z11,q11,z12,q12⟩:=cells13 hr13
        have hzc:wv.heap.size<wc.heap.size:=lt_of_heap hp13
        have hzc':w.heap.size<wc.heap.size:=by omega
        clear hi4 HI3 hp13 hr13
        go_wp2_with fail
        have hb13:=put13 (a0:=.int .i64 3) (a1:=.int .i64 (1+r6)) (a2:=.int .i64 ak) (a3:=.int .i64 ai) (a4:=.int .i64 avk) (a5:=.int .i64 avi) (a6:=.string avt) (a7:=.int .i64 bk) (a8:=.int .i64 bi) (a9:=.int .i64 bvk) (a10:=.int .i64 bvi) (a11:=.string bvt) (a12:=.slice none 0 0) HI4.out.rb
        obtain⟨u0,-,u1,-,u2,-,u3,-,u4,-,u5,-,u6,-,u7,-,u8,-,u9,-,u10,-,u11,-,u12,-⟩:=cells13 hb13
        exact bodyPost_ret (v:=.agg #[.int .i64 3,.int .i64 (1+r6),.int .i64 ak,.int .i64 ai,.int .i64 avk,.int .i64 avi,.string avt,.int .i64 bk,.int .i64 bi,.int .i64 bvk,.int .i64 bvi,.string bvt,.slice none 0 0]) (by simp [results,Try.results88,go_sem,u0,u1,u2,u3,u4,u5,u6,u7,u8,u9,u10,u11,u12]) rfl ⟨3,1+r6,⟨ak,ai,⟨avk,avi,avt⟩⟩,⟨bk,bi,⟨bvk,bvi,bvt⟩⟩,[],none,0,rfl,(GenP.cmp (by omega) (by omega) HKZ.out HI4.out.lo.1 HI4.out.ro.1).more ND_pos (by omega),Sl.nil_,Nat.le_refl _,HI4.out.lo.2,HI4.out.ro.2,case_set (case_set (case_set (case_set (case_set (case_set (case_set (case_set (case_set (case_set (case_set (case_set (case_set (HI4.out.case) hgl) hgl) hgl) hgl) hgl) hgl) hgl) hgl) hgl) hgl) hgl) hgl) hgl,grown_s (grown_s (grown_s (grown_s (grown_s (grown_s (grown_s (grown_s (grown_s (grown_s (grown_s (grown_s (grown_s (HI4.out.gr) (Nat.le_refl _)) (Nat.le_refl _)) (Nat.le_refl _)) (Nat.le_refl _)) (Nat.le_refl _)) (Nat.le_refl _)) (Nat.le_refl _)) (Nat.le_refl _)) (Nat.le_refl _)) (Nat.le_refl _)) (Nat.le_refl _)) (Nat.le_refl _)) (Nat.le_refl _)⟩
    · go_wp2_with fail
      refine(int_any g 2 _ (by omega) HC.out).mono ?_
      rintro e wa ⟨j,rfl,j0,j1,-,hca,hga,hsa⟩
      have HJ:=Lib.hid (show 1+j=1∨1+j=2 by have:=j1 (by omega);omega)
      have HC:=Lib.hid hca
      have HR:=Lib.hid ((hga.block w.heap.size (by omega) (by intro e;injection e with e;omega)).trans HR.out)
      have HG:=Lib.hid (HG.out.trans hga)
      have hza':w.heap.size<wa.heap.size:=by omega
      have hjj:=j1 (by omega)
      clear hca hga j1
      have hr13:=HR.out
      obtain⟨y0,f0,y1,f1,y2,f2,y3,f3,y4,f4,y5,f5,y6,f6,y7,f7,y8,f8,y9,f9,y10,f10,y11,f11,y12,f12⟩:=cells13 hr13
      clear hr13
      go_wp2_with fail
      have hb13:=put13 (a0:=.int .i64 (1+j)) (a1:=.int .i64 0) (a2:=.int .i64 0) (a3:=.int .i64 0) (a4:=.int .i64 0) (a5:=.int .i64 0) (a6:=.string ⟨#[]⟩) (a7:=.int .i64 0) (a8:=.int .i64 0) (a9:=.int .i64 0) (a10:=.int .i64 0) (a11:=.string ⟨#[]⟩) (a12:=.slice none 0 0) HR.out
      obtain⟨u0,-,u1,-,u2,-,u3,-,u4,-,u5,-,u6,-,u7,-,u8,-,u9,-,u10,-,u11,-,u12,-⟩:=cells13 hb13
      exact bodyPost_ret (v:=.agg #[.int .i64 (1+j),.int .i64 0,.int .i64 0,.int .i64 0,.int .i64 0,.int .i64 0,.string ⟨#[]⟩,.int .i64 0,.int .i64 0,.int .i64 0,.int .i64 0,.string ⟨#[]⟩,.slice none 0 0]) (by simp [results,Try.results88,go_sem,u0,u1,u2,u3,u4,u5,u6,u7,u8,u9,u10,u11,u12]) rfl ⟨1+j,0,⟨0,0,v0⟩,⟨0,0,v0⟩,[],none,0,rfl,(GenP.leaf HJ.out).more ND_pos (by omega),Sl.nil_,Nat.le_refl _,by decide,by decide,case_set (case_set (case_set (case_set (case_set (case_set (case_set (case_set (case_set (case_set (case_set (case_set (case_set (HC.out) hgl) hgl) hgl) hgl) hgl) hgl) hgl) hgl) hgl) hgl) hgl) hgl) hgl,grown_s (grown_s (grown_s (grown_s (grown_s (grown_s (grown_s (grown_s (grown_s (grown_s (grown_s (grown_s (grown_s (HG.out) (Nat.le_refl _)) (Nat.le_refl _)) (Nat.le_refl _)) (Nat.le_refl _)) (Nat.le_refl _)) (Nat.le_refl _)) (Nat.le_refl _)) (Nat.le_refl _)) (Nat.le_refl _)) (Nat.le_refl _)) (Nat.le_refl _)) (Nat.le_refl _)) (Nat.le_refl _)⟩
  · have hr0':(r == 0)=false:=beq_eq_false_iff_ne.2 hr0
    by_cases hr6:r<6
    · clear hr0
      go_wp2_with fail
      refine(int_any g cols.length _ (by omega) HC.out).mono ?_
      rintro e wa ⟨j,rfl,j0,j1,-,hca,hga,hsa⟩
      have hj:=j1 (by omega)
      obtain⟨jn,rfl⟩:=Int.eq_ofNat_of_zero_le j0
      have hjn:jn<cols.length:=by omega
      have HC:=Lib.hid hca
      have HR:=Lib.hid ((hga.block w.heap.size (by omega) (by intro e;injection e with e;omega)).trans HR.out)
      have HG:=Lib.hid (HG.out.trans hga)
      obtain⟨-,d1⟩:=ints_cell (HK.out.keep ((fr_of HG.out).same HS.out)) hjn
      have HKD:=Lib.hid (kindsOk_at HKK.out hjn)
      generalize cols.getD jn 0=kd at d1 HKD
      have HKZ:=Lib.hid (show kd≠0 by intro e;have:=HKD.out;rw [e] at this;cases this)
      have hza':w.heap.size<wa.heap.size:=by omega
      have hlb:b1<wa.heap.size:=by omega
      clear hca hga j1
      go_wp2_with fail
      refine(int_any g 6 _ (by omega) HC.out).mono ?_
      rintro e wc ⟨r6,rfl,p0,p1,-,hcc,hgc,hsc⟩
      have hq6:=p1 (by omega)
      have HC:=Lib.hid hcc
      have HR:=Lib.hid ((hgc.block w.heap.size (by omega) (by intro e;injection e with e;omega)).trans HR.out)
      have HG:=Lib.hid (HG.out.trans hgc)
      clear hcc hgc p1 d1
      go_wp2_with fail
      refine(operand_any g (some ⟨b1,o1,none⟩) B ck cb cols params kd S _ (HK.out.keep ((fr_of HG.out).same HS.out)) (HBB.out.keep ((fr_of HG.out).same HS.out)) (fun b hb=>⟨by have:=(HS.out b hb).1;omega,(HS.out b hb).2⟩) hl hl2 HKD.out HC.out).mono ?_
      rintro e wo ⟨⟨lk,li,⟨lvk,lvi,lvt⟩⟩,rfl,hlo,hco,hgo⟩
      have HLO:=Lib.hid hlo
      have HC:=Lib.hid hco
      have HR:=Lib.hid ((hgo.block w.heap.size (by omega) (by intro e;injection e with e;omega)).trans HR.out)
      have HG:=Lib.hid (HG.out.trans hgo)
      have hzo:=hgo.size
      clear hco hgo hlo
      go_wp2_with fail
      refine(value_any g kd _ HC.out).mono ?_
      rintro e wv ⟨⟨rvk,rvi,rvt⟩,rfl,hv,hcv,hgv0⟩
      have HRO:=Lib.hid (opd_val (cols:=cols) (params:=params) HKD.out hv)
      have HC:=Lib.hid hcv
      have HR:=Lib.hid ((hgv0.block w.heap.size (by omega) (by intro e;injection e with e;omega)).trans HR.out)
      have HG:=Lib.hid (HG.out.trans hgv0)
      have hzv:=hgv0.size
      have hzv':w.heap.size<wv.heap.size:=by omega
      have hgv:g<wv.heap.size:=by omega
      have hwv:w.heap.size≤wv.heap.size:=by omega
      have hnv:w.heap.size≠wv.heap.size:=by omega
      have hnv2:wv.heap.size≠w.heap.size:=by omega
      clear hcv hgv0 hv
      go_wp2_with fail
      have HPB:=Lib.hid (heap_alloc_new wv (.cells #[.int .i64 3,.int .i64 (1+r6),.int .i64 lk,.int .i64 li,.int .i64 lvk,.int .i64 lvi,.string lvt,.int .i64 3,.int .i64 0,.int .i64 rvk,.int .i64 rvi,.string rvt,.slice none 0 0] 100))
      have HC:=Lib.hid (HC.out.keep (w':=wv.alloc (.cells #[.int .i64 3,.int .i64 (1+r6),.int .i64 lk,.int .i64 li,.int .i64 lvk,.int .i64 lvi,.string lvt,.int .i64 3,.int .i64 0,.int .i64 rvk,.int .i64 rvi,.string rvt,.slice none 0 0] 100)) (fun b hb=>Below.heap_alloc _ _ _ (by omega)))
      have HR:=Lib.hid ((Below.heap_alloc wv (.cells #[.int .i64 3,.int .i64 (1+r6),.int .i64 lk,.int .i64 li,.int .i64 lvk,.int .i64 lvi,.string lvt,.int .i64 3,.int .i64 0,.int .i64 rvk,.int .i64 rvi,.string rvt,.slice none 0 0] 100) _ hzv').trans HR.out)
      have HG:=Lib.hid (HG.out.trans (World.grownBy_alloc wv (.cells #[.int .i64 3,.int .i64 (1+r6),.int .i64 lk,.int .i64 li,.int .i64 lvk,.int .i64 lvi,.string lvt,.int .i64 3,.int .i64 0,.int .i64 rvk,.int .i64 rvi,.string rvt,.slice none 0 0] 100) (some g)))
      refine(bool_any g 3 _ (by omega) (by omega) HC.out).mono ?_
      rintro e wd ⟨bb3,rfl,hcb,hgb,hsb⟩
      have HPB:=Lib.hid ((hgb.block wv.heap.size (by simp) (by intro e;injection e with e;omega)).trans HPB.out)
      have HR:=Lib.hid ((hgb.block w.heap.size (by simp;omega) (by intro e;injection e with e;omega)).trans HR.out)
      have HC:=Lib.hid hcb
      have HG:=Lib.hid (HG.out.trans hgb)
      have hzd:wv.heap.size<wd.heap.size:=by have:=hgb.size;simp at this;omega
      have hzd':w.heap.size<wd.heap.size:=by omega
      clear hcb hgb hsb
      have HI:=Lib.hid (show CmpI w wd g wv.heap.size (1+r6) cols params kd ⟨lk,li,⟨lvk,lvi,lvt⟩⟩ ⟨3,0,⟨rvk,rvi,rvt⟩⟩ from ⟨HPB.out,HR.out,HC.out,HG.out,HLO.out,HRO.out⟩)
      clear HPB HR HC HG HLO HRO
      go_upto_if 58 with fail
      go_cut [11] (fun p W=>∃ (sk si svk svi:Int) (svt:ByteArray),p=.pointer (some ⟨wv.heap.size,0,none⟩)∧CmpI w W g wv.heap.size (1+r6) cols params kd ⟨lk,li,⟨lvk,lvi,lvt⟩⟩ ⟨sk,si,⟨svk,svi,svt⟩⟩)
      case first =>
       cases bb3
       · go_wp2_with fail
         go_meet
         exact⟨3,0,rvk,rvi,rvt,rfl,HI.out⟩
       · go_wp2_with fail
         refine(operand_any g (some ⟨b1,o1,none⟩) B ck cb cols params kd S _ (HK.out.keep ((fr_of HI.out.gr).same HS.out)) (HBB.out.keep ((fr_of HI.out.gr).same HS.out)) (fun b hb=>⟨by have:=(HS.out b hb).1;omega,(HS.out b hb).2⟩) hl hl2 HKD.out HI.out.case).mono ?_
         rintro e ws ⟨⟨sk,si,⟨svk,svi,svt⟩⟩,rfl,hso,hcs,hgs⟩
         have HI2:=Lib.hid (HI.out.keep hwv hgv hnv hgs hcs hgl)
         have HSO:=Lib.hid hso
         have hp13:=HI2.out.pb
         obtain⟨y0,f0,y1,f1,y2,f2,y3,f3,y4,f4,y5,f5,y6,f6,y7,f7,y8,f8,y9,f9,y10,f10,y11,f11,y12,f12⟩:=cells13 hp13
         have hzs:wv.heap.size<ws.heap.size:=lt_of_heap hp13
         clear hcs hgs hso hp13
         go_wp2_with fail
         go_meet
         exact⟨sk,si,svk,svi,svt,rfl,HI2.out.right hwv hgv hnv HSO.out⟩
      case rest =>
       obtain⟨sk,si,svk,svi,svt,rfl,hi2⟩:=hcut
       have HI2:=Lib.hid hi2
       clear hi2 HI
       go_wp2_with fail
       refine(bool_any g 6 _ (by omega) (by omega) HI2.out.case).mono ?_
       rintro e wf ⟨bb6,rfl,hcb,hgb,hsb⟩
       have HI3:=Lib.hid (HI2.out.keep hwv hgv hnv hgb hcb hgl)
       clear hcb hgb hsb HI2
       go_upto_if 66 with fail
       go_cut [11] (fun p W=>∃ (ak ai avk avi:Int) (avt:ByteArray) (bk bi bvk bvi:Int) (bvt:ByteArray),p=.pointer (some ⟨wv.heap.size,0,none⟩)∧CmpI w W g wv.heap.size (1+r6) cols params kd ⟨ak,ai,⟨avk,avi,avt⟩⟩ ⟨bk,bi,⟨bvk,bvi,bvt⟩⟩)
       case first =>
        cases bb6
        · go_wp2_with fail
          go_meet
          exact⟨_,_,_,_,_,_,_,_,_,_,rfl,HI3.out⟩
        · have hp13:=HI3.out.pb
          obtain⟨y0,f0,y1,f1,y2,f2,y3,f3,y4,f4,y5,f5,y6,f6,y7,f7,y8,f8,y9,f9,y10,f10,y11,f11,y12,f12⟩:=cells13 hp13
          have hzf:wv.heap.size<wf.heap.size:=lt_of_heap hp13
          clear hp13
          go_wp2_with fail
          go_meet
          exact⟨_,_,_,_,_,_,_,_,_,_,rfl,HI3.out.swap hwv hgv hnv⟩
       case rest =>
        obtain⟨ak,ai,avk,avi,avt,bk,bi,bvk,bvi,bvt,rfl,hi4⟩:=hcut
        have HI4:=Lib.hid hi4
        have hp13:=hi4.pb
        have hr13:=hi4.rb
        obtain⟨y0,f0,y1,f1,y2,f2,y3,f3,y4,f4,y5,f5,y6,f6,y7,f7,y8,f8,y9,f9,y10,f10,y11,f11,y12,f12⟩:=cells13 hp13
        obtain⟨z0,q0,z1,q1,z2,q2,z3,q3,z4,q4,z5,q5,z6,q6,z7,q7,z8,q8,z9,q9,z10,q10,z11,q11,z12,q12⟩:=cells13 hr13
        have hzc:wv.heap.size<wc.heap.size:=lt_of_heap hp13
        have hzc':w.heap.size<wc.heap.size:=by omega
        clear hi4 HI3 hp13 hr13
        go_wp2_with fail
        have hb13:=put13 (a0:=.int .i64 3) (a1:=.int .i64 (1+r6)) (a2:=.int .i64 ak) (a3:=.int .i64 ai) (a4:=.int .i64 avk) (a5:=.int .i64 avi) (a6:=.string avt) (a7:=.int .i64 bk) (a8:=.int .i64 bi) (a9:=.int .i64 bvk) (a10:=.int .i64 bvi) (a11:=.string bvt) (a12:=.slice none 0 0) HI4.out.rb
        obtain⟨u0,-,u1,-,u2,-,u3,-,u4,-,u5,-,u6,-,u7,-,u8,-,u9,-,u10,-,u11,-,u12,-⟩:=cells13 hb13
        exact bodyPost_ret (v:=.agg #[.int .i64 3,.int .i64 (1+r6),.int .i64 ak,.int .i64 ai,.int .i64 avk,.int .i64 avi,.string avt,.int .i64 bk,.int .i64 bi,.int .i64 bvk,.int .i64 bvi,.string bvt,.slice none 0 0]) (by simp [results,Try.results88,go_sem,u0,u1,u2,u3,u4,u5,u6,u7,u8,u9,u10,u11,u12]) rfl ⟨3,1+r6,⟨ak,ai,⟨avk,avi,avt⟩⟩,⟨bk,bi,⟨bvk,bvi,bvt⟩⟩,[],none,0,rfl,(GenP.cmp (by omega) (by omega) HKZ.out HI4.out.lo.1 HI4.out.ro.1).more ND_pos (by omega),Sl.nil_,Nat.le_refl _,HI4.out.lo.2,HI4.out.ro.2,case_set (case_set (case_set (case_set (case_set (case_set (case_set (case_set (case_set (case_set (case_set (case_set (case_set (HI4.out.case) hgl) hgl) hgl) hgl) hgl) hgl) hgl) hgl) hgl) hgl) hgl) hgl) hgl,grown_s (grown_s (grown_s (grown_s (grown_s (grown_s (grown_s (grown_s (grown_s (grown_s (grown_s (grown_s (grown_s (HI4.out.gr) (Nat.le_refl _)) (Nat.le_refl _)) (Nat.le_refl _)) (Nat.le_refl _)) (Nat.le_refl _)) (Nat.le_refl _)) (Nat.le_refl _)) (Nat.le_refl _)) (Nat.le_refl _)) (Nat.le_refl _)) (Nat.le_refl _)) (Nat.le_refl _)) (Nat.le_refl _)⟩
    · have hr6':decide (r<6)=false:=decide_eq_false hr6
      clear hs1 hza
      by_cases hr7:r=6
      · subst hr7
        go_wp2_with fail
        refine(IH.out S _ (HK.out.keep ((fr_of HG.out).same HS.out)) (HBB.out.keep ((fr_of HG.out).same HS.out)) (fun b hb=>⟨by have:=(HS.out b hb).1;omega,(HS.out b hb).2⟩) HC.out).mono ?_
        rintro e wt ⟨ao,ac,⟨alk,ali,⟨alvk,alvi,alvt⟩⟩,⟨ark,ari,⟨arvk,arvi,arvt⟩⟩,args,AA,ca,rfl,hgen,hps,hle,hlt,hrt,hct,hgt⟩
        simp only at hlt hrt
        have HGEN:=Lib.hid hgen
        have HPS:=Lib.hid hps
        have HLE:=Lib.hid hle
        have HLT:=Lib.hid hlt
        have HRT:=Lib.hid hrt
        have HC:=Lib.hid hct
        have HR:=Lib.hid ((hgt.block w.heap.size (by omega) (by intro e;injection e with e;omega)).trans HR.out)
        have HG:=Lib.hid (HG.out.trans hgt)
        have hzt:=hgt.size
        have hzt':w.heap.size<wt.heap.size:=by omega
        have hgt2:g<wt.heap.size:=by omega
        have hnt:w.heap.size≠wt.heap.size:=by omega
        clear hgen hps hle hlt hrt hct hgt
        have hr13:=HR.out
        obtain⟨y0,f0,y1,f1,y2,f2,y3,f3,y4,f4,y5,f5,y6,f6,y7,f7,y8,f8,y9,f9,y10,f10,y11,f11,y12,f12⟩:=cells13 hr13
        clear hr13
        go_wp2_with fail
        obtain⟨wz,hwz⟩:∃ wz,(((((((((((((wt.setCell ⟨w.heap.size,0,none⟩ (.int .i64 6)).setCell ⟨w.heap.size,1,none⟩ (.int .i64 0)).setCell ⟨w.heap.size,2,none⟩ (.int .i64 0)).setCell ⟨w.heap.size,3,none⟩ (.int .i64 0)).setCell ⟨w.heap.size,4,none⟩ (.int .i64 0)).setCell ⟨w.heap.size,5,none⟩ (.int .i64 0)).setCell ⟨w.heap.size,6,none⟩ (.string ⟨#[]⟩)).setCell ⟨w.heap.size,7,none⟩ (.int .i64 0)).setCell ⟨w.heap.size,8,none⟩ (.int .i64 0)).setCell ⟨w.heap.size,9,none⟩ (.int .i64 0)).setCell ⟨w.heap.size,10,none⟩ (.int .i64 0)).setCell ⟨w.heap.size,11,none⟩ (.string ⟨#[]⟩)).setCell ⟨w.heap.size,12,none⟩ (.slice (some ⟨wt.heap.size,0,none⟩) 1 1))=wz:=⟨_,rfl⟩
        have hz13:=put13 (a0:=.int .i64 6) (a1:=.int .i64 0) (a2:=.int .i64 0) (a3:=.int .i64 0) (a4:=.int .i64 0) (a5:=.int .i64 0) (a6:=.string ⟨#[]⟩) (a7:=.int .i64 0) (a8:=.int .i64 0) (a9:=.int .i64 0) (a10:=.int .i64 0) (a11:=.string ⟨#[]⟩) (a12:=.slice (some ⟨wt.heap.size,0,none⟩) 1 1) HR.out
        have hfz:=fr13 (w:=wt) (B:=w.heap.size) (a0:=.int .i64 6) (a1:=.int .i64 0) (a2:=.int .i64 0) (a3:=.int .i64 0) (a4:=.int .i64 0) (a5:=.int .i64 0) (a6:=.string ⟨#[]⟩) (a7:=.int .i64 0) (a8:=.int .i64 0) (a9:=.int .i64 0) (a10:=.int .i64 0) (a11:=.string ⟨#[]⟩) (a12:=.slice (some ⟨wt.heap.size,0,none⟩) 1 1)
        rw [hwz] at hz13 hfz ⊢
        have hzz:wz.heap.size=wt.heap.size:=by rw [←hwz];simp
        clear hwz
        obtain⟨wu,hwu⟩:∃ wu,wz.alloc (.cells #[.int .i64 ao,.int .i64 ac,.int .i64 alk,.int .i64 ali,.int .i64 alvk,.int .i64 alvi,.string alvt,.int .i64 ark,.int .i64 ari,.int .i64 arvk,.int .i64 arvi,.string arvt,.slice AA args.length ca] 100)=wu:=⟨_,rfl⟩
        have hku:∀ b,b<wt.heap.size→b≠w.heap.size→wu.heap[b]?=wt.heap[b]?:=fun b h1 h2=>by rw [←hwu];exact(Below.heap_alloc wz _ b (by omega)).trans (hfz.block b h1 h2)
        have hpa:wu.heap[wt.heap.size]?=some (.cells #[.int .i64 ao,.int .i64 ac,.int .i64 alk,.int .i64 ali,.int .i64 alvk,.int .i64 alvi,.string alvt,.int .i64 ark,.int .i64 ari,.int .i64 arvk,.int .i64 arvi,.string arvt,.slice AA args.length ca] 100 (0,0)):=by rw [←hwu,←hzz];exact heap_alloc_new wz _
        have hru:wu.heap[w.heap.size]?=some (.cells #[.int .i64 6,.int .i64 0,.int .i64 0,.int .i64 0,.int .i64 0,.int .i64 0,.string ⟨#[]⟩,.int .i64 0,.int .i64 0,.int .i64 0,.int .i64 0,.string ⟨#[]⟩,.slice (some ⟨wt.heap.size,0,none⟩) 1 1] 100 (0,0)):=by rw [←hwu];exact(Below.heap_alloc wz _ _ (by omega)).trans hz13
        have hzu:wu.heap.size=wt.heap.size+1:=by rw [←hwu];simp [hzz]
        have hio:wu.os=wt.os∧wu.tape=wt.tape∧wu.output=wt.output:=by rw [←hwu];exact⟨hfz.os,hfz.tape,hfz.output⟩
        rw [hwu]
        clear hwu
        have HPS1:=Lib.hid (show PredS wu (fun b=>w.heap.size<b∧b<wu.heap.size) (some ⟨wt.heap.size,0,none⟩) [(.mk ao ac ⟨alk,ali,⟨alvk,alvi,alvt⟩⟩ ⟨ark,ari,⟨arvk,arvi,arvt⟩⟩ args)] from Sl.of_vals (by rw [bytesAll_map (n:=136) encPred_bytes];simp) (valsAll_one (vals_pred HLE.out (by have:=HLT.out;omega) (by have:=HRT.out;omega) ((HPS.out.keep (fun b hb=>hku b hb.2 (by have:=hb.1;omega))).more (fun b hb=>⟨by have:=hb.1;omega,by have:=hb.2;omega⟩)))) (fun _=>⟨wt.heap.size,0,rfl,⟨by omega,by omega⟩,cells_of_block hpa⟩))
        obtain⟨u0,-,u1,-,u2,-,u3,-,u4,-,u5,-,u6,-,u7,-,u8,-,u9,-,u10,-,u11,-,u12,-⟩:=cells13 hru
        have hgf:=HG.out
        exact bodyPost_ret (v:=.agg #[.int .i64 6,.int .i64 0,.int .i64 0,.int .i64 0,.int .i64 0,.int .i64 0,.string ⟨#[]⟩,.int .i64 0,.int .i64 0,.int .i64 0,.int .i64 0,.string ⟨#[]⟩,.slice (some ⟨wt.heap.size,0,none⟩) 1 1]) (by simp [results,Try.results88,go_sem,u0,u1,u2,u3,u4,u5,u6,u7,u8,u9,u10,u11,u12]) rfl ⟨6,0,⟨0,0,v0⟩,⟨0,0,v0⟩,[(.mk ao ac ⟨alk,ali,⟨alvk,alvi,alvt⟩⟩ ⟨ark,ari,⟨arvk,arvi,arvt⟩⟩ args)],some ⟨wt.heap.size,0,none⟩,1,rfl,(GenP.node (m:=3) (l:=[(.mk ao ac ⟨alk,ali,⟨alvk,alvi,alvt⟩⟩ ⟨ark,ari,⟨arvk,arvi,arvt⟩⟩ args)]) (fun p hp=>by rw [List.mem_singleton] at hp;rw [hp];exact HGEN.out) (by simp) (.inl ⟨rfl,rfl⟩)),HPS1.out,Nat.le_refl _,by decide,by decide,HC.out.keep (fun b hb=>hku b (by omega) (by omega)),⟨hio.1.trans hgf.os,hio.2.1.trans hgf.tape,hio.2.2.trans hgf.output,by have:=hgf.size;omega,fun b h1 h2=>(hku b (by have:=hgf.size;omega) (by omega)).trans (hgf.block b h1 h2)⟩⟩
      · have hr7':(r == 6)=false:=beq_eq_false_iff_ne.2 hr7
        have hr78:7≤r:=by omega
        clear hr0 hr7
        go_wp2_with fail
        have HPB:=Lib.hid (heap_alloc_new w1 (.cells #[.int .i64 (4+r - 7),.int .i64 0,.int .i64 0,.int .i64 0,.int .i64 0,.int .i64 0,.string ⟨#[]⟩,.int .i64 0,.int .i64 0,.int .i64 0,.int .i64 0,.string ⟨#[]⟩,.slice none 0 0] 100))
        have HC:=Lib.hid (HC.out.keep (w':=w1.alloc (.cells #[.int .i64 (4+r - 7),.int .i64 0,.int .i64 0,.int .i64 0,.int .i64 0,.int .i64 0,.string ⟨#[]⟩,.int .i64 0,.int .i64 0,.int .i64 0,.int .i64 0,.string ⟨#[]⟩,.slice none 0 0] 100)) (fun b hb=>Below.heap_alloc _ _ _ (by omega)))
        have HR:=Lib.hid ((Below.heap_alloc w1 (.cells #[.int .i64 (4+r - 7),.int .i64 0,.int .i64 0,.int .i64 0,.int .i64 0,.int .i64 0,.string ⟨#[]⟩,.int .i64 0,.int .i64 0,.int .i64 0,.int .i64 0,.string ⟨#[]⟩,.slice none 0 0] 100) _ hz1).trans HR.out)
        have HG:=Lib.hid (HG.out.trans (World.grownBy_alloc w1 (.cells #[.int .i64 (4+r - 7),.int .i64 0,.int .i64 0,.int .i64 0,.int .i64 0,.int .i64 0,.string ⟨#[]⟩,.int .i64 0,.int .i64 0,.int .i64 0,.int .i64 0,.string ⟨#[]⟩,.slice none 0 0] 100) (some g)))
        refine(int_any g 3 _ (by omega) HC.out).mono ?_
        rintro e w3 ⟨n0,rfl,q0,q1,-,hc3,hg3,hs3⟩
        have hn0:=q1 (by omega)
        have HA0:=Lib.hid (show AoI w w1 w3 g (4+r - 7) cols params d 0 none 0 0 [] from ⟨Mk.start (fun _ h=>h.elim) (by simp at hs3;omega) _ _,rfl,by simp,(hg3.block w1.heap.size (by simp) (by intro e;injection e with e;omega)).trans HPB.out,hc3,HG.out.trans hg3,(hg3.block w.heap.size (by simp;omega) (by intro e;injection e with e;omega)).trans HR.out⟩)
        clear hc3 hg3 hs3 q1 HPB HC HR HG
        go_wp2_with fail
        go_loopw [13] (fun nn wr=>∃ (i:Int) (m:Nat) (A:Option Addr) (n c:Nat) (L:List Pred),nn=.int .i64 i∧-1≤i∧i≤2∧(m:Int)=n0 - i∧AoI w w1 wr g (4+r - 7) cols params d m A n c L) (fun nn _=>(intOf nn+1).toNat)
        case atStart=>exact⟨n0,0,none,0,0,[],rfl,by omega,by omega,by simp,HA0.out⟩
        case round =>
         obtain⟨i,m,A,n,c,L,rfl,i1,i2,hm,hao⟩:=hrel
         have HAO:=Lib.hid hao
         have hpb:=hao.pb
         have hsz:=hao.mkl.hi
         have hnl:=hao.len
         have hlm:=hao.ml
         have HNL:=Lib.hid (show n=L.length∧L.length=m from ⟨hnl,hlm⟩)
         have hnm:n=m:=by omega
         have HNM:=Lib.hid hnm
         have hn3:n≤3:=by omega
         clear hao hnl hlm hnm
         by_cases hi0:0≤i
         · have g1:wr.cell? ⟨w1.heap.size,12,none⟩=some (.slice A n c):=cells_of_block hpb 12 _ rfl
           have g2:wr.frozen? ⟨w1.heap.size,12,none⟩=false:=by simp [World.frozen?,hpb]
           have HM:=Lib.hid HAO.out.mkl
           have HGd:=Lib.hid (show w.grownBy wr.drew (some g) from ⟨HAO.out.gr.os,HAO.out.gr.tape,HAO.out.gr.output,HAO.out.gr.size,HAO.out.gr.block⟩)
           have HCd:=Lib.hid (show CaseOk wr.drew g from HAO.out.case.keep (fun _ _=>rfl))
           have HPBK:=Lib.hid hpb
           clear hpb
           go_wp2_with fail
           refine hideQ (fun c a d v w h=>by cases d<;>exact h) (fun Q' HQ HP=>?_)
           refine regionT_until (fun w'=>w'.cell? ⟨w1.heap.size,12,none⟩=some (.slice A n c)∧w'.frozen? ⟨w1.heap.size,12,none⟩=false) 11 12 (bA 12 0) (by kernel_rfl) (by kernel_rfl) (by kernel_rfl) ?_
           refine tk 0 95 (bA 12 1) _ rfl (by kernel_rfl) (by kernel_rfl) HP.out (by rfl) (fun w' hSw=>by (try dsimp only at hSw);go_simp;(try with_reducible rfl)) ⟨g1,g2⟩ ?_
           simp only [psA,psB,psC]
           refine tk 1 96 (bA 12 3) _ rfl (by kernel_rfl) (by kernel_rfl) HP.out (by rfl) (fun w' hSw=>by (try dsimp only at hSw);go_simp;(try with_reducible rfl)) ⟨g1,g2⟩ ?_
           simp only [psA,psB,psC]
           refine tk 2 97 (bA 12 7) _ rfl (by kernel_rfl) (by kernel_rfl) HP.out (by rfl) (fun w' hSw=>by (try dsimp only at hSw);go_simp;(try with_reducible rfl)) ⟨g1,g2⟩ ?_
           simp only [psA,psB,psC]
           refine tk 3 98 (bA 12 15) _ rfl (by kernel_rfl) (by kernel_rfl) HP.out (by rfl) (fun w' hSw=>by (try dsimp only at hSw);go_simp;(try with_reducible rfl)) ⟨g1,g2⟩ ?_
           simp only [psA,psB,psC]
           refine tk 4 99 (bA 12 31) _ rfl (by kernel_rfl) (by kernel_rfl) HP.out (by rfl) (fun w' hSw=>by (try dsimp only at hSw);go_simp;(try with_reducible rfl)) ⟨g1,g2⟩ ?_
           simp only [psA,psB,psC]
           refine tk 5 100 (bA 12 63) _ rfl (by kernel_rfl) (by kernel_rfl) HP.out (by rfl) (fun w' hSw=>by (try dsimp only at hSw);go_simp;(try with_reducible rfl)) ⟨g1,g2⟩ ?_
           simp only [psA,psB,psC]
           refine tk 6 101 (bA 12 127) _ rfl (by kernel_rfl) (by kernel_rfl) HP.out (by rfl) (fun w' hSw=>by (try dsimp only at hSw);go_simp;(try with_reducible rfl)) ⟨g1,g2⟩ ?_
           simp only [psA,psB,psC]
           refine anyT_one (i:=7) (o:=⟨some 102,_,_,_,_,_⟩) (L':=(bA 12 255)) rfl (by kernel_rfl) (by kernel_rfl) (fun K hK=>?_)
           have HK':=Lib.hid hK
           clear hK
           go_simp
           refine(IH.out S _ (HK.out.keep ((fr_of HGd.out).same HS.out)) (HBB.out.keep ((fr_of HGd.out).same HS.out)) (fun b hb=>⟨by have:=(HS.out b hb).1;simp;omega,(HS.out b hb).2⟩) HCd.out).mono ?_
           rintro e wt ⟨ao,ac,⟨alk,ali,⟨alvk,alvi,alvt⟩⟩,⟨ark,ari,⟨arvk,arvi,arvt⟩⟩,args,AA,ca,rfl,hgen,hps,hle,hlt,hrt,hct,hgt⟩
           simp only at hlt hrt
           have HGEN:=Lib.hid hgen
           have HPS:=Lib.hid hps
           have HLE:=Lib.hid hle
           have HLT:=Lib.hid hlt
           have HRT:=Lib.hid hrt
           have HCt:=Lib.hid hct
           have HGt:=Lib.hid (show wr.grownBy wt (some g) from ⟨hgt.os,hgt.tape,hgt.output,hgt.size,hgt.block⟩)
           have hzt:wr.heap.size≤wt.heap.size:=HGt.out.size
           have k1:=(World.cell?_of_block (w:=wr) (HGt.out.block w1.heap.size (by omega) (by intro e;injection e with e;omega))).trans g1
           have k2:=(World.frozen?_of_block (w:=wr) (HGt.out.block w1.heap.size (by omega) (by intro e;injection e with e;omega))).trans g2
           clear hgen hps hle hlt hrt hct hgt
           refine HK'.out _ _ (fun _=>⟨k1,k2⟩) ?_
           clear HK' K
           try simp only [Act.put,psA,psB,psC]
           refine anyT_one (i:=8) (o:=⟨some 103,_,_,_,_,_⟩) (L':=(bA 12 511)) rfl (by kernel_rfl) (by kernel_rfl) (fun K hK=>?_)
           have HK':=Lib.hid hK
           clear hK
           go_simp
           have l1:(wt.alloc (.cells #[.int .i64 ao,.int .i64 ac,.int .i64 alk,.int .i64 ali,.int .i64 alvk,.int .i64 alvi,.string alvt,.int .i64 ark,.int .i64 ari,.int .i64 arvk,.int .i64 arvi,.string arvt,.slice AA args.length ca] 100)).cell? ⟨w1.heap.size,12,none⟩=_:=(cell_old (by omega)).trans k1
           have l2:(wt.alloc (.cells #[.int .i64 ao,.int .i64 ac,.int .i64 alk,.int .i64 ali,.int .i64 alvk,.int .i64 alvi,.string alvt,.int .i64 ark,.int .i64 ari,.int .i64 arvk,.int .i64 arvi,.string arvt,.slice AA args.length ca] 100)).frozen? ⟨w1.heap.size,12,none⟩=_:=(frozen_old (by omega)).trans k2
           refine HK'.out _ _ (fun _=>⟨l1,l2⟩) ?_
           clear HK' K
           try simp only [Act.put,psA,psB,psC]
           refine anyT_one (i:=9) (o:=⟨some 104,_,_,_,_,_⟩) (L':=(bA 12 1023)) rfl (by kernel_rfl) (by kernel_rfl) (fun K hK=>?_)
           refine step_append_mk (by rfl) (.tmp 96) (.tmp 103) _ (by rfl) (w1.heap.size+1) (fun _=>False) 100 i0 _ 13 136 Try.underlying37 hi jz0 jz1 jz2 rfl (by decide) wt A n c (L.map encPred) (HM.out.keep (fr_of HGt.out) (fun b hb=>⟨by omega,fun h=>h⟩)) (by rfl) (encPred (.mk ao ac ⟨alk,ali,⟨alvk,alvi,alvt⟩⟩ ⟨ark,ari,⟨arvk,arvi,arvt⟩⟩ args)) #[.int .i64 ao,.int .i64 ac,.int .i64 alk,.int .i64 ali,.int .i64 alvk,.int .i64 alvi,.string alvt,.int .i64 ark,.int .i64 ari,.int .i64 arvk,.int .i64 arvi,.string arvt,.slice AA args.length ca] (vals_pred HLE.out (by have:=HLT.out;omega) (by have:=HRT.out;omega) (HPS.out.more (fun b hb=>.inr ⟨by have:=hb.1;simp at this;omega,hb.2,fun e=>by have:=(HM.out.base_le e.symm).2;have:=hb.1;simp at this;omega⟩))) (encPred_plain _) (encPred_size _) 1 (by rfl) (by omega) (by omega) ?_
           intro g7 c7 w7 hm7 hb7 hlt7
           have m1:=(hb7.cell (p:=⟨w1.heap.size,12,none⟩) (by show w1.heap.size<_;omega)).trans k1
           have m2:=(hb7.frozen (p:=⟨w1.heap.size,12,none⟩) (by show w1.heap.size<_;omega)).trans k2
           have HM7:=Lib.hid hm7
           have HB7:=Lib.hid hb7
           clear hm7 hb7
           refine hK _ _ (fun _=>⟨m1,m2⟩) ?_
           clear hK K
           try simp only [Act.put,psA,psB,psC]
           refine tk 10 105 (bA 12 2047) _ rfl (by kernel_rfl) (by kernel_rfl) HP.out (by rfl) (fun w' hSw=>by (try dsimp only at hSw);go_simp;(try with_reducible rfl)) ⟨m1,m2⟩ ?_
           simp only [psA,psB,psC]
           refine anyT_one (i:=11) (o:=⟨none,_,_,_,_,_⟩) (L':=(bA 12 4095)) rfl (by kernel_rfl) (by kernel_rfl) (fun K hK=>?_)
           have HK':=Lib.hid hK
           clear hK
           go_simp
           refine HK'.out _ _ (fun h=>absurd rfl h) ?_
           clear HK' K
           refine anyU_done (by kernel_rfl) ?_
           rw [HQ.out]
           clear HQ HP Q'
           have HAN:=Lib.hid (HAO.out.next (p:=(.mk ao ac ⟨alk,ali,⟨alvk,alvi,alvt⟩⟩ ⟨ark,ari,⟨arvk,arvi,arvt⟩⟩ args)) hgl (by omega) HGt.out HCt.out HB7.out HM7.out HGEN.out)
           clear HM HGd HCd HPBK HGt HCt HB7 HM7 HGEN HPS HLE HLT HRT k1 k2 l1 l2 m1 m2 g1 g2
           go_wp2_with fail
           go_roundw
           case rel=>exact⟨i - 1,m+1,_,_,_,_,rfl,by omega,by omega,by push_cast;omega,HAN.out⟩
           case measure=>simp [intOf];omega
         · have hi':decide (0≤i)=false:=decide_eq_false hi0
           have hr13:=HAO.out.rb
           obtain⟨y0,f0,y1,f1,y2,f2,y3,f3,y4,f4,y5,f5,y6,f6,y7,f7,y8,f8,y9,f9,y10,f10,y11,f11,y12,f12⟩:=cells13 hpb
           obtain⟨z0,q0,z1,q1,z2,q2,z3,q3,z4,q4,z5,q5,z6,q6,z7,q7,z8,q8,z9,q9,z10,q10,z11,q11,z12,q12⟩:=cells13 hr13
           have HRB:=Lib.hid hr13
           have hzr':w.heap.size<wr.heap.size:=by omega
           have hne1:w.heap.size≠w1.heap.size:=by omega
           clear hpb hr13
           go_wp2_with fail
           obtain⟨-,hnc,hsl⟩:=HAO.out.mkl.slice (by rw [bytesAll_map (n:=136) encPred_bytes];have:=HNL.out;omega)
           have HLN:=Lib.hid (show L.length=n by have:=HNL.out;omega)
           have hb13:=put13 (a0:=.int .i64 (4+r - 7)) (a1:=.int .i64 0) (a2:=.int .i64 0) (a3:=.int .i64 0) (a4:=.int .i64 0) (a5:=.int .i64 0) (a6:=.string ⟨#[]⟩) (a7:=.int .i64 0) (a8:=.int .i64 0) (a9:=.int .i64 0) (a10:=.int .i64 0) (a11:=.string ⟨#[]⟩) (a12:=.slice A n c) HRB.out
           obtain⟨u0,-,u1,-,u2,-,u3,-,u4,-,u5,-,u6,-,u7,-,u8,-,u9,-,u10,-,u11,-,u12,-⟩:=cells13 hb13
           exact bodyPost_ret (v:=.agg #[.int .i64 (4+r - 7),.int .i64 0,.int .i64 0,.int .i64 0,.int .i64 0,.int .i64 0,.string ⟨#[]⟩,.int .i64 0,.int .i64 0,.int .i64 0,.int .i64 0,.string ⟨#[]⟩,.slice A n c]) (by simp [results,Try.results88,go_sem,u0,u1,u2,u3,u4,u5,u6,u7,u8,u9,u10,u11,u12]) rfl ⟨4+r - 7,0,⟨0,0,v0⟩,⟨0,0,v0⟩,L,A,c,by rw [HLN.out],(GenP.node (m:=3) HAO.out.gen (by have:=HLN.out;omega) (by omega)),(Sl.more (Sl.keep hsl (fun b hb=>by have h1:w1.heap.size+1≤b:=hb.elim (fun h=>h.elim) (fun h=>h.1);refine(Below.heap_setCell _ ⟨w.heap.size,_,none⟩ _ b (by show b≠w.heap.size;omega)).trans ?_;refine(Below.heap_setCell _ ⟨w.heap.size,_,none⟩ _ b (by show b≠w.heap.size;omega)).trans ?_;refine(Below.heap_setCell _ ⟨w.heap.size,_,none⟩ _ b (by show b≠w.heap.size;omega)).trans ?_;refine(Below.heap_setCell _ ⟨w.heap.size,_,none⟩ _ b (by show b≠w.heap.size;omega)).trans ?_;refine(Below.heap_setCell _ ⟨w.heap.size,_,none⟩ _ b (by show b≠w.heap.size;omega)).trans ?_;refine(Below.heap_setCell _ ⟨w.heap.size,_,none⟩ _ b (by show b≠w.heap.size;omega)).trans ?_;refine(Below.heap_setCell _ ⟨w.heap.size,_,none⟩ _ b (by show b≠w.heap.size;omega)).trans ?_;refine(Below.heap_setCell _ ⟨w.heap.size,_,none⟩ _ b (by show b≠w.heap.size;omega)).trans ?_;refine(Below.heap_setCell _ ⟨w.heap.size,_,none⟩ _ b (by show b≠w.heap.size;omega)).trans ?_;refine(Below.heap_setCell _ ⟨w.heap.size,_,none⟩ _ b (by show b≠w.heap.size;omega)).trans ?_;refine(Below.heap_setCell _ ⟨w.heap.size,_,none⟩ _ b (by show b≠w.heap.size;omega)).trans ?_;refine(Below.heap_setCell _ ⟨w.heap.size,_,none⟩ _ b (by show b≠w.heap.size;omega)).trans ?_;refine(Below.heap_setCell _ ⟨w.heap.size,_,none⟩ _ b (by show b≠w.heap.size;omega)).trans ?_;rfl)) (fun b hb=>hb.elim (fun h=>h.elim) (fun h=>⟨by have:=h.1;omega,by have:=h.2;simp;omega⟩))),by rw [HLN.out];exact hnc,by decide,by decide,case_set (case_set (case_set (case_set (case_set (case_set (case_set (case_set (case_set (case_set (case_set (case_set (case_set (HAO.out.case) hgl) hgl) hgl) hgl) hgl) hgl) hgl) hgl) hgl) hgl) hgl) hgl) hgl,grown_s (grown_s (grown_s (grown_s (grown_s (grown_s (grown_s (grown_s (grown_s (grown_s (grown_s (grown_s (grown_s (HAO.out.gr) (Nat.le_refl _)) (Nat.le_refl _)) (Nat.le_refl _)) (Nat.le_refl _)) (Nat.le_refl _)) (Nat.le_refl _)) (Nat.le_refl _)) (Nat.le_refl _)) (Nat.le_refl _)) (Nat.le_refl _)) (Nat.le_refl _)) (Nat.le_refl _)) (Nat.le_refl _)⟩
end Go.Proofs.Ytkpjjfhfbpfjpaa

namespace Go.Proofs.Ytkpjjfhfbpfjpaa
open Go.RowKit
theorem tree_any (g:Nat) (K B:Option Addr) (ck cb:Nat) (cols params:List Int) (hl:cols.length≤100000) (hl2:params.length≤100000) (hpos:0<cols.length) (hkk:kindsOk cols=true):∀ (d:Nat),d≤1000→∀ (S:Nat→Prop) (w:World),IntS w S K cols→IntS w S B params→(∀ b,S b→b<w.heap.size∧b≠g)→CaseOk w g →
  Calls Try.prog 88 #[.pointer (some ⟨g,0,none⟩),.slice K cols.length ck,.slice B params.length cb,.int .i64 (d:Int)] w (TreePost cols params d w g)
 | 0=>fun _=>tree_zero g K B ck cb cols params hl hl2 hpos hkk
 | d+1=>fun hd S w h1 h2 h3 h4=>by
  have h:=tree_succ g K B ck cb cols params hl hl2 hpos hkk d (by omega) (tree_any g K B ck cb cols params hl hl2 hpos hkk d (by omega)) S w h1 h2 h3 h4
  rw [show ((d+1:Nat):Int)=(d:Int)+1 by push_cast;rfl]
  exact h
theorem ND_le {d:Nat} (h:d≤2):ND d≤24:=by
 have:d=0∨d=1∨d=2:=by omega
 rcases this with rfl | rfl | rfl<;>decide
set_option maxHeartbeats 8000000 in
theorem predicate_any (g:Nat) (K B:Option Addr) (ck cb:Nat) (cols params:List Int) (hl:cols.length≤100000) (hl2:params.length≤100000) (hpos:0<cols.length) (hkk:kindsOk cols=true) (hpp:kindsOk params=true) (d:Nat) (hd:d≤2) (S:Nat→Prop) (w:World) (hK:IntS w S K cols) (hB:IntS w S B params) (hS:∀ b,S b→b<w.heap.size∧b≠g) (hc:CaseOk w g) :
  Calls Try.prog 46 #[.pointer (some ⟨g,0,none⟩),.slice K cols.length ck,.slice B params.length cb,.int .i64 (d:Int)] w (TreePost cols params d w g):=by
 have hgl:=hc.lt
 have HK:=Lib.hid hK
 have HBB:=Lib.hid hB
 have HS:=Lib.hid hS
 have HC0:=Lib.hid (hc.keep (w':=w.alloc zP) (fun b hb=>Below.heap_alloc _ _ _ (by omega)))
 have hza:(w.alloc zP).heap.size=w.heap.size+1:=by simp
 have HG0:=Lib.hid (World.grownBy_alloc w zP (some g))
 have HR0:=Lib.hid (heap_alloc_new w zP)
 have HTR:=Lib.hid (tree_any g K B ck cb cols params hl hl2 hpos hkk d (by omega) S (w.alloc zP) (hK.keep (fun b hb=>Below.heap_alloc _ _ _ (hS b hb).1)) (hB.keep (fun b hb=>Below.heap_alloc _ _ _ (hS b hb).1)) (fun b hb=>⟨by have:=(hS b hb).1;omega,(hS b hb).2⟩) HC0.out)
 clear hK hB hc hS
 go_enter Try.func46,Try.ntmps46
 go_wp2_with fail
 refine HTR.out.mono ?_
 rintro e wt ⟨ao,ac,⟨alk,ali,⟨alvk,alvi,alvt⟩⟩,⟨ark,ari,⟨arvk,arvi,arvt⟩⟩,args,AA,ca,rfl,hgen,hps,hle,hlt,hrt,hct,hgt⟩
 simp only at hlt hrt
 have HGEN:=Lib.hid hgen
 have HOK:=Lib.hid (hgen.ok (ND_le hd) (by omega) hkk hpp)
 have HLE:=Lib.hid hle
 have HLT:=Lib.hid hlt
 have HRT:=Lib.hid hrt
 have HG1:=Lib.hid (HG0.out.trans hgt)
 have HR1:=Lib.hid ((hgt.block w.heap.size (by omega) (by intro e;injection e with e;omega)).trans HR0.out)
 have hzt:w.heap.size<wt.heap.size:=by have:=hgt.size;omega
 have hpst:PredS wt (fun b=>w.heap.size<b∧b<wt.heap.size) AA args:=hps.more (fun b hb=>⟨by have:=hb.1;omega,hb.2⟩)
 have HPS:=Lib.hid (hpst.keep (w':=(wt.alloc (.cells #[.int .i64 ao,.int .i64 ac,.int .i64 alk,.int .i64 ali,.int .i64 alvk,.int .i64 alvi,.string alvt,.int .i64 ark,.int .i64 ari,.int .i64 arvk,.int .i64 arvi,.string arvt,.slice AA args.length ca] 100))) (fun b hb=>Below.heap_alloc _ _ _ hb.2))
 have HC:=Lib.hid (hct.keep (w':=(wt.alloc (.cells #[.int .i64 ao,.int .i64 ac,.int .i64 alk,.int .i64 ali,.int .i64 alvk,.int .i64 alvi,.string alvt,.int .i64 ark,.int .i64 ari,.int .i64 arvk,.int .i64 arvi,.string arvt,.slice AA args.length ca] 100))) (fun b hb=>Below.heap_alloc _ _ _ (by omega)))
 have HR:=Lib.hid ((Below.heap_alloc wt (.cells #[.int .i64 ao,.int .i64 ac,.int .i64 alk,.int .i64 ali,.int .i64 alvk,.int .i64 alvi,.string alvt,.int .i64 ark,.int .i64 ari,.int .i64 arvk,.int .i64 arvi,.string arvt,.slice AA args.length ca] 100) _ hzt).trans HR1.out)
 have HG:=Lib.hid (HG1.out.trans (World.grownBy_alloc wt (.cells #[.int .i64 ao,.int .i64 ac,.int .i64 alk,.int .i64 ali,.int .i64 alvk,.int .i64 alvi,.string alvt,.int .i64 ark,.int .i64 ari,.int .i64 arvk,.int .i64 arvi,.string arvt,.slice AA args.length ca] 100) (some g)))
 have HP:=Lib.hid (heap_alloc_new wt (.cells #[.int .i64 ao,.int .i64 ac,.int .i64 alk,.int .i64 ali,.int .i64 alvk,.int .i64 alvi,.string alvt,.int .i64 ark,.int .i64 ari,.int .i64 arvk,.int .i64 arvi,.string arvt,.slice AA args.length ca] 100))
 have hal:=hps.len
 clear hgen hps hle hlt hrt hct hgt hpst
 go_wp2_with fail
 have hRC:=rpcheck_any K B ck cb cols params ao ac ⟨alk,ali,⟨alvk,alvi,alvt⟩⟩ ⟨ark,ari,⟨arvk,arvi,arvt⟩⟩ args AA ca (fun b=>b<wt.heap.size) (wt.alloc (.cells #[.int .i64 ao,.int .i64 ac,.int .i64 alk,.int .i64 ali,.int .i64 alvk,.int .i64 alvi,.string alvt,.int .i64 ark,.int .i64 ari,.int .i64 arvk,.int .i64 arvi,.string arvt,.slice AA args.length ca] 100)) ((HK.out.keep ((fr_of HG.out).same HS.out)).more (fun b hb=>by have:=(HS.out b hb).1;omega)) ((HBB.out.keep ((fr_of HG.out).same HS.out)).more (fun b hb=>by have:=(HS.out b hb).1;omega)) (HPS.out.more (fun b hb=>hb.2)) (fun b hb=>by simp;omega) (by have:=HLT.out;show alvt.size≤_;omega) (by have:=HRT.out;show arvt.size≤_;omega)
 rw [HOK.out] at hRC
 refine(show Calls _ _ _ _ _ from hRC).mono ?_
 rintro e w3 ⟨rfl,hb3⟩
 clear hRC
 have hz3:=hb3.size
 have hz3':w.heap.size<w3.heap.size:=by simp at hz3;omega
 have hq3:wt.heap.size<w3.heap.size:=by simp at hz3;omega
 have HPS3:=Lib.hid ((HPS.out.keep (w':=w3) (fun b hb=>hb3.block b (by have:=hb.2;simp;omega))).more (S':=fun b=>w.heap.size<b∧b<w3.heap.size) (fun b hb=>⟨hb.1,by have:=hb.2;omega⟩))
 have HC3:=Lib.hid (HC.out.keep (w':=w3) (fun b hb=>hb3.block b (by simp;omega)))
 have HR3:=Lib.hid ((hb3.block w.heap.size (by simp;omega)).trans HR.out)
 have HP3:=Lib.hid ((hb3.block wt.heap.size (by simp)).trans HP.out)
 have HG3:=Lib.hid (HG.out.trans (Fr.of_below (X:=fun b=>b=g) hb3).grown)
 clear hb3
 have hp13:=HP3.out
 have hr13:=HR3.out
 obtain⟨y0,f0,y1,f1,y2,f2,y3,f3,y4,f4,y5,f5,y6,f6,y7,f7,y8,f8,y9,f9,y10,f10,y11,f11,y12,f12⟩:=cells13 hp13
 obtain⟨z0,q0,z1,q1,z2,q2,z3,q3,z4,q4,z5,q5,z6,q6,z7,q7,z8,q8,z9,q9,z10,q10,z11,q11,z12,q12⟩:=cells13 hr13
 clear hp13 hr13
 go_wp2_with fail
 have hb13:=put13 (a0:=.int .i64 ao) (a1:=.int .i64 ac) (a2:=.int .i64 alk) (a3:=.int .i64 ali) (a4:=.int .i64 alvk) (a5:=.int .i64 alvi) (a6:=.string alvt) (a7:=.int .i64 ark) (a8:=.int .i64 ari) (a9:=.int .i64 arvk) (a10:=.int .i64 arvi) (a11:=.string arvt) (a12:=.slice AA args.length ca) HR3.out
 obtain⟨u0,-,u1,-,u2,-,u3,-,u4,-,u5,-,u6,-,u7,-,u8,-,u9,-,u10,-,u11,-,u12,-⟩:=cells13 hb13
 exact bodyPost_ret (v:=.agg #[.int .i64 ao,.int .i64 ac,.int .i64 alk,.int .i64 ali,.int .i64 alvk,.int .i64 alvi,.string alvt,.int .i64 ark,.int .i64 ari,.int .i64 arvk,.int .i64 arvi,.string arvt,.slice AA args.length ca]) (by simp [results,Try.results46,go_sem,u0,u1,u2,u3,u4,u5,u6,u7,u8,u9,u10,u11,u12]) rfl ⟨ao,ac,⟨alk,ali,⟨alvk,alvi,alvt⟩⟩,⟨ark,ari,⟨arvk,arvi,arvt⟩⟩,args,AA,ca,rfl,HGEN.out,(Sl.more (Sl.keep HPS3.out (fun b hb=>by have h1:=hb.1;refine(Below.heap_setCell _ ⟨w.heap.size,_,none⟩ _ b (by show b≠w.heap.size;omega)).trans ?_;refine(Below.heap_setCell _ ⟨w.heap.size,_,none⟩ _ b (by show b≠w.heap.size;omega)).trans ?_;refine(Below.heap_setCell _ ⟨w.heap.size,_,none⟩ _ b (by show b≠w.heap.size;omega)).trans ?_;refine(Below.heap_setCell _ ⟨w.heap.size,_,none⟩ _ b (by show b≠w.heap.size;omega)).trans ?_;refine(Below.heap_setCell _ ⟨w.heap.size,_,none⟩ _ b (by show b≠w.heap.size;omega)).trans ?_;refine(Below.heap_setCell _ ⟨w.heap.size,_,none⟩ _ b (by show b≠w.heap.size;omega)).trans ?_;refine(Below.heap_setCell _ ⟨w.heap.size,_,none⟩ _ b (by show b≠w.heap.size;omega)).trans ?_;refine(Below.heap_setCell _ ⟨w.heap.size,_,none⟩ _ b (by show b≠w.heap.size;omega)).trans ?_;refine(Below.heap_setCell _ ⟨w.heap.size,_,none⟩ _ b (by show b≠w.heap.size;omega)).trans ?_;refine(Below.heap_setCell _ ⟨w.heap.size,_,none⟩ _ b (by show b≠w.heap.size;omega)).trans ?_;refine(Below.heap_setCell _ ⟨w.heap.size,_,none⟩ _ b (by show b≠w.heap.size;omega)).trans ?_;refine(Below.heap_setCell _ ⟨w.heap.size,_,none⟩ _ b (by show b≠w.heap.size;omega)).trans ?_;refine(Below.heap_setCell _ ⟨w.heap.size,_,none⟩ _ b (by show b≠w.heap.size;omega)).trans ?_;rfl)) (fun b hb=>⟨hb.1,by have:=hb.2;simp;omega⟩)),HLE.out,HLT.out,HRT.out,case_set (case_set (case_set (case_set (case_set (case_set (case_set (case_set (case_set (case_set (case_set (case_set (case_set (HC3.out) hgl) hgl) hgl) hgl) hgl) hgl) hgl) hgl) hgl) hgl) hgl) hgl) hgl,grown_s (grown_s (grown_s (grown_s (grown_s (grown_s (grown_s (grown_s (grown_s (grown_s (grown_s (grown_s (grown_s (HG3.out) (Nat.le_refl _)) (Nat.le_refl _)) (Nat.le_refl _)) (Nat.le_refl _)) (Nat.le_refl _)) (Nat.le_refl _)) (Nat.le_refl _)) (Nat.le_refl _)) (Nat.le_refl _)) (Nat.le_refl _)) (Nat.le_refl _)) (Nat.le_refl _)) (Nat.le_refl _)⟩
end Go.Proofs.Ytkpjjfhfbpfjpaa

