import Derived.Test.YtkpjjfhfbpfjpaaKd2bd88
import Derived.Test.YtkpjjfhfbpfjpaaKc84c6f
import Derived.Deep.Cut
import Derived.Deep.CutRange
import Derived.Deep.DeepCutAuto
import Derived.Test.YtkpjjfhfbpfjpaaKd0fe77
import Derived.Test.YtkpjjfhfbpfjpaaKa3f79d
import Derived.Test.YtkpjjfhfbpfjpaaK6b6f2e
import Derived.Test.YtkpjjfhfbpfjpaaK39c398
import Derived.Test.YtkpjjfhfbpfjpaaK40cf09
import Derived.Test.YtkpjjfhfbpfjpaaK855ab7
set_option linter.unusedVariables false
set_option linter.unusedSimpArgs false
set_option maxRecDepth 100000
set_option maxHeartbeats 8000000
namespace Go.Proofs.Ytkpjjfhfbpfjpaa
open Go.RowKit
theorem Zcd {w:World} {S:Nat→Prop} {b o k:Nat} {l:List Int} (h:IntS w S (some ⟨b,o,none⟩) l) (hk:k<l.length):S b∧w.cell? ⟨b,o+k,none⟩=some (.int .i64 (l.getD k 0)):=by
 obtain⟨b',o',e,h1,h2⟩:=h.at_ hk;injection e with e;injection e with e1 e2;subst e1 e2;exact⟨h1,h2⟩
theorem Zbx:∀ {l:List Int} {k:Nat},Zat l=true→k<l.length→ZaD (l.getD k 0)=true
 | [],k,_,hk=>by simp at hk
 | x :: l,k,h,hk=>by
  simp only [Zat,Bool.and_eq_true] at h;cases k with
  | zero=>exact h.1
  | succ k=>simpa using Zbx (l:=l) (k:=k) h.2 (by simpa using hk)
def ND:Nat→Nat
 | 0=>1
 | d+1=>1+3*ND d
def ZcP (cols params:List Int) (d:Nat) (w:World) (g:Nat) (e:Ending) (w':World):Prop :=
 ∃ (op cmp:Int) (l r:Opd) (args:List Pred) (A:Option Addr) (c:Nat),e=.returned (pAgg op cmp l r A args.length c)∧GenP cols params (ND d) (d+1) (.mk op cmp l r args)∧PredS w' (fun b=>w.heap.size<b∧b<w'.heap.size) A args∧args.length≤c∧l.value.t.size≤64∧r.value.t.size≤64∧CaseOk w' g∧w.grownBy w' (some g)
abbrev zP:Obj:=.cells #[.int .i64 0,.int .i64 0,.int .i64 0,.int .i64 0,.int .i64 0,.int .i64 0,.string ⟨#[]⟩,.int .i64 0,.int .i64 0,.int .i64 0,.int .i64 0,.string ⟨#[]⟩,.slice none 0 0] 100 (0,0)
theorem ZdP {w:World} {B:Nat} {t:TypeId} {x0 x1 x2 x3 x4 x5 x6 x7 x8 x9 x10 x11 x12 a0 a1 a2 a3 a4 a5 a6 a7 a8 a9 a10 a11 a12:Value} (h:w.heap[B]?=some (.cells #[x0,x1,x2,x3,x4,x5,x6,x7,x8,x9,x10,x11,x12] t (0,0))):(((((((((((((w.setCell ⟨B,0,none⟩ a0).setCell ⟨B,1,none⟩ a1).setCell ⟨B,2,none⟩ a2).setCell ⟨B,3,none⟩ a3).setCell ⟨B,4,none⟩ a4).setCell ⟨B,5,none⟩ a5).setCell ⟨B,6,none⟩ a6).setCell ⟨B,7,none⟩ a7).setCell ⟨B,8,none⟩ a8).setCell ⟨B,9,none⟩ a9).setCell ⟨B,10,none⟩ a10).setCell ⟨B,11,none⟩ a11).setCell ⟨B,12,none⟩ a12).heap[B]?=some (.cells #[a0,a1,a2,a3,a4,a5,a6,a7,a8,a9,a10,a11,a12] t (0,0)):=by
 have h1:w.heap[B]?=some (.cells [x0,x1,x2,x3,x4,x5,x6,x7,x8,x9,x10,x11,x12].toArray t (0,0)):=h;have h2:=Zae (k:=12) (v:=a12) (Zae (k:=11) (v:=a11) (Zae (k:=10) (v:=a10) (Zae (k:=9) (v:=a9) (Zae (k:=8) (v:=a8) (Zae (k:=7) (v:=a7) (Zae (k:=6) (v:=a6) (Zae (k:=5) (v:=a5) (Zae (k:=4) (v:=a4) (Zae (k:=3) (v:=a3) (Zae (k:=2) (v:=a2) (Zae (k:=1) (v:=a1) (Zae (k:=0) (v:=a0) (h1)))))))))))));simpa using h2
theorem put5r {w:World} {B:Nat} {t:TypeId} {x0 x1 x2 x3 x4 x5 x6 x7 x8 x9 x10 x11 x12 a7 a8 a9 a10 a11:Value} (h:w.heap[B]?=some (.cells #[x0,x1,x2,x3,x4,x5,x6,x7,x8,x9,x10,x11,x12] t (0,0))):(((((w.setCell ⟨B,7,none⟩ a7).setCell ⟨B,8,none⟩ a8).setCell ⟨B,9,none⟩ a9).setCell ⟨B,10,none⟩ a10).setCell ⟨B,11,none⟩ a11).heap[B]?=some (.cells #[x0,x1,x2,x3,x4,x5,x6,a7,a8,a9,a10,a11,x12] t (0,0)):=by
 have h1:w.heap[B]?=some (.cells [x0,x1,x2,x3,x4,x5,x6,x7,x8,x9,x10,x11,x12].toArray t (0,0)):=h;have h2:=Zae (k:=11) (v:=a11) (Zae (k:=10) (v:=a10) (Zae (k:=9) (v:=a9) (Zae (k:=8) (v:=a8) (Zae (k:=7) (v:=a7) h1))));simpa using h2
theorem put5l {w:World} {B:Nat} {t:TypeId} {x0 x1 x2 x3 x4 x5 x6 x7 x8 x9 x10 x11 x12 a2 a3 a4 a5 a6:Value} (h:w.heap[B]?=some (.cells #[x0,x1,x2,x3,x4,x5,x6,x7,x8,x9,x10,x11,x12] t (0,0))):(((((w.setCell ⟨B,2,none⟩ a2).setCell ⟨B,3,none⟩ a3).setCell ⟨B,4,none⟩ a4).setCell ⟨B,5,none⟩ a5).setCell ⟨B,6,none⟩ a6).heap[B]?=some (.cells #[x0,x1,a2,a3,a4,a5,a6,x7,x8,x9,x10,x11,x12] t (0,0)):=by
 have h1:w.heap[B]?=some (.cells [x0,x1,x2,x3,x4,x5,x6,x7,x8,x9,x10,x11,x12].toArray t (0,0)):=h;have h2:=Zae (k:=6) (v:=a6) (Zae (k:=5) (v:=a5) (Zae (k:=4) (v:=a4) (Zae (k:=3) (v:=a3) (Zae (k:=2) (v:=a2) h1))));simpa using h2
theorem Zao {w:World} {B:Nat} {t:TypeId} {x0 x1 x2 x3 x4 x5 x6 x7 x8 x9 x10 x11 x12:Value} (h:w.heap[B]?=some (.cells #[x0,x1,x2,x3,x4,x5,x6,x7,x8,x9,x10,x11,x12] t (0,0))):w.cell? ⟨B,0,none⟩=some x0∧w.frozen? ⟨B,0,none⟩=false∧w.cell? ⟨B,1,none⟩=some x1∧w.frozen? ⟨B,1,none⟩=false∧w.cell? ⟨B,2,none⟩=some x2∧w.frozen? ⟨B,2,none⟩=false∧w.cell? ⟨B,3,none⟩=some x3∧w.frozen? ⟨B,3,none⟩=false∧w.cell? ⟨B,4,none⟩=some x4∧w.frozen? ⟨B,4,none⟩=false∧w.cell? ⟨B,5,none⟩=some x5∧w.frozen? ⟨B,5,none⟩=false∧w.cell? ⟨B,6,none⟩=some x6∧w.frozen? ⟨B,6,none⟩=false∧w.cell? ⟨B,7,none⟩=some x7∧w.frozen? ⟨B,7,none⟩=false∧w.cell? ⟨B,8,none⟩=some x8∧w.frozen? ⟨B,8,none⟩=false∧w.cell? ⟨B,9,none⟩=some x9∧w.frozen? ⟨B,9,none⟩=false∧w.cell? ⟨B,10,none⟩=some x10∧w.frozen? ⟨B,10,none⟩=false∧w.cell? ⟨B,11,none⟩=some x11∧w.frozen? ⟨B,11,none⟩=false∧w.cell? ⟨B,12,none⟩=some x12∧w.frozen? ⟨B,12,none⟩=false:=by
 refine⟨?_,?_,?_,?_,?_,?_,?_,?_,?_,?_,?_,?_,?_,?_,?_,?_,?_,?_,?_,?_,?_,?_,?_,?_,?_,?_⟩<;>first | exact Zaa h _ _ rfl | simp [World.frozen?,World.cell?,h]
theorem ZaU {w:World} {B B' k:Nat} {v:Value} {o:Option Obj} (hn:B'≠B) (h:w.heap[B']?=o):(w.setCell ⟨B,k,none⟩ v).heap[B']?=o:=(Below.heap_setCell w ⟨B,k,none⟩ v B' hn).trans h
structure CmpI (w W:World) (g PB:Nat) (c:Int) (cols params:List Int) (kd:Int) (l r:Opd):Prop where
 pb:W.heap[PB]?=some (.cells #[.int .i64 3,.int .i64 c,.int .i64 l.kind,.int .i64 l.index,.int .i64 l.value.k,.int .i64 l.value.i,.string l.value.t,.int .i64 r.kind,.int .i64 r.index,.int .i64 r.value.k,.int .i64 r.value.i,.string r.value.t,.slice none 0 0] 100 (0,0))
 rb:W.heap[w.heap.size]?=some zP
 case:CaseOk W g
 gr:w.grownBy W (some g)
 lo:Zex cols params kd l
 ro:Zex cols params kd r
section
variable {w W W':World} {g PB:Nat} {c:Int} {cols params:List Int} {kd:Int} {l r:Opd}
theorem CmpI.keep (h:CmpI w W g PB c cols params kd l r) (h1:w.heap.size≤PB) (h2:g<PB) (h3:w.heap.size≠PB) (hg:W.grownBy W' (some g)) (hc:CaseOk W' g) (hgl:g<w.heap.size):CmpI w W' g PB c cols params kd l r :=
 ⟨(hg.block _ (Zag h.pb) (by intro e;injection e with e;omega)).trans h.pb,(hg.block _ (Zag h.rb) (by intro e;injection e with e;omega)).trans h.rb,hc,h.gr.trans hg,h.lo,h.ro⟩
theorem CmpI.right {sk si svk svi:Int} {svt:ByteArray} (h:CmpI w W g PB c cols params kd l r) (h1:w.heap.size≤PB) (h2:g<PB) (h3:w.heap.size≠PB) (hs:Zex cols params kd ⟨sk,si,⟨svk,svi,svt⟩⟩) :
  CmpI w (((((W.setCell ⟨PB,7,none⟩ (.int .i64 sk)).setCell ⟨PB,8,none⟩ (.int .i64 si)).setCell ⟨PB,9,none⟩ (.int .i64 svk)).setCell ⟨PB,10,none⟩ (.int .i64 svi)).setCell ⟨PB,11,none⟩ (.string svt)) g PB c cols params kd l ⟨sk,si,⟨svk,svi,svt⟩⟩ :=
 ⟨put5r h.pb,ZaU h3 (ZaU h3 (ZaU h3 (ZaU h3 (ZaU h3 h.rb)))),Zab (Zab (Zab (Zab (Zab h.case h2) h2) h2) h2) h2,Zac (Zac (Zac (Zac (Zac h.gr h1) h1) h1) h1) h1,h.lo,hs⟩
theorem CmpI.swap (h:CmpI w W g PB c cols params kd l r) (h1:w.heap.size≤PB) (h2:g<PB) (h3:w.heap.size≠PB) :
  CmpI w ((((((((((W.setCell ⟨PB,2,none⟩ (.int .i64 r.kind)).setCell ⟨PB,3,none⟩ (.int .i64 r.index)).setCell ⟨PB,4,none⟩ (.int .i64 r.value.k)).setCell ⟨PB,5,none⟩ (.int .i64 r.value.i)).setCell ⟨PB,6,none⟩ (.string r.value.t)).setCell ⟨PB,7,none⟩ (.int .i64 l.kind)).setCell ⟨PB,8,none⟩ (.int .i64 l.index)).setCell ⟨PB,9,none⟩ (.int .i64 l.value.k)).setCell ⟨PB,10,none⟩ (.int .i64 l.value.i)).setCell ⟨PB,11,none⟩ (.string l.value.t)) g PB c cols params kd r l :=
 ⟨put5r (put5l h.pb),ZaU h3 (ZaU h3 (ZaU h3 (ZaU h3 (ZaU h3 (ZaU h3 (ZaU h3 (ZaU h3 (ZaU h3 (ZaU h3 h.rb))))))))),Zab (Zab (Zab (Zab (Zab (Zab (Zab (Zab (Zab (Zab h.case h2) h2) h2) h2) h2) h2) h2) h2) h2) h2,Zac (Zac (Zac (Zac (Zac (Zac (Zac (Zac (Zac (Zac h.gr h1) h1) h1) h1) h1) h1) h1) h1) h1) h1,h.ro,h.lo⟩
end
theorem ZdO {d:Nat}:1≤ND d:=by cases d<;>simp [ND]
theorem tree_zero (g:Nat) (K B:Option Addr) (ck cb:Nat) (cols params:List Int) (hl:cols.length≤100000) (hl2:params.length≤100000) (hpos:0<cols.length) (hkk:Zat cols=true):∀ (S:Nat→Prop) (w:World),IntS w S K cols→IntS w S B params→(∀ b,S b→b<w.heap.size∧b≠g)→CaseOk w g →
  Calls Try.prog 88 #[.pointer (some ⟨g,0,none⟩),.slice K cols.length ck,.slice B params.length cb,.int .i64 0] w (ZcP cols params 0 w g):=by
  have HKK:=hI hkk;clear hkk;intro S w hK hB hS hc;obtain⟨b1,o1,rfl,hb1,-⟩:=hK.at_ hpos;have hgl:=hc.lt;have hSl:∀ b,S b→b<w.heap.size:=fun b hb=>(hS b hb).1;have HK:=hI hK;have HBB:=hI hB;have HS:=hI hS;have HC0:=hI (hc.keep (w':=w.alloc zP) (fun b hb=>Below.heap_alloc _ _ _ (by omega)));have hza:(w.alloc zP).heap.size=w.heap.size+1:=(by simp);have HG0:=hI (World.grownBy_alloc w zP (some g));have HR0:=hI (heap_alloc_new w zP);have hlb1:b1<w.heap.size:=hSl b1 hb1;clear hK hB hc hS;go_enter Try.func88,Try.ntmps88
  go_wp2_with fail
  refine(ZaB g 9 _ (by omega) HC0.out).mono ?_;rintro e w1 ⟨r,rfl,h0,h1,-,hc1,hg1,hs1⟩;have hr:=h1 (by omega);have HC:=hI hc1;have HG:=hI (HG0.out.trans hg1);have HR:=hI ((hg1.block w.heap.size (by omega) (by intro e;injection e with e;omega)).trans HR0.out);have hz1:w.heap.size<w1.heap.size:=(by omega);clear hc1 hg1 h1 HC0 HG0 HR0
  by_cases hr0:r=0
  · subst hr0
    go_wp2_with fail
    refine(Zay g 2 _ (by omega) (by omega) HC.out).mono ?_;rintro e w2 ⟨bb,rfl,hcb,hgb,hsb⟩;have HC:=hI hcb;have HR:=hI ((hgb.block w.heap.size (by omega) (by intro e;injection e with e;omega)).trans HR.out);have HG:=hI (HG.out.trans hgb);have hz2:w.heap.size<w2.heap.size:=(by omega);clear hcb hgb;cases bb
    · go_wp2_with fail
      refine(ZaB g cols.length _ (by omega) HC.out).mono ?_;rintro e wa ⟨j,rfl,j0,j1,-,hca,hga,hsa⟩;have hj:=j1 (by omega);obtain⟨jn,rfl⟩:=Int.eq_ofNat_of_zero_le j0;have hjn:jn<cols.length:=(by omega);have HC:=hI hca;have HR:=hI ((hga.block w.heap.size (by omega) (by intro e;injection e with e;omega)).trans HR.out);have HG:=hI (HG.out.trans hga);obtain⟨-,d1⟩:=Zcd (HK.out.keep ((ZaT HG.out).same HS.out)) hjn;have HKD:=hI (Zbx HKK.out hjn);generalize cols.getD jn 0=kd at d1 HKD;have HKZ:=hI (show kd≠0 by intro e;have:=HKD.out;rw [e] at this;cases this);have hza':w.heap.size<wa.heap.size:=(by omega);have hlb:b1<wa.heap.size:=(by omega);clear hca hga j1
      go_wp2_with fail
      refine(ZaB g 6 _ (by omega) HC.out).mono ?_;rintro e wc ⟨r6,rfl,p0,p1,-,hcc,hgc,hsc⟩;have hr6:=p1 (by omega);have HC:=hI hcc;have HR:=hI ((hgc.block w.heap.size (by omega) (by intro e;injection e with e;omega)).trans HR.out);have HG:=hI (HG.out.trans hgc);clear hcc hgc p1 d1
      go_wp2_with fail
      refine(ZaI g (some ⟨b1,o1,none⟩) B ck cb cols params kd S _ (HK.out.keep ((ZaT HG.out).same HS.out)) (HBB.out.keep ((ZaT HG.out).same HS.out)) (fun b hb=>⟨by have:=(HS.out b hb).1;omega,(HS.out b hb).2⟩) hl hl2 HKD.out HC.out).mono ?_;rintro e wo ⟨⟨lk,li,⟨lvk,lvi,lvt⟩⟩,rfl,hlo,hco,hgo⟩;have HLO:=hI hlo;have HC:=hI hco;have HR:=hI ((hgo.block w.heap.size (by omega) (by intro e;injection e with e;omega)).trans HR.out);have HG:=hI (HG.out.trans hgo);have hzo:=hgo.size;clear hco hgo hlo
      go_wp2_with fail
      refine(ZaW g kd _ HC.out).mono ?_;rintro e wv ⟨⟨rvk,rvi,rvt⟩,rfl,hv,hcv,hgv0⟩;have HRO:=hI (ZcW (cols:=cols) (params:=params) HKD.out hv);have HC:=hI hcv;have HR:=hI ((hgv0.block w.heap.size (by omega) (by intro e;injection e with e;omega)).trans HR.out);have HG:=hI (HG.out.trans hgv0);have hzv:=hgv0.size;have hzv':w.heap.size<wv.heap.size:=(by omega);have hgv:g<wv.heap.size:=(by omega);have hwv:w.heap.size≤wv.heap.size:=(by omega);have hnv:w.heap.size≠wv.heap.size:=(by omega);have hnv2:wv.heap.size≠w.heap.size:=(by omega);clear hcv hgv0 hv
      go_wp2_with fail
      have HPB:=hI (heap_alloc_new wv (.cells #[.int .i64 3,.int .i64 (1+r6),.int .i64 lk,.int .i64 li,.int .i64 lvk,.int .i64 lvi,.string lvt,.int .i64 3,.int .i64 0,.int .i64 rvk,.int .i64 rvi,.string rvt,.slice none 0 0] 100));have HC:=hI (HC.out.keep (w':=wv.alloc (.cells #[.int .i64 3,.int .i64 (1+r6),.int .i64 lk,.int .i64 li,.int .i64 lvk,.int .i64 lvi,.string lvt,.int .i64 3,.int .i64 0,.int .i64 rvk,.int .i64 rvi,.string rvt,.slice none 0 0] 100)) (fun b hb=>Below.heap_alloc _ _ _ (by omega)));have HR:=hI ((Below.heap_alloc wv (.cells #[.int .i64 3,.int .i64 (1+r6),.int .i64 lk,.int .i64 li,.int .i64 lvk,.int .i64 lvi,.string lvt,.int .i64 3,.int .i64 0,.int .i64 rvk,.int .i64 rvi,.string rvt,.slice none 0 0] 100) _ hzv').trans HR.out);have HG:=hI (HG.out.trans (World.grownBy_alloc wv (.cells #[.int .i64 3,.int .i64 (1+r6),.int .i64 lk,.int .i64 li,.int .i64 lvk,.int .i64 lvi,.string lvt,.int .i64 3,.int .i64 0,.int .i64 rvk,.int .i64 rvi,.string rvt,.slice none 0 0] 100) (some g)));refine(Zay g 3 _ (by omega) (by omega) HC.out).mono ?_;rintro e wd ⟨bb3,rfl,hcb,hgb,hsb⟩;have HPB:=hI ((hgb.block wv.heap.size (by simp) (by intro e;injection e with e;omega)).trans HPB.out);have HR:=hI ((hgb.block w.heap.size (by simp;omega) (by intro e;injection e with e;omega)).trans HR.out);have HC:=hI hcb;have HG:=hI (HG.out.trans hgb);have hzd:wv.heap.size<wd.heap.size:=(by have:=hgb.size;simp at this;omega);have hzd':w.heap.size<wd.heap.size:=(by omega);clear hcb hgb hsb;have HI:=hI (show CmpI w wd g wv.heap.size (1+r6) cols params kd ⟨lk,li,⟨lvk,lvi,lvt⟩⟩ ⟨3,0,⟨rvk,rvi,rvt⟩⟩ from ⟨HPB.out,HR.out,HC.out,HG.out,HLO.out,HRO.out⟩);clear HPB HR HC HG HLO HRO;go_upto_if 58 with fail
      go_cut [11] (fun p W=>∃ (sk si svk svi:Int) (svt:ByteArray),p=.pointer (some ⟨wv.heap.size,0,none⟩)∧CmpI w W g wv.heap.size (1+r6) cols params kd ⟨lk,li,⟨lvk,lvi,lvt⟩⟩ ⟨sk,si,⟨svk,svi,svt⟩⟩)
      case first =>
       cases bb3
       · go_wp2_with fail
         go_meet;exact⟨3,0,rvk,rvi,rvt,rfl,HI.out⟩
       · go_wp2_with fail
         refine(ZaI g (some ⟨b1,o1,none⟩) B ck cb cols params kd S _ (HK.out.keep ((ZaT HI.out.gr).same HS.out)) (HBB.out.keep ((ZaT HI.out.gr).same HS.out)) (fun b hb=>⟨by have:=(HS.out b hb).1;omega,(HS.out b hb).2⟩) hl hl2 HKD.out HI.out.case).mono ?_;rintro e ws ⟨⟨sk,si,⟨svk,svi,svt⟩⟩,rfl,hso,hcs,hgs⟩;have HI2:=hI (HI.out.keep hwv hgv hnv hgs hcs hgl);have HSO:=hI hso;have hp13:=HI2.out.pb;obtain⟨y0,f0,y1,f1,y2,f2,y3,f3,y4,f4,y5,f5,y6,f6,y7,f7,y8,f8,y9,f9,y10,f10,y11,f11,y12,f12⟩:=Zao hp13;have hzs:wv.heap.size<ws.heap.size:=Zag hp13;clear hcs hgs hso hp13
         go_wp2_with fail
         go_meet;exact⟨sk,si,svk,svi,svt,rfl,HI2.out.right hwv hgv hnv HSO.out⟩
      case rest =>
       obtain⟨sk,si,svk,svi,svt,rfl,hi2⟩:=hcut;have HI2:=hI hi2;clear hi2 HI
       go_wp2_with fail
       refine(Zay g 6 _ (by omega) (by omega) HI2.out.case).mono ?_;rintro e wf ⟨bb6,rfl,hcb,hgb,hsb⟩;have HI3:=hI (HI2.out.keep hwv hgv hnv hgb hcb hgl);clear hcb hgb hsb HI2;go_upto_if 66 with fail
       go_cut [11] (fun p W=>∃ (ak ai avk avi:Int) (avt:ByteArray) (bk bi bvk bvi:Int) (bvt:ByteArray),p=.pointer (some ⟨wv.heap.size,0,none⟩)∧CmpI w W g wv.heap.size (1+r6) cols params kd ⟨ak,ai,⟨avk,avi,avt⟩⟩ ⟨bk,bi,⟨bvk,bvi,bvt⟩⟩)
       case first =>
        cases bb6
        · go_wp2_with fail
          go_meet;exact⟨_,_,_,_,_,_,_,_,_,_,rfl,HI3.out⟩
        · have hp13:=HI3.out.pb;obtain⟨y0,f0,y1,f1,y2,f2,y3,f3,y4,f4,y5,f5,y6,f6,y7,f7,y8,f8,y9,f9,y10,f10,y11,f11,y12,f12⟩:=Zao hp13;have hzf:wv.heap.size<wf.heap.size:=Zag hp13;clear hp13
          go_wp2_with fail
          go_meet;exact⟨_,_,_,_,_,_,_,_,_,_,rfl,HI3.out.swap hwv hgv hnv⟩
       case rest =>
        obtain⟨ak,ai,avk,avi,avt,bk,bi,bvk,bvi,bvt,rfl,hi4⟩:=hcut;have HI4:=hI hi4;have hp13:=hi4.pb;have hr13:=hi4.rb;obtain⟨y0,f0,y1,f1,y2,f2,y3,f3,y4,f4,y5,f5,y6,f6,y7,f7,y8,f8,y9,f9,y10,f10,y11,f11,y12,f12⟩:=Zao hp13;obtain⟨z0,q0,z1,q1,z2,q2,z3,q3,z4,q4,z5,q5,z6,q6,z7,q7,z8,q8,z9,q9,z10,q10,z11,q11,z12,q12⟩:=Zao hr13;have hzc:wv.heap.size<wc.heap.size:=Zag hp13;have hzc':w.heap.size<wc.heap.size:=(by omega);clear hi4 HI3 hp13 hr13
        go_wp2_with fail
        have hb13:=ZdP (a0:=.int .i64 3) (a1:=.int .i64 (1+r6)) (a2:=.int .i64 ak) (a3:=.int .i64 ai) (a4:=.int .i64 avk) (a5:=.int .i64 avi) (a6:=.string avt) (a7:=.int .i64 bk) (a8:=.int .i64 bi) (a9:=.int .i64 bvk) (a10:=.int .i64 bvi) (a11:=.string bvt) (a12:=.slice none 0 0) HI4.out.rb;obtain⟨u0,-,u1,-,u2,-,u3,-,u4,-,u5,-,u6,-,u7,-,u8,-,u9,-,u10,-,u11,-,u12,-⟩:=Zao hb13;exact bodyPost_ret (v:=.agg #[.int .i64 3,.int .i64 (1+r6),.int .i64 ak,.int .i64 ai,.int .i64 avk,.int .i64 avi,.string avt,.int .i64 bk,.int .i64 bi,.int .i64 bvk,.int .i64 bvi,.string bvt,.slice none 0 0]) (by simp [results,Try.results88,go_sem,u0,u1,u2,u3,u4,u5,u6,u7,u8,u9,u10,u11,u12]) rfl ⟨3,1+r6,⟨ak,ai,⟨avk,avi,avt⟩⟩,⟨bk,bi,⟨bvk,bvi,bvt⟩⟩,[],none,0,rfl,(GenP.cmp (by omega) (by omega) HKZ.out HI4.out.lo.1 HI4.out.ro.1).more ZdO (by omega),Sl.nil_,Nat.le_refl _,HI4.out.lo.2,HI4.out.ro.2,Zab (Zab (Zab (Zab (Zab (Zab (Zab (Zab (Zab (Zab (Zab (Zab (Zab (HI4.out.case) hgl) hgl) hgl) hgl) hgl) hgl) hgl) hgl) hgl) hgl) hgl) hgl) hgl,Zac (Zac (Zac (Zac (Zac (Zac (Zac (Zac (Zac (Zac (Zac (Zac (Zac (HI4.out.gr) nR) nR) nR) nR) nR) nR) nR) nR) nR) nR) nR) nR) nR⟩
    · go_wp2_with fail
      refine(ZaB g 2 _ (by omega) HC.out).mono ?_;rintro e wa ⟨j,rfl,j0,j1,-,hca,hga,hsa⟩;have HJ:=hI (show 1+j=1∨1+j=2 by have:=j1 (by omega);omega);have HC:=hI hca;have HR:=hI ((hga.block w.heap.size (by omega) (by intro e;injection e with e;omega)).trans HR.out);have HG:=hI (HG.out.trans hga);have hza':w.heap.size<wa.heap.size:=(by omega);have hjj:=j1 (by omega);clear hca hga j1;have hr13:=HR.out;obtain⟨y0,f0,y1,f1,y2,f2,y3,f3,y4,f4,y5,f5,y6,f6,y7,f7,y8,f8,y9,f9,y10,f10,y11,f11,y12,f12⟩:=Zao hr13;clear hr13
      go_wp2_with fail
      have hb13:=ZdP (a0:=.int .i64 (1+j)) (a1:=.int .i64 0) (a2:=.int .i64 0) (a3:=.int .i64 0) (a4:=.int .i64 0) (a5:=.int .i64 0) (a6:=.string ⟨#[]⟩) (a7:=.int .i64 0) (a8:=.int .i64 0) (a9:=.int .i64 0) (a10:=.int .i64 0) (a11:=.string ⟨#[]⟩) (a12:=.slice none 0 0) HR.out;obtain⟨u0,-,u1,-,u2,-,u3,-,u4,-,u5,-,u6,-,u7,-,u8,-,u9,-,u10,-,u11,-,u12,-⟩:=Zao hb13;exact bodyPost_ret (v:=.agg #[.int .i64 (1+j),.int .i64 0,.int .i64 0,.int .i64 0,.int .i64 0,.int .i64 0,.string ⟨#[]⟩,.int .i64 0,.int .i64 0,.int .i64 0,.int .i64 0,.string ⟨#[]⟩,.slice none 0 0]) (by simp [results,Try.results88,go_sem,u0,u1,u2,u3,u4,u5,u6,u7,u8,u9,u10,u11,u12]) rfl ⟨1+j,0,⟨0,0,v0⟩,⟨0,0,v0⟩,[],none,0,rfl,(GenP.leaf HJ.out).more ZdO (by omega),Sl.nil_,Nat.le_refl _,by decide,by decide,Zab (Zab (Zab (Zab (Zab (Zab (Zab (Zab (Zab (Zab (Zab (Zab (Zab (HC.out) hgl) hgl) hgl) hgl) hgl) hgl) hgl) hgl) hgl) hgl) hgl) hgl) hgl,Zac (Zac (Zac (Zac (Zac (Zac (Zac (Zac (Zac (Zac (Zac (Zac (Zac (HG.out) nR) nR) nR) nR) nR) nR) nR) nR) nR) nR) nR) nR) nR⟩
  · have hr0':(r == 0)=false:=beq_eq_false_iff_ne.2 hr0
    by_cases hr6:r<6
    · clear hr0
      go_wp2_with fail
      refine(ZaB g cols.length _ (by omega) HC.out).mono ?_;rintro e wa ⟨j,rfl,j0,j1,-,hca,hga,hsa⟩;have hj:=j1 (by omega);obtain⟨jn,rfl⟩:=Int.eq_ofNat_of_zero_le j0;have hjn:jn<cols.length:=(by omega);have HC:=hI hca;have HR:=hI ((hga.block w.heap.size (by omega) (by intro e;injection e with e;omega)).trans HR.out);have HG:=hI (HG.out.trans hga);obtain⟨-,d1⟩:=Zcd (HK.out.keep ((ZaT HG.out).same HS.out)) hjn;have HKD:=hI (Zbx HKK.out hjn);generalize cols.getD jn 0=kd at d1 HKD;have HKZ:=hI (show kd≠0 by intro e;have:=HKD.out;rw [e] at this;cases this);have hza':w.heap.size<wa.heap.size:=(by omega);have hlb:b1<wa.heap.size:=(by omega);clear hca hga j1
      go_wp2_with fail
      refine(ZaB g 6 _ (by omega) HC.out).mono ?_;rintro e wc ⟨r6,rfl,p0,p1,-,hcc,hgc,hsc⟩;have hq6:=p1 (by omega);have HC:=hI hcc;have HR:=hI ((hgc.block w.heap.size (by omega) (by intro e;injection e with e;omega)).trans HR.out);have HG:=hI (HG.out.trans hgc);clear hcc hgc p1 d1
      go_wp2_with fail
      refine(ZaI g (some ⟨b1,o1,none⟩) B ck cb cols params kd S _ (HK.out.keep ((ZaT HG.out).same HS.out)) (HBB.out.keep ((ZaT HG.out).same HS.out)) (fun b hb=>⟨by have:=(HS.out b hb).1;omega,(HS.out b hb).2⟩) hl hl2 HKD.out HC.out).mono ?_;rintro e wo ⟨⟨lk,li,⟨lvk,lvi,lvt⟩⟩,rfl,hlo,hco,hgo⟩;have HLO:=hI hlo;have HC:=hI hco;have HR:=hI ((hgo.block w.heap.size (by omega) (by intro e;injection e with e;omega)).trans HR.out);have HG:=hI (HG.out.trans hgo);have hzo:=hgo.size;clear hco hgo hlo
      go_wp2_with fail
      refine(ZaW g kd _ HC.out).mono ?_;rintro e wv ⟨⟨rvk,rvi,rvt⟩,rfl,hv,hcv,hgv0⟩;have HRO:=hI (ZcW (cols:=cols) (params:=params) HKD.out hv);have HC:=hI hcv;have HR:=hI ((hgv0.block w.heap.size (by omega) (by intro e;injection e with e;omega)).trans HR.out);have HG:=hI (HG.out.trans hgv0);have hzv:=hgv0.size;have hzv':w.heap.size<wv.heap.size:=(by omega);have hgv:g<wv.heap.size:=(by omega);have hwv:w.heap.size≤wv.heap.size:=(by omega);have hnv:w.heap.size≠wv.heap.size:=(by omega);have hnv2:wv.heap.size≠w.heap.size:=(by omega);clear hcv hgv0 hv
      go_wp2_with fail
      have HPB:=hI (heap_alloc_new wv (.cells #[.int .i64 3,.int .i64 (1+r6),.int .i64 lk,.int .i64 li,.int .i64 lvk,.int .i64 lvi,.string lvt,.int .i64 3,.int .i64 0,.int .i64 rvk,.int .i64 rvi,.string rvt,.slice none 0 0] 100));have HC:=hI (HC.out.keep (w':=wv.alloc (.cells #[.int .i64 3,.int .i64 (1+r6),.int .i64 lk,.int .i64 li,.int .i64 lvk,.int .i64 lvi,.string lvt,.int .i64 3,.int .i64 0,.int .i64 rvk,.int .i64 rvi,.string rvt,.slice none 0 0] 100)) (fun b hb=>Below.heap_alloc _ _ _ (by omega)));have HR:=hI ((Below.heap_alloc wv (.cells #[.int .i64 3,.int .i64 (1+r6),.int .i64 lk,.int .i64 li,.int .i64 lvk,.int .i64 lvi,.string lvt,.int .i64 3,.int .i64 0,.int .i64 rvk,.int .i64 rvi,.string rvt,.slice none 0 0] 100) _ hzv').trans HR.out);have HG:=hI (HG.out.trans (World.grownBy_alloc wv (.cells #[.int .i64 3,.int .i64 (1+r6),.int .i64 lk,.int .i64 li,.int .i64 lvk,.int .i64 lvi,.string lvt,.int .i64 3,.int .i64 0,.int .i64 rvk,.int .i64 rvi,.string rvt,.slice none 0 0] 100) (some g)));refine(Zay g 3 _ (by omega) (by omega) HC.out).mono ?_;rintro e wd ⟨bb3,rfl,hcb,hgb,hsb⟩;have HPB:=hI ((hgb.block wv.heap.size (by simp) (by intro e;injection e with e;omega)).trans HPB.out);have HR:=hI ((hgb.block w.heap.size (by simp;omega) (by intro e;injection e with e;omega)).trans HR.out);have HC:=hI hcb;have HG:=hI (HG.out.trans hgb);have hzd:wv.heap.size<wd.heap.size:=(by have:=hgb.size;simp at this;omega);have hzd':w.heap.size<wd.heap.size:=(by omega);clear hcb hgb hsb;have HI:=hI (show CmpI w wd g wv.heap.size (1+r6) cols params kd ⟨lk,li,⟨lvk,lvi,lvt⟩⟩ ⟨3,0,⟨rvk,rvi,rvt⟩⟩ from ⟨HPB.out,HR.out,HC.out,HG.out,HLO.out,HRO.out⟩);clear HPB HR HC HG HLO HRO;go_upto_if 58 with fail
      go_cut [11] (fun p W=>∃ (sk si svk svi:Int) (svt:ByteArray),p=.pointer (some ⟨wv.heap.size,0,none⟩)∧CmpI w W g wv.heap.size (1+r6) cols params kd ⟨lk,li,⟨lvk,lvi,lvt⟩⟩ ⟨sk,si,⟨svk,svi,svt⟩⟩)
      case first =>
       cases bb3
       · go_wp2_with fail
         go_meet;exact⟨3,0,rvk,rvi,rvt,rfl,HI.out⟩
       · go_wp2_with fail
         refine(ZaI g (some ⟨b1,o1,none⟩) B ck cb cols params kd S _ (HK.out.keep ((ZaT HI.out.gr).same HS.out)) (HBB.out.keep ((ZaT HI.out.gr).same HS.out)) (fun b hb=>⟨by have:=(HS.out b hb).1;omega,(HS.out b hb).2⟩) hl hl2 HKD.out HI.out.case).mono ?_;rintro e ws ⟨⟨sk,si,⟨svk,svi,svt⟩⟩,rfl,hso,hcs,hgs⟩;have HI2:=hI (HI.out.keep hwv hgv hnv hgs hcs hgl);have HSO:=hI hso;have hp13:=HI2.out.pb;obtain⟨y0,f0,y1,f1,y2,f2,y3,f3,y4,f4,y5,f5,y6,f6,y7,f7,y8,f8,y9,f9,y10,f10,y11,f11,y12,f12⟩:=Zao hp13;have hzs:wv.heap.size<ws.heap.size:=Zag hp13;clear hcs hgs hso hp13
         go_wp2_with fail
         go_meet;exact⟨sk,si,svk,svi,svt,rfl,HI2.out.right hwv hgv hnv HSO.out⟩
      case rest =>
       obtain⟨sk,si,svk,svi,svt,rfl,hi2⟩:=hcut;have HI2:=hI hi2;clear hi2 HI
       go_wp2_with fail
       refine(Zay g 6 _ (by omega) (by omega) HI2.out.case).mono ?_;rintro e wf ⟨bb6,rfl,hcb,hgb,hsb⟩;have HI3:=hI (HI2.out.keep hwv hgv hnv hgb hcb hgl);clear hcb hgb hsb HI2;go_upto_if 66 with fail
       go_cut [11] (fun p W=>∃ (ak ai avk avi:Int) (avt:ByteArray) (bk bi bvk bvi:Int) (bvt:ByteArray),p=.pointer (some ⟨wv.heap.size,0,none⟩)∧CmpI w W g wv.heap.size (1+r6) cols params kd ⟨ak,ai,⟨avk,avi,avt⟩⟩ ⟨bk,bi,⟨bvk,bvi,bvt⟩⟩)
       case first =>
        cases bb6
        · go_wp2_with fail
          go_meet;exact⟨_,_,_,_,_,_,_,_,_,_,rfl,HI3.out⟩
        · have hp13:=HI3.out.pb;obtain⟨y0,f0,y1,f1,y2,f2,y3,f3,y4,f4,y5,f5,y6,f6,y7,f7,y8,f8,y9,f9,y10,f10,y11,f11,y12,f12⟩:=Zao hp13;have hzf:wv.heap.size<wf.heap.size:=Zag hp13;clear hp13
          go_wp2_with fail
          go_meet;exact⟨_,_,_,_,_,_,_,_,_,_,rfl,HI3.out.swap hwv hgv hnv⟩
       case rest =>
        obtain⟨ak,ai,avk,avi,avt,bk,bi,bvk,bvi,bvt,rfl,hi4⟩:=hcut;have HI4:=hI hi4;have hp13:=hi4.pb;have hr13:=hi4.rb;obtain⟨y0,f0,y1,f1,y2,f2,y3,f3,y4,f4,y5,f5,y6,f6,y7,f7,y8,f8,y9,f9,y10,f10,y11,f11,y12,f12⟩:=Zao hp13;obtain⟨z0,q0,z1,q1,z2,q2,z3,q3,z4,q4,z5,q5,z6,q6,z7,q7,z8,q8,z9,q9,z10,q10,z11,q11,z12,q12⟩:=Zao hr13;have hzc:wv.heap.size<wc.heap.size:=Zag hp13;have hzc':w.heap.size<wc.heap.size:=(by omega);clear hi4 HI3 hp13 hr13
        go_wp2_with fail
        have hb13:=ZdP (a0:=.int .i64 3) (a1:=.int .i64 (1+r6)) (a2:=.int .i64 ak) (a3:=.int .i64 ai) (a4:=.int .i64 avk) (a5:=.int .i64 avi) (a6:=.string avt) (a7:=.int .i64 bk) (a8:=.int .i64 bi) (a9:=.int .i64 bvk) (a10:=.int .i64 bvi) (a11:=.string bvt) (a12:=.slice none 0 0) HI4.out.rb;obtain⟨u0,-,u1,-,u2,-,u3,-,u4,-,u5,-,u6,-,u7,-,u8,-,u9,-,u10,-,u11,-,u12,-⟩:=Zao hb13;exact bodyPost_ret (v:=.agg #[.int .i64 3,.int .i64 (1+r6),.int .i64 ak,.int .i64 ai,.int .i64 avk,.int .i64 avi,.string avt,.int .i64 bk,.int .i64 bi,.int .i64 bvk,.int .i64 bvi,.string bvt,.slice none 0 0]) (by simp [results,Try.results88,go_sem,u0,u1,u2,u3,u4,u5,u6,u7,u8,u9,u10,u11,u12]) rfl ⟨3,1+r6,⟨ak,ai,⟨avk,avi,avt⟩⟩,⟨bk,bi,⟨bvk,bvi,bvt⟩⟩,[],none,0,rfl,(GenP.cmp (by omega) (by omega) HKZ.out HI4.out.lo.1 HI4.out.ro.1).more ZdO (by omega),Sl.nil_,Nat.le_refl _,HI4.out.lo.2,HI4.out.ro.2,Zab (Zab (Zab (Zab (Zab (Zab (Zab (Zab (Zab (Zab (Zab (Zab (Zab (HI4.out.case) hgl) hgl) hgl) hgl) hgl) hgl) hgl) hgl) hgl) hgl) hgl) hgl) hgl,Zac (Zac (Zac (Zac (Zac (Zac (Zac (Zac (Zac (Zac (Zac (Zac (Zac (HI4.out.gr) nR) nR) nR) nR) nR) nR) nR) nR) nR) nR) nR) nR) nR⟩
    · clear hr0
      go_wp2_with fail
      refine(ZaB g cols.length _ (by omega) HC.out).mono ?_;rintro e wa ⟨j,rfl,j0,j1,-,hca,hga,hsa⟩;have hj:=j1 (by omega);obtain⟨jn,rfl⟩:=Int.eq_ofNat_of_zero_le j0;have hjn:jn<cols.length:=(by omega);have HC:=hI hca;have HR:=hI ((hga.block w.heap.size (by omega) (by intro e;injection e with e;omega)).trans HR.out);have HG:=hI (HG.out.trans hga);obtain⟨-,d1⟩:=Zcd (HK.out.keep ((ZaT HG.out).same HS.out)) hjn;have HKD:=hI (Zbx HKK.out hjn);generalize cols.getD jn 0=kd at d1 HKD;have HKZ:=hI (show kd≠0 by intro e;have:=HKD.out;rw [e] at this;cases this);have hza':w.heap.size<wa.heap.size:=(by omega);have hlb:b1<wa.heap.size:=(by omega);clear hca hga j1
      go_wp2_with fail
      refine(ZaB g 6 _ (by omega) HC.out).mono ?_;rintro e wc ⟨r6,rfl,p0,p1,-,hcc,hgc,hsc⟩;have hq6:=p1 (by omega);have HC:=hI hcc;have HR:=hI ((hgc.block w.heap.size (by omega) (by intro e;injection e with e;omega)).trans HR.out);have HG:=hI (HG.out.trans hgc);clear hcc hgc p1 d1
      go_wp2_with fail
      refine(ZaI g (some ⟨b1,o1,none⟩) B ck cb cols params kd S _ (HK.out.keep ((ZaT HG.out).same HS.out)) (HBB.out.keep ((ZaT HG.out).same HS.out)) (fun b hb=>⟨by have:=(HS.out b hb).1;omega,(HS.out b hb).2⟩) hl hl2 HKD.out HC.out).mono ?_;rintro e wo ⟨⟨lk,li,⟨lvk,lvi,lvt⟩⟩,rfl,hlo,hco,hgo⟩;have HLO:=hI hlo;have HC:=hI hco;have HR:=hI ((hgo.block w.heap.size (by omega) (by intro e;injection e with e;omega)).trans HR.out);have HG:=hI (HG.out.trans hgo);have hzo:=hgo.size;clear hco hgo hlo
      go_wp2_with fail
      refine(ZaW g kd _ HC.out).mono ?_;rintro e wv ⟨⟨rvk,rvi,rvt⟩,rfl,hv,hcv,hgv0⟩;have HRO:=hI (ZcW (cols:=cols) (params:=params) HKD.out hv);have HC:=hI hcv;have HR:=hI ((hgv0.block w.heap.size (by omega) (by intro e;injection e with e;omega)).trans HR.out);have HG:=hI (HG.out.trans hgv0);have hzv:=hgv0.size;have hzv':w.heap.size<wv.heap.size:=(by omega);have hgv:g<wv.heap.size:=(by omega);have hwv:w.heap.size≤wv.heap.size:=(by omega);have hnv:w.heap.size≠wv.heap.size:=(by omega);have hnv2:wv.heap.size≠w.heap.size:=(by omega);clear hcv hgv0 hv
      go_wp2_with fail
      have HPB:=hI (heap_alloc_new wv (.cells #[.int .i64 3,.int .i64 (1+r6),.int .i64 lk,.int .i64 li,.int .i64 lvk,.int .i64 lvi,.string lvt,.int .i64 3,.int .i64 0,.int .i64 rvk,.int .i64 rvi,.string rvt,.slice none 0 0] 100));have HC:=hI (HC.out.keep (w':=wv.alloc (.cells #[.int .i64 3,.int .i64 (1+r6),.int .i64 lk,.int .i64 li,.int .i64 lvk,.int .i64 lvi,.string lvt,.int .i64 3,.int .i64 0,.int .i64 rvk,.int .i64 rvi,.string rvt,.slice none 0 0] 100)) (fun b hb=>Below.heap_alloc _ _ _ (by omega)));have HR:=hI ((Below.heap_alloc wv (.cells #[.int .i64 3,.int .i64 (1+r6),.int .i64 lk,.int .i64 li,.int .i64 lvk,.int .i64 lvi,.string lvt,.int .i64 3,.int .i64 0,.int .i64 rvk,.int .i64 rvi,.string rvt,.slice none 0 0] 100) _ hzv').trans HR.out);have HG:=hI (HG.out.trans (World.grownBy_alloc wv (.cells #[.int .i64 3,.int .i64 (1+r6),.int .i64 lk,.int .i64 li,.int .i64 lvk,.int .i64 lvi,.string lvt,.int .i64 3,.int .i64 0,.int .i64 rvk,.int .i64 rvi,.string rvt,.slice none 0 0] 100) (some g)));refine(Zay g 3 _ (by omega) (by omega) HC.out).mono ?_;rintro e wd ⟨bb3,rfl,hcb,hgb,hsb⟩;have HPB:=hI ((hgb.block wv.heap.size (by simp) (by intro e;injection e with e;omega)).trans HPB.out);have HR:=hI ((hgb.block w.heap.size (by simp;omega) (by intro e;injection e with e;omega)).trans HR.out);have HC:=hI hcb;have HG:=hI (HG.out.trans hgb);have hzd:wv.heap.size<wd.heap.size:=(by have:=hgb.size;simp at this;omega);have hzd':w.heap.size<wd.heap.size:=(by omega);clear hcb hgb hsb;have HI:=hI (show CmpI w wd g wv.heap.size (1+r6) cols params kd ⟨lk,li,⟨lvk,lvi,lvt⟩⟩ ⟨3,0,⟨rvk,rvi,rvt⟩⟩ from ⟨HPB.out,HR.out,HC.out,HG.out,HLO.out,HRO.out⟩);clear HPB HR HC HG HLO HRO;go_upto_if 58 with fail
      go_cut [11] (fun p W=>∃ (sk si svk svi:Int) (svt:ByteArray),p=.pointer (some ⟨wv.heap.size,0,none⟩)∧CmpI w W g wv.heap.size (1+r6) cols params kd ⟨lk,li,⟨lvk,lvi,lvt⟩⟩ ⟨sk,si,⟨svk,svi,svt⟩⟩)
      case first =>
       cases bb3
       · go_wp2_with fail
         go_meet;exact⟨3,0,rvk,rvi,rvt,rfl,HI.out⟩
       · go_wp2_with fail
         refine(ZaI g (some ⟨b1,o1,none⟩) B ck cb cols params kd S _ (HK.out.keep ((ZaT HI.out.gr).same HS.out)) (HBB.out.keep ((ZaT HI.out.gr).same HS.out)) (fun b hb=>⟨by have:=(HS.out b hb).1;omega,(HS.out b hb).2⟩) hl hl2 HKD.out HI.out.case).mono ?_;rintro e ws ⟨⟨sk,si,⟨svk,svi,svt⟩⟩,rfl,hso,hcs,hgs⟩;have HI2:=hI (HI.out.keep hwv hgv hnv hgs hcs hgl);have HSO:=hI hso;have hp13:=HI2.out.pb;obtain⟨y0,f0,y1,f1,y2,f2,y3,f3,y4,f4,y5,f5,y6,f6,y7,f7,y8,f8,y9,f9,y10,f10,y11,f11,y12,f12⟩:=Zao hp13;have hzs:wv.heap.size<ws.heap.size:=Zag hp13;clear hcs hgs hso hp13
         go_wp2_with fail
         go_meet;exact⟨sk,si,svk,svi,svt,rfl,HI2.out.right hwv hgv hnv HSO.out⟩
      case rest =>
       obtain⟨sk,si,svk,svi,svt,rfl,hi2⟩:=hcut;have HI2:=hI hi2;clear hi2 HI
       go_wp2_with fail
       refine(Zay g 6 _ (by omega) (by omega) HI2.out.case).mono ?_;rintro e wf ⟨bb6,rfl,hcb,hgb,hsb⟩;have HI3:=hI (HI2.out.keep hwv hgv hnv hgb hcb hgl);clear hcb hgb hsb HI2;go_upto_if 66 with fail
       go_cut [11] (fun p W=>∃ (ak ai avk avi:Int) (avt:ByteArray) (bk bi bvk bvi:Int) (bvt:ByteArray),p=.pointer (some ⟨wv.heap.size,0,none⟩)∧CmpI w W g wv.heap.size (1+r6) cols params kd ⟨ak,ai,⟨avk,avi,avt⟩⟩ ⟨bk,bi,⟨bvk,bvi,bvt⟩⟩)
       case first =>
        cases bb6
        · go_wp2_with fail
          go_meet;exact⟨_,_,_,_,_,_,_,_,_,_,rfl,HI3.out⟩
        · have hp13:=HI3.out.pb;obtain⟨y0,f0,y1,f1,y2,f2,y3,f3,y4,f4,y5,f5,y6,f6,y7,f7,y8,f8,y9,f9,y10,f10,y11,f11,y12,f12⟩:=Zao hp13;have hzf:wv.heap.size<wf.heap.size:=Zag hp13;clear hp13
          go_wp2_with fail
          go_meet;exact⟨_,_,_,_,_,_,_,_,_,_,rfl,HI3.out.swap hwv hgv hnv⟩
       case rest =>
        obtain⟨ak,ai,avk,avi,avt,bk,bi,bvk,bvi,bvt,rfl,hi4⟩:=hcut;have HI4:=hI hi4;have hp13:=hi4.pb;have hr13:=hi4.rb;obtain⟨y0,f0,y1,f1,y2,f2,y3,f3,y4,f4,y5,f5,y6,f6,y7,f7,y8,f8,y9,f9,y10,f10,y11,f11,y12,f12⟩:=Zao hp13;obtain⟨z0,q0,z1,q1,z2,q2,z3,q3,z4,q4,z5,q5,z6,q6,z7,q7,z8,q8,z9,q9,z10,q10,z11,q11,z12,q12⟩:=Zao hr13;have hzc:wv.heap.size<wc.heap.size:=Zag hp13;have hzc':w.heap.size<wc.heap.size:=(by omega);clear hi4 HI3 hp13 hr13
        go_wp2_with fail
        have hb13:=ZdP (a0:=.int .i64 3) (a1:=.int .i64 (1+r6)) (a2:=.int .i64 ak) (a3:=.int .i64 ai) (a4:=.int .i64 avk) (a5:=.int .i64 avi) (a6:=.string avt) (a7:=.int .i64 bk) (a8:=.int .i64 bi) (a9:=.int .i64 bvk) (a10:=.int .i64 bvi) (a11:=.string bvt) (a12:=.slice none 0 0) HI4.out.rb;obtain⟨u0,-,u1,-,u2,-,u3,-,u4,-,u5,-,u6,-,u7,-,u8,-,u9,-,u10,-,u11,-,u12,-⟩:=Zao hb13;exact bodyPost_ret (v:=.agg #[.int .i64 3,.int .i64 (1+r6),.int .i64 ak,.int .i64 ai,.int .i64 avk,.int .i64 avi,.string avt,.int .i64 bk,.int .i64 bi,.int .i64 bvk,.int .i64 bvi,.string bvt,.slice none 0 0]) (by simp [results,Try.results88,go_sem,u0,u1,u2,u3,u4,u5,u6,u7,u8,u9,u10,u11,u12]) rfl ⟨3,1+r6,⟨ak,ai,⟨avk,avi,avt⟩⟩,⟨bk,bi,⟨bvk,bvi,bvt⟩⟩,[],none,0,rfl,(GenP.cmp (by omega) (by omega) HKZ.out HI4.out.lo.1 HI4.out.ro.1).more ZdO (by omega),Sl.nil_,Nat.le_refl _,HI4.out.lo.2,HI4.out.ro.2,Zab (Zab (Zab (Zab (Zab (Zab (Zab (Zab (Zab (Zab (Zab (Zab (Zab (HI4.out.case) hgl) hgl) hgl) hgl) hgl) hgl) hgl) hgl) hgl) hgl) hgl) hgl) hgl,Zac (Zac (Zac (Zac (Zac (Zac (Zac (Zac (Zac (Zac (Zac (Zac (Zac (HI4.out.gr) nR) nR) nR) nR) nR) nR) nR) nR) nR) nR) nR) nR) nR⟩
theorem rschCheck_any (A0:Option Addr) (c0':Nat) (s:Sch) (S:Nat→Prop) (w:World) (hs:TabS w S A0 s.tabs) (hS:∀ b,S b→b<w.heap.size) :
  Calls Try.prog 94 #[sAgg s.version A0 s.tabs.length c0'] w (Zbg (schF pcF s) w):=by
 obtain⟨ver,tabs⟩:=s;simp only at hs ⊢;have hsl:=hs.len;have HS:=hI hs;clear hs;have HB0:=hI ((Below.refl w.heap.size w).alloc nR (.cells #[.int .i64 ver,.slice A0 tabs.length c0'] 25));have SB0:=hI (heap_alloc_new w (.cells #[.int .i64 ver,.slice A0 tabs.length c0'] 25))
 by_cases h8:8<tabs.length
 · have HF:=hI (show schF pcF ⟨ver,tabs⟩=2 by unfold schF;rw [if_pos h8]);have hd:decide ((8:Int)<tabs.length)=true:=decide_eq_true (by omega);go_enter Try.func94,Try.ntmps94
   go_wp2_with fail
   go_ret;exact⟨by rw [HF.out];rfl,HB0.out⟩
 have hd:decide ((8:Int)<tabs.length)=false:=decide_eq_false (by omega);go_enter Try.func94,Try.ntmps94
 go_wp2_with fail
 obtain⟨W0,hW0⟩:∃ W0,w.alloc (.cells #[.int .i64 ver,.slice A0 tabs.length c0'] 25)=W0:=⟨_,rfl⟩;rw [hW0] at HB0 SB0 ⊢;have hz0:W0.heap.size=w.heap.size+1:=(by rw [←hW0];simp);obtain⟨sb,hsb⟩:∃ sb,w.heap.size=sb:=⟨_,rfl⟩;rw [hsb] at SB0 hz0 HB0
 try rw [hsb]
 have HSW:=hI (fun b hb=>by rw [←hsb];exact hS b hb:∀ b,S b→b<sb);have HBB:=hI (show ∀ w',Below sb w w'→Below w.heap.size w w' from fun w' h=>by rw [hsb];exact h);clear hW0 hd hS hsb
 go_loopw [18] (fun i wr=>∃ k:Nat,k≤tabs.length∧i=.int .i64 k∧(tabs.take k).any bigT=false∧Below (sb+1) W0 wr) (fun i _=>tabs.length - (intOf i).toNat)
 case atStart=>exact⟨0,Nat.zero_le _,rfl,by simp,Below.refl _ _⟩
 case round =>
  obtain⟨k,hk,rfl,hbig,hbel⟩:=hrel;have HT:=hI hbig;have HB:=hI hbel;have HBW:=hI (HB0.out.trans (hbel.mono (by omega)));have SB:=hI ((hbel.block sb (by omega)).trans SB0.out);have hzr:=hbel.size;clear hbig hbel;have x0:wr.cell? ⟨sb,0,none⟩=some (.int .i64 ver):=Zaa SB.out 0 _ rfl;have x1:wr.cell? ⟨sb,1,none⟩=some (.slice A0 tabs.length c0'):=Zaa SB.out 1 _ rfl;have hsr:sb<wr.heap.size:=by omega
  by_cases hkl:k<tabs.length
  · have hki:(k:Int)<tabs.length:=(by omega);obtain⟨b2,o2,rfl,hb2,A1,A2,A3,c1,c2,c3,hta⟩:=(HS.out.keep (Same.of_below HBW.out HSW.out)).at_ hkl;obtain⟨k1,k2,k3,k4,k5,cS,rS,pS,-,-,-,-⟩:=hta;have hcl:=cS.len;have hrl:=rS.len;have hpl:=pS.len;have hl2:b2<wr.heap.size:=(by have:=HSW.out b2 hb2;omega);have HSTEP:=hI (Zfj tabs k hkl);have HBT:=hI (Zfi tabs k hkl);have HBA:=hI (HB.out.alloc (by omega) (.cells #[.string (tabs.getD k t0).name,.slice A1 (tabs.getD k t0).cols.length c1,.int .i64 (tabs.getD k t0).key,.slice A2 (tabs.getD k t0).refs.length c2,.slice A3 (tabs.getD k t0).checks.length c3] 39));have HBX:=hI (HBB.out _ (HBW.out.alloc (by omega) (.cells #[.string (tabs.getD k t0).name,.slice A1 (tabs.getD k t0).cols.length c1,.int .i64 (tabs.getD k t0).key,.slice A2 (tabs.getD k t0).refs.length c2,.slice A3 (tabs.getD k t0).checks.length c3] 39)));clear cS rS pS x0;generalize tabs.getD k t0=tb at k1 k2 k3 k4 k5 HSTEP HBT hcl hrl hpl HBA HBX;obtain⟨tn,tc,tk,tr,tp⟩:=tb;simp only at k1 k2 k3 k4 k5 hcl hrl hpl HBA HBX;have HF:=hI (show bigT ⟨tn,tc,tk,tr,tp⟩=true→schF pcF ⟨ver,tabs⟩=2 from fun h=>by unfold schF;rw [if_neg h8,if_pos (HBT.out h)])
    by_cases hc8:8<tc.length
    · have hd1:decide ((8:Int)<tc.length)=true:=decide_eq_true (by omega);have HF2:=hI (HF.out (by simp [bigT,hc8]))
      go_wp2_with fail
      go_ret;exact⟨by rw [HF2.out];rfl,HBX.out⟩
    have hd1:decide ((8:Int)<tc.length)=false:=decide_eq_false (by omega)
    by_cases hr4:4<tr.length
    · have hd2:decide ((4:Int)<tr.length)=true:=decide_eq_true (by omega);have HF2:=hI (HF.out (by simp [bigT,hr4]))
      go_wp2_with fail
      go_ret;exact⟨by rw [HF2.out];rfl,HBX.out⟩
    have hd2:decide ((4:Int)<tr.length)=false:=decide_eq_false (by omega)
    by_cases hp4:4<tp.length
    · have hd3:decide ((4:Int)<tp.length)=true:=decide_eq_true (by omega);have HF2:=hI (HF.out (by simp [bigT,hp4]))
      go_wp2_with fail
      go_ret;exact⟨by rw [HF2.out];rfl,HBX.out⟩
    have hd3:decide ((4:Int)<tp.length)=false:=decide_eq_false (by omega);have HC:=hI (show (tabs.take (k+1)).any bigT=false by rw [HSTEP.out,HT.out];simp [bigT];omega)
    go_wp2_with fail
    go_roundw
    case rel=>exact⟨k+1,by omega,by go_num,HC.out,HBA.out⟩
    case measure=>simp [intOf];omega
  have hki:¬ (k:Int)<tabs.length:=(by omega);have HNB:=hI (show tabs.any bigT=false by have:=HT.out;rwa [List.take_of_length_le (by omega)] at this);have HSCH:=hI (show schF pcF ⟨ver,tabs⟩=if ver<0∨1000<ver∨Zan [] tabs=false∨ZaA tabs tabs=false then 70 else chkT pcF tabs by unfold schF;rw [if_neg h8,if_neg (by rw [HNB.out];simp)]);clear HT HNB
  by_cases hv0:ver<0
  · have hd1:decide (ver<0)=true:=decide_eq_true hv0;have HF:=hI (show schF pcF ⟨ver,tabs⟩=70 by rw [HSCH.out,if_pos (.inl hv0)])
    go_wp2_with fail
    go_ret;exact⟨by rw [HF.out];rfl,HBB.out _ HBW.out⟩
  have hd1:decide (ver<0)=false:=decide_eq_false hv0
  by_cases hv1:1000<ver
  · have hd2:decide (1000<ver)=true:=decide_eq_true hv1;have HF:=hI (show schF pcF ⟨ver,tabs⟩=70 by rw [HSCH.out,if_pos (.inr (.inl hv1))])
    go_wp2_with fail
    go_ret;exact⟨by rw [HF.out];rfl,HBB.out _ HBW.out⟩
  have hd2:decide (1000<ver)=false:=decide_eq_false hv1
  go_wp2_with fail
  clear hd1 hd2 x0 x1;obtain⟨W1,rfl⟩:∃ W1:World,W1=wr:=⟨_,rfl⟩
  go_loopw [50] (fun i wr=>∃ k:Nat,k≤tabs.length∧i=.int .i64 k∧Zan [] tabs=Zan (Zbc (Zdp tabs) k) (tabs.drop k)∧Below (sb+1) W0 wr) (fun i _=>tabs.length - (intOf i).toNat)
  case atStart=>exact⟨0,Nat.zero_le _,rfl,by simp [Zbc],HB.out⟩
  case round =>
   clear HB SB HBW hzr hsr hkl hki;obtain⟨k,hk,rfl,hnf,hbel⟩:=hrel;have HT:=hI hnf;have HB:=hI hbel;have HBW:=hI (HB0.out.trans (hbel.mono (by omega)));have SB:=hI ((hbel.block sb (by omega)).trans SB0.out);have hzr:=hbel.size;clear hnf hbel;have x0:wr.cell? ⟨sb,0,none⟩=some (.int .i64 ver):=Zaa SB.out 0 _ rfl;have x1:wr.cell? ⟨sb,1,none⟩=some (.slice A0 tabs.length c0'):=Zaa SB.out 1 _ rfl;have hsr:sb<wr.heap.size:=by omega
   by_cases hkl:k<tabs.length
   · have hki:(k:Int)<tabs.length:=(by omega);have HSTEP:=hI (named_step tabs k hkl)
     go_wp2_with fail
     refine(rtable_any A0 c0' ⟨ver,tabs⟩ k S wr (HS.out.keep (Same.of_below HBW.out HSW.out)) (fun b hb=>by have:=HSW.out b hb;omega) hkl).mono ?_;rintro e w2 ⟨rfl,hb2⟩;have HB2:=hI (HB.out.trans (hb2.mono (by omega)));have HBW2:=hI (HBW.out.trans (hb2.mono (by omega)));simp only;clear hb2 x0 x1
     by_cases ht:Zcm (Zbc (Zdp tabs) k) (tabs.getD k t0)=true
     · have HC:=hI (show Zan [] tabs=Zan (Zbc (Zdp tabs) (k+1)) (tabs.drop (k+1)) by rw [HT.out,HSTEP.out,ht];rfl);rw [ht];clear ht
       go_wp2_with fail
       go_roundw
       case rel=>exact⟨k+1,by omega,by go_num,HC.out,HB2.out⟩
       case measure=>simp [intOf];omega
     · have ht':Zcm (Zbc (Zdp tabs) k) (tabs.getD k t0)=false:=(by simpa using ht);have HF:=hI (show schF pcF ⟨ver,tabs⟩=70 by rw [HSCH.out,if_pos (.inr (.inr (.inl (by rw [HT.out,HSTEP.out,ht'];rfl))))]);rw [ht'];clear ht ht'
       go_wp2_with fail
       go_ret;exact⟨by rw [HF.out];rfl,HBB.out _ HBW2.out⟩
   have hki:¬ (k:Int)<tabs.length:=(by omega);have HN:=hI (show Zan [] tabs=true by rw [HT.out,List.drop_eq_nil_of_le (by omega)];rfl);have HKC:=hI (ZdA tabs [] HN.out)
   go_wp2_with fail
   clear HT x0 x1;obtain⟨W2,rfl⟩:∃ W2:World,W2=wr:=⟨_,rfl⟩
   go_loopw [61] (fun i wr=>∃ k:Nat,k≤tabs.length∧i=.int .i64 k∧ZaA tabs tabs=ZaA tabs (tabs.drop k)∧Below (sb+1) W0 wr) (fun i _=>tabs.length - (intOf i).toNat)
   case atStart=>exact⟨0,Nat.zero_le _,rfl,by simp,HB.out⟩
   case round =>
    clear HB SB HBW hzr hsr hkl hki;obtain⟨k,hk,rfl,hnf,hbel⟩:=hrel;have HT:=hI hnf;have HB:=hI hbel;have HBW:=hI (HB0.out.trans (hbel.mono (by omega)));have SB:=hI ((hbel.block sb (by omega)).trans SB0.out);have hzr:=hbel.size;clear hnf hbel;have x0:wr.cell? ⟨sb,0,none⟩=some (.int .i64 ver):=Zaa SB.out 0 _ rfl;have x1:wr.cell? ⟨sb,1,none⟩=some (.slice A0 tabs.length c0'):=Zaa SB.out 1 _ rfl;have hsr:sb<wr.heap.size:=by omega
    by_cases hkl:k<tabs.length
    · have hki:(k:Int)<tabs.length:=(by omega);have HSTEP:=hI (Zcs tabs tabs k hkl)
      go_wp2_with fail
      refine(rrefs_any A0 c0' ⟨ver,tabs⟩ k S wr (HS.out.keep (Same.of_below HBW.out HSW.out)) (fun b hb=>by have:=HSW.out b hb;omega) hkl HKC.out).mono ?_;rintro e w2 ⟨rfl,hb2⟩;have HB2:=hI (HB.out.trans (hb2.mono (by omega)));have HBW2:=hI (HBW.out.trans (hb2.mono (by omega)));simp only;clear hb2 x0 x1
      by_cases ht:ZaK tabs (tabs.getD k t0).cols (tabs.getD k t0).refs=true
      · have HC:=hI (show ZaA tabs tabs=ZaA tabs (tabs.drop (k+1)) by rw [HT.out,HSTEP.out,ht];rfl);rw [ht];clear ht
        go_wp2_with fail
        go_roundw
        case rel=>exact⟨k+1,by omega,by go_num,HC.out,HB2.out⟩
        case measure=>simp [intOf];omega
      · have ht':ZaK tabs (tabs.getD k t0).cols (tabs.getD k t0).refs=false:=(by simpa using ht);have HF:=hI (show schF pcF ⟨ver,tabs⟩=70 by rw [HSCH.out,if_pos (.inr (.inr (.inr (by rw [HT.out,HSTEP.out,ht'];rfl))))]);rw [ht'];clear ht ht'
        go_wp2_with fail
        go_ret;exact⟨by rw [HF.out];rfl,HBB.out _ HBW2.out⟩
    have hki:¬ (k:Int)<tabs.length:=(by omega)
    have HFF:=hI (show schF pcF ⟨ver,tabs⟩=chkT pcF tabs by
     rw [HSCH.out,if_neg];rw [HN.out,show ZaA tabs tabs=true by rw [HT.out,List.drop_eq_nil_of_le (by omega)];rfl];simp;omega)
    go_wp2_with fail
    clear HT x0 x1 HSCH;obtain⟨W3,rfl⟩:∃ W3:World,W3=wr:=⟨_,rfl⟩
    go_loopw [72] (fun i wr=>∃ k:Nat,k≤tabs.length∧i=.int .i64 k∧chkT pcF tabs=chkT pcF (tabs.drop k)∧Below (sb+1) W0 wr) (fun i _=>tabs.length - (intOf i).toNat)
    case atStart=>exact⟨0,Nat.zero_le _,rfl,by simp,HB.out⟩
    case round =>
     clear HB SB HBW hzr hsr hkl hki;obtain⟨k,hk,rfl,hnf,hbel⟩:=hrel;have HT:=hI hnf;have HB:=hI hbel;have HBW:=hI (HB0.out.trans (hbel.mono (by omega)));have SB:=hI ((hbel.block sb (by omega)).trans SB0.out);have hzr:=hbel.size;clear hnf hbel;have x0:wr.cell? ⟨sb,0,none⟩=some (.int .i64 ver):=Zaa SB.out 0 _ rfl;have x1:wr.cell? ⟨sb,1,none⟩=some (.slice A0 tabs.length c0'):=Zaa SB.out 1 _ rfl;have hsr:sb<wr.heap.size:=by omega
     by_cases hkl:k<tabs.length
     · have hki:(k:Int)<tabs.length:=(by omega);obtain⟨b2,o2,rfl,hb2,A1,A2,A3,c1,c2,c3,hta⟩:=(HS.out.keep (Same.of_below HBW.out HSW.out)).at_ hkl;have k5:=hta.checks;have HPS:=hI hta.pS;have hpl:=hta.pS.len;have hl2:b2<wr.heap.size:=(by have:=HSW.out b2 hb2;omega);have HSTEP:=hI (ZeP pcF tabs k hkl);have HKE:=hI (ZeL ⟨ver,tabs⟩ k hkl);clear hta;simp only at HKE;generalize tabs.getD k t0=tb at k5 HSTEP HPS HKE hpl;obtain⟨tn,tc,tk,tr,tp⟩:=tb;simp only at k5 hpl HPS HKE HSTEP;obtain⟨ks,hks⟩:∃ ks,tc.map (·.kind)=ks:=⟨_,rfl⟩;rw [hks] at HSTEP HKE;clear hks
       go_wp2_with fail
       clear x0 x1 k5;obtain⟨W4,rfl⟩:∃ W4:World,W4=wr:=⟨_,rfl⟩
       go_loopw [82] (fun i wr=>∃ j:Nat,j≤tp.length∧i=.int .i64 j∧chkL pcF ks tp=chkL pcF ks (tp.drop j)∧Below (sb+1) W0 wr∧Below W4.heap.size W4 wr) (fun i _=>tp.length - (intOf i).toNat)
       case atStart=>exact⟨0,Nat.zero_le _,rfl,by simp,HB.out,Below.refl _ _⟩
       case round =>
        clear HB SB hsr;obtain⟨j,hj,rfl,hnf,hbel,hb4⟩:=hrel;have HT2:=hI hnf;have HB:=hI hbel;have HB4:=hI hb4;have HBW3:=hI (HB0.out.trans (hbel.mono (by omega)));have SB:=hI ((hbel.block sb (by omega)).trans SB0.out);have hz4:=hb4.size;clear hnf hbel hb4;have hsr:sb<wr.heap.size:=by omega
        by_cases hjl:j<tp.length
        · have hji:(j:Int)<tp.length:=(by omega);obtain⟨b5,o5,rfl,hb5,op',cmp',lf,rt,args',A',c',hpe,hpa⟩:=(HPS.out.keep (fun b hb=>HB4.out.block b (by have:=HSW.out b hb;omega))).at_ hjl;have HSTEP2:=hI (ZeQ pcF ks tp j hjl);rw [hpe] at HSTEP2;obtain⟨pv,hpv⟩:∃ pv,pcF ks (.mk op' cmp' lf rt args')=pv:=⟨_,rfl⟩;rw [hpv] at HSTEP2;have HPV:=hI hpv;clear hpv;have HPA:=hI hpa;obtain⟨f1,f2,f3,f4,f6,f7,f8,f9,f10,f11,f12,f13,f5,-,-,-,-⟩:=hpa;have hl5:b5<wr.heap.size:=(by have:=HSW.out b5 hb5;omega);clear hpe
          go_wp2_with fail
          obtain⟨W5,hW5⟩:∃ W5,wr.alloc (.cells #[.int .i64 op',.int .i64 cmp',.int .i64 lf.kind,.int .i64 lf.index,.int .i64 lf.value.k,.int .i64 lf.value.i,.string lf.value.t,.int .i64 rt.kind,.int .i64 rt.index,.int .i64 rt.value.k,.int .i64 rt.value.i,.string rt.value.t,.slice A' args'.length c'] 100)=W5:=⟨_,rfl⟩;obtain⟨pb,hpb⟩:∃ pb,wr.heap.size=pb:=⟨_,rfl⟩;have hb5':Below wr.heap.size wr W5:=(by rw [←hW5];exact(Below.refl _ _).alloc nR _);have PB:=hI (show W5.heap[pb]?=some (.cells #[.int .i64 op',.int .i64 cmp',.int .i64 lf.kind,.int .i64 lf.index,.int .i64 lf.value.k,.int .i64 lf.value.i,.string lf.value.t,.int .i64 rt.kind,.int .i64 rt.index,.int .i64 rt.value.k,.int .i64 rt.value.i,.string rt.value.t,.slice A' args'.length c'] 100 (0,0)) by rw [←hW5,←hpb];exact heap_alloc_new wr _);have SB:=hI ((hb5'.block sb hsr).trans SB.out);have HB5:=hI (HB.out.trans (hb5'.mono (by omega)));have HB54:=hI (HB4.out.trans (hb5'.mono hz4));have HB4b:=HB4;have hz5:W5.heap.size=pb+1:=(by rw [←hW5,←hpb];simp);have hpb':sb<pb:=(by omega);have hpb4:W4.heap.size≤pb:=(by omega);rw [hW5]
          try rw [hpb]
          clear hW5 hb5' f1 f2 f3 f4 f6 f7 f8 f9 f10 f11 f12 f13 f5 HB HB4 HBW3 hpb;refine tS (fun w'=>w'.heap[sb]?=some (.cells #[.int .i64 ver,.slice (some ⟨b2,o2,none⟩) tabs.length c0'] 25 (0,0))∧w'.heap[pb]?=some (.cells #[.int .i64 op',.int .i64 cmp',.int .i64 lf.kind,.int .i64 lf.index,.int .i64 lf.value.k,.int .i64 lf.value.i,.string lf.value.t,.int .i64 rt.kind,.int .i64 rt.index,.int .i64 rt.value.k,.int .i64 rt.value.i,.string rt.value.t,.slice A' args'.length c'] 100 (0,0))) 6 6 fun Q' HQ HP=>?_;refine anyT_take (i:=0) (oi:=⟨some 86,_,_,_,_,_⟩) (v:=.agg #[.int .i64 ver,.slice (some ⟨b2,o2,none⟩) tabs.length c0']) (L':=(bA 6 1)) rfl rfl (by kernel_rfl) (by kernel_rfl) (by kernel_rfl) (by kernel_rfl) (by kernel_rfl) HP.out (Or.inl ⟨by rfl,?_⟩) ⟨SB.out,PB.out⟩ ?_
          · intro w' hSw;have x0:=Zaa hSw.1 0 _ rfl;have x1:=Zaa hSw.1 1 _ rfl;go_simp
            (try with_reducible rfl)
          simp only [psA,psB,psC];refine tJ 1 87 (bA 6 3) HP.out ⟨SB.out,PB.out⟩ ?_;refine anyT_take (i:=3) (oi:=⟨some 89,_,_,_,_,_⟩) (v:=.agg #[.int .i64 op',.int .i64 cmp',.int .i64 lf.kind,.int .i64 lf.index,.int .i64 lf.value.k,.int .i64 lf.value.i,.string lf.value.t,.int .i64 rt.kind,.int .i64 rt.index,.int .i64 rt.value.k,.int .i64 rt.value.i,.string rt.value.t,.slice A' args'.length c']) (L':=(bA 6 11)) rfl rfl (by kernel_rfl) (by kernel_rfl) (by kernel_rfl) (by kernel_rfl) (by kernel_rfl) HP.out (Or.inl ⟨by rfl,?_⟩) ⟨SB.out,PB.out⟩ ?_
          · intro w' hSw;have x0:=Zaa hSw.2 0 _ rfl;have x1:=Zaa hSw.2 1 _ rfl;have x2:=Zaa hSw.2 2 _ rfl;have x3:=Zaa hSw.2 3 _ rfl;have x4:=Zaa hSw.2 4 _ rfl;have x5:=Zaa hSw.2 5 _ rfl;have x6:=Zaa hSw.2 6 _ rfl;have x7:=Zaa hSw.2 7 _ rfl;have x8:=Zaa hSw.2 8 _ rfl;have x9:=Zaa hSw.2 9 _ rfl;have x10:=Zaa hSw.2 10 _ rfl;have x11:=Zaa hSw.2 11 _ rfl;have x12:=Zaa hSw.2 12 _ rfl;go_simp
            (try with_reducible rfl)
          simp only [psA,psB,psC];refine tQ 2 (some 88) (bA 6 15) fun K HK=>?_;go_simp;refine(ZcS _ c0' ⟨ver,tabs⟩ k S W5.drew ((HS.out.keep (Same.of_below (HB0.out.trans (HB5.out.mono (by omega))) HSW.out)).keep (w':=W5.drew) (fun _ _=>rfl)) (fun b hb=>by have:=HSW.out b hb;show b<W5.heap.size;omega)).mono ?_;rintro e w6 ⟨KA,ck,rfl,hIS,hck,-,hb60⟩;rw [HKE.out] at hIS hck ⊢;have hb6:Below W5.heap.size W5 w6:=(Below.refl _ W5).drew.trans hb60;have hz6:=hb6.size;have HIS:=hI (show IntS w6 (fun b=>W5.heap.size≤b∧b<w6.heap.size) KA ks from hIS);have HB6:=hI (HB5.out.trans (hb6.mono (by omega)));have HB64:=hI (HB54.out.trans (hb6.mono (by omega)));have SB:=hI ((hb6.block sb (by omega)).trans SB.out);have PB:=hI ((hb6.block pb (by omega)).trans PB.out);clear hIS hb60 hb6;refine HK.out _ _ (fun _=>⟨SB.out,PB.out⟩) ?_;clear HK K
          try simp only [Act.put,psA,psB,psC]
          refine tQ 4 (some 90) (bA 6 31) fun K HK=>?_;go_simp;refine(Zdx KA none ck 0 ks [] op' cmp' lf rt args' A' c' (fun b=>b<w6.heap.size) w6 (HIS.out.more (fun b hb=>hb.2)) IntS.nil_ ((HPA.out.pS.keep (w':=w6) (fun b hb=>(HB64.out.block b (by have:=HSW.out b hb;omega)).trans (HB4b.out.block b (by have:=HSW.out b hb;omega)).symm)).more (fun b hb=>by have:=HSW.out b hb;show b<w6.heap.size;omega)) (fun b hb=>hb) HPA.out.lt HPA.out.rt).mono ?_;rintro e w7 ⟨rfl,hb7⟩;rw [show pcFF ks [] (.mk op' cmp' lf rt args')=pv from HPV.out];have hz7:=hb7.size;have HB6:=hI (HB6.out.trans (hb7.mono (by omega)));have HB64:=hI (HB64.out.trans (hb7.mono (by omega)));have SB:=hI ((hb7.block sb (by omega)).trans SB.out);have PB:=hI ((hb7.block pb (by omega)).trans PB.out);clear hb7;refine HK.out _ _ (fun _=>⟨SB.out,PB.out⟩) ?_;clear HK K
          try simp only [Act.put,psA,psB,psC]
          refine tJ 5 10 (bA 6 63) HP.out ⟨SB.out,PB.out⟩ ?_;refine tE HQ ?_;clear HQ HP Q';have HBY:=hI (HBB.out _ (HB0.out.trans (HB6.out.mono (by omega))))
          by_cases he:pv=0
          · have HC:=hI (show chkL pcF ks tp=chkL pcF ks (tp.drop (j+1)) by rw [HT2.out,HSTEP2.out,if_neg (by simpa using he)]);subst he;clear HSTEP2
            go_wp2_with fail
            go_roundw
            case rel=>exact⟨j+1,by omega,by go_num,HC.out,HB6.out,HB64.out⟩
            case measure=>simp [intOf];omega
          · have HL:=hI (show chkL pcF ks tp=pv by rw [HT2.out,HSTEP2.out,if_pos he]);have HTT:=hI (show chkT pcF tabs=pv by rw [HT.out,HSTEP.out,HL.out,if_pos he]);have hd:(pv != 0)=true:=(by simp [he]);clear HL HSTEP2;clear he
            go_wp2_with fail
            go_ret;exact⟨by rw [HFF.out,HTT.out];rfl,HBY.out⟩
        · have hji:¬ (j:Int)<tp.length:=(by omega);have HE:=hI (show chkL pcF ks tp=0 by rw [HT2.out,show j=tp.length by omega,List.drop_length];rfl);have HC:=hI (show chkT pcF tabs=chkT pcF (tabs.drop (k+1)) by rw [HT.out,HSTEP.out,HE.out];rfl)
          go_wp2_with fail
          go_roundw
          case rel=>exact⟨k+1,by omega,by go_num,HC.out,HB.out⟩
          case measure=>simp [intOf];omega
     · have hki:¬ (k:Int)<tabs.length:=(by omega);have HE:=hI (show chkT pcF tabs=0 by rw [HT.out,show k=tabs.length by omega,List.drop_length];rfl)
       go_wp2_with fail
       go_ret;exact⟨by rw [HFF.out,HE.out];rfl,HBB.out _ HBW.out⟩
end Go.Proofs.Ytkpjjfhfbpfjpaa
