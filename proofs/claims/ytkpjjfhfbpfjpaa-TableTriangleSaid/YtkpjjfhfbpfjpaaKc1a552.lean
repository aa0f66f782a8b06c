import Derived.Test.YtkpjjfhfbpfjpaaK70ce45
import Derived.Deep.Cut
import Derived.Deep.CutRange
import Derived.Deep.DeepCutAuto
set_option linter.unusedVariables false
set_option linter.unusedSimpArgs false
set_option maxRecDepth 100000
set_option maxHeartbeats 8000000
namespace Go.Proofs.Ytkpjjfhfbpfjpaa
open Go.RowKit
theorem Zdb {w:World} {S:Nat→Prop} {b o k:Nat} {l:List Int} (h:IntS w S (some ⟨b,o,none⟩) l) (hk:k<l.length):S b∧w.cell? ⟨b,o+k,none⟩=some (.int .i64 (l.getD k 0)):=by
 obtain⟨b',o',e,h1,h2⟩:=h.at_ hk;injection e with e;injection e with e1 e2;subst e1 e2;exact⟨h1,h2⟩
theorem Zcg:∀ {l:List Int} {k:Nat},ZaB l=true→k<l.length→Zbd (l.getD k 0)=true
 | [],k,_,hk=>by simp at hk
 | x :: l,k,h,hk=>by
  simp only [ZaB,Bool.and_eq_true] at h;cases k with
  | zero=>exact h.1
  | succ k=>simpa using Zcg (l:=l) (k:=k) h.2 (by simpa using hk)
def ND:Nat→Nat
 | 0=>1
 | d+1=>1+3*ND d
def Zeb (cols params:List Int) (d:Nat) (w:World) (g:Nat) (e:Ending) (w':World):Prop :=
 ∃ (op cmp:Int) (l r:Opd) (args:List Pred) (A:Option Addr) (c:Nat),e=.returned (pAgg op cmp l r A args.length c)∧GenP cols params (ND d) (d+1) (.mk op cmp l r args)∧PredS w' (fun b=>w.heap.size<b∧b<w'.heap.size) A args∧args.length≤c∧l.value.t.size≤64∧r.value.t.size≤64∧CaseOk w' g∧w.grownBy w' (some g)
abbrev zP:Obj:=.cells #[.int .i64 0,.int .i64 0,.int .i64 0,.int .i64 0,.int .i64 0,.int .i64 0,.string ⟨#[]⟩,.int .i64 0,.int .i64 0,.int .i64 0,.int .i64 0,.string ⟨#[]⟩,.slice none 0 0] 100 (0,0)
theorem Zfu {w:World} {B:Nat} {t:TypeId} {x0 x1 x2 x3 x4 x5 x6 x7 x8 x9 x10 x11 x12 a0 a1 a2 a3 a4 a5 a6 a7 a8 a9 a10 a11 a12:Value} (h:w.heap[B]?=some (.cells #[x0,x1,x2,x3,x4,x5,x6,x7,x8,x9,x10,x11,x12] t (0,0))):(((((((((((((w.setCell ⟨B,0,none⟩ a0).setCell ⟨B,1,none⟩ a1).setCell ⟨B,2,none⟩ a2).setCell ⟨B,3,none⟩ a3).setCell ⟨B,4,none⟩ a4).setCell ⟨B,5,none⟩ a5).setCell ⟨B,6,none⟩ a6).setCell ⟨B,7,none⟩ a7).setCell ⟨B,8,none⟩ a8).setCell ⟨B,9,none⟩ a9).setCell ⟨B,10,none⟩ a10).setCell ⟨B,11,none⟩ a11).setCell ⟨B,12,none⟩ a12).heap[B]?=some (.cells #[a0,a1,a2,a3,a4,a5,a6,a7,a8,a9,a10,a11,a12] t (0,0)):=by
 have h1:w.heap[B]?=some (.cells [x0,x1,x2,x3,x4,x5,x6,x7,x8,x9,x10,x11,x12].toArray t (0,0)):=h;have h2:=Zaf (k:=12) (v:=a12) (Zaf (k:=11) (v:=a11) (Zaf (k:=10) (v:=a10) (Zaf (k:=9) (v:=a9) (Zaf (k:=8) (v:=a8) (Zaf (k:=7) (v:=a7) (Zaf (k:=6) (v:=a6) (Zaf (k:=5) (v:=a5) (Zaf (k:=4) (v:=a4) (Zaf (k:=3) (v:=a3) (Zaf (k:=2) (v:=a2) (Zaf (k:=1) (v:=a1) (Zaf (k:=0) (v:=a0) (h1)))))))))))));simpa using h2
theorem put5r {w:World} {B:Nat} {t:TypeId} {x0 x1 x2 x3 x4 x5 x6 x7 x8 x9 x10 x11 x12 a7 a8 a9 a10 a11:Value} (h:w.heap[B]?=some (.cells #[x0,x1,x2,x3,x4,x5,x6,x7,x8,x9,x10,x11,x12] t (0,0))):(((((w.setCell ⟨B,7,none⟩ a7).setCell ⟨B,8,none⟩ a8).setCell ⟨B,9,none⟩ a9).setCell ⟨B,10,none⟩ a10).setCell ⟨B,11,none⟩ a11).heap[B]?=some (.cells #[x0,x1,x2,x3,x4,x5,x6,a7,a8,a9,a10,a11,x12] t (0,0)):=by
 have h1:w.heap[B]?=some (.cells [x0,x1,x2,x3,x4,x5,x6,x7,x8,x9,x10,x11,x12].toArray t (0,0)):=h;have h2:=Zaf (k:=11) (v:=a11) (Zaf (k:=10) (v:=a10) (Zaf (k:=9) (v:=a9) (Zaf (k:=8) (v:=a8) (Zaf (k:=7) (v:=a7) h1))));simpa using h2
theorem put5l {w:World} {B:Nat} {t:TypeId} {x0 x1 x2 x3 x4 x5 x6 x7 x8 x9 x10 x11 x12 a2 a3 a4 a5 a6:Value} (h:w.heap[B]?=some (.cells #[x0,x1,x2,x3,x4,x5,x6,x7,x8,x9,x10,x11,x12] t (0,0))):(((((w.setCell ⟨B,2,none⟩ a2).setCell ⟨B,3,none⟩ a3).setCell ⟨B,4,none⟩ a4).setCell ⟨B,5,none⟩ a5).setCell ⟨B,6,none⟩ a6).heap[B]?=some (.cells #[x0,x1,a2,a3,a4,a5,a6,x7,x8,x9,x10,x11,x12] t (0,0)):=by
 have h1:w.heap[B]?=some (.cells [x0,x1,x2,x3,x4,x5,x6,x7,x8,x9,x10,x11,x12].toArray t (0,0)):=h;have h2:=Zaf (k:=6) (v:=a6) (Zaf (k:=5) (v:=a5) (Zaf (k:=4) (v:=a4) (Zaf (k:=3) (v:=a3) (Zaf (k:=2) (v:=a2) h1))));simpa using h2
theorem Zat {w:World} {B:Nat} {t:TypeId} {x0 x1 x2 x3 x4 x5 x6 x7 x8 x9 x10 x11 x12:Value} (h:w.heap[B]?=some (.cells #[x0,x1,x2,x3,x4,x5,x6,x7,x8,x9,x10,x11,x12] t (0,0))):w.cell? ⟨B,0,none⟩=some x0∧w.frozen? ⟨B,0,none⟩=false∧w.cell? ⟨B,1,none⟩=some x1∧w.frozen? ⟨B,1,none⟩=false∧w.cell? ⟨B,2,none⟩=some x2∧w.frozen? ⟨B,2,none⟩=false∧w.cell? ⟨B,3,none⟩=some x3∧w.frozen? ⟨B,3,none⟩=false∧w.cell? ⟨B,4,none⟩=some x4∧w.frozen? ⟨B,4,none⟩=false∧w.cell? ⟨B,5,none⟩=some x5∧w.frozen? ⟨B,5,none⟩=false∧w.cell? ⟨B,6,none⟩=some x6∧w.frozen? ⟨B,6,none⟩=false∧w.cell? ⟨B,7,none⟩=some x7∧w.frozen? ⟨B,7,none⟩=false∧w.cell? ⟨B,8,none⟩=some x8∧w.frozen? ⟨B,8,none⟩=false∧w.cell? ⟨B,9,none⟩=some x9∧w.frozen? ⟨B,9,none⟩=false∧w.cell? ⟨B,10,none⟩=some x10∧w.frozen? ⟨B,10,none⟩=false∧w.cell? ⟨B,11,none⟩=some x11∧w.frozen? ⟨B,11,none⟩=false∧w.cell? ⟨B,12,none⟩=some x12∧w.frozen? ⟨B,12,none⟩=false:=by
 refine⟨?_,?_,?_,?_,?_,?_,?_,?_,?_,?_,?_,?_,?_,?_,?_,?_,?_,?_,?_,?_,?_,?_,?_,?_,?_,?_⟩<;>first | exact Zaa h _ _ rfl | simp [World.frozen?,World.cell?,h]
theorem Zbz {w:World} {B B' k:Nat} {v:Value} {o:Option Obj} (hn:B'≠B) (h:w.heap[B']?=o):(w.setCell ⟨B,k,none⟩ v).heap[B']?=o:=(Below.heap_setCell w ⟨B,k,none⟩ v B' hn).trans h
structure CmpI (w W:World) (g PB:Nat) (c:Int) (cols params:List Int) (kd:Int) (l r:Opd):Prop where
 pb:W.heap[PB]?=some (.cells #[.int .i64 3,.int .i64 c,.int .i64 l.kind,.int .i64 l.index,.int .i64 l.value.k,.int .i64 l.value.i,.string l.value.t,.int .i64 r.kind,.int .i64 r.index,.int .i64 r.value.k,.int .i64 r.value.i,.string r.value.t,.slice none 0 0] 100 (0,0))
 rb:W.heap[w.heap.size]?=some zP
 case:CaseOk W g
 gr:w.grownBy W (some g)
 lo:Zgn cols params kd l
 ro:Zgn cols params kd r
section
variable {w W W':World} {g PB:Nat} {c:Int} {cols params:List Int} {kd:Int} {l r:Opd}
theorem CmpI.keep (h:CmpI w W g PB c cols params kd l r) (h1:w.heap.size≤PB) (h2:g<PB) (h3:w.heap.size≠PB) (hg:W.grownBy W' (some g)) (hc:CaseOk W' g) (hgl:g<w.heap.size):CmpI w W' g PB c cols params kd l r :=
 ⟨(hg.block _ (Zad h.pb) (by intro e;injection e with e;omega)).trans h.pb,(hg.block _ (Zad h.rb) (by intro e;injection e with e;omega)).trans h.rb,hc,h.gr.trans hg,h.lo,h.ro⟩
theorem CmpI.right {sk si svk svi:Int} {svt:ByteArray} (h:CmpI w W g PB c cols params kd l r) (h1:w.heap.size≤PB) (h2:g<PB) (h3:w.heap.size≠PB) (hs:Zgn cols params kd ⟨sk,si,⟨svk,svi,svt⟩⟩) :
  CmpI w (((((W.setCell ⟨PB,7,none⟩ (.int .i64 sk)).setCell ⟨PB,8,none⟩ (.int .i64 si)).setCell ⟨PB,9,none⟩ (.int .i64 svk)).setCell ⟨PB,10,none⟩ (.int .i64 svi)).setCell ⟨PB,11,none⟩ (.string svt)) g PB c cols params kd l ⟨sk,si,⟨svk,svi,svt⟩⟩ :=
 ⟨put5r h.pb,Zbz h3 (Zbz h3 (Zbz h3 (Zbz h3 (Zbz h3 h.rb)))),Zab (Zab (Zab (Zab (Zab h.case h2) h2) h2) h2) h2,Zac (Zac (Zac (Zac (Zac h.gr h1) h1) h1) h1) h1,h.lo,hs⟩
theorem CmpI.swap (h:CmpI w W g PB c cols params kd l r) (h1:w.heap.size≤PB) (h2:g<PB) (h3:w.heap.size≠PB) :
  CmpI w ((((((((((W.setCell ⟨PB,2,none⟩ (.int .i64 r.kind)).setCell ⟨PB,3,none⟩ (.int .i64 r.index)).setCell ⟨PB,4,none⟩ (.int .i64 r.value.k)).setCell ⟨PB,5,none⟩ (.int .i64 r.value.i)).setCell ⟨PB,6,none⟩ (.string r.value.t)).setCell ⟨PB,7,none⟩ (.int .i64 l.kind)).setCell ⟨PB,8,none⟩ (.int .i64 l.index)).setCell ⟨PB,9,none⟩ (.int .i64 l.value.k)).setCell ⟨PB,10,none⟩ (.int .i64 l.value.i)).setCell ⟨PB,11,none⟩ (.string l.value.t)) g PB c cols params kd r l :=
 ⟨put5r (put5l h.pb),Zbz h3 (Zbz h3 (Zbz h3 (Zbz h3 (Zbz h3 (Zbz h3 (Zbz h3 (Zbz h3 (Zbz h3 (Zbz h3 h.rb))))))))),Zab (Zab (Zab (Zab (Zab (Zab (Zab (Zab (Zab (Zab h.case h2) h2) h2) h2) h2) h2) h2) h2) h2) h2,Zac (Zac (Zac (Zac (Zac (Zac (Zac (Zac (Zac (Zac h.gr h1) h1) h1) h1) h1) h1) h1) h1) h1) h1,h.ro,h.lo⟩
end
theorem Zfs {d:Nat}:1≤ND d:=by cases d<;>simp [ND]
theorem tree_zero (g:Nat) (K B:Option Addr) (ck cb:Nat) (cols params:List Int) (hl:cols.length≤100000) (hl2:params.length≤100000) (hpos:0<cols.length) (hkk:ZaB cols=true):∀ (S:Nat→Prop) (w:World),IntS w S K cols→IntS w S B params→(∀ b,S b→b<w.heap.size∧b≠g)→CaseOk w g →
  Calls Try.prog 88 #[.pointer (some ⟨g,0,none⟩),.slice K cols.length ck,.slice B params.length cb,.int .i64 0] w (Zeb cols params 0 w g):=by
  have HKK:=hI hkk;clear hkk;intro S w hK hB hS hc;obtain⟨b1,o1,rfl,hb1,-⟩:=hK.at_ hpos;have hgl:=hc.lt;have hSl:∀ b,S b→b<w.heap.size:=fun b hb=>(hS b hb).1;have HK:=hI hK;have HBB:=hI hB;have HS:=hI hS;have HC0:=hI (hc.keep (w':=w.alloc zP) (fun b hb=>Below.heap_alloc _ _ _ (by omega)));have hza:(w.alloc zP).heap.size=w.heap.size+1:=(by simp);have HG0:=hI (World.grownBy_alloc w zP (some g));have HR0:=hI (heap_alloc_new w zP);have hlb1:b1<w.heap.size:=hSl b1 hb1;clear hK hB hc hS;go_enter Try.func88,Try.ntmps88
  go_wp2_with fail
  refine(ZaO g 9 _ (by omega) HC0.out).mono ?_;rintro e w1 ⟨r,rfl,h0,h1,-,hc1,hg1,hs1⟩;have hr:=h1 (by omega);have HC:=hI hc1;have HG:=hI (HG0.out.trans hg1);have HR:=hI ((hg1.block w.heap.size (by omega) (by intro e;injection e with e;omega)).trans HR0.out);have hz1:w.heap.size<w1.heap.size:=(by omega);clear hc1 hg1 h1 HC0 HG0 HR0
  by_cases hr0:r=0
  · subst hr0
    go_wp2_with fail
    refine(ZaK g 2 _ (by omega) (by omega) HC.out).mono ?_;rintro e w2 ⟨bb,rfl,hcb,hgb,hsb⟩;have HC:=hI hcb;have HR:=hI ((hgb.block w.heap.size (by omega) (by intro e;injection e with e;omega)).trans HR.out);have HG:=hI (HG.out.trans hgb);have hz2:w.heap.size<w2.heap.size:=(by omega);clear hcb hgb;cases bb
    · go_wp2_with fail
      refine(ZaO g cols.length _ (by omega) HC.out).mono ?_;rintro e wa ⟨j,rfl,j0,j1,-,hca,hga,hsa⟩;have hj:=j1 (by omega);obtain⟨jn,rfl⟩:=Int.eq_ofNat_of_zero_le j0;have hjn:jn<cols.length:=(by omega);have HC:=hI hca;have HR:=hI ((hga.block w.heap.size (by omega) (by intro e;injection e with e;omega)).trans HR.out);have HG:=hI (HG.out.trans hga);obtain⟨-,d1⟩:=Zdb (HK.out.keep ((Zbp HG.out).same HS.out)) hjn;have HKD:=hI (Zcg HKK.out hjn);generalize cols.getD jn 0=kd at d1 HKD;have HKZ:=hI (show kd≠0 by intro e;have:=HKD.out;rw [e] at this;cases this);have hza':w.heap.size<wa.heap.size:=(by omega);have hlb:b1<wa.heap.size:=(by omega);clear hca hga j1
      go_wp2_with fail
      refine(ZaO g 6 _ (by omega) HC.out).mono ?_;rintro e wc ⟨r6,rfl,p0,p1,-,hcc,hgc,hsc⟩;have hr6:=p1 (by omega);have HC:=hI hcc;have HR:=hI ((hgc.block w.heap.size (by omega) (by intro e;injection e with e;omega)).trans HR.out);have HG:=hI (HG.out.trans hgc);clear hcc hgc p1 d1
      go_wp2_with fail
      refine(ZaY g (some ⟨b1,o1,none⟩) B ck cb cols params kd S _ (HK.out.keep ((Zbp HG.out).same HS.out)) (HBB.out.keep ((Zbp HG.out).same HS.out)) (fun b hb=>⟨by have:=(HS.out b hb).1;omega,(HS.out b hb).2⟩) hl hl2 HKD.out HC.out).mono ?_;rintro e wo ⟨⟨lk,li,⟨lvk,lvi,lvt⟩⟩,rfl,hlo,hco,hgo⟩;have HLO:=hI hlo;have HC:=hI hco;have HR:=hI ((hgo.block w.heap.size (by omega) (by intro e;injection e with e;omega)).trans HR.out);have HG:=hI (HG.out.trans hgo);have hzo:=hgo.size;clear hco hgo hlo
      go_wp2_with fail
      refine(ZbC g kd _ HC.out).mono ?_;rintro e wv ⟨⟨rvk,rvi,rvt⟩,rfl,hv,hcv,hgv0⟩;have HRO:=hI (Zeg (cols:=cols) (params:=params) HKD.out hv);have HC:=hI hcv;have HR:=hI ((hgv0.block w.heap.size (by omega) (by intro e;injection e with e;omega)).trans HR.out);have HG:=hI (HG.out.trans hgv0);have hzv:=hgv0.size;have hzv':w.heap.size<wv.heap.size:=(by omega);have hgv:g<wv.heap.size:=(by omega);have hwv:w.heap.size≤wv.heap.size:=(by omega);have hnv:w.heap.size≠wv.heap.size:=(by omega);have hnv2:wv.heap.size≠w.heap.size:=(by omega);clear hcv hgv0 hv
      go_wp2_with fail
      have HPB:=hI (heap_alloc_new wv (.cells #[.int .i64 3,.int .i64 (1+r6),.int .i64 lk,.int .i64 li,.int .i64 lvk,.int .i64 lvi,.string lvt,.int .i64 3,.int .i64 0,.int .i64 rvk,.int .i64 rvi,.string rvt,.slice none 0 0] 100));have HC:=hI (HC.out.keep (w':=wv.alloc (.cells #[.int .i64 3,.int .i64 (1+r6),.int .i64 lk,.int .i64 li,.int .i64 lvk,.int .i64 lvi,.string lvt,.int .i64 3,.int .i64 0,.int .i64 rvk,.int .i64 rvi,.string rvt,.slice none 0 0] 100)) (fun b hb=>Below.heap_alloc _ _ _ (by omega)));have HR:=hI ((Below.heap_alloc wv (.cells #[.int .i64 3,.int .i64 (1+r6),.int .i64 lk,.int .i64 li,.int .i64 lvk,.int .i64 lvi,.string lvt,.int .i64 3,.int .i64 0,.int .i64 rvk,.int .i64 rvi,.string rvt,.slice none 0 0] 100) _ hzv').trans HR.out);have HG:=hI (HG.out.trans (World.grownBy_alloc wv (.cells #[.int .i64 3,.int .i64 (1+r6),.int .i64 lk,.int .i64 li,.int .i64 lvk,.int .i64 lvi,.string lvt,.int .i64 3,.int .i64 0,.int .i64 rvk,.int .i64 rvi,.string rvt,.slice none 0 0] 100) (some g)));refine(ZaK g 3 _ (by omega) (by omega) HC.out).mono ?_;rintro e wd ⟨bb3,rfl,hcb,hgb,hsb⟩;have HPB:=hI ((hgb.block wv.heap.size (by simp) (by intro e;injection e with e;omega)).trans HPB.out);have HR:=hI ((hgb.block w.heap.size (by simp;omega) (by intro e;injection e with e;omega)).trans HR.out);have HC:=hI hcb;have HG:=hI (HG.out.trans hgb);have hzd:wv.heap.size<wd.heap.size:=(by have:=hgb.size;simp at this;omega);have hzd':w.heap.size<wd.heap.size:=(by omega);clear hcb hgb hsb;have HI:=hI (show CmpI w wd g wv.heap.size (1+r6) cols params kd ⟨lk,li,⟨lvk,lvi,lvt⟩⟩ ⟨3,0,⟨rvk,rvi,rvt⟩⟩ from ⟨HPB.out,HR.out,HC.out,HG.out,HLO.out,HRO.out⟩);clear HPB HR HC HG HLO HRO;go_upto_if 58 with fail
      go_cut [11] (fun p W=>∃ (sk si svk svi:Int) (svt:ByteArray),p=.pointer (some ⟨wv.heap.size,0,none⟩)∧CmpI w W g wv.heap.size (1+r6) cols params kd ⟨lk,li,⟨lvk,lvi,lvt⟩⟩ ⟨sk,si,⟨svk,svi,svt⟩⟩)
      case first =>
       cases bb3
       · go_wp2_with fail
         go_meet;exact⟨3,0,rvk,rvi,rvt,rfl,HI.out⟩
       · go_wp2_with fail
         refine(ZaY g (some ⟨b1,o1,none⟩) B ck cb cols params kd S _ (HK.out.keep ((Zbp HI.out.gr).same HS.out)) (HBB.out.keep ((Zbp HI.out.gr).same HS.out)) (fun b hb=>⟨by have:=(HS.out b hb).1;omega,(HS.out b hb).2⟩) hl hl2 HKD.out HI.out.case).mono ?_;rintro e ws ⟨⟨sk,si,⟨svk,svi,svt⟩⟩,rfl,hso,hcs,hgs⟩;have HI2:=hI (HI.out.keep hwv hgv hnv hgs hcs hgl);have HSO:=hI hso;have hp13:=HI2.out.pb;obtain⟨y0,f0,y1,f1,y2,f2,y3,f3,y4,f4,y5,f5,y6,f6,y7,f7,y8,f8,y9,f9,y10,f10,y11,f11,y12,f12⟩:=Zat hp13;have hzs:wv.heap.size<ws.heap.size:=Zad hp13;clear hcs hgs hso hp13
         go_wp2_with fail
         go_meet;exact⟨sk,si,svk,svi,svt,rfl,HI2.out.right hwv hgv hnv HSO.out⟩
      case rest =>
       obtain⟨sk,si,svk,svi,svt,rfl,hi2⟩:=hcut;have HI2:=hI hi2;clear hi2 HI
       go_wp2_with fail
       refine(ZaK g 6 _ (by omega) (by omega) HI2.out.case).mono ?_;rintro e wf ⟨bb6,rfl,hcb,hgb,hsb⟩;have HI3:=hI (HI2.out.keep hwv hgv hnv hgb hcb hgl);clear hcb hgb hsb HI2;go_upto_if 66 with fail
       go_cut [11] (fun p W=>∃ (ak ai avk avi:Int) (avt:ByteArray) (bk bi bvk bvi:Int) (bvt:ByteArray),p=.pointer (some ⟨wv.heap.size,0,none⟩)∧CmpI w W g wv.heap.size (1+r6) cols params kd ⟨ak,ai,⟨avk,avi,avt⟩⟩ ⟨bk,bi,⟨bvk,bvi,bvt⟩⟩)
       case first =>
        cases bb6
        · go_wp2_with fail
          go_meet;exact⟨_,_,_,_,_,_,_,_,_,_,rfl,HI3.out⟩
        · have hp13:=HI3.out.pb;obtain⟨y0,f0,y1,f1,y2,f2,y3,f3,y4,f4,y5,f5,y6,f6,y7,f7,y8,f8,y9,f9,y10,f10,y11,f11,y12,f12⟩:=Zat hp13;have hzf:wv.heap.size<wf.heap.size:=Zad hp13;clear hp13
          go_wp2_with fail
          go_meet;exact⟨_,_,_,_,_,_,_,_,_,_,rfl,HI3.out.swap hwv hgv hnv⟩
       case rest =>
        obtain⟨ak,ai,avk,avi,avt,bk,bi,bvk,bvi,bvt,rfl,hi4⟩:=hcut;have HI4:=hI hi4;have hp13:=hi4.pb;have hr13:=hi4.rb;obtain⟨y0,f0,y1,f1,y2,f2,y3,f3,y4,f4,y5,f5,y6,f6,y7,f7,y8,f8,y9,f9,y10,f10,y11,f11,y12,f12⟩:=Zat hp13;obtain⟨z0,q0,z1,q1,z2,q2,z3,q3,z4,q4,z5,q5,z6,q6,z7,q7,z8,q8,z9,q9,z10,q10,z11,q11,z12,q12⟩:=Zat hr13;have hzc:wv.heap.size<wc.heap.size:=Zad hp13;have hzc':w.heap.size<wc.heap.size:=(by omega);clear hi4 HI3 hp13 hr13
        go_wp2_with fail
        have hb13:=Zfu (a0:=.int .i64 3) (a1:=.int .i64 (1+r6)) (a2:=.int .i64 ak) (a3:=.int .i64 ai) (a4:=.int .i64 avk) (a5:=.int .i64 avi) (a6:=.string avt) (a7:=.int .i64 bk) (a8:=.int .i64 bi) (a9:=.int .i64 bvk) (a10:=.int .i64 bvi) (a11:=.string bvt) (a12:=.slice none 0 0) HI4.out.rb;obtain⟨u0,-,u1,-,u2,-,u3,-,u4,-,u5,-,u6,-,u7,-,u8,-,u9,-,u10,-,u11,-,u12,-⟩:=Zat hb13;exact bodyPost_ret (v:=.agg #[.int .i64 3,.int .i64 (1+r6),.int .i64 ak,.int .i64 ai,.int .i64 avk,.int .i64 avi,.string avt,.int .i64 bk,.int .i64 bi,.int .i64 bvk,.int .i64 bvi,.string bvt,.slice none 0 0]) (by simp [results,Try.results88,go_sem,u0,u1,u2,u3,u4,u5,u6,u7,u8,u9,u10,u11,u12]) rfl ⟨3,1+r6,⟨ak,ai,⟨avk,avi,avt⟩⟩,⟨bk,bi,⟨bvk,bvi,bvt⟩⟩,[],none,0,rfl,(GenP.cmp (by omega) (by omega) HKZ.out HI4.out.lo.1 HI4.out.ro.1).more Zfs (by omega),Sl.nil_,Nat.le_refl _,HI4.out.lo.2,HI4.out.ro.2,Zab (Zab (Zab (Zab (Zab (Zab (Zab (Zab (Zab (Zab (Zab (Zab (Zab (HI4.out.case) hgl) hgl) hgl) hgl) hgl) hgl) hgl) hgl) hgl) hgl) hgl) hgl) hgl,Zac (Zac (Zac (Zac (Zac (Zac (Zac (Zac (Zac (Zac (Zac (Zac (Zac (HI4.out.gr) nR) nR) nR) nR) nR) nR) nR) nR) nR) nR) nR) nR) nR⟩
    · go_wp2_with fail
      refine(ZaO g 2 _ (by omega) HC.out).mono ?_;rintro e wa ⟨j,rfl,j0,j1,-,hca,hga,hsa⟩;have HJ:=hI (show 1+j=1∨1+j=2 by have:=j1 (by omega);omega);have HC:=hI hca;have HR:=hI ((hga.block w.heap.size (by omega) (by intro e;injection e with e;omega)).trans HR.out);have HG:=hI (HG.out.trans hga);have hza':w.heap.size<wa.heap.size:=(by omega);have hjj:=j1 (by omega);clear hca hga j1;have hr13:=HR.out;obtain⟨y0,f0,y1,f1,y2,f2,y3,f3,y4,f4,y5,f5,y6,f6,y7,f7,y8,f8,y9,f9,y10,f10,y11,f11,y12,f12⟩:=Zat hr13;clear hr13
      go_wp2_with fail
      have hb13:=Zfu (a0:=.int .i64 (1+j)) (a1:=.int .i64 0) (a2:=.int .i64 0) (a3:=.int .i64 0) (a4:=.int .i64 0) (a5:=.int .i64 0) (a6:=.string ⟨#[]⟩) (a7:=.int .i64 0) (a8:=.int .i64 0) (a9:=.int .i64 0) (a10:=.int .i64 0) (a11:=.string ⟨#[]⟩) (a12:=.slice none 0 0) HR.out;obtain⟨u0,-,u1,-,u2,-,u3,-,u4,-,u5,-,u6,-,u7,-,u8,-,u9,-,u10,-,u11,-,u12,-⟩:=Zat hb13;exact bodyPost_ret (v:=.agg #[.int .i64 (1+j),.int .i64 0,.int .i64 0,.int .i64 0,.int .i64 0,.int .i64 0,.string ⟨#[]⟩,.int .i64 0,.int .i64 0,.int .i64 0,.int .i64 0,.string ⟨#[]⟩,.slice none 0 0]) (by simp [results,Try.results88,go_sem,u0,u1,u2,u3,u4,u5,u6,u7,u8,u9,u10,u11,u12]) rfl ⟨1+j,0,⟨0,0,v0⟩,⟨0,0,v0⟩,[],none,0,rfl,(GenP.leaf HJ.out).more Zfs (by omega),Sl.nil_,Nat.le_refl _,by decide,by decide,Zab (Zab (Zab (Zab (Zab (Zab (Zab (Zab (Zab (Zab (Zab (Zab (Zab (HC.out) hgl) hgl) hgl) hgl) hgl) hgl) hgl) hgl) hgl) hgl) hgl) hgl) hgl,Zac (Zac (Zac (Zac (Zac (Zac (Zac (Zac (Zac (Zac (Zac (Zac (Zac (HG.out) nR) nR) nR) nR) nR) nR) nR) nR) nR) nR) nR) nR) nR⟩
  · have hr0':(r == 0)=false:=beq_eq_false_iff_ne.2 hr0
    by_cases hr6:r<6
    · clear hr0
      go_wp2_with fail
      refine(ZaO g cols.length _ (by omega) HC.out).mono ?_;rintro e wa ⟨j,rfl,j0,j1,-,hca,hga,hsa⟩;have hj:=j1 (by omega);obtain⟨jn,rfl⟩:=Int.eq_ofNat_of_zero_le j0;have hjn:jn<cols.length:=(by omega);have HC:=hI hca;have HR:=hI ((hga.block w.heap.size (by omega) (by intro e;injection e with e;omega)).trans HR.out);have HG:=hI (HG.out.trans hga);obtain⟨-,d1⟩:=Zdb (HK.out.keep ((Zbp HG.out).same HS.out)) hjn;have HKD:=hI (Zcg HKK.out hjn);generalize cols.getD jn 0=kd at d1 HKD;have HKZ:=hI (show kd≠0 by intro e;have:=HKD.out;rw [e] at this;cases this);have hza':w.heap.size<wa.heap.size:=(by omega);have hlb:b1<wa.heap.size:=(by omega);clear hca hga j1
      go_wp2_with fail
      refine(ZaO g 6 _ (by omega) HC.out).mono ?_;rintro e wc ⟨r6,rfl,p0,p1,-,hcc,hgc,hsc⟩;have hq6:=p1 (by omega);have HC:=hI hcc;have HR:=hI ((hgc.block w.heap.size (by omega) (by intro e;injection e with e;omega)).trans HR.out);have HG:=hI (HG.out.trans hgc);clear hcc hgc p1 d1
      go_wp2_with fail
      refine(ZaY g (some ⟨b1,o1,none⟩) B ck cb cols params kd S _ (HK.out.keep ((Zbp HG.out).same HS.out)) (HBB.out.keep ((Zbp HG.out).same HS.out)) (fun b hb=>⟨by have:=(HS.out b hb).1;omega,(HS.out b hb).2⟩) hl hl2 HKD.out HC.out).mono ?_;rintro e wo ⟨⟨lk,li,⟨lvk,lvi,lvt⟩⟩,rfl,hlo,hco,hgo⟩;have HLO:=hI hlo;have HC:=hI hco;have HR:=hI ((hgo.block w.heap.size (by omega) (by intro e;injection e with e;omega)).trans HR.out);have HG:=hI (HG.out.trans hgo);have hzo:=hgo.size;clear hco hgo hlo
      go_wp2_with fail
      refine(ZbC g kd _ HC.out).mono ?_;rintro e wv ⟨⟨rvk,rvi,rvt⟩,rfl,hv,hcv,hgv0⟩;have HRO:=hI (Zeg (cols:=cols) (params:=params) HKD.out hv);have HC:=hI hcv;have HR:=hI ((hgv0.block w.heap.size (by omega) (by intro e;injection e with e;omega)).trans HR.out);have HG:=hI (HG.out.trans hgv0);have hzv:=hgv0.size;have hzv':w.heap.size<wv.heap.size:=(by omega);have hgv:g<wv.heap.size:=(by omega);have hwv:w.heap.size≤wv.heap.size:=(by omega);have hnv:w.heap.size≠wv.heap.size:=(by omega);have hnv2:wv.heap.size≠w.heap.size:=(by omega);clear hcv hgv0 hv
      go_wp2_with fail
      have HPB:=hI (heap_alloc_new wv (.cells #[.int .i64 3,.int .i64 (1+r6),.int .i64 lk,.int .i64 li,.int .i64 lvk,.int .i64 lvi,.string lvt,.int .i64 3,.int .i64 0,.int .i64 rvk,.int .i64 rvi,.string rvt,.slice none 0 0] 100));have HC:=hI (HC.out.keep (w':=wv.alloc (.cells #[.int .i64 3,.int .i64 (1+r6),.int .i64 lk,.int .i64 li,.int .i64 lvk,.int .i64 lvi,.string lvt,.int .i64 3,.int .i64 0,.int .i64 rvk,.int .i64 rvi,.string rvt,.slice none 0 0] 100)) (fun b hb=>Below.heap_alloc _ _ _ (by omega)));have HR:=hI ((Below.heap_alloc wv (.cells #[.int .i64 3,.int .i64 (1+r6),.int .i64 lk,.int .i64 li,.int .i64 lvk,.int .i64 lvi,.string lvt,.int .i64 3,.int .i64 0,.int .i64 rvk,.int .i64 rvi,.string rvt,.slice none 0 0] 100) _ hzv').trans HR.out);have HG:=hI (HG.out.trans (World.grownBy_alloc wv (.cells #[.int .i64 3,.int .i64 (1+r6),.int .i64 lk,.int .i64 li,.int .i64 lvk,.int .i64 lvi,.string lvt,.int .i64 3,.int .i64 0,.int .i64 rvk,.int .i64 rvi,.string rvt,.slice none 0 0] 100) (some g)));refine(ZaK g 3 _ (by omega) (by omega) HC.out).mono ?_;rintro e wd ⟨bb3,rfl,hcb,hgb,hsb⟩;have HPB:=hI ((hgb.block wv.heap.size (by simp) (by intro e;injection e with e;omega)).trans HPB.out);have HR:=hI ((hgb.block w.heap.size (by simp;omega) (by intro e;injection e with e;omega)).trans HR.out);have HC:=hI hcb;have HG:=hI (HG.out.trans hgb);have hzd:wv.heap.size<wd.heap.size:=(by have:=hgb.size;simp at this;omega);have hzd':w.heap.size<wd.heap.size:=(by omega);clear hcb hgb hsb;have HI:=hI (show CmpI w wd g wv.heap.size (1+r6) cols params kd ⟨lk,li,⟨lvk,lvi,lvt⟩⟩ ⟨3,0,⟨rvk,rvi,rvt⟩⟩ from ⟨HPB.out,HR.out,HC.out,HG.out,HLO.out,HRO.out⟩);clear HPB HR HC HG HLO HRO;go_upto_if 58 with fail
      go_cut [11] (fun p W=>∃ (sk si svk svi:Int) (svt:ByteArray),p=.pointer (some ⟨wv.heap.size,0,none⟩)∧CmpI w W g wv.heap.size (1+r6) cols params kd ⟨lk,li,⟨lvk,lvi,lvt⟩⟩ ⟨sk,si,⟨svk,svi,svt⟩⟩)
      case first =>
       cases bb3
       · go_wp2_with fail
         go_meet;exact⟨3,0,rvk,rvi,rvt,rfl,HI.out⟩
       · go_wp2_with fail
         refine(ZaY g (some ⟨b1,o1,none⟩) B ck cb cols params kd S _ (HK.out.keep ((Zbp HI.out.gr).same HS.out)) (HBB.out.keep ((Zbp HI.out.gr).same HS.out)) (fun b hb=>⟨by have:=(HS.out b hb).1;omega,(HS.out b hb).2⟩) hl hl2 HKD.out HI.out.case).mono ?_;rintro e ws ⟨⟨sk,si,⟨svk,svi,svt⟩⟩,rfl,hso,hcs,hgs⟩;have HI2:=hI (HI.out.keep hwv hgv hnv hgs hcs hgl);have HSO:=hI hso;have hp13:=HI2.out.pb;obtain⟨y0,f0,y1,f1,y2,f2,y3,f3,y4,f4,y5,f5,y6,f6,y7,f7,y8,f8,y9,f9,y10,f10,y11,f11,y12,f12⟩:=Zat hp13;have hzs:wv.heap.size<ws.heap.size:=Zad hp13;clear hcs hgs hso hp13
         go_wp2_with fail
         go_meet;exact⟨sk,si,svk,svi,svt,rfl,HI2.out.right hwv hgv hnv HSO.out⟩
      case rest =>
       obtain⟨sk,si,svk,svi,svt,rfl,hi2⟩:=hcut;have HI2:=hI hi2;clear hi2 HI
       go_wp2_with fail
       refine(ZaK g 6 _ (by omega) (by omega) HI2.out.case).mono ?_;rintro e wf ⟨bb6,rfl,hcb,hgb,hsb⟩;have HI3:=hI (HI2.out.keep hwv hgv hnv hgb hcb hgl);clear hcb hgb hsb HI2;go_upto_if 66 with fail
       go_cut [11] (fun p W=>∃ (ak ai avk avi:Int) (avt:ByteArray) (bk bi bvk bvi:Int) (bvt:ByteArray),p=.pointer (some ⟨wv.heap.size,0,none⟩)∧CmpI w W g wv.heap.size (1+r6) cols params kd ⟨ak,ai,⟨avk,avi,avt⟩⟩ ⟨bk,bi,⟨bvk,bvi,bvt⟩⟩)
       case first =>
        cases bb6
        · go_wp2_with fail
          go_meet;exact⟨_,_,_,_,_,_,_,_,_,_,rfl,HI3.out⟩
        · have hp13:=HI3.out.pb;obtain⟨y0,f0,y1,f1,y2,f2,y3,f3,y4,f4,y5,f5,y6,f6,y7,f7,y8,f8,y9,f9,y10,f10,y11,f11,y12,f12⟩:=Zat hp13;have hzf:wv.heap.size<wf.heap.size:=Zad hp13;clear hp13
          go_wp2_with fail
          go_meet;exact⟨_,_,_,_,_,_,_,_,_,_,rfl,HI3.out.swap hwv hgv hnv⟩
       case rest =>
        obtain⟨ak,ai,avk,avi,avt,bk,bi,bvk,bvi,bvt,rfl,hi4⟩:=hcut;have HI4:=hI hi4;have hp13:=hi4.pb;have hr13:=hi4.rb;obtain⟨y0,f0,y1,f1,y2,f2,y3,f3,y4,f4,y5,f5,y6,f6,y7,f7,y8,f8,y9,f9,y10,f10,y11,f11,y12,f12⟩:=Zat hp13;obtain⟨z0,q0,z1,q1,z2,q2,z3,q3,z4,q4,z5,q5,z6,q6,z7,q7,z8,q8,z9,q9,z10,q10,z11,q11,z12,q12⟩:=Zat hr13;have hzc:wv.heap.size<wc.heap.size:=Zad hp13;have hzc':w.heap.size<wc.heap.size:=(by omega);clear hi4 HI3 hp13 hr13
        go_wp2_with fail
        have hb13:=Zfu (a0:=.int .i64 3) (a1:=.int .i64 (1+r6)) (a2:=.int .i64 ak) (a3:=.int .i64 ai) (a4:=.int .i64 avk) (a5:=.int .i64 avi) (a6:=.string avt) (a7:=.int .i64 bk) (a8:=.int .i64 bi) (a9:=.int .i64 bvk) (a10:=.int .i64 bvi) (a11:=.string bvt) (a12:=.slice none 0 0) HI4.out.rb;obtain⟨u0,-,u1,-,u2,-,u3,-,u4,-,u5,-,u6,-,u7,-,u8,-,u9,-,u10,-,u11,-,u12,-⟩:=Zat hb13;exact bodyPost_ret (v:=.agg #[.int .i64 3,.int .i64 (1+r6),.int .i64 ak,.int .i64 ai,.int .i64 avk,.int .i64 avi,.string avt,.int .i64 bk,.int .i64 bi,.int .i64 bvk,.int .i64 bvi,.string bvt,.slice none 0 0]) (by simp [results,Try.results88,go_sem,u0,u1,u2,u3,u4,u5,u6,u7,u8,u9,u10,u11,u12]) rfl ⟨3,1+r6,⟨ak,ai,⟨avk,avi,avt⟩⟩,⟨bk,bi,⟨bvk,bvi,bvt⟩⟩,[],none,0,rfl,(GenP.cmp (by omega) (by omega) HKZ.out HI4.out.lo.1 HI4.out.ro.1).more Zfs (by omega),Sl.nil_,Nat.le_refl _,HI4.out.lo.2,HI4.out.ro.2,Zab (Zab (Zab (Zab (Zab (Zab (Zab (Zab (Zab (Zab (Zab (Zab (Zab (HI4.out.case) hgl) hgl) hgl) hgl) hgl) hgl) hgl) hgl) hgl) hgl) hgl) hgl) hgl,Zac (Zac (Zac (Zac (Zac (Zac (Zac (Zac (Zac (Zac (Zac (Zac (Zac (HI4.out.gr) nR) nR) nR) nR) nR) nR) nR) nR) nR) nR) nR) nR) nR⟩
    · clear hr0
      go_wp2_with fail
      refine(ZaO g cols.length _ (by omega) HC.out).mono ?_;rintro e wa ⟨j,rfl,j0,j1,-,hca,hga,hsa⟩;have hj:=j1 (by omega);obtain⟨jn,rfl⟩:=Int.eq_ofNat_of_zero_le j0;have hjn:jn<cols.length:=(by omega);have HC:=hI hca;have HR:=hI ((hga.block w.heap.size (by omega) (by intro e;injection e with e;omega)).trans HR.out);have HG:=hI (HG.out.trans hga);obtain⟨-,d1⟩:=Zdb (HK.out.keep ((Zbp HG.out).same HS.out)) hjn;have HKD:=hI (Zcg HKK.out hjn);generalize cols.getD jn 0=kd at d1 HKD;have HKZ:=hI (show kd≠0 by intro e;have:=HKD.out;rw [e] at this;cases this);have hza':w.heap.size<wa.heap.size:=(by omega);have hlb:b1<wa.heap.size:=(by omega);clear hca hga j1
      go_wp2_with fail
      refine(ZaO g 6 _ (by omega) HC.out).mono ?_;rintro e wc ⟨r6,rfl,p0,p1,-,hcc,hgc,hsc⟩;have hq6:=p1 (by omega);have HC:=hI hcc;have HR:=hI ((hgc.block w.heap.size (by omega) (by intro e;injection e with e;omega)).trans HR.out);have HG:=hI (HG.out.trans hgc);clear hcc hgc p1 d1
      go_wp2_with fail
      refine(ZaY g (some ⟨b1,o1,none⟩) B ck cb cols params kd S _ (HK.out.keep ((Zbp HG.out).same HS.out)) (HBB.out.keep ((Zbp HG.out).same HS.out)) (fun b hb=>⟨by have:=(HS.out b hb).1;omega,(HS.out b hb).2⟩) hl hl2 HKD.out HC.out).mono ?_;rintro e wo ⟨⟨lk,li,⟨lvk,lvi,lvt⟩⟩,rfl,hlo,hco,hgo⟩;have HLO:=hI hlo;have HC:=hI hco;have HR:=hI ((hgo.block w.heap.size (by omega) (by intro e;injection e with e;omega)).trans HR.out);have HG:=hI (HG.out.trans hgo);have hzo:=hgo.size;clear hco hgo hlo
      go_wp2_with fail
      refine(ZbC g kd _ HC.out).mono ?_;rintro e wv ⟨⟨rvk,rvi,rvt⟩,rfl,hv,hcv,hgv0⟩;have HRO:=hI (Zeg (cols:=cols) (params:=params) HKD.out hv);have HC:=hI hcv;have HR:=hI ((hgv0.block w.heap.size (by omega) (by intro e;injection e with e;omega)).trans HR.out);have HG:=hI (HG.out.trans hgv0);have hzv:=hgv0.size;have hzv':w.heap.size<wv.heap.size:=(by omega);have hgv:g<wv.heap.size:=(by omega);have hwv:w.heap.size≤wv.heap.size:=(by omega);have hnv:w.heap.size≠wv.heap.size:=(by omega);have hnv2:wv.heap.size≠w.heap.size:=(by omega);clear hcv hgv0 hv
      go_wp2_with fail
      have HPB:=hI (heap_alloc_new wv (.cells #[.int .i64 3,.int .i64 (1+r6),.int .i64 lk,.int .i64 li,.int .i64 lvk,.int .i64 lvi,.string lvt,.int .i64 3,.int .i64 0,.int .i64 rvk,.int .i64 rvi,.string rvt,.slice none 0 0] 100));have HC:=hI (HC.out.keep (w':=wv.alloc (.cells #[.int .i64 3,.int .i64 (1+r6),.int .i64 lk,.int .i64 li,.int .i64 lvk,.int .i64 lvi,.string lvt,.int .i64 3,.int .i64 0,.int .i64 rvk,.int .i64 rvi,.string rvt,.slice none 0 0] 100)) (fun b hb=>Below.heap_alloc _ _ _ (by omega)));have HR:=hI ((Below.heap_alloc wv (.cells #[.int .i64 3,.int .i64 (1+r6),.int .i64 lk,.int .i64 li,.int .i64 lvk,.int .i64 lvi,.string lvt,.int .i64 3,.int .i64 0,.int .i64 rvk,.int .i64 rvi,.string rvt,.slice none 0 0] 100) _ hzv').trans HR.out);have HG:=hI (HG.out.trans (World.grownBy_alloc wv (.cells #[.int .i64 3,.int .i64 (1+r6),.int .i64 lk,.int .i64 li,.int .i64 lvk,.int .i64 lvi,.string lvt,.int .i64 3,.int .i64 0,.int .i64 rvk,.int .i64 rvi,.string rvt,.slice none 0 0] 100) (some g)));refine(ZaK g 3 _ (by omega) (by omega) HC.out).mono ?_;rintro e wd ⟨bb3,rfl,hcb,hgb,hsb⟩;have HPB:=hI ((hgb.block wv.heap.size (by simp) (by intro e;injection e with e;omega)).trans HPB.out);have HR:=hI ((hgb.block w.heap.size (by simp;omega) (by intro e;injection e with e;omega)).trans HR.out);have HC:=hI hcb;have HG:=hI (HG.out.trans hgb);have hzd:wv.heap.size<wd.heap.size:=(by have:=hgb.size;simp at this;omega);have hzd':w.heap.size<wd.heap.size:=(by omega);clear hcb hgb hsb;have HI:=hI (show CmpI w wd g wv.heap.size (1+r6) cols params kd ⟨lk,li,⟨lvk,lvi,lvt⟩⟩ ⟨3,0,⟨rvk,rvi,rvt⟩⟩ from ⟨HPB.out,HR.out,HC.out,HG.out,HLO.out,HRO.out⟩);clear HPB HR HC HG HLO HRO;go_upto_if 58 with fail
      go_cut [11] (fun p W=>∃ (sk si svk svi:Int) (svt:ByteArray),p=.pointer (some ⟨wv.heap.size,0,none⟩)∧CmpI w W g wv.heap.size (1+r6) cols params kd ⟨lk,li,⟨lvk,lvi,lvt⟩⟩ ⟨sk,si,⟨svk,svi,svt⟩⟩)
      case first =>
       cases bb3
       · go_wp2_with fail
         go_meet;exact⟨3,0,rvk,rvi,rvt,rfl,HI.out⟩
       · go_wp2_with fail
         refine(ZaY g (some ⟨b1,o1,none⟩) B ck cb cols params kd S _ (HK.out.keep ((Zbp HI.out.gr).same HS.out)) (HBB.out.keep ((Zbp HI.out.gr).same HS.out)) (fun b hb=>⟨by have:=(HS.out b hb).1;omega,(HS.out b hb).2⟩) hl hl2 HKD.out HI.out.case).mono ?_;rintro e ws ⟨⟨sk,si,⟨svk,svi,svt⟩⟩,rfl,hso,hcs,hgs⟩;have HI2:=hI (HI.out.keep hwv hgv hnv hgs hcs hgl);have HSO:=hI hso;have hp13:=HI2.out.pb;obtain⟨y0,f0,y1,f1,y2,f2,y3,f3,y4,f4,y5,f5,y6,f6,y7,f7,y8,f8,y9,f9,y10,f10,y11,f11,y12,f12⟩:=Zat hp13;have hzs:wv.heap.size<ws.heap.size:=Zad hp13;clear hcs hgs hso hp13
         go_wp2_with fail
         go_meet;exact⟨sk,si,svk,svi,svt,rfl,HI2.out.right hwv hgv hnv HSO.out⟩
      case rest =>
       obtain⟨sk,si,svk,svi,svt,rfl,hi2⟩:=hcut;have HI2:=hI hi2;clear hi2 HI
       go_wp2_with fail
       refine(ZaK g 6 _ (by omega) (by omega) HI2.out.case).mono ?_;rintro e wf ⟨bb6,rfl,hcb,hgb,hsb⟩;have HI3:=hI (HI2.out.keep hwv hgv hnv hgb hcb hgl);clear hcb hgb hsb HI2;go_upto_if 66 with fail
       go_cut [11] (fun p W=>∃ (ak ai avk avi:Int) (avt:ByteArray) (bk bi bvk bvi:Int) (bvt:ByteArray),p=.pointer (some ⟨wv.heap.size,0,none⟩)∧CmpI w W g wv.heap.size (1+r6) cols params kd ⟨ak,ai,⟨avk,avi,avt⟩⟩ ⟨bk,bi,⟨bvk,bvi,bvt⟩⟩)
       case first =>
        cases bb6
        · go_wp2_with fail
          go_meet;exact⟨_,_,_,_,_,_,_,_,_,_,rfl,HI3.out⟩
        · have hp13:=HI3.out.pb;obtain⟨y0,f0,y1,f1,y2,f2,y3,f3,y4,f4,y5,f5,y6,f6,y7,f7,y8,f8,y9,f9,y10,f10,y11,f11,y12,f12⟩:=Zat hp13;have hzf:wv.heap.size<wf.heap.size:=Zad hp13;clear hp13
          go_wp2_with fail
          go_meet;exact⟨_,_,_,_,_,_,_,_,_,_,rfl,HI3.out.swap hwv hgv hnv⟩
       case rest =>
        obtain⟨ak,ai,avk,avi,avt,bk,bi,bvk,bvi,bvt,rfl,hi4⟩:=hcut;have HI4:=hI hi4;have hp13:=hi4.pb;have hr13:=hi4.rb;obtain⟨y0,f0,y1,f1,y2,f2,y3,f3,y4,f4,y5,f5,y6,f6,y7,f7,y8,f8,y9,f9,y10,f10,y11,f11,y12,f12⟩:=Zat hp13;obtain⟨z0,q0,z1,q1,z2,q2,z3,q3,z4,q4,z5,q5,z6,q6,z7,q7,z8,q8,z9,q9,z10,q10,z11,q11,z12,q12⟩:=Zat hr13;have hzc:wv.heap.size<wc.heap.size:=Zad hp13;have hzc':w.heap.size<wc.heap.size:=(by omega);clear hi4 HI3 hp13 hr13
        go_wp2_with fail
        have hb13:=Zfu (a0:=.int .i64 3) (a1:=.int .i64 (1+r6)) (a2:=.int .i64 ak) (a3:=.int .i64 ai) (a4:=.int .i64 avk) (a5:=.int .i64 avi) (a6:=.string avt) (a7:=.int .i64 bk) (a8:=.int .i64 bi) (a9:=.int .i64 bvk) (a10:=.int .i64 bvi) (a11:=.string bvt) (a12:=.slice none 0 0) HI4.out.rb;obtain⟨u0,-,u1,-,u2,-,u3,-,u4,-,u5,-,u6,-,u7,-,u8,-,u9,-,u10,-,u11,-,u12,-⟩:=Zat hb13;exact bodyPost_ret (v:=.agg #[.int .i64 3,.int .i64 (1+r6),.int .i64 ak,.int .i64 ai,.int .i64 avk,.int .i64 avi,.string avt,.int .i64 bk,.int .i64 bi,.int .i64 bvk,.int .i64 bvi,.string bvt,.slice none 0 0]) (by simp [results,Try.results88,go_sem,u0,u1,u2,u3,u4,u5,u6,u7,u8,u9,u10,u11,u12]) rfl ⟨3,1+r6,⟨ak,ai,⟨avk,avi,avt⟩⟩,⟨bk,bi,⟨bvk,bvi,bvt⟩⟩,[],none,0,rfl,(GenP.cmp (by omega) (by omega) HKZ.out HI4.out.lo.1 HI4.out.ro.1).more Zfs (by omega),Sl.nil_,Nat.le_refl _,HI4.out.lo.2,HI4.out.ro.2,Zab (Zab (Zab (Zab (Zab (Zab (Zab (Zab (Zab (Zab (Zab (Zab (Zab (HI4.out.case) hgl) hgl) hgl) hgl) hgl) hgl) hgl) hgl) hgl) hgl) hgl) hgl) hgl,Zac (Zac (Zac (Zac (Zac (Zac (Zac (Zac (Zac (Zac (Zac (Zac (Zac (HI4.out.gr) nR) nR) nR) nR) nR) nR) nR) nR) nR) nR) nR) nR) nR⟩
end Go.Proofs.Ytkpjjfhfbpfjpaa
