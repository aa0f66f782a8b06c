import Derived.Test.YtkpjjfhfbpfjpaaGreatKda88f1
import Derived.Test.YtkpjjfhfbpfjpaaGreatK5ce3ae
import Derived.Lib.SliceRun
set_option linter.unusedVariables false
set_option linter.unusedSimpArgs false
set_option maxRecDepth 100000
set_option maxHeartbeats 8000000
namespace Go.Proofs.YtkpjjfhfbpfjpaaGreat
open Go.RowKit
def TextPost (w:World) (g:Nat) (e:Ending) (w':World):Prop:=∃ t:ByteArray,e=.returned (.string t)∧t.size≤64∧CaseOk w' g∧w.grownBy w' (some g)∧w'.heap.size=w.heap.size
theorem Zgu (t:ByteArray) (x:UInt8):(t++⟨#[x]⟩).size=t.size+1:=by
 rw [ByteArray.size_append];rfl
theorem text_any (g:Nat) (w:World) (hc:CaseOk w g):Calls Tryz.prog 119 #[.pointer (some ⟨g,0,none⟩)] w (TextPost w g):=by
 go_enter Tryz.func119,Tryz.ntmps119
 go_wp2_with fail
 refine(Zar g 10 w (by omega) hc).mono ?_;rintro e w1 ⟨r,rfl,h0,h1,-,hc1,hg1,hs1⟩;have HC:=hI hc1;have HG:=hI hg1;have HS:=hI hs1;have hr:=h1 (by omega);clear hc hc1 hg1 hs1 h1;have hcase:r=0∨r=1∨r=2∨r=3∨r=4∨r=5∨r=6∨r=7∨r=8∨r=9:=(by omega);rcases hcase with rfl | rfl | rfl | rfl | rfl | rfl | rfl | rfl | rfl | rfl
 iterate 8
  · go_wp2_with fail
    go_ret;exact⟨_,rfl,by decide,HC.out,HG.out,HS.out⟩
 · go_wp2_with fail
   go_loop [3,4] (fun t i=>∃ (k:Nat) (u:ByteArray),k≤64∧i=.int .i64 k∧t=.string u∧u.size=k) (fun _ i=>64 - (intOf i).toNat)
   case atStart=>exact⟨0,_,by omega,rfl,rfl,rfl⟩
   case round =>
    obtain⟨k,u,hk,rfl,rfl,hu⟩:=hrel;have HU:=hI hu;have hns:¬ 9223372036854775807<u.size+1:=(by omega);clear hu
    by_cases hlt:k<64
    · go_wp2_with fail
      go_round
      case rel=>exact⟨k+1,_,by omega,by go_num,rfl,by rw [Zgu,HU.out]⟩
      case measure=>simp [intOf];omega
    · go_wp2_with fail
      go_ret;exact⟨_,rfl,by rw [HU.out];exact hk,HC.out,HG.out,HS.out⟩
 · go_wp2_with fail
   go_loop [3,5] (fun t i=>∃ (k:Nat) (u:ByteArray),k≤64∧i=.int .i64 k∧t=.string u∧u.size=k) (fun _ i=>64 - (intOf i).toNat)
   case atStart=>exact⟨0,_,by omega,rfl,rfl,rfl⟩
   case round =>
    obtain⟨k,u,hk,rfl,rfl,hu⟩:=hrel;have HU:=hI hu;have hns:¬ 9223372036854775807<u.size+1:=(by omega);clear hu
    by_cases hlt:k<64
    · go_wp2_with fail
      go_round
      case rel=>exact⟨k+1,_,by omega,by go_num,rfl,by rw [Zgu,HU.out]⟩
      case measure=>simp [intOf];omega
    · go_wp2_with fail
      go_ret;exact⟨_,rfl,by rw [HU.out];exact hk,HC.out,HG.out,HS.out⟩
def NumPost (w:World) (g:Nat) (e:Ending) (w':World):Prop:=∃ n:Int,e=.returned (.int .i64 n)∧CaseOk w' g∧w.grownBy w' (some g)∧w'.heap.size=w.heap.size
theorem number_any (g:Nat) (w:World) (hc:CaseOk w g):Calls Tryz.prog 118 #[.pointer (some ⟨g,0,none⟩)] w (NumPost w g):=by
 go_enter Tryz.func118,Tryz.ntmps118
 go_wp2_with fail
 refine(Zar g 12 w (by omega) hc).mono ?_;rintro e w1 ⟨r,rfl,h0,h1,-,hc1,hg1,hs1⟩;have HC:=hI hc1;have HG:=hI hg1;have HS:=hI hs1;have hr:=h1 (by omega);clear hc hc1 hg1 hs1 h1;have hcase:r=0∨r=1∨r=2∨r=3∨r=4∨r=5∨r=6∨r=7∨r=8∨r=9∨r=10∨r=11:=(by omega);rcases hcase with rfl | rfl | rfl | rfl | rfl | rfl | rfl | rfl | rfl | rfl | rfl | rfl
 all_goals
  go_wp2_with fail
  go_ret;exact⟨_,rfl,HC.out,HG.out,HS.out⟩
def ZcW (k:Int):Int:=if k=3 then 3 else if k=4 then 4 else 5
def ZhD (P:V→Prop) (w:World) (g:Nat) (e:Ending) (w':World):Prop:=∃ v:V,e=.returned (vAgg v)∧P v∧CaseOk w' g∧w.grownBy w' (some g)
def ZfO (k:Int) (v:V):Prop:=Zam v=true∧v.k=k
theorem grown_set {w w1:World} {g n:Nat} {o:Obj} (hg:(w.alloc o).grownBy w1 (some g)) (hl:w.heap.size≤n) (v:Value) (k:Nat):w.grownBy (w1.setCell ⟨n,k,none⟩ v) (some g) :=
 ⟨hg.os,hg.tape,hg.output,by have:=hg.size;simp at this ⊢;omega,fun b hb hne=>(Below.heap_setCell w1 ⟨n,k,none⟩ v b (by show b≠n;omega)).trans ((hg.block b (by simp;omega) hne).trans (Below.heap_alloc w o b hb))⟩
abbrev zObj:Obj:=.cells #[.int .i64 0,.int .i64 0,.string ⟨#[]⟩] 89 (0,0)
theorem Zab {w:World} {g n k:Nat} {v:Value} (hc:CaseOk w g) (hn:g<n):CaseOk (w.setCell ⟨n,k,none⟩ v) g:=hc.keep (fun b hb=>Below.heap_setCell w ⟨n,k,none⟩ v b (by show b≠n;omega))
theorem ZcH {w w1:World} {g n:Nat} {o:Obj} {a b c:Value} (hg:(w.alloc o).grownBy w1 (some g)) (hl:w.heap.size≤n):w.grownBy (((w1.setCell ⟨n,0,none⟩ a).setCell ⟨n,1,none⟩ b).setCell ⟨n,2,none⟩ c) (some g):=by
 have h:=grown_set (n:=n) hg hl a 0;refine⟨h.os,h.tape,h.output,by have:=h.size;simpa using this,fun x hx hne=>?_⟩;rw [Below.heap_setCell _ ⟨n,2,none⟩ c x (by show x≠n;omega),Below.heap_setCell _ ⟨n,1,none⟩ b x (by show x≠n;omega)];exact h.block x hx hne
theorem ZcZ {w:World} {g n:Nat} {a b c:Value} (hc:CaseOk w g) (hn:g<n):CaseOk (((w.setCell ⟨n,0,none⟩ a).setCell ⟨n,1,none⟩ b).setCell ⟨n,2,none⟩ c) g:=Zab (Zab (Zab hc hn) hn) hn
section
variable {w:World} {B:Nat} {x0 x1 x2 a b c:Value}
theorem v3_2 (h0:w.cell? ⟨B,0,none⟩=some x0) (h1:w.cell? ⟨B,1,none⟩=some x1) (h2:w.cell? ⟨B,2,none⟩=some x2):(((w.setCell ⟨B,0,none⟩ a).setCell ⟨B,1,none⟩ b).setCell ⟨B,2,none⟩ c).cell? ⟨B,2,none⟩=some c :=
 World.cell?_setCell_same _ _ _ (u:=x2) (by rw [World.cell?_setCell_other _ _ _ _ (by simp),World.cell?_setCell_other _ _ _ _ (by simp)];exact h2)
theorem v3_1 (h0:w.cell? ⟨B,0,none⟩=some x0) (h1:w.cell? ⟨B,1,none⟩=some x1) (h2:w.cell? ⟨B,2,none⟩=some x2):(((w.setCell ⟨B,0,none⟩ a).setCell ⟨B,1,none⟩ b).setCell ⟨B,2,none⟩ c).cell? ⟨B,1,none⟩=some b:=by
 rw [World.cell?_setCell_other _ _ _ _ (by simp)];exact World.cell?_setCell_same _ _ _ (u:=x1) (by rw [World.cell?_setCell_other _ _ _ _ (by simp)];exact h1)
theorem v3_0 (h0:w.cell? ⟨B,0,none⟩=some x0) (h1:w.cell? ⟨B,1,none⟩=some x1) (h2:w.cell? ⟨B,2,none⟩=some x2):(((w.setCell ⟨B,0,none⟩ a).setCell ⟨B,1,none⟩ b).setCell ⟨B,2,none⟩ c).cell? ⟨B,0,none⟩=some a:=by
 rw [World.cell?_setCell_other _ _ _ _ (by simp),World.cell?_setCell_other _ _ _ _ (by simp)];exact World.cell?_setCell_same _ _ _ (u:=x0) h0
end
theorem valid_bool {r:Int} (h:r=0∨r=1):ZfO 3 ⟨3,r,⟨#[]⟩⟩:=by rcases h with rfl | rfl<;>exact⟨by simp [Zam],rfl⟩
theorem valid_int (r:Int):ZfO 4 ⟨4,r,⟨#[]⟩⟩:=⟨by simp [Zam],rfl⟩
theorem valid_text {t:ByteArray} (h:t.size≤64):ZfO 5 ⟨5,0,t⟩:=⟨by simp [Zam];omega,rfl⟩
theorem Zbq (g:Nat) (k:Int) (w:World) (hc:CaseOk w g):Calls Tryz.prog 92 #[.pointer (some ⟨g,0,none⟩),.int .i64 k] w (ZhD (ZfO (ZcW k)) w g):=by
 have hgl:=hc.lt;have HC0:=hI (hc.keep (w':=w.alloc zObj) (fun b hb=>Below.heap_alloc _ _ _ (by omega)));clear hc;have hza:(w.alloc zObj).heap.size=w.heap.size+1:=by simp
 by_cases h3:k=3
 · subst h3;go_enter Tryz.func92,Tryz.ntmps92
   go_wp2_with fail
   refine(Zar g 2 _ (by omega) HC0.out).mono ?_;rintro e w1 ⟨r,rfl,h0,h1,-,hc1,hg1,hs1⟩;have hr:=h1 (by omega);have HR:=hI (show r=0∨r=1 by omega);have HC:=hI hc1;have HG:=hI hg1
   obtain⟨y0,y1,y2⟩:w1.cell? ⟨w.heap.size,0,none⟩=some (.int .i64 0)∧w1.cell? ⟨w.heap.size,1,none⟩=some (.int .i64 0)∧w1.cell? ⟨w.heap.size,2,none⟩=some (.string ⟨#[]⟩):=by
    have hb:=hg1.block w.heap.size (by simp) (by intro e;injection e with e;omega);have h:=hb.trans (heap_alloc_new w zObj);exact⟨cell_of_row _ _ _ _ _ _ h,cell_of_row _ _ _ _ _ _ h,cell_of_row _ _ _ _ _ _ h⟩
   obtain⟨f0,f1,f2⟩:w1.frozen? ⟨w.heap.size,0,none⟩=false∧w1.frozen? ⟨w.heap.size,1,none⟩=false∧w1.frozen? ⟨w.heap.size,2,none⟩=false:=by
    have hb:=hg1.block w.heap.size (by simp) (by intro e;injection e with e;omega);have h:=hb.trans (heap_alloc_new w zObj);simp [World.frozen?,h]
   have hz1:w.heap.size<w1.heap.size:=(by have:=hg1.size;omega);clear hc1 hg1 hs1 h1
   go_wp2_with fail
   have u0:=v3_0 (a:=.int .i64 3) (b:=.int .i64 r) (c:=.string ⟨#[]⟩) y0 y1 y2;have u1:=v3_1 (a:=.int .i64 3) (b:=.int .i64 r) (c:=.string ⟨#[]⟩) y0 y1 y2;have u2:=v3_2 (a:=.int .i64 3) (b:=.int .i64 r) (c:=.string ⟨#[]⟩) y0 y1 y2;exact bodyPost_ret (v:=.agg #[.int .i64 3,.int .i64 r,.string ⟨#[]⟩]) (by simp [results,Tryz.results92,go_sem,u0,u1,u2]) rfl ⟨⟨3,r,⟨#[]⟩⟩,rfl,valid_bool HR.out,ZcZ HC.out hgl,ZcH HG.out nR⟩
 · have e3:(k == 3)=false:=beq_eq_false_iff_ne.2 h3
   by_cases h4:k=4
   · subst h4;go_enter Tryz.func92,Tryz.ntmps92
     go_wp2_with fail
     refine(number_any g _ HC0.out).mono ?_;rintro e w1 ⟨r,rfl,hc1,hg1,hs1⟩;have HC:=hI hc1;have HG:=hI hg1
     obtain⟨y0,y1,y2⟩:w1.cell? ⟨w.heap.size,0,none⟩=some (.int .i64 0)∧w1.cell? ⟨w.heap.size,1,none⟩=some (.int .i64 0)∧w1.cell? ⟨w.heap.size,2,none⟩=some (.string ⟨#[]⟩):=by
      have hb:=hg1.block w.heap.size (by simp) (by intro e;injection e with e;omega);have h:=hb.trans (heap_alloc_new w zObj);exact⟨cell_of_row _ _ _ _ _ _ h,cell_of_row _ _ _ _ _ _ h,cell_of_row _ _ _ _ _ _ h⟩
     obtain⟨f0,f1,f2⟩:w1.frozen? ⟨w.heap.size,0,none⟩=false∧w1.frozen? ⟨w.heap.size,1,none⟩=false∧w1.frozen? ⟨w.heap.size,2,none⟩=false:=by
      have hb:=hg1.block w.heap.size (by simp) (by intro e;injection e with e;omega);have h:=hb.trans (heap_alloc_new w zObj);simp [World.frozen?,h]
     have hz1:w.heap.size<w1.heap.size:=(by have:=hg1.size;omega);clear hc1 hg1 hs1
     go_wp2_with fail
     have u0:=v3_0 (a:=.int .i64 4) (b:=.int .i64 r) (c:=.string ⟨#[]⟩) y0 y1 y2;have u1:=v3_1 (a:=.int .i64 4) (b:=.int .i64 r) (c:=.string ⟨#[]⟩) y0 y1 y2;have u2:=v3_2 (a:=.int .i64 4) (b:=.int .i64 r) (c:=.string ⟨#[]⟩) y0 y1 y2;exact bodyPost_ret (v:=.agg #[.int .i64 4,.int .i64 r,.string ⟨#[]⟩]) (by simp [results,Tryz.results92,go_sem,u0,u1,u2]) rfl ⟨⟨4,r,⟨#[]⟩⟩,rfl,valid_int r,ZcZ HC.out hgl,ZcH HG.out nR⟩
   · have e4:(k == 4)=false:=beq_eq_false_iff_ne.2 h4;have HK:=hI (show ZcW k=5 by unfold ZcW;rw [if_neg h3,if_neg h4]);go_enter Tryz.func92,Tryz.ntmps92
     go_wp2_with fail
     refine(text_any g _ HC0.out).mono ?_;rintro e w1 ⟨t,rfl,ht,hc1,hg1,hs1⟩;have HT:=hI ht;have HC:=hI hc1;have HG:=hI hg1
     obtain⟨y0,y1,y2⟩:w1.cell? ⟨w.heap.size,0,none⟩=some (.int .i64 0)∧w1.cell? ⟨w.heap.size,1,none⟩=some (.int .i64 0)∧w1.cell? ⟨w.heap.size,2,none⟩=some (.string ⟨#[]⟩):=by
      have hb:=hg1.block w.heap.size (by simp) (by intro e;injection e with e;omega);have h:=hb.trans (heap_alloc_new w zObj);exact⟨cell_of_row _ _ _ _ _ _ h,cell_of_row _ _ _ _ _ _ h,cell_of_row _ _ _ _ _ _ h⟩
     obtain⟨f0,f1,f2⟩:w1.frozen? ⟨w.heap.size,0,none⟩=false∧w1.frozen? ⟨w.heap.size,1,none⟩=false∧w1.frozen? ⟨w.heap.size,2,none⟩=false:=by
      have hb:=hg1.block w.heap.size (by simp) (by intro e;injection e with e;omega);have h:=hb.trans (heap_alloc_new w zObj);simp [World.frozen?,h]
     have hz1:w.heap.size<w1.heap.size:=(by have:=hg1.size;omega);clear hc1 hg1 hs1 ht
     go_wp2_with fail
     have u0:=v3_0 (a:=.int .i64 5) (b:=.int .i64 0) (c:=.string t) y0 y1 y2;have u1:=v3_1 (a:=.int .i64 5) (b:=.int .i64 0) (c:=.string t) y0 y1 y2;have u2:=v3_2 (a:=.int .i64 5) (b:=.int .i64 0) (c:=.string t) y0 y1 y2;exact bodyPost_ret (v:=.agg #[.int .i64 5,.int .i64 0,.string t]) (by simp [results,Tryz.results92,go_sem,u0,u1,u2]) rfl ⟨⟨5,0,t⟩,rfl,by rw [HK.out];exact valid_text HT.out,ZcZ HC.out hgl,ZcH HG.out nR⟩
def AnyV (v:V):Prop:=Zam v=true
theorem any_small {r:Int} (h0:0≤r) (h:1+r<3):AnyV ⟨1+r,0,⟨#[]⟩⟩:=by
 have:r=0∨r=1:=(by omega);rcases this with rfl | rfl<;>simp [AnyV,Zam]
theorem ZeO (g:Nat) (w:World) (hc:CaseOk w g):Calls Tryz.prog 55 #[.pointer (some ⟨g,0,none⟩)] w (ZhD AnyV w g):=by
 have hgl:=hc.lt;have HC0:=hI (hc.keep (w':=w.alloc zObj) (fun b hb=>Below.heap_alloc _ _ _ (by omega)));clear hc;have hza:(w.alloc zObj).heap.size=w.heap.size+1:=(by simp);go_enter Tryz.func55,Tryz.ntmps55
 go_wp2_with fail
 refine(Zar g 5 _ (by omega) HC0.out).mono ?_;rintro e w0 ⟨r,rfl,h0,h1,-,hc0,hg0,hs0⟩;have hr:=h1 (by omega);have HCA:=hI hc0;have HGA:=hI hg0;clear hc0 hg0 hs0 h1;have hra:IntKind.i64.wrap (1+r)=1+r:=IntWalk.i64_in _ (by omega)
 by_cases h3:1+r<3
 · have hg1:=HGA.out;have HC:=HCA;have HG:=HGA;have HR:=hI (any_small h0 h3)
   obtain⟨y0,y1,y2⟩:w0.cell? ⟨w.heap.size,0,none⟩=some (.int .i64 0)∧w0.cell? ⟨w.heap.size,1,none⟩=some (.int .i64 0)∧w0.cell? ⟨w.heap.size,2,none⟩=some (.string ⟨#[]⟩):=by
    have hb:=hg1.block w.heap.size (by simp) (by intro e;injection e with e;omega);have h:=hb.trans (heap_alloc_new w zObj);exact⟨cell_of_row _ _ _ _ _ _ h,cell_of_row _ _ _ _ _ _ h,cell_of_row _ _ _ _ _ _ h⟩
   obtain⟨f0,f1,f2⟩:w0.frozen? ⟨w.heap.size,0,none⟩=false∧w0.frozen? ⟨w.heap.size,1,none⟩=false∧w0.frozen? ⟨w.heap.size,2,none⟩=false:=by
    have hb:=hg1.block w.heap.size (by simp) (by intro e;injection e with e;omega);have h:=hb.trans (heap_alloc_new w zObj);simp [World.frozen?,h]
   have hz1:w.heap.size<w0.heap.size:=(by have:=hg1.size;omega);clear hg1
   go_wp2_with fail
   have u0:=v3_0 (a:=.int .i64 (1+r)) (b:=.int .i64 0) (c:=.string ⟨#[]⟩) y0 y1 y2;have u1:=v3_1 (a:=.int .i64 (1+r)) (b:=.int .i64 0) (c:=.string ⟨#[]⟩) y0 y1 y2;have u2:=v3_2 (a:=.int .i64 (1+r)) (b:=.int .i64 0) (c:=.string ⟨#[]⟩) y0 y1 y2;exact bodyPost_ret (v:=.agg #[.int .i64 (1+r),.int .i64 0,.string ⟨#[]⟩]) (by simp [results,Tryz.results55,go_sem,u0,u1,u2]) rfl ⟨⟨1+r,0,⟨#[]⟩⟩,rfl,HR.out,ZcZ HC.out hgl,ZcH HG.out nR⟩
 · go_wp2_with fail
   refine(Zbq g (1+r) _ HCA.out).mono ?_;rintro e w1 ⟨⟨vk,vi,vt⟩,rfl,hv,hc1,hg1'⟩;have hg1:=HGA.out.trans hg1';have HV:=hI hv;have HC:=hI hc1;have HG:=hI hg1
   obtain⟨y0,y1,y2⟩:w1.cell? ⟨w.heap.size,0,none⟩=some (.int .i64 0)∧w1.cell? ⟨w.heap.size,1,none⟩=some (.int .i64 0)∧w1.cell? ⟨w.heap.size,2,none⟩=some (.string ⟨#[]⟩):=by
    have hb:=hg1.block w.heap.size (by simp) (by intro e;injection e with e;omega);have h:=hb.trans (heap_alloc_new w zObj);exact⟨cell_of_row _ _ _ _ _ _ h,cell_of_row _ _ _ _ _ _ h,cell_of_row _ _ _ _ _ _ h⟩
   obtain⟨f0,f1,f2⟩:w1.frozen? ⟨w.heap.size,0,none⟩=false∧w1.frozen? ⟨w.heap.size,1,none⟩=false∧w1.frozen? ⟨w.heap.size,2,none⟩=false:=by
    have hb:=hg1.block w.heap.size (by simp) (by intro e;injection e with e;omega);have h:=hb.trans (heap_alloc_new w zObj);simp [World.frozen?,h]
   have hz1:w.heap.size<w1.heap.size:=(by have:=hg1.size;omega);clear hc1 hg1 hg1' hv
   go_wp2_with fail
   have u0:=v3_0 (a:=.int .i64 vk) (b:=.int .i64 vi) (c:=.string vt) y0 y1 y2;have u1:=v3_1 (a:=.int .i64 vk) (b:=.int .i64 vi) (c:=.string vt) y0 y1 y2;have u2:=v3_2 (a:=.int .i64 vk) (b:=.int .i64 vi) (c:=.string vt) y0 y1 y2;exact bodyPost_ret (v:=.agg #[.int .i64 vk,.int .i64 vi,.string vt]) (by simp [results,Tryz.results55,go_sem,u0,u1,u2]) rfl ⟨⟨vk,vi,vt⟩,rfl,HV.out.1,ZcZ HC.out hgl,ZcH HG.out nR⟩
theorem rowVals_snoc (r:Row) (v:V):Zao (r++[v])=Zao r++[.int .i64 v.k,.int .i64 v.i,.string v.t]:=by
 induction r with
 | nil=>rfl
 | cons a r ih=>simp [Zao,ih]
theorem Fr.grown {w w':World} {g:Nat} (h:Fr (fun b=>b=g) w w'):w.grownBy w' (some g):=⟨h.os,h.tape,h.output,h.size,fun k hk hne=>h.block k hk (fun e=>hne (by rw [e]))⟩
theorem ZaL {w w':World} {g:Nat} (h:w.grownBy w' (some g)):Fr (fun b=>b=g) w w':=Fr.of_grown h (fun b _ e=>by injection e)
structure RowI (w wr:World) (g k:Nat) (r:Row) (A:Option Addr) (c:Nat):Prop where
 len:r.length=k
 own:wr.ownsRow w.heap.size 89 3 (.slice A k c) k (Zao r)
 case:CaseOk wr g
 fr:Fr (fun b=>b=g) w wr
section
variable {w wr w2 w3:World} {g k c c':Nat} {r:Row} {A A':Option Addr} {v:V} {o:Obj}
theorem RowI.start (hc:CaseOk w g):RowI w w g 0 [] none 0:=⟨rfl,World.ownsRow_nil _ _ _ _,hc,Fr.refl _ _⟩
theorem RowI.ready (h:RowI w wr g k r A c) (hg:g<w.heap.size) (h2:wr.grownBy w2 (some g)) (o:Obj):(w2.alloc o).ownsRow w.heap.size 89 3 (.slice A k c) k (Zao r)∧w.heap.size≤(w2.alloc o).heap.size:=by
 refine⟨(h.own.kept h2 (.inr fun e=>?_)).alloc o,by have:=h.fr.size;have:=h2.size;simp;omega⟩;have:=ZaK h.own e;omega
theorem RowI.push (h:RowI w wr g k r A c) (hg:g<w.heap.size) (hc2:CaseOk w2 g) (h2:wr.grownBy w2 (some g))
  (hown:w3.ownsRow w.heap.size 89 3 (.slice A' (k+1) c') (k+1) (Zao r++[.int .i64 v.k,.int .i64 v.i,.string v.t])) (hg3:(w2.alloc o).grownBy w3 (Value.slice A k c).ownBlock):RowI w w3 g (k+1) (r++[v]) A' c':=by
 have hb:=fun b (e:some b=(Value.slice A k c).ownBlock)=>ZaK h.own e.symm;have h0:=h.fr.size;have h1:=h2.size;refine⟨by simp [h.len],by rw [rowVals_snoc];exact hown,hc2.keep (fun b hb'=>?_),?_⟩
 · refine(hg3.block b (by simp;omega) (fun e=>?_)).trans (Below.heap_alloc w2 o b (by omega));have:=hb b e;omega
 · refine(h.fr.trans (ZaL h2) (fun _ _ e=>e)).trans (Y:=fun b=>some b=(Value.slice A k c).ownBlock) ?_ (fun b hb' e=>by have:=hb b e;omega);exact⟨hg3.os,hg3.tape,hg3.output,by have:=hg3.size;simp at this;omega,fun b hb' hne=>(hg3.block b (by simp;omega) hne).trans (Below.heap_alloc w2 o b hb')⟩
end
def Zhh (key m:Int) (ks:List Int) (r:Row):Prop:=r.length=ks.length∧∀ i,i<ks.length→ZaB m key (ZcW (ks.getD i 0)) i (r.getD i v0)=true
def RowGenK (key m:Int) (ks:List Int) (k:Nat) (r:Row):Prop:=r.length=k∧∀ i,i<k→ZaB m key (ZcW (ks.getD i 0)) i (r.getD i v0)=true
theorem RowGenK.push {key m:Int} {ks:List Int} {k:Nat} {r:Row} {v:V} (h:RowGenK key m ks k r) (hv:ZaB m key (ZcW (ks.getD k 0)) k v=true):RowGenK key m ks (k+1) (r++[v]):=by
 refine⟨by simp [h.1],fun i hi=>?_⟩
 by_cases e:i<k
 · have:(r++[v]).getD i v0=r.getD i v0:=(by simp [List.getD,List.getElem?_append_left (show i<r.length by rw [h.1];exact e)]);rw [this];exact h.2 i e
 · have e':i=k:=(by omega);subst e';have:(r++[v]).getD i v0=v:=(by simp [List.getD,←h.1]);rw [this];exact hv
theorem Zff {key m:Int} {kd:Int} {k:Nat} (h1:key≤k) (h2:m≠1):ZaB m key kd k ⟨2,0,⟨#[]⟩⟩=true:=by simp [ZaB,Zam,h1,h2]
theorem fits_missing {key m:Int} {kd:Int} {k:Nat} (h1:key≤k) (h2:m=3):ZaB m key kd k ⟨1,0,⟨#[]⟩⟩=true:=by simp [ZaB,Zam,h1,h2]
theorem ZdR {key m kd:Int} {k:Nat} {v:V} (h:ZfO kd v):ZaB m key kd k v=true:=by simp [ZaB,h.1,h.2]
def RowPost (key m:Int) (ks:List Int) (w:World) (g:Nat) (e:Ending) (w':World):Prop :=
 ∃ r A c,e=.returned (.slice A r.length c)∧Zhh key m ks r∧w'.ownsRow w.heap.size 89 3 (.slice A r.length c) r.length (Zao r)∧CaseOk w' g∧w.grownBy w' (some g)
theorem row_any (g:Nat) (K:Option Addr) (ck:Nat) (ks:List Int) (key m:Int) (S:Nat→Prop) (w:World) (hks:IntS w S K ks) (hS:∀ b,S b→b<w.heap.size∧b≠g) (hl:ks.length≤1000000) (hc:CaseOk w g) :
  Calls Tryz.prog 43 #[.pointer (some ⟨g,0,none⟩),.slice K ks.length ck,.int .i64 key,.int .i64 m] w (RowPost key m ks w g):=by
 obtain⟨i0,hi,hz0,hz1,hz2⟩:=info_parts ZhF;have hgl:=hc.lt;have HKS:=hI hks;have HI0:=hI (RowI.start hc);clear hks hc;go_enter Tryz.func43,Tryz.ntmps43
 go_wp2_with fail
 go_loopw [9,14] (fun out i wr=>∃ (k:Nat) (r:Row) (A:Option Addr) (c:Nat),k≤ks.length∧i=.int .i64 k∧out=.slice A k c∧RowI w wr g k r A c∧RowGenK key m ks k r) (fun _ i _=>ks.length - (intOf i).toNat)
 case atStart=>exact⟨0,[],none,0,Nat.zero_le _,rfl,rfl,HI0.out,rfl,fun i hi=>by omega⟩
 case round =>
  obtain⟨k,r,A,c,hk,rfl,rfl,hri,hgen⟩:=hrel;have HRI:=hI hri;have HGEN:=hI hgen;have hszr:=hri.fr.size;clear hri hgen
  by_cases hlt:k<ks.length
  · obtain⟨b1,o1,rfl,hb1,d1⟩:=(HKS.out.keep (HRI.out.fr.same (fun b hb=>hS b hb))).at_ hlt;have hb1l:b1<wr.heap.size:=(by have:=(hS b1 hb1).1;omega);have HC:=hI HRI.out.case;generalize hkd:ks.getD k 0=kd at d1;have HKD:=hI hkd;clear hkd
    have FIN:∀ (v:V) (A':Option Addr) (c':Nat) (w3:World),RowI w w3 g (k+1) (r++[v]) A' c'→ZaB m key (ZcW kd) k v=true→∃ (k':Nat) (r':Row) (A'':Option Addr) (c'':Nat),k'≤ks.length∧Value.int .i64 ((k:Int)+1)=.int .i64 k'∧Value.slice A' (k+1) c'=.slice A'' k' c''∧RowI w w3 g k' r' A'' c''∧RowGenK key m ks k' r' :=
     fun v A' c' w3 h1 h2=>⟨k+1,r++[v],A',c',by omega,by go_num,rfl,h1,HGEN.out.push (by rw [HKD.out];exact h2)⟩
    have HFIN:=hI FIN;clear FIN
    by_cases h1:key≤(k:Int)
    · by_cases h2:m=1
      · subst h2
        go_wp2_with fail
        have HCV:=HC;have HGV:=hI (World.grownBy.refl wr (some g));refine(Zbq g kd _ HCV.out).mono ?_;rintro e wv ⟨⟨vk,vi,vt⟩,rfl,hv,hcv,hgv⟩;have HV:=hI hv;have HCW:=hI hcv;have HGW:=hI (HGV.out.trans hgv);clear hv hcv hgv
        go_wp2_with (at_builtin;obtain⟨ho,hbs⟩:=HRI.out.ready (w2:=wv) hgl HGW.out (.cells #[.int .i64 vk,.int .i64 vi,.string vt] 89);refine Zal _ rfl (.tmp 19) (.tmp 23) 42 rfl w.heap.size 89 i0 _ 3 32 Tryz.underlying42 hi hz0 hz1 hz2 rfl (by decide) (.slice A k c) k (Zao r) rfl ho ⟨wv.heap.size,0,none⟩ 1 1 [.int .i64 vk,.int .i64 vi,.string vt] rfl rfl (World.news_of_block (heap_alloc_new wv (.cells #[.int .i64 vk,.int .i64 vi,.string vt] 89))) (by simp [Value.oneCell']) (by unfold maxLen;omega) (by omega) hbs ?_;intro A3 c3 w3 hown3 hg3;have HP:=hI (HRI.out.push (v:=⟨vk,vi,vt⟩) hgl HCW.out HGW.out hown3 hg3);clear ho hbs hown3 hg3)
        go_roundw
        case rel=>exact HFIN.out _ _ _ _ HP.out (ZdR HV.out)
        case measure=>simp [intOf];omega
      · have h2':(m != 1)=true:=(by simp [h2]);have h2'':(m == 1)=false:=beq_eq_false_iff_ne.2 h2;have H2:=hI h2
        by_cases h3:m=3
        · subst h3;clear h2
          go_wp2_with fail
          refine(ZaJ g 5 _ (by omega) (by omega) HC.out).mono ?_;rintro e wb ⟨bb,rfl,hcb,hgb,hsb⟩;have HCW:=hI hcb;have HGW:=hI hgb;clear hcb hgb hsb;cases bb
          · go_wp2_with fail
            refine(ZaJ g 5 _ (by omega) (by omega) HCW.out).mono ?_;rintro e wb2 ⟨bb,rfl,hcb,hgb,hsb⟩;have HCV:=hI hcb;have HGV:=hI (HGW.out.trans hgb);clear hcb hgb hsb HCW HGW;cases bb
            · go_wp2_with fail
              refine(Zbq g kd _ HCV.out).mono ?_;rintro e wv ⟨⟨vk,vi,vt⟩,rfl,hv,hcv,hgv⟩;have HV:=hI hv;have HCW:=hI hcv;have HGW:=hI (HGV.out.trans hgv);clear hv hcv hgv
              go_wp2_with (at_builtin;obtain⟨ho,hbs⟩:=HRI.out.ready (w2:=wv) hgl HGW.out (.cells #[.int .i64 vk,.int .i64 vi,.string vt] 89);refine Zal _ rfl (.tmp 19) (.tmp 23) 42 rfl w.heap.size 89 i0 _ 3 32 Tryz.underlying42 hi hz0 hz1 hz2 rfl (by decide) (.slice A k c) k (Zao r) rfl ho ⟨wv.heap.size,0,none⟩ 1 1 [.int .i64 vk,.int .i64 vi,.string vt] rfl rfl (World.news_of_block (heap_alloc_new wv (.cells #[.int .i64 vk,.int .i64 vi,.string vt] 89))) (by simp [Value.oneCell']) (by unfold maxLen;omega) (by omega) hbs ?_;intro A3 c3 w3 hown3 hg3;have HP:=hI (HRI.out.push (v:=⟨vk,vi,vt⟩) hgl HCW.out HGW.out hown3 hg3);clear ho hbs hown3 hg3)
              go_roundw
              case rel=>exact HFIN.out _ _ _ _ HP.out (ZdR HV.out)
              case measure=>simp [intOf];omega
            · have HCW:=HCV;have HGW:=HGV
              go_wp2_with (at_builtin;obtain⟨ho,hbs⟩:=HRI.out.ready (w2:=wb2) hgl HGW.out (.cells #[.int .i64 1,.int .i64 0,.string ⟨#[]⟩] 89);refine Zal _ rfl (.tmp 53) (.tmp 55) 42 rfl w.heap.size 89 i0 _ 3 32 Tryz.underlying42 hi hz0 hz1 hz2 rfl (by decide) (.slice A k c) k (Zao r) rfl ho ⟨wb2.heap.size,0,none⟩ 1 1 [.int .i64 1,.int .i64 0,.string ⟨#[]⟩] rfl rfl (World.news_of_block (heap_alloc_new wb2 (.cells #[.int .i64 1,.int .i64 0,.string ⟨#[]⟩] 89))) (by simp [Value.oneCell']) (by unfold maxLen;omega) (by omega) hbs ?_;intro A3 c3 w3 hown3 hg3;have HP:=hI (HRI.out.push (v:=⟨1,0,⟨#[]⟩⟩) hgl HCW.out HGW.out hown3 hg3);clear ho hbs hown3 hg3)
              go_roundw
              case rel=>exact HFIN.out _ _ _ _ HP.out (fits_missing h1 rfl)
              case measure=>simp [intOf];omega
          · go_wp2_with (at_builtin;obtain⟨ho,hbs⟩:=HRI.out.ready (w2:=wb) hgl HGW.out (.cells #[.int .i64 2,.int .i64 0,.string ⟨#[]⟩] 89);refine Zal _ rfl (.tmp 37) (.tmp 39) 42 rfl w.heap.size 89 i0 _ 3 32 Tryz.underlying42 hi hz0 hz1 hz2 rfl (by decide) (.slice A k c) k (Zao r) rfl ho ⟨wb.heap.size,0,none⟩ 1 1 [.int .i64 2,.int .i64 0,.string ⟨#[]⟩] rfl rfl (World.news_of_block (heap_alloc_new wb (.cells #[.int .i64 2,.int .i64 0,.string ⟨#[]⟩] 89))) (by simp [Value.oneCell']) (by unfold maxLen;omega) (by omega) hbs ?_;intro A3 c3 w3 hown3 hg3;have HP:=hI (HRI.out.push (v:=⟨2,0,⟨#[]⟩⟩) hgl HCW.out HGW.out hown3 hg3);clear ho hbs hown3 hg3)
            go_roundw
            case rel=>exact HFIN.out _ _ _ _ HP.out (Zff h1 H2.out)
            case measure=>simp [intOf];omega
        · have h3':(m == 3)=false:=beq_eq_false_iff_ne.2 h3;clear h2 h3
          go_wp2_with fail
          refine(ZaJ g 5 _ (by omega) (by omega) HC.out).mono ?_;rintro e wb ⟨bb,rfl,hcb,hgb,hsb⟩;have HCW:=hI hcb;have HGW:=hI hgb;clear hcb hgb hsb;cases bb
          · go_wp2_with fail
            have HCV:=HCW;have HGV:=HGW;clear HCW HGW;refine(Zbq g kd _ HCV.out).mono ?_;rintro e wv ⟨⟨vk,vi,vt⟩,rfl,hv,hcv,hgv⟩;have HV:=hI hv;have HCW:=hI hcv;have HGW:=hI (HGV.out.trans hgv);clear hv hcv hgv
            go_wp2_with (at_builtin;obtain⟨ho,hbs⟩:=HRI.out.ready (w2:=wv) hgl HGW.out (.cells #[.int .i64 vk,.int .i64 vi,.string vt] 89);refine Zal _ rfl (.tmp 19) (.tmp 23) 42 rfl w.heap.size 89 i0 _ 3 32 Tryz.underlying42 hi hz0 hz1 hz2 rfl (by decide) (.slice A k c) k (Zao r) rfl ho ⟨wv.heap.size,0,none⟩ 1 1 [.int .i64 vk,.int .i64 vi,.string vt] rfl rfl (World.news_of_block (heap_alloc_new wv (.cells #[.int .i64 vk,.int .i64 vi,.string vt] 89))) (by simp [Value.oneCell']) (by unfold maxLen;omega) (by omega) hbs ?_;intro A3 c3 w3 hown3 hg3;have HP:=hI (HRI.out.push (v:=⟨vk,vi,vt⟩) hgl HCW.out HGW.out hown3 hg3);clear ho hbs hown3 hg3)
            go_roundw
            case rel=>exact HFIN.out _ _ _ _ HP.out (ZdR HV.out)
            case measure=>simp [intOf];omega
          · go_wp2_with (at_builtin;obtain⟨ho,hbs⟩:=HRI.out.ready (w2:=wb) hgl HGW.out (.cells #[.int .i64 2,.int .i64 0,.string ⟨#[]⟩] 89);refine Zal _ rfl (.tmp 37) (.tmp 39) 42 rfl w.heap.size 89 i0 _ 3 32 Tryz.underlying42 hi hz0 hz1 hz2 rfl (by decide) (.slice A k c) k (Zao r) rfl ho ⟨wb.heap.size,0,none⟩ 1 1 [.int .i64 2,.int .i64 0,.string ⟨#[]⟩] rfl rfl (World.news_of_block (heap_alloc_new wb (.cells #[.int .i64 2,.int .i64 0,.string ⟨#[]⟩] 89))) (by simp [Value.oneCell']) (by unfold maxLen;omega) (by omega) hbs ?_;intro A3 c3 w3 hown3 hg3;have HP:=hI (HRI.out.push (v:=⟨2,0,⟨#[]⟩⟩) hgl HCW.out HGW.out hown3 hg3);clear ho hbs hown3 hg3)
            go_roundw
            case rel=>exact HFIN.out _ _ _ _ HP.out (Zff h1 H2.out)
            case measure=>simp [intOf];omega
    · have hd:decide (key≤(k:Int))=false:=(by simpa using h1);have HCV:=HC;have HGV:=hI (World.grownBy.refl wr (some g))
      go_wp2_with fail
      refine(Zbq g kd _ HCV.out).mono ?_;rintro e wv ⟨⟨vk,vi,vt⟩,rfl,hv,hcv,hgv⟩;have HV:=hI hv;have HCW:=hI hcv;have HGW:=hI (HGV.out.trans hgv);clear hv hcv hgv
      go_wp2_with (at_builtin;obtain⟨ho,hbs⟩:=HRI.out.ready (w2:=wv) hgl HGW.out (.cells #[.int .i64 vk,.int .i64 vi,.string vt] 89);refine Zal _ rfl (.tmp 19) (.tmp 23) 42 rfl w.heap.size 89 i0 _ 3 32 Tryz.underlying42 hi hz0 hz1 hz2 rfl (by decide) (.slice A k c) k (Zao r) rfl ho ⟨wv.heap.size,0,none⟩ 1 1 [.int .i64 vk,.int .i64 vi,.string vt] rfl rfl (World.news_of_block (heap_alloc_new wv (.cells #[.int .i64 vk,.int .i64 vi,.string vt] 89))) (by simp [Value.oneCell']) (by unfold maxLen;omega) (by omega) hbs ?_;intro A3 c3 w3 hown3 hg3;have HP:=hI (HRI.out.push (v:=⟨vk,vi,vt⟩) hgl HCW.out HGW.out hown3 hg3);clear ho hbs hown3 hg3)
      go_roundw
      case rel=>exact HFIN.out _ _ _ _ HP.out (ZdR HV.out)
      case measure=>simp [intOf];omega
  · go_wp2_with fail
    go_ret;obtain rfl:k=ks.length:=(by omega);have hl:=HRI.out.len;refine⟨r,A,c,by rw [hl];rfl,⟨HGEN.out.1,HGEN.out.2⟩,by rw [hl];exact HRI.out.own,HRI.out.case,HRI.out.fr.grown⟩
theorem ownsRow_low {w:World} {base base' size n:Nat} {e:TypeId} {v:Value} {xs:List Value} (h:w.ownsRow base e size v n xs) (hb:base'≤base):w.ownsRow base' e size v n xs:=by
 refine⟨h.1,?_⟩;rcases h.2 with h0 | ⟨g,cap,cur,h1,h2,h3⟩
 · exact .inl h0
 · exact .inr ⟨g,cap,cur,h1,by omega,h3⟩
theorem NewR.low {r:Row} {w wa:World} {e:Ending} {w':World} (h:NewR r wa e w') (hb:Below w.heap.size w wa):NewR r w e w':=by
 obtain⟨A,c,h1,h2,h3⟩:=h;exact⟨A,c,h1,ownsRow_low h2 hb.size,hb.trans (h3.mono hb.size)⟩
theorem ZeI (A0:Option Addr) (c0':Nat) (s:Sch) (t:Int) (A:Option Addr) (ca:Nat) (r:Row) (S:Nat→Prop) (w:World) (hs:TabS w S A0 s.tabs) (hr:RowS w S A r) (hca:r.length≤ca) (hS:∀ b,S b→b<w.heap.size) :
  Calls Tryz.prog 45 #[sAgg s.version A0 s.tabs.length c0',.int .i64 t,.slice A r.length ca] w (NewR (keyF s t r) w):=by
 have hsl:=hs.len;have hrl:=hr.len;have HS:=hI hs;have HR:=hI hr;clear hs hr;have HB1:=hI ((Below.refl w.heap.size w).alloc nR (.cells #[.int .i64 s.version,.slice A0 s.tabs.length c0'] 28))
 by_cases hh:hasN s.tabs.length t=true
 · have HKF:=hI (show keyF s t r=r.take (keyN (s.tabs.getD t.toNat t0).key r) by unfold keyF;rw [if_pos hh]);have hh0:0≤t∧t<s.tabs.length:=(by simpa [hasN] using hh);clear hh;obtain⟨tt,rfl⟩:=Int.eq_ofNat_of_zero_le hh0.1;rw [Int.toNat_natCast] at HKF;have htl:tt<s.tabs.length:=(by omega);obtain⟨b2,o2,rfl,hb2,A1,A2,A3,c1,c2,c3,hta⟩:=HS.out.at_ htl;have k1:=hta.key;have hl2:b2<w.heap.size:=hS b2 hb2;clear hta;generalize s.tabs.getD tt t0=tb at k1 HKF;obtain⟨tn,tc,tk,tr,tp⟩:=tb;simp only at k1 HKF;have hd1:decide ((tt:Int)<0)=false:=(by simp);have hd2:decide (s.tabs.length≤tt)=false:=(by simp;omega);have HL:=hI (show keyN tk r≤r.length by unfold keyN;omega);have hCY:=ZcF A ca (r.take (keyN tk r)) S (w.alloc (.cells #[.int .i64 s.version,.slice (some ⟨b2,o2,none⟩) s.tabs.length c0'] 28)) ((HR.out.take (keyN tk r) (fun _=>rfl)).keep (fun b hb=>Below.heap_alloc _ _ _ (hS b hb)));rw [List.length_take,Nat.min_eq_left HL.out] at hCY;have HCY:=hI hCY;clear hCY;go_enter Tryz.func45,Tryz.ntmps45
   go_wp2_with fail
   refine(show Calls _ _ _ _ _ from HCY.out).mono ?_;intro e w1 hN;have hN':=(show NewR (r.take (keyN tk r)) _ e w1 from hN).low HB1.out;obtain⟨A4,c4,rfl,h4,hb4⟩:=hN';have H4:=hI h4;have HB4:=hI hb4;clear hN h4 hb4;obtain⟨m4,hm4⟩:∃ m,(r.take (keyN tk r)).length=m:=⟨_,rfl⟩;rw [hm4];have HM4:=hI hm4;clear hm4
   go_wp2_with fail
   go_ret;rw [HKF.out];exact⟨A4,c4,by rw [HM4.out];rfl,H4.out,HB4.out⟩
 · have HKF:=hI (show keyF s t r=[] by unfold keyF;rw [if_neg hh])
   have hh':t<0∨(s.tabs.length:Int)≤t:=by
    have:hasN s.tabs.length t=false:=(by simpa using hh);simp [hasN] at this;omega
   clear hh
   by_cases h0:t<0
   · have hd1:decide (t<0)=true:=(by simp [h0]);go_enter Tryz.func45,Tryz.ntmps45
     go_wp2_with fail
     go_ret;rw [HKF.out];exact⟨none,0,rfl,World.ownsRow_nil _ _ _ _,HB1.out⟩
   · have hd1:decide (t<0)=false:=(by simpa using h0);have hd2:decide ((s.tabs.length:Int)≤t)=true:=(by simp;omega);go_enter Tryz.func45,Tryz.ntmps45
     go_wp2_with fail
     go_ret;rw [HKF.out];exact⟨none,0,rfl,World.ownsRow_nil _ _ _ _,HB1.out⟩
end Go.Proofs.YtkpjjfhfbpfjpaaGreat
