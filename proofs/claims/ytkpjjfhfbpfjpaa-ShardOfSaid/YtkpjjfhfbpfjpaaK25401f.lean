import Derived.Test.YtkpjjfhfbpfjpaaKda88f1
import Derived.Test.YtkpjjfhfbpfjpaaK855ab7
import Derived.Lib.SliceRun
import Derived.Test.YtkpjjfhfbpfjpaaKc9b616
import Derived.Test.YtkpjjfhfbpfjpaaKb0474c
import Derived.Test.YtkpjjfhfbpfjpaaK848123
import Derived.Test.YtkpjjfhfbpfjpaaK6b6f2e
set_option linter.unusedVariables false
set_option linter.unusedSimpArgs false
set_option maxRecDepth 100000
set_option maxHeartbeats 8000000
namespace Go.Proofs.Ytkpjjfhfbpfjpaa
open Go.RowKit
def TextPost (w:World) (g:Nat) (e:Ending) (w':World):Prop:=∃ t:ByteArray,e=.returned (.string t)∧t.size≤64∧CaseOk w' g∧w.grownBy w' (some g)∧w'.heap.size=w.heap.size
theorem ZeH (t:ByteArray) (x:UInt8):(t++⟨#[x]⟩).size=t.size+1:=by
 rw [ByteArray.size_append];rfl
theorem text_any (g:Nat) (w:World) (hc:CaseOk w g):Calls Try.prog 87 #[.pointer (some ⟨g,0,none⟩)] w (TextPost w g):=by
 go_enter Try.func87,Try.ntmps87
 go_wp2_with fail
 refine(ZaB g 10 w (by omega) hc).mono ?_;rintro e w1 ⟨r,rfl,h0,h1,-,hc1,hg1,hs1⟩;have HC:=hI hc1;have HG:=hI hg1;have HS:=hI hs1;have hr:=h1 (by omega);clear hc hc1 hg1 hs1 h1;have hcase:r=0∨r=1∨r=2∨r=3∨r=4∨r=5∨r=6∨r=7∨r=8∨r=9:=(by omega);rcases hcase with rfl | rfl | rfl | rfl | rfl | rfl | rfl | rfl | rfl | rfl
 iterate 8
  · go_wp2_with fail
    go_ret;exact⟨_,rfl,by decide,HC.out,HG.out,HS.out⟩
 · go_wp2_with fail
   go_loop [3,4] (fun t i=>∃ (k:Nat) (u:ByteArray),k≤64∧i=.int .i64 k∧t=.string u∧u.size=k) (fun _ i=>64 - (intOf i).toNat)
   case atStart=>exact⟨0,_,by omega,rfl,rfl,rfl⟩
   case round =>
    obtain⟨k,u,hk,rfl,rfl,hu⟩:=hrel;have HU:=hI hu;have hns:¬ 9223372036854775807<u.size+1:=(by omega);clear hu
    by_cases hlt:k<64
    · go_wp2_with fail
      go_round
      case rel=>exact⟨k+1,_,by omega,by go_num,rfl,by rw [ZeH,HU.out]⟩
      case measure=>simp [intOf];omega
    · go_wp2_with fail
      go_ret;exact⟨_,rfl,by rw [HU.out];exact hk,HC.out,HG.out,HS.out⟩
 · go_wp2_with fail
   go_loop [3,5] (fun t i=>∃ (k:Nat) (u:ByteArray),k≤64∧i=.int .i64 k∧t=.string u∧u.size=k) (fun _ i=>64 - (intOf i).toNat)
   case atStart=>exact⟨0,_,by omega,rfl,rfl,rfl⟩
   case round =>
    obtain⟨k,u,hk,rfl,rfl,hu⟩:=hrel;have HU:=hI hu;have hns:¬ 9223372036854775807<u.size+1:=(by omega);clear hu
    by_cases hlt:k<64
    · go_wp2_with fail
      go_round
      case rel=>exact⟨k+1,_,by omega,by go_num,rfl,by rw [ZeH,HU.out]⟩
      case measure=>simp [intOf];omega
    · go_wp2_with fail
      go_ret;exact⟨_,rfl,by rw [HU.out];exact hk,HC.out,HG.out,HS.out⟩
def NumPost (w:World) (g:Nat) (e:Ending) (w':World):Prop:=∃ n:Int,e=.returned (.int .i64 n)∧CaseOk w' g∧w.grownBy w' (some g)∧w'.heap.size=w.heap.size
theorem number_any (g:Nat) (w:World) (hc:CaseOk w g):Calls Try.prog 86 #[.pointer (some ⟨g,0,none⟩)] w (NumPost w g):=by
 go_enter Try.func86,Try.ntmps86
 go_wp2_with fail
 refine(ZaB g 12 w (by omega) hc).mono ?_;rintro e w1 ⟨r,rfl,h0,h1,-,hc1,hg1,hs1⟩;have HC:=hI hc1;have HG:=hI hg1;have HS:=hI hs1;have hr:=h1 (by omega);clear hc hc1 hg1 hs1 h1;have hcase:r=0∨r=1∨r=2∨r=3∨r=4∨r=5∨r=6∨r=7∨r=8∨r=9∨r=10∨r=11:=(by omega);rcases hcase with rfl | rfl | rfl | rfl | rfl | rfl | rfl | rfl | rfl | rfl | rfl | rfl
 all_goals
  go_wp2_with fail
  go_ret;exact⟨_,rfl,HC.out,HG.out,HS.out⟩
def Zcv (k:Int):Int:=if k=3 then 3 else if k=4 then 4 else 5
def ValPost (P:V→Prop) (w:World) (g:Nat) (e:Ending) (w':World):Prop:=∃ v:V,e=.returned (vAgg v)∧P v∧CaseOk w' g∧w.grownBy w' (some g)
def Zei (k:Int) (v:V):Prop:=Zai v=true∧v.k=k
theorem grown_set {w w1:World} {g n:Nat} {o:Obj} (hg:(w.alloc o).grownBy w1 (some g)) (hl:w.heap.size≤n) (v:Value) (k:Nat):w.grownBy (w1.setCell ⟨n,k,none⟩ v) (some g) :=
 ⟨hg.os,hg.tape,hg.output,by have:=hg.size;simp at this ⊢;omega,fun b hb hne=>(Below.heap_setCell w1 ⟨n,k,none⟩ v b (by show b≠n;omega)).trans ((hg.block b (by simp;omega) hne).trans (Below.heap_alloc w o b hb))⟩
abbrev zObj:Obj:=.cells #[.int .i64 0,.int .i64 0,.string ⟨#[]⟩] 51 (0,0)
theorem Zab {w:World} {g n k:Nat} {v:Value} (hc:CaseOk w g) (hn:g<n):CaseOk (w.setCell ⟨n,k,none⟩ v) g:=hc.keep (fun b hb=>Below.heap_setCell w ⟨n,k,none⟩ v b (by show b≠n;omega))
theorem Zda {w w1:World} {g n:Nat} {o:Obj} {a b c:Value} (hg:(w.alloc o).grownBy w1 (some g)) (hl:w.heap.size≤n):w.grownBy (((w1.setCell ⟨n,0,none⟩ a).setCell ⟨n,1,none⟩ b).setCell ⟨n,2,none⟩ c) (some g):=by
 have h:=grown_set (n:=n) hg hl a 0;refine⟨h.os,h.tape,h.output,by have:=h.size;simpa using this,fun x hx hne=>?_⟩;rw [Below.heap_setCell _ ⟨n,2,none⟩ c x (by show x≠n;omega),Below.heap_setCell _ ⟨n,1,none⟩ b x (by show x≠n;omega)];exact h.block x hx hne
theorem ZdL {w:World} {g n:Nat} {a b c:Value} (hc:CaseOk w g) (hn:g<n):CaseOk (((w.setCell ⟨n,0,none⟩ a).setCell ⟨n,1,none⟩ b).setCell ⟨n,2,none⟩ c) g:=Zab (Zab (Zab hc hn) hn) hn
section
variable {w:World} {B:Nat} {x0 x1 x2 a b c:Value}
theorem v3_2 (h0:w.cell? ⟨B,0,none⟩=some x0) (h1:w.cell? ⟨B,1,none⟩=some x1) (h2:w.cell? ⟨B,2,none⟩=some x2):(((w.setCell ⟨B,0,none⟩ a).setCell ⟨B,1,none⟩ b).setCell ⟨B,2,none⟩ c).cell? ⟨B,2,none⟩=some c :=
 World.cell?_setCell_same _ _ _ (u:=x2) (by rw [World.cell?_setCell_other _ _ _ _ (by simp),World.cell?_setCell_other _ _ _ _ (by simp)];exact h2)
theorem v3_1 (h0:w.cell? ⟨B,0,none⟩=some x0) (h1:w.cell? ⟨B,1,none⟩=some x1) (h2:w.cell? ⟨B,2,none⟩=some x2):(((w.setCell ⟨B,0,none⟩ a).setCell ⟨B,1,none⟩ b).setCell ⟨B,2,none⟩ c).cell? ⟨B,1,none⟩=some b:=by
 rw [World.cell?_setCell_other _ _ _ _ (by simp)];exact World.cell?_setCell_same _ _ _ (u:=x1) (by rw [World.cell?_setCell_other _ _ _ _ (by simp)];exact h1)
theorem v3_0 (h0:w.cell? ⟨B,0,none⟩=some x0) (h1:w.cell? ⟨B,1,none⟩=some x1) (h2:w.cell? ⟨B,2,none⟩=some x2):(((w.setCell ⟨B,0,none⟩ a).setCell ⟨B,1,none⟩ b).setCell ⟨B,2,none⟩ c).cell? ⟨B,0,none⟩=some a:=by
 rw [World.cell?_setCell_other _ _ _ _ (by simp),World.cell?_setCell_other _ _ _ _ (by simp)];exact World.cell?_setCell_same _ _ _ (u:=x0) h0
end
theorem valid_bool {r:Int} (h:r=0∨r=1):Zei 3 ⟨3,r,⟨#[]⟩⟩:=by rcases h with rfl | rfl<;>exact⟨by simp [Zai],rfl⟩
theorem valid_int (r:Int):Zei 4 ⟨4,r,⟨#[]⟩⟩:=⟨by simp [Zai],rfl⟩
theorem valid_text {t:ByteArray} (h:t.size≤64):Zei 5 ⟨5,0,t⟩:=⟨by simp [Zai];omega,rfl⟩
theorem ZaW (g:Nat) (k:Int) (w:World) (hc:CaseOk w g):Calls Try.prog 44 #[.pointer (some ⟨g,0,none⟩),.int .i64 k] w (ValPost (Zei (Zcv k)) w g):=by
 have hgl:=hc.lt;have HC0:=hI (hc.keep (w':=w.alloc zObj) (fun b hb=>Below.heap_alloc _ _ _ (by omega)));clear hc;have hza:(w.alloc zObj).heap.size=w.heap.size+1:=by simp
 by_cases h3:k=3
 · subst h3;go_enter Try.func44,Try.ntmps44
   go_wp2_with fail
   refine(ZaB g 2 _ (by omega) HC0.out).mono ?_;rintro e w1 ⟨r,rfl,h0,h1,-,hc1,hg1,hs1⟩;have hr:=h1 (by omega);have HR:=hI (show r=0∨r=1 by omega);have HC:=hI hc1;have HG:=hI hg1
   obtain⟨y0,y1,y2⟩:w1.cell? ⟨w.heap.size,0,none⟩=some (.int .i64 0)∧w1.cell? ⟨w.heap.size,1,none⟩=some (.int .i64 0)∧w1.cell? ⟨w.heap.size,2,none⟩=some (.string ⟨#[]⟩):=by
    have hb:=hg1.block w.heap.size (by simp) (by intro e;injection e with e;omega);have h:=hb.trans (heap_alloc_new w zObj);exact⟨cell_of_row _ _ _ _ _ _ h,cell_of_row _ _ _ _ _ _ h,cell_of_row _ _ _ _ _ _ h⟩
   obtain⟨f0,f1,f2⟩:w1.frozen? ⟨w.heap.size,0,none⟩=false∧w1.frozen? ⟨w.heap.size,1,none⟩=false∧w1.frozen? ⟨w.heap.size,2,none⟩=false:=by
    have hb:=hg1.block w.heap.size (by simp) (by intro e;injection e with e;omega);have h:=hb.trans (heap_alloc_new w zObj);simp [World.frozen?,h]
   have hz1:w.heap.size<w1.heap.size:=(by have:=hg1.size;omega);clear hc1 hg1 hs1 h1
   go_wp2_with fail
   have u0:=v3_0 (a:=.int .i64 3) (b:=.int .i64 r) (c:=.string ⟨#[]⟩) y0 y1 y2;have u1:=v3_1 (a:=.int .i64 3) (b:=.int .i64 r) (c:=.string ⟨#[]⟩) y0 y1 y2;have u2:=v3_2 (a:=.int .i64 3) (b:=.int .i64 r) (c:=.string ⟨#[]⟩) y0 y1 y2;exact bodyPost_ret (v:=.agg #[.int .i64 3,.int .i64 r,.string ⟨#[]⟩]) (by simp [results,Try.results44,go_sem,u0,u1,u2]) rfl ⟨⟨3,r,⟨#[]⟩⟩,rfl,valid_bool HR.out,ZdL HC.out hgl,Zda HG.out nR⟩
 · have e3:(k == 3)=false:=beq_eq_false_iff_ne.2 h3
   by_cases h4:k=4
   · subst h4;go_enter Try.func44,Try.ntmps44
     go_wp2_with fail
     refine(number_any g _ HC0.out).mono ?_;rintro e w1 ⟨r,rfl,hc1,hg1,hs1⟩;have HC:=hI hc1;have HG:=hI hg1
     obtain⟨y0,y1,y2⟩:w1.cell? ⟨w.heap.size,0,none⟩=some (.int .i64 0)∧w1.cell? ⟨w.heap.size,1,none⟩=some (.int .i64 0)∧w1.cell? ⟨w.heap.size,2,none⟩=some (.string ⟨#[]⟩):=by
      have hb:=hg1.block w.heap.size (by simp) (by intro e;injection e with e;omega);have h:=hb.trans (heap_alloc_new w zObj);exact⟨cell_of_row _ _ _ _ _ _ h,cell_of_row _ _ _ _ _ _ h,cell_of_row _ _ _ _ _ _ h⟩
     obtain⟨f0,f1,f2⟩:w1.frozen? ⟨w.heap.size,0,none⟩=false∧w1.frozen? ⟨w.heap.size,1,none⟩=false∧w1.frozen? ⟨w.heap.size,2,none⟩=false:=by
      have hb:=hg1.block w.heap.size (by simp) (by intro e;injection e with e;omega);have h:=hb.trans (heap_alloc_new w zObj);simp [World.frozen?,h]
     have hz1:w.heap.size<w1.heap.size:=(by have:=hg1.size;omega);clear hc1 hg1 hs1
     go_wp2_with fail
     have u0:=v3_0 (a:=.int .i64 4) (b:=.int .i64 r) (c:=.string ⟨#[]⟩) y0 y1 y2;have u1:=v3_1 (a:=.int .i64 4) (b:=.int .i64 r) (c:=.string ⟨#[]⟩) y0 y1 y2;have u2:=v3_2 (a:=.int .i64 4) (b:=.int .i64 r) (c:=.string ⟨#[]⟩) y0 y1 y2;exact bodyPost_ret (v:=.agg #[.int .i64 4,.int .i64 r,.string ⟨#[]⟩]) (by simp [results,Try.results44,go_sem,u0,u1,u2]) rfl ⟨⟨4,r,⟨#[]⟩⟩,rfl,valid_int r,ZdL HC.out hgl,Zda HG.out nR⟩
   · have e4:(k == 4)=false:=beq_eq_false_iff_ne.2 h4;have HK:=hI (show Zcv k=5 by unfold Zcv;rw [if_neg h3,if_neg h4]);go_enter Try.func44,Try.ntmps44
     go_wp2_with fail
     refine(text_any g _ HC0.out).mono ?_;rintro e w1 ⟨t,rfl,ht,hc1,hg1,hs1⟩;have HT:=hI ht;have HC:=hI hc1;have HG:=hI hg1
     obtain⟨y0,y1,y2⟩:w1.cell? ⟨w.heap.size,0,none⟩=some (.int .i64 0)∧w1.cell? ⟨w.heap.size,1,none⟩=some (.int .i64 0)∧w1.cell? ⟨w.heap.size,2,none⟩=some (.string ⟨#[]⟩):=by
      have hb:=hg1.block w.heap.size (by simp) (by intro e;injection e with e;omega);have h:=hb.trans (heap_alloc_new w zObj);exact⟨cell_of_row _ _ _ _ _ _ h,cell_of_row _ _ _ _ _ _ h,cell_of_row _ _ _ _ _ _ h⟩
     obtain⟨f0,f1,f2⟩:w1.frozen? ⟨w.heap.size,0,none⟩=false∧w1.frozen? ⟨w.heap.size,1,none⟩=false∧w1.frozen? ⟨w.heap.size,2,none⟩=false:=by
      have hb:=hg1.block w.heap.size (by simp) (by intro e;injection e with e;omega);have h:=hb.trans (heap_alloc_new w zObj);simp [World.frozen?,h]
     have hz1:w.heap.size<w1.heap.size:=(by have:=hg1.size;omega);clear hc1 hg1 hs1 ht
     go_wp2_with fail
     have u0:=v3_0 (a:=.int .i64 5) (b:=.int .i64 0) (c:=.string t) y0 y1 y2;have u1:=v3_1 (a:=.int .i64 5) (b:=.int .i64 0) (c:=.string t) y0 y1 y2;have u2:=v3_2 (a:=.int .i64 5) (b:=.int .i64 0) (c:=.string t) y0 y1 y2;exact bodyPost_ret (v:=.agg #[.int .i64 5,.int .i64 0,.string t]) (by simp [results,Try.results44,go_sem,u0,u1,u2]) rfl ⟨⟨5,0,t⟩,rfl,by rw [HK.out];exact valid_text HT.out,ZdL HC.out hgl,Zda HG.out nR⟩
theorem rowVals_snoc (r:Row) (v:V):Zam (r++[v])=Zam r++[.int .i64 v.k,.int .i64 v.i,.string v.t]:=by
 induction r with
 | nil=>rfl
 | cons a r ih=>simp [Zam,ih]
theorem Fr.grown {w w':World} {g:Nat} (h:Fr (fun b=>b=g) w w'):w.grownBy w' (some g):=⟨h.os,h.tape,h.output,h.size,fun k hk hne=>h.block k hk (fun e=>hne (by rw [e]))⟩
theorem ZaT {w w':World} {g:Nat} (h:w.grownBy w' (some g)):Fr (fun b=>b=g) w w':=Fr.of_grown h (fun b _ e=>by injection e)
structure RowI (w wr:World) (g k:Nat) (r:Row) (A:Option Addr) (c:Nat):Prop where
 len:r.length=k
 own:wr.ownsRow w.heap.size 51 3 (.slice A k c) k (Zam r)
 case:CaseOk wr g
 fr:Fr (fun b=>b=g) w wr
section
variable {w wr w2 w3:World} {g k c c':Nat} {r:Row} {A A':Option Addr} {v:V} {o:Obj}
theorem RowI.start (hc:CaseOk w g):RowI w w g 0 [] none 0:=⟨rfl,World.ownsRow_nil _ _ _ _,hc,Fr.refl _ _⟩
theorem RowI.ready (h:RowI w wr g k r A c) (hg:g<w.heap.size) (h2:wr.grownBy w2 (some g)) (o:Obj):(w2.alloc o).ownsRow w.heap.size 51 3 (.slice A k c) k (Zam r)∧w.heap.size≤(w2.alloc o).heap.size:=by
 refine⟨(h.own.kept h2 (.inr fun e=>?_)).alloc o,by have:=h.fr.size;have:=h2.size;simp;omega⟩;have:=ZaE h.own e;omega
theorem RowI.push (h:RowI w wr g k r A c) (hg:g<w.heap.size) (hc2:CaseOk w2 g) (h2:wr.grownBy w2 (some g))
  (hown:w3.ownsRow w.heap.size 51 3 (.slice A' (k+1) c') (k+1) (Zam r++[.int .i64 v.k,.int .i64 v.i,.string v.t])) (hg3:(w2.alloc o).grownBy w3 (Value.slice A k c).ownBlock):RowI w w3 g (k+1) (r++[v]) A' c':=by
 have hb:=fun b (e:some b=(Value.slice A k c).ownBlock)=>ZaE h.own e.symm;have h0:=h.fr.size;have h1:=h2.size;refine⟨by simp [h.len],by rw [rowVals_snoc];exact hown,hc2.keep (fun b hb'=>?_),?_⟩
 · refine(hg3.block b (by simp;omega) (fun e=>?_)).trans (Below.heap_alloc w2 o b (by omega));have:=hb b e;omega
 · refine(h.fr.trans (ZaT h2) (fun _ _ e=>e)).trans (Y:=fun b=>some b=(Value.slice A k c).ownBlock) ?_ (fun b hb' e=>by have:=hb b e;omega);exact⟨hg3.os,hg3.tape,hg3.output,by have:=hg3.size;simp at this;omega,fun b hb' hne=>(hg3.block b (by simp;omega) hne).trans (Below.heap_alloc w2 o b hb')⟩
end
def ZfI (key m:Int) (ks:List Int) (r:Row):Prop:=r.length=ks.length∧∀ i,i<ks.length→Zas m key (Zcv (ks.getD i 0)) i (r.getD i v0)=true
def RowGenK (key m:Int) (ks:List Int) (k:Nat) (r:Row):Prop:=r.length=k∧∀ i,i<k→Zas m key (Zcv (ks.getD i 0)) i (r.getD i v0)=true
theorem RowGenK.push {key m:Int} {ks:List Int} {k:Nat} {r:Row} {v:V} (h:RowGenK key m ks k r) (hv:Zas m key (Zcv (ks.getD k 0)) k v=true):RowGenK key m ks (k+1) (r++[v]):=by
 refine⟨by simp [h.1],fun i hi=>?_⟩
 by_cases e:i<k
 · have:(r++[v]).getD i v0=r.getD i v0:=(by simp [List.getD,List.getElem?_append_left (show i<r.length by rw [h.1];exact e)]);rw [this];exact h.2 i e
 · have e':i=k:=(by omega);subst e';have:(r++[v]).getD i v0=v:=(by simp [List.getD,←h.1]);rw [this];exact hv
theorem ZdH {key m:Int} {kd:Int} {k:Nat} (h1:key≤k) (h2:m≠1):Zas m key kd k ⟨2,0,⟨#[]⟩⟩=true:=by simp [Zas,Zai,h1,h2]
theorem fits_missing {key m:Int} {kd:Int} {k:Nat} (h1:key≤k) (h2:m=3):Zas m key kd k ⟨1,0,⟨#[]⟩⟩=true:=by simp [Zas,Zai,h1,h2]
theorem ZcM {key m kd:Int} {k:Nat} {v:V} (h:Zei kd v):Zas m key kd k v=true:=by simp [Zas,h.1,h.2]
def RowPost (key m:Int) (ks:List Int) (w:World) (g:Nat) (e:Ending) (w':World):Prop :=
 ∃ r A c,e=.returned (.slice A r.length c)∧ZfI key m ks r∧w'.ownsRow w.heap.size 51 3 (.slice A r.length c) r.length (Zam r)∧CaseOk w' g∧w.grownBy w' (some g)
theorem row_any (g:Nat) (K:Option Addr) (ck:Nat) (ks:List Int) (key m:Int) (S:Nat→Prop) (w:World) (hks:IntS w S K ks) (hS:∀ b,S b→b<w.heap.size∧b≠g) (hl:ks.length≤1000000) (hc:CaseOk w g) :
  Calls Try.prog 14 #[.pointer (some ⟨g,0,none⟩),.slice K ks.length ck,.int .i64 key,.int .i64 m] w (RowPost key m ks w g):=by
 obtain⟨i0,hi,hz0,hz1,hz2⟩:=info_parts ZfK;have hgl:=hc.lt;have HKS:=hI hks;have HI0:=hI (RowI.start hc);clear hks hc;go_enter Try.func14,Try.ntmps14
 go_wp2_with fail
 go_loopw [9,14] (fun out i wr=>∃ (k:Nat) (r:Row) (A:Option Addr) (c:Nat),k≤ks.length∧i=.int .i64 k∧out=.slice A k c∧RowI w wr g k r A c∧RowGenK key m ks k r) (fun _ i _=>ks.length - (intOf i).toNat)
 case atStart=>exact⟨0,[],none,0,Nat.zero_le _,rfl,rfl,HI0.out,rfl,fun i hi=>by omega⟩
 case round =>
  obtain⟨k,r,A,c,hk,rfl,rfl,hri,hgen⟩:=hrel;have HRI:=hI hri;have HGEN:=hI hgen;have hszr:=hri.fr.size;clear hri hgen
  by_cases hlt:k<ks.length
  · obtain⟨b1,o1,rfl,hb1,d1⟩:=(HKS.out.keep (HRI.out.fr.same (fun b hb=>hS b hb))).at_ hlt;have hb1l:b1<wr.heap.size:=(by have:=(hS b1 hb1).1;omega);have HC:=hI HRI.out.case;generalize hkd:ks.getD k 0=kd at d1;have HKD:=hI hkd;clear hkd
    have FIN:∀ (v:V) (A':Option Addr) (c':Nat) (w3:World),RowI w w3 g (k+1) (r++[v]) A' c'→Zas m key (Zcv kd) k v=true→∃ (k':Nat) (r':Row) (A'':Option Addr) (c'':Nat),k'≤ks.length∧Value.int .i64 ((k:Int)+1)=.int .i64 k'∧Value.slice A' (k+1) c'=.slice A'' k' c''∧RowI w w3 g k' r' A'' c''∧RowGenK key m ks k' r' :=
     fun v A' c' w3 h1 h2=>⟨k+1,r++[v],A',c',by omega,by go_num,rfl,h1,HGEN.out.push (by rw [HKD.out];exact h2)⟩
    have HFIN:=hI FIN;clear FIN
    by_cases h1:key≤(k:Int)
    · by_cases h2:m=1
      · subst h2
        go_wp2_with fail
        have HCV:=HC;have HGV:=hI (World.grownBy.refl wr (some g));refine(ZaW g kd _ HCV.out).mono ?_;rintro e wv ⟨⟨vk,vi,vt⟩,rfl,hv,hcv,hgv⟩;have HV:=hI hv;have HCW:=hI hcv;have HGW:=hI (HGV.out.trans hgv);clear hv hcv hgv
        go_wp2_with (at_builtin;obtain⟨ho,hbs⟩:=HRI.out.ready (w2:=wv) hgl HGW.out (.cells #[.int .i64 vk,.int .i64 vi,.string vt] 51);refine Zak _ rfl (.tmp 19) (.tmp 23) 27 rfl w.heap.size 51 i0 _ 3 32 Try.underlying27 hi hz0 hz1 hz2 rfl (by decide) (.slice A k c) k (Zam r) rfl ho ⟨wv.heap.size,0,none⟩ 1 1 [.int .i64 vk,.int .i64 vi,.string vt] rfl rfl (World.news_of_block (heap_alloc_new wv (.cells #[.int .i64 vk,.int .i64 vi,.string vt] 51))) (by simp [Value.oneCell']) (by unfold maxLen;omega) (by omega) hbs ?_;intro A3 c3 w3 hown3 hg3;have HP:=hI (HRI.out.push (v:=⟨vk,vi,vt⟩) hgl HCW.out HGW.out hown3 hg3);clear ho hbs hown3 hg3)
        go_roundw
        case rel=>exact HFIN.out _ _ _ _ HP.out (ZcM HV.out)
        case measure=>simp [intOf];omega
      · have h2':(m != 1)=true:=(by simp [h2]);have h2'':(m == 1)=false:=beq_eq_false_iff_ne.2 h2;have H2:=hI h2
        by_cases h3:m=3
        · subst h3;clear h2
          go_wp2_with fail
          refine(Zay g 5 _ (by omega) (by omega) HC.out).mono ?_;rintro e wb ⟨bb,rfl,hcb,hgb,hsb⟩;have HCW:=hI hcb;have HGW:=hI hgb;clear hcb hgb hsb;cases bb
          · go_wp2_with fail
            refine(Zay g 5 _ (by omega) (by omega) HCW.out).mono ?_;rintro e wb2 ⟨bb,rfl,hcb,hgb,hsb⟩;have HCV:=hI hcb;have HGV:=hI (HGW.out.trans hgb);clear hcb hgb hsb HCW HGW;cases bb
            · go_wp2_with fail
              refine(ZaW g kd _ HCV.out).mono ?_;rintro e wv ⟨⟨vk,vi,vt⟩,rfl,hv,hcv,hgv⟩;have HV:=hI hv;have HCW:=hI hcv;have HGW:=hI (HGV.out.trans hgv);clear hv hcv hgv
              go_wp2_with (at_builtin;obtain⟨ho,hbs⟩:=HRI.out.ready (w2:=wv) hgl HGW.out (.cells #[.int .i64 vk,.int .i64 vi,.string vt] 51);refine Zak _ rfl (.tmp 19) (.tmp 23) 27 rfl w.heap.size 51 i0 _ 3 32 Try.underlying27 hi hz0 hz1 hz2 rfl (by decide) (.slice A k c) k (Zam r) rfl ho ⟨wv.heap.size,0,none⟩ 1 1 [.int .i64 vk,.int .i64 vi,.string vt] rfl rfl (World.news_of_block (heap_alloc_new wv (.cells #[.int .i64 vk,.int .i64 vi,.string vt] 51))) (by simp [Value.oneCell']) (by unfold maxLen;omega) (by omega) hbs ?_;intro A3 c3 w3 hown3 hg3;have HP:=hI (HRI.out.push (v:=⟨vk,vi,vt⟩) hgl HCW.out HGW.out hown3 hg3);clear ho hbs hown3 hg3)
              go_roundw
              case rel=>exact HFIN.out _ _ _ _ HP.out (ZcM HV.out)
              case measure=>simp [intOf];omega
            · have HCW:=HCV;have HGW:=HGV
              go_wp2_with (at_builtin;obtain⟨ho,hbs⟩:=HRI.out.ready (w2:=wb2) hgl HGW.out (.cells #[.int .i64 1,.int .i64 0,.string ⟨#[]⟩] 51);refine Zak _ rfl (.tmp 53) (.tmp 55) 27 rfl w.heap.size 51 i0 _ 3 32 Try.underlying27 hi hz0 hz1 hz2 rfl (by decide) (.slice A k c) k (Zam r) rfl ho ⟨wb2.heap.size,0,none⟩ 1 1 [.int .i64 1,.int .i64 0,.string ⟨#[]⟩] rfl rfl (World.news_of_block (heap_alloc_new wb2 (.cells #[.int .i64 1,.int .i64 0,.string ⟨#[]⟩] 51))) (by simp [Value.oneCell']) (by unfold maxLen;omega) (by omega) hbs ?_;intro A3 c3 w3 hown3 hg3;have HP:=hI (HRI.out.push (v:=⟨1,0,⟨#[]⟩⟩) hgl HCW.out HGW.out hown3 hg3);clear ho hbs hown3 hg3)
              go_roundw
              case rel=>exact HFIN.out _ _ _ _ HP.out (fits_missing h1 rfl)
              case measure=>simp [intOf];omega
          · go_wp2_with (at_builtin;obtain⟨ho,hbs⟩:=HRI.out.ready (w2:=wb) hgl HGW.out (.cells #[.int .i64 2,.int .i64 0,.string ⟨#[]⟩] 51);refine Zak _ rfl (.tmp 37) (.tmp 39) 27 rfl w.heap.size 51 i0 _ 3 32 Try.underlying27 hi hz0 hz1 hz2 rfl (by decide) (.slice A k c) k (Zam r) rfl ho ⟨wb.heap.size,0,none⟩ 1 1 [.int .i64 2,.int .i64 0,.string ⟨#[]⟩] rfl rfl (World.news_of_block (heap_alloc_new wb (.cells #[.int .i64 2,.int .i64 0,.string ⟨#[]⟩] 51))) (by simp [Value.oneCell']) (by unfold maxLen;omega) (by omega) hbs ?_;intro A3 c3 w3 hown3 hg3;have HP:=hI (HRI.out.push (v:=⟨2,0,⟨#[]⟩⟩) hgl HCW.out HGW.out hown3 hg3);clear ho hbs hown3 hg3)
            go_roundw
            case rel=>exact HFIN.out _ _ _ _ HP.out (ZdH h1 H2.out)
            case measure=>simp [intOf];omega
        · have h3':(m == 3)=false:=beq_eq_false_iff_ne.2 h3;clear h2 h3
          go_wp2_with fail
          refine(Zay g 5 _ (by omega) (by omega) HC.out).mono ?_;rintro e wb ⟨bb,rfl,hcb,hgb,hsb⟩;have HCW:=hI hcb;have HGW:=hI hgb;clear hcb hgb hsb;cases bb
          · go_wp2_with fail
            have HCV:=HCW;have HGV:=HGW;clear HCW HGW;refine(ZaW g kd _ HCV.out).mono ?_;rintro e wv ⟨⟨vk,vi,vt⟩,rfl,hv,hcv,hgv⟩;have HV:=hI hv;have HCW:=hI hcv;have HGW:=hI (HGV.out.trans hgv);clear hv hcv hgv
            go_wp2_with (at_builtin;obtain⟨ho,hbs⟩:=HRI.out.ready (w2:=wv) hgl HGW.out (.cells #[.int .i64 vk,.int .i64 vi,.string vt] 51);refine Zak _ rfl (.tmp 19) (.tmp 23) 27 rfl w.heap.size 51 i0 _ 3 32 Try.underlying27 hi hz0 hz1 hz2 rfl (by decide) (.slice A k c) k (Zam r) rfl ho ⟨wv.heap.size,0,none⟩ 1 1 [.int .i64 vk,.int .i64 vi,.string vt] rfl rfl (World.news_of_block (heap_alloc_new wv (.cells #[.int .i64 vk,.int .i64 vi,.string vt] 51))) (by simp [Value.oneCell']) (by unfold maxLen;omega) (by omega) hbs ?_;intro A3 c3 w3 hown3 hg3;have HP:=hI (HRI.out.push (v:=⟨vk,vi,vt⟩) hgl HCW.out HGW.out hown3 hg3);clear ho hbs hown3 hg3)
            go_roundw
            case rel=>exact HFIN.out _ _ _ _ HP.out (ZcM HV.out)
            case measure=>simp [intOf];omega
          · go_wp2_with (at_builtin;obtain⟨ho,hbs⟩:=HRI.out.ready (w2:=wb) hgl HGW.out (.cells #[.int .i64 2,.int .i64 0,.string ⟨#[]⟩] 51);refine Zak _ rfl (.tmp 37) (.tmp 39) 27 rfl w.heap.size 51 i0 _ 3 32 Try.underlying27 hi hz0 hz1 hz2 rfl (by decide) (.slice A k c) k (Zam r) rfl ho ⟨wb.heap.size,0,none⟩ 1 1 [.int .i64 2,.int .i64 0,.string ⟨#[]⟩] rfl rfl (World.news_of_block (heap_alloc_new wb (.cells #[.int .i64 2,.int .i64 0,.string ⟨#[]⟩] 51))) (by simp [Value.oneCell']) (by unfold maxLen;omega) (by omega) hbs ?_;intro A3 c3 w3 hown3 hg3;have HP:=hI (HRI.out.push (v:=⟨2,0,⟨#[]⟩⟩) hgl HCW.out HGW.out hown3 hg3);clear ho hbs hown3 hg3)
            go_roundw
            case rel=>exact HFIN.out _ _ _ _ HP.out (ZdH h1 H2.out)
            case measure=>simp [intOf];omega
    · have hd:decide (key≤(k:Int))=false:=(by simpa using h1);have HCV:=HC;have HGV:=hI (World.grownBy.refl wr (some g))
      go_wp2_with fail
      refine(ZaW g kd _ HCV.out).mono ?_;rintro e wv ⟨⟨vk,vi,vt⟩,rfl,hv,hcv,hgv⟩;have HV:=hI hv;have HCW:=hI hcv;have HGW:=hI (HGV.out.trans hgv);clear hv hcv hgv
      go_wp2_with (at_builtin;obtain⟨ho,hbs⟩:=HRI.out.ready (w2:=wv) hgl HGW.out (.cells #[.int .i64 vk,.int .i64 vi,.string vt] 51);refine Zak _ rfl (.tmp 19) (.tmp 23) 27 rfl w.heap.size 51 i0 _ 3 32 Try.underlying27 hi hz0 hz1 hz2 rfl (by decide) (.slice A k c) k (Zam r) rfl ho ⟨wv.heap.size,0,none⟩ 1 1 [.int .i64 vk,.int .i64 vi,.string vt] rfl rfl (World.news_of_block (heap_alloc_new wv (.cells #[.int .i64 vk,.int .i64 vi,.string vt] 51))) (by simp [Value.oneCell']) (by unfold maxLen;omega) (by omega) hbs ?_;intro A3 c3 w3 hown3 hg3;have HP:=hI (HRI.out.push (v:=⟨vk,vi,vt⟩) hgl HCW.out HGW.out hown3 hg3);clear ho hbs hown3 hg3)
      go_roundw
      case rel=>exact HFIN.out _ _ _ _ HP.out (ZcM HV.out)
      case measure=>simp [intOf];omega
  · go_wp2_with fail
    go_ret;obtain rfl:k=ks.length:=(by omega);have hl:=HRI.out.len;refine⟨r,A,c,by rw [hl];rfl,⟨HGEN.out.1,HGEN.out.2⟩,by rw [hl];exact HRI.out.own,HRI.out.case,HRI.out.fr.grown⟩
theorem ownsRow_low {w:World} {base base' size n:Nat} {e:TypeId} {v:Value} {xs:List Value} (h:w.ownsRow base e size v n xs) (hb:base'≤base):w.ownsRow base' e size v n xs:=by
 refine⟨h.1,?_⟩;rcases h.2 with h0 | ⟨g,cap,cur,h1,h2,h3⟩
 · exact .inl h0
 · exact .inr ⟨g,cap,cur,h1,by omega,h3⟩
theorem NewR.low {r:Row} {w wa:World} {e:Ending} {w':World} (h:NewR r wa e w') (hb:Below w.heap.size w wa):NewR r w e w':=by
 obtain⟨A,c,h1,h2,h3⟩:=h;exact⟨A,c,h1,ownsRow_low h2 hb.size,hb.trans (h3.mono hb.size)⟩
def ZbE (s:Sch) (t:Int):List Int:=(ZaF s t).take (max 0 (min (s.tabs.getD t.toNat t0).key (ZaF s t).length)).toNat
theorem IntS.take {w:World} {S:Nat→Prop} {A:Option Addr} {l:List Int} (h:IntS w S A l) (k:Nat):IntS w S A (l.take k):=by
 refine⟨?_,fun hn=>?_⟩
 · have:=h.1;rw [Zah (n:=8) (fun _=>rfl)] at this ⊢;simp only [List.length_take];omega
 · have hn':0<(l.take k).length:=(by simpa using hn);obtain⟨b,off,e,hb,hc⟩:=h.2 (by simp at hn' ⊢;omega);refine⟨b,off,e,hb,ZbJ (n:=1) (fun d hd=>by obtain⟨a,_,rfl⟩:=List.mem_map.1 hd;rfl) (fun j hj=>?_)⟩;have hj':j<(l.map Zcx).length:=(by simp at hj ⊢;omega);have:=ZbK (n:=1) (fun d hd=>by obtain⟨a,_,rfl⟩:=List.mem_map.1 hd;rfl) hc j hj';simpa using this
section
variable {w w':World} {S S':Nat→Prop} {gt:Nat} {st:St}
end
section
variable {w wa wb:World} {S:Nat→Prop} {s:Sch} {A0 A A':Option Addr} {c0' gt n ca k k' m m' c c':Nat} {d d':Bool} {P rest rest' L L':List Row}
end
instance:DecidableEq Chg:=fun a b=>decidable_of_iff (a.table=b.table∧a.old=b.old∧a.new=b.new) (by cases a;cases b;simp)
open Go.ChangeShapes Go.WideShapes Go.Deep
theorem Zdd {f g:Nat→Nat}:∀ n,(∀ i,i<n→f i≤g i)→((List.range n).map f).sum≤((List.range n).map g).sum
 | 0,_=>by simp
 | n+1,h=>by
  rw [List.range_succ,List.map_append,List.map_append,List.sum_append,List.sum_append];have h1:=Zdd n (fun i hi=>h i (by omega));have h2:=h n (by omega);simp only [List.map_cons,List.map_nil,List.sum_cons,List.sum_nil];omega
theorem ZeX {α:Type}:∀ l:List α,(l.map fun _=>(0:Nat)).sum=0
 | []=>rfl
 | _ :: r=>by simp only [List.map_cons,List.sum_cons,ZeX r]
theorem choose_lt2 {α:Type} [Inhabited α] {n:Nat} {P:Nat→α→Prop} (h:∀ i,i<n→∃ a,P i a):∃ f:Nat→α,∀ i,i<n→P i (f i):=choose_lt h
section
variable {H:Type} {enc:TypeId × Value→H} {W:World} {fuel:Nat} {cs:List Value} {x:DataW H × List MemPlace}
theorem raw_slice2 {α:Type} [Inhabited α] (ed:α→Dat) (μ:α→Nat) (M:DataW H→Nat) (hM:∀ a b,(a.map M).sum≤M (.slice a b)) {T E:TypeId} {n by_:Nat} (hu:Try.prog.underlying T=some (.slice E)) (hn:Try.prog.cellsOf E=n) (hn0:0<n) (hb:Try.prog.bytesOf E=by_) (hsz:∀ a,(ed a).size=n) (hby:∀ a,(ed a).bytes=by_)
  (each:∀ (fuel:Nat) (cs:List Value) (y:DataW H × List MemPlace),SizeOf.sizeOf y.1<SizeOf.sizeOf x.1→DataW.trod enc Try.prog W 0 (fun _=>true) true fuel E cs=some y→(∀ k ∈ y.1.weights Try.prog E,k≤reachBytes)→∃ a,Dat.Vals W (Lt W) (ed a) cs∧μ a≤M y.1)
  (h:DataW.trod enc Try.prog W 0 (fun _=>true) true fuel T cs=some x) (hw:∀ k ∈ x.1.weights Try.prog T,k≤reachBytes) :
  ∃ A cap l,cs=[.slice A (l:List α).length cap]∧l.length≤cap∧Sl W (Lt W) A (l.map ed)∧(l.map μ).sum≤M x.1:=by
 rcases open_slice hu h with ⟨hcs,_⟩ | ⟨a,len,cap,m,f,D,Pl,hcs,_,hl,hm,hmm,rfl,hx⟩
 · exact⟨none,0,[],hcs,by simp,Sl.nil_,by simp⟩
 · simp only [if_true] at hmm;subst hmm
   have hwl:len*by_≤140737488355328:=by
    have h1:=hw ((len+(m - len))*by_) (by
     simp only [DataW.weights,hu];refine List.mem_cons.2 (.inl ?_);simp only [List.length_map,List.length_range,hb])
    have h2:len*by_≤(len+(m - len))*by_:=Nat.mul_le_mul_right _ (by omega);unfold reachBytes at h1;omega
   have each':∀ i,i<len→∃ v:α,(∃ vs,Dat.Vals W (Lt W) (ed v) vs∧∀ j u,vs[j]?=some u→W.cell? ((a.add (i*n)).add j)=some u)∧μ v≤M (D i):=by
    intro i hi;obtain⟨cs',h1,h2⟩:=hx i (by omega);rw [hn] at h1;have hmem:D i ∈ (List.range len).map D:=List.mem_map.2 ⟨i,List.mem_range.2 hi,rfl⟩
    obtain⟨v,hv,hμ⟩:=each _ _ _ (by
     have h9:=List.sizeOf_lt_of_mem hmem;simp only [DataW.slice.sizeOf_spec];omega) h2 (fun k hk=>hw k (by
     simp only [DataW.weights,hu];exact List.mem_cons.2 (.inr (List.mem_append.2 (.inl (ZbD hmem k hk))))))
    refine⟨v,⟨cs',hv,fun j u hu'=>?_⟩,hμ⟩;obtain⟨hlen,_,hc⟩:=World.cells?_some h1;have hj:j<cs'.length:=(List.getElem?_eq_some_iff.1 hu').1;have hjn:j<n:=(by rw [Dat.Vals.len _ _ hv,hsz] at hj;exact hj);have:=hc j hjn;rw [this];simpa using hu'
   obtain⟨f,hf⟩:=choose_lt2 (α:=α) each';refine⟨some a,m,(List.range len).map f,by rw [List.length_map,List.length_range];exact hcs,by simpa using hl,⟨by rw [Zah (n:=by_) hby,List.length_map,List.length_range];exact hwl,fun hn'=>?_⟩,?_⟩
   · have hl0:0<len:=(by simpa using hn');obtain⟨⟨vs0,hv0,hc0⟩,_⟩:=hf 0 hl0;have hvl:0<vs0.length:=(by rw [Dat.Vals.len _ _ hv0,hsz];exact hn0);have hcell:=hc0 0 vs0[0] (by simp);obtain⟨b,off,ha,hb'⟩:=ZeA hcell;have ha':a=⟨b,off,none⟩:=(by simpa [Addr.add] using ha);subst ha';refine⟨b,off,rfl,hb',ZbJ (n:=n) (fun d hd=>by obtain⟨v,_,rfl⟩:=List.mem_map.1 hd;exact hsz v) (fun k hk=>?_)⟩;have hk':k<len:=(by simpa using hk);have e:((((List.range len).map f)).map ed)[k]=ed (f k):=(by simp);rw [e];obtain⟨⟨vs,hv,hc⟩,_⟩:=hf k hk';refine held_of_cells _ vs _ _ hv (fun j u hu'=>?_);have:=hc j u hu';rw [Zbm,Zbm] at this;exact this
   · rw [List.map_map];have h1:=Zdd (f:=μ ∘ f) (g:=M ∘ D) len (fun i hi=>(hf i hi).2);have h2:=hM ((List.range len).map D) ((List.range (m - len)).map fun j=>D (len+j));rw [List.map_map] at h2;exact Nat.le_trans h1 h2
theorem ZbI {α:Type} [Inhabited α] (ed:α→Dat) {T E:TypeId} {n by_:Nat} (hu:Try.prog.underlying T=some (.slice E)) (hn:Try.prog.cellsOf E=n) (hn0:0<n) (hb:Try.prog.bytesOf E=by_) (hsz:∀ a,(ed a).size=n) (hby:∀ a,(ed a).bytes=by_)
  (each:∀ (fuel:Nat) (cs:List Value) (y:DataW H × List MemPlace),SizeOf.sizeOf y.1<SizeOf.sizeOf x.1→DataW.trod enc Try.prog W 0 (fun _=>true) true fuel E cs=some y→(∀ k ∈ y.1.weights Try.prog E,k≤reachBytes)→∃ a,Dat.Vals W (Lt W) (ed a) cs)
  (h:DataW.trod enc Try.prog W 0 (fun _=>true) true fuel T cs=some x) (hw:∀ k ∈ x.1.weights Try.prog T,k≤reachBytes) :
  ∃ A cap l,cs=[.slice A (l:List α).length cap]∧l.length≤cap∧Sl W (Lt W) A (l.map ed):=by
 obtain⟨A,cap,l,h1,h2,h3,_⟩:=raw_slice2 ed (fun _=>0) (fun _=>0) (fun a b=>by rw [ZeX];exact Nat.le_refl _) hu hn hn0 hb hsz hby (fun f c y hy h1 h2=>by obtain⟨a,ha⟩:=each f c y hy h1 h2;exact⟨a,ha,Nat.le_refl _⟩) h hw;exact⟨A,cap,l,h1,h2,h3⟩
theorem Zbw {T:TypeId} {fs:Array Field} (hu:Try.prog.underlying T=some (.struct fs)) (h:DataW.trod enc Try.prog W 0 (fun _=>true) true fuel T cs=some x) (hw:∀ k ∈ x.1.weights Try.prog T,k≤reachBytes) :
  ∃ n,cs.length=Try.prog.cellsOf T∧∀ (i:Nat) (f:Field),fs[i]?=some f→∃ y,DataW.trod enc Try.prog W 0 (fun _=>true) true n f.type ((cs.drop f.offset).take (Try.prog.cellsOf f.type))=some y∧(∀ k ∈ y.1.weights Try.prog f.type,k≤reachBytes)∧SizeOf.sizeOf y.1<SizeOf.sizeOf x.1:=by
 obtain⟨xs,n,_,rfl,hl,hlen,hf⟩:=DataW.trod_struct hu h;refine⟨n,hl,fun i f hi=>?_⟩;have hib:i<xs.length:=(by rw [hlen];exact(Array.getElem?_eq_some_iff.1 hi).1);refine⟨xs[i],by rw [hf i f hi];exact List.getElem?_eq_getElem hib,fun k hk=>hw k ?_,?_⟩
 · simp only [DataW.weights,hu];exact DataW.weights_mem_each (j:=i) (t:=f.type) (by simp [hi]) (by simp [hib]) k hk
 · have h9:=List.sizeOf_lt_of_mem (List.mem_map.2 ⟨xs[i],List.getElem_mem hib,rfl⟩:xs[i].1 ∈ xs.map (·.1));simp only [DataW.agg.sizeOf_spec];omega
instance:Inhabited Col:=⟨c0⟩
instance:Inhabited Rfr:=⟨r0⟩
instance:Inhabited Pred:=⟨p0⟩
instance:Inhabited Tab:=⟨t0⟩
theorem raw_col (h:DataW.trod enc Try.prog W 0 (fun _=>true) true fuel 34 cs=some x) (hw:∀ k ∈ x.1.weights Try.prog 34,k≤reachBytes):∃ c:Col,Dat.Vals W (Lt W) (ZbV c) cs:=by
 obtain⟨n,hl,hf⟩:=Zbw Try.underlying34 h hw;rw [show Try.prog.cellsOf 34=2 by kernel_rfl] at hl
 match cs,hl with
 | [c0,c1],_ =>
  obtain⟨y0,h0,_,_⟩:=hf 0 _ rfl;obtain⟨y1,h1,_,_⟩:=hf 1 _ rfl;have h0':DataW.trod enc Try.prog W 0 (fun _=>true) true n 9 [c0]=some y0:=h0;have h1':DataW.trod enc Try.prog W 0 (fun _=>true) true n 3 [c1]=some y1:=h1;obtain⟨t,e0,_,ht⟩:=DataW.trod_string Try.underlying9 h0';obtain⟨a,e1,_,_⟩:=DataW.trod_int Try.underlying3 h1';injection e0 with e0;injection e1 with e1;subst e0 e1;unfold maxLen at ht;refine⟨⟨t,a⟩,?_⟩;simp only [ZbV,Dat.Vals,Dat.ValsAll,Zau,Zaq];exact⟨[.string t],_,rfl,⟨rfl,by omega⟩,[.int .i64 a],[],rfl,⟨rfl,trivial⟩,rfl⟩
theorem raw_ints (h:DataW.trod enc Try.prog W 0 (fun _=>true) true fuel 40 cs=some x) (hw:∀ k ∈ x.1.weights Try.prog 40,k≤reachBytes):∃ A cap l,cs=[.slice A (l:List Int).length cap]∧l.length≤cap∧IntS W (Lt W) A l :=
 ZbI (n:=1) (by_:=8) Zcx Try.underlying40 (by kernel_rfl) (by decide) (by kernel_rfl) (fun _=>rfl) (fun _=>rfl) (fun fuel cs y _ h _=>by
  obtain⟨a,e,_,_⟩:=DataW.trod_int Try.underlying3 h;exact⟨a,by rw [e];unfold Zcx Dat.Vals;exact⟨rfl,trivial⟩⟩) h hw
theorem raw_rfr (h:DataW.trod enc Try.prog W 0 (fun _=>true) true fuel 96 cs=some x) (hw:∀ k ∈ x.1.weights Try.prog 96,k≤reachBytes):∃ r:Rfr,Dat.Vals W (Lt W) (Zdl r) cs:=by
 obtain⟨n,hl,hf⟩:=Zbw Try.underlying96 h hw;rw [show Try.prog.cellsOf 96=2 by kernel_rfl] at hl
 match cs,hl with
 | [c0,c1],_ =>
  obtain⟨y0,h0,hw0,_⟩:=hf 0 _ rfl;obtain⟨y1,h1,_,_⟩:=hf 1 _ rfl;have h0':DataW.trod enc Try.prog W 0 (fun _=>true) true n 40 [c0]=some y0:=h0;have h1':DataW.trod enc Try.prog W 0 (fun _=>true) true n 3 [c1]=some y1:=h1;obtain⟨A,c,l,e0,hc,hs⟩:=raw_ints h0' hw0;obtain⟨a,e1,_,_⟩:=DataW.trod_int Try.underlying3 h1';injection e0 with e0;injection e1 with e1;subst e0 e1;refine⟨⟨l,a⟩,?_⟩;simp only [Zdl,Dat.Vals,Dat.ValsAll,Zau];exact⟨[.slice A l.length c],_,rfl,⟨A,c,by simp,by simpa using hc,hs⟩,[.int .i64 a],[],rfl,⟨rfl,trivial⟩,rfl⟩
theorem Zfo (h:DataW.trod enc Try.prog W 0 (fun _=>true) true fuel 98 cs=some x) (hw:∀ k ∈ x.1.weights Try.prog 98,k≤reachBytes):∃ o:Opd,Dat.Vals W (Lt W) (Zbb o) cs:=by
 obtain⟨n,hl,hf⟩:=Zbw Try.underlying98 h hw;rw [show Try.prog.cellsOf 98=5 by kernel_rfl] at hl
 match cs,hl with
 | [c0,c1,c2,c3,c4],_ =>
  obtain⟨y0,h0,_,_⟩:=hf 0 _ rfl;obtain⟨y1,h1,_,_⟩:=hf 1 _ rfl;obtain⟨y2,h2,_,_⟩:=hf 2 _ rfl;have h0':DataW.trod enc Try.prog W 0 (fun _=>true) true n 3 [c0]=some y0:=h0;have h1':DataW.trod enc Try.prog W 0 (fun _=>true) true n 3 [c1]=some y1:=h1;have h2':DataW.trod enc Try.prog W 0 (fun _=>true) true n 51 [c2,c3,c4]=some y2:=h2;obtain⟨a,e0,_,_⟩:=DataW.trod_int Try.underlying3 h0';obtain⟨b,e1,_,_⟩:=DataW.trod_int Try.underlying3 h1';obtain⟨v,hv⟩:=Zfn h2';injection e0 with e0;injection e1 with e1;subst e0 e1;refine⟨⟨a,b,v⟩,?_⟩;unfold Zbb Dat.Vals Dat.ValsAll;refine⟨[.int .i64 a],_,rfl,by unfold Dat.Vals;exact⟨rfl,trivial⟩,?_⟩;unfold Dat.ValsAll;refine⟨[.int .i64 b],_,rfl,by unfold Dat.Vals;exact⟨rfl,trivial⟩,?_⟩;unfold Dat.ValsAll;refine⟨[c2,c3,c4],[],rfl,hv,?_⟩;unfold Dat.ValsAll;rfl
theorem ZeF:∀ (N:Nat) {fuel:Nat} {cs:List Value} {x:DataW H × List MemPlace},SizeOf.sizeOf x.1≤N→DataW.trod enc Try.prog W 0 (fun _=>true) true fuel 37 cs=some x→(∀ k ∈ x.1.weights Try.prog 37,k≤reachBytes)→∃ A cap l,cs=[.slice A (l:List Pred).length cap]∧l.length≤cap∧PredS W (Lt W) A l
 | N,fuel,cs,x,hx,h,hw =>
 ZbI (n:=13) (by_:=136) encPred Try.underlying37 (by kernel_rfl) (by decide) (by kernel_rfl) Zcg Zbd (fun fuel cs y hy h hw=>by
  obtain⟨n,hl,hf⟩:=Zbw Try.underlying100 h hw;rw [show Try.prog.cellsOf 100=13 by kernel_rfl] at hl
  match cs,hl with
  | [c0,c1,c2,c3,c4,c5,c6,c7,c8,c9,c10,c11,c12],_ =>
   obtain⟨y0,h0,_,_⟩:=hf 0 _ rfl;obtain⟨y1,h1,_,_⟩:=hf 1 _ rfl;obtain⟨y2,h2,hw2,_⟩:=hf 2 _ rfl;obtain⟨y3,h3,hw3,_⟩:=hf 3 _ rfl;obtain⟨y4,h4,hw4,hs4⟩:=hf 4 _ rfl;have h0':DataW.trod enc Try.prog W 0 (fun _=>true) true n 3 [c0]=some y0:=h0;have h1':DataW.trod enc Try.prog W 0 (fun _=>true) true n 3 [c1]=some y1:=h1;have h2':DataW.trod enc Try.prog W 0 (fun _=>true) true n 98 [c2,c3,c4,c5,c6]=some y2:=h2;have h3':DataW.trod enc Try.prog W 0 (fun _=>true) true n 98 [c7,c8,c9,c10,c11]=some y3:=h3;have h4':DataW.trod enc Try.prog W 0 (fun _=>true) true n 37 [c12]=some y4:=h4;obtain⟨a,e0,_,_⟩:=DataW.trod_int Try.underlying3 h0';obtain⟨b,e1,_,_⟩:=DataW.trod_int Try.underlying3 h1';obtain⟨lo,hlo⟩:=Zfo h2' hw2;obtain⟨ro,hro⟩:=Zfo h3' hw3;obtain⟨A,c,l,e4,hc,hs⟩:=ZeF (N - 1) (by omega) h4' hw4;injection e0 with e0;injection e1 with e1;injection e4 with e4;subst e0 e1 e4;refine⟨.mk a b lo ro l,?_⟩;unfold encPred Dat.Vals Dat.ValsAll;refine⟨[.int .i64 a],_,rfl,by unfold Dat.Vals;exact⟨rfl,trivial⟩,?_⟩;unfold Dat.ValsAll;refine⟨[.int .i64 b],_,rfl,by unfold Dat.Vals;exact⟨rfl,trivial⟩,?_⟩;unfold Dat.ValsAll;refine⟨[c2,c3,c4,c5,c6],_,rfl,hlo,?_⟩;unfold Dat.ValsAll;refine⟨[c7,c8,c9,c10,c11],_,rfl,hro,?_⟩;unfold Dat.ValsAll;refine⟨[.slice A l.length c],[],rfl,?_,?_⟩
   · unfold Dat.Vals;rw [ZbB];exact⟨A,c,by simp,by simpa using hc,hs⟩
   · unfold Dat.ValsAll;rfl) h hw
 termination_by N=>N
 decreasing_by omega
theorem raw_tab (h:DataW.trod enc Try.prog W 0 (fun _=>true) true fuel 39 cs=some x) (hw:∀ k ∈ x.1.weights Try.prog 39,k≤reachBytes):∃ t:Tab,Dat.Vals W (Lt W) (ZaJ t) cs:=by
 obtain⟨n,hl,hf⟩:=Zbw Try.underlying39 h hw;rw [show Try.prog.cellsOf 39=5 by kernel_rfl] at hl
 match cs,hl with
 | [c0,c1,c2,c3,c4],_ =>
  obtain⟨y0,h0,_,_⟩:=hf 0 _ rfl;obtain⟨y1,h1,hw1,_⟩:=hf 1 _ rfl;obtain⟨y2,h2,_,_⟩:=hf 2 _ rfl;obtain⟨y3,h3,hw3,_⟩:=hf 3 _ rfl;obtain⟨y4,h4,hw4,_⟩:=hf 4 _ rfl;have h0':DataW.trod enc Try.prog W 0 (fun _=>true) true n 9 [c0]=some y0:=h0;have h1':DataW.trod enc Try.prog W 0 (fun _=>true) true n 35 [c1]=some y1:=h1;have h2':DataW.trod enc Try.prog W 0 (fun _=>true) true n 3 [c2]=some y2:=h2;have h3':DataW.trod enc Try.prog W 0 (fun _=>true) true n 36 [c3]=some y3:=h3;have h4':DataW.trod enc Try.prog W 0 (fun _=>true) true n 37 [c4]=some y4:=h4;obtain⟨t,e0,_,ht⟩:=DataW.trod_string Try.underlying9 h0';obtain⟨A1,k1,l1,e1,q1,s1⟩:=ZbI (n:=2) (by_:=24) ZbV Try.underlying35 (by kernel_rfl) (by decide) (by kernel_rfl) ZcE (fun _=>rfl) (fun fuel cs y _ h hw=>raw_col h hw) h1' hw1;obtain⟨a,e2,_,_⟩:=DataW.trod_int Try.underlying3 h2';obtain⟨A3,k3,l3,e3,q3,s3⟩:=ZbI (n:=2) (by_:=32) Zdl Try.underlying36 (by kernel_rfl) (by decide) (by kernel_rfl) ZdJ (fun _=>rfl) (fun fuel cs y _ h hw=>raw_rfr h hw) h3' hw3;obtain⟨A4,k4,l4,e4,q4,s4⟩:=ZeF _ nR h4' hw4;injection e0 with e0;injection e1 with e1;injection e2 with e2;injection e3 with e3;injection e4 with e4;subst e0 e1 e2 e3 e4;unfold maxLen at ht;refine⟨⟨t,l1,a,l3,l4⟩,?_⟩;simp only [ZaJ,Dat.Vals,Dat.ValsAll,Zau,Zaq];exact⟨[.string t],_,rfl,⟨rfl,by omega⟩,[.slice A1 l1.length k1],_,rfl,⟨A1,k1,by simp,by simpa using q1,s1⟩,[.int .i64 a],_,rfl,⟨rfl,trivial⟩,[.slice A3 l3.length k3],_,rfl,⟨A3,k3,by simp,by simpa using q3,s3⟩,[.slice A4 l4.length k4],[],rfl,⟨A4,k4,by simp,by simpa using q4,s4⟩,rfl⟩
theorem raw_schema {base:Nat} {v:Value} (hv:Value.okWide Try.prog W .any base 25 v) (h:∃ fuel,DataW.trod enc Try.prog W 0 (fun _=>true) true fuel 25 v.cells.toList=some x) (hw:∀ k ∈ x.1.weights Try.prog 25,k≤reachBytes):∃ (s:Sch) (A:Option Addr) (c:Nat),v=sAgg s.version A s.tabs.length c∧TabS W (Lt W) A s.tabs:=by
 obtain⟨ca,rfl,hs⟩:=okWide_struct Try.underlying25 hv;obtain⟨fuel,hf⟩:=h;obtain⟨n,_,hf⟩:=Zbw Try.underlying25 hf hw;rw [show Try.prog.cellsOf 25=2 by kernel_rfl] at hs
 obtain⟨c0,c1,rfl⟩:∃ c0 c1,ca=#[c0,c1]:=by
  obtain⟨l⟩:=ca
  match l,hs with
  | [c0,c1],_=>exact⟨c0,c1,rfl⟩
 obtain⟨y0,h0,_,_⟩:=hf 0 _ rfl;obtain⟨y1,h1,hw1,_⟩:=hf 1 _ rfl;have h0':DataW.trod enc Try.prog W 0 (fun _=>true) true n 3 [c0]=some y0:=h0;have h1':DataW.trod enc Try.prog W 0 (fun _=>true) true n 23 [c1]=some y1:=h1;obtain⟨a,e0,_,_⟩:=DataW.trod_int Try.underlying3 h0';obtain⟨A1,k1,l1,e1,q1,s1⟩:=ZbI (n:=5) (by_:=96) ZaJ Try.underlying23 (by kernel_rfl) (by decide) (by kernel_rfl) ZbQ (fun _=>rfl) (fun fuel cs y _ h hw=>raw_tab h hw) h1' hw1;injection e0 with e0;injection e1 with e1;subst e0 e1;exact⟨⟨a,l1⟩,A1,k1,rfl,s1⟩
end
end Go.Proofs.Ytkpjjfhfbpfjpaa
