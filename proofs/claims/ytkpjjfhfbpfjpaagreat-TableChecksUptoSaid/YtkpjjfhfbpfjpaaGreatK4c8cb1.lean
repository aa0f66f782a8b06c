import Derived.Test.YtkpjjfhfbpfjpaaGreatK70ce45
import Derived.Deep.Cut
import Derived.Deep.CutRange
import Derived.Deep.DeepCutAuto
import Derived.Test.YtkpjjfhfbpfjpaaGreatKb0a16e
import Derived.Test.YtkpjjfhfbpfjpaaGreatKe65b81
import Derived.Test.YtkpjjfhfbpfjpaaGreatKa9f605
import Derived.Test.YtkpjjfhfbpfjpaaGreatK5ce3ae
import Derived.Test.YtkpjjfhfbpfjpaaGreatKbd4fc8
set_option linter.unusedVariables false
set_option linter.unusedSimpArgs false
set_option maxRecDepth 100000
set_option maxHeartbeats 8000000
namespace Go.Proofs.YtkpjjfhfbpfjpaaGreat
open Go.RowKit
theorem column_any (nm:ByteArray) (k:Int) (w:World):Calls Tryz.prog 40 #[.string nm,.int .i64 k] w (fun e w'=>e=.returned (.agg #[.string nm,.int .i64 k])∧w'=w.alloc (.cells #[.string nm,.int .i64 k] 84)):=by
 go_enter Tryz.func40,Tryz.ntmps40
 go_wp2
 exact bodyPost_ret (v:=.agg #[.string nm,.int .i64 k]) (by simp [results,Tryz.results40,go_sem]) rfl ⟨rfl,rfl⟩
theorem ZeH {w:World} {S:Nat→Prop} {c:Col} (h:c.name.size≤9223372036854775807):Dat.Vals w S (Zbk c) [.string c.name,.int .i64 c.kind]:=by
 simp only [Zbk,Dat.Vals,Dat.ValsAll,ZaD,Zay];exact⟨[.string c.name],_,rfl,⟨rfl,h⟩,[.int .i64 c.kind],[],rfl,⟨rfl,trivial⟩,rfl⟩
def Zfm:List Col→List Value
 | []=>[]
 | c :: l=>.string c.name :: .int .i64 c.kind :: Zfm l
theorem Zgh {w:World} {S:Nat→Prop}:∀ {l:List Col},(∀ c ∈ l,c.name.size≤9223372036854775807)→Dat.ValsAll w S (l.map Zbk) (Zfm l)
 | [],_=>by simp [Dat.ValsAll,Zfm]
 | c :: l,h=>by
  simp only [List.map_cons,Dat.ValsAll];exact⟨[.string c.name,.int .i64 c.kind],Zfm l,rfl,ZeH (h c (by simp)),Zgh (fun x hx=>h x (by simp [hx]))⟩
theorem Zdh {w:World} {S:Nat→Prop} {b:Nat} {l:List Col} {t:TypeId} (h:w.heap[b]?=some (.cells (Zfm l).toArray t (0,0))) (hS:S b) (hl:∀ c ∈ l,c.name.size≤9223372036854775807) (hn:l.length≤100):ColS w S (some ⟨b,0,none⟩) l :=
 Sl.of_vals (by rw [Zaf (n:=24) (fun _=>rfl)];omega) (Zgh hl) (fun _=>⟨b,0,rfl,hS,by have:=Zaa h;simpa using this⟩)
theorem ZcM {w:World} {S:Nat→Prop} {t:Tab} {A1 A2 A3:Option Addr} {c1 c2 c3:Nat} (h0:t.name.size≤9223372036854775807) (e1:t.cols.length≤c1) (h1:ColS w S A1 t.cols) (e2:t.refs.length≤c2) (h2:RfrS w S A2 t.refs) (e3:t.checks.length≤c3) (h3:PredS w S A3 t.checks) :
  Dat.Vals w S (ZaH t) [.string t.name,.slice A1 t.cols.length c1,.int .i64 t.key,.slice A2 t.refs.length c2,.slice A3 t.checks.length c3]:=by
 simp only [ZaH,Dat.Vals,Dat.ValsAll,ZaD,Zay,List.length_map];exact⟨[.string t.name],_,rfl,⟨rfl,h0⟩,[.slice A1 t.cols.length c1],_,rfl,⟨A1,c1,rfl,e1,h1⟩,[.int .i64 t.key],_,rfl,⟨rfl,trivial⟩,[.slice A2 t.refs.length c2],_,rfl,⟨A2,c2,rfl,e2,h2⟩,[.slice A3 t.checks.length c3],[],rfl,⟨A3,c3,rfl,e3,h3⟩,rfl⟩
theorem ZdF {w:World} {S:Nat→Prop} {t:Tab} {vs:List Value} (h:Dat.Vals w S (ZaH t) vs):∃ A1 A2 A3 c1 c2 c3,vs=[.string t.name,.slice A1 t.cols.length c1,.int .i64 t.key,.slice A2 t.refs.length c2,.slice A3 t.checks.length c3]∧t.name.size≤9223372036854775807∧t.cols.length≤c1∧ColS w S A1 t.cols∧t.refs.length≤c2∧RfrS w S A2 t.refs∧t.checks.length≤c3∧PredS w S A3 t.checks:=by
 simp only [ZaH,Dat.Vals,Dat.ValsAll,ZaD,Zay,List.length_map] at h;obtain⟨a1,b1,rfl,⟨rfl,h0⟩,a2,b2,rfl,⟨A1,c1,rfl,e1,h1⟩,a3,b3,rfl,⟨rfl,-⟩,a4,b4,rfl,⟨A2,c2,rfl,e2,h2⟩,a5,b5,rfl,⟨A3,c3,rfl,e3,h3⟩,rfl⟩:=h;exact⟨A1,A2,A3,c1,c2,c3,rfl,h0,e1,h1,e2,h2,e3,h3⟩
abbrev SD (w wr:World) (g TB:Nat):Nat→Prop:=fun b=>w.heap.size<b∧b<wr.heap.size∧b≠TB∧b≠TB+1∧b≠g
structure SchI (w wr:World) (g TB n:Nat) (v id:Int) (b1 b2 b3:Bool) (chk:List Pred):Prop where
 tb:∃ vs:List Value,wr.heap[TB]?=some (.cells vs.toArray 72 (0,0))∧Dat.ValsAll wr (SD w wr g TB) ((Zau id (rf0 b1 1 0) (rf0 b2 0 0) (rf0 b3 0 1) chk).map ZaH) vs
 sb:wr.heap[TB+1]?=some (.cells #[.int .i64 v,.slice (some ⟨TB,0,none⟩) n 4] 28 (0,0))
 rb:wr.heap[w.heap.size]?=some (.cells #[.int .i64 0,.slice none 0 0] 28 (0,0))
 case:CaseOk wr g
 gr:w.grownBy wr (some g)
 lo:w.heap.size<TB
 gl:g<w.heap.size
section
variable {w wr wx:World} {g TB n:Nat} {v id:Int} {b1 b2 b3:Bool} {chk:List Pred}
theorem SchI.keep (h:SchI w wr g TB n v id b1 b2 b3 chk) (hg:wr.grownBy wx (some g)) (hc:CaseOk wx g):SchI w wx g TB n v id b1 b2 b3 chk:=by
 obtain⟨vs,h1,h2⟩:=h.tb;have hlo:=h.lo;have hgl:=h.gl;have hs:=hg.size;have hb:∀ b,b<wr.heap.size→b≠g→wx.heap[b]?=wr.heap[b]?:=fun b hb hne=>hg.block b hb (fun e=>hne (by injection e));have l1:=Zac h1;have l2:=Zac h.sb;have l3:=Zac h.rb;exact⟨⟨vs,(hb _ l1 (by omega)).trans h1,Dat.ValsAll.more (fun b hb=>⟨hb.1,by have:=hb.2.1;omega,hb.2.2⟩) _ _ (Dat.ValsAll.keep (fun b hb'=>hb b hb'.2.1 hb'.2.2.2.2) _ _ h2)⟩,(hb _ l2 (by omega)).trans h.sb,(hb _ l3 (by omega)).trans h.rb,hc,h.gr.trans hg,hlo,hgl⟩
theorem SchI.below (h:SchI w wr g TB n v id b1 b2 b3 chk) (hb:Below wr.heap.size wr wx):SchI w wx g TB n v id b1 b2 b3 chk :=
 h.keep (Fr.of_below (X:=fun b=>b=g) hb).grown (h.case.keep (fun b hb'=>hb.block b (by have:=h.case.lt;omega)))
end
def Zhz (v idk:Int) (nn n:Nat):List Obj:=[
 .cells #[.string nId,.int .i64 4] 84 (0,0),
 .cells #[.string Zht,.int .i64 4] 84 (0,0),
 .cells #[.string nId,.int .i64 4,.string Zht,.int .i64 4] 84 (0,0),
 .cells #[.string nId,.int .i64 idk] 84 (0,0),
 .cells #[.string nProject,.int .i64 4] 84 (0,0),
 .cells #[.string nTitle,.int .i64 5] 84 (0,0),
 .cells #[.string nDone,.int .i64 3] 84 (0,0),
 .cells #[.string nId,.int .i64 idk,.string nProject,.int .i64 4,.string nTitle,.int .i64 5,.string nDone,.int .i64 3] 84 (0,0),
 .cells #[.string nProject,.int .i64 4] 84 (0,0),
 .cells #[.string ZgH,.int .i64 4] 84 (0,0),
 .cells #[.string nProject,.int .i64 4,.string ZgH,.int .i64 4] 84 (0,0),
 .cells #[.string nTask,.int .i64 idk] 84 (0,0),
 .cells #[.string nTask,.int .i64 idk] 84 (0,0),
 .cells #[.string nProjects,.slice (some ⟨n+2,0,none⟩) 2 2,.int .i64 1,.slice none 0 0,.slice none 0 0,.string nTasks,.slice (some ⟨n+7,0,none⟩) 4 4,.int .i64 1,.slice none 0 0,.slice none 0 0,.string nMembers,.slice (some ⟨n+10,0,none⟩) 2 2,.int .i64 2,.slice none 0 0,.slice none 0 0,.string nArchived,.slice (some ⟨n+12,0,none⟩) 1 1,.int .i64 1,.slice none 0 0,.slice none 0 0] 72 (0,0),
 .cells #[.int .i64 v,.slice (some ⟨n+13,0,none⟩) nn 4] 28 (0,0)]
theorem ZfS {w:World} {S:Nat→Prop} {nm:ByteArray} {cols:List Col} {key:Int} {R R':List Rfr} {ck:List Pred} {vs:List Value} {A:Option Addr} {c:Nat} (h:Dat.Vals w S (ZaH ⟨nm,cols,key,R,ck⟩) vs) (hc:R'.length≤c) (hr:RfrS w S A R'):Dat.Vals w S (ZaH ⟨nm,cols,key,R',ck⟩) (vs.set 3 (.slice A R'.length c)):=by
 obtain⟨A1,A2,A3,c1,c2,c3,rfl,h0,e1,h1,e2,h2,e3,h3⟩:=ZdF h;exact ZcM (t:=⟨nm,cols,key,R',ck⟩) h0 e1 h1 hc hr e3 h3
theorem tab_chks {w:World} {S:Nat→Prop} {nm:ByteArray} {cols:List Col} {key:Int} {R:List Rfr} {ck ck':List Pred} {vs:List Value} {A:Option Addr} {c:Nat} (h:Dat.Vals w S (ZaH ⟨nm,cols,key,R,ck⟩) vs) (hc:ck'.length≤c) (hr:PredS w S A ck'):Dat.Vals w S (ZaH ⟨nm,cols,key,R,ck'⟩) (vs.set 4 (.slice A ck'.length c)):=by
 obtain⟨A1,A2,A3,c1,c2,c3,rfl,h0,e1,h1,e2,h2,e3,h3⟩:=ZdF h;exact ZcM (t:=⟨nm,cols,key,R,ck'⟩) h0 e1 h1 e2 h2 hc hr
theorem ZdQ {w:World} {S:Nat→Prop} {id:Int} {R1 R2 R3:List Rfr} {ck:List Pred} {vs:List Value} (h:Dat.ValsAll w S ((Zau id R1 R2 R3 ck).map ZaH) vs):∃ v0 v1 v2 v3,vs=v0++(v1++(v2++v3))∧v0.length=5∧v1.length=5∧v2.length=5∧v3.length=5∧Dat.Vals w S (ZaH ⟨nProjects,Zey,1,[],[]⟩) v0∧Dat.Vals w S (ZaH ⟨nTasks,ZcI id,1,R1,ck⟩) v1∧Dat.Vals w S (ZaH ⟨nMembers,ZcY,2,R2,[]⟩) v2∧Dat.Vals w S (ZaH ⟨nArchived,ZcR id,1,R3,[]⟩) v3:=by
 simp only [Zau,List.map_cons,List.map_nil,Dat.ValsAll] at h;obtain⟨v0,x,rfl,h0,v1,y,rfl,h1,v2,z,rfl,h2,v3,u,rfl,h3,rfl⟩:=h;exact⟨v0,v1,v2,v3,by simp,Dat.Vals.len _ _ h0,Dat.Vals.len _ _ h1,Dat.Vals.len _ _ h2,Dat.Vals.len _ _ h3,h0,h1,h2,h3⟩
theorem ZeK {w:World} {S:Nat→Prop} {id:Int} {R1 R2 R3:List Rfr} {ck:List Pred} {v0 v1 v2 v3:List Value} (h0:Dat.Vals w S (ZaH ⟨nProjects,Zey,1,[],[]⟩) v0) (h1:Dat.Vals w S (ZaH ⟨nTasks,ZcI id,1,R1,ck⟩) v1) (h2:Dat.Vals w S (ZaH ⟨nMembers,ZcY,2,R2,[]⟩) v2) (h3:Dat.Vals w S (ZaH ⟨nArchived,ZcR id,1,R3,[]⟩) v3):Dat.ValsAll w S ((Zau id R1 R2 R3 ck).map ZaH) (v0++(v1++(v2++v3))):=by
 simp only [Zau,List.map_cons,List.map_nil,Dat.ValsAll];exact⟨v0,_,rfl,h0,v1,_,rfl,h1,v2,_,rfl,h2,v3,[],by simp,h3,rfl⟩
theorem SchI.set {w wr:World} {g TB n k:Nat} {v id:Int} {b1 b2 b3 b1' b2' b3':Bool} {chk chk':List Pred} {x:Value} (h:SchI w wr g TB n v id b1 b2 b3 chk) (hs:∀ vs,Dat.ValsAll wr (SD w wr g TB) ((Zau id (rf0 b1 1 0) (rf0 b2 0 0) (rf0 b3 0 1) chk).map ZaH) vs→Dat.ValsAll wr (SD w wr g TB) ((Zau id (rf0 b1' 1 0) (rf0 b2' 0 0) (rf0 b3' 0 1) chk').map ZaH) (vs.set k x)) :
  SchI w (wr.setCell ⟨TB,k,none⟩ x) g TB n v id b1' b2' b3' chk':=by
 obtain⟨vs,h1,h2⟩:=h.tb;have hlo:=h.lo;have hgl:=h.gl;have hne:∀ b,b≠TB→(wr.setCell ⟨TB,k,none⟩ x).heap[b]?=wr.heap[b]?:=fun b hb=>Below.heap_setCell wr ⟨TB,k,none⟩ x b hb;refine⟨⟨vs.set k x,Zae h1,Dat.ValsAll.more (fun b hb=>⟨hb.1,by have:=hb.2.1;simpa using this,hb.2.2⟩) _ _ (Dat.ValsAll.keep (fun b hb=>hne b hb.2.2.1) _ _ (hs vs h2))⟩,(hne _ (by omega)).trans h.sb,(hne _ (by omega)).trans h.rb,h.case.keep (fun b hb=>hne b (by omega)),?_,hlo,hgl⟩;exact Zad h.gr (by omega)
theorem SchI.ref1 {w wr:World} {g TB n c:Nat} {v id:Int} {b2 b3:Bool} {chk:List Pred} {A:Option Addr} (h:SchI w wr g TB n v id false b2 b3 chk) (hc:1≤c) (hr:RfrS wr (SD w wr g TB) A [⟨[1],0⟩]):SchI w (wr.setCell ⟨TB,8,none⟩ (.slice A 1 c)) g TB n v id true b2 b3 chk :=
 h.set (fun vs hv=>by
  obtain⟨v0,v1,v2,v3,rfl,l0,l1,l2,l3,h0,h1,h2,h3⟩:=ZdQ hv;have e:(v0++(v1++(v2++v3))).set 8 (.slice A 1 c)=v0++(v1.set 3 (.slice A 1 c)++(v2++v3)):=(by rw [List.set_append,if_neg (by omega),List.set_append,if_pos (by omega),l0]);rw [e];exact ZeK h0 (ZfS (R':=[⟨[1],0⟩]) h1 hc hr) h2 h3)
theorem SchI.chk1 {w wr:World} {g TB n c:Nat} {v id:Int} {b1 b2 b3:Bool} {chk:List Pred} {p:Pred} {A:Option Addr} (h:SchI w wr g TB n v id b1 b2 b3 chk) (hc:1≤c) (hr:PredS wr (SD w wr g TB) A [p]):SchI w (wr.setCell ⟨TB,9,none⟩ (.slice A 1 c)) g TB n v id b1 b2 b3 [p] :=
 h.set (fun vs hv=>by
  obtain⟨v0,v1,v2,v3,rfl,l0,l1,l2,l3,h0,h1,h2,h3⟩:=ZdQ hv;have e:(v0++(v1++(v2++v3))).set 9 (.slice A 1 c)=v0++(v1.set 4 (.slice A 1 c)++(v2++v3)):=(by rw [List.set_append,if_neg (by omega),List.set_append,if_pos (by omega),l0]);rw [e];exact ZeK h0 (tab_chks (ck':=[p]) h1 hc hr) h2 h3)
theorem SchI.ref2 {w wr:World} {g TB n c:Nat} {v id:Int} {b1 b3:Bool} {chk:List Pred} {A:Option Addr} (h:SchI w wr g TB n v id b1 false b3 chk) (hc:1≤c) (hr:RfrS wr (SD w wr g TB) A [⟨[0],0⟩]):SchI w (wr.setCell ⟨TB,13,none⟩ (.slice A 1 c)) g TB n v id b1 true b3 chk :=
 h.set (fun vs hv=>by
  obtain⟨v0,v1,v2,v3,rfl,l0,l1,l2,l3,h0,h1,h2,h3⟩:=ZdQ hv;have e:(v0++(v1++(v2++v3))).set 13 (.slice A 1 c)=v0++(v1++(v2.set 3 (.slice A 1 c)++v3)):=(by rw [List.set_append,if_neg (by omega),List.set_append,if_neg (by omega),List.set_append,if_pos (by omega),l0,l1]);rw [e];exact ZeK h0 h1 (ZfS (R':=[⟨[0],0⟩]) h2 hc hr) h3)
theorem SchI.ref3 {w wr:World} {g TB n c:Nat} {v id:Int} {b1 b2:Bool} {chk:List Pred} {A:Option Addr} (h:SchI w wr g TB n v id b1 b2 false chk) (hc:1≤c) (hr:RfrS wr (SD w wr g TB) A [⟨[0],1⟩]):SchI w (wr.setCell ⟨TB,18,none⟩ (.slice A 1 c)) g TB n v id b1 b2 true chk :=
 h.set (fun vs hv=>by
  obtain⟨v0,v1,v2,v3,rfl,l0,l1,l2,l3,h0,h1,h2,h3⟩:=ZdQ hv;have e:(v0++(v1++(v2++v3))).set 18 (.slice A 1 c)=v0++(v1++(v2++v3.set 3 (.slice A 1 c))):=(by rw [List.set_append,if_neg (by omega),List.set_append,if_neg (by omega),List.set_append,if_neg (by omega),l0,l1,l2]);rw [e];exact ZeK h0 h1 h2 (ZfS (R':=[⟨[0],1⟩]) h3 hc hr))
theorem ZgG {w wr:World} {g TB:Nat} {x t:Int} (h1:w.heap.size<wr.heap.size) (h2:TB+1<wr.heap.size) (h3:g<w.heap.size) :
  RfrS ((wr.alloc (.cells #[.int .i64 x] 3)).alloc (.cells #[.slice (some ⟨wr.heap.size,0,none⟩) 1 1,.int .i64 t] 87)) (SD w ((wr.alloc (.cells #[.int .i64 x] 3)).alloc (.cells #[.slice (some ⟨wr.heap.size,0,none⟩) 1 1,.int .i64 t] 87)) g TB) (some ⟨wr.heap.size+1,0,none⟩) [⟨[x],t⟩]:=by
 have hb1:=(Below.heap_alloc (wr.alloc (.cells #[.int .i64 x] 3)) (.cells #[.slice (some ⟨wr.heap.size,0,none⟩) 1 1,.int .i64 t] 87) wr.heap.size (by simp)).trans (heap_alloc_new wr (.cells #[.int .i64 x] 3));have hb2:=heap_alloc_new (wr.alloc (.cells #[.int .i64 x] 3)) (.cells #[.slice (some ⟨wr.heap.size,0,none⟩) 1 1,.int .i64 t] 87);rw [World.size_alloc] at hb2
 have hi:IntS ((wr.alloc (.cells #[.int .i64 x] 3)).alloc (.cells #[.slice (some ⟨wr.heap.size,0,none⟩) 1 1,.int .i64 t] 87)) (SD w ((wr.alloc (.cells #[.int .i64 x] 3)).alloc (.cells #[.slice (some ⟨wr.heap.size,0,none⟩) 1 1,.int .i64 t] 87)) g TB) (some ⟨wr.heap.size,0,none⟩) [x] :=
  Sl.of_vals (by rw [Zaf (n:=8) (fun _=>rfl)];simp) (Zat (show Dat.Vals _ _ (ZcS x) [.int .i64 x] by simp [ZcS,Dat.Vals])) (fun _=>⟨wr.heap.size,0,rfl,⟨by omega,by simp;omega,by omega,by omega,by omega⟩,Zaa hb1⟩)
 refine Sl.of_vals (by rw [Zaf (n:=32) (fun _=>rfl)];simp) (Zat (vs:=[.slice (some ⟨wr.heap.size,0,none⟩) 1 1,.int .i64 t]) ?_) (fun _=>⟨wr.heap.size+1,0,rfl,⟨by omega,by simp,by omega,by omega,by omega⟩,Zaa hb2⟩);simp only [ZbG,Dat.Vals,Dat.ValsAll,ZaD];exact⟨[.slice (some ⟨wr.heap.size,0,none⟩) 1 1],_,rfl,⟨_,1,rfl,by simp,hi⟩,[.int .i64 t],[],rfl,⟨rfl,trivial⟩,rfl⟩
theorem SchI.tabS {w wr:World} {g TB n:Nat} {v id:Int} {b1 b2 b3:Bool} {chk:List Pred} (h:SchI w wr g TB n v id b1 b2 b3 chk) (hn:n≤4):TabS wr (fun b=>w.heap.size<b∧b<wr.heap.size∧b≠TB+1) (some ⟨TB,0,none⟩) ((Zau id (rf0 b1 1 0) (rf0 b2 0 0) (rf0 b3 0 1) chk).take n):=by
 obtain⟨vs,h1,h2⟩:=h.tb;have h3:=(ZaW (n:=5) ZbI h2 n hn).1;have hlo:=h.lo;refine Sl.of_vals (by rw [Zaf (n:=96) (fun _=>rfl),List.length_take];have:(Zau id (rf0 b1 1 0) (rf0 b2 0 0) (rf0 b3 0 1) chk).length=4:=rfl;omega) (Dat.ValsAll.more (fun b hb=>⟨hb.1,hb.2.1,hb.2.2.2.1⟩) _ _ h3) (fun _=>⟨TB,0,rfl,⟨hlo,Zac h1,by omega⟩,fun j u hu=>?_⟩);have:=Zaa h1 j u (by simpa using getElem?_of_take hu);exact this
theorem schI_start {w w3 W:World} {g n:Nat} {v idk:Int} (hz:w3.heap.size=w.heap.size+1) (hgl:g<w.heap.size) (hW:(Zhz v idk n w3.heap.size).foldl World.alloc w3=W) (hc:CaseOk w3 g) (hg:w.grownBy w3 (some g)) (hr:w3.heap[w.heap.size]?=some (.cells #[.int .i64 0,.slice none 0 0] 28 (0,0))) :
  SchI w W g (w3.heap.size+13) n v idk false false false []∧W.heap.size=w3.heap.size+15:=by
 obtain⟨hB,hs⟩:=Zdc (Zhz v idk n w3.heap.size) w3;have hk:∀ k (hk:k<15),W.heap[w3.heap.size+k]?=(Zhz v idk n w3.heap.size)[k]?:=(fun k hk=>by rw [←hW];exact Zfr _ _ _ hk);rw [hW] at hB hs;have hs':W.heap.size=w3.heap.size+15:=hs;have hD:∀ k,k<13→SD w W g (w3.heap.size+13) (w3.heap.size+k):=fun k h=>⟨by omega,by omega,by omega,by omega,by omega⟩;have n1:∀ l:List Col,(∀ c ∈ l,c.name.size≤100)→∀ c ∈ l,c.name.size≤9223372036854775807:=(fun l h c hc=>by have:=h c hc;omega);have k1:ColS W (SD w W g (w3.heap.size+13)) (some ⟨w3.heap.size+2,0,none⟩) Zey:=Zdh (l:=Zey) (hk 2 (by omega)) (hD 2 (by omega)) (n1 _ (by decide)) (by decide);have k2:ColS W (SD w W g (w3.heap.size+13)) (some ⟨w3.heap.size+7,0,none⟩) (ZcI idk):=Zdh (l:=ZcI idk) (hk 7 (by omega)) (hD 7 (by omega)) (n1 _ (by intro c hc;simp only [ZcI,List.mem_cons,List.not_mem_nil,or_false] at hc;rcases hc with rfl | rfl | rfl | rfl<;>first | (show nId.size≤100;decide) | (show nProject.size≤100;decide) | (show nTitle.size≤100;decide) | (show nDone.size≤100;decide))) (by show 4≤100;omega);have k3:ColS W (SD w W g (w3.heap.size+13)) (some ⟨w3.heap.size+10,0,none⟩) ZcY:=Zdh (l:=ZcY) (hk 10 (by omega)) (hD 10 (by omega)) (n1 _ (by decide)) (by decide);have k4:ColS W (SD w W g (w3.heap.size+13)) (some ⟨w3.heap.size+12,0,none⟩) (ZcR idk):=Zdh (l:=ZcR idk) (hk 12 (by omega)) (hD 12 (by omega)) (n1 _ (by intro c hc;simp only [ZcR,List.mem_cons,List.not_mem_nil,or_false] at hc;rcases hc with rfl;show nTask.size≤100;decide)) (by show 1≤100;omega);refine⟨⟨⟨_,hk 13 (by omega),?_⟩,hk 14 (by omega),?_,?_,?_,by omega,hgl⟩,hs'⟩
 · show Dat.ValsAll W (SD w W g (w3.heap.size+13)) _ ([.string nProjects,.slice (some ⟨w3.heap.size+2,0,none⟩) 2 2,.int .i64 1,.slice none 0 0,.slice none 0 0]++([.string nTasks,.slice (some ⟨w3.heap.size+7,0,none⟩) 4 4,.int .i64 1,.slice none 0 0,.slice none 0 0]++([.string nMembers,.slice (some ⟨w3.heap.size+10,0,none⟩) 2 2,.int .i64 2,.slice none 0 0,.slice none 0 0]++([.string nArchived,.slice (some ⟨w3.heap.size+12,0,none⟩) 1 1,.int .i64 1,.slice none 0 0,.slice none 0 0]++[]))));simp only [Zau,List.map_cons,List.map_nil,Dat.ValsAll]
   exact⟨_,_,rfl,ZcM (t:=⟨nProjects,Zey,1,[],[]⟩) (by show nProjects.size≤_;decide) nR k1 nR Sl.nil_ nR Sl.nil_,
    _,_,rfl,ZcM (t:=⟨nTasks,ZcI idk,1,[],[]⟩) (by show nTasks.size≤_;decide) nR k2 nR Sl.nil_ nR Sl.nil_,
    _,_,rfl,ZcM (t:=⟨nMembers,ZcY,2,[],[]⟩) (by show nMembers.size≤_;decide) nR k3 nR Sl.nil_ nR Sl.nil_,
    _,_,rfl,ZcM (t:=⟨nArchived,ZcR idk,1,[],[]⟩) (by show nArchived.size≤_;decide) nR k4 nR Sl.nil_ nR Sl.nil_,rfl⟩
 · exact(hB.block _ (by omega)).trans hr
 · exact hc.keep (fun b hb=>hB.block b (by omega))
 · exact hg.trans (Fr.of_below (X:=fun b=>b=g) hB).grown
theorem SchI.cell {w wr:World} {g TB n k:Nat} {v id:Int} {b1 b2 b3:Bool} {chk:List Pred} (h:SchI w wr g TB n v id b1 b2 b3 chk) (hk:k<20):(∃ x,wr.cell? ⟨TB,k,none⟩=some x)∧wr.frozen? ⟨TB,k,none⟩=false:=by
 obtain⟨vs,h1,h2⟩:=h.tb;have hl:vs.length=20:=(by rw [Dat.ValsAll.len _ _ h2,Zbl (n:=5) ZbI];rfl);refine⟨⟨vs[k],?_⟩,by simp [World.frozen?,h1]⟩;have:=Zaa h1 k vs[k] (by simp);rw [Nat.zero_add] at this;exact this
theorem Fr.frozenF {X:Nat→Prop} {w w':World} (h:Fr X w w') {b o:Nat} (hb:b<w.heap.size) (hx:¬ X b):w'.frozen? ⟨b,o,none⟩=w.frozen? ⟨b,o,none⟩:=World.frozen?_of_block (h.block b hb hx)
theorem Zgp {key m:Int} {ks:List Int} {r:Row} (h:Zhh key m ks r) (hl:ks.length≤1000000):RowOk r:=by
 refine⟨by rw [h.1];omega,fun v hv=>?_⟩;obtain⟨i,hi,rfl⟩:=List.getElem_of_mem hv;have h1:=h.2 i (by rw [←h.1];exact hi);rw [Zfc hi] at h1;unfold ZaB at h1;simp only [Bool.and_eq_true] at h1;have:=ZcT h1.1;omega
theorem ZeU {s:Sch} {t:Int} {r:Row} (h:RowOk r):RowOk (keyF s t r):=by
 unfold keyF;split
 · exact⟨by rw [List.length_take];have:=h.1;omega,fun v hv=>h.2 v (List.mem_of_mem_take hv)⟩
 · exact⟨by simp,fun v hv=>by simp at hv⟩
structure StI (w wr:World) (g:Nat) (S:Nat→Prop) (s:Sch) (A0:Option Addr) (c0':Nat) (m:Int) (cur:St):Prop where
 stc:StC wr (fun b=>S b∨(w.heap.size+4≤b∧b<wr.heap.size)) (w.heap.size+2) cur
 ok:StOk s m cur
 b0:wr.cell? ⟨w.heap.size,0,none⟩=some (.int .i64 s.version)
 b1:wr.cell? ⟨w.heap.size,1,none⟩=some (.slice A0 s.tabs.length c0')
 r0:wr.cell? ⟨w.heap.size+1,0,none⟩=some (.slice none 0 0)
 rf:wr.frozen? ⟨w.heap.size+1,0,none⟩=false
 t0:wr.cell? ⟨w.heap.size+3,0,none⟩=some (.slice (some ⟨w.heap.size+2,0,none⟩) s.tabs.length s.tabs.length)
 tf:wr.frozen? ⟨w.heap.size+3,0,none⟩=false
 case:CaseOk wr g
 gr:w.grownBy wr (some g)
 sz:w.heap.size+4≤wr.heap.size
section
variable {w wr wx wp:World} {g:Nat} {S:Nat→Prop} {s:Sch} {A0:Option Addr} {c0':Nat} {m:Int} {cur cur':St}
theorem StI.keep (h:StI w wr g S s A0 c0' m cur) (hf:Fr (fun b=>b=g) wr wx) (hc:CaseOk wx g) (hgl:g<w.heap.size) (hS:∀ b,S b→b<w.heap.size∧b≠g):StI w wx g S s A0 c0' m cur:=by
 have hz:=h.sz;have hzx:=hf.size;refine⟨(h.stc.fr hf (fun b hb hl=>⟨fun hb'=>?_,by omega⟩)).more (fun b hb=>hb.imp id (fun hb=>⟨hb.1,by have:=hb.2;omega⟩)) (fun b hb=>?_),h.ok,(hf.cell (by omega) (by omega)).trans h.b0,(hf.cell (by omega) (by omega)).trans h.b1,(hf.cell (by omega) (by omega)).trans h.r0,(hf.frozenF (by omega) (by omega)).trans h.rf,(hf.cell (by omega) (by omega)).trans h.t0,(hf.frozenF (by omega) (by omega)).trans h.tf,hc,h.gr.trans hf.grown,by omega⟩
 · rcases hb' with hb' | hb'
   · exact(hS b hb').2 hb
   · omega
 · rcases hb with hb | hb
   · have:=hS b hb;omega
   · exact⟨hb.2,by have:=hb.1;omega⟩
theorem StI.put (h:StI w wr g S s A0 c0' m cur) (hgl:g<w.heap.size) (hS:∀ b,S b→b<w.heap.size∧b≠g) (hb:Below wr.heap.size wr wx) (hst:StC wp (fun b=>(S b∨(w.heap.size+4≤b∧b<wx.heap.size))∨New wx wp b) (w.heap.size+2) cur') (hf:Fr (fun b=>b=w.heap.size+2) wx wp) (hok:StOk s m cur') :
  StI w (wp.setCell ⟨w.heap.size+3,0,none⟩ (.slice (some ⟨w.heap.size+2,0,none⟩) s.tabs.length s.tabs.length)) g S s A0 c0' m cur':=by
 have hz:=h.sz;have hzx:=hb.size;have hzp:=hf.size;have hne:∀ b,b≠w.heap.size+3→(wp.setCell ⟨w.heap.size+3,0,none⟩ (.slice (some ⟨w.heap.size+2,0,none⟩) s.tabs.length s.tabs.length)).heap[b]?=wp.heap[b]?:=fun b hb=>Below.heap_setCell wp ⟨w.heap.size+3,0,none⟩ _ b hb;have hblk:∀ b,b<wr.heap.size→b≠w.heap.size+2→wp.heap[b]?=wr.heap[b]?:=fun b h1 h2=>(hf.block b (by omega) h2).trans (hb.block b h1);have hall:∀ b,b<wr.heap.size→b≠w.heap.size+2→b≠w.heap.size+3→(wp.setCell ⟨w.heap.size+3,0,none⟩ (.slice (some ⟨w.heap.size+2,0,none⟩) s.tabs.length s.tabs.length)).heap[b]?=wr.heap[b]?:=fun b h1 h2 h3=>(hne b h3).trans (hblk b h1 h2)
 have hnew:∀ b,((S b∨(w.heap.size+4≤b∧b<wx.heap.size))∨New wx wp b)→S b∨(w.heap.size+4≤b∧b<wp.heap.size):=fun b hb'=>by
  rcases hb' with (hb' | hb') | hb'
  · exact .inl hb'
  · exact .inr ⟨hb'.1,by have:=hb'.2;omega⟩
  · exact .inr ⟨by have h9:wx.heap.size≤b:=hb'.1;omega,hb'.2⟩
 have hlow:∀ b,(S b∨(w.heap.size+4≤b∧b<wp.heap.size))→b<wp.heap.size∧b≠w.heap.size+2:=fun b hb'=>by
  rcases hb' with hb' | hb'
  · have:=hS b hb';omega
  · exact⟨hb'.2,by have:=hb'.1;omega⟩
 have hst1:=hst.more (S':=fun b=>S b∨(w.heap.size+4≤b∧b<wp.heap.size)) hnew hlow;have hfg:Fr (fun b=>b=g) wr (wp.setCell ⟨w.heap.size+3,0,none⟩ (.slice (some ⟨w.heap.size+2,0,none⟩) s.tabs.length s.tabs.length))→True:=fun _=>trivial;refine⟨(hst1.keep (by simp) (fun b hb'=>hne b ?_) (hne (w.heap.size+2) (by omega))).more (fun b hb'=>hb'.imp id (fun hb'=>⟨hb'.1,by have:=hb'.2;simpa using this⟩)) (fun b hb'=>?_),hok,?_,?_,?_,?_,?_,?_,?_,?_,by simp;omega⟩
 · rcases hb' with hb' | hb'
   · have:=hS b hb';omega
   · have:=hb'.1;omega
 · have:=hlow b (by simpa using hb');simpa using this
 · exact(World.cell?_of_block (hall (w.heap.size) (by omega) (by omega) (by omega))).trans h.b0
 · exact(World.cell?_of_block (hall (w.heap.size) (by omega) (by omega) (by omega))).trans h.b1
 · exact(World.cell?_of_block (hall (w.heap.size+1) (by omega) (by omega) (by omega))).trans h.r0
 · exact(World.frozen?_of_block (hall (w.heap.size+1) (by omega) (by omega) (by omega))).trans h.rf
 · exact World.cell?_setCell_same _ _ _ ((World.cell?_of_block (hblk (w.heap.size+3) (by omega) (by omega))).trans h.t0)
 · rw [World.frozen?_setCell];exact(World.frozen?_of_block (hblk (w.heap.size+3) (by omega) (by omega))).trans h.tf
 · exact h.case.keep (fun b hb'=>hall b (by omega) (by omega) (by omega))
 · have h1:=h.gr;refine⟨?_,?_,?_,by simp;omega,fun b hb1 hb2=>(hall b (by omega) (by omega) (by omega)).trans (h1.block b hb1 hb2)⟩
   · exact hf.os.trans (hb.os.trans h1.os)
   · exact hf.tape.trans (hb.tape.trans h1.tape)
   · exact hf.output.trans (hb.output.trans h1.output)
end
def CntOk (cur:St) (t nn:Nat):Prop:=(∀ j,(cur.getD j []).length≤4)∧(cur.getD t []).length+nn≤4∧∀ j,t<j→cur.getD j []=[]
theorem CntOk.put {cur:St} {t nn:Nat} {P:List Row} (h:CntOk cur t (nn+1)) (ht:t<cur.length) (hP:P.length≤(cur.getD t []).length+1):CntOk (cur.set t P) t nn:=by
 have e1:(cur.set t P).getD t []=P:=(by simp [List.getD,ht]);have e2:∀ j,j≠t→(cur.set t P).getD j []=cur.getD j []:=(fun j hj=>by simp [List.getD,List.getElem?_set_ne (Ne.symm hj)]);refine⟨fun j=>?_,?_,fun j hj=>?_⟩
 · by_cases hj:j=t
   · rw [hj,e1];have:=h.2.1;omega
   · rw [e2 j hj];exact h.1 j
 · rw [e1];have:=h.2.1;omega
 · rw [e2 j (by omega)];exact h.2.2 j hj
theorem ZgZ (n j:Nat):(List.replicate n ([]:List Row)).getD j []=[]:=by
 by_cases h:j<n<;>simp [List.getD,h]
def StatePost (s:Sch) (m:Int) (S:Nat→Prop) (w:World) (g:Nat) (e:Ending) (w':World):Prop:=∃ (gt:Nat) (st:St),e=.returned (ZbE (some ⟨gt,0,none⟩) st.length st.length)∧StOk s m st∧(∀ j,(st.getD j []).length≤4)∧w.heap.size≤gt∧StC w' (fun b=>S b∨(gt<b∧b<w'.heap.size)) gt st∧CaseOk w' g∧w.grownBy w' (some g)
theorem state_any (g:Nat) (A0:Option Addr) (c0':Nat) (s:Sch) (m:Int) (S:Nat→Prop) (w:World) (hs:TabS w S A0 s.tabs) (hS:∀ b,S b→b<w.heap.size∧b≠g) (hgs:GenS s) (hm:Zbu m=true) (hc:CaseOk w g) :
  Calls Tryz.prog 12 #[.pointer (some ⟨g,0,none⟩),sAgg s.version A0 s.tabs.length c0',.int .i64 m] w (StatePost s m S w g):=by
 have hgl:=hc.lt;have hsl:=hgs.len;have HS:=hI hs;have HSG:=hI hS;have HGS:=hI hgs;have HC:=hI hc;have HM:=hI hm;clear hs hgs hc hm;have hmk:∀ w:World,(Instr.makeSlice 31 (.int .i64 (s.tabs.length:Int)) (.int .i64 (s.tabs.length:Int))).run Tryz.prog w=.ok (.slice (some ⟨w.heap.size,0,none⟩) s.tabs.length s.tabs.length) (w.alloc (.cells (Zas s.tabs.length).toArray 73)):=fun w=>Zcf s.tabs.length (by omega) w;go_enter Tryz.func12,Tryz.ntmps12
 go_wp2_with fail
 clear hmk;rw [show w.heap.size+1+1+1=w.heap.size+3 from rfl,show w.heap.size+1+1=w.heap.size+2 from rfl];obtain⟨W,hW⟩:∃ W,(((w.alloc (.cells #[.int .i64 s.version,.slice A0 s.tabs.length c0'] 28)).alloc (.cells #[.slice none 0 0] 33)).alloc (.cells (Zas s.tabs.length).toArray 73)).alloc (.cells #[.slice (some ⟨w.heap.size+2,0,none⟩) s.tabs.length s.tabs.length] 33)=W:=⟨_,rfl⟩
 have HI0:=hI (show StI w W g S s A0 c0' m (List.replicate s.tabs.length []) from by
  subst hW;have hb:Below w.heap.size w ((((w.alloc (.cells #[.int .i64 s.version,.slice A0 s.tabs.length c0'] 28)).alloc (.cells #[.slice none 0 0] 33)).alloc (.cells (Zas s.tabs.length).toArray 73)).alloc (.cells #[.slice (some ⟨w.heap.size+2,0,none⟩) s.tabs.length s.tabs.length] 33)):=((((Below.refl w.heap.size w).alloc nR _).alloc (by simp) _).alloc (by simp;omega) _).alloc (by simp;omega) _
  have hg:(((((w.alloc (.cells #[.int .i64 s.version,.slice A0 s.tabs.length c0'] 28)).alloc (.cells #[.slice none 0 0] 33)).alloc (.cells (Zas s.tabs.length).toArray 73)).alloc (.cells #[.slice (some ⟨w.heap.size+2,0,none⟩) s.tabs.length s.tabs.length] 33))).heap[w.heap.size+2]?=some (.cells (Zas s.tabs.length).toArray 73 (0,0)):=by
   refine(Below.heap_alloc _ _ _ (by simp)).trans ?_;have:=heap_alloc_new ((w.alloc (.cells #[.int .i64 s.version,.slice A0 s.tabs.length c0'] 28)).alloc (.cells #[.slice none 0 0] 33)) (.cells (Zas s.tabs.length).toArray 73);simpa using this
  exact⟨(StC.made hg).more (fun _ h=>h.elim) (fun b hb'=>by
   rcases hb' with hb' | hb'
   · have:=HSG.out b hb';simp;omega
   · exact⟨hb'.2,by have:=hb'.1;omega⟩),stOk_nil _ rfl,(Zai (by simp<;>omega)).trans ((Zai (by simp<;>omega)).trans ((Zai (by simp)).trans (Zah rfl rfl))),(Zai (by simp<;>omega)).trans ((Zai (by simp<;>omega)).trans ((Zai (by simp)).trans (Zah rfl rfl))),(Zai (by simp<;>omega)).trans ((Zai (by simp)).trans (Zah (by simp) rfl)),(Zbh (by simp<;>omega)).trans ((Zbh (by simp)).trans (ZaS (by simp))),Zah (by simp) rfl,ZaS (by simp),HC.out.keep (fun b hb'=>hb.block b (by omega)),(Fr.of_below (X:=fun b=>b=g) hb).grown,by simp⟩)
 rw [hW];clear hW HC
 go_loopw [19] (fun i wr=>∃ (t:Nat) (cur:St),t≤s.tabs.length∧i=.int .i64 t∧StI w wr g S s A0 c0' m cur∧(∀ j,(cur.getD j []).length≤4)∧∀ j,t≤j→cur.getD j []=[]) (fun i _=>s.tabs.length - (intOf i).toNat)
 case atStart=>exact⟨0,_,Nat.zero_le _,rfl,HI0.out,fun j=>by rw [ZgZ];simp,fun j _=>ZgZ _ _⟩
 case round =>
  obtain⟨t,cur,ht,rfl,hi,hc4,hcn⟩:=hrel;have HI:=hI hi;have HC4:=hI hc4;have HCN:=hI hcn;have hsz:=hi.sz;clear hi hc4 hcn
  by_cases htl:t<s.tabs.length
  · go_wp2_with fail
    refine(Zar g 5 _ (by omega) HI.out.case).mono ?_;rintro e w1 ⟨r,rfl,r0,r1,-,hcr,hgr,hsr⟩;have hr5:=r1 (by omega);obtain⟨nn,rfl⟩:=Int.eq_ofNat_of_zero_le r0;have HI1:=hI (HI.out.keep (ZaL hgr) hcr hgl HSG.out);clear hcr hgr hsr r1
    go_wp2_with fail
    go_loopw [9] (fun i wr=>∃ (nn:Nat) (cur:St),nn≤4∧i=.int .i64 nn∧StI w wr g S s A0 c0' m cur∧CntOk cur t nn) (fun i _=>(intOf i).toNat)
    case atStart=>exact⟨nn,cur,by omega,rfl,HI1.out,HC4.out,by rw [HCN.out t nR];simp;omega,fun j hj=>HCN.out j (by omega)⟩
    case round =>
     clear HI HI1 HC4 HCN hsz;obtain⟨nn,cur,hnn,rfl,hi,hcn⟩:=hrel;have HI:=hI hi;have HCN:=hI hcn;have hsz:=hi.sz;clear hi hcn;rcases Nat.eq_zero_or_pos nn with hn0 | hn0
     · subst hn0
       go_wp2_with fail
       go_roundw
       case rel=>exact⟨t+1,cur,by omega,by go_num,HI.out,HCN.out.1,fun j hj=>HCN.out.2.2 j (by omega)⟩
       case measure=>(simp [intOf];try omega)
     · obtain⟨n1,rfl⟩:∃ n1,nn=n1+1:=⟨nn - 1,by omega⟩;have hSw:∀ b,S b→b<w.heap.size:=fun b hb=>(HSG.out b hb).1;have hsame:Same S w wr:=fun b hb=>HI.out.gr.block b (hSw b hb) (fun e=>(HSG.out b hb).2 (by injection e));have HTW:=hI (HS.out.keep hsame);have hSr:∀ b,S b→b<wr.heap.size:=(fun b hb=>by have:=hSw b hb;omega);obtain⟨bT,oT,rfl,hbT,A1,A2,A3,c1,c2,c3,hta⟩:=HTW.out.at_ htl;have lT:bT<wr.heap.size:=hSr bT hbT;have l0:w.heap.size<wr.heap.size:=(by omega);have hg0:¬ w.heap.size=g:=(by omega);have hgT:¬ bT=g:=(HSG.out bT hbT).2;have u0:=HI.out.b0;have u1:=HI.out.b1;have u2:=hta.key;have hkl:(Zbv s t).length≤1000000:=(by have:=(HGS.out.kinds htl).2;omega);have HFIT:=hI (fun (r:Row) (h:Zhh (s.tabs.getD t t0).key m (Zbv s t) r)=>rowGen_fits HGS.out HM.out htl h);clear hta hsame;generalize (s.tabs.getD t t0).key=ky at u2 HFIT
       go_wp2_with fail
       refine tS (fun w'=>w'.cell? ⟨w.heap.size,0,none⟩=some (.int .i64 s.version)∧w'.cell? ⟨w.heap.size,1,none⟩=some (.slice (some ⟨bT,oT,none⟩) s.tabs.length c0')∧w'.cell? ⟨bT,oT+t*5+2,none⟩=some (.int .i64 ky)) 13 13 fun Q' HQ HP=>?_;refine tX 0 28 1 29 2 30 4 32 (bA 13 23) HP.out ⟨u0,u1,u2⟩ ?_;refine tX 5 33 6 34 7 35 8 36 (bA 13 503) HP.out ⟨u0,u1,u2⟩ ?_;refine tW 9 37 10 38 (bA 13 2039) HP.out ⟨u0,u1,u2⟩ ?_;refine tQ 3 (some 31) (bA 13 2047) fun K HK=>?_;go_simp;refine(ZdZ (some ⟨bT,oT,none⟩) c0' s t S wr.drew (HTW.out.keep (fun _ _=>rfl)) hSr).mono ?_;rintro e wk ⟨KA,kc,rfl,hks,hkc,-,hbk0⟩;have hbk:Below wr.heap.size wr wk:=(Below.refl _ wr).drew.trans hbk0;have hzk:=hbk.size;have HKS:=hI hks;clear hks hbk0;have p0:=cQ hbk l0 u0;have p1:=cQ hbk l0 u1;have p2:=cQ hbk lT u2;refine HK.out _ _ (fun _=>⟨p0,p1,p2⟩) ?_;clear HK K
       try simp only [Act.put,psA,psB,psC]
       refine tQ 11 (some 39) (bA 13 4095) fun K HK=>?_;go_simp;refine(row_any g KA kc (Zbv s t) ky m (New wr.drew wk) wk HKS.out (fun b hb=>⟨hb.2,by have h9:wr.heap.size≤b:=hb.1;omega⟩) hkl (HI.out.case.keep (fun b hb=>hbk.block b (by omega)))).mono ?_;rintro e wq ⟨row,RA,rc,rfl,hgen,hrow,hcq,hgq⟩;have hzq:=hgq.size;have HGEN:=hI hgen;have HROW:=hI (Zbo hrow (Zgp HGEN.out hkl) nR);have HFQ:=hI (show Fr (fun b=>b=g) wr wq from (Fr.of_below hbk).trans (ZaL hgq) (fun _ _ e=>e));have HIQ:=hI (HI.out.keep HFQ.out hcq hgl HSG.out);clear hgen hrow hcq;have q0:=(HFQ.out.cell (b:=w.heap.size) l0 hg0).trans u0;have q1:=(HFQ.out.cell (b:=w.heap.size) l0 hg0).trans u1;have q2:=(HFQ.out.cell (b:=bT) lT hgT).trans u2;clear hgq;refine HK.out _ _ (fun _=>⟨q0,q1,q2⟩) ?_;clear HK K
       try simp only [Act.put,psA,psB,psC]
       refine tJ 12 10 (bA 13 8191) HP.out ⟨q0,q1,q2⟩ ?_;refine tE HQ ?_;clear HQ HP Q';have HTQ:=hI (HTW.out.keep (HFQ.out.same (fun b hb=>⟨hSr b hb,(HSG.out b hb).2⟩)));have hsq:=HIQ.out.sz;clear p0 p1 p2 u0 u1 u2 q2;have u0:=q0;have u1:=q1;have u2:=HIQ.out.t0;clear q0 q1;have hqq:wr.heap.size≤wq.heap.size:=HFQ.out.size
       go_wp2_with fail
       refine tS (fun w'=>w'.cell? ⟨w.heap.size,0,none⟩=some (.int .i64 s.version)∧w'.cell? ⟨w.heap.size,1,none⟩=some (.slice (some ⟨bT,oT,none⟩) s.tabs.length c0')∧w'.cell? ⟨w.heap.size+3,0,none⟩=some (.slice (some ⟨w.heap.size+2,0,none⟩) s.tabs.length s.tabs.length)) 9 10 fun Q' HQ HP=>?_;refine tX 0 40 1 41 2 42 3 43 (bA 10 15) HP.out ⟨u0,u1,u2⟩ ?_;refine tW 4 44 5 45 (bA 10 63) HP.out ⟨u0,u1,u2⟩ ?_;refine tJ 7 47 (bA 10 191) HP.out ⟨u0,u1,u2⟩ ?_;refine tQ 6 (some 46) (bA 10 255) fun K HK=>?_;go_simp;refine(ZeI (some ⟨bT,oT,none⟩) c0' s t RA rc row (fun b=>b<wq.heap.size) wq.drew ((HTQ.out.keep (w':=wq.drew) (fun _ _=>rfl)).more (fun b hb=>by have:=hSr b hb;show b<wq.heap.size;omega)) ((HROW.out.2.keep (w':=wq.drew) (fun _ _=>rfl)).more (fun b hb=>hb.2)) HROW.out.1 (fun b hb=>hb)).mono ?_;rintro e wk ⟨KA2,kc2,rfl,hkey,hbk0⟩;have hbk:Below wq.heap.size wq wk:=(Below.refl _ wq).drew.trans hbk0;have hzk2:=hbk.size;have HKEY:=hI (Zbo hkey (ZeU (s:=s) (t:=t) (Zgp HGEN.out hkl)) (show wq.heap.size≤_ from Nat.le_refl _));clear hkey hbk0;have p0:=cK hbk u0;have p1:=cK hbk u1;have p2:=cK hbk u2;refine HK.out _ _ (fun _=>⟨p0,p1,p2⟩) ?_;clear HK K
       try simp only [Act.put,psA,psB,psC]
       refine tQ 8 (some 48) (bA 10 511) fun K HK=>?_;go_simp;have HST:=hI (HIQ.out.stc.below hbk);have hlen2:=HIQ.out.ok.1;have hput:=rput_any (some ⟨bT,oT,none⟩) c0' s (w.heap.size+2) s.tabs.length cur t KA2 kc2 (keyF s t row) RA rc row (fun b=>S b∨(w.heap.size+4≤b∧b<wk.heap.size)) wk ((HTQ.out.keep (Same.of_below hbk (fun b hb=>by have:=hSr b hb;omega))).more (fun b hb=>.inl hb)) (HST.out.more (fun b hb=>hb.imp id (fun hb=>⟨hb.1,by have:=hb.2;omega⟩)) (fun b hb=>by rcases hb with hb | hb;{ have:=HSG.out b hb;omega };exact⟨hb.2,by have:=hb.1;omega⟩)) (HKEY.out.2.more (fun b hb=>.inr ⟨by have h9:wq.heap.size≤b:=hb.1;omega,hb.2⟩)) ((HROW.out.2.keep (Same.of_below hbk (fun b hb=>hb.2))).more (fun b hb=>.inr ⟨by have h9:_≤b:=hb.1;omega,by have:=hb.2;omega⟩)) htl (by omega) (by have:=HCN.out.1 t;omega) (by omega);rw [hlen2] at hput;refine hput.mono ?_;rintro e wp ⟨rfl,hstp,hfp⟩;have HSTP:=hI hstp;have HFP:=hI hfp;have hzp:=hfp.size;clear hput hstp hfp;have q0:=(HFP.out.cell (b:=w.heap.size) (by omega) (by omega)).trans p0;have q1:=(HFP.out.cell (b:=w.heap.size) (by omega) (by omega)).trans p1;have q2:=(HFP.out.cell (b:=w.heap.size+3) (by omega) (by omega)).trans p2;refine HK.out _ _ (fun _=>⟨q0,q1,q2⟩) ?_;clear HK K
       try simp only [Act.put,psA,psB,psC]
       refine tQ 9 none (bA 10 1023) fun K HK=>?_;have tf:=(HFP.out.frozenF (b:=w.heap.size+3) (o:=0) (by omega) (by omega)).trans ((hbk.frozen (p:=⟨w.heap.size+3,0,none⟩) (by show _<_;simp;omega)).trans HIQ.out.tf);go_simp;refine HK.out _ _ (fun h=>absurd rfl h) ?_;clear HK K;refine tE HQ ?_;clear HQ HP Q';have hok:=put_ok HIQ.out.ok (t:=t) (by rw [HIQ.out.ok.1];exact htl) (key:=keyF s t row) (row:=row) (fun _=>rfl) (fun _=>HFIT.out row HGEN.out);have HF:=hI (HIQ.out.put hgl HSG.out hbk HSTP.out HFP.out hok.1)
       go_wp2_with fail
       go_roundw
       case rel=>exact⟨n1,_,by omega,by go_num,HF.out,HCN.out.put (by rw [HIQ.out.ok.1];exact htl) (by rw [hok.2];exact putL_len _ _ _ _)⟩
       case measure=>(simp [intOf];try omega)
  · have r0:=HI.out.r0;have rf:=HI.out.rf;have t0':=HI.out.t0;have hl3:w.heap.size+3<wr.heap.size:=(by omega);have hl1:w.heap.size+1<wr.heap.size:=by omega
    go_wp2_with fail
    have x0:(wr.setCell ⟨w.heap.size+1,0,none⟩ (.slice (some ⟨w.heap.size+2,0,none⟩) s.tabs.length s.tabs.length)).cell? ⟨w.heap.size+1,0,none⟩=some (.slice (some ⟨w.heap.size+2,0,none⟩) s.tabs.length s.tabs.length):=World.cell?_setCell_same _ _ _ r0;have hne:∀ b,b≠w.heap.size+1→(wr.setCell ⟨w.heap.size+1,0,none⟩ (.slice (some ⟨w.heap.size+2,0,none⟩) s.tabs.length s.tabs.length)).heap[b]?=wr.heap[b]?:=fun b hb=>Below.heap_setCell wr ⟨w.heap.size+1,0,none⟩ _ b hb;have hlen:=HI.out.ok.1
    have hst:=(HI.out.stc.keep (w':=wr.setCell ⟨w.heap.size+1,0,none⟩ (.slice (some ⟨w.heap.size+2,0,none⟩) s.tabs.length s.tabs.length)) (by simp) (fun b hb=>hne b (by rcases hb with hb | hb;{ have:=HSG.out b hb;omega };have:=hb.1;omega)) (hne (w.heap.size+2) (by omega))).more (S':=fun b=>S b∨(w.heap.size+2<b∧b<(wr.setCell ⟨w.heap.size+1,0,none⟩ (.slice (some ⟨w.heap.size+2,0,none⟩) s.tabs.length s.tabs.length)).heap.size)) (fun b hb=>hb.imp id (fun hb=>⟨by have:=hb.1;omega,by have:=hb.2;simpa using this⟩)) (fun b hb=>by
     rcases hb with hb | hb
     · have:=HSG.out b hb;simp;omega
     · exact⟨hb.2,by have:=hb.1;omega⟩)
    exact bodyPost_ret (v:=ZbE (some ⟨w.heap.size+2,0,none⟩) s.tabs.length s.tabs.length) (by simp [results,Tryz.results12,go_sem,x0]) rfl ⟨w.heap.size+2,cur,by rw [hlen],HI.out.ok,HC4.out,by omega,hst,Zab HI.out.case (by omega),Zad HI.out.gr (by omega)⟩
end Go.Proofs.YtkpjjfhfbpfjpaaGreat
