import Derived.Test.YtkpjjfhfbpfjpaaK70ce45
import Derived.Deep.Cut
import Derived.Deep.CutRange
import Derived.Deep.DeepCutAuto
import Derived.Test.YtkpjjfhfbpfjpaaK9a854c
set_option linter.unusedVariables false
set_option linter.unusedSimpArgs false
set_option maxRecDepth 100000
set_option maxHeartbeats 8000000
namespace Go.Proofs.Ytkpjjfhfbpfjpaa
open Go.RowKit
theorem column_any (nm:ByteArray) (k:Int) (w:World):Calls Try.prog 45 #[.string nm,.int .i64 k] w (fun e w'=>e=.returned (.agg #[.string nm,.int .i64 k])∧w'=w.alloc (.cells #[.string nm,.int .i64 k] 34)):=by
 go_enter Try.func45,Try.ntmps45
 go_wp2
 exact bodyPost_ret (v:=.agg #[.string nm,.int .i64 k]) (by simp [results,Try.results45,go_sem]) rfl ⟨rfl,rfl⟩
theorem vals_col {w:World} {S:Nat→Prop} {c:Col} (h:c.name.size≤9223372036854775807):Dat.Vals w S (ZdV c) [.string c.name,.int .i64 c.kind]:=by
 simp only [ZdV,Dat.Vals,Dat.ValsAll,Zbb,ZaQ];exact⟨[.string c.name],_,rfl,⟨rfl,h⟩,[.int .i64 c.kind],[],rfl,⟨rfl,trivial⟩,rfl⟩
def Zfi:List Col→List Value
 | []=>[]
 | c :: l=>.string c.name :: .int .i64 c.kind :: Zfi l
theorem Zgo {w:World} {S:Nat→Prop}:∀ {l:List Col},(∀ c ∈ l,c.name.size≤9223372036854775807)→Dat.ValsAll w S (l.map ZdV) (Zfi l)
 | [],_=>by simp [Dat.ValsAll,Zfi]
 | c :: l,h=>by
  simp only [List.map_cons,Dat.ValsAll];exact⟨[.string c.name,.int .i64 c.kind],Zfi l,rfl,vals_col (h c (by simp)),Zgo (fun x hx=>h x (by simp [hx]))⟩
theorem Zdo {w:World} {S:Nat→Prop} {b:Nat} {l:List Col} {t:TypeId} (h:w.heap[b]?=some (.cells (Zfi l).toArray t (0,0))) (hS:S b) (hl:∀ c ∈ l,c.name.size≤9223372036854775807) (hn:l.length≤100):ColS w S (some ⟨b,0,none⟩) l :=
 Sl.of_vals (by rw [Zag (n:=24) (fun _=>rfl)];omega) (Zgo hl) (fun _=>⟨b,0,rfl,hS,by have:=Zaa h;simpa using this⟩)
theorem Zdi {w:World} {S:Nat→Prop} {t:Tab} {A1 A2 A3:Option Addr} {c1 c2 c3:Nat} (h0:t.name.size≤9223372036854775807) (e1:t.cols.length≤c1) (h1:ColS w S A1 t.cols) (e2:t.refs.length≤c2) (h2:RfrS w S A2 t.refs) (e3:t.checks.length≤c3) (h3:PredS w S A3 t.checks) :
  Dat.Vals w S (Zbj t) [.string t.name,.slice A1 t.cols.length c1,.int .i64 t.key,.slice A2 t.refs.length c2,.slice A3 t.checks.length c3]:=by
 simp only [Zbj,Dat.Vals,Dat.ValsAll,Zbb,ZaQ,List.length_map];exact⟨[.string t.name],_,rfl,⟨rfl,h0⟩,[.slice A1 t.cols.length c1],_,rfl,⟨A1,c1,rfl,e1,h1⟩,[.int .i64 t.key],_,rfl,⟨rfl,trivial⟩,[.slice A2 t.refs.length c2],_,rfl,⟨A2,c2,rfl,e2,h2⟩,[.slice A3 t.checks.length c3],[],rfl,⟨A3,c3,rfl,e3,h3⟩,rfl⟩
theorem Zgp {w:World} {S:Nat→Prop} {t:Tab} {vs:List Value} (h:Dat.Vals w S (Zbj t) vs):∃ A1 A2 A3 c1 c2 c3,vs=[.string t.name,.slice A1 t.cols.length c1,.int .i64 t.key,.slice A2 t.refs.length c2,.slice A3 t.checks.length c3]∧t.name.size≤9223372036854775807∧t.cols.length≤c1∧ColS w S A1 t.cols∧t.refs.length≤c2∧RfrS w S A2 t.refs∧t.checks.length≤c3∧PredS w S A3 t.checks:=by
 simp only [Zbj,Dat.Vals,Dat.ValsAll,Zbb,ZaQ,List.length_map] at h;obtain⟨a1,b1,rfl,⟨rfl,h0⟩,a2,b2,rfl,⟨A1,c1,rfl,e1,h1⟩,a3,b3,rfl,⟨rfl,-⟩,a4,b4,rfl,⟨A2,c2,rfl,e2,h2⟩,a5,b5,rfl,⟨A3,c3,rfl,e3,h3⟩,rfl⟩:=h;exact⟨A1,A2,A3,c1,c2,c3,rfl,h0,e1,h1,e2,h2,e3,h3⟩
abbrev SD (w wr:World) (g TB:Nat):Nat→Prop:=fun b=>w.heap.size<b∧b<wr.heap.size∧b≠TB∧b≠TB+1∧b≠g
structure SchI (w wr:World) (g TB n:Nat) (v id:Int) (b1 b2 b3:Bool) (chk:List Pred):Prop where
 tb:∃ vs:List Value,wr.heap[TB]?=some (.cells vs.toArray 39 (0,0))∧Dat.ValsAll wr (SD w wr g TB) ((Zau id (rf0 b1 1 0) (rf0 b2 0 0) (rf0 b3 0 1) chk).map Zbj) vs
 sb:wr.heap[TB+1]?=some (.cells #[.int .i64 v,.slice (some ⟨TB,0,none⟩) n 4] 25 (0,0))
 rb:wr.heap[w.heap.size]?=some (.cells #[.int .i64 0,.slice none 0 0] 25 (0,0))
 case:CaseOk wr g
 gr:w.grownBy wr (some g)
 lo:w.heap.size<TB
 gl:g<w.heap.size
section
variable {w wr wx:World} {g TB n:Nat} {v id:Int} {b1 b2 b3:Bool} {chk:List Pred}
theorem SchI.keep (h:SchI w wr g TB n v id b1 b2 b3 chk) (hg:wr.grownBy wx (some g)) (hc:CaseOk wx g):SchI w wx g TB n v id b1 b2 b3 chk:=by
 obtain⟨vs,h1,h2⟩:=h.tb;have hlo:=h.lo;have hgl:=h.gl;have hs:=hg.size;have hb:∀ b,b<wr.heap.size→b≠g→wx.heap[b]?=wr.heap[b]?:=fun b hb hne=>hg.block b hb (fun e=>hne (by injection e));have l1:=Zad h1;have l2:=Zad h.sb;have l3:=Zad h.rb;exact⟨⟨vs,(hb _ l1 (by omega)).trans h1,Dat.ValsAll.more (fun b hb=>⟨hb.1,by have:=hb.2.1;omega,hb.2.2⟩) _ _ (Dat.ValsAll.keep (fun b hb'=>hb b hb'.2.1 hb'.2.2.2.2) _ _ h2)⟩,(hb _ l2 (by omega)).trans h.sb,(hb _ l3 (by omega)).trans h.rb,hc,h.gr.trans hg,hlo,hgl⟩
theorem SchI.below (h:SchI w wr g TB n v id b1 b2 b3 chk) (hb:Below wr.heap.size wr wx):SchI w wx g TB n v id b1 b2 b3 chk :=
 h.keep (Fr.of_below (X:=fun b=>b=g) hb).grown (h.case.keep (fun b hb'=>hb.block b (by have:=h.case.lt;omega)))
end
def genOs (v idk:Int) (nn n:Nat):List Obj:=[
 .cells #[.string nId,.int .i64 4] 34 (0,0),
 .cells #[.string nOwner,.int .i64 4] 34 (0,0),
 .cells #[.string nId,.int .i64 4,.string nOwner,.int .i64 4] 34 (0,0),
 .cells #[.string nId,.int .i64 idk] 34 (0,0),
 .cells #[.string nProject,.int .i64 4] 34 (0,0),
 .cells #[.string nTitle,.int .i64 5] 34 (0,0),
 .cells #[.string nDone,.int .i64 3] 34 (0,0),
 .cells #[.string nId,.int .i64 idk,.string nProject,.int .i64 4,.string nTitle,.int .i64 5,.string nDone,.int .i64 3] 34 (0,0),
 .cells #[.string nProject,.int .i64 4] 34 (0,0),
 .cells #[.string Zhd,.int .i64 4] 34 (0,0),
 .cells #[.string nProject,.int .i64 4,.string Zhd,.int .i64 4] 34 (0,0),
 .cells #[.string nTask,.int .i64 idk] 34 (0,0),
 .cells #[.string nTask,.int .i64 idk] 34 (0,0),
 .cells #[.string nProjects,.slice (some ⟨n+2,0,none⟩) 2 2,.int .i64 1,.slice none 0 0,.slice none 0 0,.string nTasks,.slice (some ⟨n+7,0,none⟩) 4 4,.int .i64 1,.slice none 0 0,.slice none 0 0,.string nMembers,.slice (some ⟨n+10,0,none⟩) 2 2,.int .i64 2,.slice none 0 0,.slice none 0 0,.string nArchived,.slice (some ⟨n+12,0,none⟩) 1 1,.int .i64 1,.slice none 0 0,.slice none 0 0] 39 (0,0),
 .cells #[.int .i64 v,.slice (some ⟨n+13,0,none⟩) nn 4] 25 (0,0)]
theorem ZfW {w:World} {S:Nat→Prop} {nm:ByteArray} {cols:List Col} {key:Int} {R R':List Rfr} {ck:List Pred} {vs:List Value} {A:Option Addr} {c:Nat} (h:Dat.Vals w S (Zbj ⟨nm,cols,key,R,ck⟩) vs) (hc:R'.length≤c) (hr:RfrS w S A R'):Dat.Vals w S (Zbj ⟨nm,cols,key,R',ck⟩) (vs.set 3 (.slice A R'.length c)):=by
 obtain⟨A1,A2,A3,c1,c2,c3,rfl,h0,e1,h1,e2,h2,e3,h3⟩:=Zgp h;exact Zdi (t:=⟨nm,cols,key,R',ck⟩) h0 e1 h1 hc hr e3 h3
theorem tab_chks {w:World} {S:Nat→Prop} {nm:ByteArray} {cols:List Col} {key:Int} {R:List Rfr} {ck ck':List Pred} {vs:List Value} {A:Option Addr} {c:Nat} (h:Dat.Vals w S (Zbj ⟨nm,cols,key,R,ck⟩) vs) (hc:ck'.length≤c) (hr:PredS w S A ck'):Dat.Vals w S (Zbj ⟨nm,cols,key,R,ck'⟩) (vs.set 4 (.slice A ck'.length c)):=by
 obtain⟨A1,A2,A3,c1,c2,c3,rfl,h0,e1,h1,e2,h2,e3,h3⟩:=Zgp h;exact Zdi (t:=⟨nm,cols,key,R,ck'⟩) h0 e1 h1 e2 h2 hc hr
theorem ZdT {w:World} {S:Nat→Prop} {id:Int} {R1 R2 R3:List Rfr} {ck:List Pred} {vs:List Value} (h:Dat.ValsAll w S ((Zau id R1 R2 R3 ck).map Zbj) vs):∃ v0 v1 v2 v3,vs=v0++(v1++(v2++v3))∧v0.length=5∧v1.length=5∧v2.length=5∧v3.length=5∧Dat.Vals w S (Zbj ⟨nProjects,Zey,1,[],[]⟩) v0∧Dat.Vals w S (Zbj ⟨nTasks,Zcz id,1,R1,ck⟩) v1∧Dat.Vals w S (Zbj ⟨nMembers,Zdc,2,R2,[]⟩) v2∧Dat.Vals w S (Zbj ⟨nArchived,ZcQ id,1,R3,[]⟩) v3:=by
 simp only [Zau,List.map_cons,List.map_nil,Dat.ValsAll] at h;obtain⟨v0,x,rfl,h0,v1,y,rfl,h1,v2,z,rfl,h2,v3,u,rfl,h3,rfl⟩:=h;exact⟨v0,v1,v2,v3,by simp,Dat.Vals.len _ _ h0,Dat.Vals.len _ _ h1,Dat.Vals.len _ _ h2,Dat.Vals.len _ _ h3,h0,h1,h2,h3⟩
theorem ZeK {w:World} {S:Nat→Prop} {id:Int} {R1 R2 R3:List Rfr} {ck:List Pred} {v0 v1 v2 v3:List Value} (h0:Dat.Vals w S (Zbj ⟨nProjects,Zey,1,[],[]⟩) v0) (h1:Dat.Vals w S (Zbj ⟨nTasks,Zcz id,1,R1,ck⟩) v1) (h2:Dat.Vals w S (Zbj ⟨nMembers,Zdc,2,R2,[]⟩) v2) (h3:Dat.Vals w S (Zbj ⟨nArchived,ZcQ id,1,R3,[]⟩) v3):Dat.ValsAll w S ((Zau id R1 R2 R3 ck).map Zbj) (v0++(v1++(v2++v3))):=by
 simp only [Zau,List.map_cons,List.map_nil,Dat.ValsAll];exact⟨v0,_,rfl,h0,v1,_,rfl,h1,v2,_,rfl,h2,v3,[],by simp,h3,rfl⟩
theorem SchI.set {w wr:World} {g TB n k:Nat} {v id:Int} {b1 b2 b3 b1' b2' b3':Bool} {chk chk':List Pred} {x:Value} (h:SchI w wr g TB n v id b1 b2 b3 chk) (hs:∀ vs,Dat.ValsAll wr (SD w wr g TB) ((Zau id (rf0 b1 1 0) (rf0 b2 0 0) (rf0 b3 0 1) chk).map Zbj) vs→Dat.ValsAll wr (SD w wr g TB) ((Zau id (rf0 b1' 1 0) (rf0 b2' 0 0) (rf0 b3' 0 1) chk').map Zbj) (vs.set k x)) :
  SchI w (wr.setCell ⟨TB,k,none⟩ x) g TB n v id b1' b2' b3' chk':=by
 obtain⟨vs,h1,h2⟩:=h.tb;have hlo:=h.lo;have hgl:=h.gl;have hne:∀ b,b≠TB→(wr.setCell ⟨TB,k,none⟩ x).heap[b]?=wr.heap[b]?:=fun b hb=>Below.heap_setCell wr ⟨TB,k,none⟩ x b hb;refine⟨⟨vs.set k x,Zaf h1,Dat.ValsAll.more (fun b hb=>⟨hb.1,by have:=hb.2.1;simpa using this,hb.2.2⟩) _ _ (Dat.ValsAll.keep (fun b hb=>hne b hb.2.2.1) _ _ (hs vs h2))⟩,(hne _ (by omega)).trans h.sb,(hne _ (by omega)).trans h.rb,h.case.keep (fun b hb=>hne b (by omega)),?_,hlo,hgl⟩;exact Zac h.gr (by omega)
theorem SchI.ref1 {w wr:World} {g TB n c:Nat} {v id:Int} {b2 b3:Bool} {chk:List Pred} {A:Option Addr} (h:SchI w wr g TB n v id false b2 b3 chk) (hc:1≤c) (hr:RfrS wr (SD w wr g TB) A [⟨[1],0⟩]):SchI w (wr.setCell ⟨TB,8,none⟩ (.slice A 1 c)) g TB n v id true b2 b3 chk :=
 h.set (fun vs hv=>by
  obtain⟨v0,v1,v2,v3,rfl,l0,l1,l2,l3,h0,h1,h2,h3⟩:=ZdT hv;have e:(v0++(v1++(v2++v3))).set 8 (.slice A 1 c)=v0++(v1.set 3 (.slice A 1 c)++(v2++v3)):=(by rw [List.set_append,if_neg (by omega),List.set_append,if_pos (by omega),l0]);rw [e];exact ZeK h0 (ZfW (R':=[⟨[1],0⟩]) h1 hc hr) h2 h3)
theorem SchI.chk1 {w wr:World} {g TB n c:Nat} {v id:Int} {b1 b2 b3:Bool} {chk:List Pred} {p:Pred} {A:Option Addr} (h:SchI w wr g TB n v id b1 b2 b3 chk) (hc:1≤c) (hr:PredS wr (SD w wr g TB) A [p]):SchI w (wr.setCell ⟨TB,9,none⟩ (.slice A 1 c)) g TB n v id b1 b2 b3 [p] :=
 h.set (fun vs hv=>by
  obtain⟨v0,v1,v2,v3,rfl,l0,l1,l2,l3,h0,h1,h2,h3⟩:=ZdT hv;have e:(v0++(v1++(v2++v3))).set 9 (.slice A 1 c)=v0++(v1.set 4 (.slice A 1 c)++(v2++v3)):=(by rw [List.set_append,if_neg (by omega),List.set_append,if_pos (by omega),l0]);rw [e];exact ZeK h0 (tab_chks (ck':=[p]) h1 hc hr) h2 h3)
theorem SchI.ref2 {w wr:World} {g TB n c:Nat} {v id:Int} {b1 b3:Bool} {chk:List Pred} {A:Option Addr} (h:SchI w wr g TB n v id b1 false b3 chk) (hc:1≤c) (hr:RfrS wr (SD w wr g TB) A [⟨[0],0⟩]):SchI w (wr.setCell ⟨TB,13,none⟩ (.slice A 1 c)) g TB n v id b1 true b3 chk :=
 h.set (fun vs hv=>by
  obtain⟨v0,v1,v2,v3,rfl,l0,l1,l2,l3,h0,h1,h2,h3⟩:=ZdT hv;have e:(v0++(v1++(v2++v3))).set 13 (.slice A 1 c)=v0++(v1++(v2.set 3 (.slice A 1 c)++v3)):=(by rw [List.set_append,if_neg (by omega),List.set_append,if_neg (by omega),List.set_append,if_pos (by omega),l0,l1]);rw [e];exact ZeK h0 h1 (ZfW (R':=[⟨[0],0⟩]) h2 hc hr) h3)
theorem SchI.ref3 {w wr:World} {g TB n c:Nat} {v id:Int} {b1 b2:Bool} {chk:List Pred} {A:Option Addr} (h:SchI w wr g TB n v id b1 b2 false chk) (hc:1≤c) (hr:RfrS wr (SD w wr g TB) A [⟨[0],1⟩]):SchI w (wr.setCell ⟨TB,18,none⟩ (.slice A 1 c)) g TB n v id b1 b2 true chk :=
 h.set (fun vs hv=>by
  obtain⟨v0,v1,v2,v3,rfl,l0,l1,l2,l3,h0,h1,h2,h3⟩:=ZdT hv;have e:(v0++(v1++(v2++v3))).set 18 (.slice A 1 c)=v0++(v1++(v2++v3.set 3 (.slice A 1 c))):=(by rw [List.set_append,if_neg (by omega),List.set_append,if_neg (by omega),List.set_append,if_neg (by omega),l0,l1,l2]);rw [e];exact ZeK h0 h1 h2 (ZfW (R':=[⟨[0],1⟩]) h3 hc hr))
theorem Zhb {w wr:World} {g TB:Nat} {x t:Int} (h1:w.heap.size<wr.heap.size) (h2:TB+1<wr.heap.size) (h3:g<w.heap.size) :
  RfrS ((wr.alloc (.cells #[.int .i64 x] 3)).alloc (.cells #[.slice (some ⟨wr.heap.size,0,none⟩) 1 1,.int .i64 t] 96)) (SD w ((wr.alloc (.cells #[.int .i64 x] 3)).alloc (.cells #[.slice (some ⟨wr.heap.size,0,none⟩) 1 1,.int .i64 t] 96)) g TB) (some ⟨wr.heap.size+1,0,none⟩) [⟨[x],t⟩]:=by
 have hb1:=(Below.heap_alloc (wr.alloc (.cells #[.int .i64 x] 3)) (.cells #[.slice (some ⟨wr.heap.size,0,none⟩) 1 1,.int .i64 t] 96) wr.heap.size (by simp)).trans (heap_alloc_new wr (.cells #[.int .i64 x] 3));have hb2:=heap_alloc_new (wr.alloc (.cells #[.int .i64 x] 3)) (.cells #[.slice (some ⟨wr.heap.size,0,none⟩) 1 1,.int .i64 t] 96);rw [World.size_alloc] at hb2
 have hi:IntS ((wr.alloc (.cells #[.int .i64 x] 3)).alloc (.cells #[.slice (some ⟨wr.heap.size,0,none⟩) 1 1,.int .i64 t] 96)) (SD w ((wr.alloc (.cells #[.int .i64 x] 3)).alloc (.cells #[.slice (some ⟨wr.heap.size,0,none⟩) 1 1,.int .i64 t] 96)) g TB) (some ⟨wr.heap.size,0,none⟩) [x] :=
  Sl.of_vals (by rw [Zag (n:=8) (fun _=>rfl)];simp) (ZaA (show Dat.Vals _ _ (ZfO x) [.int .i64 x] by simp [ZfO,Dat.Vals])) (fun _=>⟨wr.heap.size,0,rfl,⟨by omega,by simp;omega,by omega,by omega,by omega⟩,Zaa hb1⟩)
 refine Sl.of_vals (by rw [Zag (n:=32) (fun _=>rfl)];simp) (ZaA (vs:=[.slice (some ⟨wr.heap.size,0,none⟩) 1 1,.int .i64 t]) ?_) (fun _=>⟨wr.heap.size+1,0,rfl,⟨by omega,by simp,by omega,by omega,by omega⟩,Zaa hb2⟩);simp only [ZgN,Dat.Vals,Dat.ValsAll,Zbb];exact⟨[.slice (some ⟨wr.heap.size,0,none⟩) 1 1],_,rfl,⟨_,1,rfl,by simp,hi⟩,[.int .i64 t],[],rfl,⟨rfl,trivial⟩,rfl⟩
theorem SchI.tabS {w wr:World} {g TB n:Nat} {v id:Int} {b1 b2 b3:Bool} {chk:List Pred} (h:SchI w wr g TB n v id b1 b2 b3 chk) (hn:n≤4):TabS wr (fun b=>w.heap.size<b∧b<wr.heap.size∧b≠TB+1) (some ⟨TB,0,none⟩) ((Zau id (rf0 b1 1 0) (rf0 b2 0 0) (rf0 b3 0 1) chk).take n):=by
 obtain⟨vs,h1,h2⟩:=h.tb;have h3:=(Zbq (n:=5) ZdA h2 n hn).1;have hlo:=h.lo;refine Sl.of_vals (by rw [Zag (n:=96) (fun _=>rfl),List.length_take];have:(Zau id (rf0 b1 1 0) (rf0 b2 0 0) (rf0 b3 0 1) chk).length=4:=rfl;omega) (Dat.ValsAll.more (fun b hb=>⟨hb.1,hb.2.1,hb.2.2.2.1⟩) _ _ h3) (fun _=>⟨TB,0,rfl,⟨hlo,Zad h1,by omega⟩,fun j u hu=>?_⟩);have:=Zaa h1 j u (by simpa using getElem?_of_take hu);exact this
theorem schI_start {w w3 W:World} {g n:Nat} {v idk:Int} (hz:w3.heap.size=w.heap.size+1) (hgl:g<w.heap.size) (hW:(genOs v idk n w3.heap.size).foldl World.alloc w3=W) (hc:CaseOk w3 g) (hg:w.grownBy w3 (some g)) (hr:w3.heap[w.heap.size]?=some (.cells #[.int .i64 0,.slice none 0 0] 25 (0,0))) :
  SchI w W g (w3.heap.size+13) n v idk false false false []∧W.heap.size=w3.heap.size+15:=by
 obtain⟨hB,hs⟩:=Zdh (genOs v idk n w3.heap.size) w3;have hk:∀ k (hk:k<15),W.heap[w3.heap.size+k]?=(genOs v idk n w3.heap.size)[k]?:=(fun k hk=>by rw [←hW];exact Zfq _ _ _ hk);rw [hW] at hB hs;have hs':W.heap.size=w3.heap.size+15:=hs;have hD:∀ k,k<13→SD w W g (w3.heap.size+13) (w3.heap.size+k):=fun k h=>⟨by omega,by omega,by omega,by omega,by omega⟩;have n1:∀ l:List Col,(∀ c ∈ l,c.name.size≤100)→∀ c ∈ l,c.name.size≤9223372036854775807:=(fun l h c hc=>by have:=h c hc;omega);have k1:ColS W (SD w W g (w3.heap.size+13)) (some ⟨w3.heap.size+2,0,none⟩) Zey:=Zdo (l:=Zey) (hk 2 (by omega)) (hD 2 (by omega)) (n1 _ (by decide)) (by decide);have k2:ColS W (SD w W g (w3.heap.size+13)) (some ⟨w3.heap.size+7,0,none⟩) (Zcz idk):=Zdo (l:=Zcz idk) (hk 7 (by omega)) (hD 7 (by omega)) (n1 _ (by intro c hc;simp only [Zcz,List.mem_cons,List.not_mem_nil,or_false] at hc;rcases hc with rfl | rfl | rfl | rfl<;>first | (show nId.size≤100;decide) | (show nProject.size≤100;decide) | (show nTitle.size≤100;decide) | (show nDone.size≤100;decide))) (by show 4≤100;omega);have k3:ColS W (SD w W g (w3.heap.size+13)) (some ⟨w3.heap.size+10,0,none⟩) Zdc:=Zdo (l:=Zdc) (hk 10 (by omega)) (hD 10 (by omega)) (n1 _ (by decide)) (by decide);have k4:ColS W (SD w W g (w3.heap.size+13)) (some ⟨w3.heap.size+12,0,none⟩) (ZcQ idk):=Zdo (l:=ZcQ idk) (hk 12 (by omega)) (hD 12 (by omega)) (n1 _ (by intro c hc;simp only [ZcQ,List.mem_cons,List.not_mem_nil,or_false] at hc;rcases hc with rfl;show nTask.size≤100;decide)) (by show 1≤100;omega);refine⟨⟨⟨_,hk 13 (by omega),?_⟩,hk 14 (by omega),?_,?_,?_,by omega,hgl⟩,hs'⟩
 · show Dat.ValsAll W (SD w W g (w3.heap.size+13)) _ ([.string nProjects,.slice (some ⟨w3.heap.size+2,0,none⟩) 2 2,.int .i64 1,.slice none 0 0,.slice none 0 0]++([.string nTasks,.slice (some ⟨w3.heap.size+7,0,none⟩) 4 4,.int .i64 1,.slice none 0 0,.slice none 0 0]++([.string nMembers,.slice (some ⟨w3.heap.size+10,0,none⟩) 2 2,.int .i64 2,.slice none 0 0,.slice none 0 0]++([.string nArchived,.slice (some ⟨w3.heap.size+12,0,none⟩) 1 1,.int .i64 1,.slice none 0 0,.slice none 0 0]++[]))));simp only [Zau,List.map_cons,List.map_nil,Dat.ValsAll]
   exact⟨_,_,rfl,Zdi (t:=⟨nProjects,Zey,1,[],[]⟩) (by show nProjects.size≤_;decide) nR k1 nR Sl.nil_ nR Sl.nil_,
    _,_,rfl,Zdi (t:=⟨nTasks,Zcz idk,1,[],[]⟩) (by show nTasks.size≤_;decide) nR k2 nR Sl.nil_ nR Sl.nil_,
    _,_,rfl,Zdi (t:=⟨nMembers,Zdc,2,[],[]⟩) (by show nMembers.size≤_;decide) nR k3 nR Sl.nil_ nR Sl.nil_,
    _,_,rfl,Zdi (t:=⟨nArchived,ZcQ idk,1,[],[]⟩) (by show nArchived.size≤_;decide) nR k4 nR Sl.nil_ nR Sl.nil_,rfl⟩
 · exact(hB.block _ (by omega)).trans hr
 · exact hc.keep (fun b hb=>hB.block b (by omega))
 · exact hg.trans (Fr.of_below (X:=fun b=>b=g) hB).grown
theorem SchI.cell {w wr:World} {g TB n k:Nat} {v id:Int} {b1 b2 b3:Bool} {chk:List Pred} (h:SchI w wr g TB n v id b1 b2 b3 chk) (hk:k<20):(∃ x,wr.cell? ⟨TB,k,none⟩=some x)∧wr.frozen? ⟨TB,k,none⟩=false:=by
 obtain⟨vs,h1,h2⟩:=h.tb;have hl:vs.length=20:=(by rw [Dat.ValsAll.len _ _ h2,ZaZ (n:=5) ZdA];rfl);refine⟨⟨vs[k],?_⟩,by simp [World.frozen?,h1]⟩;have:=Zaa h1 k vs[k] (by simp);rw [Nat.zero_add] at this;exact this
def SchPost (w:World) (g:Nat) (e:Ending) (w':World):Prop:=∃ (s:Sch) (A:Option Addr) (c:Nat),e=.returned (sAgg s.version A s.tabs.length c)∧GenS s∧s.tabs.length≤c∧TabS w' (fun b=>w.heap.size<b∧b<w'.heap.size) A s.tabs∧CaseOk w' g∧w.grownBy w' (some g)
theorem kinds_gen {v idk:Int} {R1 R2 R3:List Rfr} {ck:List Pred} {n:Nat} (h2:2≤n) (h4:n≤4):Zbs (⟨v,(Zau idk R1 R2 R3 ck).take n⟩:Sch) 1=[idk,4,5,3]:=by
 have hn:n=2∨n=3∨n=4:=(by omega);rcases hn with rfl | rfl | rfl<;>rfl
theorem schema_any (g:Nat) (w:World) (hc:CaseOk w g):Calls Try.prog 12 #[.pointer (some ⟨g,0,none⟩)] w (SchPost w g):=by
 have hgl:=hc.lt;have HC0:=hI (hc.keep (w':=w.alloc (.cells #[.int .i64 0,.slice none 0 0] 25)) (fun b hb=>Below.heap_alloc _ _ _ (by omega)));have hza:(w.alloc (.cells #[.int .i64 0,.slice none 0 0] 25)).heap.size=w.heap.size+1:=(by simp);have HG0:=hI (World.grownBy_alloc w (.cells #[.int .i64 0,.slice none 0 0] 25) (some g));have HR0:=hI (heap_alloc_new w (.cells #[.int .i64 0,.slice none 0 0] 25));clear hc;go_enter Try.func12,Try.ntmps12
 go_wp2_with fail
 refine(ZaO g 3 _ (by omega) HC0.out).mono ?_;rintro e w1 ⟨r,rfl,h0,h1,-,hc1,hg1,hs1⟩;have hr:=h1 (by omega);obtain⟨n,hn⟩:∃ n:Nat,2+r=n:=⟨(2+r).toNat,by omega⟩;have hn2:2≤n:=(by omega);have hn4:n≤4:=(by omega);have HC:=hI hc1;have HG:=hI (HG0.out.trans hg1);have HR:=hI ((hg1.block w.heap.size (by omega) (by intro e;injection e with e;omega)).trans HR0.out);have hz1:w1.heap.size=w.heap.size+1:=(by omega);clear hc1 hg1 hs1 h1 HC0 HG0 HR0
 go_wp2_with fail
 refine(ZaK g 5 _ (by omega) (by omega) HC.out).mono ?_;rintro e w2 ⟨bi,rfl,hcb,hgb,hsb⟩;have HC:=hI hcb;have HR:=hI ((hgb.block w.heap.size (by omega) (by intro e;injection e with e;omega)).trans HR.out);have HG:=hI (HG.out.trans hgb);have hz2:w2.heap.size=w.heap.size+1:=(by omega);clear hcb hgb hsb;go_upto_if 10 with fail
 go_cut [4] (fun v W=>∃ idk:Int,v=.int .i64 idk∧(idk=4∨idk=5)∧W=w2)
 case first =>
  cases bi
  · go_wp2_with fail
    go_meet;exact⟨4,rfl,.inl rfl,rfl⟩
  · go_wp2_with fail
    go_meet;exact⟨5,rfl,.inr rfl,rfl⟩
 case rest =>
  obtain⟨idk,rfl,hidk,rfl⟩:=hcut;have HID:=hI hidk;clear hidk
  go_wp2_with fail
  refine(ZaO g 3 _ (by omega) HC.out).mono ?_;rintro e w3 ⟨v,rfl,v0',v1,-,hc1,hg1,hs1⟩;have hv:=v1 (by omega);have HC:=hI hc1;have HR:=hI ((hg1.block w.heap.size (by omega) (by intro e;injection e with e;omega)).trans HR.out);have HG:=hI (HG.out.trans hg1);have HZ3:=hI (show w3.heap.size=w.heap.size+1 by omega);clear hc1 hg1 hs1 v1 hz1 hz2
  go_wp2_with (go_at_call 45;refine(column_any _ _ _).mono ?_;rintro e w' ⟨rfl,rfl⟩)
  change Calls Try.prog _ _ ((genOs v idk n w3.heap.size).foldl World.alloc w3) _;obtain⟨W,hW⟩:∃ W,(genOs v idk n w3.heap.size).foldl World.alloc w3=W:=⟨_,rfl⟩;obtain⟨hsi,hzW⟩:=schI_start HZ3.out hgl hW HC.out HG.out HR.out;rw [hW];have HI:=hI hsi;clear hW hsi HC HG HR hzW;refine(ZaK g 2 _ (by omega) (by omega) HI.out.case).mono ?_;rintro e wa ⟨bb,rfl,hcb,hgb,hsb⟩;have HI:=hI (HI.out.keep hgb hcb);clear hcb hgb hsb;go_upto_if 40 with fail
  go_cut [5] (fun p W=>∃ TB bq,p=.pointer (some ⟨TB+1,0,none⟩)∧SchI w W g TB n v idk bq false false [])
  case first =>
   cases bb
   · go_wp2_with fail
     go_meet;exact⟨w3.heap.size+13,false,rfl,HI.out⟩
   · obtain⟨⟨x8,hx8⟩,hf8⟩:=HI.out.cell (k:=8) (by omega);have s1:wa.cell? ⟨w3.heap.size+1+1+1+1+1+1+1+1+1+1+1+1+1+1,1,none⟩=some (.slice (some ⟨w3.heap.size+13,0,none⟩) n 4):=Zaa HI.out.sb 1 _ rfl;have hlT:w3.heap.size+13<wa.heap.size:=(by obtain⟨_,q,_⟩:=HI.out.tb;exact Zad q);have hlS:w3.heap.size+1+1+1+1+1+1+1+1+1+1+1+1+1+1<wa.heap.size:=Zad HI.out.sb;have hlT2:w3.heap.size+13<wa.heap.size+1:=(by omega);have hlS2:w3.heap.size+1+1+1+1+1+1+1+1+1+1+1+1+1+1<wa.heap.size+1:=(by omega);have hlo:w.heap.size<wa.heap.size:=by have:=HI.out.lo;omega
     go_wp2_with fail
     go_meet;have hb:Below wa.heap.size wa ((wa.alloc (.cells #[.int .i64 1] 3)).alloc (.cells #[.slice (some ⟨wa.heap.size,0,none⟩) 1 1,.int .i64 0] 96)):=((Below.refl _ _).alloc nR _).alloc (by simp) _;have hfin:=(HI.out.below hb).ref1 nR (Zhb hlo hlS hgl);rw [World.setCell_alloc_past _ _ _ _ (by simp;omega),World.setCell_alloc_past _ _ _ _ (by omega)] at hfin;exact⟨w3.heap.size+13,true,rfl,hfin⟩
  case rest =>
  obtain⟨TB,b1,rfl,hi1⟩:=hcut;have HI:=hI hi1;clear hi1;obtain⟨wp,hwp⟩:∃ wp,wc=wp:=⟨_,rfl⟩;rw [hwp] at HI ⊢;clear hwp;go_upto_region 9 with fail
  go_cut [5,53] (fun p b W=>∃ bb,p=.pointer (some ⟨TB+1,0,none⟩)∧b=.bool bb∧(bb=true→2<n)∧SchI w W g TB n v idk b1 false false [])
  case first =>
   by_cases hcn:2<n
   · have hcn':((2:Nat):Int)<(n:Int):=by omega
     go_wp2_with fail
     refine(ZaK g 3 _ (by omega) (by omega) HI.out.case).mono ?_;rintro e wa ⟨bb,rfl,hcb,hgb,hsb⟩;have HI:=hI (HI.out.keep hgb hcb);clear hcb hgb hsb
     go_wp2_with fail
     go_meet;exact⟨bb,rfl,rfl,fun _=>hcn,HI.out⟩
   · have hcn':decide ((2:Int)<(n:Int))=false:=decide_eq_false (by omega);have hcn2:decide (2<n)=false:=decide_eq_false hcn
     go_wp2_with fail
     go_meet;exact⟨false,rfl,rfl,(fun h=>by cases h),HI.out⟩
  case rest =>
  obtain⟨bb,rfl,rfl,hbn,hi1⟩:=hcut;have HBN:=hI hbn;have HI:=hI hi1;clear hi1 hbn;obtain⟨wp,hwp⟩:∃ wp,wc=wp:=⟨_,rfl⟩;rw [hwp] at HI ⊢;clear hwp;go_upto_if 53 with fail
  go_cut [5] (fun p W=>∃ bq,p=.pointer (some ⟨TB+1,0,none⟩)∧SchI w W g TB n v idk b1 bq false [])
  case first =>
   cases bb
   · go_wp2_with fail
     go_meet;exact⟨false,rfl,HI.out⟩
   · have hcn:=HBN.out rfl;obtain⟨⟨x8,hx8⟩,hf8⟩:=HI.out.cell (k:=13) (by omega);have s1:wp.cell? ⟨TB+1,1,none⟩=some (.slice (some ⟨TB,0,none⟩) n 4):=Zaa HI.out.sb 1 _ rfl;have hlT:TB<wp.heap.size:=(by obtain⟨_,q,_⟩:=HI.out.tb;exact Zad q);have hlS:TB+1<wp.heap.size:=Zad HI.out.sb;have hlT2:TB<wp.heap.size+1:=(by omega);have hlS2:TB+1<wp.heap.size+1:=(by omega);have hlo:w.heap.size<wp.heap.size:=by have:=HI.out.lo;omega
     go_wp2_with fail
     go_meet;have hb:Below wp.heap.size wp ((wp.alloc (.cells #[.int .i64 0] 3)).alloc (.cells #[.slice (some ⟨wp.heap.size,0,none⟩) 1 1,.int .i64 0] 96)):=((Below.refl _ _).alloc nR _).alloc (by simp) _;have hfin:=(HI.out.below hb).ref2 nR (Zhb hlo hlS hgl);rw [World.setCell_alloc_past _ _ _ _ (by simp;omega),World.setCell_alloc_past _ _ _ _ (by omega)] at hfin;exact⟨true,rfl,hfin⟩
  case rest =>
  obtain⟨b2,rfl,hi1⟩:=hcut;have HI:=hI hi1;clear hi1;obtain⟨wp,hwp⟩:∃ wp,wc=wp:=⟨_,rfl⟩;rw [hwp] at HI ⊢;clear hwp;go_upto_region 11 with fail
  go_cut [5,66] (fun p b W=>∃ bb,p=.pointer (some ⟨TB+1,0,none⟩)∧b=.bool bb∧(bb=true→3<n)∧SchI w W g TB n v idk b1 b2 false [])
  case first =>
   by_cases hcn:3<n
   · have hcn':((3:Nat):Int)<(n:Int):=by omega
     go_wp2_with fail
     refine(ZaK g 3 _ (by omega) (by omega) HI.out.case).mono ?_;rintro e wa ⟨bb,rfl,hcb,hgb,hsb⟩;have HI:=hI (HI.out.keep hgb hcb);clear hcb hgb hsb
     go_wp2_with fail
     go_meet;exact⟨bb,rfl,rfl,fun _=>hcn,HI.out⟩
   · have hcn':decide ((3:Int)<(n:Int))=false:=decide_eq_false (by omega);have hcn2:decide (3<n)=false:=decide_eq_false hcn
     go_wp2_with fail
     go_meet;exact⟨false,rfl,rfl,(fun h=>by cases h),HI.out⟩
  case rest =>
  obtain⟨bb,rfl,rfl,hbn,hi1⟩:=hcut;have HBN:=hI hbn;have HI:=hI hi1;clear hi1 hbn;obtain⟨wp,hwp⟩:∃ wp,wc=wp:=⟨_,rfl⟩;rw [hwp] at HI ⊢;clear hwp;go_upto_if 66 with fail
  go_cut [5] (fun p W=>∃ bq,p=.pointer (some ⟨TB+1,0,none⟩)∧SchI w W g TB n v idk b1 b2 bq [])
  case first =>
   cases bb
   · go_wp2_with fail
     go_meet;exact⟨false,rfl,HI.out⟩
   · have hcn:=HBN.out rfl;obtain⟨⟨x8,hx8⟩,hf8⟩:=HI.out.cell (k:=18) (by omega);have s1:wp.cell? ⟨TB+1,1,none⟩=some (.slice (some ⟨TB,0,none⟩) n 4):=Zaa HI.out.sb 1 _ rfl;have hlT:TB<wp.heap.size:=(by obtain⟨_,q,_⟩:=HI.out.tb;exact Zad q);have hlS:TB+1<wp.heap.size:=Zad HI.out.sb;have hlT2:TB<wp.heap.size+1:=(by omega);have hlS2:TB+1<wp.heap.size+1:=(by omega);have hlo:w.heap.size<wp.heap.size:=by have:=HI.out.lo;omega
     go_wp2_with fail
     go_meet;have hb:Below wp.heap.size wp ((wp.alloc (.cells #[.int .i64 0] 3)).alloc (.cells #[.slice (some ⟨wp.heap.size,0,none⟩) 1 1,.int .i64 1] 96)):=((Below.refl _ _).alloc nR _).alloc (by simp) _;have hfin:=(HI.out.below hb).ref3 nR (Zhb hlo hlS hgl);rw [World.setCell_alloc_past _ _ _ _ (by simp;omega),World.setCell_alloc_past _ _ _ _ (by omega)] at hfin;exact⟨true,rfl,hfin⟩
  case rest =>
  obtain⟨b3,rfl,hi1⟩:=hcut;have HI:=hI hi1;clear hi1;obtain⟨wp,hwp⟩:∃ wp,wc=wp:=⟨_,rfl⟩;rw [hwp] at HI ⊢;clear hwp
  go_wp2_with fail
  refine(ZaK g 3 _ (by omega) (by omega) HI.out.case).mono ?_;rintro e wp ⟨bb,rfl,hcb,hgb,hsb⟩;have HI:=hI (HI.out.keep hgb hcb);clear hcb hgb hsb;go_upto_if 75 with fail
  go_cut [5] (fun p W=>∃ chk,p=.pointer (some ⟨TB+1,0,none⟩)∧SchI w W g TB n v idk b1 b2 b3 chk∧chk.length≤1∧∀ p ∈ chk,GenP [idk,4,5,3] [] 4 2 p)
  case first =>
   cases bb
   · go_wp2_with fail
     go_meet;exact⟨[],rfl,HI.out,by simp,fun p hp=>by simp at hp⟩
   · have s0:wp.cell? ⟨TB+1,0,none⟩=some (.int .i64 v):=Zaa HI.out.sb 0 _ rfl;have s1:wp.cell? ⟨TB+1,1,none⟩=some (.slice (some ⟨TB,0,none⟩) n 4):=Zaa HI.out.sb 1 _ rfl;have hlT:TB<wp.heap.size:=(by obtain⟨_,q,_⟩:=HI.out.tb;exact Zad q);have hlS:TB+1<wp.heap.size:=Zad HI.out.sb;have hn1:(1:Int)<(n:Int):=(by omega);have hlo:=HI.out.lo;have hgwp:g<wp.heap.size:=(by omega);have hlen:(Sch.tabs ⟨v,(Zau idk (rf0 b1 1 0) (rf0 b2 0 0) (rf0 b3 0 1) []).take n⟩).length=n:=(by show (List.take n _).length=n;rw [List.length_take];have:(Zau idk (rf0 b1 1 0) (rf0 b2 0 0) (rf0 b3 0 1) []).length=4:=rfl;omega);have HKF:=hI (show Zbs (⟨v,(Zau idk (rf0 b1 1 0) (rf0 b2 0 0) (rf0 b3 0 1) []).take n⟩:Sch) 1=[idk,4,5,3] from kinds_gen hn2 hn4);have hKI:=Zfz (some ⟨TB,0,none⟩) 4 ⟨v,(Zau idk (rf0 b1 1 0) (rf0 b2 0 0) (rf0 b3 0 1) []).take n⟩ 1 (fun b=>b<wp.heap.size) wp.drew (((HI.out.tabS hn4).more (fun b hb=>hb.2.1)).keep (fun _ _=>rfl)) (fun b hb=>hb);rw [hlen] at hKI;have HKI:=hI hKI;clear hKI hlen
     go_wp2_with fail
     refine tS (fun w'=>w'.cell? ⟨TB+1,0,none⟩=some (.int .i64 v)∧w'.cell? ⟨TB+1,1,none⟩=some (.slice (some ⟨TB,0,none⟩) n 4)) 9 10 fun Q' HQ HP=>?_;refine tX 0 76 1 77 2 78 3 79 (bA 10 15) HP.out ⟨s0,s1⟩ ?_;refine anyT_one (i:=4) (o:=⟨some 80,_,_,_,_,_⟩) (L':=(bA 10 31)) rfl (by kernel_rfl) (by kernel_rfl) (fun K hK=>?_);have HK':=hI hK;clear hK;go_simp;refine(show Calls _ _ _ _ _ from HKI.out).mono ?_;rintro e wk ⟨A4,c4,rfl,h4,hc4,hn4',hb4⟩;have hb4':Below wp.heap.size wp wk:=(Below.refl _ wp).drew.trans hb4;have HI4:=hI (HI.out.below hb4');have H4:=hI h4;have HB4:=hI hb4';have hz4:=hb4'.size;have k0:=c9Q hb4' hlS s0;have k1:=c9Q hb4' hlS s1;clear hb4 hb4' h4 hc4 hn4';refine HK'.out _ _ (fun _=>⟨k0,k1⟩) ?_;clear HK' K
     try simp only [Act.put,psA,psB,psC]
     refine anyT_one (i:=5) (o:=⟨some 81,_,_,_,_,_⟩) (L':=(bA 10 63)) rfl (by kernel_rfl) (by kernel_rfl) (fun K hK=>?_);have HK':=hI hK;clear hK;go_simp;refine(show Calls _ _ _ _ _ from predicate_any g A4 none c4 0 (Zbs (⟨v,(Zau idk (rf0 b1 1 0) (rf0 b2 0 0) (rf0 b3 0 1) []).take n⟩:Sch) 1) [] (by rw [HKF.out];simp) (by simp) (by rw [HKF.out];simp) (by rw [HKF.out];rcases HID.out with rfl | rfl<;>rfl) rfl 1 (by omega) (fun b=>wp.heap.size≤b∧b<wk.heap.size) wk (H4.out.more (fun b hb=>hb)) IntS.nil_ (fun b hb=>⟨hb.2,by have:=hb.1;omega⟩) HI4.out.case).mono ?_;rintro e wt ⟨ao,ac,⟨alk,ali,⟨alvk,alvi,alvt⟩⟩,⟨ark,ari,⟨arvk,arvi,arvt⟩⟩,args,AA,ca,rfl,hgen,hps,hle,hlt,hrt,hct,hgt⟩;simp only at hlt hrt;rw [HKF.out] at hgen;have HGEN:=hI hgen;have HPS:=hI hps;have HLE:=hI hle;have HLT:=hI hlt;have HRT:=hI hrt;have HI5:=hI (HI4.out.keep hgt hct);have hzt:=hgt.size;have m0:wt.cell? ⟨TB+1,0,none⟩=some (.int .i64 v):=Zaa HI5.out.sb 0 _ rfl;have m1:wt.cell? ⟨TB+1,1,none⟩=some (.slice (some ⟨TB,0,none⟩) n 4):=Zaa HI5.out.sb 1 _ rfl;clear hgen hps hle hlt hrt hct hgt;refine HK'.out _ _ (fun _=>⟨m0,m1⟩) ?_;clear HK' K
     try simp only [Act.put,psA,psB,psC]
     refine anyT_one (i:=6) (o:=⟨some 82,_,_,_,_,_⟩) (L':=(bA 10 127)) rfl (by kernel_rfl) (by kernel_rfl) (fun K hK=>?_);have HK':=hI hK;clear hK;go_simp;have l0:(wt.alloc (.cells #[.int .i64 ao,.int .i64 ac,.int .i64 alk,.int .i64 ali,.int .i64 alvk,.int .i64 alvi,.string alvt,.int .i64 ark,.int .i64 ari,.int .i64 arvk,.int .i64 arvi,.string arvt,.slice AA args.length ca] 100)).cell? ⟨TB+1,0,none⟩=_:=(Zah (by omega)).trans m0;have l1:(wt.alloc (.cells #[.int .i64 ao,.int .i64 ac,.int .i64 alk,.int .i64 ali,.int .i64 alvk,.int .i64 alvi,.string alvt,.int .i64 ark,.int .i64 ari,.int .i64 arvk,.int .i64 arvi,.string arvt,.slice AA args.length ca] 100)).cell? ⟨TB+1,1,none⟩=_:=(Zah (by omega)).trans m1;refine HK'.out _ _ (fun _=>⟨l0,l1⟩) ?_;clear HK' K
     try simp only [Act.put,psA,psB,psC]
     refine anyT_one (i:=7) (o:=⟨some 83,_,_,_,_,_⟩) (L':=(bA 10 255)) rfl (by kernel_rfl) (by kernel_rfl) (fun K hK=>?_);have HK':=hI hK;clear hK;go_simp;refine HK'.out _ _ (fun _=>⟨l0,l1⟩) ?_;clear HK' K
     try simp only [Act.put,psA,psB,psC]
     refine anyT_one (i:=8) (o:=⟨some 84,_,_,_,_,_⟩) (L':=(bA 10 511)) rfl (by kernel_rfl) (by kernel_rfl) (fun K hK=>?_);have HK':=hI hK;clear hK;go_simp;refine HK'.out _ _ (fun _=>⟨l0,l1⟩) ?_;clear HK' K
     try simp only [Act.put,psA,psB,psC]
     obtain⟨⟨x9,hx9⟩,hf9⟩:=HI5.out.cell (k:=9) (by omega);have hlT5:TB<wt.heap.size:=(by omega);refine anyT_one (i:=9) (o:=⟨none,_,_,_,_,_⟩) (L':=(bA 10 1023)) rfl (by kernel_rfl) (by kernel_rfl) (fun K hK=>?_);have HK':=hI hK;clear hK;go_simp;refine HK'.out _ _ (fun h=>absurd rfl h) ?_;clear HK' K;refine tE HQ ?_;clear HQ HP Q';have HI6:=hI (show SchI w ((wt.alloc (.cells #[.int .i64 ao,.int .i64 ac,.int .i64 alk,.int .i64 ali,.int .i64 alvk,.int .i64 alvi,.string alvt,.int .i64 ark,.int .i64 ari,.int .i64 arvk,.int .i64 arvi,.string arvt,.slice AA args.length ca] 100)).setCell ⟨TB,9,none⟩ (.slice (some ⟨wt.heap.size,0,none⟩) 1 1)) g TB n v idk b1 b2 b3 [(.mk ao ac ⟨alk,ali,⟨alvk,alvi,alvt⟩⟩ ⟨ark,ari,⟨arvk,arvi,arvt⟩⟩ args)] from (HI5.out.below ((Below.refl _ wt).alloc nR _)).chk1 nR (Sl.of_vals (by rw [Zag (n:=136) Zcd];simp) (ZaA (ZeO HLE.out (by have:=HLT.out;omega) (by have:=HRT.out;omega) ((HPS.out.keep (fun b hb=>Below.heap_alloc _ _ _ hb.2)).more (fun b hb=>⟨by have:=hb.1;omega,by have:=hb.2;simp;omega,by have:=hb.1;omega,by have:=hb.1;omega,by have:=hb.1;omega⟩)))) (fun _=>⟨wt.heap.size,0,rfl,⟨by omega,by simp,by omega,by omega,by omega⟩,Zaa (heap_alloc_new wt _)⟩)))
     go_wp2_with fail
     go_meet;have hfin:=HI6.out;refine⟨[(.mk ao ac ⟨alk,ali,⟨alvk,alvi,alvt⟩⟩ ⟨ark,ari,⟨arvk,arvi,arvt⟩⟩ args)],rfl,?_,by simp,fun p hp=>by rw [List.mem_singleton] at hp;rw [hp];exact HGEN.out⟩
     first | exact hfin | (rw [World.setCell_alloc_past _ _ _ _ (by omega)] at hfin;exact hfin)
  case rest =>
  obtain⟨chk,rfl,hi1,hc1,hcp⟩:=hcut;have HI:=hI hi1;have HC1:=hI hc1;have HCP:=hI hcp;have s0:wc.cell? ⟨TB+1,0,none⟩=some (.int .i64 v):=Zaa hi1.sb 0 _ rfl;have s1:wc.cell? ⟨TB+1,1,none⟩=some (.slice (some ⟨TB,0,none⟩) n 4):=Zaa hi1.sb 1 _ rfl;have r0:wc.cell? ⟨w.heap.size,0,none⟩=some (.int .i64 0):=Zaa hi1.rb 0 _ rfl;have r1:wc.cell? ⟨w.heap.size,1,none⟩=some (.slice none 0 0):=Zaa hi1.rb 1 _ rfl;have rf:wc.frozen? ⟨w.heap.size,0,none⟩=false:=(by simp [World.frozen?,hi1.rb]);have rf1:wc.frozen? ⟨w.heap.size,1,none⟩=false:=(by simp [World.frozen?,hi1.rb]);have hlS:TB+1<wc.heap.size:=Zad hi1.sb;have hlR:w.heap.size<wc.heap.size:=(by have:=hi1.lo;omega);clear hi1 hc1 hcp
  go_wp2_with fail
  have hr1:wc.heap[w.heap.size]?=some (.cells [.int .i64 0,.slice none 0 0].toArray 25 (0,0)):=HI.out.rb;have hb2:=Zaf (k:=1) (v:=.slice (some ⟨TB,0,none⟩) n 4) (Zaf (k:=0) (v:=.int .i64 v) hr1);have u0:=Zaa (cs:=#[.int .i64 v,.slice (some ⟨TB,0,none⟩) n 4]) hb2 0 _ rfl;have u1:=Zaa (cs:=#[.int .i64 v,.slice (some ⟨TB,0,none⟩) n 4]) hb2 1 _ rfl;have hlen:((Zau idk (rf0 b1 1 0) (rf0 b2 0 0) (rf0 b3 0 1) chk).take n).length=n:=(by rw [List.length_take];have:(Zau idk (rf0 b1 1 0) (rf0 b2 0 0) (rf0 b3 0 1) chk).length=4:=rfl;omega);have htab:=(HI.out.tabS hn4).keep (w':=(wc.setCell ⟨w.heap.size,0,none⟩ (.int .i64 v)).setCell ⟨w.heap.size,1,none⟩ (.slice (some ⟨TB,0,none⟩) n 4)) (fun b hb=>(Below.heap_setCell _ ⟨w.heap.size,1,none⟩ _ b (by have:=hb.1;show b≠w.heap.size;omega)).trans (Below.heap_setCell _ ⟨w.heap.size,0,none⟩ _ b (by have:=hb.1;show b≠w.heap.size;omega)));exact bodyPost_ret (v:=.agg #[.int .i64 v,.slice (some ⟨TB,0,none⟩) n 4]) (by simp [results,Try.results12,go_sem,u0,u1]) rfl ⟨⟨v,(Zau idk (rf0 b1 1 0) (rf0 b2 0 0) (rf0 b3 0 1) chk).take n⟩,some ⟨TB,0,none⟩,4,by show _=Ending.returned (.agg #[.int .i64 v,.slice (some ⟨TB,0,none⟩) (List.take n _).length 4]);rw [hlen],⟨n,v,idk,b1,b2,b3,chk,⟨rfl,hn2,hn4,v0',by omega,HID.out,HC1.out,HCP.out⟩⟩,by show (List.take n _).length≤4;omega,htab.more (fun b hb=>⟨hb.1,by have:=hb.2.1;simp;omega⟩),Zab (Zab HI.out.case hgl) hgl,Zac (Zac HI.out.gr nR) nR⟩
abbrev Rng (g:Nat) (W:World):Nat→Prop:=fun b=>g<b∧b<W.heap.size
section
variable {w W W':World} {g n:Nat}
theorem ZdC (h:Below n w W) (hg:W.grownBy W' (some g)) (hn:n≤g) (hw:n≤W.heap.size):Below n w W' :=
 h.trans ⟨hg.os,hg.tape,hg.output,hg.size,fun b hb=>hg.block b (by omega) (fun e=>by injection e with e;omega)⟩
theorem ZgT:∀ (st:St) (k:Nat),(∀ j,(st.getD j []).length≤k)→Zak st≤st.length*k
 | [],k,_=>by simp [Zak]
 | l :: st,k,h=>by
  have h0:=h 0;have ih:=ZgT st k (fun j=>by have:=h (j+1);simpa using this);have h0':l.length≤k:=(by simpa using h0);simp only [Zak,List.length_cons,Nat.succ_mul];omega
end
end Go.Proofs.Ytkpjjfhfbpfjpaa
