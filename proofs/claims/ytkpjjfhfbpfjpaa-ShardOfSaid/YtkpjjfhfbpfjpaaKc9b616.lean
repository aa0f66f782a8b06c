import Derived.Test.YtkpjjfhfbpfjpaaK6b6f2e
import Derived.Test.YtkpjjfhfbpfjpaaKf89ebb
import Derived.Test.YtkpjjfhfbpfjpaaKea4fe2
import Derived.Test.YtkpjjfhfbpfjpaaK64d55c
set_option linter.unusedVariables false
set_option linter.unusedSimpArgs false
set_option maxRecDepth 100000
set_option maxHeartbeats 8000000
namespace Go.Proofs.Ytkpjjfhfbpfjpaa
def Zax (l:List Int) (o:Opd):Int:=if o.index<0∨(l.length:Int)≤o.index∨o.value≠v0 then 0 else l.getD o.index.toNat 0
def Zaf (cols params:List Int) (o:Opd):Int :=
 if o.kind=3 then (if o.index≠0∨ZcT o.value=false then 0 else o.value.k)
 else if o.kind=2 then Zax params o else if o.kind=1 then Zax cols o else 0
def ZfJ (o:Opd):Bool:=decide (o.kind=0)&&decide (o.index=0)&&decide (o.value=v0)
def Zco (cmp:Int) (l r:Opd):Bool:=decide (cmp=0)&&ZfJ l&&ZfJ r
mutual
def predOk (cols params:List Int):Pred→Bool
 | .mk op cmp l r args =>
  if op=3 then decide (args.length=0)&&decide (1≤cmp)&&decide (cmp≤6)&&decide (Zaf cols params l≠0)&&decide (Zaf cols params l=Zaf cols params r)
  else if op=1∨op=2 then decide (args.length=0)&&Zco cmp l r
  else if op=6 then decide (args.length=1)&&Zco cmp l r&&predsOk cols params args
  else if op=4∨op=5 then Zco cmp l r&&predsOk cols params args
  else false
def predsOk (cols params:List Int):List Pred→Bool
 | []=>true
 | p :: r=>predOk cols params p&&predsOk cols params r
end
theorem ZaZ (cols params:List Int) (l:List Pred) (k:Nat) (h:k<l.length):predsOk cols params (l.drop k)=(predOk cols params (l.getD k p0)&&predsOk cols params (l.drop (k+1))):=by
 rw [List.drop_eq_getElem_cons h];have e1:l.getD k p0=l[k]:=(by simp [List.getD,h]);rw [e1]
 conv=>lhs;unfold predsOk
theorem Zdz (cols params:List Int):∀ l:List Pred,(∀ p ∈ l,predOk cols params p=true)→predsOk cols params l=true
 | [],_=>by unfold predsOk;rfl
 | p :: r,h=>by
  unfold predsOk;rw [h p (by simp),Zdz cols params r (fun q hq=>h q (by simp [hq]))];rfl
def pcFF (ks ps:List Int) (p:Pred):Int:=if Zat ks=false∨Zat ps=false then 1 else if (smallP p 1 24).1=false then 2 else if predOk ks ps p=false then 50 else 0
abbrev pcF (ks:List Int) (p:Pred):Int:=pcFF ks [] p
mutual
def cntP:Pred→Nat
 | .mk _ _ _ _ a=>1+cntL a
def cntL:List Pred→Nat
 | []=>0
 | p :: r=>cntP p+cntL r
end
mutual
def depP:Pred→Nat
 | .mk _ _ _ _ a=>1+depL a
def depL:List Pred→Nat
 | []=>0
 | p :: r=>max (depP p) (depL r)
end
mutual
theorem smallP_spec:∀ (p:Pred) (lv b:Int),0≤b→1≤lv→lv≤9→((cntP p:Int)≤b∧lv - 1+depP p≤8→smallP p lv b=(true,b - cntP p))∧(¬ ((cntP p:Int)≤b∧lv - 1+depP p≤8)→(smallP p lv b).1=false)
 | .mk _ _ _ _ a,lv,b,hb,h1,h9=>by
  unfold cntP depP smallP
  by_cases hc:b - 1<0∨8<lv
  · rw [if_pos hc];refine⟨fun h=>?_,fun _=>rfl⟩;omega
  · rw [if_neg hc];have h:=smallL_spec a (lv+1) (b - 1) (by omega) (by omega) (by omega);refine⟨fun hh=>?_,fun hh=>h.2 (by omega)⟩;rw [h.1 (by omega)]
    congr 1
    omega
theorem smallL_spec:∀ (l:List Pred) (lv b:Int),0≤b→1≤lv→lv≤9→((cntL l:Int)≤b∧lv - 1+depL l≤8→smallL l lv b=(true,b - cntL l))∧(¬ ((cntL l:Int)≤b∧lv - 1+depL l≤8)→(smallL l lv b).1=false)
 | [],lv,b,hb,h1,h9=>by
  unfold cntL depL smallL;exact⟨fun _=>by simp,fun h=>by omega⟩
 | p :: r,lv,b,hb,h1,h9=>by
  unfold cntL depL smallL;have hp:=smallP_spec p lv b hb h1 h9
  by_cases hc:(cntP p:Int)≤b∧lv - 1+depP p≤8
  · rw [hp.1 hc];simp only [if_true];have h:=smallL_spec r lv (b - cntP p) (by omega) h1 h9;refine⟨fun hh=>?_,fun hh=>h.2 (by omega)⟩;rw [h.1 (by omega)]
    congr 1
    omega
  · have:=hp.2 hc;rw [this];simp only [Bool.false_eq_true,if_false];exact⟨fun hh=>by omega,fun _=>trivial⟩
end
theorem ZeB (p:Pred):(smallP p 1 24).1=(decide (cntP p≤24)&&decide (depP p≤8)):=by
 have h:=smallP_spec p 1 24 (by omega) (by omega) (by omega)
 by_cases hc:(cntP p:Int)≤24∧(1:Int) - 1+depP p≤8
 · rw [h.1 hc];have h1:cntP p≤24:=(by omega);have h2:depP p≤8:=(by omega);simp [h1,h2]
 · rw [h.2 hc]
   by_cases h1:cntP p≤24
   · have h2:¬ depP p≤8:=(by omega);simp [h2]
   · simp [h1]
def GenP (cols params:List Int) (n d:Nat) (p:Pred):Prop:=predOk cols params p=true∧cntP p≤n∧depP p≤d
theorem GenP.ok {ks ps:List Int} {n d:Nat} {p:Pred} (h:GenP ks ps n d p) (hn:n≤24) (hd:d≤8) (hk:Zat ks=true) (hp:Zat ps=true):pcFF ks ps p=0:=by
 unfold pcFF;rw [ZeB,h.1,hk,hp];have h1:cntP p≤24:=Nat.le_trans h.2.1 hn;have h2:depP p≤8:=Nat.le_trans h.2.2 hd;simp [h1,h2]
theorem genL {ks ps:List Int} {n d:Nat}:∀ l:List Pred,(∀ p ∈ l,GenP ks ps n d p)→cntL l≤l.length*n∧depL l≤d
 | [],_=>by simp [cntL,depL]
 | p :: r,h=>by
  have h1:=h p (by simp);have h2:=genL r (fun q hq=>h q (by simp [hq]));unfold cntL depL;rw [List.length_cons,Nat.succ_mul];exact⟨by have:=h1.2.1;omega,by have:=h1.2.2;omega⟩
theorem GenP.node {ks ps:List Int} {n d m:Nat} {op:Int} {l:List Pred} (h:∀ p ∈ l,GenP ks ps n d p) (hl:l.length≤m) (hop:(op=6∧l.length=1)∨op=4∨op=5):GenP ks ps (1+m*n) (d+1) (.mk op 0 ⟨0,0,v0⟩ ⟨0,0,v0⟩ l):=by
 have hg:=genL l h;have hb:Zco 0 ⟨0,0,v0⟩ ⟨0,0,v0⟩=true:=(by decide);have hk:=Zdz ks ps l (fun p hp=>(h p hp).1);have hm:l.length*n≤m*n:=Nat.mul_le_mul_right n hl;refine⟨?_,by unfold cntP;omega,by unfold depP;omega⟩;unfold predOk;rcases hop with ⟨rfl,h1⟩ | rfl | rfl
 · simp [hb,hk,h1]
 · simp [hb,hk]
 · simp [hb,hk]
theorem GenP.leaf {ks ps:List Int} {op:Int} (hop:op=1∨op=2):GenP ks ps 1 1 (.mk op 0 ⟨0,0,v0⟩ ⟨0,0,v0⟩ []):=by
 have hb:Zco 0 ⟨0,0,v0⟩ ⟨0,0,v0⟩=true:=(by decide);refine⟨?_,by unfold cntP cntL;omega,by unfold depP depL;omega⟩;unfold predOk;rcases hop with rfl | rfl<;>simp [hb]
theorem GenP.cmp {ks ps:List Int} {c k:Int} {l r:Opd} (h1:1≤c) (h6:c≤6) (hk:k≠0) (hl:Zaf ks ps l=k) (hr:Zaf ks ps r=k):GenP ks ps 1 1 (.mk 3 c l r []):=by
 refine⟨?_,by unfold cntP cntL;omega,by unfold depP depL;omega⟩;unfold predOk;simp [h1,h6,hl,hr,hk]
theorem GenP.more {ks ps:List Int} {n n' d d':Nat} {p:Pred} (h:GenP ks ps n d p) (hn:n≤n') (hd:d≤d'):GenP ks ps n' d' p:=⟨h.1,Nat.le_trans h.2.1 hn,Nat.le_trans h.2.2 hd⟩
abbrev nProjects:ByteArray:=⟨#[112,114,111,106,101,99,116,115]⟩
abbrev nId:ByteArray:=⟨#[105,100]⟩
abbrev Zft:ByteArray:=⟨#[111,119,110,101,114]⟩
abbrev nTasks:ByteArray:=⟨#[116,97,115,107,115]⟩
abbrev nProject:ByteArray:=⟨#[112,114,111,106,101,99,116]⟩
abbrev nTitle:ByteArray:=⟨#[116,105,116,108,101]⟩
abbrev nDone:ByteArray:=⟨#[100,111,110,101]⟩
abbrev nMembers:ByteArray:=⟨#[109,101,109,98,101,114,115]⟩
abbrev ZeS:ByteArray:=⟨#[112,101,114,115,111,110]⟩
abbrev nArchived:ByteArray:=⟨#[97,114,99,104,105,118,101,100]⟩
abbrev nTask:ByteArray:=⟨#[116,97,115,107]⟩
def ZdF:List Col:=[⟨nId,4⟩,⟨Zft,4⟩]
def Zcf (id:Int):List Col:=[⟨nId,id⟩,⟨nProject,4⟩,⟨nTitle,5⟩,⟨nDone,3⟩]
def Zcw:List Col:=[⟨nProject,4⟩,⟨ZeS,4⟩]
def Zce (id:Int):List Col:=[⟨nTask,id⟩]
def Zav (id:Int) (r1 r2 r3:List Rfr) (chk:List Pred):List Tab :=
 [⟨nProjects,ZdF,1,[],[]⟩,⟨nTasks,Zcf id,1,r1,chk⟩,⟨nMembers,Zcw,2,r2,[]⟩,⟨nArchived,Zce id,1,r3,[]⟩]
abbrev rf0 (b:Bool) (c t:Int):List Rfr:=if b then [⟨[c],t⟩] else []
structure GenSp (s:Sch) (n:Nat) (v id:Int) (b1 b2 b3:Bool) (chk:List Pred):Prop where
 eq:s=⟨v,(Zav id (rf0 b1 1 0) (rf0 b2 0 0) (rf0 b3 0 1) chk).take n⟩
 n2:2≤n
 n4:n≤4
 ver0:0≤v
 ver2:v≤2
 idk:id=4∨id=5
 c1:chk.length≤1
 cp:∀ p ∈ chk,GenP [id,4,5,3] [] 4 2 p
def GenS (s:Sch):Prop:=∃ n v id b1 b2 b3 chk,GenSp s n v id b1 b2 b3 chk
section
variable {s:Sch} {t:Int} {key:Row} {l a b:List Row} {o:Option Row}
end
section
variable {s:Sch} {t:Int}
end
section
variable {s:Sch} {m:Int}
end
section
variable {s:Sch} {m:Int}
end
end Go.Proofs.Ytkpjjfhfbpfjpaa
