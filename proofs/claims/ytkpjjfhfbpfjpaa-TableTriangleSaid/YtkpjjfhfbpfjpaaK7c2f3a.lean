import Derived.Test.YtkpjjfhfbpfjpaaK42e91f
set_option linter.unusedVariables false
set_option linter.unusedSimpArgs false
set_option maxRecDepth 100000
set_option maxHeartbeats 8000000
namespace Go.Proofs.Ytkpjjfhfbpfjpaa
def ZaH (l:List Int) (o:Opd):Int:=if o.index<0∨(l.length:Int)≤o.index∨o.value≠v0 then 0 else l.getD o.index.toNat 0
def Zai (cols params:List Int) (o:Opd):Int :=
 if o.kind=3 then (if o.index≠0∨Zee o.value=false then 0 else o.value.k)
 else if o.kind=2 then ZaH params o else if o.kind=1 then ZaH cols o else 0
def zeroO (o:Opd):Bool:=decide (o.kind=0)&&decide (o.index=0)&&decide (o.value=v0)
def Zdr (cmp:Int) (l r:Opd):Bool:=decide (cmp=0)&&zeroO l&&zeroO r
mutual
def predOk (cols params:List Int):Pred→Bool
 | .mk op cmp l r args =>
  if op=3 then decide (args.length=0)&&decide (1≤cmp)&&decide (cmp≤6)&&decide (Zai cols params l≠0)&&decide (Zai cols params l=Zai cols params r)
  else if op=1∨op=2 then decide (args.length=0)&&Zdr cmp l r
  else if op=6 then decide (args.length=1)&&Zdr cmp l r&&predsOk cols params args
  else if op=4∨op=5 then Zdr cmp l r&&predsOk cols params args
  else false
def predsOk (cols params:List Int):List Pred→Bool
 | []=>true
 | p :: r=>predOk cols params p&&predsOk cols params r
end
theorem ZbJ (cols params:List Int) (l:List Pred) (k:Nat) (h:k<l.length):predsOk cols params (l.drop k)=(predOk cols params (l.getD k p0)&&predsOk cols params (l.drop (k+1))):=by
 rw [List.drop_eq_getElem_cons h];have e1:l.getD k p0=l[k]:=(by simp [List.getD,h]);rw [e1]
 conv=>lhs;unfold predsOk
theorem ZeR (cols params:List Int):∀ l:List Pred,(∀ p ∈ l,predOk cols params p=true)→predsOk cols params l=true
 | [],_=>by unfold predsOk;rfl
 | p :: r,h=>by
  unfold predsOk;rw [h p (by simp),ZeR cols params r (fun q hq=>h q (by simp [hq]))];rfl
def pcFF (ks ps:List Int) (p:Pred):Int:=if ZaB ks=false∨ZaB ps=false then 1 else if (smallP p 1 24).1=false then 2 else if predOk ks ps p=false then 50 else 0
abbrev pcF (ks:List Int) (p:Pred):Int:=pcFF ks [] p
mutual
def cntP:Pred→Nat
 | .mk _ _ _ _ a=>1+cntL a
def cntL:List Pred→Nat
 | []=>0
 | p :: r=>cntP p+cntL r
end
mutual
def depP:Pred→Nat
 | .mk _ _ _ _ a=>1+depL a
def depL:List Pred→Nat
 | []=>0
 | p :: r=>max (depP p) (depL r)
end
mutual
theorem smallP_spec:∀ (p:Pred) (lv b:Int),0≤b→1≤lv→lv≤9→((cntP p:Int)≤b∧lv - 1+depP p≤8→smallP p lv b=(true,b - cntP p))∧(¬ ((cntP p:Int)≤b∧lv - 1+depP p≤8)→(smallP p lv b).1=false)
 | .mk _ _ _ _ a,lv,b,hb,h1,h9=>by
  unfold cntP depP smallP
  by_cases hc:b - 1<0∨8<lv
  · rw [if_pos hc];refine⟨fun h=>?_,fun _=>rfl⟩;omega
  · rw [if_neg hc];have h:=smallL_spec a (lv+1) (b - 1) (by omega) (by omega) (by omega);refine⟨fun hh=>?_,fun hh=>h.2 (by omega)⟩;rw [h.1 (by omega)]
    congr 1
    omega
theorem smallL_spec:∀ (l:List Pred) (lv b:Int),0≤b→1≤lv→lv≤9→((cntL l:Int)≤b∧lv - 1+depL l≤8→smallL l lv b=(true,b - cntL l))∧(¬ ((cntL l:Int)≤b∧lv - 1+depL l≤8)→(smallL l lv b).1=false)
 | [],lv,b,hb,h1,h9=>by
  unfold cntL depL smallL;exact⟨fun _=>by simp,fun h=>by omega⟩
 | p :: r,lv,b,hb,h1,h9=>by
  unfold cntL depL smallL;have hp:=smallP_spec p lv b hb h1 h9
  by_cases hc:(cntP p:Int)≤b∧lv - 1+depP p≤8
  · rw [hp.1 hc];simp only [if_true];have h:=smallL_spec r lv (b - cntP p) (by omega) h1 h9;refine⟨fun hh=>?_,fun hh=>h.2 (by omega)⟩;rw [h.1 (by omega)]
    congr 1
    omega
  · have:=hp.2 hc;rw [this];simp only [Bool.false_eq_true,if_false];exact⟨fun hh=>by omega,fun _=>trivial⟩
end
theorem Zgu (p:Pred):(smallP p 1 24).1=(decide (cntP p≤24)&&decide (depP p≤8)):=by
 have h:=smallP_spec p 1 24 (by omega) (by omega) (by omega)
 by_cases hc:(cntP p:Int)≤24∧(1:Int) - 1+depP p≤8
 · rw [h.1 hc];have h1:cntP p≤24:=(by omega);have h2:depP p≤8:=(by omega);simp [h1,h2]
 · rw [h.2 hc]
   by_cases h1:cntP p≤24
   · have h2:¬ depP p≤8:=(by omega);simp [h2]
   · simp [h1]
def GenP (cols params:List Int) (n d:Nat) (p:Pred):Prop:=predOk cols params p=true∧cntP p≤n∧depP p≤d
theorem GenP.ok {ks ps:List Int} {n d:Nat} {p:Pred} (h:GenP ks ps n d p) (hn:n≤24) (hd:d≤8) (hk:ZaB ks=true) (hp:ZaB ps=true):pcFF ks ps p=0:=by
 unfold pcFF;rw [Zgu,h.1,hk,hp];have h1:cntP p≤24:=Nat.le_trans h.2.1 hn;have h2:depP p≤8:=Nat.le_trans h.2.2 hd;simp [h1,h2]
theorem genL {ks ps:List Int} {n d:Nat}:∀ l:List Pred,(∀ p ∈ l,GenP ks ps n d p)→cntL l≤l.length*n∧depL l≤d
 | [],_=>by simp [cntL,depL]
 | p :: r,h=>by
  have h1:=h p (by simp);have h2:=genL r (fun q hq=>h q (by simp [hq]));unfold cntL depL;rw [List.length_cons,Nat.succ_mul];exact⟨by have:=h1.2.1;omega,by have:=h1.2.2;omega⟩
theorem GenP.node {ks ps:List Int} {n d m:Nat} {op:Int} {l:List Pred} (h:∀ p ∈ l,GenP ks ps n d p) (hl:l.length≤m) (hop:(op=6∧l.length=1)∨op=4∨op=5):GenP ks ps (1+m*n) (d+1) (.mk op 0 ⟨0,0,v0⟩ ⟨0,0,v0⟩ l):=by
 have hg:=genL l h;have hb:Zdr 0 ⟨0,0,v0⟩ ⟨0,0,v0⟩=true:=(by decide);have hk:=ZeR ks ps l (fun p hp=>(h p hp).1);have hm:l.length*n≤m*n:=Nat.mul_le_mul_right n hl;refine⟨?_,by unfold cntP;omega,by unfold depP;omega⟩;unfold predOk;rcases hop with ⟨rfl,h1⟩ | rfl | rfl
 · simp [hb,hk,h1]
 · simp [hb,hk]
 · simp [hb,hk]
theorem GenP.leaf {ks ps:List Int} {op:Int} (hop:op=1∨op=2):GenP ks ps 1 1 (.mk op 0 ⟨0,0,v0⟩ ⟨0,0,v0⟩ []):=by
 have hb:Zdr 0 ⟨0,0,v0⟩ ⟨0,0,v0⟩=true:=(by decide);refine⟨?_,by unfold cntP cntL;omega,by unfold depP depL;omega⟩;unfold predOk;rcases hop with rfl | rfl<;>simp [hb]
theorem GenP.cmp {ks ps:List Int} {c k:Int} {l r:Opd} (h1:1≤c) (h6:c≤6) (hk:k≠0) (hl:Zai ks ps l=k) (hr:Zai ks ps r=k):GenP ks ps 1 1 (.mk 3 c l r []):=by
 refine⟨?_,by unfold cntP cntL;omega,by unfold depP depL;omega⟩;unfold predOk;simp [h1,h6,hl,hr,hk]
theorem GenP.more {ks ps:List Int} {n n' d d':Nat} {p:Pred} (h:GenP ks ps n d p) (hn:n≤n') (hd:d≤d'):GenP ks ps n' d' p:=⟨h.1,Nat.le_trans h.2.1 hn,Nat.le_trans h.2.2 hd⟩
abbrev nProjects:ByteArray:=⟨#[112,114,111,106,101,99,116,115]⟩
abbrev nId:ByteArray:=⟨#[105,100]⟩
abbrev nOwner:ByteArray:=⟨#[111,119,110,101,114]⟩
abbrev nTasks:ByteArray:=⟨#[116,97,115,107,115]⟩
abbrev nProject:ByteArray:=⟨#[112,114,111,106,101,99,116]⟩
abbrev nTitle:ByteArray:=⟨#[116,105,116,108,101]⟩
abbrev nDone:ByteArray:=⟨#[100,111,110,101]⟩
abbrev nMembers:ByteArray:=⟨#[109,101,109,98,101,114,115]⟩
abbrev Zhd:ByteArray:=⟨#[112,101,114,115,111,110]⟩
abbrev nArchived:ByteArray:=⟨#[97,114,99,104,105,118,101,100]⟩
abbrev nTask:ByteArray:=⟨#[116,97,115,107]⟩
def Zey:List Col:=[⟨nId,4⟩,⟨nOwner,4⟩]
def Zcz (id:Int):List Col:=[⟨nId,id⟩,⟨nProject,4⟩,⟨nTitle,5⟩,⟨nDone,3⟩]
def Zdc:List Col:=[⟨nProject,4⟩,⟨Zhd,4⟩]
def ZcQ (id:Int):List Col:=[⟨nTask,id⟩]
def Zau (id:Int) (r1 r2 r3:List Rfr) (chk:List Pred):List Tab :=
 [⟨nProjects,Zey,1,[],[]⟩,⟨nTasks,Zcz id,1,r1,chk⟩,⟨nMembers,Zdc,2,r2,[]⟩,⟨nArchived,ZcQ id,1,r3,[]⟩]
abbrev rf0 (b:Bool) (c t:Int):List Rfr:=if b then [⟨[c],t⟩] else []
structure GenSp (s:Sch) (n:Nat) (v id:Int) (b1 b2 b3:Bool) (chk:List Pred):Prop where
 eq:s=⟨v,(Zau id (rf0 b1 1 0) (rf0 b2 0 0) (rf0 b3 0 1) chk).take n⟩
 n2:2≤n
 n4:n≤4
 ver0:0≤v
 ver2:v≤2
 idk:id=4∨id=5
 c1:chk.length≤1
 cp:∀ p ∈ chk,GenP [id,4,5,3] [] 4 2 p
def GenS (s:Sch):Prop:=∃ n v id b1 b2 b3 chk,GenSp s n v id b1 b2 b3 chk
theorem GenS.check {s:Sch} (h:GenS s):schF pcF s=0:=by
 obtain⟨n,v,id,b1,b2,b3,chk,rfl,h2,h4,hv0,hv2,hid,hc1,hcp⟩:=h
 have hchk:chkL pcF [id,4,5,3] chk=0:=by
  match chk,hc1,hcp with
  | [],_,_=>rfl
  | [p],_,hcp =>
   have:=(hcp p (by simp)).ok (by omega) (by omega) (by rcases hid with rfl | rfl<;>rfl) (show ZaB []=true from rfl);simp [chkL,this]
 have hn1:∀ n,2≤n→n≤4→ZaR [] ((Zau id (rf0 b1 1 0) (rf0 b2 0 0) (rf0 b3 0 1) chk).take n)=true:=by
  intro n h2 h4;have hn:n=2∨n=3∨n=4:=(by omega);rcases hid with rfl | rfl<;>rcases hn with rfl | rfl | rfl<;>rfl
 have hbig:((Zau id (rf0 b1 1 0) (rf0 b2 0 0) (rf0 b3 0 1) chk).take n).any bigT=false:=by
  have hc4:¬ 4<chk.length:=(by omega);have hn:n=2∨n=3∨n=4:=(by omega);rcases hn with rfl | rfl | rfl<;>cases b1<;>cases b2<;>cases b3<;>simp [Zau,bigT,Zey,Zcz,Zdc,ZcQ,hc4,rf0]
 have href:Zbr ((Zau id (rf0 b1 1 0) (rf0 b2 0 0) (rf0 b3 0 1) chk).take n) ((Zau id (rf0 b1 1 0) (rf0 b2 0 0) (rf0 b3 0 1) chk).take n)=true:=by
  have hn:n=2∨n=3∨n=4:=(by omega);rcases hn with rfl | rfl | rfl<;>cases b1<;>cases b2<;>cases b3<;>rcases hid with rfl | rfl<;>rfl
 have hl:((Zau id (rf0 b1 1 0) (rf0 b2 0 0) (rf0 b3 0 1) chk).take n).length≤4:=(by simp [Zau];omega)
 have hct:chkT pcF ((Zau id (rf0 b1 1 0) (rf0 b2 0 0) (rf0 b3 0 1) chk).take n)=0:=by
  have hn:n=2∨n=3∨n=4:=(by omega);rcases hn with rfl | rfl | rfl<;>simp [Zau,chkT,chkL,Zcz,hchk]
 unfold schF;rw [if_neg (show ¬ 8<(Sch.tabs ⟨v,(Zau id (rf0 b1 1 0) (rf0 b2 0 0) (rf0 b3 0 1) chk).take n⟩).length by show ¬ 8<List.length (List.take n _);omega)];rw [show (Sch.tabs ⟨v,(Zau id (rf0 b1 1 0) (rf0 b2 0 0) (rf0 b3 0 1) chk).take n⟩).any bigT=false from hbig];simp only [Bool.false_eq_true,if_false];rw [if_neg (by rw [hn1 n h2 h4,href];simp;omega)];exact hct
mutual
def nodesP:Pred→Int→Int
 | .mk _ _ _ _ a,n=>nodesL a (n+1)
def nodesL:List Pred→Int→Int
 | [],n=>n
 | p :: r,n=>if n≤24 then nodesL r (nodesP p n) else n
end
theorem nodesL_drop (l:List Pred) (n:Int) (k:Nat) (h:k<l.length):nodesL (l.drop k) n=if n≤24 then nodesL (l.drop (k+1)) (nodesP (l.getD k p0) n) else n:=by
 rw [List.drop_eq_getElem_cons h];have e1:l.getD k p0=l[k]:=(by simp [List.getD,h]);rw [e1]
 conv=>lhs;unfold nodesL
theorem Zeh (l:List Pred) (n:Int) (h:24<n):nodesL l n=n:=by
 cases l with
 | nil=>unfold nodesL;rfl
 | cons p r=>unfold nodesL;rw [if_neg (by omega)]
mutual
theorem nodesP_spec:∀ (p:Pred) (n:Int),n≤24→(cntP p+n≤24→nodesP p n=cntP p+n)∧(24<cntP p+n→nodesP p n=25)
 | .mk _ _ _ _ a,n,h=>by
  unfold nodesP cntP
  by_cases h1:n+1≤24
  · have:=nodesL_spec a (n+1) h1;exact⟨fun h2=>by rw [this.1 (by omega)];omega,fun h2=>this.2 (by omega)⟩
  · rw [Zeh a (n+1) (by omega)];exact⟨fun h2=>by omega,fun _=>by omega⟩
theorem nodesL_spec:∀ (l:List Pred) (n:Int),n≤24→(cntL l+n≤24→nodesL l n=cntL l+n)∧(24<cntL l+n→nodesL l n=25)
 | [],n,h=>by
  unfold nodesL cntL;exact⟨fun _=>by simp,fun h2=>by omega⟩
 | p :: r,n,h=>by
  unfold nodesL cntL;rw [if_pos h];have hp:=nodesP_spec p n h
  by_cases h1:cntP p+n≤24
  · rw [hp.1 h1];have:=nodesL_spec r (cntP p+n) h1;exact⟨fun h2=>by rw [this.1 (by omega)];omega,fun h2=>this.2 (by omega)⟩
  · rw [hp.2 (by omega),Zeh r 25 (by omega)];exact⟨fun h2=>by omega,fun _=>rfl⟩
end
mutual
def deepP:Pred→Int→Bool
 | .mk _ _ _ _ a,n=>if n=0 then true else deepL a (n - 1)
def deepL:List Pred→Int→Bool
 | [],_=>false
 | p :: r,n=>deepP p n||deepL r n
end
theorem deepL_drop (l:List Pred) (n:Int) (k:Nat) (h:k<l.length):deepL (l.drop k) n=(deepP (l.getD k p0) n||deepL (l.drop (k+1)) n):=by
 rw [List.drop_eq_getElem_cons h];have e1:l.getD k p0=l[k]:=(by simp [List.getD,h]);rw [e1]
 conv=>lhs;unfold deepL
mutual
theorem deepP_spec:∀ (p:Pred) (n:Int),0≤n→deepP p n=decide (n<depP p)
 | .mk _ _ _ _ a,n,h=>by
  unfold deepP depP
  by_cases h0:n=0
  · rw [if_pos h0,decide_eq_true (by omega)]
  · rw [if_neg h0,deepL_spec a (n - 1) (by omega)]
    by_cases h1:n - 1<(depL a:Int)
    · rw [decide_eq_true h1,decide_eq_true (by omega)]
    · rw [decide_eq_false h1,decide_eq_false (by omega)]
theorem deepL_spec:∀ (l:List Pred) (n:Int),0≤n→deepL l n=decide (n<depL l)
 | [],n,h=>by
  unfold deepL depL;rw [decide_eq_false (by omega)]
 | p :: r,n,h=>by
  unfold deepL depL;rw [deepP_spec p n h,deepL_spec r n h]
  by_cases h1:n<(depP p:Int)
  · rw [decide_eq_true h1,Bool.true_or];exact(decide_eq_true (by omega)).symm
  · rw [decide_eq_false h1,Bool.false_or]
    by_cases h2:n<(depL r:Int)
    · rw [decide_eq_true h2];exact(decide_eq_true (by omega)).symm
    · rw [decide_eq_false h2];exact(decide_eq_false (by omega)).symm
end
def Zed (ks ps:List Int) (p:Pred):Int:=if ZaB ks=false∨ZaB ps=false then 1 else if 24<nodesP p 0∨deepP p 8=true then 2 else if predOk ks ps p=false then 50 else 0
theorem rpcFF_eq (ks ps:List Int) (p:Pred):Zed ks ps p=pcFF ks ps p:=by
 have h1:=nodesP_spec p 0 (by omega);have h2:=deepP_spec p 8 (by omega);unfold Zed pcFF;rw [Zgu,h2]
 by_cases hc:cntP p≤24
 · rw [h1.1 (by omega)]
   by_cases hd:depP p≤8
   · rw [decide_eq_true hc,decide_eq_true hd,decide_eq_false (show ¬ (8:Int)<depP p by omega)];simp only [Bool.and_self,Bool.true_eq_false,if_false,Bool.false_eq_true,or_false,Int.add_zero];rw [if_neg (show ¬ (24:Int)<cntP p by omega)]
   · rw [decide_eq_false hd,decide_eq_true (show (8:Int)<depP p by omega)];simp
 · rw [h1.2 (by omega),decide_eq_false hc];simp
open Go.RowKit
abbrev kAgg (A B:Option Addr) (n m c d:Nat):Value:=.agg #[.slice A n c,.slice B m d]
theorem of_any (A B:Option Addr) (ca cb:Nat) (cols params:List Int) (o:Opd) (S:Nat→Prop) (w:World) (hA:IntS w S A cols) (hB:IntS w S B params) (hS:∀ b,S b→b<w.heap.size) (ht:o.value.t.size≤9223372036854775807) :
  Calls Try.prog 142 #[kAgg A B cols.length params.length ca cb,oAgg o] w (ZbV (Zai cols params o) w):=by
 obtain⟨ok,oi,⟨vk,vi,vt⟩⟩:=o;simp only at ht;have hal:=hA.len;have hbl:=hB.len;have HA:=hI hA;have HBB:=hI hB;clear hA hB;have HB0:=hI (((Below.refl w.heap.size w).alloc nR (.cells #[.slice A cols.length ca,.slice B params.length cb] 171)).alloc (by simp) (.cells #[.int .i64 ok,.int .i64 oi,.int .i64 vk,.int .i64 vi,.string vt] 98))
 by_cases h3:ok=3
 · subst h3
   by_cases hi:oi=0
   · subst hi;have hd:((0:Int) != 0)=false:=(by simp);go_enter Try.func142,Try.ntmps142
     go_wp2_with fail
     refine(real_any ⟨vk,vi,vt⟩ _ ht).mono ?_;rintro e w1 ⟨rfl,hb1⟩;have HB1:=hI (HB0.out.trans (hb1.mono (by first | (simp;done) | (simp;omega))));have g2:w1.cell? ⟨w.heap.size+1,2,none⟩=some (.int .i64 vk):=c9Q hb1 (by simp) (by simp);have hw1:w.heap.size+1<w1.heap.size:=(by have:=hb1.size;simp at this;omega);clear hb1
     by_cases hr:Zee ⟨vk,vi,vt⟩=true
     · have HF:=hI (show Zai cols params ⟨3,0,⟨vk,vi,vt⟩⟩=vk by simp [Zai,hr]);rw [hr];clear hr
       go_wp2_with fail
       go_ret;exact⟨by rw [HF.out];rfl,HB1.out⟩
     · have hr':Zee ⟨vk,vi,vt⟩=false:=(by simpa using hr);have HF:=hI (show Zai cols params ⟨3,0,⟨vk,vi,vt⟩⟩=0 by simp [Zai,hr']);rw [hr'];clear hr hr'
       go_wp2_with fail
       go_ret;exact⟨by rw [HF.out];rfl,HB1.out⟩
   · have hd:(oi != 0)=true:=(by simp [hi]);have HF:=hI (show Zai cols params ⟨3,oi,⟨vk,vi,vt⟩⟩=0 by simp [Zai,hi]);go_enter Try.func142,Try.ntmps142
     go_wp2_with fail
     go_ret;exact⟨by rw [HF.out];rfl,HB0.out⟩
 · have e3:(ok == 3)=false:=beq_eq_false_iff_ne.2 h3
   by_cases h2:ok=2
   · subst h2
     by_cases hi0:oi<0
     · have hd1:decide (oi<0)=true:=decide_eq_true hi0;have HF:=hI (show Zai cols params ⟨2,oi,⟨vk,vi,vt⟩⟩=0 by simp [Zai,ZaH,hi0]);go_enter Try.func142,Try.ntmps142
       go_wp2_with fail
       go_ret;exact⟨by rw [HF.out];rfl,HB0.out⟩
     · have hd1:decide (oi<0)=false:=decide_eq_false hi0;obtain⟨k,rfl⟩:=Int.eq_ofNat_of_zero_le (show 0≤oi by omega)
       by_cases hk:k<params.length
       · have hd2:decide ((params.length:Int)≤(k:Int))=false:=(by simp;omega);have hd3:decide (params.length≤k)=false:=by simp;omega
         by_cases z1:vk=0
         · subst z1
           by_cases z2:vi=0
           · subst z2
             by_cases z3:vt=⟨#[]⟩
             · subst z3;obtain⟨b1,o1,rfl,hb1,d1⟩:=HBB.out.at_ hk;have hl1:b1<w.heap.size:=hS b1 hb1;have hl2:b1<w.heap.size+1:=(by omega);have HF:=hI (show Zai cols params ⟨2,k,⟨0,0,⟨#[]⟩⟩⟩=params.getD k 0 by simp [Zai,ZaH];omega);generalize params.getD k 0=r at d1 HF;go_enter Try.func142,Try.ntmps142
               go_wp2_with fail
               go_ret;exact⟨by rw [HF.out];rfl,HB0.out⟩
             · have z4:(vt.toList == (⟨#[]⟩:ByteArray).toList)=false:=Zdp z3
               have z5:vt.toList.isEmpty=false:=by
                rw [←Bool.not_eq_true];intro h;apply z3;have h1:vt.toList=[]:=(by simpa using h);cases vt;rw [ByteArray.toList_eq] at h1;simpa using h1
               have HF:=hI (show Zai cols params ⟨2,k,⟨0,0,vt⟩⟩=0 by simp [Zai,ZaH,z3]);go_enter Try.func142,Try.ntmps142
               go_wp2_with fail
               go_ret;exact⟨by rw [HF.out];rfl,HB0.out⟩
           · have z4:(vi == 0)=false:=beq_eq_false_iff_ne.2 z2;have HF:=hI (show Zai cols params ⟨2,k,⟨0,vi,vt⟩⟩=0 by simp [Zai,ZaH,z2]);go_enter Try.func142,Try.ntmps142
             go_wp2_with fail
             go_ret;exact⟨by rw [HF.out];rfl,HB0.out⟩
         · have z4:(vk == 0)=false:=beq_eq_false_iff_ne.2 z1;have HF:=hI (show Zai cols params ⟨2,k,⟨vk,vi,vt⟩⟩=0 by simp [Zai,ZaH,z1]);go_enter Try.func142,Try.ntmps142
           go_wp2_with fail
           go_ret;exact⟨by rw [HF.out];rfl,HB0.out⟩
       · have hd2:decide ((params.length:Int)≤(k:Int))=true:=(by simp;omega);have hd3:decide (params.length≤k)=true:=(by simp;omega);have HF:=hI (show Zai cols params ⟨2,k,⟨vk,vi,vt⟩⟩=0 by simp [Zai,ZaH];omega);go_enter Try.func142,Try.ntmps142
         go_wp2_with fail
         go_ret;exact⟨by rw [HF.out];rfl,HB0.out⟩
   · have e2:(ok == 2)=false:=beq_eq_false_iff_ne.2 h2
     by_cases h1:ok=1
     · subst h1
       by_cases hi0:oi<0
       · have hd1:decide (oi<0)=true:=decide_eq_true hi0;have HF:=hI (show Zai cols params ⟨1,oi,⟨vk,vi,vt⟩⟩=0 by simp [Zai,ZaH,hi0]);go_enter Try.func142,Try.ntmps142
         go_wp2_with fail
         go_ret;exact⟨by rw [HF.out];rfl,HB0.out⟩
       · have hd1:decide (oi<0)=false:=decide_eq_false hi0;obtain⟨k,rfl⟩:=Int.eq_ofNat_of_zero_le (show 0≤oi by omega)
         by_cases hk:k<cols.length
         · have hd2:decide ((cols.length:Int)≤(k:Int))=false:=(by simp;omega);have hd3:decide (cols.length≤k)=false:=by simp;omega
           by_cases z1:vk=0
           · subst z1
             by_cases z2:vi=0
             · subst z2
               by_cases z3:vt=⟨#[]⟩
               · subst z3;obtain⟨b1,o1,rfl,hb1,d1⟩:=HA.out.at_ hk;have hl1:b1<w.heap.size:=hS b1 hb1;have hl2:b1<w.heap.size+1:=(by omega);have HF:=hI (show Zai cols params ⟨1,k,⟨0,0,⟨#[]⟩⟩⟩=cols.getD k 0 by simp [Zai,ZaH];omega);generalize cols.getD k 0=r at d1 HF;go_enter Try.func142,Try.ntmps142
                 go_wp2_with fail
                 go_ret;exact⟨by rw [HF.out];rfl,HB0.out⟩
               · have z4:(vt.toList == (⟨#[]⟩:ByteArray).toList)=false:=Zdp z3
                 have z5:vt.toList.isEmpty=false:=by
                  rw [←Bool.not_eq_true];intro h;apply z3;have h1:vt.toList=[]:=(by simpa using h);cases vt;rw [ByteArray.toList_eq] at h1;simpa using h1
                 have HF:=hI (show Zai cols params ⟨1,k,⟨0,0,vt⟩⟩=0 by simp [Zai,ZaH,z3]);go_enter Try.func142,Try.ntmps142
                 go_wp2_with fail
                 go_ret;exact⟨by rw [HF.out];rfl,HB0.out⟩
             · have z4:(vi == 0)=false:=beq_eq_false_iff_ne.2 z2;have HF:=hI (show Zai cols params ⟨1,k,⟨0,vi,vt⟩⟩=0 by simp [Zai,ZaH,z2]);go_enter Try.func142,Try.ntmps142
               go_wp2_with fail
               go_ret;exact⟨by rw [HF.out];rfl,HB0.out⟩
           · have z4:(vk == 0)=false:=beq_eq_false_iff_ne.2 z1;have HF:=hI (show Zai cols params ⟨1,k,⟨vk,vi,vt⟩⟩=0 by simp [Zai,ZaH,z1]);go_enter Try.func142,Try.ntmps142
             go_wp2_with fail
             go_ret;exact⟨by rw [HF.out];rfl,HB0.out⟩
         · have hd2:decide ((cols.length:Int)≤(k:Int))=true:=(by simp;omega);have hd3:decide (cols.length≤k)=true:=(by simp;omega);have HF:=hI (show Zai cols params ⟨1,k,⟨vk,vi,vt⟩⟩=0 by simp [Zai,ZaH];omega);go_enter Try.func142,Try.ntmps142
           go_wp2_with fail
           go_ret;exact⟨by rw [HF.out];rfl,HB0.out⟩
     · have e1:(ok == 1)=false:=beq_eq_false_iff_ne.2 h1;have HF:=hI (show Zai cols params ⟨ok,oi,⟨vk,vi,vt⟩⟩=0 by simp [Zai,h1,h2,h3]);go_enter Try.func142,Try.ntmps142
       go_wp2_with fail
       go_ret;exact⟨by rw [HF.out];rfl,HB0.out⟩
theorem ZgA (A B:Option Addr) (ca cb:Nat) (cols params:List Int) (o:Opd) (S:Nat→Prop) (w:World) (hA:IntS w S A cols) (hB:IntS w S B params) (hS:∀ b,S b→b<w.heap.size) (ht:o.value.t.size≤9223372036854775807) :
  Calls Try.prog 126 #[.slice A cols.length ca,.slice B params.length cb,oAgg o] w (ZbV (Zai cols params o) w):=by
 obtain⟨ok,oi,⟨vk,vi,vt⟩⟩:=o;simp only at ht;have hal:=hA.len;have hbl:=hB.len;have HA:=hI hA;have HBB:=hI hB;clear hA hB;have HB0:=hI ((Below.refl w.heap.size w).alloc nR (.cells #[.int .i64 ok,.int .i64 oi,.int .i64 vk,.int .i64 vi,.string vt] 98))
 by_cases h3:ok=3
 · subst h3
   by_cases hi:oi=0
   · subst hi;have hd:((0:Int) != 0)=false:=(by simp);go_enter Try.func126,Try.ntmps126
     go_wp2_with fail
     refine(rreal_any ⟨vk,vi,vt⟩ _ ht).mono ?_;rintro e w1 ⟨rfl,hb1⟩;have HB1:=hI (HB0.out.trans (hb1.mono (by first | (simp;done) | (simp;omega))));have g2:w1.cell? ⟨w.heap.size,2,none⟩=some (.int .i64 vk):=c9Q hb1 (by simp) (by simp);have hw1:w.heap.size<w1.heap.size:=(by have:=hb1.size;simp at this;omega);clear hb1
     by_cases hr:Zee ⟨vk,vi,vt⟩=true
     · have HF:=hI (show Zai cols params ⟨3,0,⟨vk,vi,vt⟩⟩=vk by simp [Zai,hr]);rw [hr];clear hr
       go_wp2_with fail
       go_ret;exact⟨by rw [HF.out];rfl,HB1.out⟩
     · have hr':Zee ⟨vk,vi,vt⟩=false:=(by simpa using hr);have HF:=hI (show Zai cols params ⟨3,0,⟨vk,vi,vt⟩⟩=0 by simp [Zai,hr']);rw [hr'];clear hr hr'
       go_wp2_with fail
       go_ret;exact⟨by rw [HF.out];rfl,HB1.out⟩
   · have hd:(oi != 0)=true:=(by simp [hi]);have HF:=hI (show Zai cols params ⟨3,oi,⟨vk,vi,vt⟩⟩=0 by simp [Zai,hi]);go_enter Try.func126,Try.ntmps126
     go_wp2_with fail
     go_ret;exact⟨by rw [HF.out];rfl,HB0.out⟩
 · have e3:(ok == 3)=false:=beq_eq_false_iff_ne.2 h3
   by_cases h2:ok=2
   · subst h2
     by_cases hi0:oi<0
     · have hd1:decide (oi<0)=true:=decide_eq_true hi0;have HF:=hI (show Zai cols params ⟨2,oi,⟨vk,vi,vt⟩⟩=0 by simp [Zai,ZaH,hi0]);go_enter Try.func126,Try.ntmps126
       go_wp2_with fail
       go_ret;exact⟨by rw [HF.out];rfl,HB0.out⟩
     · have hd1:decide (oi<0)=false:=decide_eq_false hi0;obtain⟨k,rfl⟩:=Int.eq_ofNat_of_zero_le (show 0≤oi by omega)
       by_cases hk:k<params.length
       · have hd2:decide ((params.length:Int)≤(k:Int))=false:=(by simp;omega);have hd3:decide (params.length≤k)=false:=by simp;omega
         by_cases z1:vk=0
         · subst z1
           by_cases z2:vi=0
           · subst z2
             by_cases z3:vt=⟨#[]⟩
             · subst z3;obtain⟨b1,o1,rfl,hb1,d1⟩:=HBB.out.at_ hk;have hl1:b1<w.heap.size:=hS b1 hb1;have hl2:b1<w.heap.size+1:=(by omega);have HF:=hI (show Zai cols params ⟨2,k,⟨0,0,⟨#[]⟩⟩⟩=params.getD k 0 by simp [Zai,ZaH];omega);generalize params.getD k 0=r at d1 HF;go_enter Try.func126,Try.ntmps126
               go_wp2_with fail
               go_ret;exact⟨by rw [HF.out];rfl,HB0.out⟩
             · have z4:(vt.toList == (⟨#[]⟩:ByteArray).toList)=false:=Zdp z3
               have z5:vt.toList.isEmpty=false:=by
                rw [←Bool.not_eq_true];intro h;apply z3;have h1:vt.toList=[]:=(by simpa using h);cases vt;rw [ByteArray.toList_eq] at h1;simpa using h1
               have HF:=hI (show Zai cols params ⟨2,k,⟨0,0,vt⟩⟩=0 by simp [Zai,ZaH,z3]);go_enter Try.func126,Try.ntmps126
               go_wp2_with fail
               go_ret;exact⟨by rw [HF.out];rfl,HB0.out⟩
           · have z4:(vi == 0)=false:=beq_eq_false_iff_ne.2 z2;have HF:=hI (show Zai cols params ⟨2,k,⟨0,vi,vt⟩⟩=0 by simp [Zai,ZaH,z2]);go_enter Try.func126,Try.ntmps126
             go_wp2_with fail
             go_ret;exact⟨by rw [HF.out];rfl,HB0.out⟩
         · have z4:(vk == 0)=false:=beq_eq_false_iff_ne.2 z1;have HF:=hI (show Zai cols params ⟨2,k,⟨vk,vi,vt⟩⟩=0 by simp [Zai,ZaH,z1]);go_enter Try.func126,Try.ntmps126
           go_wp2_with fail
           go_ret;exact⟨by rw [HF.out];rfl,HB0.out⟩
       · have hd2:decide ((params.length:Int)≤(k:Int))=true:=(by simp;omega);have hd3:decide (params.length≤k)=true:=(by simp;omega);have HF:=hI (show Zai cols params ⟨2,k,⟨vk,vi,vt⟩⟩=0 by simp [Zai,ZaH];omega);go_enter Try.func126,Try.ntmps126
         go_wp2_with fail
         go_ret;exact⟨by rw [HF.out];rfl,HB0.out⟩
   · have e2:(ok == 2)=false:=beq_eq_false_iff_ne.2 h2
     by_cases h1:ok=1
     · subst h1
       by_cases hi0:oi<0
       · have hd1:decide (oi<0)=true:=decide_eq_true hi0;have HF:=hI (show Zai cols params ⟨1,oi,⟨vk,vi,vt⟩⟩=0 by simp [Zai,ZaH,hi0]);go_enter Try.func126,Try.ntmps126
         go_wp2_with fail
         go_ret;exact⟨by rw [HF.out];rfl,HB0.out⟩
       · have hd1:decide (oi<0)=false:=decide_eq_false hi0;obtain⟨k,rfl⟩:=Int.eq_ofNat_of_zero_le (show 0≤oi by omega)
         by_cases hk:k<cols.length
         · have hd2:decide ((cols.length:Int)≤(k:Int))=false:=(by simp;omega);have hd3:decide (cols.length≤k)=false:=by simp;omega
           by_cases z1:vk=0
           · subst z1
             by_cases z2:vi=0
             · subst z2
               by_cases z3:vt=⟨#[]⟩
               · subst z3;obtain⟨b1,o1,rfl,hb1,d1⟩:=HA.out.at_ hk;have hl1:b1<w.heap.size:=hS b1 hb1;have hl2:b1<w.heap.size+1:=(by omega);have HF:=hI (show Zai cols params ⟨1,k,⟨0,0,⟨#[]⟩⟩⟩=cols.getD k 0 by simp [Zai,ZaH];omega);generalize cols.getD k 0=r at d1 HF;go_enter Try.func126,Try.ntmps126
                 go_wp2_with fail
                 go_ret;exact⟨by rw [HF.out];rfl,HB0.out⟩
               · have z4:(vt.toList == (⟨#[]⟩:ByteArray).toList)=false:=Zdp z3
                 have z5:vt.toList.isEmpty=false:=by
                  rw [←Bool.not_eq_true];intro h;apply z3;have h1:vt.toList=[]:=(by simpa using h);cases vt;rw [ByteArray.toList_eq] at h1;simpa using h1
                 have HF:=hI (show Zai cols params ⟨1,k,⟨0,0,vt⟩⟩=0 by simp [Zai,ZaH,z3]);go_enter Try.func126,Try.ntmps126
                 go_wp2_with fail
                 go_ret;exact⟨by rw [HF.out];rfl,HB0.out⟩
             · have z4:(vi == 0)=false:=beq_eq_false_iff_ne.2 z2;have HF:=hI (show Zai cols params ⟨1,k,⟨0,vi,vt⟩⟩=0 by simp [Zai,ZaH,z2]);go_enter Try.func126,Try.ntmps126
               go_wp2_with fail
               go_ret;exact⟨by rw [HF.out];rfl,HB0.out⟩
           · have z4:(vk == 0)=false:=beq_eq_false_iff_ne.2 z1;have HF:=hI (show Zai cols params ⟨1,k,⟨vk,vi,vt⟩⟩=0 by simp [Zai,ZaH,z1]);go_enter Try.func126,Try.ntmps126
             go_wp2_with fail
             go_ret;exact⟨by rw [HF.out];rfl,HB0.out⟩
         · have hd2:decide ((cols.length:Int)≤(k:Int))=true:=(by simp;omega);have hd3:decide (cols.length≤k)=true:=(by simp;omega);have HF:=hI (show Zai cols params ⟨1,k,⟨vk,vi,vt⟩⟩=0 by simp [Zai,ZaH];omega);go_enter Try.func126,Try.ntmps126
           go_wp2_with fail
           go_ret;exact⟨by rw [HF.out];rfl,HB0.out⟩
     · have e1:(ok == 1)=false:=beq_eq_false_iff_ne.2 h1;have HF:=hI (show Zai cols params ⟨ok,oi,⟨vk,vi,vt⟩⟩=0 by simp [Zai,h1,h2,h3]);go_enter Try.func126,Try.ntmps126
       go_wp2_with fail
       go_ret;exact⟨by rw [HF.out];rfl,HB0.out⟩
end Go.Proofs.Ytkpjjfhfbpfjpaa
