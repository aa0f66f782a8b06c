import Derived.Test.YtkpjjfhfbpfjpaaGreatK81a5f2
set_option linter.unusedVariables false
set_option linter.unusedSimpArgs false
set_option maxRecDepth 100000
set_option maxHeartbeats 8000000
namespace Go.Proofs.YtkpjjfhfbpfjpaaGreat
open Go.RowKit
section
variable {w w':World} {base base' size:Nat} {e:TypeId} {v:Value} {l:List Dat}
theorem Mk.rebase (h:Mk w base' (fun b=>base≤b∧b<base') e size v l) (hb:base≤base'):Mk w base (fun _=>False) e size v l:=by
 obtain⟨vals,h1,h2,h3⟩:=h.own;have h4:=h.hi;refine⟨⟨vals,Zfb h1 hb,Dat.ValsAll.more (fun b hb'=>?_) _ _ h2,fun b hb'=>?_⟩,fun b hb'=>hb'.elim,by omega⟩
 · rcases hb' with hb' | hb'
   · refine .inr ⟨hb'.1,by omega,fun e'=>?_⟩;have:=ZaL h1 e'.symm;omega
   · exact .inr ⟨by have:=hb'.1;omega,hb'.2.1,hb'.2.2⟩
 · rcases hb' with hb' | hb'
   · exact hb'.elim
   · exact⟨hb'.2.1,hb'.2.2⟩
end
abbrev zNet:Obj:=.cells #[.int .i64 0,.slice none 0 0,.int .i64 0,.slice none 0 0,.slice none 0 0] 124
abbrev oNet (t:Int) (KA:Option Addr) (nk kc:Nat) (PA:Option Addr) (na pa:Nat) (PB:Option Addr) (nb pb:Nat):Obj:=.cells #[.int .i64 t,.slice KA nk kc,.int .i64 t,.slice PA na pa,.slice PB nb pb] 124
structure EnM (w9 W:World) (xb:Nat) (t:Int) (KA:Option Addr) (nk kc:Nat) (old:Row) (PA:Option Addr) (pa:Nat) (new:Row) (PB:Option Addr) (pb:Nat):Prop where
 bel:Below w9.heap.size w9 W
 lo:w9.heap.size≤xb
 blk:W.heap[xb]?=some (oNet t KA nk kc PA old.length pa PB new.length pb)
 ro:old.length≤pa∧RowS W (fun b=>w9.heap.size≤b∧b<W.heap.size) PA old
 rn:new.length≤pb∧RowS W (fun b=>w9.heap.size≤b∧b<W.heap.size) PB new
theorem setCell5_block {wr:World} {b:Nat} {x0 x1 x2 x3 x4 a0 a1 a2 a3 a4:Value} {T:TypeId} (h:wr.heap[b]?=some (.cells #[x0,x1,x2,x3,x4] T (0,0))):(((((wr.setCell ⟨b,0,none⟩ a0).setCell ⟨b,1,none⟩ a1).setCell ⟨b,2,none⟩ a2).setCell ⟨b,3,none⟩ a3).setCell ⟨b,4,none⟩ a4).heap[b]?=some (.cells #[a0,a1,a2,a3,a4] T (0,0)):=by
 have e0:wr.heap[b]?=some (.cells [x0,x1,x2,x3,x4].toArray T (0,0)):=h;have e1:=Zac (k:=0) (v:=a0) e0;have e2:=Zac (k:=1) (v:=a1) e1;have e3:=Zac (k:=2) (v:=a2) e2;have e4:=Zac (k:=3) (v:=a3) e3;have e5:=Zac (k:=4) (v:=a4) e4;simpa using e5
theorem en_done {w9 cur:World} {xb:Nat} {t:Int} {KA PA PB:Option Addr} {nk kc pa pb:Nat} {old new:Row} {R1 R2:Nat→Prop} (hb:Below w9.heap.size w9 cur) (hlo:w9.heap.size≤xb) (hx:cur.heap[xb]?=some zNet) (ro:old.length≤pa∧RowS cur R1 PA old) (h1:∀ b,R1 b→w9.heap.size≤b∧b<cur.heap.size∧b≠xb) (rn:new.length≤pb∧RowS cur R2 PB new) (h2:∀ b,R2 b→w9.heap.size≤b∧b<cur.heap.size∧b≠xb) :
  EnM w9 (((((cur.setCell ⟨xb,0,none⟩ (.int .i64 t)).setCell ⟨xb,1,none⟩ (.slice KA nk kc)).setCell ⟨xb,2,none⟩ (.int .i64 t)).setCell ⟨xb,3,none⟩ (.slice PA old.length pa)).setCell ⟨xb,4,none⟩ (.slice PB new.length pb)) xb t KA nk kc old PA pa new PB pb:=by
 have hblk:=setCell5_block (a0:=.int .i64 t) (a1:=.slice KA nk kc) (a2:=.int .i64 t) (a3:=.slice PA old.length pa) (a4:=.slice PB new.length pb) hx
 have hf:Fr (fun b=>b=xb) cur (((((cur.setCell ⟨xb,0,none⟩ (.int .i64 t)).setCell ⟨xb,1,none⟩ (.slice KA nk kc)).setCell ⟨xb,2,none⟩ (.int .i64 t)).setCell ⟨xb,3,none⟩ (.slice PA old.length pa)).setCell ⟨xb,4,none⟩ (.slice PB new.length pb)) :=
  (((((Fr.refl (fun b=>b=xb) cur).setCell _ (fun _=>rfl)).setCell _ (fun _=>rfl)).setCell _ (fun _=>rfl)).setCell _ (fun _=>rfl)).setCell _ (fun _=>rfl)
 generalize ((((cur.setCell ⟨xb,0,none⟩ (.int .i64 t)).setCell ⟨xb,1,none⟩ (.slice KA nk kc)).setCell ⟨xb,2,none⟩ (.int .i64 t)).setCell ⟨xb,3,none⟩ (.slice PA old.length pa)).setCell ⟨xb,4,none⟩ (.slice PB new.length pb)=W at hblk hf;have hz:=hb.size;have hz2:=hf.size;refine⟨hb.trans (hf.below (by omega) (fun b hb' e=>by omega)),hlo,hblk,⟨ro.1,(ro.2.keep (hf.same (fun b hb'=>⟨(h1 b hb').2.1,(h1 b hb').2.2⟩))).more (fun b hb'=>⟨(h1 b hb').1,by have:=(h1 b hb').2.1;omega⟩)⟩,⟨rn.1,(rn.2.keep (hf.same (fun b hb'=>⟨(h2 b hb').2.1,(h2 b hb').2.2⟩))).more (fun b hb'=>⟨(h2 b hb').1,by have:=(h2 b hb').2.1;omega⟩)⟩⟩
theorem net_parts {w:World} {base n c i:Nat} {A:Option Addr} {L:List NetE} (h:NetM w base (.slice A n c) L) (hi:i≤L.length) :
  ∃ x y:List Value,Dat.ValsAll w (BehR base w) ((L.take i).map Zbi) x∧Dat.ValsAll w (BehR base w) ((L.drop i).map Zbi) y∧(0<L.length→∃ gl,A=some ⟨gl,0,none⟩∧base≤gl∧gl<w.heap.size∧CellsAt w gl 0 x∧CellsAt w gl (i*5) y):=by
 obtain⟨vals,h1,h2,h3⟩:=h.own;have hm:∀ b,(False∨Beh base w (.slice A n c) b)→BehR base w b:=fun b hb=>hb.elim (fun h=>h.elim) (fun hb=>⟨hb.1,hb.2.1⟩);obtain⟨q1,q2⟩:=ZaE ZcI h2 i hi;refine⟨_,_,Dat.ValsAll.more hm _ _ q1,Dat.ValsAll.more hm _ _ q2,fun hl=>?_⟩;rw [List.length_map] at h1;have hn:=h.len;rw [List.length_map] at hn;subst hn;obtain⟨gl,e1,hb,hl',hc⟩:=ZbP h1 (by omega);refine⟨gl,e1,hb,hl',fun j u hu=>?_,fun j u hu=>?_⟩
 · rw [Nat.zero_add];exact hc j u (getElem?_of_take hu)
 · refine hc _ u ?_;rw [List.getElem?_drop] at hu;exact hu
end Go.Proofs.YtkpjjfhfbpfjpaaGreat
