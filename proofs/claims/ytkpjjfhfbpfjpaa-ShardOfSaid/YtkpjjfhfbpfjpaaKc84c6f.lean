import Derived.Test.YtkpjjfhfbpfjpaaKc9b616
import Derived.Test.YtkpjjfhfbpfjpaaK526329
import Derived.Test.YtkpjjfhfbpfjpaaKea4fe2
set_option linter.unusedVariables false
set_option linter.unusedSimpArgs false
set_option maxRecDepth 100000
set_option maxHeartbeats 8000000
namespace Go.Proofs.Ytkpjjfhfbpfjpaa
mutual
def nodesP:Pred→Int→Int
 | .mk _ _ _ _ a,n=>nodesL a (n+1)
def nodesL:List Pred→Int→Int
 | [],n=>n
 | p :: r,n=>if n≤24 then nodesL r (nodesP p n) else n
end
theorem nodesL_drop (l:List Pred) (n:Int) (k:Nat) (h:k<l.length):nodesL (l.drop k) n=if n≤24 then nodesL (l.drop (k+1)) (nodesP (l.getD k p0) n) else n:=by
 rw [List.drop_eq_getElem_cons h];have e1:l.getD k p0=l[k]:=(by simp [List.getD,h]);rw [e1]
 conv=>lhs;unfold nodesL
theorem ZcX (l:List Pred) (n:Int) (h:24<n):nodesL l n=n:=by
 cases l with
 | nil=>unfold nodesL;rfl
 | cons p r=>unfold nodesL;rw [if_neg (by omega)]
mutual
theorem nodesP_spec:∀ (p:Pred) (n:Int),n≤24→(cntP p+n≤24→nodesP p n=cntP p+n)∧(24<cntP p+n→nodesP p n=25)
 | .mk _ _ _ _ a,n,h=>by
  unfold nodesP cntP
  by_cases h1:n+1≤24
  · have:=nodesL_spec a (n+1) h1;exact⟨fun h2=>by rw [this.1 (by omega)];omega,fun h2=>this.2 (by omega)⟩
  · rw [ZcX a (n+1) (by omega)];exact⟨fun h2=>by omega,fun _=>by omega⟩
theorem nodesL_spec:∀ (l:List Pred) (n:Int),n≤24→(cntL l+n≤24→nodesL l n=cntL l+n)∧(24<cntL l+n→nodesL l n=25)
 | [],n,h=>by
  unfold nodesL cntL;exact⟨fun _=>by simp,fun h2=>by omega⟩
 | p :: r,n,h=>by
  unfold nodesL cntL;rw [if_pos h];have hp:=nodesP_spec p n h
  by_cases h1:cntP p+n≤24
  · rw [hp.1 h1];have:=nodesL_spec r (cntP p+n) h1;exact⟨fun h2=>by rw [this.1 (by omega)];omega,fun h2=>this.2 (by omega)⟩
  · rw [hp.2 (by omega),ZcX r 25 (by omega)];exact⟨fun h2=>by omega,fun _=>rfl⟩
end
mutual
def deepP:Pred→Int→Bool
 | .mk _ _ _ _ a,n=>if n=0 then true else deepL a (n - 1)
def deepL:List Pred→Int→Bool
 | [],_=>false
 | p :: r,n=>deepP p n||deepL r n
end
theorem deepL_drop (l:List Pred) (n:Int) (k:Nat) (h:k<l.length):deepL (l.drop k) n=(deepP (l.getD k p0) n||deepL (l.drop (k+1)) n):=by
 rw [List.drop_eq_getElem_cons h];have e1:l.getD k p0=l[k]:=(by simp [List.getD,h]);rw [e1]
 conv=>lhs;unfold deepL
mutual
theorem deepP_spec:∀ (p:Pred) (n:Int),0≤n→deepP p n=decide (n<depP p)
 | .mk _ _ _ _ a,n,h=>by
  unfold deepP depP
  by_cases h0:n=0
  · rw [if_pos h0,decide_eq_true (by omega)]
  · rw [if_neg h0,deepL_spec a (n - 1) (by omega)]
    by_cases h1:n - 1<(depL a:Int)
    · rw [decide_eq_true h1,decide_eq_true (by omega)]
    · rw [decide_eq_false h1,decide_eq_false (by omega)]
theorem deepL_spec:∀ (l:List Pred) (n:Int),0≤n→deepL l n=decide (n<depL l)
 | [],n,h=>by
  unfold deepL depL;rw [decide_eq_false (by omega)]
 | p :: r,n,h=>by
  unfold deepL depL;rw [deepP_spec p n h,deepL_spec r n h]
  by_cases h1:n<(depP p:Int)
  · rw [decide_eq_true h1,Bool.true_or];exact(decide_eq_true (by omega)).symm
  · rw [decide_eq_false h1,Bool.false_or]
    by_cases h2:n<(depL r:Int)
    · rw [decide_eq_true h2];exact(decide_eq_true (by omega)).symm
    · rw [decide_eq_false h2];exact(decide_eq_false (by omega)).symm
end
def ZcR (ks ps:List Int) (p:Pred):Int:=if Zat ks=false∨Zat ps=false then 1 else if 24<nodesP p 0∨deepP p 8=true then 2 else if predOk ks ps p=false then 50 else 0
theorem rpcFF_eq (ks ps:List Int) (p:Pred):ZcR ks ps p=pcFF ks ps p:=by
 have h1:=nodesP_spec p 0 (by omega);have h2:=deepP_spec p 8 (by omega);unfold ZcR pcFF;rw [ZeB,h2]
 by_cases hc:cntP p≤24
 · rw [h1.1 (by omega)]
   by_cases hd:depP p≤8
   · rw [decide_eq_true hc,decide_eq_true hd,decide_eq_false (show ¬ (8:Int)<depP p by omega)];simp only [Bool.and_self,Bool.true_eq_false,if_false,Bool.false_eq_true,or_false,Int.add_zero];rw [if_neg (show ¬ (24:Int)<cntP p by omega)]
   · rw [decide_eq_false hd,decide_eq_true (show (8:Int)<depP p by omega)];simp
 · rw [h1.2 (by omega),decide_eq_false hc];simp
open Go.RowKit
abbrev kAgg (A B:Option Addr) (n m c d:Nat):Value:=.agg #[.slice A n c,.slice B m d]
theorem ZfE (A B:Option Addr) (ca cb:Nat) (cols params:List Int) (o:Opd) (S:Nat→Prop) (w:World) (hA:IntS w S A cols) (hB:IntS w S B params) (hS:∀ b,S b→b<w.heap.size) (ht:o.value.t.size≤9223372036854775807) :
  Calls Try.prog 142 #[kAgg A B cols.length params.length ca cb,oAgg o] w (Zbg (Zaf cols params o) w):=by
 obtain⟨ok,oi,⟨vk,vi,vt⟩⟩:=o;simp only at ht;have hal:=hA.len;have hbl:=hB.len;have HA:=hI hA;have HBB:=hI hB;clear hA hB;have HB0:=hI (((Below.refl w.heap.size w).alloc nR (.cells #[.slice A cols.length ca,.slice B params.length cb] 171)).alloc (by simp) (.cells #[.int .i64 ok,.int .i64 oi,.int .i64 vk,.int .i64 vi,.string vt] 98))
 by_cases h3:ok=3
 · subst h3
   by_cases hi:oi=0
   · subst hi;have hd:((0:Int) != 0)=false:=(by simp);go_enter Try.func142,Try.ntmps142
     go_wp2_with fail
     refine(real_any ⟨vk,vi,vt⟩ _ ht).mono ?_;rintro e w1 ⟨rfl,hb1⟩;have HB1:=hI (HB0.out.trans (hb1.mono (by first | (simp;done) | (simp;omega))));have g2:w1.cell? ⟨w.heap.size+1,2,none⟩=some (.int .i64 vk):=cQ hb1 (by simp) (by simp);have hw1:w.heap.size+1<w1.heap.size:=(by have:=hb1.size;simp at this;omega);clear hb1
     by_cases hr:ZcT ⟨vk,vi,vt⟩=true
     · have HF:=hI (show Zaf cols params ⟨3,0,⟨vk,vi,vt⟩⟩=vk by simp [Zaf,hr]);rw [hr];clear hr
       go_wp2_with fail
       go_ret;exact⟨by rw [HF.out];rfl,HB1.out⟩
     · have hr':ZcT ⟨vk,vi,vt⟩=false:=(by simpa using hr);have HF:=hI (show Zaf cols params ⟨3,0,⟨vk,vi,vt⟩⟩=0 by simp [Zaf,hr']);rw [hr'];clear hr hr'
       go_wp2_with fail
       go_ret;exact⟨by rw [HF.out];rfl,HB1.out⟩
   · have hd:(oi != 0)=true:=(by simp [hi]);have HF:=hI (show Zaf cols params ⟨3,oi,⟨vk,vi,vt⟩⟩=0 by simp [Zaf,hi]);go_enter Try.func142,Try.ntmps142
     go_wp2_with fail
     go_ret;exact⟨by rw [HF.out];rfl,HB0.out⟩
 · have e3:(ok == 3)=false:=beq_eq_false_iff_ne.2 h3
   by_cases h2:ok=2
   · subst h2
     by_cases hi0:oi<0
     · have hd1:decide (oi<0)=true:=decide_eq_true hi0;have HF:=hI (show Zaf cols params ⟨2,oi,⟨vk,vi,vt⟩⟩=0 by simp [Zaf,Zax,hi0]);go_enter Try.func142,Try.ntmps142
       go_wp2_with fail
       go_ret;exact⟨by rw [HF.out];rfl,HB0.out⟩
     · have hd1:decide (oi<0)=false:=decide_eq_false hi0;obtain⟨k,rfl⟩:=Int.eq_ofNat_of_zero_le (show 0≤oi by omega)
       by_cases hk:k<params.length
       · have hd2:decide ((params.length:Int)≤(k:Int))=false:=(by simp;omega);have hd3:decide (params.length≤k)=false:=by simp;omega
         by_cases z1:vk=0
         · subst z1
           by_cases z2:vi=0
           · subst z2
             by_cases z3:vt=⟨#[]⟩
             · subst z3;obtain⟨b1,o1,rfl,hb1,d1⟩:=HBB.out.at_ hk;have hl1:b1<w.heap.size:=hS b1 hb1;have hl2:b1<w.heap.size+1:=(by omega);have HF:=hI (show Zaf cols params ⟨2,k,⟨0,0,⟨#[]⟩⟩⟩=params.getD k 0 by simp [Zaf,Zax];omega);generalize params.getD k 0=r at d1 HF;go_enter Try.func142,Try.ntmps142
               go_wp2_with fail
               go_ret;exact⟨by rw [HF.out];rfl,HB0.out⟩
             · have z4:(vt.toList == (⟨#[]⟩:ByteArray).toList)=false:=ZbR z3
               have z5:vt.toList.isEmpty=false:=by
                rw [←Bool.not_eq_true];intro h;apply z3;have h1:vt.toList=[]:=(by simpa using h);cases vt;rw [ByteArray.toList_eq] at h1;simpa using h1
               have HF:=hI (show Zaf cols params ⟨2,k,⟨0,0,vt⟩⟩=0 by simp [Zaf,Zax,z3]);go_enter Try.func142,Try.ntmps142
               go_wp2_with fail
               go_ret;exact⟨by rw [HF.out];rfl,HB0.out⟩
           · have z4:(vi == 0)=false:=beq_eq_false_iff_ne.2 z2;have HF:=hI (show Zaf cols params ⟨2,k,⟨0,vi,vt⟩⟩=0 by simp [Zaf,Zax,z2]);go_enter Try.func142,Try.ntmps142
             go_wp2_with fail
             go_ret;exact⟨by rw [HF.out];rfl,HB0.out⟩
         · have z4:(vk == 0)=false:=beq_eq_false_iff_ne.2 z1;have HF:=hI (show Zaf cols params ⟨2,k,⟨vk,vi,vt⟩⟩=0 by simp [Zaf,Zax,z1]);go_enter Try.func142,Try.ntmps142
           go_wp2_with fail
           go_ret;exact⟨by rw [HF.out];rfl,HB0.out⟩
       · have hd2:decide ((params.length:Int)≤(k:Int))=true:=(by simp;omega);have hd3:decide (params.length≤k)=true:=(by simp;omega);have HF:=hI (show Zaf cols params ⟨2,k,⟨vk,vi,vt⟩⟩=0 by simp [Zaf,Zax];omega);go_enter Try.func142,Try.ntmps142
         go_wp2_with fail
         go_ret;exact⟨by rw [HF.out];rfl,HB0.out⟩
   · have e2:(ok == 2)=false:=beq_eq_false_iff_ne.2 h2
     by_cases h1:ok=1
     · subst h1
       by_cases hi0:oi<0
       · have hd1:decide (oi<0)=true:=decide_eq_true hi0;have HF:=hI (show Zaf cols params ⟨1,oi,⟨vk,vi,vt⟩⟩=0 by simp [Zaf,Zax,hi0]);go_enter Try.func142,Try.ntmps142
         go_wp2_with fail
         go_ret;exact⟨by rw [HF.out];rfl,HB0.out⟩
       · have hd1:decide (oi<0)=false:=decide_eq_false hi0;obtain⟨k,rfl⟩:=Int.eq_ofNat_of_zero_le (show 0≤oi by omega)
         by_cases hk:k<cols.length
         · have hd2:decide ((cols.length:Int)≤(k:Int))=false:=(by simp;omega);have hd3:decide (cols.length≤k)=false:=by simp;omega
           by_cases z1:vk=0
           · subst z1
             by_cases z2:vi=0
             · subst z2
               by_cases z3:vt=⟨#[]⟩
               · subst z3;obtain⟨b1,o1,rfl,hb1,d1⟩:=HA.out.at_ hk;have hl1:b1<w.heap.size:=hS b1 hb1;have hl2:b1<w.heap.size+1:=(by omega);have HF:=hI (show Zaf cols params ⟨1,k,⟨0,0,⟨#[]⟩⟩⟩=cols.getD k 0 by simp [Zaf,Zax];omega);generalize cols.getD k 0=r at d1 HF;go_enter Try.func142,Try.ntmps142
                 go_wp2_with fail
                 go_ret;exact⟨by rw [HF.out];rfl,HB0.out⟩
               · have z4:(vt.toList == (⟨#[]⟩:ByteArray).toList)=false:=ZbR z3
                 have z5:vt.toList.isEmpty=false:=by
                  rw [←Bool.not_eq_true];intro h;apply z3;have h1:vt.toList=[]:=(by simpa using h);cases vt;rw [ByteArray.toList_eq] at h1;simpa using h1
                 have HF:=hI (show Zaf cols params ⟨1,k,⟨0,0,vt⟩⟩=0 by simp [Zaf,Zax,z3]);go_enter Try.func142,Try.ntmps142
                 go_wp2_with fail
                 go_ret;exact⟨by rw [HF.out];rfl,HB0.out⟩
             · have z4:(vi == 0)=false:=beq_eq_false_iff_ne.2 z2;have HF:=hI (show Zaf cols params ⟨1,k,⟨0,vi,vt⟩⟩=0 by simp [Zaf,Zax,z2]);go_enter Try.func142,Try.ntmps142
               go_wp2_with fail
               go_ret;exact⟨by rw [HF.out];rfl,HB0.out⟩
           · have z4:(vk == 0)=false:=beq_eq_false_iff_ne.2 z1;have HF:=hI (show Zaf cols params ⟨1,k,⟨vk,vi,vt⟩⟩=0 by simp [Zaf,Zax,z1]);go_enter Try.func142,Try.ntmps142
             go_wp2_with fail
             go_ret;exact⟨by rw [HF.out];rfl,HB0.out⟩
         · have hd2:decide ((cols.length:Int)≤(k:Int))=true:=(by simp;omega);have hd3:decide (cols.length≤k)=true:=(by simp;omega);have HF:=hI (show Zaf cols params ⟨1,k,⟨vk,vi,vt⟩⟩=0 by simp [Zaf,Zax];omega);go_enter Try.func142,Try.ntmps142
           go_wp2_with fail
           go_ret;exact⟨by rw [HF.out];rfl,HB0.out⟩
     · have e1:(ok == 1)=false:=beq_eq_false_iff_ne.2 h1;have HF:=hI (show Zaf cols params ⟨ok,oi,⟨vk,vi,vt⟩⟩=0 by simp [Zaf,h1,h2,h3]);go_enter Try.func142,Try.ntmps142
       go_wp2_with fail
       go_ret;exact⟨by rw [HF.out];rfl,HB0.out⟩
theorem ZeE (A B:Option Addr) (ca cb:Nat) (cols params:List Int) (o:Opd) (S:Nat→Prop) (w:World) (hA:IntS w S A cols) (hB:IntS w S B params) (hS:∀ b,S b→b<w.heap.size) (ht:o.value.t.size≤9223372036854775807) :
  Calls Try.prog 126 #[.slice A cols.length ca,.slice B params.length cb,oAgg o] w (Zbg (Zaf cols params o) w):=by
 obtain⟨ok,oi,⟨vk,vi,vt⟩⟩:=o;simp only at ht;have hal:=hA.len;have hbl:=hB.len;have HA:=hI hA;have HBB:=hI hB;clear hA hB;have HB0:=hI ((Below.refl w.heap.size w).alloc nR (.cells #[.int .i64 ok,.int .i64 oi,.int .i64 vk,.int .i64 vi,.string vt] 98))
 by_cases h3:ok=3
 · subst h3
   by_cases hi:oi=0
   · subst hi;have hd:((0:Int) != 0)=false:=(by simp);go_enter Try.func126,Try.ntmps126
     go_wp2_with fail
     refine(rreal_any ⟨vk,vi,vt⟩ _ ht).mono ?_;rintro e w1 ⟨rfl,hb1⟩;have HB1:=hI (HB0.out.trans (hb1.mono (by first | (simp;done) | (simp;omega))));have g2:w1.cell? ⟨w.heap.size,2,none⟩=some (.int .i64 vk):=cQ hb1 (by simp) (by simp);have hw1:w.heap.size<w1.heap.size:=(by have:=hb1.size;simp at this;omega);clear hb1
     by_cases hr:ZcT ⟨vk,vi,vt⟩=true
     · have HF:=hI (show Zaf cols params ⟨3,0,⟨vk,vi,vt⟩⟩=vk by simp [Zaf,hr]);rw [hr];clear hr
       go_wp2_with fail
       go_ret;exact⟨by rw [HF.out];rfl,HB1.out⟩
     · have hr':ZcT ⟨vk,vi,vt⟩=false:=(by simpa using hr);have HF:=hI (show Zaf cols params ⟨3,0,⟨vk,vi,vt⟩⟩=0 by simp [Zaf,hr']);rw [hr'];clear hr hr'
       go_wp2_with fail
       go_ret;exact⟨by rw [HF.out];rfl,HB1.out⟩
   · have hd:(oi != 0)=true:=(by simp [hi]);have HF:=hI (show Zaf cols params ⟨3,oi,⟨vk,vi,vt⟩⟩=0 by simp [Zaf,hi]);go_enter Try.func126,Try.ntmps126
     go_wp2_with fail
     go_ret;exact⟨by rw [HF.out];rfl,HB0.out⟩
 · have e3:(ok == 3)=false:=beq_eq_false_iff_ne.2 h3
   by_cases h2:ok=2
   · subst h2
     by_cases hi0:oi<0
     · have hd1:decide (oi<0)=true:=decide_eq_true hi0;have HF:=hI (show Zaf cols params ⟨2,oi,⟨vk,vi,vt⟩⟩=0 by simp [Zaf,Zax,hi0]);go_enter Try.func126,Try.ntmps126
       go_wp2_with fail
       go_ret;exact⟨by rw [HF.out];rfl,HB0.out⟩
     · have hd1:decide (oi<0)=false:=decide_eq_false hi0;obtain⟨k,rfl⟩:=Int.eq_ofNat_of_zero_le (show 0≤oi by omega)
       by_cases hk:k<params.length
       · have hd2:decide ((params.length:Int)≤(k:Int))=false:=(by simp;omega);have hd3:decide (params.length≤k)=false:=by simp;omega
         by_cases z1:vk=0
         · subst z1
           by_cases z2:vi=0
           · subst z2
             by_cases z3:vt=⟨#[]⟩
             · subst z3;obtain⟨b1,o1,rfl,hb1,d1⟩:=HBB.out.at_ hk;have hl1:b1<w.heap.size:=hS b1 hb1;have hl2:b1<w.heap.size+1:=(by omega);have HF:=hI (show Zaf cols params ⟨2,k,⟨0,0,⟨#[]⟩⟩⟩=params.getD k 0 by simp [Zaf,Zax];omega);generalize params.getD k 0=r at d1 HF;go_enter Try.func126,Try.ntmps126
               go_wp2_with fail
               go_ret;exact⟨by rw [HF.out];rfl,HB0.out⟩
             · have z4:(vt.toList == (⟨#[]⟩:ByteArray).toList)=false:=ZbR z3
               have z5:vt.toList.isEmpty=false:=by
                rw [←Bool.not_eq_true];intro h;apply z3;have h1:vt.toList=[]:=(by simpa using h);cases vt;rw [ByteArray.toList_eq] at h1;simpa using h1
               have HF:=hI (show Zaf cols params ⟨2,k,⟨0,0,vt⟩⟩=0 by simp [Zaf,Zax,z3]);go_enter Try.func126,Try.ntmps126
               go_wp2_with fail
               go_ret;exact⟨by rw [HF.out];rfl,HB0.out⟩
           · have z4:(vi == 0)=false:=beq_eq_false_iff_ne.2 z2;have HF:=hI (show Zaf cols params ⟨2,k,⟨0,vi,vt⟩⟩=0 by simp [Zaf,Zax,z2]);go_enter Try.func126,Try.ntmps126
             go_wp2_with fail
             go_ret;exact⟨by rw [HF.out];rfl,HB0.out⟩
         · have z4:(vk == 0)=false:=beq_eq_false_iff_ne.2 z1;have HF:=hI (show Zaf cols params ⟨2,k,⟨vk,vi,vt⟩⟩=0 by simp [Zaf,Zax,z1]);go_enter Try.func126,Try.ntmps126
           go_wp2_with fail
           go_ret;exact⟨by rw [HF.out];rfl,HB0.out⟩
       · have hd2:decide ((params.length:Int)≤(k:Int))=true:=(by simp;omega);have hd3:decide (params.length≤k)=true:=(by simp;omega);have HF:=hI (show Zaf cols params ⟨2,k,⟨vk,vi,vt⟩⟩=0 by simp [Zaf,Zax];omega);go_enter Try.func126,Try.ntmps126
         go_wp2_with fail
         go_ret;exact⟨by rw [HF.out];rfl,HB0.out⟩
   · have e2:(ok == 2)=false:=beq_eq_false_iff_ne.2 h2
     by_cases h1:ok=1
     · subst h1
       by_cases hi0:oi<0
       · have hd1:decide (oi<0)=true:=decide_eq_true hi0;have HF:=hI (show Zaf cols params ⟨1,oi,⟨vk,vi,vt⟩⟩=0 by simp [Zaf,Zax,hi0]);go_enter Try.func126,Try.ntmps126
         go_wp2_with fail
         go_ret;exact⟨by rw [HF.out];rfl,HB0.out⟩
       · have hd1:decide (oi<0)=false:=decide_eq_false hi0;obtain⟨k,rfl⟩:=Int.eq_ofNat_of_zero_le (show 0≤oi by omega)
         by_cases hk:k<cols.length
         · have hd2:decide ((cols.length:Int)≤(k:Int))=false:=(by simp;omega);have hd3:decide (cols.length≤k)=false:=by simp;omega
           by_cases z1:vk=0
           · subst z1
             by_cases z2:vi=0
             · subst z2
               by_cases z3:vt=⟨#[]⟩
               · subst z3;obtain⟨b1,o1,rfl,hb1,d1⟩:=HA.out.at_ hk;have hl1:b1<w.heap.size:=hS b1 hb1;have hl2:b1<w.heap.size+1:=(by omega);have HF:=hI (show Zaf cols params ⟨1,k,⟨0,0,⟨#[]⟩⟩⟩=cols.getD k 0 by simp [Zaf,Zax];omega);generalize cols.getD k 0=r at d1 HF;go_enter Try.func126,Try.ntmps126
                 go_wp2_with fail
                 go_ret;exact⟨by rw [HF.out];rfl,HB0.out⟩
               · have z4:(vt.toList == (⟨#[]⟩:ByteArray).toList)=false:=ZbR z3
                 have z5:vt.toList.isEmpty=false:=by
                  rw [←Bool.not_eq_true];intro h;apply z3;have h1:vt.toList=[]:=(by simpa using h);cases vt;rw [ByteArray.toList_eq] at h1;simpa using h1
                 have HF:=hI (show Zaf cols params ⟨1,k,⟨0,0,vt⟩⟩=0 by simp [Zaf,Zax,z3]);go_enter Try.func126,Try.ntmps126
                 go_wp2_with fail
                 go_ret;exact⟨by rw [HF.out];rfl,HB0.out⟩
             · have z4:(vi == 0)=false:=beq_eq_false_iff_ne.2 z2;have HF:=hI (show Zaf cols params ⟨1,k,⟨0,vi,vt⟩⟩=0 by simp [Zaf,Zax,z2]);go_enter Try.func126,Try.ntmps126
               go_wp2_with fail
               go_ret;exact⟨by rw [HF.out];rfl,HB0.out⟩
           · have z4:(vk == 0)=false:=beq_eq_false_iff_ne.2 z1;have HF:=hI (show Zaf cols params ⟨1,k,⟨vk,vi,vt⟩⟩=0 by simp [Zaf,Zax,z1]);go_enter Try.func126,Try.ntmps126
             go_wp2_with fail
             go_ret;exact⟨by rw [HF.out];rfl,HB0.out⟩
         · have hd2:decide ((cols.length:Int)≤(k:Int))=true:=(by simp;omega);have hd3:decide (cols.length≤k)=true:=(by simp;omega);have HF:=hI (show Zaf cols params ⟨1,k,⟨vk,vi,vt⟩⟩=0 by simp [Zaf,Zax];omega);go_enter Try.func126,Try.ntmps126
           go_wp2_with fail
           go_ret;exact⟨by rw [HF.out];rfl,HB0.out⟩
     · have e1:(ok == 1)=false:=beq_eq_false_iff_ne.2 h1;have HF:=hI (show Zaf cols params ⟨ok,oi,⟨vk,vi,vt⟩⟩=0 by simp [Zaf,h1,h2,h3]);go_enter Try.func126,Try.ntmps126
       go_wp2_with fail
       go_ret;exact⟨by rw [HF.out];rfl,HB0.out⟩
theorem Zfl (t:ByteArray):(t=⟨#[]⟩)=(t.toList=[]):=by
 apply propext;constructor
 · rintro rfl;rw [ByteArray.toList_eq]
 · intro h;cases t
   rw [ByteArray.toList_eq] at h;simpa using h
theorem v0_nil (a b:Int) (t:ByteArray):((⟨a,b,t⟩:V)=v0)=(a=0∧b=0∧t.toList=[]):=by rw [←Zfl];simp
theorem Zbe (cmp l1 l2 l3 l4 r1 r2 r3 r4:Int) (l5 r5:ByteArray):Zco cmp ⟨l1,l2,⟨l3,l4,l5⟩⟩ ⟨r1,r2,⟨r3,r4,r5⟩⟩=(decide (cmp=0)&&(decide (l1=0)&&decide (l2=0)&&decide (l3=0∧l4=0∧l5.toList=[]))&&(decide (r1=0)&&decide (r2=0)&&decide (r3=0∧r4=0∧r5.toList=[]))):=by
 simp only [Zco,ZfJ,v0_nil]
theorem Zca {cols params:List Int} {op cmp:Int} {l r:Opd} {args:List Pred} (h:op=1∨op=2∨op=4∨op=5∨op=6) (hb:Zco cmp l r=false):predOk cols params (.mk op cmp l r args)=false:=by
 unfold predOk;rcases h with rfl | rfl | rfl | rfl | rfl<;>simp [hb]
theorem Zcb {cols params:List Int} {op cmp:Int} {l r:Opd} {args:List Pred} (h:op=1∧args.length=0∨op=2∧args.length=0∨op=4∨op=5∨op=6∧args.length=1) (hb:Zco cmp l r=true):predOk cols params (.mk op cmp l r args)=predsOk cols params args:=by
 unfold predOk;rcases h with ⟨rfl,h0⟩ | ⟨rfl,h0⟩ | rfl | rfl | ⟨rfl,h0⟩
 · have:args=[]:=List.eq_nil_of_length_eq_zero h0;subst this;simp [hb,predsOk]
 · have:args=[]:=List.eq_nil_of_length_eq_zero h0;subst this;simp [hb,predsOk]
 · simp [hb]
 · simp [hb]
 · simp [hb,h0]
theorem ZfD {cols params:List Int} {cmp:Int} {l r:Opd} {args:List Pred}:predOk cols params (.mk 3 cmp l r args)=(decide (args.length=0)&&decide (1≤cmp)&&decide (cmp≤6)&&decide (Zaf cols params l≠0)&&decide (Zaf cols params l=Zaf cols params r)):=by
 unfold predOk;rfl
theorem Zfq {cols params:List Int} {op cmp:Int} {l r:Opd} {args:List Pred} (h1:op≠1) (h2:op≠2) (h3:op≠3) (h4:op≠4) (h5:op≠5) (h6:op≠6):predOk cols params (.mk op cmp l r args)=false:=by
 unfold predOk;simp [h1,h2,h3,h4,h5,h6]
theorem Zfc {cols params:List Int} {op cmp:Int} {l r:Opd} {args:List Pred} (h:op=1∧args.length≠0∨op=2∧args.length≠0∨op=6∧args.length≠1):predOk cols params (.mk op cmp l r args)=false:=by
 unfold predOk;rcases h with ⟨rfl,h⟩ | ⟨rfl,h⟩ | ⟨rfl,h⟩<;>simp [h]
structure LK (w wr:World) (A1 A2:Option Addr) (n ca m cb:Nat):Prop where
 a:wr.cell? ⟨w.heap.size,0,none⟩=some (.slice A1 n ca)
 b:wr.cell? ⟨w.heap.size,1,none⟩=some (.slice A2 m cb)
 s:w.heap.size<wr.heap.size
theorem LK.below {w wr wx:World} {A1 A2:Option Addr} {n ca m cb:Nat} (h:LK w wr A1 A2 n ca m cb) (hb:Below wr.heap.size wr wx):LK w wx A1 A2 n ca m cb :=
 ⟨cQ hb h.s h.a,cQ hb h.s h.b,Nat.lt_of_lt_of_le h.s hb.size⟩
theorem ZcJ (w:World) (A1 A2:Option Addr) (n ca m cb:Nat) (x:Unit) (o:Obj):LK w ((w.alloc (.cells #[.slice A1 n ca,.slice A2 m cb] 171)).alloc o) A1 A2 n ca m cb :=
 ⟨(Zal (by simp)).trans (Zaj rfl rfl),(Zal (by simp)).trans (Zaj rfl rfl),by simp;omega⟩
theorem valid_cmp (A1 A2:Option Addr) (ca cb:Nat) (cols params:List Int) (cmp:Int) (l r:Opd) (args:List Pred) (A:Option Addr) (c:Nat) (S:Nat→Prop) (w:World) (hA:IntS w S A1 cols) (hB:IntS w S A2 params) (hp:PredS w S A args) (hS:∀ x,S x→x<w.heap.size) (hcap:args.length≤c) (hlt:l.value.t.size≤9223372036854775807) (hrt:r.value.t.size≤9223372036854775807) :
  Calls Try.prog 130 #[kAgg A1 A2 cols.length params.length ca cb,pAgg 3 cmp l r A args.length c] w (Zaz (predOk cols params (.mk 3 cmp l r args)) w):=by
   obtain⟨l1,l2,⟨l3,l4,l5⟩⟩:=l;obtain⟨r1,r2,⟨r3,r4,r5⟩⟩:=r;simp only at hlt hrt;have hal:=hp.len;have hcl:=hA.len;have hpl:=hB.len;have HP:=hI hp;have HA1:=hI hA;have HA2:=hI hB;clear hp hA hB;have HB0:=hI (((Below.refl w.heap.size w).alloc nR (.cells #[.slice A1 cols.length ca,.slice A2 params.length cb] 171)).alloc (by simp) (.cells #[.int .i64 3,.int .i64 cmp,.int .i64 l1,.int .i64 l2,.int .i64 l3,.int .i64 l4,.string l5,.int .i64 r1,.int .i64 r2,.int .i64 r3,.int .i64 r4,.string r5,.slice A args.length c] 100));obtain⟨W,hW⟩:∃ W,(w.alloc (.cells #[.slice A1 cols.length ca,.slice A2 params.length cb] 171)).alloc (.cells #[.int .i64 3,.int .i64 cmp,.int .i64 l1,.int .i64 l2,.int .i64 l3,.int .i64 l4,.string l5,.int .i64 r1,.int .i64 r2,.int .i64 r3,.int .i64 r4,.string r5,.slice A args.length c] 100)=W:=⟨_,rfl⟩;have HBW:=hI (show Below w.heap.size w W by rw [←hW];exact HB0.out);have hzW:W.heap.size=w.heap.size+2:=(by rw [←hW];simp);have x0:W.cell? ⟨w.heap.size,0,none⟩=some (.slice A1 cols.length ca):=(by rw [←hW];exact(Zal (by simp)).trans (Zaj rfl rfl));have x1:W.cell? ⟨w.heap.size,1,none⟩=some (.slice A2 params.length cb):=(by rw [←hW];exact(Zal (by simp)).trans (Zaj rfl rfl));have y0:W.cell? ⟨w.heap.size+1,0,none⟩=some (.int .i64 3):=(by rw [←hW];exact Zaj (by simp) rfl);have y1:W.cell? ⟨w.heap.size+1,1,none⟩=some (.int .i64 cmp):=(by rw [←hW];exact Zaj (by simp) rfl);have y2:W.cell? ⟨w.heap.size+1,2,none⟩=some (.int .i64 l1):=(by rw [←hW];exact Zaj (by simp) rfl);have y3:W.cell? ⟨w.heap.size+1,3,none⟩=some (.int .i64 l2):=(by rw [←hW];exact Zaj (by simp) rfl);have y4:W.cell? ⟨w.heap.size+1,4,none⟩=some (.int .i64 l3):=(by rw [←hW];exact Zaj (by simp) rfl);have y5:W.cell? ⟨w.heap.size+1,5,none⟩=some (.int .i64 l4):=(by rw [←hW];exact Zaj (by simp) rfl);have y6:W.cell? ⟨w.heap.size+1,6,none⟩=some (.string l5):=(by rw [←hW];exact Zaj (by simp) rfl);have y7:W.cell? ⟨w.heap.size+1,7,none⟩=some (.int .i64 r1):=(by rw [←hW];exact Zaj (by simp) rfl);have y8:W.cell? ⟨w.heap.size+1,8,none⟩=some (.int .i64 r2):=(by rw [←hW];exact Zaj (by simp) rfl);have y9:W.cell? ⟨w.heap.size+1,9,none⟩=some (.int .i64 r3):=(by rw [←hW];exact Zaj (by simp) rfl);have y10:W.cell? ⟨w.heap.size+1,10,none⟩=some (.int .i64 r4):=(by rw [←hW];exact Zaj (by simp) rfl);have y11:W.cell? ⟨w.heap.size+1,11,none⟩=some (.string r5):=(by rw [←hW];exact Zaj (by simp) rfl);have y12:W.cell? ⟨w.heap.size+1,12,none⟩=some (.slice A args.length c):=(by rw [←hW];exact Zaj (by simp) rfl);have hSW:∀ b,S b→b<W.heap.size:=(fun b hb=>by have:=hS b hb;omega);have HA1W:=hI (HA1.out.keep (Same.of_below HBW.out hS));have HA2W:=hI (HA2.out.keep (Same.of_below HBW.out hS));have hq0:w.heap.size<W.heap.size:=(by omega);have hq1:w.heap.size+1<W.heap.size:=(by omega);clear hzW;go_enter Try.func130,Try.ntmps130
   go_wp2_with fail
   clear hW
   go_region_held3 (fun w'=>Below W.heap.size W w'∧w'.cell? ⟨w.heap.size,0,none⟩=some (.slice A1 cols.length ca)∧w'.cell? ⟨w.heap.size,1,none⟩=some (.slice A2 params.length cb)∧w'.cell? ⟨w.heap.size+1,2,none⟩=some (.int .i64 l1)∧w'.cell? ⟨w.heap.size+1,3,none⟩=some (.int .i64 l2)∧w'.cell? ⟨w.heap.size+1,4,none⟩=some (.int .i64 l3)∧w'.cell? ⟨w.heap.size+1,5,none⟩=some (.int .i64 l4)∧w'.cell? ⟨w.heap.size+1,6,none⟩=some (.string l5)∧w'.cell? ⟨w.heap.size+1,7,none⟩=some (.int .i64 r1)∧w'.cell? ⟨w.heap.size+1,8,none⟩=some (.int .i64 r2)∧w'.cell? ⟨w.heap.size+1,9,none⟩=some (.int .i64 r3)∧w'.cell? ⟨w.heap.size+1,10,none⟩=some (.int .i64 r4)∧w'.cell? ⟨w.heap.size+1,11,none⟩=some (.string r5))
    (first | exact⟨(Below.refl _ _).drew,x0,x1,y2,y3,y4,y5,y6,y7,y8,y9,y10,y11⟩ | exact⟨hv2,cQ hv2 hq0 x0,cQ hv2 hq0 x1,cQ hv2 hq1 y2,cQ hv2 hq1 y3,cQ hv2 hq1 y4,cQ hv2 hq1 y5,cQ hv2 hq1 y6,cQ hv2 hq1 y7,cQ hv2 hq1 y8,cQ hv2 hq1 y9,cQ hv2 hq1 y10,cQ hv2 hq1 y11⟩ | exact⟨hv1,cQ hv1 hq0 x0,cQ hv1 hq0 x1,cQ hv1 hq1 y2,cQ hv1 hq1 y3,cQ hv1 hq1 y4,cQ hv1 hq1 y5,cQ hv1 hq1 y6,cQ hv1 hq1 y7,cQ hv1 hq1 y8,cQ hv1 hq1 y9,cQ hv1 hq1 y10,cQ hv1 hq1 y11⟩)
    (first
     | (go_at_call 142;have hvx:=hv1;clear hvx;refine(ZfE A1 A2 ca cb cols params ⟨r1,r2,⟨r3,r4,r5⟩⟩ S _ (HA1W.out.keep (Same.of_below hv1 hSW)) (HA2W.out.keep (Same.of_below hv1 hSW)) (fun b hb=>Nat.lt_of_lt_of_le (hSW b hb) hv1.size) hrt).mono ?_;rintro e w6 ⟨rfl,hv2'⟩;have hv2:Below W.heap.size W w6:=hv1.trans (hv2'.mono hv1.size))
     | (go_at_call 142;refine(ZfE A1 A2 ca cb cols params ⟨l1,l2,⟨l3,l4,l5⟩⟩ S W.drew (HA1W.out.keep (fun _ _=>rfl)) (HA2W.out.keep (fun _ _=>rfl)) hSW hlt).mono ?_;rintro e w5 ⟨rfl,hv1'⟩;have hv1:Below W.heap.size W w5:=(Below.refl _ W).drew.trans hv1'))
   have HB6:=hI (HBW.out.trans (hv2.mono (by omega)));have z1:=cQ hv2 hq1 y1;have z12:=cQ hv2 hq1 y12;have hq6:w.heap.size+1<w6.heap.size:=(by have:=hv2.size;omega);obtain⟨lk,hlk⟩:∃ lk,Zaf cols params ⟨l1,l2,⟨l3,l4,l5⟩⟩=lk:=⟨_,rfl⟩;obtain⟨rk,hrk⟩:∃ rk,Zaf cols params ⟨r1,r2,⟨r3,r4,r5⟩⟩=rk:=⟨_,rfl⟩;have HF:=hI (show predOk cols params (.mk 3 cmp ⟨l1,l2,⟨l3,l4,l5⟩⟩ ⟨r1,r2,⟨r3,r4,r5⟩⟩ args)=(decide (args.length=0)&&decide (1≤cmp)&&decide (cmp≤6)&&decide (lk≠0)&&decide (lk=rk)) by rw [ZfD,hlk,hrk]);rw [hlk,hrk];clear hv1 hv2 hv1' hv2' hlk hrk x0 x1 y0 y1 y2 y3 y4 y5 y6 y7 y8 y9 y10 y11 y12
   by_cases h0:args.length=0
   · have h0':((args.length:Int) == 0)=true:=(by simp [h0]);have H0:=hI h0;clear h0
     by_cases h1:1≤cmp
     · by_cases h6:cmp≤6
       · by_cases hl:lk=0
         · have hl':(lk != 0)=false:=(by simp [hl]);have HG:=hI (show (decide (args.length=0)&&decide (1≤cmp)&&decide (cmp≤6)&&decide (lk≠0)&&decide (lk=rk))=false by simp [hl]);clear hl
           go_wp2_with fail
           go_ret;exact⟨by rw [HF.out,HG.out];rfl,HB6.out⟩
         · have hl':(lk != 0)=true:=(by simp [hl]);have HG:=hI (show (decide (args.length=0)&&decide (1≤cmp)&&decide (cmp≤6)&&decide (lk≠0)&&decide (lk=rk))=(lk == rk) by simp [H0.out,hl,h1,h6];rfl);clear hl
           go_wp2_with fail
           go_ret;exact⟨by rw [HF.out,HG.out];rfl,HB6.out⟩
       · have HG:=hI (show (decide (args.length=0)&&decide (1≤cmp)&&decide (cmp≤6)&&decide (lk≠0)&&decide (lk=rk))=false by simp [h6]);have h6':decide (cmp≤6)=false:=decide_eq_false h6
         go_wp2_with fail
         go_ret;exact⟨by rw [HF.out,HG.out];rfl,HB6.out⟩
     · have HG:=hI (show (decide (args.length=0)&&decide (1≤cmp)&&decide (cmp≤6)&&decide (lk≠0)&&decide (lk=rk))=false by simp [h1]);have h1':decide (1≤cmp)=false:=decide_eq_false h1
       go_wp2_with fail
       go_ret;exact⟨by rw [HF.out,HG.out];rfl,HB6.out⟩
   · have h0':((args.length:Int) == 0)=false:=(by rw [beq_eq_false_iff_ne];omega);have HG:=hI (show (decide (args.length=0)&&decide (1≤cmp)&&decide (cmp≤6)&&decide (lk≠0)&&decide (lk=rk))=false by simp [h0]);clear h0
     go_wp2_with fail
     go_ret;exact⟨by rw [HF.out,HG.out];rfl,HB6.out⟩
theorem valid_p (A1 A2:Option Addr) (ca cb:Nat) (cols params:List Int):∀ (n:Nat) (op cmp:Int) (l r:Opd) (args:List Pred) (A:Option Addr) (c:Nat) (S:Nat→Prop) (w:World),SizeOf.sizeOf (Pred.mk op cmp l r args)≤n→IntS w S A1 cols→IntS w S A2 params→PredS w S A args→(∀ x,S x→x<w.heap.size)→args.length≤c→l.value.t.size≤9223372036854775807→r.value.t.size≤9223372036854775807 →
  Calls Try.prog 130 #[kAgg A1 A2 cols.length params.length ca cb,pAgg op cmp l r A args.length c] w (Zaz (predOk cols params (.mk op cmp l r args)) w):=by
 intro n;induction n with
 | zero=>intro op cmp l r args A c S w hn;simp at hn
 | succ n ih =>
  intro op cmp l r args A c S w hn hA hB hp hS hcap hlt hrt;obtain⟨l1,l2,⟨l3,l4,l5⟩⟩:=l;obtain⟨r1,r2,⟨r3,r4,r5⟩⟩:=r;simp only at hlt hrt;have hal:=hp.len;have hcl:=hA.len;have hpl:=hB.len;have HP:=hI hp;have HA1:=hI hA;have HA2:=hI hB;have IH:=hI ih;have HN:=hI (show SizeOf.sizeOf args≤n by simp at hn;omega);clear hp hA hB ih hn;have HB0:=hI (((Below.refl w.heap.size w).alloc nR (.cells #[.slice A1 cols.length ca,.slice A2 params.length cb] 171)).alloc (by simp) (.cells #[.int .i64 op,.int .i64 cmp,.int .i64 l1,.int .i64 l2,.int .i64 l3,.int .i64 l4,.string l5,.int .i64 r1,.int .i64 r2,.int .i64 r3,.int .i64 r4,.string r5,.slice A args.length c] 100))
  by_cases o3:op=3
  · subst o3;exact valid_cmp A1 A2 ca cb cols params cmp _ _ args A c S w HA1.out HA2.out HP.out hS hcap hlt hrt
  · have n3:(op == 3)=false:=beq_eq_false_iff_ne.2 o3
    by_cases o1:op=1
    · subst o1;clear o3
      by_cases h0:args.length=0
      · have h0':((args.length:Int) != 0)=false:=(by simp [h0]);go_enter Try.func130,Try.ntmps130
        go_wp2_with fail
        all_goals try (go_ret;exact⟨by rw [Zca (cols:=cols) (params:=params) (args:=args) (.inl rfl) (by rw [Zbe];simp [*])];rfl,((Below.refl _ _).alloc nR _).alloc (by simp) _⟩)
        have HF:=hI (show predOk cols params (.mk 1 cmp ⟨l1,l2,⟨l3,l4,l5⟩⟩ ⟨r1,r2,⟨r3,r4,r5⟩⟩ args)=predsOk cols params args from Zcb (.inl ⟨rfl,h0⟩) (by rw [Zbe];simp [*]))
        go_loopw [78] (fun i wr=>∃ k:Nat,k≤args.length∧i=.int .i64 k∧predsOk cols params args=predsOk cols params (args.drop k)∧Below w.heap.size w wr∧LK w wr A1 A2 cols.length ca params.length cb) (fun i _=>args.length - (intOf i).toNat)
        case atStart=>exact⟨0,Nat.zero_le _,rfl,by simp,((Below.refl _ _).alloc nR _).alloc (by simp) _,ZcJ _ _ _ _ _ _ _ () _⟩
        case round =>
         obtain⟨k,hk,rfl,ht,hbel,hlk⟩:=hrel;have HT:=hI ht;have HB:=hI hbel;have hsz:=hbel.size;have HLK:=hI hlk;have q0:=hlk.a;have q1:=hlk.b;have q2:=hlk.s;clear ht hbel hlk
         by_cases hkl:k<args.length
         · omega
         · have HE:=hI (show predsOk cols params args=true by rw [HT.out,show k=args.length by omega,List.drop_length];unfold predsOk;rfl)
           go_wp2_with fail
           go_ret;exact⟨by rw [HF.out,HE.out];rfl,HB.out⟩
      · have h0':((args.length:Int) != 0)=true:=(by rw [bne_iff_ne];omega);have HF:=hI (show predOk cols params (.mk 1 cmp ⟨l1,l2,⟨l3,l4,l5⟩⟩ ⟨r1,r2,⟨r3,r4,r5⟩⟩ args)=false from Zfc (.inl ⟨rfl,h0⟩));go_enter Try.func130,Try.ntmps130
        go_wp2_with fail
        go_ret;exact⟨by rw [HF.out];rfl,HB0.out⟩
    · have n1:(op == 1)=false:=beq_eq_false_iff_ne.2 o1
      by_cases o2:op=2
      · subst o2;clear o3
        by_cases h0:args.length=0
        · have h0':((args.length:Int) != 0)=false:=(by simp [h0]);go_enter Try.func130,Try.ntmps130
          go_wp2_with fail
          all_goals try (go_ret;exact⟨by rw [Zca (cols:=cols) (params:=params) (args:=args) (.inr (.inl rfl)) (by rw [Zbe];simp [*])];rfl,((Below.refl _ _).alloc nR _).alloc (by simp) _⟩)
          have HF:=hI (show predOk cols params (.mk 2 cmp ⟨l1,l2,⟨l3,l4,l5⟩⟩ ⟨r1,r2,⟨r3,r4,r5⟩⟩ args)=predsOk cols params args from Zcb (.inr (.inl ⟨rfl,h0⟩)) (by rw [Zbe];simp [*]))
          go_loopw [78] (fun i wr=>∃ k:Nat,k≤args.length∧i=.int .i64 k∧predsOk cols params args=predsOk cols params (args.drop k)∧Below w.heap.size w wr∧LK w wr A1 A2 cols.length ca params.length cb) (fun i _=>args.length - (intOf i).toNat)
          case atStart=>exact⟨0,Nat.zero_le _,rfl,by simp,((Below.refl _ _).alloc nR _).alloc (by simp) _,ZcJ _ _ _ _ _ _ _ () _⟩
          case round =>
           obtain⟨k,hk,rfl,ht,hbel,hlk⟩:=hrel;have HT:=hI ht;have HB:=hI hbel;have hsz:=hbel.size;have HLK:=hI hlk;have q0:=hlk.a;have q1:=hlk.b;have q2:=hlk.s;clear ht hbel hlk
           by_cases hkl:k<args.length
           · omega
           · have HE:=hI (show predsOk cols params args=true by rw [HT.out,show k=args.length by omega,List.drop_length];unfold predsOk;rfl)
             go_wp2_with fail
             go_ret;exact⟨by rw [HF.out,HE.out];rfl,HB.out⟩
        · have h0':((args.length:Int) != 0)=true:=(by rw [bne_iff_ne];omega);have HF:=hI (show predOk cols params (.mk 2 cmp ⟨l1,l2,⟨l3,l4,l5⟩⟩ ⟨r1,r2,⟨r3,r4,r5⟩⟩ args)=false from Zfc (.inr (.inl ⟨rfl,h0⟩)));go_enter Try.func130,Try.ntmps130
          go_wp2_with fail
          go_ret;exact⟨by rw [HF.out];rfl,HB0.out⟩
      · have n2:(op == 2)=false:=beq_eq_false_iff_ne.2 o2
        by_cases o6:op=6
        · subst o6;clear o3 o1 o2
          by_cases h0:args.length=1
          · have h0':((args.length:Int) != 1)=false:=(by simp [h0]);go_enter Try.func130,Try.ntmps130
            go_wp2_with fail
            all_goals try (go_ret;exact⟨by rw [Zca (cols:=cols) (params:=params) (args:=args) (.inr (.inr (.inr (.inr rfl)))) (by rw [Zbe];simp [*])];rfl,((Below.refl _ _).alloc nR _).alloc (by simp) _⟩)
            have HF:=hI (show predOk cols params (.mk 6 cmp ⟨l1,l2,⟨l3,l4,l5⟩⟩ ⟨r1,r2,⟨r3,r4,r5⟩⟩ args)=predsOk cols params args from Zcb (.inr (.inr (.inr (.inr ⟨rfl,h0⟩)))) (by rw [Zbe];simp [*]))
            go_loopw [78] (fun i wr=>∃ k:Nat,k≤args.length∧i=.int .i64 k∧predsOk cols params args=predsOk cols params (args.drop k)∧Below w.heap.size w wr∧LK w wr A1 A2 cols.length ca params.length cb) (fun i _=>args.length - (intOf i).toNat)
            case atStart=>exact⟨0,Nat.zero_le _,rfl,by simp,((Below.refl _ _).alloc nR _).alloc (by simp) _,ZcJ _ _ _ _ _ _ _ () _⟩
            case round =>
             obtain⟨k,hk,rfl,ht,hbel,hlk⟩:=hrel;have HT:=hI ht;have HB:=hI hbel;have hsz:=hbel.size;have HLK:=hI hlk;have q0:=hlk.a;have q1:=hlk.b;have q2:=hlk.s;clear ht hbel hlk
             by_cases hkl:k<args.length
             · obtain⟨b2,o2,rfl,hb2,op',cmp',⟨m1,m2,⟨m3,m4,m5⟩⟩,⟨n1,n2,⟨n3,n4,n5⟩⟩,args',A',c',hpe,hpa⟩:=(HP.out.keep (Same.of_below HB.out hS)).at_ hkl;have HSTEP:=hI (ZaZ cols params args k hkl);rw [hpe] at HSTEP;have HSZ:=hI (Zbs hkl hpe);have f1:=hpa.fop;have f2:=hpa.fcmp;have f3:=hpa.lk;have f4:=hpa.li;have f5:=hpa.lvk;have f6:=hpa.lvi;have f7:=hpa.lvt;have f8:=hpa.rk;have f9:=hpa.ri;have f10:=hpa.rvk;have f11:=hpa.rvi;have f12:=hpa.rvt;have f13:=hpa.fargs;have HPA:=hI hpa;have hl2:b2<wr.heap.size:=(by have:=hS b2 hb2;omega);have hal':=hpa.pS.len;clear hpa hpe;simp only at f1 f2 f3 f4 f5 f6 f7 f8 f9 f10 f11 f12 f13
               go_wp2_with fail
               refine(IH.out op' cmp' ⟨m1,m2,⟨m3,m4,m5⟩⟩ ⟨n1,n2,⟨n3,n4,n5⟩⟩ args' A' c' S _ (by have:=HSZ.out;have:=HN.out;omega) (HA1.out.keep (fun x hx=>(Below.heap_alloc _ _ _ (by have:=hS x hx;omega)).trans (HB.out.block x (hS x hx)))) (HA2.out.keep (fun x hx=>(Below.heap_alloc _ _ _ (by have:=hS x hx;omega)).trans (HB.out.block x (hS x hx)))) (HPA.out.pS.keep (fun x hx=>Below.heap_alloc _ _ _ (by have:=hS x hx;omega))) (fun x hx=>by have:=hS x hx;simp;omega) HPA.out.pc HPA.out.lt HPA.out.rt).mono ?_;rintro e w2 ⟨rfl,hb3⟩;have HBR:=hI (show Below wr.heap.size wr w2 from ((Below.refl _ wr).alloc nR _).trans (hb3.mono (by simp)));clear hb3;obtain⟨bb,hbb⟩:∃ bb,predOk cols params (.mk op' cmp' ⟨m1,m2,⟨m3,m4,m5⟩⟩ ⟨n1,n2,⟨n3,n4,n5⟩⟩ args')=bb:=⟨_,rfl⟩;rw [hbb] at HSTEP ⊢;clear hbb;cases bb
               · go_wp2_with fail
                 go_ret;exact⟨by rw [HF.out,HT.out,HSTEP.out];rfl,HB.out.trans (HBR.out.mono hsz)⟩
               · go_wp2_with fail
                 go_roundw
                 case rel=>exact⟨k+1,by omega,by go_num,by rw [HT.out,HSTEP.out];rfl,HB.out.trans (HBR.out.mono hsz),HLK.out.below HBR.out⟩
                 case measure=>simp [intOf];omega
             · have HE:=hI (show predsOk cols params args=true by rw [HT.out,show k=args.length by omega,List.drop_length];unfold predsOk;rfl)
               go_wp2_with fail
               go_ret;exact⟨by rw [HF.out,HE.out];rfl,HB.out⟩
          · have h0':((args.length:Int) != 1)=true:=(by rw [bne_iff_ne];omega);have HF:=hI (show predOk cols params (.mk 6 cmp ⟨l1,l2,⟨l3,l4,l5⟩⟩ ⟨r1,r2,⟨r3,r4,r5⟩⟩ args)=false from Zfc (.inr (.inr ⟨rfl,h0⟩)));go_enter Try.func130,Try.ntmps130
            go_wp2_with fail
            go_ret;exact⟨by rw [HF.out];rfl,HB0.out⟩
        · have n6:(op == 6)=false:=beq_eq_false_iff_ne.2 o6
          by_cases o4:op=4
          · subst o4;clear o3 o1 o2 o6;go_enter Try.func130,Try.ntmps130
            go_wp2_with fail
            all_goals try (go_ret;exact⟨by rw [Zca (cols:=cols) (params:=params) (args:=args) (.inr (.inr (.inl rfl))) (by rw [Zbe];simp [*])];rfl,((Below.refl _ _).alloc nR _).alloc (by simp) _⟩)
            have HF:=hI (show predOk cols params (.mk 4 cmp ⟨l1,l2,⟨l3,l4,l5⟩⟩ ⟨r1,r2,⟨r3,r4,r5⟩⟩ args)=predsOk cols params args from Zcb (.inr (.inr (.inl rfl))) (by rw [Zbe];simp [*]))
            go_loopw [78] (fun i wr=>∃ k:Nat,k≤args.length∧i=.int .i64 k∧predsOk cols params args=predsOk cols params (args.drop k)∧Below w.heap.size w wr∧LK w wr A1 A2 cols.length ca params.length cb) (fun i _=>args.length - (intOf i).toNat)
            case atStart=>exact⟨0,Nat.zero_le _,rfl,by simp,((Below.refl _ _).alloc nR _).alloc (by simp) _,ZcJ _ _ _ _ _ _ _ () _⟩
            case round =>
             obtain⟨k,hk,rfl,ht,hbel,hlk⟩:=hrel;have HT:=hI ht;have HB:=hI hbel;have hsz:=hbel.size;have HLK:=hI hlk;have q0:=hlk.a;have q1:=hlk.b;have q2:=hlk.s;clear ht hbel hlk
             by_cases hkl:k<args.length
             · obtain⟨b2,o2,rfl,hb2,op',cmp',⟨m1,m2,⟨m3,m4,m5⟩⟩,⟨n1,n2,⟨n3,n4,n5⟩⟩,args',A',c',hpe,hpa⟩:=(HP.out.keep (Same.of_below HB.out hS)).at_ hkl;have HSTEP:=hI (ZaZ cols params args k hkl);rw [hpe] at HSTEP;have HSZ:=hI (Zbs hkl hpe);have f1:=hpa.fop;have f2:=hpa.fcmp;have f3:=hpa.lk;have f4:=hpa.li;have f5:=hpa.lvk;have f6:=hpa.lvi;have f7:=hpa.lvt;have f8:=hpa.rk;have f9:=hpa.ri;have f10:=hpa.rvk;have f11:=hpa.rvi;have f12:=hpa.rvt;have f13:=hpa.fargs;have HPA:=hI hpa;have hl2:b2<wr.heap.size:=(by have:=hS b2 hb2;omega);have hal':=hpa.pS.len;clear hpa hpe;simp only at f1 f2 f3 f4 f5 f6 f7 f8 f9 f10 f11 f12 f13
               go_wp2_with fail
               refine(IH.out op' cmp' ⟨m1,m2,⟨m3,m4,m5⟩⟩ ⟨n1,n2,⟨n3,n4,n5⟩⟩ args' A' c' S _ (by have:=HSZ.out;have:=HN.out;omega) (HA1.out.keep (fun x hx=>(Below.heap_alloc _ _ _ (by have:=hS x hx;omega)).trans (HB.out.block x (hS x hx)))) (HA2.out.keep (fun x hx=>(Below.heap_alloc _ _ _ (by have:=hS x hx;omega)).trans (HB.out.block x (hS x hx)))) (HPA.out.pS.keep (fun x hx=>Below.heap_alloc _ _ _ (by have:=hS x hx;omega))) (fun x hx=>by have:=hS x hx;simp;omega) HPA.out.pc HPA.out.lt HPA.out.rt).mono ?_;rintro e w2 ⟨rfl,hb3⟩;have HBR:=hI (show Below wr.heap.size wr w2 from ((Below.refl _ wr).alloc nR _).trans (hb3.mono (by simp)));clear hb3;obtain⟨bb,hbb⟩:∃ bb,predOk cols params (.mk op' cmp' ⟨m1,m2,⟨m3,m4,m5⟩⟩ ⟨n1,n2,⟨n3,n4,n5⟩⟩ args')=bb:=⟨_,rfl⟩;rw [hbb] at HSTEP ⊢;clear hbb;cases bb
               · go_wp2_with fail
                 go_ret;exact⟨by rw [HF.out,HT.out,HSTEP.out];rfl,HB.out.trans (HBR.out.mono hsz)⟩
               · go_wp2_with fail
                 go_roundw
                 case rel=>exact⟨k+1,by omega,by go_num,by rw [HT.out,HSTEP.out];rfl,HB.out.trans (HBR.out.mono hsz),HLK.out.below HBR.out⟩
                 case measure=>simp [intOf];omega
             · have HE:=hI (show predsOk cols params args=true by rw [HT.out,show k=args.length by omega,List.drop_length];unfold predsOk;rfl)
               go_wp2_with fail
               go_ret;exact⟨by rw [HF.out,HE.out];rfl,HB.out⟩
          · have n4:(op == 4)=false:=beq_eq_false_iff_ne.2 o4
            by_cases o5:op=5
            · subst o5;clear o3 o1 o2 o6;go_enter Try.func130,Try.ntmps130
              go_wp2_with fail
              all_goals try (go_ret;exact⟨by rw [Zca (cols:=cols) (params:=params) (args:=args) (.inr (.inr (.inr (.inl rfl)))) (by rw [Zbe];simp [*])];rfl,((Below.refl _ _).alloc nR _).alloc (by simp) _⟩)
              have HF:=hI (show predOk cols params (.mk 5 cmp ⟨l1,l2,⟨l3,l4,l5⟩⟩ ⟨r1,r2,⟨r3,r4,r5⟩⟩ args)=predsOk cols params args from Zcb (.inr (.inr (.inr (.inl rfl)))) (by rw [Zbe];simp [*]))
              go_loopw [78] (fun i wr=>∃ k:Nat,k≤args.length∧i=.int .i64 k∧predsOk cols params args=predsOk cols params (args.drop k)∧Below w.heap.size w wr∧LK w wr A1 A2 cols.length ca params.length cb) (fun i _=>args.length - (intOf i).toNat)
              case atStart=>exact⟨0,Nat.zero_le _,rfl,by simp,((Below.refl _ _).alloc nR _).alloc (by simp) _,ZcJ _ _ _ _ _ _ _ () _⟩
              case round =>
               obtain⟨k,hk,rfl,ht,hbel,hlk⟩:=hrel;have HT:=hI ht;have HB:=hI hbel;have hsz:=hbel.size;have HLK:=hI hlk;have q0:=hlk.a;have q1:=hlk.b;have q2:=hlk.s;clear ht hbel hlk
               by_cases hkl:k<args.length
               · obtain⟨b2,o2,rfl,hb2,op',cmp',⟨m1,m2,⟨m3,m4,m5⟩⟩,⟨n1,n2,⟨n3,n4,n5⟩⟩,args',A',c',hpe,hpa⟩:=(HP.out.keep (Same.of_below HB.out hS)).at_ hkl;have HSTEP:=hI (ZaZ cols params args k hkl);rw [hpe] at HSTEP;have HSZ:=hI (Zbs hkl hpe);have f1:=hpa.fop;have f2:=hpa.fcmp;have f3:=hpa.lk;have f4:=hpa.li;have f5:=hpa.lvk;have f6:=hpa.lvi;have f7:=hpa.lvt;have f8:=hpa.rk;have f9:=hpa.ri;have f10:=hpa.rvk;have f11:=hpa.rvi;have f12:=hpa.rvt;have f13:=hpa.fargs;have HPA:=hI hpa;have hl2:b2<wr.heap.size:=(by have:=hS b2 hb2;omega);have hal':=hpa.pS.len;clear hpa hpe;simp only at f1 f2 f3 f4 f5 f6 f7 f8 f9 f10 f11 f12 f13
                 go_wp2_with fail
                 refine(IH.out op' cmp' ⟨m1,m2,⟨m3,m4,m5⟩⟩ ⟨n1,n2,⟨n3,n4,n5⟩⟩ args' A' c' S _ (by have:=HSZ.out;have:=HN.out;omega) (HA1.out.keep (fun x hx=>(Below.heap_alloc _ _ _ (by have:=hS x hx;omega)).trans (HB.out.block x (hS x hx)))) (HA2.out.keep (fun x hx=>(Below.heap_alloc _ _ _ (by have:=hS x hx;omega)).trans (HB.out.block x (hS x hx)))) (HPA.out.pS.keep (fun x hx=>Below.heap_alloc _ _ _ (by have:=hS x hx;omega))) (fun x hx=>by have:=hS x hx;simp;omega) HPA.out.pc HPA.out.lt HPA.out.rt).mono ?_;rintro e w2 ⟨rfl,hb3⟩;have HBR:=hI (show Below wr.heap.size wr w2 from ((Below.refl _ wr).alloc nR _).trans (hb3.mono (by simp)));clear hb3;obtain⟨bb,hbb⟩:∃ bb,predOk cols params (.mk op' cmp' ⟨m1,m2,⟨m3,m4,m5⟩⟩ ⟨n1,n2,⟨n3,n4,n5⟩⟩ args')=bb:=⟨_,rfl⟩;rw [hbb] at HSTEP ⊢;clear hbb;cases bb
                 · go_wp2_with fail
                   go_ret;exact⟨by rw [HF.out,HT.out,HSTEP.out];rfl,HB.out.trans (HBR.out.mono hsz)⟩
                 · go_wp2_with fail
                   go_roundw
                   case rel=>exact⟨k+1,by omega,by go_num,by rw [HT.out,HSTEP.out];rfl,HB.out.trans (HBR.out.mono hsz),HLK.out.below HBR.out⟩
                   case measure=>simp [intOf];omega
               · have HE:=hI (show predsOk cols params args=true by rw [HT.out,show k=args.length by omega,List.drop_length];unfold predsOk;rfl)
                 go_wp2_with fail
                 go_ret;exact⟨by rw [HF.out,HE.out];rfl,HB.out⟩
            · have n5:(op == 5)=false:=beq_eq_false_iff_ne.2 o5;have HF:=hI (Zfq (cols:=cols) (params:=params) (cmp:=cmp) (l:=⟨l1,l2,⟨l3,l4,l5⟩⟩) (r:=⟨r1,r2,⟨r3,r4,r5⟩⟩) (args:=args) o1 o2 o3 o4 o5 o6);clear o1 o2 o3 o4 o5 o6;go_enter Try.func130,Try.ntmps130
              go_wp2_with fail
              go_ret;exact⟨by rw [HF.out];rfl,HB0.out⟩
theorem pcheck_any (K B:Option Addr) (ck cb:Nat) (ks ps:List Int) (op cmp:Int) (l r:Opd) (args:List Pred) (A:Option Addr) (c:Nat) (S:Nat→Prop) (w:World) (hK:IntS w S K ks) (hB:IntS w S B ps) (hp:PredS w S A args) (hS:∀ b,S b→b<w.heap.size) (hcap:args.length≤c) (hlt:l.value.t.size≤9223372036854775807) (hrt:r.value.t.size≤9223372036854775807) :
  Calls Try.prog 112 #[.slice K ks.length ck,.slice B ps.length cb,pAgg op cmp l r A args.length c] w (Zbg (pcFF ks ps (.mk op cmp l r args)) w):=by
 have hkl:=hK.len;have hbl:=hB.len;have hal:=hp.len;have HK:=hI hK;have HBB:=hI hB;have HP:=hI hp;clear hK hB hp;obtain⟨p,hpe⟩:∃ p,Pred.mk op cmp l r args=p:=⟨_,rfl⟩;have HPE:=hI hpe;rw [hpe];clear hpe;have hB1:Below w.heap.size w (w.alloc (.cells #[.int .i64 op,.int .i64 cmp,.int .i64 l.kind,.int .i64 l.index,.int .i64 l.value.k,.int .i64 l.value.i,.string l.value.t,.int .i64 r.kind,.int .i64 r.index,.int .i64 r.value.k,.int .i64 r.value.i,.string r.value.t,.slice A args.length c] 100)):=(Below.refl _ _).alloc nR _;have HB1:=hI hB1;have HBK:=hI (HK.out.keep (Same.of_below hB1 hS));have HBP:=hI (HBB.out.keep (Same.of_below hB1 hS));clear hB1;cases hk:Zat ks with
 | false =>
  have HF:=hI (show pcFF ks ps p=1 by unfold pcFF;rw [if_pos (.inl hk)]);have HKK:=hI hk;clear hk;go_enter Try.func112,Try.ntmps112
  go_wp2_with fail
  refine(ZaS K ck ks S _ HBK.out).mono ?_;rintro e w1 ⟨rfl,rfl⟩;rw [HKK.out]
  go_wp2_with fail
  go_ret;exact⟨by rw [HF.out];rfl,HB1.out⟩
 | true =>
  have HKK:=hI hk;cases hq:Zat ps with
  | false =>
   have HF:=hI (show pcFF ks ps p=1 by unfold pcFF;rw [if_pos (.inr hq)]);have HQQ:=hI hq;clear hk hq;go_enter Try.func112,Try.ntmps112
   go_wp2_with fail
   refine(ZaS K ck ks S _ HBK.out).mono ?_;rintro e w1 ⟨rfl,rfl⟩;rw [HKK.out]
   go_wp2_with fail
   refine(ZaS B cb ps S _ HBP.out).mono ?_;rintro e w1 ⟨rfl,rfl⟩;rw [HQQ.out]
   go_wp2_with fail
   go_ret;exact⟨by rw [HF.out];rfl,HB1.out⟩
  | true =>
   have HQQ:=hI hq;have HF0:=hI (show pcFF ks ps p=if (smallP p 1 24).1=false then 2 else if predOk ks ps p=false then 50 else 0 by unfold pcFF;rw [if_neg (by simp [hk,hq])]);clear hk hq;go_enter Try.func112,Try.ntmps112
   go_wp2_with fail
   refine(ZaS K ck ks S _ HBK.out).mono ?_;rintro e w1 ⟨rfl,rfl⟩;rw [HKK.out]
   go_wp2_with fail
   refine(ZaS B cb ps S _ HBP.out).mono ?_;rintro e w1 ⟨rfl,rfl⟩;rw [HQQ.out]
   go_wp2_with fail
   obtain⟨W2,hW2⟩:∃ W2,(w.alloc (.cells #[.int .i64 op,.int .i64 cmp,.int .i64 l.kind,.int .i64 l.index,.int .i64 l.value.k,.int .i64 l.value.i,.string l.value.t,.int .i64 r.kind,.int .i64 r.index,.int .i64 r.value.k,.int .i64 r.value.i,.string r.value.t,.slice A args.length c] 100)).alloc (.cells #[.int .i64 24] 3)=W2:=⟨_,rfl⟩;have hb2:Below w.heap.size w W2:=(by rw [←hW2];exact HB1.out.alloc (by simp) _);have hz2:W2.heap.size=w.heap.size+2:=(by rw [←hW2];simp)
   have hg2:W2.heap[w.heap.size+1]?=some (.cells #[.int .i64 24] 3 (0,0)):=by
    rw [←hW2];have h:=heap_alloc_new (w.alloc (.cells #[.int .i64 op,.int .i64 cmp,.int .i64 l.kind,.int .i64 l.index,.int .i64 l.value.k,.int .i64 l.value.i,.string l.value.t,.int .i64 r.kind,.int .i64 r.index,.int .i64 r.value.k,.int .i64 r.value.i,.string r.value.t,.slice A args.length c] 100)) (.cells #[.int .i64 24] 3);rwa [World.size_alloc] at h
   have hp2:W2.heap[w.heap.size]?=some (.cells #[.int .i64 op,.int .i64 cmp,.int .i64 l.kind,.int .i64 l.index,.int .i64 l.value.k,.int .i64 l.value.i,.string l.value.t,.int .i64 r.kind,.int .i64 r.index,.int .i64 r.value.k,.int .i64 r.value.i,.string r.value.t,.slice A args.length c] 100 (0,0)):=(by rw [←hW2];exact(Below.heap_alloc _ _ _ (by simp)).trans (heap_alloc_new w _));have HB2:=hI hb2;have hSM:=small_any (SizeOf.sizeOf (Pred.mk op cmp l r args)) op cmp l r args A c 1 24 (w.heap.size+1) S W2 nR (HP.out.keep (Same.of_below hb2 hS)) (fun x hx=>by have:=hS x hx;omega) hg2 (by omega) (by omega) (by omega) (by omega);rw [HPE.out] at hSM;have HP2:=hI hp2;have HW2:=hI hW2;clear hb2 hg2 hp2 hW2;change Calls Try.prog _ _ ((w.alloc (.cells #[.int .i64 op,.int .i64 cmp,.int .i64 l.kind,.int .i64 l.index,.int .i64 l.value.k,.int .i64 l.value.i,.string l.value.t,.int .i64 r.kind,.int .i64 r.index,.int .i64 r.value.k,.int .i64 r.value.i,.string r.value.t,.slice A args.length c] 100)).alloc (.cells #[.int .i64 24] 3)) _;rw [HW2.out];refine(show Calls _ _ _ _ _ from hSM).mono ?_;clear hSM;rintro e w3 ⟨rfl,-,hg3⟩;have HB3:=hI (show Below w.heap.size w w3 from HB2.out.grown hg3 (by omega) (fun g e=>by injection e with e;omega));have hp3:w3.heap[w.heap.size]?=some (.cells #[.int .i64 op,.int .i64 cmp,.int .i64 l.kind,.int .i64 l.index,.int .i64 l.value.k,.int .i64 l.value.i,.string l.value.t,.int .i64 r.kind,.int .i64 r.index,.int .i64 r.value.k,.int .i64 r.value.i,.string r.value.t,.slice A args.length c] 100 (0,0)):=(hg3.block _ (by omega) (by intro e;injection e with e;omega)).trans HP2.out;have y0:w3.cell? ⟨w.heap.size,0,none⟩=some (.int .i64 op):=Zaa hp3 0 _ rfl;have y1:w3.cell? ⟨w.heap.size,1,none⟩=some (.int .i64 cmp):=Zaa hp3 1 _ rfl;have y2:w3.cell? ⟨w.heap.size,2,none⟩=some (.int .i64 l.kind):=Zaa hp3 2 _ rfl;have y3:w3.cell? ⟨w.heap.size,3,none⟩=some (.int .i64 l.index):=Zaa hp3 3 _ rfl;have y4:w3.cell? ⟨w.heap.size,4,none⟩=some (.int .i64 l.value.k):=Zaa hp3 4 _ rfl;have y5:w3.cell? ⟨w.heap.size,5,none⟩=some (.int .i64 l.value.i):=Zaa hp3 5 _ rfl;have y6:w3.cell? ⟨w.heap.size,6,none⟩=some (.string l.value.t):=Zaa hp3 6 _ rfl;have y7:w3.cell? ⟨w.heap.size,7,none⟩=some (.int .i64 r.kind):=Zaa hp3 7 _ rfl;have y8:w3.cell? ⟨w.heap.size,8,none⟩=some (.int .i64 r.index):=Zaa hp3 8 _ rfl;have y9:w3.cell? ⟨w.heap.size,9,none⟩=some (.int .i64 r.value.k):=Zaa hp3 9 _ rfl;have y10:w3.cell? ⟨w.heap.size,10,none⟩=some (.int .i64 r.value.i):=Zaa hp3 10 _ rfl;have y11:w3.cell? ⟨w.heap.size,11,none⟩=some (.string r.value.t):=Zaa hp3 11 _ rfl;have y12:w3.cell? ⟨w.heap.size,12,none⟩=some (.slice A args.length c):=Zaa hp3 12 _ rfl;have hz3:w.heap.size<w3.heap.size:=(by have:=hg3.size;omega);clear hg3 hp3;cases hs:(smallP p 1 24).1 with
   | false =>
    have HF:=hI (show pcFF ks ps p=2 by rw [HF0.out,if_pos hs]);clear hs y0 y1 y2 y3 y4 y5 y6 y7 y8 y9 y10 y11 y12
    go_wp2_with fail
    go_ret;exact⟨by rw [HF.out];rfl,HB3.out⟩
   | true =>
    have HF1:=hI (show pcFF ks ps p=if predOk ks ps p=false then 50 else 0 by rw [HF0.out,if_neg (by simp [hs])]);clear hs;have hVA:=valid_p K B ck cb ks ps (SizeOf.sizeOf (Pred.mk op cmp l r args)) op cmp l r args A c S w3 nR (HK.out.keep (Same.of_below HB3.out hS)) (HBB.out.keep (Same.of_below HB3.out hS)) (HP.out.keep (Same.of_below HB3.out hS)) (fun x hx=>by have:=hS x hx;omega) hcap hlt hrt;rw [HPE.out] at hVA;have HVA:=hI hVA;clear hVA
    go_wp2_with fail
    refine(show Calls _ _ _ _ _ from HVA.out).mono ?_;rintro e w4 ⟨rfl,hb4⟩;have HB4:=hI (HB3.out.trans (hb4.mono (by omega)));clear hb4 y0 y1 y2 y3 y4 y5 y6 y7 y8 y9 y10 y11 y12;cases hv:predOk ks ps p with
    | false =>
     have HF:=hI (show pcFF ks ps p=50 by rw [HF1.out,if_pos hv]);clear hv
     go_wp2_with fail
     go_ret;exact⟨by rw [HF.out];rfl,HB4.out⟩
    | true =>
     have HF:=hI (show pcFF ks ps p=0 by rw [HF1.out,if_neg (by simp [hv])]);clear hv
     go_wp2_with fail
     go_ret;exact⟨by rw [HF.out];rfl,HB4.out⟩
theorem pred_calls (ks:List Int) (p:Pred):ZdN pcF ks p:=by
 intro K ck op cmp l r args A c S w hp hK hA hS hcap hlt hrt;subst hp;exact pcheck_any K none ck 0 ks [] op cmp l r args A c S w hK IntS.nil_ hA hS hcap hlt hrt
theorem ZeD (s:Sch):Zew pcF s:=fun t _ p _=>pred_calls _ p
end Go.Proofs.Ytkpjjfhfbpfjpaa
