import Derived.Test.YtkpjjfhfbpfjpaaGreatK9674fd
import Derived.Test.YtkpjjfhfbpfjpaaGreatK50fb0e
import Derived.Test.YtkpjjfhfbpfjpaaGreatK740de7
import Derived.Test.YtkpjjfhfbpfjpaaGreatK4e30bf
import Derived.Deep.Cut
import Derived.Deep.CutBlock
import Derived.Deep.CutRange
import Derived.Deep.DeepCutAuto
import Derived.Test.YtkpjjfhfbpfjpaaGreatK9a2eb5
import Derived.Test.YtkpjjfhfbpfjpaaGreatK093f24
import Derived.Test.YtkpjjfhfbpfjpaaGreatK185549
set_option linter.unusedVariables false
set_option linter.unusedSimpArgs false
set_option maxRecDepth 100000
set_option maxHeartbeats 8000000
namespace Go.Proofs.YtkpjjfhfbpfjpaaGreat
open Go.RowKit
theorem chgs_at {w:World} {S:Nat→Prop} {A:Option Addr} {L:List (List Chg)} (h:Sl w S A (L.map Zdk)) {k:Nat} (hk:k<L.length):∃ b off,A=some ⟨b,off,none⟩∧S b∧∃ A' c,w.cell? ⟨b,off+k,none⟩=some (.slice A' (L.getD k []).length c)∧(L.getD k []).length≤c∧ChgS w S A' (L.getD k []):=by
 obtain⟨b,off,e,hb,h1⟩:=Sl.at_ (n:=1) (fun _=>rfl) [] h hk;rw [Nat.mul_one] at h1;simp only [Zdk,Dat.Held,List.length_map] at h1;obtain⟨A',c,h2,h3,h4,h5⟩:=h1;exact⟨b,off,e,hb,A',c,h2,h3,⟨by simpa using h4,by simpa using h5⟩⟩
abbrev prtC (s:Sch) (n i:Nat) (D:List Chg):List Chg:=D.filter fun c=>ZbM s n c == i
theorem ZfU (f la:Chg):(ZaT f la).length≤1:=by
 unfold ZaT;split<;>simp
theorem ZdR {s:Sch}:∀ (l:List Chg) (o:Option (Chg × Chg)) (out:List Chg),Zar s o l=some out→out.length≤l.length+(if o.isSome then 1 else 0)
 | [],none,out,h=>by unfold Zar at h;injection h with h;subst h;simp
 | x :: r,none,out,h=>by
  unfold Zar at h;have:=ZdR r _ out h;simp only [Option.isSome_some,if_true,Option.isSome_none,Bool.false_eq_true,if_false,List.length_cons] at this ⊢;omega
 | [],some (f,la),out,h=>by
  unfold Zar at h;injection h with h;subst h;have:=ZfU f la;simpa using this
 | x :: r,some (f,la),out,h=>by
  unfold Zar at h;split at h
  · split at h
    · have:=ZdR r _ out h;simp only [Option.isSome_some,if_true,List.length_cons] at this ⊢;omega
    · cases h
  · obtain⟨o2,h1,h2⟩:=Option.map_eq_some_iff.1 h;have:=ZdR r _ o2 h1;have h3:=ZfU f la;subst h2;simp only [Option.isSome_some,if_true,List.length_cons,List.length_append] at this ⊢;omega
theorem netF_len {e m:Int} {s:Sch} {l D:List Chg} (h:netF e s m l=(0,D)):D.length≤l.length:=by
 unfold netF at h;split at h
 · injection h with h1 h2;subst h2;simp
 · split at h
   · injection h with h1 h2;subst h2;simp
   · rename_i o ho
     split at h
     · injection h with h1 h2;subst h2;simp
     · injection h with h1 h2;subst h2;have h3:=ZdR _ _ _ ho;rw [ZdV,List.length_take] at h3;simp only [Option.isSome_none,Bool.false_eq_true,if_false] at h3;omega
theorem Zhr {s:Sch} {n i:Nat} {D:List Chg} (hv:∀ x ∈ D,Zap s 1 x=true):prtC s n i D=D.filter fun c=>qh n i c.table.toNat (keyC s c):=by
 refine List.filter_congr (fun c hc=>?_);obtain⟨t,h1,h2⟩:=Zgi (hv c hc);unfold ZbM qh;rw [key2_eq (hv c hc),h1,Int.toNat_natCast]
structure BackC (s:Sch) (st:St) (l D:List Chg):Prop where
 net:netF 0 s 1 l=(0,D)
 len:D.length≤l.length
 val:∀ x ∈ D,Zap s 1 x=true
 chg:∀ x ∈ D,ChgN s x∧Zeq s x=keyC s x
 asc:D.Pairwise (fun a b=>cmpC s a b<0)
 part:∀ n i:Nat,netF 0 s 1 (prtC s n i D)=(0,prtC s n i D)
theorem back_of {s:Sch} (hg:GenS s) (hsc:schF pcF s=0) {st:St} (hs:StOk s 1 st) {l:List Chg} (hf:Fit s 1 st l):BackC s st l (ZbX s st (after s st l)):=by
 have hw:=hg.wide;have hb:=(Zgc hs hf).1;have hn:=ZhH hw (m:=1) rfl hs hf;have hd:=diff_fit hw hs hb;have hv:=Zhb hd.1;exact⟨hn,netF_len hn,hv,fun x hx=>⟨ChgN.of hsc (hv x hx),key2_eq (hv x hx)⟩,ZcE hs hb (Zbu hw hs) (Zbu hw hb),fun n i=>by rw [Zhr hv];exact prtS_net hw rfl (qh n i) hs hb⟩
theorem BackC.split {s:Sch} {st:St} {l D:List Chg} (h:BackC s st l D) (hsc:schF pcF s=0) {n:Nat} (hn1:1≤n) (hn4:n≤4):Zcs s n l=(0,Zbw n (ZbM s n) D):=by
 unfold Zcs;have e:ZbR s (n:Int)=0:=(by unfold ZbR;rw [if_neg (by omega)];exact hsc);rw [e,hsc,h.net,if_neg (by simp),if_neg (by simp),Int.toNat_natCast]
end Go.Proofs.YtkpjjfhfbpfjpaaGreat
