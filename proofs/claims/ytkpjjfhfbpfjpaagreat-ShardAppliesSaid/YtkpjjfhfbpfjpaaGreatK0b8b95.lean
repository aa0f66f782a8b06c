import Derived.Test.YtkpjjfhfbpfjpaaGreatK4e30bf
import Derived.RangeFuncBox
import Derived.RangeFuncNested
import Derived.RangeFuncLeaves
import Derived.RangeFuncCalls
import Derived.RangeFuncBound
import Derived.Shelf.Abstract
import Derived.OwnWalkIn
import Derived.TacticsInMore
import Derived.LoopNIn
import Derived.LoopIn
import Derived.Test.YtkpjjfhfbpfjpaaGreatK660fb2
import Derived.Test.YtkpjjfhfbpfjpaaGreatK740de7
import Derived.Test.YtkpjjfhfbpfjpaaGreatK7c2f3a
import Derived.Test.YtkpjjfhfbpfjpaaGreatK526329
set_option linter.unusedVariables false
set_option linter.unusedSimpArgs false
set_option maxRecDepth 100000
set_option maxHeartbeats 8000000
namespace Go.Proofs.YtkpjjfhfbpfjpaaGreat
open Go Go.RowKit
open Go.Shelf
attribute [local go_sem] Oper.semAt_some
end Go.Proofs.YtkpjjfhfbpfjpaaGreat
namespace Go.Proofs.YtkpjjfhfbpfjpaaGreat
open Go.RowKit Go.Shelf
def invC (c:Chg):Chg:=⟨c.table,c.new,c.old⟩
attribute [local go_sem] Oper.semAt_some
end Go.Proofs.YtkpjjfhfbpfjpaaGreat
namespace Go.Proofs.YtkpjjfhfbpfjpaaGreat
open Go.RowKit
def ZaI (s:Sch) (t:Int) (key:Row) (l:List Row):Option Row:=l.find? (fun r=>cmpR (keyF s t r) key == 0)
theorem Zgd (s:Sch) (t:Int) (key:Row) {l:List Row} {k:Nat} (h:k<l.length):ZaI s t key (l.drop k)=if cmpR (keyF s t (l.getD k [])) key=0 then some (l.getD k []) else ZaI s t key (l.drop (k+1)):=by
 have e:l.getD k []=l[k]:=(by simp [List.getD,h]);rw [List.drop_eq_getElem_cons h,e];unfold ZaI;rw [List.find?_cons]
 by_cases h1:cmpR (keyF s t l[k]) key=0
 · simp [h1]
 · have h2:(cmpR (keyF s t l[k]) key == 0)=false:=beq_eq_false_iff_ne.2 h1;simp [h1,h2]
def foundL (s:Sch) (t:Int) (key:Row) (l:List Row):Bool:=decide (low s t key l<l.length)&&(cmpR (keyF s t (l.getD (low s t key l) [])) key == 0)
def putL (s:Sch) (t:Int) (key row:Row) (l:List Row):List Row :=
 l.take (low s t key l)++(if 0<row.length then [row] else [])++(if foundL s t key l then l.drop (low s t key l+1) else l.drop (low s t key l))
theorem putC_eq (s:Sch) (c:Chg) (l:List Row):putC s c l=putL s c.table (keyC s c) c.new l:=rfl
theorem ZgZ (s:Sch) (c:Chg) (l:List Row):ZbF s c l=foundL s c.table (keyC s c) l:=rfl
structure Cut (s:Sch) (t:Int) (key:Row) (l a:List Row) (o:Option Row) (b:List Row):Prop where
 eq:l=a++o.toList++b
 below:∀ x ∈ a,cmpR (keyF s t x) key<0
 at_:∀ r,o=some r→keyF s t r=key
 above:∀ y ∈ b,cmpR key (keyF s t y)<0
section
variable {s:Sch} {t:Int} {key:Row} {l a b:List Row} {o:Option Row}
theorem low_app {l':List Row}:∀ {a:List Row},(∀ x ∈ a,cmpR (keyF s t x) key<0)→low s t key (a++l')=a.length+low s t key l'
 | [],_=>by simp
 | x :: a,h=>by
  have ih:=low_app (l':=l') (a:=a) (fun y hy=>h y (by simp [hy]));rw [List.cons_append,low,if_pos (h x (by simp)),ih,List.length_cons];omega
theorem Cut.low (h:Cut s t key l a o b):low s t key l=a.length:=by
 rw [h.eq,List.append_assoc,low_app h.below]
 have:Go.Proofs.YtkpjjfhfbpfjpaaGreat.low s t key (o.toList++b)=0:=by
  cases o with
  | some r =>
   have:=h.at_ r rfl;simp [Go.Proofs.YtkpjjfhfbpfjpaaGreat.low,this,cmpR_is.self]
  | none =>
   cases b with
   | nil=>rfl
   | cons y b =>
    have h1:=h.above y (by simp);have h2:=cmpR_is.flip key (keyF s t y);simp only [Option.toList_none,List.nil_append,Go.Proofs.YtkpjjfhfbpfjpaaGreat.low];rw [if_neg (by omega)]
 omega
theorem Cut.found (h:Cut s t key l a o b):foundL s t key l=o.isSome:=by
 unfold foundL;rw [h.low,h.eq];cases o with
 | some r =>
  have:=h.at_ r rfl;simp [List.getD,this,cmpR_is.self]
 | none =>
  cases b with
  | nil=>simp
  | cons y b =>
   have h1:=h.above y (by simp);have h2:=cmpR_is.flip key (keyF s t y);have h3:¬ cmpR (keyF s t y) key=0:=(by omega);simp [List.getD,h3]
theorem Cut.put (h:Cut s t key l a o b) (row:Row):putL s t key row l=a++(if 0<row.length then [row] else [])++b:=by
 unfold putL;rw [h.low,h.found,h.eq];cases o with
 | some r=>simp
 | none=>simp
theorem Cut.at_low (h:Cut s t key l a o b) {r:Row} (hr:o=some r):l.getD a.length []=r:=by
 rw [h.eq,hr];simp [List.getD]
theorem Cut.find (h:Cut s t key l a o b):ZaI s t key l=o:=by
 rw [h.eq];unfold ZaI
 have h0:∀ {a:List Row},(∀ x ∈ a,cmpR (keyF s t x) key<0)→a.find? (fun r=>cmpR (keyF s t r) key == 0)=none:=fun {a} ha=>by
  rw [List.find?_eq_none];intro x hx;have:=ha x hx;simp;omega
 rw [List.append_assoc,List.find?_append,h0 h.below,Option.none_or];cases o with
 | some r =>
  have:=h.at_ r rfl;simp [this,cmpR_is.self]
 | none =>
  simp only [Option.toList_none,List.nil_append];rw [List.find?_eq_none];intro y hy;have h1:=h.above y hy;have h2:=cmpR_is.flip key (keyF s t y);simp;omega
theorem ZbE {r:Row} (h:Asc s t (r :: l)):Asc s t l∧∀ y ∈ l,cmpR (keyF s t r) (keyF s t y)<0 :=
 ⟨fun i j hij hj=>h (i+1) (j+1) (by omega) (by simpa using hj),fun y hy=>by
  obtain⟨j,hj,rfl⟩:=List.mem_iff_getElem.1 hy;have:=h 0 (j+1) (by omega) (by simpa using hj);simpa [List.getD,hj] using this⟩
theorem asc_cons {r:Row} (h:Asc s t l) (hr:∀ y ∈ l,cmpR (keyF s t r) (keyF s t y)<0):Asc s t (r :: l):=by
 intro i j hij hj;cases j with
 | zero=>omega
 | succ j =>
  have hj':j<l.length:=(by simpa using hj);cases i with
  | zero =>
   have:=hr l[j] (List.getElem_mem _);simpa [List.getD,hj'] using this
  | succ i=>exact h i j (by omega) hj'
theorem ZbO (key:Row):∀ {l:List Row},Asc s t l→∃ a o b,Cut s t key l a o b
 | [],_=>⟨[],none,[],⟨rfl,by simp,by simp,by simp⟩⟩
 | r :: l,h=>by
  obtain⟨h1,h2⟩:=ZbE h
  by_cases hc:cmpR (keyF s t r) key<0
  · obtain⟨a,o,b,h3⟩:=ZbO key h1;refine⟨r :: a,o,b,⟨by rw [h3.eq];simp,fun x hx=>?_,h3.at_,h3.above⟩⟩;rcases List.mem_cons.1 hx with rfl | hx
    · exact hc
    · exact h3.below x hx
  · have hfl:=cmpR_is.flip (keyF s t r) key
    by_cases he:cmpR (keyF s t r) key=0
    · have hk:=(cmpR_is.zero _ _).1 he;exact⟨[],some r,l,⟨rfl,by simp,fun r' e=>by injection e with e;rw [←e];exact hk,fun y hy=>by rw [←hk];exact h2 y hy⟩⟩
    · refine⟨[],none,r :: l,⟨rfl,by simp,by simp,fun y hy=>?_⟩⟩;rcases List.mem_cons.1 hy with rfl | hy
      · omega
      · exact cmpR_is.lt_trans (show cmpR key (keyF s t r)<0 by omega) (h2 y hy)
theorem Cut.again (h:Cut s t key l a o b) {row:Row} (hr:0<row.length→keyF s t row=key):Cut s t key (putL s t key row l) a (if 0<row.length then some row else none) b:=by
 refine⟨?_,h.below,fun r e=>?_,h.above⟩
 · rw [h.put];split<;>simp
 · split at e
   · rename_i h0
     injection e with e;rw [←e];exact hr h0
   · cases e
end
def rput (s:Sch) (t:Int) (key row:Row):Bool→List Row→List Row
 | d,[]=>if d then [] else [row]
 | d,r :: l=>(if 0≤cmpR (keyF s t r) key∧d=false then [row] else [])++((if cmpR (keyF s t r) key≠0 then [r] else [])++rput s t key row (d||decide (0≤cmpR (keyF s t r) key)) l)
def putR (s:Sch) (t:Int) (key row:Row) (l:List Row):List Row:=rput s t key row (decide (row.length=0)) l
theorem Zcu {s:Sch} {t:Int} {key row:Row}:∀ {b:List Row},(∀ y ∈ b,cmpR key (keyF s t y)<0)→rput s t key row true b=b
 | [],_=>by simp [rput]
 | y :: b,h=>by
  have h1:=h y (by simp);have h2:=cmpR_is.flip key (keyF s t y);have h3:¬ cmpR (keyF s t y) key=0:=(by omega);have ih:=Zcu (row:=row) (b:=b) (fun z hz=>h z (by simp [hz]));simp [rput,h3,ih]
theorem rput_false_above {s:Sch} {t:Int} {key row:Row}:∀ {b:List Row},(∀ y ∈ b,cmpR key (keyF s t y)<0)→rput s t key row false b=row :: b
 | [],_=>by simp [rput]
 | y :: b,h=>by
  have h1:=h y (by simp);have h2:=cmpR_is.flip key (keyF s t y);have h3:¬ cmpR (keyF s t y) key=0:=(by omega);have h4:0≤cmpR (keyF s t y) key:=(by omega);have ih:=Zcu (row:=row) (b:=b) (fun z hz=>h z (by simp [hz]));simp [rput,h3,h4,ih]
theorem ZfM {s:Sch} {t:Int} {key row:Row} {d:Bool} {l:List Row}:∀ {a:List Row},(∀ x ∈ a,cmpR (keyF s t x) key<0)→rput s t key row d (a++l)=a++rput s t key row d l
 | [],_=>by simp
 | x :: a,h=>by
  have h1:=h x (by simp);have h3:¬ cmpR (keyF s t x) key=0:=(by omega);have h4:¬ 0≤cmpR (keyF s t x) key:=(by omega);have ih:=ZfM (row:=row) (d:=d) (l:=l) (a:=a) (fun z hz=>h z (by simp [hz]));simp [rput,h3,h4,ih]
theorem putR_eq {s:Sch} {t:Int} {l:List Row} (h:Asc s t l) (key row:Row):putR s t key row l=putL s t key row l:=by
 obtain⟨a,o,b,hc⟩:=ZbO key h;rw [hc.put row];unfold putR;rw [hc.eq,List.append_assoc,ZfM hc.below,List.append_assoc]
 congr 1
 cases o with
 | some r =>
  have hk:=hc.at_ r rfl;have h0:cmpR (keyF s t r) key=0:=by rw [hk];exact cmpR_is.self _
  by_cases hr:row.length=0
  · simp [rput,h0,hr,Zcu hc.above]
  · have:0<row.length:=(by omega);simp [rput,h0,hr,this,Zcu hc.above]
 | none =>
  by_cases hr:row.length=0
  · simp [hr,Zcu hc.above]
  · have:0<row.length:=(by omega);simp [hr,this,rput_false_above hc.above]
def Zhm (s:Sch) (t m:Int) (l:List Row):Prop:=(∀ r ∈ l,Zax s t r m=true)∧Asc s t l
def StOk (s:Sch) (m:Int) (st:St):Prop:=st.length=s.tabs.length∧∀ t,t<st.length→Zhm s (t:Int) m (st.getD t [])
theorem ZgL {s:Sch} {t m:Int}:∀ {l:List Row} {p:Option Row},(∀ r ∈ l,Zax s t r m=true)→Asc s t l→(∀ q,p=some q→∀ y ∈ l,cmpR (keyF s t q) (keyF s t y)<0)→Zbm s t m p l=true
 | [],p,_,_,_=>by simp [Zbm]
 | r :: l,p,h1,h2,h3=>by
  obtain⟨h4,h5⟩:=ZbE h2;have ih:=ZgL (p:=some r) (fun x hx=>h1 x (by simp [hx])) h4 (fun q e y hy=>by injection e with e;rw [←e];exact h5 y hy);have h6:=h1 r (by simp);cases p with
  | none=>simp [Zbm,ih,h6]
  | some q =>
   have:=h3 q rfl r (by simp);simp [Zbm,ih,h6,this]
theorem stOk_of {s:Sch} {m:Int}:∀ {st:St} {t:Nat},(∀ k,k<st.length→Zhm s ((t+k:Nat):Int) m (st.getD k []))→stOk s m t st=true
 | [],t,_=>by simp [stOk]
 | l :: st,t,h=>by
  have h0:=h 0 (by simp)
  have ih:=stOk_of (s:=s) (m:=m) (st:=st) (t:=t+1) (fun k hk=>by
   have:=h (k+1) (by simpa using hk);rw [show t+(k+1)=t+1+k by omega] at this;exact this)
  simp only [stOk,ih,Bool.and_true];exact ZgL h0.1 h0.2 (fun q e=>by cases e)
theorem StOk.ok {s:Sch} {m:Int} {st:St} (h:StOk s m st):stOk s m 0 st=true:=stOk_of (fun k hk=>by rw [Nat.zero_add];exact h.2 k hk)
theorem StOk.check {s:Sch} {m:Int} {st:St} (h:StOk s m st) (hm:Zcx m=true) (hc:Zam st≤512):ZbH 0 s m st=0:=by
 unfold ZbH;have h1:Zck 0 m=0:=(by simp [Zck,hm]);rw [h1,h.ok];simp only [ne_eq,not_true,if_false,if_true];rw [if_neg (by omega),if_neg (by rw [h.1];simp)]
theorem StOk.set {s:Sch} {m:Int} {st:St} (h:StOk s m st) {t:Nat} {l:List Row} (hl:Zhm s t m l):StOk s m (st.set t l):=by
 refine⟨by rw [List.length_set];exact h.1,fun k hk=>?_⟩;rw [List.length_set] at hk
 by_cases e:t=k
 · subst e;have:(st.set t l).getD t []=l:=(by simp [List.getD,hk]);rw [this];exact hl
 · have:(st.set t l).getD k []=st.getD k []:=(by simp [List.getD,List.getElem?_set_ne e]);rw [this];exact h.2 k hk
theorem ZcN {s:Sch} {t m:Int} {r:Row} (h:Zax s t r m=true):r.length=(s.tabs.getD t.toNat t0).cols.length:=by
 unfold Zax at h;simp only [Bool.and_eq_true,decide_eq_true_eq] at h;exact h.1.2
theorem ZfN {s:Sch} {t m:Int} {l:List Row} (h:Zhm s t m l) {key row:Row} (hk:0<row.length→keyF s t row=key) (hf:0<row.length→Zax s t row m=true):Zhm s t m (putL s t key row l):=by
 obtain⟨a,o,b,hc⟩:=ZbO key h.2;have he:=hc.put row;refine⟨fun r hr=>?_,?_⟩
 · rw [he] at hr;simp only [List.mem_append] at hr;rcases hr with (hr | hr) | hr
   · exact h.1 r (by rw [hc.eq];simp [hr])
   · split at hr
     · rename_i h0
       rw [List.mem_singleton] at hr;rw [hr];exact hf h0
     · simp at hr
   · exact h.1 r (by rw [hc.eq];simp [hr])
 · rw [he];have ha:Asc s t (a++(o.toList++b)):=(by rw [←List.append_assoc,←hc.eq];exact h.2)
   have ha1:Asc s t a:=by
    have:=Zgx ha a.length;rwa [List.take_left] at this
   have ha2:Asc s t b:=by
    have:=asc_drop ha (a.length+o.toList.length);rwa [List.drop_append,List.drop_of_length_le (by omega),List.nil_append,show a.length+o.toList.length - a.length=o.toList.length by omega,List.drop_left] at this
   have hab:∀ x ∈ a,∀ y ∈ b,cmpR (keyF s t x) (keyF s t y)<0:=fun x hx y hy=>cmpR_is.lt_trans (hc.below x hx) (hc.above y hy)
   by_cases h0:0<row.length
   · rw [if_pos h0];refine Zce (Zce ha1 (asc_one _ _ _) (fun x hx y hy=>?_)) ha2 (fun x hx y hy=>?_)
     · rw [List.mem_singleton] at hy;rw [hy,hk h0];exact hc.below x hx
     · rcases List.mem_append.1 hx with hx | hx
       · exact hab x hx y hy
       · rw [List.mem_singleton] at hx;rw [hx,hk h0];exact hc.above y hy
   · rw [if_neg h0,List.append_nil];exact Zce ha1 ha2 hab
def Zcj (s:Sch) (st:St) (x:Chg):St:=st.set x.table.toNat (putC s x (st.getD x.table.toNat []))
def Fit (s:Sch) (m:Int):St→List Chg→Prop
 | _,[]=>True
 | st,x :: l=>(Zap s m x=true∧ZcB s x (st.getD x.table.toNat [])=true)∧Fit s m (Zcj s st x) l
def after (s:Sch) (st:St) (l:List Chg):St:=l.foldl (Zcj s) st
theorem after_snoc (s:Sch) (st:St) (l:List Chg) (x:Chg):after s st (l++[x])=Zcj s (after s st l) x:=by simp [after]
theorem Fit.snoc {s:Sch} {m:Int}:∀ {st:St} {l:List Chg} {x:Chg},Fit s m st l→Zap s m x=true→ZcB s x ((after s st l).getD x.table.toNat [])=true→Fit s m st (l++[x])
 | st,[],x,_,h1,h2=>⟨⟨h1,h2⟩,trivial⟩
 | st,y :: l,x,h,h1,h2=>⟨h.1,Fit.snoc h.2 h1 h2⟩
theorem valid_fits {s:Sch} {m:Int} {x:Chg} (h:Zap s m x=true):(0<x.old.length→Zax s x.table x.old m=true)∧(0<x.new.length→Zax s x.table x.new m=true):=by
 unfold Zap at h;simp only [Bool.and_eq_true,Bool.or_eq_true,decide_eq_true_eq] at h;obtain⟨⟨⟨_,h1⟩,h2⟩,_⟩:=h;exact⟨fun h0=>h1.resolve_left (by omega),fun h0=>h2.resolve_left (by omega)⟩
theorem ZeW {s:Sch} {m:Int} {st:St} {x:Chg} (h:StOk s m st) (hv:Zap s m x=true):StOk s m (Zcj s st x)∧Zam (Zcj s st x)≤Zam st+1:=by
 have hv':=hv;unfold Zap at hv';simp only [Bool.and_eq_true,hasN,decide_eq_true_eq] at hv';obtain⟨⟨⟨⟨⟨ht0,ht1⟩,_⟩,_⟩,_⟩,_⟩:=hv';obtain⟨t,ht⟩:=Int.eq_ofNat_of_zero_le ht0;have htn:x.table.toNat=t:=(by omega);unfold Zcj;rw [htn];have htl:t<st.length:=(by have:=h.1;omega);refine⟨h.set ?_,?_⟩
 · have hr:=h.2 t htl;rw [←ht] at hr ⊢;exact ZfN hr (fun h0=>Zgr hv h0) (valid_fits hv).2
 · have h1:=Zeu st t (putC s x (st.getD t [])) htl;have h2:=Zhq s x (st.getD t []);omega
theorem Zhc {s:Sch} {m:Int}:∀ {l:List Chg} {st:St},StOk s m st→Fit s m st l→Zam st+l.length≤512→ZbS s m (Zam st) st l=(0,after s st l)
 | [],st,_,_,_=>rfl
 | x :: l,st,h,hf,hc=>by
  obtain⟨⟨hv,hfc⟩,hr⟩:=hf;obtain⟨h1,h2⟩:=ZeW h hv;rw [List.length_cons] at hc
  obtain⟨t,ht,htl⟩:∃ t:Nat,x.table=t∧t<st.length:=by
   unfold Zap at hv;simp only [Bool.and_eq_true,hasN,decide_eq_true_eq] at hv;obtain⟨t,ht⟩:=Int.eq_ofNat_of_zero_le hv.1.1.1.1.1;exact⟨t,ht,by have:=hv.1.1.1.1.2;have:=h.1;omega⟩
  have hcs:(Zam st:Int)+((putC s x (st.getD x.table.toNat [])).length - (st.getD x.table.toNat []).length:Int)=Zam (Zcj s st x):=by
   have:=Zeu st t (putC s x (st.getD t [])) htl;unfold Zcj;rw [show x.table.toNat=t by omega,this]
  have ih:=Zhc h1 hr (by omega);unfold ZbS;rw [hv,hfc,hcs];simp only [Bool.true_eq_false,if_false];rw [if_neg (by omega)];exact ih
theorem Zgc {s:Sch} {m:Int}:∀ {l:List Chg} {st:St},StOk s m st→Fit s m st l→StOk s m (after s st l)∧Zam (after s st l)≤Zam st+l.length
 | [],st,h,_=>⟨h,by simp [after]⟩
 | x :: l,st,h,hf=>by
  obtain⟨h1,h2⟩:=ZeW h hf.1.1;obtain⟨h3,h4⟩:=Zgc h1 hf.2;exact⟨h3,by rw [List.length_cons];show Zam (after s (Zcj s st x) l)≤_;omega⟩
theorem valid_inv {s:Sch} {m:Int} {x:Chg} (hv:Zap s m x=true):Zap s m (invC x)=true:=by
 unfold Zap at hv ⊢;simp only [Bool.and_eq_true] at hv ⊢;obtain⟨⟨⟨⟨h1,h2⟩,h3⟩,h4⟩,h5⟩:=hv;refine⟨⟨⟨⟨h1,by rw [Bool.and_comm];exact h2⟩,h4⟩,h3⟩,?_⟩;simp only [Bool.or_eq_true,decide_eq_true_eq,beq_iff_eq,invC] at h5 ⊢;rcases h5 with (h | h) | h
 · exact .inl (.inr (decide_eq_true h))
 · exact .inl (.inl (decide_eq_true h))
 · exact .inr (by rw [cmpR_is.flip,h];rfl)
theorem fit_old {s:Sch} {x:Chg} {l a b:List Row} {o:Option Row} (h:Cut s x.table (keyC s x) l a o b) (hf:ZcB s x l=true):o=if 0<x.old.length then some x.old else none:=by
 unfold ZcB at hf;rw [ZgZ,h.found,h.low] at hf;simp only [Bool.and_eq_true,beq_iff_eq,Bool.or_eq_true,Bool.not_eq_true'] at hf;cases o with
 | none =>
  have:¬ 0<x.old.length:=(by simpa using hf.1.symm);rw [if_neg this]
 | some r =>
  have h0:0<x.old.length:=(by simpa using hf.1.symm);rw [if_pos h0];have h2:=hf.2.resolve_left (by simp);rw [h.at_low rfl] at h2;rw [(cmpR_is.zero _ _).1 h2]
theorem fits_of_cut {s:Sch} {x:Chg} {l a b:List Row} {o:Option Row} (h:Cut s x.table (keyC s x) l a o b) (ho:o=if 0<x.old.length then some x.old else none):ZcB s x l=true:=by
 unfold ZcB;rw [ZgZ,h.found,h.low];split at ho
 · rename_i h0
   rw [h.at_low ho];subst ho;simp [h0,cmpR_is.self]
 · rename_i h0
   subst ho;simp [h0]
theorem txt_nil (t:ByteArray):(t=⟨#[]⟩)=(t.toList=[]):=by
 apply propext;constructor
 · rintro rfl;rw [ByteArray.toList_eq]
 · intro h;cases t
   rw [ByteArray.toList_eq] at h;simpa using h
theorem v0_nil (a b:Int) (t:ByteArray):((⟨a,b,t⟩:V)=v0)=(a=0∧b=0∧t.toList=[]):=by rw [←txt_nil];simp
theorem ZbD (cmp l1 l2 l3 l4 r1 r2 r3 r4:Int) (l5 r5:ByteArray):Zdz cmp ⟨l1,l2,⟨l3,l4,l5⟩⟩ ⟨r1,r2,⟨r3,r4,r5⟩⟩=(decide (cmp=0)&&(decide (l1=0)&&decide (l2=0)&&decide (l3=0∧l4=0∧l5.toList=[]))&&(decide (r1=0)&&decide (r2=0)&&decide (r3=0∧r4=0∧r5.toList=[]))):=by
 simp only [Zdz,zeroO,v0_nil]
theorem Zdd {cols params:List Int} {op cmp:Int} {l r:Opd} {args:List Pred} (h:op=1∨op=2∨op=4∨op=5∨op=6) (hb:Zdz cmp l r=false):predOk cols params (.mk op cmp l r args)=false:=by
 unfold predOk;rcases h with rfl | rfl | rfl | rfl | rfl<;>simp [hb]
theorem Zde {cols params:List Int} {op cmp:Int} {l r:Opd} {args:List Pred} (h:op=1∧args.length=0∨op=2∧args.length=0∨op=4∨op=5∨op=6∧args.length=1) (hb:Zdz cmp l r=true):predOk cols params (.mk op cmp l r args)=predsOk cols params args:=by
 unfold predOk;rcases h with ⟨rfl,h0⟩ | ⟨rfl,h0⟩ | rfl | rfl | ⟨rfl,h0⟩
 · have:args=[]:=List.eq_nil_of_length_eq_zero h0;subst this;simp [hb,predsOk]
 · have:args=[]:=List.eq_nil_of_length_eq_zero h0;subst this;simp [hb,predsOk]
 · simp [hb]
 · simp [hb]
 · simp [hb,h0]
theorem ok_cmp {cols params:List Int} {cmp:Int} {l r:Opd} {args:List Pred}:predOk cols params (.mk 3 cmp l r args)=(decide (args.length=0)&&decide (1≤cmp)&&decide (cmp≤6)&&decide (Zai cols params l≠0)&&decide (Zai cols params l=Zai cols params r)):=by
 unfold predOk;rfl
theorem ok_else {cols params:List Int} {op cmp:Int} {l r:Opd} {args:List Pred} (h1:op≠1) (h2:op≠2) (h3:op≠3) (h4:op≠4) (h5:op≠5) (h6:op≠6):predOk cols params (.mk op cmp l r args)=false:=by
 unfold predOk;simp [h1,h2,h3,h4,h5,h6]
theorem ZhE {cols params:List Int} {op cmp:Int} {l r:Opd} {args:List Pred} (h:op=1∧args.length≠0∨op=2∧args.length≠0∨op=6∧args.length≠1):predOk cols params (.mk op cmp l r args)=false:=by
 unfold predOk;rcases h with ⟨rfl,h⟩ | ⟨rfl,h⟩ | ⟨rfl,h⟩<;>simp [h]
structure LK (w wr:World) (A1 A2:Option Addr) (n ca m cb:Nat):Prop where
 a:wr.cell? ⟨w.heap.size,0,none⟩=some (.slice A1 n ca)
 b:wr.cell? ⟨w.heap.size,1,none⟩=some (.slice A2 m cb)
 s:w.heap.size<wr.heap.size
theorem LK.below {w wr wx:World} {A1 A2:Option Addr} {n ca m cb:Nat} (h:LK w wr A1 A2 n ca m cb) (hb:Below wr.heap.size wr wx):LK w wx A1 A2 n ca m cb :=
 ⟨c9Q hb h.s h.a,c9Q hb h.s h.b,Nat.lt_of_lt_of_le h.s hb.size⟩
theorem ZdU (w:World) (A1 A2:Option Addr) (n ca m cb:Nat) (x:Unit) (o:Obj):LK w ((w.alloc (.cells #[.slice A1 n ca,.slice A2 m cb] 171)).alloc o) A1 A2 n ca m cb :=
 ⟨(Zah (by simp)).trans (Zae rfl rfl),(Zah (by simp)).trans (Zae rfl rfl),by simp;omega⟩
theorem valid_cmp (A1 A2:Option Addr) (ca cb:Nat) (cols params:List Int) (cmp:Int) (l r:Opd) (args:List Pred) (A:Option Addr) (c:Nat) (S:Nat→Prop) (w:World) (hA:IntS w S A1 cols) (hB:IntS w S A2 params) (hp:PredS w S A args) (hS:∀ x,S x→x<w.heap.size) (hcap:args.length≤c) (hlt:l.value.t.size≤9223372036854775807) (hrt:r.value.t.size≤9223372036854775807) :
  Calls Tryz.prog 130 #[kAgg A1 A2 cols.length params.length ca cb,pAgg 3 cmp l r A args.length c] w (ZaQ (predOk cols params (.mk 3 cmp l r args)) w):=by
   obtain⟨l1,l2,⟨l3,l4,l5⟩⟩:=l;obtain⟨r1,r2,⟨r3,r4,r5⟩⟩:=r;simp only at hlt hrt;have hal:=hp.len;have hcl:=hA.len;have hpl:=hB.len;have HP:=hI hp;have HA1:=hI hA;have HA2:=hI hB;clear hp hA hB;have HB0:=hI (((Below.refl w.heap.size w).alloc nR (.cells #[.slice A1 cols.length ca,.slice A2 params.length cb] 171)).alloc (by simp) (.cells #[.int .i64 3,.int .i64 cmp,.int .i64 l1,.int .i64 l2,.int .i64 l3,.int .i64 l4,.string l5,.int .i64 r1,.int .i64 r2,.int .i64 r3,.int .i64 r4,.string r5,.slice A args.length c] 93));obtain⟨W,hW⟩:∃ W,(w.alloc (.cells #[.slice A1 cols.length ca,.slice A2 params.length cb] 171)).alloc (.cells #[.int .i64 3,.int .i64 cmp,.int .i64 l1,.int .i64 l2,.int .i64 l3,.int .i64 l4,.string l5,.int .i64 r1,.int .i64 r2,.int .i64 r3,.int .i64 r4,.string r5,.slice A args.length c] 93)=W:=⟨_,rfl⟩;have HBW:=hI (show Below w.heap.size w W by rw [←hW];exact HB0.out);have hzW:W.heap.size=w.heap.size+2:=(by rw [←hW];simp);have x0:W.cell? ⟨w.heap.size,0,none⟩=some (.slice A1 cols.length ca):=(by rw [←hW];exact(Zah (by simp)).trans (Zae rfl rfl));have x1:W.cell? ⟨w.heap.size,1,none⟩=some (.slice A2 params.length cb):=(by rw [←hW];exact(Zah (by simp)).trans (Zae rfl rfl));have y0:W.cell? ⟨w.heap.size+1,0,none⟩=some (.int .i64 3):=(by rw [←hW];exact Zae (by simp) rfl);have y1:W.cell? ⟨w.heap.size+1,1,none⟩=some (.int .i64 cmp):=(by rw [←hW];exact Zae (by simp) rfl);have y2:W.cell? ⟨w.heap.size+1,2,none⟩=some (.int .i64 l1):=(by rw [←hW];exact Zae (by simp) rfl);have y3:W.cell? ⟨w.heap.size+1,3,none⟩=some (.int .i64 l2):=(by rw [←hW];exact Zae (by simp) rfl);have y4:W.cell? ⟨w.heap.size+1,4,none⟩=some (.int .i64 l3):=(by rw [←hW];exact Zae (by simp) rfl);have y5:W.cell? ⟨w.heap.size+1,5,none⟩=some (.int .i64 l4):=(by rw [←hW];exact Zae (by simp) rfl);have y6:W.cell? ⟨w.heap.size+1,6,none⟩=some (.string l5):=(by rw [←hW];exact Zae (by simp) rfl);have y7:W.cell? ⟨w.heap.size+1,7,none⟩=some (.int .i64 r1):=(by rw [←hW];exact Zae (by simp) rfl);have y8:W.cell? ⟨w.heap.size+1,8,none⟩=some (.int .i64 r2):=(by rw [←hW];exact Zae (by simp) rfl);have y9:W.cell? ⟨w.heap.size+1,9,none⟩=some (.int .i64 r3):=(by rw [←hW];exact Zae (by simp) rfl);have y10:W.cell? ⟨w.heap.size+1,10,none⟩=some (.int .i64 r4):=(by rw [←hW];exact Zae (by simp) rfl);have y11:W.cell? ⟨w.heap.size+1,11,none⟩=some (.string r5):=(by rw [←hW];exact Zae (by simp) rfl);have y12:W.cell? ⟨w.heap.size+1,12,none⟩=some (.slice A args.length c):=(by rw [←hW];exact Zae (by simp) rfl);have hSW:∀ b,S b→b<W.heap.size:=(fun b hb=>by have:=hS b hb;omega);have HA1W:=hI (HA1.out.keep (Same.of_below HBW.out hS));have HA2W:=hI (HA2.out.keep (Same.of_below HBW.out hS));have hq0:w.heap.size<W.heap.size:=(by omega);have hq1:w.heap.size+1<W.heap.size:=(by omega);clear hzW;go_enter Tryz.func130,Tryz.ntmps130
   go_wp2_with fail
   clear hW
   go_region_held3 (fun w'=>Below W.heap.size W w'∧w'.cell? ⟨w.heap.size,0,none⟩=some (.slice A1 cols.length ca)∧w'.cell? ⟨w.heap.size,1,none⟩=some (.slice A2 params.length cb)∧w'.cell? ⟨w.heap.size+1,2,none⟩=some (.int .i64 l1)∧w'.cell? ⟨w.heap.size+1,3,none⟩=some (.int .i64 l2)∧w'.cell? ⟨w.heap.size+1,4,none⟩=some (.int .i64 l3)∧w'.cell? ⟨w.heap.size+1,5,none⟩=some (.int .i64 l4)∧w'.cell? ⟨w.heap.size+1,6,none⟩=some (.string l5)∧w'.cell? ⟨w.heap.size+1,7,none⟩=some (.int .i64 r1)∧w'.cell? ⟨w.heap.size+1,8,none⟩=some (.int .i64 r2)∧w'.cell? ⟨w.heap.size+1,9,none⟩=some (.int .i64 r3)∧w'.cell? ⟨w.heap.size+1,10,none⟩=some (.int .i64 r4)∧w'.cell? ⟨w.heap.size+1,11,none⟩=some (.string r5))
    (first | exact⟨(Below.refl _ _).drew,x0,x1,y2,y3,y4,y5,y6,y7,y8,y9,y10,y11⟩ | exact⟨hv2,c9Q hv2 hq0 x0,c9Q hv2 hq0 x1,c9Q hv2 hq1 y2,c9Q hv2 hq1 y3,c9Q hv2 hq1 y4,c9Q hv2 hq1 y5,c9Q hv2 hq1 y6,c9Q hv2 hq1 y7,c9Q hv2 hq1 y8,c9Q hv2 hq1 y9,c9Q hv2 hq1 y10,c9Q hv2 hq1 y11⟩ | exact⟨hv1,c9Q hv1 hq0 x0,c9Q hv1 hq0 x1,c9Q hv1 hq1 y2,c9Q hv1 hq1 y3,c9Q hv1 hq1 y4,c9Q hv1 hq1 y5,c9Q hv1 hq1 y6,c9Q hv1 hq1 y7,c9Q hv1 hq1 y8,c9Q hv1 hq1 y9,c9Q hv1 hq1 y10,c9Q hv1 hq1 y11⟩)
    (first
     | (go_at_call 140;have hvx:=hv1;clear hvx;refine(of_any A1 A2 ca cb cols params ⟨r1,r2,⟨r3,r4,r5⟩⟩ S _ (HA1W.out.keep (Same.of_below hv1 hSW)) (HA2W.out.keep (Same.of_below hv1 hSW)) (fun b hb=>Nat.lt_of_lt_of_le (hSW b hb) hv1.size) hrt).mono ?_;rintro e w6 ⟨rfl,hv2'⟩;have hv2:Below W.heap.size W w6:=hv1.trans (hv2'.mono hv1.size))
     | (go_at_call 140;refine(of_any A1 A2 ca cb cols params ⟨l1,l2,⟨l3,l4,l5⟩⟩ S W.drew (HA1W.out.keep (fun _ _=>rfl)) (HA2W.out.keep (fun _ _=>rfl)) hSW hlt).mono ?_;rintro e w5 ⟨rfl,hv1'⟩;have hv1:Below W.heap.size W w5:=(Below.refl _ W).drew.trans hv1'))
   have HB6:=hI (HBW.out.trans (hv2.mono (by omega)));have z1:=c9Q hv2 hq1 y1;have z12:=c9Q hv2 hq1 y12;have hq6:w.heap.size+1<w6.heap.size:=(by have:=hv2.size;omega);obtain⟨lk,hlk⟩:∃ lk,Zai cols params ⟨l1,l2,⟨l3,l4,l5⟩⟩=lk:=⟨_,rfl⟩;obtain⟨rk,hrk⟩:∃ rk,Zai cols params ⟨r1,r2,⟨r3,r4,r5⟩⟩=rk:=⟨_,rfl⟩;have HF:=hI (show predOk cols params (.mk 3 cmp ⟨l1,l2,⟨l3,l4,l5⟩⟩ ⟨r1,r2,⟨r3,r4,r5⟩⟩ args)=(decide (args.length=0)&&decide (1≤cmp)&&decide (cmp≤6)&&decide (lk≠0)&&decide (lk=rk)) by rw [ok_cmp,hlk,hrk]);rw [hlk,hrk];clear hv1 hv2 hv1' hv2' hlk hrk x0 x1 y0 y1 y2 y3 y4 y5 y6 y7 y8 y9 y10 y11 y12
   by_cases h0:args.length=0
   · have h0':((args.length:Int) == 0)=true:=(by simp [h0]);have H0:=hI h0;clear h0
     by_cases h1:1≤cmp
     · by_cases h6:cmp≤6
       · by_cases hl:lk=0
         · have hl':(lk != 0)=false:=(by simp [hl]);have HG:=hI (show (decide (args.length=0)&&decide (1≤cmp)&&decide (cmp≤6)&&decide (lk≠0)&&decide (lk=rk))=false by simp [hl]);clear hl
           go_wp2_with fail
           go_ret;exact⟨by rw [HF.out,HG.out];rfl,HB6.out⟩
         · have hl':(lk != 0)=true:=(by simp [hl]);have HG:=hI (show (decide (args.length=0)&&decide (1≤cmp)&&decide (cmp≤6)&&decide (lk≠0)&&decide (lk=rk))=(lk == rk) by simp [H0.out,hl,h1,h6];rfl);clear hl
           go_wp2_with fail
           go_ret;exact⟨by rw [HF.out,HG.out];rfl,HB6.out⟩
       · have HG:=hI (show (decide (args.length=0)&&decide (1≤cmp)&&decide (cmp≤6)&&decide (lk≠0)&&decide (lk=rk))=false by simp [h6]);have h6':decide (cmp≤6)=false:=decide_eq_false h6
         go_wp2_with fail
         go_ret;exact⟨by rw [HF.out,HG.out];rfl,HB6.out⟩
     · have HG:=hI (show (decide (args.length=0)&&decide (1≤cmp)&&decide (cmp≤6)&&decide (lk≠0)&&decide (lk=rk))=false by simp [h1]);have h1':decide (1≤cmp)=false:=decide_eq_false h1
       go_wp2_with fail
       go_ret;exact⟨by rw [HF.out,HG.out];rfl,HB6.out⟩
   · have h0':((args.length:Int) == 0)=false:=(by rw [beq_eq_false_iff_ne];omega);have HG:=hI (show (decide (args.length=0)&&decide (1≤cmp)&&decide (cmp≤6)&&decide (lk≠0)&&decide (lk=rk))=false by simp [h0]);clear h0
     go_wp2_with fail
     go_ret;exact⟨by rw [HF.out,HG.out];rfl,HB6.out⟩
theorem valid_p (A1 A2:Option Addr) (ca cb:Nat) (cols params:List Int):∀ (n:Nat) (op cmp:Int) (l r:Opd) (args:List Pred) (A:Option Addr) (c:Nat) (S:Nat→Prop) (w:World),SizeOf.sizeOf (Pred.mk op cmp l r args)≤n→IntS w S A1 cols→IntS w S A2 params→PredS w S A args→(∀ x,S x→x<w.heap.size)→args.length≤c→l.value.t.size≤9223372036854775807→r.value.t.size≤9223372036854775807 →
  Calls Tryz.prog 130 #[kAgg A1 A2 cols.length params.length ca cb,pAgg op cmp l r A args.length c] w (ZaQ (predOk cols params (.mk op cmp l r args)) w):=by
 intro n;induction n with
 | zero=>intro op cmp l r args A c S w hn;simp at hn
 | succ n ih =>
  intro op cmp l r args A c S w hn hA hB hp hS hcap hlt hrt;obtain⟨l1,l2,⟨l3,l4,l5⟩⟩:=l;obtain⟨r1,r2,⟨r3,r4,r5⟩⟩:=r;simp only at hlt hrt;have hal:=hp.len;have hcl:=hA.len;have hpl:=hB.len;have HP:=hI hp;have HA1:=hI hA;have HA2:=hI hB;have IH:=hI ih;have HN:=hI (show SizeOf.sizeOf args≤n by simp at hn;omega);clear hp hA hB ih hn;have HB0:=hI (((Below.refl w.heap.size w).alloc nR (.cells #[.slice A1 cols.length ca,.slice A2 params.length cb] 171)).alloc (by simp) (.cells #[.int .i64 op,.int .i64 cmp,.int .i64 l1,.int .i64 l2,.int .i64 l3,.int .i64 l4,.string l5,.int .i64 r1,.int .i64 r2,.int .i64 r3,.int .i64 r4,.string r5,.slice A args.length c] 93))
  by_cases o3:op=3
  · subst o3;exact valid_cmp A1 A2 ca cb cols params cmp _ _ args A c S w HA1.out HA2.out HP.out hS hcap hlt hrt
  · have n3:(op == 3)=false:=beq_eq_false_iff_ne.2 o3
    by_cases o1:op=1
    · subst o1;clear o3
      by_cases h0:args.length=0
      · have h0':((args.length:Int) != 0)=false:=(by simp [h0]);go_enter Tryz.func130,Tryz.ntmps130
        go_wp2_with fail
        all_goals try (go_ret;exact⟨by rw [Zdd (cols:=cols) (params:=params) (args:=args) (.inl rfl) (by rw [ZbD];simp [*])];rfl,((Below.refl _ _).alloc nR _).alloc (by simp) _⟩)
        have HF:=hI (show predOk cols params (.mk 1 cmp ⟨l1,l2,⟨l3,l4,l5⟩⟩ ⟨r1,r2,⟨r3,r4,r5⟩⟩ args)=predsOk cols params args from Zde (.inl ⟨rfl,h0⟩) (by rw [ZbD];simp [*]))
        go_loopw [78] (fun i wr=>∃ k:Nat,k≤args.length∧i=.int .i64 k∧predsOk cols params args=predsOk cols params (args.drop k)∧Below w.heap.size w wr∧LK w wr A1 A2 cols.length ca params.length cb) (fun i _=>args.length - (intOf i).toNat)
        case atStart=>exact⟨0,Nat.zero_le _,rfl,by simp,((Below.refl _ _).alloc nR _).alloc (by simp) _,ZdU _ _ _ _ _ _ _ () _⟩
        case round =>
         obtain⟨k,hk,rfl,ht,hbel,hlk⟩:=hrel;have HT:=hI ht;have HB:=hI hbel;have hsz:=hbel.size;have HLK:=hI hlk;have q0:=hlk.a;have q1:=hlk.b;have q2:=hlk.s;clear ht hbel hlk
         by_cases hkl:k<args.length
         · omega
         · have HE:=hI (show predsOk cols params args=true by rw [HT.out,show k=args.length by omega,List.drop_length];unfold predsOk;rfl)
           go_wp2_with fail
           go_ret;exact⟨by rw [HF.out,HE.out];rfl,HB.out⟩
      · have h0':((args.length:Int) != 0)=true:=(by rw [bne_iff_ne];omega);have HF:=hI (show predOk cols params (.mk 1 cmp ⟨l1,l2,⟨l3,l4,l5⟩⟩ ⟨r1,r2,⟨r3,r4,r5⟩⟩ args)=false from ZhE (.inl ⟨rfl,h0⟩));go_enter Tryz.func130,Tryz.ntmps130
        go_wp2_with fail
        go_ret;exact⟨by rw [HF.out];rfl,HB0.out⟩
    · have n1:(op == 1)=false:=beq_eq_false_iff_ne.2 o1
      by_cases o2:op=2
      · subst o2;clear o3
        by_cases h0:args.length=0
        · have h0':((args.length:Int) != 0)=false:=(by simp [h0]);go_enter Tryz.func130,Tryz.ntmps130
          go_wp2_with fail
          all_goals try (go_ret;exact⟨by rw [Zdd (cols:=cols) (params:=params) (args:=args) (.inr (.inl rfl)) (by rw [ZbD];simp [*])];rfl,((Below.refl _ _).alloc nR _).alloc (by simp) _⟩)
          have HF:=hI (show predOk cols params (.mk 2 cmp ⟨l1,l2,⟨l3,l4,l5⟩⟩ ⟨r1,r2,⟨r3,r4,r5⟩⟩ args)=predsOk cols params args from Zde (.inr (.inl ⟨rfl,h0⟩)) (by rw [ZbD];simp [*]))
          go_loopw [78] (fun i wr=>∃ k:Nat,k≤args.length∧i=.int .i64 k∧predsOk cols params args=predsOk cols params (args.drop k)∧Below w.heap.size w wr∧LK w wr A1 A2 cols.length ca params.length cb) (fun i _=>args.length - (intOf i).toNat)
          case atStart=>exact⟨0,Nat.zero_le _,rfl,by simp,((Below.refl _ _).alloc nR _).alloc (by simp) _,ZdU _ _ _ _ _ _ _ () _⟩
          case round =>
           obtain⟨k,hk,rfl,ht,hbel,hlk⟩:=hrel;have HT:=hI ht;have HB:=hI hbel;have hsz:=hbel.size;have HLK:=hI hlk;have q0:=hlk.a;have q1:=hlk.b;have q2:=hlk.s;clear ht hbel hlk
           by_cases hkl:k<args.length
           · omega
           · have HE:=hI (show predsOk cols params args=true by rw [HT.out,show k=args.length by omega,List.drop_length];unfold predsOk;rfl)
             go_wp2_with fail
             go_ret;exact⟨by rw [HF.out,HE.out];rfl,HB.out⟩
        · have h0':((args.length:Int) != 0)=true:=(by rw [bne_iff_ne];omega);have HF:=hI (show predOk cols params (.mk 2 cmp ⟨l1,l2,⟨l3,l4,l5⟩⟩ ⟨r1,r2,⟨r3,r4,r5⟩⟩ args)=false from ZhE (.inr (.inl ⟨rfl,h0⟩)));go_enter Tryz.func130,Tryz.ntmps130
          go_wp2_with fail
          go_ret;exact⟨by rw [HF.out];rfl,HB0.out⟩
      · have n2:(op == 2)=false:=beq_eq_false_iff_ne.2 o2
        by_cases o6:op=6
        · subst o6;clear o3 o1 o2
          by_cases h0:args.length=1
          · have h0':((args.length:Int) != 1)=false:=(by simp [h0]);go_enter Tryz.func130,Tryz.ntmps130
            go_wp2_with fail
            all_goals try (go_ret;exact⟨by rw [Zdd (cols:=cols) (params:=params) (args:=args) (.inr (.inr (.inr (.inr rfl)))) (by rw [ZbD];simp [*])];rfl,((Below.refl _ _).alloc nR _).alloc (by simp) _⟩)
            have HF:=hI (show predOk cols params (.mk 6 cmp ⟨l1,l2,⟨l3,l4,l5⟩⟩ ⟨r1,r2,⟨r3,r4,r5⟩⟩ args)=predsOk cols params args from Zde (.inr (.inr (.inr (.inr ⟨rfl,h0⟩)))) (by rw [ZbD];simp [*]))
            go_loopw [78] (fun i wr=>∃ k:Nat,k≤args.length∧i=.int .i64 k∧predsOk cols params args=predsOk cols params (args.drop k)∧Below w.heap.size w wr∧LK w wr A1 A2 cols.length ca params.length cb) (fun i _=>args.length - (intOf i).toNat)
            case atStart=>exact⟨0,Nat.zero_le _,rfl,by simp,((Below.refl _ _).alloc nR _).alloc (by simp) _,ZdU _ _ _ _ _ _ _ () _⟩
            case round =>
             obtain⟨k,hk,rfl,ht,hbel,hlk⟩:=hrel;have HT:=hI ht;have HB:=hI hbel;have hsz:=hbel.size;have HLK:=hI hlk;have q0:=hlk.a;have q1:=hlk.b;have q2:=hlk.s;clear ht hbel hlk
             by_cases hkl:k<args.length
             · obtain⟨b2,o2,rfl,hb2,op',cmp',⟨m1,m2,⟨m3,m4,m5⟩⟩,⟨n1,n2,⟨n3,n4,n5⟩⟩,args',A',c',hpe,hpa⟩:=(HP.out.keep (Same.of_below HB.out hS)).at_ hkl;have HSTEP:=hI (Zby cols params args k hkl);rw [hpe] at HSTEP;have HSZ:=hI (ZbV hkl hpe);have f1:=hpa.fop;have f2:=hpa.fcmp;have f3:=hpa.lk;have f4:=hpa.li;have f5:=hpa.lvk;have f6:=hpa.lvi;have f7:=hpa.lvt;have f8:=hpa.rk;have f9:=hpa.ri;have f10:=hpa.rvk;have f11:=hpa.rvi;have f12:=hpa.rvt;have f13:=hpa.fargs;have HPA:=hI hpa;have hl2:b2<wr.heap.size:=(by have:=hS b2 hb2;omega);have hal':=hpa.pS.len;clear hpa hpe;simp only at f1 f2 f3 f4 f5 f6 f7 f8 f9 f10 f11 f12 f13
               go_wp2_with fail
               refine(IH.out op' cmp' ⟨m1,m2,⟨m3,m4,m5⟩⟩ ⟨n1,n2,⟨n3,n4,n5⟩⟩ args' A' c' S _ (by have:=HSZ.out;have:=HN.out;omega) (HA1.out.keep (fun x hx=>(Below.heap_alloc _ _ _ (by have:=hS x hx;omega)).trans (HB.out.block x (hS x hx)))) (HA2.out.keep (fun x hx=>(Below.heap_alloc _ _ _ (by have:=hS x hx;omega)).trans (HB.out.block x (hS x hx)))) (HPA.out.pS.keep (fun x hx=>Below.heap_alloc _ _ _ (by have:=hS x hx;omega))) (fun x hx=>by have:=hS x hx;simp;omega) HPA.out.pc HPA.out.lt HPA.out.rt).mono ?_;rintro e w2 ⟨rfl,hb3⟩;have HBR:=hI (show Below wr.heap.size wr w2 from ((Below.refl _ wr).alloc nR _).trans (hb3.mono (by simp)));clear hb3;obtain⟨bb,hbb⟩:∃ bb,predOk cols params (.mk op' cmp' ⟨m1,m2,⟨m3,m4,m5⟩⟩ ⟨n1,n2,⟨n3,n4,n5⟩⟩ args')=bb:=⟨_,rfl⟩;rw [hbb] at HSTEP ⊢;clear hbb;cases bb
               · go_wp2_with fail
                 go_ret;exact⟨by rw [HF.out,HT.out,HSTEP.out];rfl,HB.out.trans (HBR.out.mono hsz)⟩
               · go_wp2_with fail
                 go_roundw
                 case rel=>exact⟨k+1,by omega,by go_num,by rw [HT.out,HSTEP.out];rfl,HB.out.trans (HBR.out.mono hsz),HLK.out.below HBR.out⟩
                 case measure=>simp [intOf];omega
             · have HE:=hI (show predsOk cols params args=true by rw [HT.out,show k=args.length by omega,List.drop_length];unfold predsOk;rfl)
               go_wp2_with fail
               go_ret;exact⟨by rw [HF.out,HE.out];rfl,HB.out⟩
          · have h0':((args.length:Int) != 1)=true:=(by rw [bne_iff_ne];omega);have HF:=hI (show predOk cols params (.mk 6 cmp ⟨l1,l2,⟨l3,l4,l5⟩⟩ ⟨r1,r2,⟨r3,r4,r5⟩⟩ args)=false from ZhE (.inr (.inr ⟨rfl,h0⟩)));go_enter Tryz.func130,Tryz.ntmps130
            go_wp2_with fail
            go_ret;exact⟨by rw [HF.out];rfl,HB0.out⟩
        · have n6:(op == 6)=false:=beq_eq_false_iff_ne.2 o6
          by_cases o4:op=4
          · subst o4;clear o3 o1 o2 o6;go_enter Tryz.func130,Tryz.ntmps130
            go_wp2_with fail
            all_goals try (go_ret;exact⟨by rw [Zdd (cols:=cols) (params:=params) (args:=args) (.inr (.inr (.inl rfl))) (by rw [ZbD];simp [*])];rfl,((Below.refl _ _).alloc nR _).alloc (by simp) _⟩)
            have HF:=hI (show predOk cols params (.mk 4 cmp ⟨l1,l2,⟨l3,l4,l5⟩⟩ ⟨r1,r2,⟨r3,r4,r5⟩⟩ args)=predsOk cols params args from Zde (.inr (.inr (.inl rfl))) (by rw [ZbD];simp [*]))
            go_loopw [78] (fun i wr=>∃ k:Nat,k≤args.length∧i=.int .i64 k∧predsOk cols params args=predsOk cols params (args.drop k)∧Below w.heap.size w wr∧LK w wr A1 A2 cols.length ca params.length cb) (fun i _=>args.length - (intOf i).toNat)
            case atStart=>exact⟨0,Nat.zero_le _,rfl,by simp,((Below.refl _ _).alloc nR _).alloc (by simp) _,ZdU _ _ _ _ _ _ _ () _⟩
            case round =>
             obtain⟨k,hk,rfl,ht,hbel,hlk⟩:=hrel;have HT:=hI ht;have HB:=hI hbel;have hsz:=hbel.size;have HLK:=hI hlk;have q0:=hlk.a;have q1:=hlk.b;have q2:=hlk.s;clear ht hbel hlk
             by_cases hkl:k<args.length
             · obtain⟨b2,o2,rfl,hb2,op',cmp',⟨m1,m2,⟨m3,m4,m5⟩⟩,⟨n1,n2,⟨n3,n4,n5⟩⟩,args',A',c',hpe,hpa⟩:=(HP.out.keep (Same.of_below HB.out hS)).at_ hkl;have HSTEP:=hI (Zby cols params args k hkl);rw [hpe] at HSTEP;have HSZ:=hI (ZbV hkl hpe);have f1:=hpa.fop;have f2:=hpa.fcmp;have f3:=hpa.lk;have f4:=hpa.li;have f5:=hpa.lvk;have f6:=hpa.lvi;have f7:=hpa.lvt;have f8:=hpa.rk;have f9:=hpa.ri;have f10:=hpa.rvk;have f11:=hpa.rvi;have f12:=hpa.rvt;have f13:=hpa.fargs;have HPA:=hI hpa;have hl2:b2<wr.heap.size:=(by have:=hS b2 hb2;omega);have hal':=hpa.pS.len;clear hpa hpe;simp only at f1 f2 f3 f4 f5 f6 f7 f8 f9 f10 f11 f12 f13
               go_wp2_with fail
               refine(IH.out op' cmp' ⟨m1,m2,⟨m3,m4,m5⟩⟩ ⟨n1,n2,⟨n3,n4,n5⟩⟩ args' A' c' S _ (by have:=HSZ.out;have:=HN.out;omega) (HA1.out.keep (fun x hx=>(Below.heap_alloc _ _ _ (by have:=hS x hx;omega)).trans (HB.out.block x (hS x hx)))) (HA2.out.keep (fun x hx=>(Below.heap_alloc _ _ _ (by have:=hS x hx;omega)).trans (HB.out.block x (hS x hx)))) (HPA.out.pS.keep (fun x hx=>Below.heap_alloc _ _ _ (by have:=hS x hx;omega))) (fun x hx=>by have:=hS x hx;simp;omega) HPA.out.pc HPA.out.lt HPA.out.rt).mono ?_;rintro e w2 ⟨rfl,hb3⟩;have HBR:=hI (show Below wr.heap.size wr w2 from ((Below.refl _ wr).alloc nR _).trans (hb3.mono (by simp)));clear hb3;obtain⟨bb,hbb⟩:∃ bb,predOk cols params (.mk op' cmp' ⟨m1,m2,⟨m3,m4,m5⟩⟩ ⟨n1,n2,⟨n3,n4,n5⟩⟩ args')=bb:=⟨_,rfl⟩;rw [hbb] at HSTEP ⊢;clear hbb;cases bb
               · go_wp2_with fail
                 go_ret;exact⟨by rw [HF.out,HT.out,HSTEP.out];rfl,HB.out.trans (HBR.out.mono hsz)⟩
               · go_wp2_with fail
                 go_roundw
                 case rel=>exact⟨k+1,by omega,by go_num,by rw [HT.out,HSTEP.out];rfl,HB.out.trans (HBR.out.mono hsz),HLK.out.below HBR.out⟩
                 case measure=>simp [intOf];omega
             · have HE:=hI (show predsOk cols params args=true by rw [HT.out,show k=args.length by omega,List.drop_length];unfold predsOk;rfl)
               go_wp2_with fail
               go_ret;exact⟨by rw [HF.out,HE.out];rfl,HB.out⟩
          · have n4:(op == 4)=false:=beq_eq_false_iff_ne.2 o4
            by_cases o5:op=5
            · subst o5;clear o3 o1 o2 o6;go_enter Tryz.func130,Tryz.ntmps130
              go_wp2_with fail
              all_goals try (go_ret;exact⟨by rw [Zdd (cols:=cols) (params:=params) (args:=args) (.inr (.inr (.inr (.inl rfl)))) (by rw [ZbD];simp [*])];rfl,((Below.refl _ _).alloc nR _).alloc (by simp) _⟩)
              have HF:=hI (show predOk cols params (.mk 5 cmp ⟨l1,l2,⟨l3,l4,l5⟩⟩ ⟨r1,r2,⟨r3,r4,r5⟩⟩ args)=predsOk cols params args from Zde (.inr (.inr (.inr (.inl rfl)))) (by rw [ZbD];simp [*]))
              go_loopw [78] (fun i wr=>∃ k:Nat,k≤args.length∧i=.int .i64 k∧predsOk cols params args=predsOk cols params (args.drop k)∧Below w.heap.size w wr∧LK w wr A1 A2 cols.length ca params.length cb) (fun i _=>args.length - (intOf i).toNat)
              case atStart=>exact⟨0,Nat.zero_le _,rfl,by simp,((Below.refl _ _).alloc nR _).alloc (by simp) _,ZdU _ _ _ _ _ _ _ () _⟩
              case round =>
               obtain⟨k,hk,rfl,ht,hbel,hlk⟩:=hrel;have HT:=hI ht;have HB:=hI hbel;have hsz:=hbel.size;have HLK:=hI hlk;have q0:=hlk.a;have q1:=hlk.b;have q2:=hlk.s;clear ht hbel hlk
               by_cases hkl:k<args.length
               · obtain⟨b2,o2,rfl,hb2,op',cmp',⟨m1,m2,⟨m3,m4,m5⟩⟩,⟨n1,n2,⟨n3,n4,n5⟩⟩,args',A',c',hpe,hpa⟩:=(HP.out.keep (Same.of_below HB.out hS)).at_ hkl;have HSTEP:=hI (Zby cols params args k hkl);rw [hpe] at HSTEP;have HSZ:=hI (ZbV hkl hpe);have f1:=hpa.fop;have f2:=hpa.fcmp;have f3:=hpa.lk;have f4:=hpa.li;have f5:=hpa.lvk;have f6:=hpa.lvi;have f7:=hpa.lvt;have f8:=hpa.rk;have f9:=hpa.ri;have f10:=hpa.rvk;have f11:=hpa.rvi;have f12:=hpa.rvt;have f13:=hpa.fargs;have HPA:=hI hpa;have hl2:b2<wr.heap.size:=(by have:=hS b2 hb2;omega);have hal':=hpa.pS.len;clear hpa hpe;simp only at f1 f2 f3 f4 f5 f6 f7 f8 f9 f10 f11 f12 f13
                 go_wp2_with fail
                 refine(IH.out op' cmp' ⟨m1,m2,⟨m3,m4,m5⟩⟩ ⟨n1,n2,⟨n3,n4,n5⟩⟩ args' A' c' S _ (by have:=HSZ.out;have:=HN.out;omega) (HA1.out.keep (fun x hx=>(Below.heap_alloc _ _ _ (by have:=hS x hx;omega)).trans (HB.out.block x (hS x hx)))) (HA2.out.keep (fun x hx=>(Below.heap_alloc _ _ _ (by have:=hS x hx;omega)).trans (HB.out.block x (hS x hx)))) (HPA.out.pS.keep (fun x hx=>Below.heap_alloc _ _ _ (by have:=hS x hx;omega))) (fun x hx=>by have:=hS x hx;simp;omega) HPA.out.pc HPA.out.lt HPA.out.rt).mono ?_;rintro e w2 ⟨rfl,hb3⟩;have HBR:=hI (show Below wr.heap.size wr w2 from ((Below.refl _ wr).alloc nR _).trans (hb3.mono (by simp)));clear hb3;obtain⟨bb,hbb⟩:∃ bb,predOk cols params (.mk op' cmp' ⟨m1,m2,⟨m3,m4,m5⟩⟩ ⟨n1,n2,⟨n3,n4,n5⟩⟩ args')=bb:=⟨_,rfl⟩;rw [hbb] at HSTEP ⊢;clear hbb;cases bb
                 · go_wp2_with fail
                   go_ret;exact⟨by rw [HF.out,HT.out,HSTEP.out];rfl,HB.out.trans (HBR.out.mono hsz)⟩
                 · go_wp2_with fail
                   go_roundw
                   case rel=>exact⟨k+1,by omega,by go_num,by rw [HT.out,HSTEP.out];rfl,HB.out.trans (HBR.out.mono hsz),HLK.out.below HBR.out⟩
                   case measure=>simp [intOf];omega
               · have HE:=hI (show predsOk cols params args=true by rw [HT.out,show k=args.length by omega,List.drop_length];unfold predsOk;rfl)
                 go_wp2_with fail
                 go_ret;exact⟨by rw [HF.out,HE.out];rfl,HB.out⟩
            · have n5:(op == 5)=false:=beq_eq_false_iff_ne.2 o5;have HF:=hI (ok_else (cols:=cols) (params:=params) (cmp:=cmp) (l:=⟨l1,l2,⟨l3,l4,l5⟩⟩) (r:=⟨r1,r2,⟨r3,r4,r5⟩⟩) (args:=args) o1 o2 o3 o4 o5 o6);clear o1 o2 o3 o4 o5 o6;go_enter Tryz.func130,Tryz.ntmps130
              go_wp2_with fail
              go_ret;exact⟨by rw [HF.out];rfl,HB0.out⟩
end Go.Proofs.YtkpjjfhfbpfjpaaGreat
