import Derived.Test.YtkpjjfhfbpfjpaaGreatKa64ff6
import Derived.Test.YtkpjjfhfbpfjpaaGreatK0b8b95
import Derived.Test.YtkpjjfhfbpfjpaaGreatKec883b
import Derived.Test.YtkpjjfhfbpfjpaaGreatK4e30bf
import Derived.Test.YtkpjjfhfbpfjpaaGreatK660fb2
set_option linter.unusedVariables false
set_option linter.unusedSimpArgs false
set_option maxRecDepth 100000
set_option maxHeartbeats 8000000
namespace Go.Proofs.YtkpjjfhfbpfjpaaGreat
section
variable {s:Sch}
def gGo (s:Sch):Option (Chg × Chg)→List Chg→Option (List (Chg × Chg))
 | none,[]=>some []
 | none,x :: r=>gGo s (some (x,x)) r
 | some (f,la),[]=>some [(f,la)]
 | some (f,la),x :: r=>if Zdc s f x then (if cmpR la.new x.old=0 then gGo s (some (f,x)) r else none) else (gGo s (some (x,x)) r).map ((f,la) :: ·)
def outs (G:List (Chg × Chg)):List Chg:=G.flatMap fun p=>ZaP p.1 p.2
theorem ZeW (s:Sch):∀ (l:List Chg) (o:Option (Chg × Chg)),Zaq s o l=(gGo s o l).map outs
 | [],none=>rfl
 | [],some (f,la)=>by simp [Zaq,gGo,outs]
 | x :: r,none=>by
  have h1:Zaq s none (x :: r)=Zaq s (some (x,x)) r:=(by rw [Zaq]);have h2:gGo s none (x :: r)=gGo s (some (x,x)) r:=(by rw [gGo]);rw [h1,h2];exact ZeW s r _
 | x :: r,some (f,la)=>by
  rw [Zaq,gGo];split
  · split
    · exact ZeW s r _
    · rfl
  · rw [ZeW s r _];cases gGo s (some (x,x)) r<;>simp [outs]
theorem cmpC_same {a b:Chg}:Zdc s a b=true↔cmpC s a b=0:=by
 unfold Zdc cmpC
 by_cases h:a.table=b.table
 · simp [h]
 · have:¬ a.table - b.table=0:=(by omega);simp [h,this]
theorem ZaZ (a b:Chg):cmpC s a b<0↔0<cmpC s b a:=by
 unfold cmpC
 by_cases h:a.table=b.table
 · have:=cmpR_is.flip (keyC s a) (keyC s b);simp [h];omega
 · have h':¬ b.table=a.table:=fun e=>h e.symm;simp [h,h'];omega
theorem ZcU {a b:Chg} (h:cmpC s a b=0):cmpC s b a=0:=by
 have h1:=ZaZ (s:=s) a b;have h2:=ZaZ (s:=s) b a;omega
theorem ZbD {a b c:Chg} (h1:cmpC s a b≤0) (h2:cmpC s b c≤0):cmpC s a c≤0:=by
 unfold cmpC at *
 by_cases x:a.table=b.table
 · by_cases y:b.table=c.table
   · have z:a.table=c.table:=x.trans y;simp only [x,y,z,ne_eq,not_true,if_false] at *;exact cmpR_is.trans _ _ _ h1 h2
   · have z:¬ a.table=c.table:=fun e=>y (x ▸ e);simp only [ne_eq,y,z,not_false_eq_true,if_true] at *;omega
 · simp only [ne_eq,x,not_false_eq_true,if_true] at h1
   by_cases y:b.table=c.table
   · have z:¬ a.table=c.table:=(by omega);simp only [ne_eq,z,not_false_eq_true,if_true];omega
   · simp only [ne_eq,y,not_false_eq_true,if_true] at h2;have z:¬ a.table=c.table:=(by omega);simp only [ne_eq,z,not_false_eq_true,if_true];omega
theorem Zdb {a b c:Chg} (h1:cmpC s a b≤0) (h2:cmpC s b c<0):cmpC s a c<0:=by
 have h3:=ZbD h1 (Int.le_of_lt h2);rcases Int.lt_or_eq_of_le h3 with h | h
 · exact h
 · have h4:=ZcU h;have h5:=ZbD (Int.le_of_eq h4) h1;have h6:=(ZaZ (s:=s) b c).1 h2;omega
theorem Zbu {a b c:Chg} (h1:cmpC s a b<0) (h2:cmpC s b c≤0):cmpC s a c<0:=by
 have h3:=ZbD (Int.le_of_lt h1) h2;rcases Int.lt_or_eq_of_le h3 with h | h
 · exact h
 · have h4:=ZcU h;have h5:=ZbD h2 (Int.le_of_eq h4);have h6:=(ZaZ (s:=s) a b).1 h1;omega
theorem Zfp {Q:List Chg}:∀ {P:List Chg} {o:Option (Chg × Chg)},(∀ q r,Q=q :: r→(∀ p ∈ P,cmpC s p q<0)∧∀ f la,o=some (f,la)→cmpC s f q<0)→gGo s o (P++Q)=(gGo s o P).bind fun a=>(gGo s none Q).map (a++·)
 | [],none,_=>by simp [gGo]
 | [],some (f,la),h=>by
  cases Q with
  | nil=>simp [gGo]
  | cons q r =>
   have h1:=(h q r rfl).2 f la rfl;have h2:¬ Zdc s f q=true:=(fun e=>by rw [cmpC_same] at e;omega);have h4:gGo s (some (f,la)) (q :: r)=(gGo s (some (q,q)) r).map ((f,la) :: ·):=(by rw [gGo,if_neg h2]);have h3:gGo s none (q :: r)=gGo s (some (q,q)) r:=(by rw [gGo]);have h5:gGo s (some (f,la)) []=some [(f,la)]:=(by rw [gGo]);rw [List.nil_append,h4,h3,h5];simp
 | x :: P,none,h=>by
  have h1:gGo s none (x :: (P++Q))=gGo s (some (x,x)) (P++Q):=(by rw [gGo]);have h2:gGo s none (x :: P)=gGo s (some (x,x)) P:=(by rw [gGo]);rw [List.cons_append,h1,h2];exact Zfp (fun q r e=>⟨fun p hp=>(h q r e).1 p (by simp [hp]),fun f la e'=>by injection e' with e';injection e' with e1 e2;rw [←e1];exact(h q r e).1 x (by simp)⟩)
 | x :: P,some (f,la),h=>by
  rw [List.cons_append,gGo,gGo];split
  · split
    · exact Zfp (fun q r e=>⟨fun p hp=>(h q r e).1 p (by simp [hp]),fun f' la' e'=>by injection e' with e';injection e' with e1 e2;rw [←e1];exact(h q r e).2 f la rfl⟩)
    · simp
  · have ih:=Zfp (P:=P) (o:=some (x,x)) (Q:=Q) (fun q r e=>⟨fun p hp=>(h q r e).1 p (by simp [hp]),fun f' la' e'=>by injection e' with e';injection e' with e1 e2;rw [←e1];exact(h q r e).1 x (by simp)⟩);rw [ih];cases gGo s (some (x,x)) P with
    | none=>simp
    | some a=>cases gGo s none Q<;>simp
def ZdM (s:Sch) (x:Chg):List (Chg × Chg)→Option (List (Chg × Chg))
 | []=>some [(x,x)]
 | [p]=>if Zdc s p.1 x then (if cmpR p.2.new x.old=0 then some [(p.1,x)] else none) else some [p,(x,x)]
 | p :: q :: r=>(ZdM s x (q :: r)).map (p :: ·)
theorem gGo_ne:∀ {P:List Chg} {f la:Chg} {G:List (Chg × Chg)},gGo s (some (f,la)) P=some G→∃ p r,G=p :: r
 | [],f,la,G,h=>by rw [gGo] at h;injection h with h;exact⟨_,_,h.symm⟩
 | x :: P,f,la,G,h=>by
  rw [gGo] at h;split at h
  · split at h
    · exact gGo_ne h
    · cases h
  · cases hg:gGo s (some (x,x)) P with
    | none=>rw [hg] at h;cases h
    | some a=>rw [hg] at h;injection h with h;exact⟨_,_,h.symm⟩
theorem ZeY (x:Chg):∀ {P:List Chg} {o:Option (Chg × Chg)},gGo s o (P++[x])=(gGo s o P).bind (ZdM s x)
 | [],none=>by simp [gGo,ZdM]
 | [],some (f,la)=>by
  rw [List.nil_append,gGo,gGo];show _=ZdM s x [(f,la)];rw [ZdM];split
  · split<;>simp [gGo]
  · simp [gGo]
 | y :: P,none=>by
  have h1:gGo s none (y :: (P++[x]))=gGo s (some (y,y)) (P++[x]):=(by rw [gGo]);have h2:gGo s none (y :: P)=gGo s (some (y,y)) P:=(by rw [gGo]);rw [List.cons_append,h1,h2];exact ZeY x
 | y :: P,some (f,la)=>by
  rw [List.cons_append,gGo,gGo];split
  · split
    · exact ZeY x
    · rfl
  · rw [ZeY x];cases hg:gGo s (some (y,y)) P with
    | none=>simp
    | some a =>
     obtain⟨p,r,rfl⟩:=gGo_ne hg;simp [ZdM]
end
structure NetE where
 t:Int
 key:Row
 c:Chg
abbrev net0:NetE:=⟨0,[],chg0⟩
def nlow (t:Int) (key:Row):List NetE→Nat
 | []=>0
 | e :: L=>if e.t<t∨e.t=t∧cmpR e.key key<0 then nlow t key L+1 else 0
def nhit (t:Int) (key:Row) (L:List NetE):Bool:=decide (nlow t key L<L.length)&&((L.getD (nlow t key L) net0).t == t)&&(cmpR (L.getD (nlow t key L) net0).key key == 0)
def Zge (t:Int) (key:Row) (c:Chg) (L:List NetE):Option (List NetE) :=
 if nhit t key L then (if cmpR (L.getD (nlow t key L) net0).c.new c.old=0 then some (L.set (nlow t key L) ⟨(L.getD (nlow t key L) net0).t,(L.getD (nlow t key L) net0).key,⟨(L.getD (nlow t key L) net0).c.table,(L.getD (nlow t key L) net0).c.old,c.new⟩⟩) else none)
 else some (L.take (nlow t key L)++⟨t,key,⟨c.table,c.old,c.new⟩⟩ :: L.drop (nlow t key L))
def Zdh (s:Sch) (m:Int):List NetE→List Chg→Int × List NetE
 | L,[]=>(0,L)
 | L,c :: r=>if Zap s m c=false then (71,[]) else match Zge c.table (keyC s c) c L with
  | none=>(81,[])
  | some L'=>Zdh s m L' r
def routs (L:List NetE):List Chg:=L.flatMap fun e=>if cmpR e.c.old e.c.new=0 then [] else [e.c]
def rnetF (e:Int) (s:Sch) (m:Int) (l:List Chg):Int × List Chg :=
 if Zcl e m≠0 then (Zcl e m,[]) else if (Zdh s m [] l).1≠0 then ((Zdh s m [] l).1,[]) else (0,routs (Zdh s m [] l).2)
def entG (s:Sch) (p:Chg × Chg):NetE:=⟨p.1.table,keyC s p.1,⟨p.1.table,p.1.old,p.2.new⟩⟩
theorem Zhr (s:Sch) (G:List (Chg × Chg)):routs (G.map (entG s))=outs G:=by
 induction G with
 | nil=>rfl
 | cons p G ih =>
  unfold routs outs at *;rw [List.map_cons,List.flatMap_cons,List.flatMap_cons,ih];rfl
section
variable {s:Sch}
theorem ent_lt (p:Chg × Chg) (x:Chg):((entG s p).t<x.table∨(entG s p).t=x.table∧cmpR (entG s p).key (keyC s x)<0)↔cmpC s p.1 x<0:=by
 unfold entG cmpC
 by_cases h:p.1.table=x.table
 · simp [h]
 · simp [h];omega
theorem Zet {x:Chg} {B:List (Chg × Chg)}:∀ {A:List (Chg × Chg)},(∀ p ∈ A,cmpC s p.1 x<0)→nlow x.table (keyC s x) ((A++B).map (entG s))=A.length+nlow x.table (keyC s x) (B.map (entG s))
 | [],_=>by simp
 | p :: A,h=>by
  have ih:=Zet (B:=B) (A:=A) (fun q hq=>h q (by simp [hq]));have h1:=(ent_lt (s:=s) p x).2 (h p (by simp));rw [List.cons_append,List.map_cons,nlow,if_pos h1,ih,List.length_cons];omega
theorem nlow_above {x:Chg} {B:List (Chg × Chg)} (h:∀ p ∈ B,0≤cmpC s p.1 x):nlow x.table (keyC s x) (B.map (entG s))=0:=by
 cases B with
 | nil=>rfl
 | cons p B =>
  have h1:¬ _:=(fun e=>by have:=(ent_lt (s:=s) p x).1 e;have:=h p (by simp);omega);rw [List.map_cons,nlow,if_neg h1]
theorem Zgv {x:Chg} {A B:List (Chg × Chg)} (hA:∀ p ∈ A,cmpC s p.1 x<0) (hB:∀ p ∈ B,0<cmpC s p.1 x):Zge x.table (keyC s x) x ((A++B).map (entG s))=some ((A++(x,x) :: B).map (entG s)):=by
 have hl:nlow x.table (keyC s x) ((A++B).map (entG s))=A.length:=by
  rw [Zet hA,nlow_above (fun p hp=>Int.le_of_lt (hB p hp))];omega
 have hh:nhit x.table (keyC s x) ((A++B).map (entG s))=false:=by
  unfold nhit;rw [hl];cases B with
  | nil=>simp
  | cons p B =>
   have h1:=hB p (by simp);have e:((A++p :: B).map (entG s)).getD A.length net0=entG s p:=(by simp [List.getD]);rw [e]
   by_cases ht:p.1.table=x.table
   · have h2:¬ cmpR (keyC s p.1) (keyC s x)=0:=by
       unfold cmpC at h1;simp [ht] at h1;omega
     simp [entG,ht,h2]
   · simp [entG,ht]
 unfold Zge;rw [hh,hl];simp only [Bool.false_eq_true,if_false]
 congr 1
 simp [entG,List.take_append,List.drop_append,List.take_of_length_le,List.drop_of_length_le]
theorem Zgu {x:Chg} {A B:List (Chg × Chg)} {p:Chg × Chg} (hA:∀ q ∈ A,cmpC s q.1 x<0) (hp:cmpC s p.1 x=0):Zge x.table (keyC s x) x ((A++p :: B).map (entG s))=if cmpR p.2.new x.old=0 then some ((A++(p.1,x) :: B).map (entG s)) else none:=by
 have hl0:nlow x.table (keyC s x) ((p :: B).map (entG s))=0:=by
  have h1:¬ _:=(fun e=>by have:=(ent_lt (s:=s) p x).1 e;omega);rw [List.map_cons,nlow,if_neg h1]
 have hl:nlow x.table (keyC s x) ((A++p :: B).map (entG s))=A.length:=by
  rw [Zet hA,hl0];omega
 have e:((A++p :: B).map (entG s)).getD A.length net0=entG s p:=(by simp [List.getD])
 have ht:p.1.table=x.table∧cmpR (keyC s p.1) (keyC s x)=0:=by
  have:=cmpC_same.2 hp;unfold Zdc at this;simpa using this
 have hh:nhit x.table (keyC s x) ((A++p :: B).map (entG s))=true:=by
  unfold nhit;rw [hl,e];simp [entG,ht.1,ht.2]
 unfold Zge;rw [hh,hl,e];simp only [if_true];have e2:(entG s p).c.new=p.2.new:=rfl;rw [e2];split
 · congr 1
   rw [List.map_append,List.set_append,if_neg (by simp)];simp [entG]
 · rfl
def Srtd (s:Sch) (l:List Chg):Prop:=l.Pairwise (fun a b=>cmpC s a b≤0)
theorem Zgq (x:Chg):∀ {l:List Chg},Srtd s l→∃ P Q,l=P++Q∧(∀ y ∈ P,cmpC s y x≤0)∧(∀ y ∈ Q,cmpC s x y<0)∧ins (cmpC s) x l=P++x :: Q
 | l,h=>by
  have key:∀ {l:List Chg},Srtd s l→∃ P Q,l=P++Q∧(∀ y ∈ P,cmpC s y x≤0)∧(∀ y ∈ Q,cmpC s x y<0):=by
   intro l;induction l with
   | nil=>intro _;exact⟨[],[],rfl,by simp,by simp⟩
   | cons y l ih =>
    intro h;obtain⟨h1,h2⟩:=List.pairwise_cons.1 h
    by_cases hc:cmpC s y x≤0
    · obtain⟨P,Q,e,h3,h4⟩:=ih h2;refine⟨y :: P,Q,by rw [e];rfl,fun z hz=>?_,h4⟩;rcases List.mem_cons.1 hz with rfl | hz
      · exact hc
      · exact h3 z hz
    · have hc':cmpC s x y<0:=(ZaZ x y).2 (by omega);refine⟨[],y :: l,rfl,by simp,fun z hz=>?_⟩;rcases List.mem_cons.1 hz with rfl | hz
      · exact hc'
      · exact Zbu hc' (h1 z hz)
  obtain⟨P,Q,rfl,h1,h2⟩:=key h;refine⟨P,Q,rfl,h1,h2,ins_at _ _ _ _ h2 (fun y hy=>?_)⟩;have:=h1 y (List.mem_of_getLast? hy);have h3:=ZaZ (s:=s) x y;omega
theorem srtd_ins {l:List Chg} (x:Chg) (h:Srtd s l):Srtd s (ins (cmpC s) x l):=by
 obtain⟨P,Q,rfl,h1,h2,h3⟩:=Zgq x h;rw [h3];unfold Srtd at *;rw [List.pairwise_append] at h ⊢;refine⟨h.1,List.pairwise_cons.2 ⟨fun y hy=>Int.le_of_lt (h2 y hy),h.2.1⟩,fun y hy z hz=>?_⟩;rcases List.mem_cons.1 hz with rfl | hz
 · exact h1 y hy
 · exact h.2.2 y hy z hz
theorem Zfo:∀ {P:List Chg} {o:Option (Chg × Chg)} {G:List (Chg × Chg)},gGo s o P=some G→Srtd s ((o.map (·.1)).toList++P)→(∀ p ∈ G,p.1 ∈ (o.map (·.1)).toList++P)∧G.Pairwise (fun p q=>cmpC s p.1 q.1<0)
 | [],none,G,h,_=>by rw [gGo] at h;injection h with h;subst h;simp
 | [],some (f,la),G,h,_=>by rw [gGo] at h;injection h with h;subst h;simp
 | x :: P,none,G,h,hs=>by
  rw [gGo] at h;exact Zfo (P:=P) (o:=some (x,x)) h hs
 | x :: P,some (f,la),G,h,hs=>by
  have hs':Srtd s (f :: x :: P):=hs;obtain⟨h1,h2⟩:=List.pairwise_cons.1 hs';rw [gGo] at h;split at h
  · rename_i hsame
    split at h
    · have h3:Srtd s (f :: P):=List.pairwise_cons.2 ⟨fun y hy=>h1 y (List.mem_cons_of_mem _ hy),(List.pairwise_cons.1 h2).2⟩;obtain⟨h4,h5⟩:=Zfo h h3;refine⟨fun p hp=>?_,h5⟩;have:=h4 p hp;simp at this ⊢;rcases this with h | h
      · exact .inl h
      · exact .inr (.inr h)
    · cases h
  · rename_i hsame
    cases hg:gGo s (some (x,x)) P with
    | none=>rw [hg] at h;cases h
    | some a =>
     rw [hg] at h;injection h with h;subst h;obtain⟨h4,h5⟩:=Zfo hg h2
     have hlt:cmpC s f x<0:=by
      have:=h1 x (by simp);rcases Int.lt_or_eq_of_le this with h | h
      · exact h
      · exact absurd (cmpC_same.2 h) hsame
     refine⟨fun p hp=>?_,List.pairwise_cons.2 ⟨fun q hq=>?_,h5⟩⟩
     · rcases List.mem_cons.1 hp with rfl | hp
       · simp
       · have:=h4 p hp;simp at this ⊢;exact .inr this
     · have hm:=h4 q hq;have hm':q.1=x∨q.1 ∈ P:=(by simpa using hm);rcases hm' with h | h
       · rw [h];exact hlt
       · exact Zbu hlt ((List.pairwise_cons.1 h2).1 _ h)
theorem ZgL {x:Chg}:∀ {A:List (Chg × Chg)},(∀ p ∈ A,cmpC s p.1 x<0)→ZdM s x A=some (A++[(x,x)])
 | [],_=>rfl
 | [p],h=>by
  have h1:¬ Zdc s p.1 x=true:=(fun e=>by rw [cmpC_same] at e;have:=h p (by simp);omega);rw [ZdM,if_neg h1];rfl
 | p :: q :: r,h=>by
  rw [ZdM,ZgL (fun z hz=>h z (by simp [hz]))];rfl
theorem ZgK {x:Chg} {p:Chg × Chg} (hp:cmpC s p.1 x=0):∀ {A:List (Chg × Chg)},ZdM s x (A++[p])=if cmpR p.2.new x.old=0 then some (A++[(p.1,x)]) else none
 | []=>by
  rw [List.nil_append,ZdM,if_pos (cmpC_same.2 hp)];rfl
 | [q]=>by
  show (ZdM s x [p]).map (q :: ·)=_;rw [ZdM,if_pos (cmpC_same.2 hp)];split<;>rfl
 | q :: r :: A=>by
  show (ZdM s x (r :: A++[p])).map (q :: ·)=_;rw [ZgK hp (A:=r :: A)];split<;>rfl
theorem ins_step {l:List Chg} (x:Chg) (h:Srtd s l):(gGo s none (ins (cmpC s) x l)).map (fun G=>G.map (entG s))=(gGo s none l).bind fun G=>Zge x.table (keyC s x) x (G.map (entG s)):=by
 obtain⟨P,Q,rfl,h1,h2,h3⟩:=Zgq x h;have hPQ:∀ q r,Q=q :: r→(∀ p ∈ P,cmpC s p q<0)∧∀ f la,(none:Option (Chg × Chg))=some (f,la)→cmpC s f q<0:=fun q r e=>⟨fun p hp=>Zdb (h1 p hp) (h2 q (by rw [e];simp)),fun f la e'=>by cases e'⟩
 have hPxQ:∀ q r,Q=q :: r→(∀ p ∈ P++[x],cmpC s p q<0)∧∀ f la,(none:Option (Chg × Chg))=some (f,la)→cmpC s f q<0:=fun q r e=>⟨fun p hp=>by
  rcases List.mem_append.1 hp with hp | hp
  · exact(hPQ q r e).1 p hp
  · rw [List.mem_singleton] at hp;rw [hp];exact h2 q (by rw [e];simp),fun f la e'=>by cases e'⟩
 rw [h3,show P++x :: Q=(P++[x])++Q by simp,Zfp hPxQ,ZeY,Zfp hPQ];unfold Srtd at h;rw [List.pairwise_append] at h;cases hP:gGo s none P with
 | none=>simp
 | some A =>
  obtain⟨hA1,hA2⟩:=Zfo hP (show Srtd s P from h.1);have hA1':∀ p ∈ A,p.1 ∈ P:=(fun p hp=>by simpa using hA1 p hp);cases hQ:gGo s none Q with
  | none=>cases ZdM s x A<;>simp
  | some B =>
   obtain⟨hB1,_⟩:=Zfo hQ (show Srtd s Q from h.2.1);have hB:∀ p ∈ B,0<cmpC s p.1 x:=fun p hp=>(ZaZ x p.1).1 (h2 _ (by simpa using hB1 p hp));simp only [Option.bind_some,Option.map_some]
   by_cases hnew:∀ p ∈ A,cmpC s p.1 x<0
   · rw [ZgL hnew,Zgv hnew hB];simp
   ·
     have hex:∃ A' p,A=A'++[p]∧cmpC s p.1 x=0:=by
      rcases List.eq_nil_or_concat A with rfl | ⟨A',p,rfl⟩
      · exact absurd (by simp) hnew
      · refine⟨A',p,by simp,?_⟩;have hp:=h1 p.1 (hA1' p (by simp));rcases Int.lt_or_eq_of_le hp with hlt | he
        · exfalso;apply hnew;intro q hq;rcases(by simpa using hq:q ∈ A'∨q=p) with hq | hq
          · have hpw:=(List.pairwise_append.1 (by simpa using hA2)).2.2 q hq p (by simp);exact Zbu hpw hp
          · rw [hq];exact hlt
        · exact he
     obtain⟨A',p,rfl,hp⟩:=hex
     have hA':∀ q ∈ A',cmpC s q.1 x<0:=fun q hq=>by
      have hpw:=(List.pairwise_append.1 hA2).2.2 q hq p (by simp);exact Zbu hpw (Int.le_of_eq hp)
     rw [ZgK hp,show A'++[p]++B=A'++p :: B by simp,Zgu hA' hp];split<;>simp
def Zgf (s:Sch):Option (List NetE)→List Chg→Option (List NetE)
 | o,[]=>o
 | o,c :: r=>Zgf s (o.bind (Zge c.table (keyC s c) c)) r
theorem ZfL:∀ l:List Chg,Zgf s none l=none
 | []=>rfl
 | c :: r=>by unfold Zgf;exact ZfL r
theorem Zhs:∀ (l p:List Chg),Srtd s p→Zgf s ((gGo s none p).map (fun G=>G.map (entG s))) l=(gGo s none (l.foldl (fun p x=>ins (cmpC s) x p) p)).map (fun G=>G.map (entG s))
 | [],p,_=>rfl
 | x :: l,p,h=>by
  rw [List.foldl_cons,←Zhs l _ (srtd_ins x h),ins_step x h,Zgf]
  congr 1
  cases gGo s none p<;>rfl
theorem Zgx {m:Int}:∀ (l:List Chg) (L:List NetE),Zdh s m L l=match Zgf s (some L) (l.take (Zbk s m l)) with
  | none=>(81,[])
  | some L'=>if Zbk s m l<l.length then (71,[]) else (0,L')
 | [],L=>by simp [Zdh,Zbk,Zgf]
 | c :: r,L=>by
  by_cases hv:Zap s m c=true
  · rw [Zdh,Zbk,if_pos hv];simp only [hv,Bool.true_eq_false,if_false,List.take_succ_cons,List.length_cons,Nat.add_lt_add_iff_right];rw [Zgf,Option.bind_some];cases hr:Zge c.table (keyC s c) c L with
    | none=>rw [ZfL]
    | some L'=>exact Zgx r L'
  · have hv':Zap s m c=false:=(by simpa using hv);rw [Zdh,Zbk,if_neg hv];simp [hv',Zgf]
theorem rnetF_eq (e m:Int) (l:List Chg):rnetF e s m l=netF e s m l:=by
 unfold rnetF netF;split
 · rfl
 · rw [Zgx,ZeW];have h:=Zhs (s:=s) (l.take (Zbk s m l)) [] List.Pairwise.nil;have h0:(gGo s none []).map (fun G=>G.map (entG s))=some []:=rfl;rw [h0] at h;rw [h];show _=match (gGo s none (Zbz (cmpC s) (l.take (Zbk s m l)))).map outs with | none=>_ | some o=>_;unfold Zbz;cases gGo s none ((l.take (Zbk s m l)).foldl (fun p x=>ins (cmpC s) x p) []) with
   | none=>simp
   | some G =>
    simp only [Option.map_some];split
    · simp
    · simp [Zhr]
end
theorem pw_ext {α:Type} {lt:α→α→Prop} (irr:∀ a,¬ lt a a) (asy:∀ a b,lt a b→lt b a→False):∀ {l l':List α},l.Pairwise lt→l'.Pairwise lt→(∀ x,x ∈ l↔x ∈ l')→l=l'
 | [],[],_,_,_=>rfl
 | [],y :: l',_,_,h=>by have:=(h y).2 (by simp);simp at this
 | x :: l,[],_,_,h=>by have:=(h x).1 (by simp);simp at this
 | x :: l,y :: l',h1,h2,h=>by
  obtain⟨a1,a2⟩:=List.pairwise_cons.1 h1;obtain⟨b1,b2⟩:=List.pairwise_cons.1 h2
  have e:x=y:=by
   rcases List.mem_cons.1 ((h x).1 (by simp)) with e | hx
   · exact e
   · rcases List.mem_cons.1 ((h y).2 (by simp)) with e | hy
     · exact e.symm
     · exact(asy _ _ (a1 y hy) (b1 x hx)).elim
  subst e
  congr 1
  refine pw_ext irr asy a2 b2 (fun z=>⟨fun hz=>?_,fun hz=>?_⟩)
  · rcases List.mem_cons.1 ((h z).1 (by simp [hz])) with e | h3
    · subst e;exact(irr _ (a1 _ hz)).elim
    · exact h3
  · rcases List.mem_cons.1 ((h z).2 (by simp [hz])) with e | h3
    · subst e;exact(irr _ (b1 _ hz)).elim
    · exact h3
section
variable {s:Sch} {t:Int}
theorem asc_pw {l:List Row}:Asc s t l↔l.Pairwise (fun x y=>cmpR (keyF s t x) (keyF s t y)<0):=by
 constructor
 · induction l with
   | nil=>intro _;exact List.Pairwise.nil
   | cons r l ih =>
    intro h;obtain⟨h1,h2⟩:=ZbF h;exact List.pairwise_cons.2 ⟨h2,ih h1⟩
 · induction l with
   | nil=>intro _ i j _ hj;simp at hj
   | cons r l ih =>
    intro h;obtain⟨h1,h2⟩:=List.pairwise_cons.1 h;exact asc_cons (ih h2) h1
theorem ZcT {l:List Row} (h:Asc s t l) {k:Row} {r:Row}:ZaG s t k l=some r↔r ∈ l∧keyF s t r=k:=by
 obtain⟨a,o,b,hc⟩:=ZbO k h;rw [hc.find];constructor
 · intro e;exact⟨by rw [hc.eq,e];simp,hc.at_ r e⟩
 · rintro⟨hr,hk⟩;rw [hc.eq] at hr;simp only [List.mem_append] at hr;rcases hr with (hr | hr) | hr
   · have:=hc.below r hr;rw [hk,cmpR_is.self] at this;omega
   · simpa [eq_comm] using hr
   · have:=hc.above r hr;rw [hk,cmpR_is.self] at this;omega
theorem asc_ext {l l':List Row} (h:Asc s t l) (h':Asc s t l') (he:∀ k,ZaG s t k l=ZaG s t k l'):l=l':=by
 refine pw_ext (fun a h=>by rw [cmpR_is.self] at h;omega) (fun a b h1 h2=>by have:=cmpR_is.flip (keyF s t a) (keyF s t b);omega) (asc_pw.1 h) (asc_pw.1 h') (fun r=>?_);have h1:=ZcT h (k:=keyF s t r) (r:=r);have h2:=ZcT h' (k:=keyF s t r) (r:=r);rw [he] at h1;constructor
 · intro hr;exact(h2.1 (h1.2 ⟨hr,rfl⟩)).1
 · intro hr;exact(h1.1 (h2.2 ⟨hr,rfl⟩)).1
theorem ZcI (k r:Row) (l:List Row):ZaG s t k (r :: l)=if cmpR (keyF s t r) k=0 then some r else ZaG s t k l:=by
 have:=ZfW s t k (l:=r :: l) (k:=0) (by simp);simpa using this
theorem Zbs {k:Row} {l:List Row} (h:∀ y ∈ l,cmpR k (keyF s t y)<0):ZaG s t k l=none:=by
 unfold ZaG;rw [List.find?_eq_none];intro y hy;have h1:=h y hy;have h2:=cmpR_is.flip k (keyF s t y);simp;omega
def addC (c:Chg) (l:List Chg):List Chg:=if cmpR c.old c.new≠0 then c :: l else l
def ZcL (s:Sch) (t:Int):List Row→List Row→List Chg
 | [],[]=>[]
 | x :: a,[]=>addC ⟨t,x,[]⟩ (ZcL s t a [])
 | [],y :: b=>addC ⟨t,[],y⟩ (ZcL s t [] b)
 | x :: a,y :: b =>
  if cmpR (keyF s t x) (keyF s t y)<0 then addC ⟨t,x,[]⟩ (ZcL s t a (y :: b))
  else if 0<cmpR (keyF s t x) (keyF s t y) then addC ⟨t,[],y⟩ (ZcL s t (x :: a) b)
  else addC ⟨t,x,y⟩ (ZcL s t a b)
termination_by a b=>a.length+b.length
theorem Zej {c x:Chg} {l:List Chg}:x ∈ addC c l↔(x=c∧c.old≠c.new)∨x ∈ l:=by
 unfold addC
 by_cases h:cmpR c.old c.new=0
 · have:=(cmpR_is.zero _ _).1 h;rw [if_neg (by simp [h])];exact⟨.inr,fun h'=>h'.resolve_left (fun h2=>h2.2 this)⟩
 · have:c.old≠c.new:=fun e=>h ((cmpR_is.zero _ _).2 e);simp [h,this]
def At (s:Sch) (t:Int) (a b:List Row) (x:Chg):Prop:=x.table=t∧x.old≠x.new∧∃ k,x.old=(ZaG s t k a).getD []∧x.new=(ZaG s t k b).getD []
theorem ZfA {a b a' b':List Row} {k0:Row} {c:Chg} (hc:c.table=t) (h1:c.old=(ZaG s t k0 a).getD []) (h2:c.new=(ZaG s t k0 b).getD []) (h3:ZaG s t k0 a'=none) (h4:ZaG s t k0 b'=none)
  (h5:∀ k,k≠k0→ZaG s t k a=ZaG s t k a'∧ZaG s t k b=ZaG s t k b') (x:Chg):At s t a b x↔(x=c∧c.old≠c.new)∨At s t a' b' x:=by
 constructor
 · rintro⟨e1,e2,k,e3,e4⟩
   by_cases hk:k=k0
   · subst hk;left
     have:x=c:=by
      cases x;cases c
      simp only at *;simp [e1,hc,e3,e4,h1,h2]
     exact⟨this,by rw [←this];exact e2⟩
   · right;exact⟨e1,e2,k,by rw [e3,(h5 k hk).1],by rw [e4,(h5 k hk).2]⟩
 · rintro(⟨rfl,h⟩ | ⟨e1,e2,k,e3,e4⟩)
   · exact⟨hc,h,k0,h1,h2⟩
   · by_cases hk:k=k0
     · subst hk;rw [h3] at e3;rw [h4] at e4;exact absurd (e3.trans e4.symm) e2
     · exact⟨e1,e2,k,by rw [e3,(h5 k hk).1],by rw [e4,(h5 k hk).2]⟩
theorem Zcd {k r:Row} {l:List Row} (h:k≠keyF s t r):ZaG s t k (r :: l)=ZaG s t k l:=by
 rw [ZcI,if_neg (fun e=>h ((cmpR_is.zero _ _).1 e).symm)]
theorem ZcH {r:Row} {l:List Row}:ZaG s t (keyF s t r) (r :: l)=some r:=by
 rw [ZcI,if_pos (cmpR_is.self _)]
theorem Zck:∀ (a b:List Row),Asc s t a→Asc s t b→∀ x,x ∈ ZcL s t a b↔At s t a b x
 | [],[],_,_,x=>by
  unfold ZcL;constructor
  · intro h;simp at h
  · rintro⟨_,h,k,e1,e2⟩;exact absurd (e1.trans e2.symm) h
 | r :: a,[],ha,hb,x=>by
  obtain⟨h1,h2⟩:=ZbF ha;unfold ZcL;rw [Zej,Zck a [] h1 hb x];exact(ZfA (c:=⟨t,r,[]⟩) (a':=a) (b':=[]) (k0:=keyF s t r) rfl (by rw [ZcH];rfl) rfl (Zbs h2) rfl (fun k hk=>⟨Zcd hk,rfl⟩) x).symm
 | [],r :: b,ha,hb,x=>by
  obtain⟨h1,h2⟩:=ZbF hb;unfold ZcL;rw [Zej,Zck [] b ha h1 x];exact(ZfA (c:=⟨t,[],r⟩) (a':=[]) (b':=b) (k0:=keyF s t r) rfl rfl (by rw [ZcH];rfl) rfl (Zbs h2) (fun k hk=>⟨rfl,Zcd hk⟩) x).symm
 | r :: a,q :: b,ha,hb,x=>by
  obtain⟨h1,h2⟩:=ZbF ha;obtain⟨h3,h4⟩:=ZbF hb;unfold ZcL
  by_cases c1:cmpR (keyF s t r) (keyF s t q)<0
  · have hq:∀ y ∈ q :: b,cmpR (keyF s t r) (keyF s t y)<0:=fun y hy=>by
      rcases List.mem_cons.1 hy with rfl | hy
      · exact c1
      · exact cmpR_is.lt_trans c1 (h4 y hy)
    rw [if_pos c1,Zej,Zck a (q :: b) h1 hb x];exact(ZfA (c:=⟨t,r,[]⟩) (a':=a) (b':=q :: b) (k0:=keyF s t r) rfl (by rw [ZcH];rfl) (by rw [Zbs hq];rfl) (Zbs h2) (Zbs hq) (fun k hk=>⟨Zcd hk,rfl⟩) x).symm
  · rw [if_neg c1]
    by_cases c2:0<cmpR (keyF s t r) (keyF s t q)
    · have c2':cmpR (keyF s t q) (keyF s t r)<0:=(by have:=cmpR_is.flip (keyF s t q) (keyF s t r);omega)
      have hr:∀ y ∈ r :: a,cmpR (keyF s t q) (keyF s t y)<0:=fun y hy=>by
       rcases List.mem_cons.1 hy with rfl | hy
       · exact c2'
       · exact cmpR_is.lt_trans c2' (h2 y hy)
      rw [if_pos c2,Zej,Zck (r :: a) b ha h3 x];exact(ZfA (c:=⟨t,[],q⟩) (a':=r :: a) (b':=b) (k0:=keyF s t q) rfl (by rw [Zbs hr];rfl) (by rw [ZcH];rfl) (Zbs hr) (Zbs h4) (fun k hk=>⟨rfl,Zcd hk⟩) x).symm
    · have hk:keyF s t r=keyF s t q:=(cmpR_is.zero _ _).1 (by omega);rw [if_neg c2,Zej,Zck a b h1 h3 x];refine(ZfA (c:=⟨t,r,q⟩) (a':=a) (b':=b) (k0:=keyF s t r) rfl (by rw [ZcH];rfl) (by rw [hk,ZcH];rfl) (Zbs h2) (Zbs (by rw [hk];exact h4)) (fun k hk'=>⟨Zcd hk',Zcd (by rw [←hk];exact hk')⟩) x).symm
termination_by a b=>a.length+b.length
theorem at_key {a b:List Row} (ha:Asc s t a) (hb:Asc s t b) (hne:(∀ r ∈ a,0<r.length)∧∀ r ∈ b,0<r.length) {x:Chg} {k:Row} (h1:x.table=t) (h2:x.old≠x.new) (h3:x.old=(ZaG s t k a).getD []) (h4:x.new=(ZaG s t k b).getD []):keyC s x=k∧((∃ r ∈ a,keyF s t r=k)∨∃ r ∈ b,keyF s t r=k):=by
 unfold keyC;rw [h1];cases ho:ZaG s t k a with
 | some r =>
  rw [ho] at h3;obtain⟨h5,h6⟩:=(ZcT ha).1 ho;have e:x.old=r:=h3;rw [e,if_pos (hne.1 r h5)];exact⟨h6,.inl ⟨r,h5,h6⟩⟩
 | none =>
  rw [ho] at h3;have e:x.old=[]:=h3;rw [e,if_neg (by simp)];cases hn:ZaG s t k b with
  | none =>
   rw [hn] at h4;exact absurd (h3.trans h4.symm) h2
  | some r =>
   rw [hn] at h4;obtain⟨h5,h6⟩:=(ZcT hb).1 hn;have e:x.new=r:=h4;rw [e];exact⟨h6,.inr ⟨r,h5,h6⟩⟩
def ZfE (s:Sch) (l:List Chg):Prop:=l.Pairwise (fun x y=>cmpC s x y<0)
theorem ZgW {l l':List Chg} (h:ZfE s l) (h':ZfE s l') (he:∀ x,x ∈ l↔x ∈ l'):l=l' :=
 pw_ext (fun a h=>by have:=(ZaZ (s:=s) a a).1 h;omega) (fun a b h1 h2=>by have:=(ZaZ (s:=s) a b).1 h1;omega) h h' he
theorem ZcN {c:Chg} {l:List Chg} (h:ZfE s l) (hc:∀ x ∈ l,cmpC s c x<0):ZfE s (addC c l):=by
 unfold addC;split
 · exact List.pairwise_cons.2 ⟨hc,h⟩
 · exact h
theorem ZgV {x y:Chg} {k k':Row} (hx:x.table=t) (hy:y.table=t) (h1:keyC s x=k) (h2:keyC s y=k') (h:cmpR k k'<0):cmpC s x y<0:=by
 unfold cmpC;rw [hx,hy,h1,h2];simpa using h
theorem ZgR {a b:List Row} (ha:Asc s t a) (hb:Asc s t b) (hne:(∀ r ∈ a,0<r.length)∧∀ r ∈ b,0<r.length) {x:Chg} (hx:x ∈ ZcL s t a b):x.table=t∧((∃ r ∈ a,keyC s x=keyF s t r)∨∃ r ∈ b,keyC s x=keyF s t r):=by
 obtain⟨h1,h2,k,h3,h4⟩:=(Zck a b ha hb x).1 hx;obtain⟨h5,h6⟩:=at_key ha hb hne h1 h2 h3 h4;refine⟨h1,?_⟩;rcases h6 with ⟨r,hr,e⟩ | ⟨r,hr,e⟩
 · exact .inl ⟨r,hr,h5.trans e.symm⟩
 · exact .inr ⟨r,hr,h5.trans e.symm⟩
theorem Zfl {a b:List Row} {k0:Row} {c:Chg} (ha:Asc s t a) (hb:Asc s t b) (hne:(∀ r ∈ a,0<r.length)∧∀ r ∈ b,0<r.length) (hc:c.table=t) (hk:keyC s c=k0) (h1:∀ r ∈ a,cmpR k0 (keyF s t r)<0) (h2:∀ r ∈ b,cmpR k0 (keyF s t r)<0):∀ x ∈ ZcL s t a b,cmpC s c x<0:=fun x hx=>by
 obtain⟨h3,h4⟩:=ZgR ha hb hne hx;rcases h4 with ⟨r,hr,e⟩ | ⟨r,hr,e⟩
 · exact ZgV hc h3 hk e (h1 r hr)
 · exact ZgV hc h3 hk e (h2 r hr)
theorem ZbN:∀ (a b:List Row),Asc s t a→Asc s t b→(∀ r ∈ a,0<r.length)→(∀ r ∈ b,0<r.length)→ZfE s (ZcL s t a b)
 | [],[],_,_,_,_=>by unfold ZcL;exact List.Pairwise.nil
 | r :: a,[],ha,hb,na,nb=>by
  obtain⟨h1,h2⟩:=ZbF ha;unfold ZcL;exact ZcN (ZbN a [] h1 hb (fun x hx=>na x (by simp [hx])) nb) (Zfl h1 hb ⟨fun x hx=>na x (by simp [hx]),nb⟩ rfl (by simp [keyC,na r (by simp)]) h2 (by simp))
 | [],r :: b,ha,hb,na,nb=>by
  obtain⟨h1,h2⟩:=ZbF hb;unfold ZcL;exact ZcN (ZbN [] b ha h1 na (fun x hx=>nb x (by simp [hx]))) (Zfl ha h1 ⟨na,fun x hx=>nb x (by simp [hx])⟩ rfl (by simp [keyC]) (by simp) h2)
 | r :: a,q :: b,ha,hb,na,nb=>by
  obtain⟨h1,h2⟩:=ZbF ha;obtain⟨h3,h4⟩:=ZbF hb;have na':∀ x ∈ a,0<x.length:=fun x hx=>na x (by simp [hx]);have nb':∀ x ∈ b,0<x.length:=fun x hx=>nb x (by simp [hx]);unfold ZcL
  by_cases c1:cmpR (keyF s t r) (keyF s t q)<0
  · rw [if_pos c1];refine ZcN (ZbN a (q :: b) h1 hb na' nb) (Zfl h1 hb ⟨na',nb⟩ rfl (by simp [keyC,na r (by simp)]) h2 (fun y hy=>?_));rcases List.mem_cons.1 hy with rfl | hy
    · exact c1
    · exact cmpR_is.lt_trans c1 (h4 y hy)
  · rw [if_neg c1]
    by_cases c2:0<cmpR (keyF s t r) (keyF s t q)
    · have c2':cmpR (keyF s t q) (keyF s t r)<0:=(by have:=cmpR_is.flip (keyF s t q) (keyF s t r);omega);rw [if_pos c2];refine ZcN (ZbN (r :: a) b ha h3 na nb') (Zfl ha h3 ⟨na,nb'⟩ rfl (by simp [keyC]) (fun y hy=>?_) h4);rcases List.mem_cons.1 hy with rfl | hy
      · exact c2'
      · exact cmpR_is.lt_trans c2' (h2 y hy)
    · have hk:keyF s t r=keyF s t q:=(cmpR_is.zero _ _).1 (by omega);rw [if_neg c2];exact ZcN (ZbN a b h1 h3 na' nb') (Zfl h1 h3 ⟨na',nb'⟩ rfl (by simp [keyC,na r (by simp)]) h2 (by rw [hk];exact h4))
termination_by a b=>a.length+b.length
end
def Zgj (s:Sch):Nat→St→St→List Chg
 | _,[],_=>[]
 | t,a :: r,q=>ZcL s t a (q.headD [])++Zgj s (t+1) r q.tail
abbrev Zdq (s:Sch) (a b:St):List Chg:=Zgj s 0 a b
def Full (st:St):Prop:=∀ t r,r ∈ st.getD t []→0<r.length
section
variable {s:Sch} {m:Int}
def look (s:Sch) (st:St) (t:Nat) (k:Row):Row:=(ZaG s t k (st.getD t [])).getD []
theorem ZgS:∀ (a b:St) (t:Nat),(∀ k,k<a.length→Asc s ((t+k:Nat):Int) (a.getD k []))→(∀ k,k<a.length→Asc s ((t+k:Nat):Int) (b.getD k []))→∀ x,x ∈ Zgj s t a b↔∃ k,k<a.length∧At s ((t+k:Nat):Int) (a.getD k []) (b.getD k []) x
 | [],b,t,_,_,x=>by simp [Zgj]
 | r :: a,b,t,ha,hb,x=>by
  have e0:b.headD []=b.getD 0 []:=(by cases b<;>rfl);have e1:∀ k,b.tail.getD k []=b.getD (k+1) []:=(fun k=>by cases b<;>rfl);have a0:=ha 0 (by simp);have b0:=hb 0 (by simp);have hd0:x ∈ ZcL s (t:Int) r (b.getD 0 [])↔At s ((t+0:Nat):Int) r (b.getD 0 []) x:=Zck _ _ a0 b0 x;rw [Zgj,List.mem_append,e0,hd0,ZgS a b.tail (t+1) (fun k hk=>by have:=ha (k+1) (by simpa using hk);rw [show t+(k+1)=t+1+k by omega] at this;exact this) (fun k hk=>by have:=hb (k+1) (by simpa using hk);rw [show t+(k+1)=t+1+k by omega] at this;rw [e1];exact this)];constructor
  · rintro(h | ⟨k,hk,h⟩)
    · exact⟨0,by simp,h⟩
    · refine⟨k+1,by simpa using hk,?_⟩;rw [e1] at h;rw [show t+(k+1)=t+1+k by omega];exact h
  · rintro⟨k,hk,h⟩;cases k with
    | zero=>exact .inl h
    | succ k =>
     refine .inr ⟨k,by simpa using hk,?_⟩;rw [e1,show t+1+k=t+(k+1) by omega];exact h
theorem Zfu:∀ (a b:St) (t:Nat),(∀ k,k<a.length→Asc s ((t+k:Nat):Int) (a.getD k []))→(∀ k,k<a.length→Asc s ((t+k:Nat):Int) (b.getD k []))→Full a→Full b→ZfE s (Zgj s t a b)∧∀ x ∈ Zgj s t a b,(t:Int)≤x.table
 | [],b,t,_,_,_,_=>by simp [Zgj,ZfE]
 | r :: a,b,t,ha,hb,fa,fb=>by
  have e0:b.headD []=b.getD 0 []:=(by cases b<;>rfl);have e1:∀ k,b.tail.getD k []=b.getD (k+1) []:=(fun k=>by cases b<;>rfl);have a0:=ha 0 (by simp);have b0:=hb 0 (by simp);have na:∀ x ∈ r,0<x.length:=fun x hx=>fa 0 x hx;have nb:∀ x ∈ b.getD 0 [],0<x.length:=fun x hx=>fb 0 x hx;obtain⟨h1,h2⟩:=Zfu a b.tail (t+1) (fun k hk=>by have:=ha (k+1) (by simpa using hk);rw [show t+(k+1)=t+1+k by omega] at this;exact this) (fun k hk=>by have:=hb (k+1) (by simpa using hk);rw [show t+(k+1)=t+1+k by omega] at this;rw [e1];exact this) (fun k x hx=>fa (k+1) x hx) (fun k x hx=>fb (k+1) x (by rw [←e1];exact hx));have h3:=ZbN r (b.getD 0 []) a0 b0 na nb;have ht:∀ x ∈ ZcL s t r (b.getD 0 []),x.table=t:=fun x hx=>(ZgR a0 b0 ⟨na,nb⟩ hx).1;rw [Zgj,e0];refine⟨List.pairwise_append.2 ⟨h3,h1,fun x hx y hy=>?_⟩,fun x hx=>?_⟩
  · have hx':=ht x hx;have hy':=h2 y hy;unfold cmpC;rw [if_pos (by omega)];omega
  · rcases List.mem_append.1 hx with hx | hx
    · have:=ht x hx;omega
    · have:=h2 x hx;omega
theorem StOk.asc {st:St} (h:StOk s m st):∀ k,k<st.length→Asc s ((0+k:Nat):Int) (st.getD k []):=fun k hk=>by rw [Nat.zero_add];exact(h.2 k hk).2
theorem Zdz {a b:St} (ha:StOk s m a) (hb:StOk s m b) (x:Chg):x ∈ Zdq s a b↔∃ t:Nat,t<a.length∧x.table=t∧x.old≠x.new∧∃ k,x.old=look s a t k∧x.new=look s b t k:=by
 unfold Zdq;rw [ZgS a b 0 ha.asc (fun k hk=>hb.asc k (by rw [hb.1,←ha.1];exact hk))];simp only [Nat.zero_add];rfl
theorem ZcK {a b:St} (ha:StOk s m a) (hb:StOk s m b) (fa:Full a) (fb:Full b):ZfE s (Zdq s a b) :=
 (Zfu a b 0 ha.asc (fun k hk=>hb.asc k (by rw [hb.1,←ha.1];exact hk)) fa fb).1
theorem ZgG {st:St} (h:StOk s m st) {x:Chg} {t:Nat} (ht:x.table=t) (htl:t<st.length) (hv:Zap s m x=true) (u:Nat) (k:Row):look s (Zcx s st x) u k=if u=t∧k=keyC s x then x.new else look s st u k:=by
 unfold look Zcx;rw [show x.table.toNat=t by omega]
 by_cases hu:u=t
 · subst hu;have e:(st.set u (putC s x (st.getD u []))).getD u []=putC s x (st.getD u []):=(by simp [List.getD,htl]);have hr:=h.2 u htl;rw [e];have hasc:Asc s x.table (st.getD u []):=(by rw [ht];exact hr.2);obtain⟨a,o,b,hc⟩:=ZbO (keyC s x) hasc;have hag:Cut s x.table (keyC s x) (putC s x (st.getD u [])) a (if 0<x.new.length then some x.new else none) b:=hc.again (fun h0=>Zhc hv h0);rw [←ht]
   by_cases hk:k=keyC s x
   · subst hk;rw [hag.find];simp only [true_and,if_true]
     by_cases h0:0<x.new.length
     · rw [if_pos h0];rfl
     · rw [if_neg h0];have:x.new=[]:=List.eq_nil_of_length_eq_zero (by omega);rw [this];rfl
   · rw [if_neg (by simp [hk])]
     have hfind:∀ (o:Option Row),(∀ r,o=some r→keyF s x.table r=keyC s x)→ZaG s x.table k (a++o.toList++b)=ZaG s x.table k (a++b):=fun o ho=>by
      unfold ZaG;rw [List.find?_append,List.find?_append,List.find?_append];cases o with
      | none=>simp
      | some r =>
       have h1:=ho r rfl;have h2:¬ cmpR (keyF s x.table r) k=0:=fun e=>hk ((cmpR_is.zero _ _).1 (by rw [←h1];exact(by rw [(cmpR_is.zero _ _).1 e];exact cmpR_is.self _):cmpR k (keyC s x)=0));simp [h2]
     rw [hag.eq,hc.eq,hfind _ hag.at_,hfind _ hc.at_]
 · have e:(st.set t (putC s x (st.getD t []))).getD u []=st.getD u []:=(by simp [List.getD,List.getElem?_set_ne (Ne.symm hu)]);rw [e,if_neg (by simp [hu])]
theorem look_old {st:St} (h:StOk s m st) {x:Chg} {t:Nat} (ht:x.table=t) (htl:t<st.length) (hf:ZeS s x (st.getD t [])=true):look s st t (keyC s x)=x.old:=by
 have hasc:Asc s x.table (st.getD t []):=(by rw [ht];exact(h.2 t htl).2);obtain⟨a,o,b,hc⟩:=ZbO (keyC s x) hasc;have ho:=fit_old hc hf;unfold look;rw [←ht,hc.find,ho];split
 · rfl
 · have:x.old=[]:=List.eq_nil_of_length_eq_zero (by omega);rw [this];rfl
theorem ZeL {st:St} (h:StOk s m st) (hfl:Full st) {x:Chg} {t:Nat} (ht:x.table=t) (htl:t<st.length) (hl:look s st t (keyC s x)=x.old):ZeS s x (st.getD t [])=true:=by
 have hasc:Asc s x.table (st.getD t []):=(by rw [ht];exact(h.2 t htl).2);obtain⟨a,o,b,hc⟩:=ZbO (keyC s x) hasc;refine fits_of_cut hc ?_;unfold look at hl;rw [←ht,hc.find] at hl;cases o with
 | none =>
  have e:x.old=[]:=hl.symm;rw [e];simp
 | some r =>
  have e:x.old=r:=hl.symm;have hr:r ∈ st.getD t []:=(by rw [hc.eq];simp);rw [e,if_pos (hfl t r hr)]
theorem st_ext {a b:St} (ha:StOk s m a) (hb:StOk s m b) (h:∀ t,t<a.length→∀ k,ZaG s t k (a.getD t [])=ZaG s t k (b.getD t [])):a=b:=by
 have hl:a.length=b.length:=ha.1.trans hb.1.symm;apply List.ext_getElem hl;intro t h1 h2;have:=asc_ext (ha.2 t h1).2 (hb.2 t h2).2 (h t h1);simpa [List.getD,h1,h2] using this
theorem find_of_look {st st':St} {t:Nat} {k:Row} (hfa:Full st) (hfb:Full st') (ha:Asc s t (st.getD t [])) (hb:Asc s t (st'.getD t [])) (h:look s st t k=look s st' t k):ZaG s t k (st.getD t [])=ZaG s t k (st'.getD t []):=by
 unfold look at h;cases h1:ZaG s t k (st.getD t []) with
 | none =>
  cases h2:ZaG s t k (st'.getD t []) with
  | none=>rfl
  | some r =>
   rw [h1,h2] at h;have:=hfb t r ((ZcT hb).1 h2).1;have e:r=[]:=h.symm;rw [e] at this;simp at this
 | some r =>
  cases h2:ZaG s t k (st'.getD t []) with
  | none =>
   rw [h1,h2] at h;have:=hfa t r ((ZcT ha).1 h1).1;have e:r=[]:=h;rw [e] at this;simp at this
  | some r' =>
   rw [h1,h2] at h;exact congrArg some h
theorem look_ext {a b:St} (ha:StOk s m a) (hb:StOk s m b) (hfa:Full a) (hfb:Full b) (h:∀ t,t<a.length→∀ k,look s a t k=look s b t k):a=b :=
 st_ext ha hb (fun t ht k=>find_of_look hfa hfb (ha.2 t ht).2 (hb.2 t (by rw [hb.1,←ha.1];exact ht)).2 (h t ht k))
end
section
variable {s:Sch} {m:Int}
theorem Zbw {st:St} (hw:∀ t,t<s.tabs.length→0<(s.tabs.getD t t0).cols.length) (h:StOk s m st):Full st:=by
 intro t r hr
 by_cases ht:t<st.length
 · have hf:=(h.2 t ht).1 r hr;have:=ZbW hf;rw [this,Int.toNat_natCast];exact hw t (by rw [←h.1];exact ht)
 · have e:st.getD t []=[]:=(by simp [List.getD,ht]);rw [e] at hr;simp at hr
theorem Zhn (st:St) (x:Chg):(Zcx s st x).length=st.length:=by simp [Zcx]
theorem ZgX:∀ (l:List Chg) (st:St),(after s st l).length=st.length
 | [],st=>rfl
 | x :: l,st=>by show (after s (Zcx s st x) l).length=_;rw [ZgX l,Zhn]
theorem cmpC_eq {x y:Chg}:cmpC s x y=0↔x.table=y.table∧keyC s x=keyC s y:=by
 unfold cmpC
 by_cases h:x.table=y.table
 · simp [h,cmpR_is.zero]
 · simp [h];omega
theorem ZeT {x:Chg} (hv:Zap s m x=true):∃ t:Nat,x.table=t∧t<s.tabs.length:=by
 unfold Zap at hv;simp only [Bool.and_eq_true,hasN,decide_eq_true_eq] at hv;obtain⟨t,ht⟩:=Int.eq_ofNat_of_zero_le hv.1.1.1.1.1;exact⟨t,ht,by have:=hv.1.1.1.1.2;omega⟩
theorem run_all (hw:∀ t,t<s.tabs.length→0<(s.tabs.getD t t0).cols.length):∀ (D:List Chg) (c:St),StOk s m c→ZfE s D→(∀ x ∈ D,Zap s m x=true∧∀ t:Nat,x.table=t→look s c t (keyC s x)=x.old) →
  Fit s m c D∧StOk s m (after s c D)∧(∀ x ∈ D,∀ t:Nat,x.table=t→look s (after s c D) t (keyC s x)=x.new)∧∀ (t:Nat) k,(∀ x ∈ D,¬ (x.table=(t:Int)∧keyC s x=k))→look s (after s c D) t k=look s c t k
 | [],c,h,_,_=>⟨trivial,h,fun x hx=>by simp at hx,fun _ _ _=>rfl⟩
 | x :: D,c,h,hc,hx=>by
  obtain⟨c1,c2⟩:=List.pairwise_cons.1 hc;obtain⟨hv,ho⟩:=hx x (by simp);obtain⟨t,ht,htl⟩:=ZeT hv;have htc:t<c.length:=(by rw [h.1];exact htl);have hfit:=ZeL h (Zbw hw h) ht htc (ho t ht);have h1:=(Zgc h hv).1;have hst:=fun (u:Nat) k=>ZgG h ht htc hv u k
  obtain⟨i1,i2,i3,i4⟩:=run_all hw D (Zcx s c x) h1 c2 (fun y hy=>⟨(hx y (by simp [hy])).1,fun u hu=>by
   rw [hst u (keyC s y),if_neg]
   · exact(hx y (by simp [hy])).2 u hu
   · rintro⟨e1,e2⟩;have:=c1 y hy;have:cmpC s x y=0:=cmpC_eq.2 ⟨by rw [ht,hu,e1],e2.symm⟩;omega⟩)
  refine⟨⟨⟨hv,by rw [ht,Int.toNat_natCast];exact hfit⟩,i1⟩,i2,fun y hy u hu=>?_,fun u k hk=>?_⟩
  · rcases List.mem_cons.1 hy with rfl | hy
    · have hu':u=t:=(by omega);subst hu';show look s (after s (Zcx s c y) D) u _=_
      rw [i4 u (keyC s y) (fun z hz e=>by
       have:=c1 z hz;have:cmpC s y z=0:=cmpC_eq.2 ⟨by rw [ht,e.1],e.2.symm⟩;omega),hst,if_pos ⟨rfl,rfl⟩]
    · exact i3 y hy u hu
  · show look s (after s (Zcx s c x) D) u k=_;rw [i4 u k (fun z hz=>hk z (by simp [hz])),hst,if_neg];rintro⟨rfl,rfl⟩;exact hk x (by simp) ⟨ht,rfl⟩
theorem ZdZ {st:St} (h:StOk s m st) {t:Nat} (ht:t<st.length) {k r:Row} (hl:look s st t k=r) (hr:0<r.length):r ∈ st.getD t []∧keyF s t r=k:=by
 unfold look at hl;cases hf:ZaG s t k (st.getD t []) with
 | none=>rw [hf] at hl;have e:r=[]:=hl.symm;rw [e] at hr;simp at hr
 | some q =>
  rw [hf] at hl;have e:q=r:=hl;subst e;exact(ZcT (h.2 t ht).2).1 hf
theorem Zea {st:St} (h:StOk s m st) {t:Nat} (ht:t<st.length) {k r:Row} (hl:look s st t k=r) (hr:0<r.length):Zav s t r m=true:=(h.2 t ht).1 r (ZdZ h ht hl hr).1
theorem valid_looks {a b:St} (ha:StOk s m a) (hb:StOk s m b) {t:Nat} (ht:t<a.length) {k:Row} {x:Chg} (h1:x.table=t) (h2:x.old≠x.new) (h3:x.old=look s a t k) (h4:x.new=look s b t k):Zap s m x=true:=by
 have htb:t<b.length:=(by rw [hb.1,←ha.1];exact ht);have hts:t<s.tabs.length:=(by rw [←ha.1];exact ht);unfold Zap hasN;rw [h1];simp only [Bool.and_eq_true,Bool.or_eq_true,decide_eq_true_eq,Bool.not_eq_true',beq_iff_eq];refine⟨⟨⟨⟨⟨by omega,by omega⟩,?_⟩,?_⟩,?_⟩,?_⟩
 · rw [Bool.and_eq_false_iff]
   by_cases h0:x.old.length=0
   · refine .inr (decide_eq_false fun h5=>h2 ?_);rw [List.eq_nil_of_length_eq_zero h0,List.eq_nil_of_length_eq_zero h5]
   · exact .inl (decide_eq_false h0)
 · by_cases h0:x.old.length=0
   · exact .inl h0
   · exact .inr (Zea ha ht h3.symm (by omega))
 · by_cases h0:x.new.length=0
   · exact .inl h0
   · exact .inr (Zea hb htb h4.symm (by omega))
 · by_cases h0:x.old.length=0
   · exact .inl (.inl h0)
   · by_cases h5:x.new.length=0
     · exact .inl (.inr h5)
     · refine .inr ((cmpR_is.zero _ _).2 ?_);rw [(ZdZ ha ht h3.symm (by omega)).2,(ZdZ hb htb h4.symm (by omega)).2]
theorem ZcE (hw:∀ t,t<s.tabs.length→0<(s.tabs.getD t t0).cols.length) {a b:St} (ha:StOk s m a) (hb:StOk s m b) {t:Nat} (ht:t<a.length) {k:Row} {x:Chg} (h1:x.table=t) (h2:x.old≠x.new) (h3:x.old=look s a t k) (h4:x.new=look s b t k):keyC s x=k :=
 (at_key (t:=(t:Int)) (ha.2 t ht).2 (hb.2 t (by rw [hb.1,←ha.1];exact ht)).2 ⟨fun r hr=>Zbw hw ha t r hr,fun r hr=>Zbw hw hb t r hr⟩ h1 h2 h3 h4).1
theorem ZhI (hw:∀ t,t<s.tabs.length→0<(s.tabs.getD t t0).cols.length) {a b:St} (ha:StOk s m a) (hb:StOk s m b):Fit s m a (Zdq s a b)∧after s a (Zdq s a b)=b:=by
 have fa:=Zbw hw ha;have fb:=Zbw hw hb
 obtain⟨h1,h2,h3,h4⟩:=run_all hw (Zdq s a b) a ha (ZcK ha hb fa fb) (fun x hx=>by
  obtain⟨t,ht,e1,e2,k,e3,e4⟩:=(Zdz ha hb x).1 hx;refine⟨valid_looks ha hb ht e1 e2 e3 e4,fun u hu=>?_⟩;have hu':u=t:=(by omega);subst hu';rw [ZcE hw ha hb ht e1 e2 e3 e4,e3])
 refine⟨h1,look_ext h2 hb (Zbw hw h2) fb (fun t ht k=>?_)⟩;rw [ZgX] at ht
 by_cases he:look s a t k=look s b t k
 · rw [h4 t k (fun x hx e=>?_),he];obtain⟨t',ht',e1,e2,k',e3,e4⟩:=(Zdz ha hb x).1 hx;have hk:=ZcE hw ha hb ht' e1 e2 e3 e4;have:t'=t:=(by have:=e.1;omega);subst this;rw [hk] at e;rw [e.2] at e3 e4;exact e2 (by rw [e3,e4,he])
 · have hx:(⟨t,look s a t k,look s b t k⟩:Chg) ∈ Zdq s a b:=(Zdz ha hb _).2 ⟨t,ht,rfl,he,k,rfl,rfl⟩;have hk:=ZcE hw ha hb ht (x:=⟨t,look s a t k,look s b t k⟩) rfl he rfl rfl;have:=h3 _ hx t rfl;rw [hk] at this;exact this
structure NetI (s:Sch) (st cur:St) (G:List (Chg × Chg)):Prop where
 srt:G.Pairwise (fun p q=>cmpC s p.1 q.1<0)
 at_:∀ p ∈ G,∃ t:Nat,p.1.table=t∧t<st.length∧look s st t (keyC s p.1)=p.1.old∧look s cur t (keyC s p.1)=p.2.new
 off:∀ (t:Nat) k,(∀ p ∈ G,¬ (p.1.table=t∧keyC s p.1=k))→look s cur t k=look s st t k
theorem Zgr (x:Chg):∀ {G:List (Chg × Chg)},G.Pairwise (fun p q=>cmpC s p.1 q.1<0)→∃ A B,G=A++B∧(∀ p ∈ A,cmpC s p.1 x<0)∧((∀ p ∈ B,0<cmpC s p.1 x)∨∃ p B',B=p :: B'∧cmpC s p.1 x=0∧∀ q ∈ B',0<cmpC s q.1 x)
 | [],_=>⟨[],[],rfl,fun p hp=>by simp at hp,.inl fun p hp=>by simp at hp⟩
 | p :: G,h=>by
  obtain⟨h1,h2⟩:=List.pairwise_cons.1 h
  by_cases hlt:cmpC s p.1 x<0
  · obtain⟨A,B,rfl,hA,hB⟩:=Zgr x h2;refine⟨p :: A,B,rfl,fun q hq=>?_,hB⟩;rcases List.mem_cons.1 hq with rfl | hq
    · exact hlt
    · exact hA q hq
  · have hb:∀ q ∈ G,0<cmpC s q.1 x:=fun q hq=>by
      have h3:cmpC s x p.1≤0:=by
       rcases Int.lt_or_eq_of_le (show 0≤cmpC s p.1 x by omega) with h4 | h4
       · exact Int.le_of_lt ((ZaZ x p.1).2 h4)
       · exact Int.le_of_eq (ZcU h4.symm)
      exact(ZaZ x q.1).1 (Zdb h3 (h1 q hq))
    refine⟨[],p :: G,rfl,fun q hq=>by simp at hq,?_⟩
    by_cases h0:cmpC s p.1 x=0
    · exact .inr ⟨p,G,rfl,h0,hb⟩
    · refine .inl fun q hq=>?_;rcases List.mem_cons.1 hq with rfl | hq
      · omega
      · exact hb q hq
theorem netI_step {st cur:St} {G:List (Chg × Chg)} {x:Chg} (h:NetI s st cur G) (hl:st.length=cur.length) (hc:StOk s m cur) (hv:Zap s m x=true) (hf:ZeS s x (cur.getD x.table.toNat [])=true) :
  ∃ G',Zge x.table (keyC s x) x (G.map (entG s))=some (G'.map (entG s))∧NetI s st (Zcx s cur x) G':=by
 obtain⟨t,ht,htl⟩:=ZeT hv;have htc:t<cur.length:=(by rw [hc.1];exact htl);rw [show x.table.toNat=t by omega] at hf;have hold:=look_old hc ht htc hf;have hst:=fun (u:Nat) k=>ZgG hc ht htc hv u k;obtain⟨A,B,rfl,hA,hB⟩:=Zgr x h.srt;obtain⟨s1,s2,s3⟩:=List.pairwise_append.1 h.srt;rcases hB with hB | ⟨p,B',rfl,hp,hB⟩
 · refine⟨A++(x,x) :: B,Zgv hA hB,?_,?_,?_⟩
   · refine List.pairwise_append.2 ⟨s1,List.pairwise_cons.2 ⟨fun q hq=>(ZaZ x q.1).2 (hB q hq),s2⟩,fun p hp q hq=>?_⟩;rcases List.mem_cons.1 hq with rfl | hq
     · exact hA p hp
     · exact s3 p hp q hq
   · intro p hp
     have hne:∀ p ∈ A++B,¬ (p.1.table=x.table∧keyC s p.1=keyC s x):=fun p hp e=>by
      have h0:cmpC s p.1 x=0:=cmpC_eq.2 e;rcases List.mem_append.1 hp with hp | hp
      · have:=hA p hp;omega
      · have:=hB p hp;omega
     by_cases hpx:p ∈ A++B
     · obtain⟨u,e1,e2,e3,e4⟩:=h.at_ p hpx;refine⟨u,e1,e2,e3,?_⟩;rw [hst,if_neg,e4];rintro⟨rfl,e⟩;exact hne p hpx ⟨by rw [e1,ht],e⟩
     · have hpe:p=(x,x):=by
         rcases List.mem_append.1 hp with hp | hp
         · exact absurd (List.mem_append_left _ hp) hpx
         · rcases List.mem_cons.1 hp with hp | hp
           · exact hp
           · exact absurd (List.mem_append_right _ hp) hpx
       subst hpe;refine⟨t,ht,by rw [hl];exact htc,?_,?_⟩
       · rw [←h.off t (keyC s x) (fun p hp e=>hne p hp ⟨by rw [e.1,ht],e.2⟩),hold]
       · rw [hst,if_pos ⟨rfl,rfl⟩]
   · intro u k hk
     have hk':∀ p ∈ A++B,¬ (p.1.table=(u:Int)∧keyC s p.1=k):=fun p hp=>hk p (by
      rcases List.mem_append.1 hp with hp | hp
      · exact List.mem_append_left _ hp
      · exact List.mem_append_right _ (List.mem_cons_of_mem _ hp))
     rw [hst,if_neg,h.off u k hk'];rintro⟨rfl,rfl⟩;exact hk (x,x) (by simp) ⟨ht,rfl⟩
 · obtain⟨et,ek⟩:=cmpC_eq.1 hp;obtain⟨u,e1,e2,e3,e4⟩:=h.at_ p (by simp);have hu:u=t:=(by omega);subst hu;have hcmp:cmpR p.2.new x.old=0:=(by rw [←e4,ek,hold];exact cmpR_is.self _);refine⟨A++(p.1,x) :: B',by rw [Zgu hA hp,if_pos hcmp],?_,?_,?_⟩
   · refine List.pairwise_append.2 ⟨s1,List.pairwise_cons.2 ⟨fun q hq=>(List.pairwise_cons.1 s2).1 q hq,(List.pairwise_cons.1 s2).2⟩,fun a ha q hq=>?_⟩;rcases List.mem_cons.1 hq with rfl | hq
     · exact s3 a ha p (by simp)
     · exact s3 a ha q (by simp [hq])
   · intro q hq
     by_cases hqe:q=(p.1,x)
     · subst hqe;refine⟨u,e1,e2,e3,?_⟩;show look s (Zcx s cur x) u (keyC s p.1)=x.new;rw [hst,if_pos ⟨rfl,ek⟩]
     · have hq':q ∈ A∨q ∈ B':=by
         rcases List.mem_append.1 hq with hq | hq
         · exact .inl hq
         · rcases List.mem_cons.1 hq with hq | hq
           · exact absurd hq hqe
           · exact .inr hq
       have hqn:¬ cmpC s q.1 x=0:=by
        rcases hq' with hq' | hq'
        · have:=hA q hq';omega
        · have:=hB q hq';omega
       obtain⟨v,f1,f2,f3,f4⟩:=h.at_ q (by rcases hq' with hq' | hq'<;>simp [hq']);refine⟨v,f1,f2,f3,?_⟩;rw [hst,if_neg,f4];rintro⟨rfl,e⟩;exact hqn (cmpC_eq.2 ⟨by rw [f1,ht],e⟩)
   · intro v k hk
     have hpk:∀ q ∈ A++p :: B',¬ (q.1.table=(v:Int)∧keyC s q.1=k):=fun q hq=>by
      rcases List.mem_append.1 hq with hq | hq
      · exact hk q (List.mem_append_left _ hq)
      · rcases List.mem_cons.1 hq with rfl | hq
        · exact hk (q.1,x) (by simp)
        · exact hk q (by simp [hq])
     rw [hst,if_neg,h.off v k hpk];rintro⟨rfl,rfl⟩;exact hk (p.1,x) (by simp) ⟨e1,ek⟩
theorem net_go:∀ (l:List Chg) (st cur:St) (G:List (Chg × Chg)),NetI s st cur G→st.length=cur.length→StOk s m cur→Fit s m cur l→∃ G',Zdh s m (G.map (entG s)) l=(0,G'.map (entG s))∧NetI s st (after s cur l) G'
 | [],st,cur,G,h,_,_,_=>⟨G,rfl,h⟩
 | x :: l,st,cur,G,h,hl,hc,hf=>by
  obtain⟨⟨hv,hfc⟩,hr⟩:=hf;obtain⟨G1,h1,h2⟩:=netI_step h hl hc hv hfc;obtain⟨G2,h3,h4⟩:=net_go l st (Zcx s cur x) G1 h2 (by rw [Zhn];exact hl) (Zgc hc hv).1 hr;refine⟨G2,?_,h4⟩;rw [Zdh,hv,h1];simp only [Bool.true_eq_false,if_false];exact h3
theorem net_outs (hw:∀ t,t<s.tabs.length→0<(s.tabs.getD t t0).cols.length) {st cur:St} (hs:StOk s m st) (hc:StOk s m cur) {G:List (Chg × Chg)} (h:NetI s st cur G):outs G=Zdq s st cur:=by
 have hlk:∀ p ∈ G,p.1.old≠p.2.new→∃ t:Nat,p.1.table=t∧t<st.length∧look s st t (keyC s p.1)=p.1.old∧look s cur t (keyC s p.1)=p.2.new∧keyC s ⟨p.1.table,p.1.old,p.2.new⟩=keyC s p.1:=fun p hp hn=>by
  obtain⟨t,e1,e2,e3,e4⟩:=h.at_ p hp;exact⟨t,e1,e2,e3,e4,ZcE hw hs hc e2 (x:=⟨p.1.table,p.1.old,p.2.new⟩) e1 hn e3.symm e4.symm⟩
 have hout:∀ (p:Chg × Chg) (y:Chg),y ∈ ZaP p.1 p.2↔p.1.old≠p.2.new∧y=(⟨p.1.table,p.1.old,p.2.new⟩:Chg):=fun p y=>by
  unfold ZaP
  by_cases e:p.1.old=p.2.new
  · rw [if_pos ((cmpR_is.zero _ _).2 e)];simp [e]
  · rw [if_neg (fun h=>e ((cmpR_is.zero _ _).1 h))];simp [e]
 have hm:∀ y,y ∈ outs G↔∃ p ∈ G,p.1.old≠p.2.new∧y=(⟨p.1.table,p.1.old,p.2.new⟩:Chg):=fun y=>by
  unfold outs;rw [List.mem_flatMap];exact⟨fun ⟨p,hp,hy⟩=>⟨p,hp,(hout p y).1 hy⟩,fun ⟨p,hp,hy⟩=>⟨p,hp,(hout p y).2 hy⟩⟩
 refine ZgW (s:=s) ?_ (ZcK hs hc (Zbw hw hs) (Zbw hw hc)) (fun y=>?_)
 · have:∀ G:List (Chg × Chg),G.Pairwise (fun p q=>cmpC s p.1 q.1<0)→(∀ p ∈ G,p.1.old≠p.2.new→keyC s ⟨p.1.table,p.1.old,p.2.new⟩=keyC s p.1)→ZfE s (outs G):=by
     intro G;induction G with
     | nil=>intro _ _;exact List.Pairwise.nil
     | cons p G ih =>
      intro h1 h2;obtain⟨h3,h4⟩:=List.pairwise_cons.1 h1;have ih':=ih h4 (fun q hq=>h2 q (by simp [hq]));show ZfE s (ZaP p.1 p.2++outs G);refine List.pairwise_append.2 ⟨?_,ih',fun a ha b hb=>?_⟩
      · unfold ZaP;split<;>simp
      · obtain⟨ha1,rfl⟩:=(hout p a).1 ha;unfold outs at hb;obtain⟨q,hq,hb⟩:=List.mem_flatMap.1 hb;obtain⟨hb1,rfl⟩:=(hout q b).1 hb;have h5:=h3 q hq;unfold cmpC at h5 ⊢;rw [h2 p (by simp) ha1,h2 q (by simp [hq]) hb1];exact h5
   exact this G h.srt (fun p hp hn=>by obtain⟨t,_,_,_,_,e⟩:=hlk p hp hn;exact e)
 · rw [hm,Zdz hs hc];constructor
   · rintro⟨p,hp,hn,rfl⟩;obtain⟨t,e1,e2,e3,e4,_⟩:=hlk p hp hn;exact⟨t,e2,e1,hn,keyC s p.1,e3.symm,e4.symm⟩
   · rintro⟨t,ht,e1,e2,k,e3,e4⟩
     by_cases hex:∃ p ∈ G,p.1.table=(t:Int)∧keyC s p.1=k
     · obtain⟨p,hp,h1,h2⟩:=hex;obtain⟨u,f1,f2,f3,f4⟩:=h.at_ p hp;have hu:u=t:=(by omega);subst hu;rw [h2] at f3 f4;have g1:y.old=p.1.old:=(by rw [e3,f3]);have g2:y.new=p.2.new:=(by rw [e4,f4]);refine⟨p,hp,by rw [←g1,←g2];exact e2,?_⟩;obtain⟨yt,yo,yn⟩:=y;dsimp only at e1 g1 g2;rw [e1,g1,g2,f1]
     · have:=h.off t k (fun p hp e=>hex ⟨p,hp,e⟩);exact absurd (by rw [e3,e4,this]) e2
theorem Zhy (hw:∀ t,t<s.tabs.length→0<(s.tabs.getD t t0).cols.length) (hm:ZcD m=true) {st:St} (hs:StOk s m st) {l:List Chg} (hf:Fit s m st l):netF 0 s m l=(0,Zdq s st (after s st l)):=by
 obtain⟨G,h1,h2⟩:=net_go l st st [] ⟨List.Pairwise.nil,fun p hp=>by simp at hp,fun _ _ _=>rfl⟩ rfl hs hf;have hm0:¬ Zcl 0 m≠0:=(by simp [Zcl,hm]);rw [←rnetF_eq];unfold rnetF;have h1':Zdh s m [] l=(0,G.map (entG s)):=h1;rw [if_neg hm0,h1',if_neg (by simp),Zhr,net_outs hw hs (ZhH hs hf).1 h2]
end
theorem ZbM {α:Type} {l:List α} {d:α} {k:Nat} (h:k<l.length):l.getD k d=l[k]:=by simp [List.getD,h]
def TabG (tb:Tab):Prop:=1≤tb.cols.length∧tb.cols.length≤4∧1≤tb.key∧tb.key≤tb.cols.length∧∀ c ∈ tb.cols,c.kind=3∨c.kind=4∨c.kind=5
theorem gen_tabs {id:Int} (hid:id=4∨id=5) (r1 r2 r3:List Rfr) (chk:List Pred):∀ tb ∈ Zas id r1 r2 r3 chk,TabG tb:=by
 intro tb h;simp only [Zas,List.mem_cons,List.not_mem_nil,or_false] at h;rcases h with rfl | rfl | rfl | rfl
 · refine⟨by decide,by decide,by decide,by decide,fun c hc=>?_⟩;simp only [ZeK,List.mem_cons,List.not_mem_nil,or_false] at hc;rcases hc with rfl | rfl<;>simp
 · refine⟨by simp [ZcG],by simp [ZcG],by simp,by simp [ZcG],fun c hc=>?_⟩;simp only [ZcG,List.mem_cons,List.not_mem_nil,or_false] at hc;rcases hc with rfl | rfl | rfl | rfl
   · rcases hid with h | h<;>simp [h]
   all_goals simp
 · refine⟨by simp [Zdo],by simp [Zdo],by simp,by simp [Zdo],fun c hc=>?_⟩;simp only [Zdo,List.mem_cons,List.not_mem_nil,or_false] at hc;rcases hc with rfl | rfl<;>simp
 · refine⟨by simp [ZcZ],by simp [ZcZ],by simp,by simp [ZcZ],fun c hc=>?_⟩;simp only [ZcZ,List.mem_cons,List.not_mem_nil,or_false] at hc;rcases hc with rfl;rcases hid with h | h<;>simp [h]
theorem GenS.len {s:Sch} (h:GenS s):2≤s.tabs.length∧s.tabs.length≤4:=by
 obtain⟨n,v,id,b1,b2,b3,chk,rfl,h2,h4,_⟩:=h;have:(Zas id (rf0 b1 1 0) (rf0 b2 0 0) (rf0 b3 0 1) chk).length=4:=rfl;show 2≤(List.take n _).length∧(List.take n _).length≤4;rw [List.length_take];omega
theorem GenS.tab {s:Sch} (h:GenS s) {t:Nat} (ht:t<s.tabs.length):TabG (s.tabs.getD t t0):=by
 obtain⟨n,v,id,b1,b2,b3,chk,rfl,h2,h4,_,_,hid,_⟩:=h;have e:(Sch.tabs ⟨v,(Zas id (rf0 b1 1 0) (rf0 b2 0 0) (rf0 b3 0 1) chk).take n⟩).getD t t0=(List.take n (Zas id (rf0 b1 1 0) (rf0 b2 0 0) (rf0 b3 0 1) chk))[t]'ht:=ZbM ht;rw [e];exact gen_tabs hid _ _ _ _ _ (List.mem_of_mem_take (List.getElem_mem ht))
theorem GenS.wide {s:Sch} (h:GenS s):∀ t,t<s.tabs.length→0<(s.tabs.getD t t0).cols.length:=fun t ht=>(h.tab ht).1
theorem GenS.kinds {s:Sch} (h:GenS s) {t:Nat} (ht:t<s.tabs.length):ZaJ s t=(s.tabs.getD t t0).cols.map (·.kind)∧(ZaJ s t).length≤4:=by
 have e:ZaJ s t=(s.tabs.getD t t0).cols.map (·.kind):=by
  unfold ZaJ hasN;rw [if_pos (by simp;omega),Int.toNat_natCast]
 rw [e,List.length_map];exact⟨rfl,(h.tab ht).2.1⟩
theorem ZdN {m key:Int}:∀ {cs:List Col} {r:Row} {i:Nat},r.length=cs.length→(∀ j,j<cs.length→Zau m key (cs.getD j c0).kind (i+j) (r.getD j v0)=true)→ZaF m key i cs r=true
 | [],r,i,_,_=>by cases r<;>simp [ZaF]
 | c :: cs,[],i,h,_=>by simp at h
 | c :: cs,v :: r,i,h,hf=>by
  have h0:=hf 0 (by simp)
  have ih:=ZdN (m:=m) (key:=key) (cs:=cs) (r:=r) (i:=i+1) (by simpa using h) (fun j hj=>by
   have:=hf (j+1) (by simpa using hj);rw [show i+(j+1)=i+1+j by omega] at this;simpa using this)
  simp only [ZaF,Bool.and_eq_true];exact⟨by simpa using h0,ih⟩
theorem Zfi {s:Sch} {m:Int} (h:GenS s) (hm:ZcD m=true) {t:Nat} (ht:t<s.tabs.length) {r:Row} (hr:ZgY (s.tabs.getD t t0).key m (ZaJ s t) r):Zav s t r m=true:=by
 obtain⟨h1,h2⟩:=hr;obtain⟨h3,_⟩:=h.kinds ht;have hk:=(h.tab ht).2.2.2.2;rw [h3] at h1 h2;rw [List.length_map] at h1 h2;unfold Zav hasN;rw [Int.toNat_natCast];simp only [Bool.and_eq_true,decide_eq_true_eq];refine⟨⟨⟨hm,by omega,by omega⟩,h1⟩,ZdN h1 (fun j hj=>?_)⟩;have h4:=h2 j hj;have e1:((s.tabs.getD t t0).cols.map (·.kind)).getD j 0=((s.tabs.getD t t0).cols.getD j c0).kind:=(by rw [ZbM hj,ZbM (by simpa using hj),List.getElem_map])
 have e2:Zdm ((s.tabs.getD t t0).cols.getD j c0).kind=((s.tabs.getD t t0).cols.getD j c0).kind:=by
  have hmem:(s.tabs.getD t t0).cols.getD j c0 ∈ (s.tabs.getD t t0).cols:=by
   rw [ZbM hj];exact List.getElem_mem hj
  rcases hk _ hmem with e | e | e<;>rw [e]<;>rfl
 rw [e1,e2] at h4;rw [Nat.zero_add];exact h4
theorem put_ok {s:Sch} {m:Int} {st:St} (h:StOk s m st) {t:Nat} (ht:t<st.length) {key row:Row} (hk:0<row.length→keyF s t row=key) (hf:0<row.length→Zav s t row m=true):StOk s m (st.set t (putR s t key row (st.getD t [])))∧putR s t key row (st.getD t [])=putL s t key row (st.getD t []):=by
 have hr:=h.2 t ht;have e:=putR_eq hr.2 key row;rw [e];exact⟨h.set (ZfJ hr hk hf),rfl⟩
theorem putL_len (s:Sch) (t:Int) (row:Row) (l:List Row):(putL s t (keyF s t row) row l).length≤l.length+1:=by
 have:=put_len s ⟨t,[],row⟩ l;have e:putC s ⟨t,[],row⟩ l=putL s t (keyF s t row) row l:=(by rw [putC_eq];simp [keyC]);rwa [e] at this
theorem stOk_nil {s:Sch} {m:Int} (n:Nat) (h:n=s.tabs.length):StOk s m (List.replicate n []):=by
 refine⟨by simpa using h,fun t ht=>?_⟩
 have e:(List.replicate n ([]:List Row)).getD t []=[]:=by
  have:t<n:=(by simpa using ht);simp [List.getD,this]
 rw [e];exact⟨fun r hr=>by simp at hr,fun i j _ hj=>by simp at hj⟩
end Go.Proofs.YtkpjjfhfbpfjpaaGreat
