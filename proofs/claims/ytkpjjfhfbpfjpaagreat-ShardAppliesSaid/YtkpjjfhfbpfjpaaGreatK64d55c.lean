import Derived.Test.YtkpjjfhfbpfjpaaGreatK42e91f
set_option linter.unusedVariables false
set_option linter.unusedSimpArgs false
set_option maxRecDepth 100000
set_option maxHeartbeats 8000000
namespace Go.Proofs.YtkpjjfhfbpfjpaaGreat
section
variable {α:Type} (f:α→α→Int)
def ZcU (x:α):List α→List α
 | []=>[x]
 | y :: r=>if f x y<0 then y :: ZcU x r else x :: y :: r
def ins (x:α) (p:List α):List α:=(ZcU f x p.reverse).reverse
def ZbA (l:List α):List α:=l.foldl (fun p x=>ins f x p) []
theorem Zga (x:α):∀ (r s:List α),(∀ y ∈ r,f x y<0)→ZcU f x (r++s)=r++ZcU f x s
 | [],s,_=>rfl
 | y :: r,s,h=>by
  rw [List.cons_append,ZcU,if_pos (h y (by simp)),Zga x r s (fun z hz=>h z (by simp [hz]))];rfl
theorem ins_at (x:α) (p q:List α) (hq:∀ y ∈ q,f x y<0) (hp:∀ y,p.getLast?=some y→0≤f x y):ins f x (p++q)=p++x :: q:=by
 unfold ins;rw [List.reverse_append,Zga f x _ _ (fun y hy=>hq y (by simpa using hy))]
 have:ZcU f x p.reverse=x :: p.reverse:=by
  cases hr:p.reverse with
  | nil=>rfl
  | cons y r =>
   have h1:p.getLast?=some y:=(by rw [List.getLast?_eq_head?_reverse,hr];rfl);have:=hp y h1;rw [ZcU,if_neg (by omega)]
 rw [this];simp
theorem ZfZ (x:α):∀ r:List α,(ZcU f x r).length=r.length+1
 | []=>rfl
 | y :: r=>by unfold ZcU;split<;>simp [ZfZ x r]
theorem ins_len (x:α) (p:List α):(ins f x p).length=p.length+1:=by simp [ins,ZfZ]
theorem isort_snoc (l:List α) (x:α):ZbA f (l++[x])=ins f x (ZbA f l):=by simp [ZbA]
theorem ZdV (l:List α):(ZbA f l).length=l.length:=by
 have key:∀ (l p:List α),(l.foldl (fun p x=>ins f x p) p).length=p.length+l.length:=by
  intro l;induction l with
  | nil=>intro p;simp
  | cons x l ih=>intro p;rw [List.foldl_cons,ih,ins_len,List.length_cons];omega
 simpa [ZbA] using key l []
theorem ZfY (x:α):∀ (r:List α) (y:α),y ∈ ZcU f x r↔y=x∨y ∈ r
 | [],y=>by simp [ZcU]
 | z :: r,y=>by
  unfold ZcU;split
  · simp only [List.mem_cons,ZfY x r y];constructor
    · rintro(h | h | h)
      · exact .inr (.inl h)
      · exact .inl h
      · exact .inr (.inr h)
    · rintro(h | h | h)
      · exact .inr (.inl h)
      · exact .inl h
      · exact .inr (.inr h)
  · simp
theorem ins_mem (x:α) (p:List α) (y:α):y ∈ ins f x p↔y=x∨y ∈ p:=by simp [ins,ZfY]
theorem isort_mem (l:List α) (y:α):y ∈ ZbA f l↔y ∈ l:=by
 have key:∀ (l p:List α),y ∈ l.foldl (fun p x=>ins f x p) p↔y ∈ p∨y ∈ l:=by
  intro l;induction l with
  | nil=>intro p;simp
  | cons x l ih =>
   intro p;rw [List.foldl_cons,ih,ins_mem,List.mem_cons];constructor
   · rintro((h | h) | h)
     · exact .inr (.inl h)
     · exact .inl h
     · exact .inr (.inr h)
   · rintro(h | h | h)
     · exact .inl (.inr h)
     · exact .inl (.inl h)
     · exact .inr h
 simpa [ZbA] using key l []
end
def Zbh (s:Sch) (m:Int):List Chg→Nat
 | []=>0
 | c :: l=>if Zap s m c then Zbh s m l+1 else 0
theorem Zgu (s:Sch) (m:Int):∀ l:List Chg,Zbh s m l≤l.length
 | []=>Nat.le_refl _
 | c :: l=>by unfold Zbh;have:=Zgu s m l;split<;>simp<;>omega
theorem ZdH (s:Sch) (m:Int):∀ (l:List Chg) (k:Nat),k<Zbh s m l→Zap s m (l.getD k chg0)=true
 | [],k,h=>by simp [Zbh] at h
 | c :: l,k,h=>by
  unfold Zbh at h;split at h
  · rename_i hc
    cases k with
    | zero=>exact hc
    | succ k=>exact ZdH s m l k (by omega)
  · omega
theorem Zgb (s:Sch) (m:Int):∀ (l:List Chg),Zbh s m l<l.length→Zap s m (l.getD (Zbh s m l) chg0)=false
 | [],h=>by simp at h
 | c :: l,h=>by
  by_cases hc:Zap s m c=true
  · have e:Zbh s m (c :: l)=Zbh s m l+1:=(by rw [Zbh,if_pos hc]);rw [e] at h ⊢;exact Zgb s m l (by simpa using h)
  · have e:Zbh s m (c :: l)=0:=(by rw [Zbh,if_neg hc]);rw [e];simpa using hc
def badI (s:Sch) (m:Int) (l:List Chg):Int:=if Zbh s m l<l.length then Zbh s m l else -1
def cmpC (s:Sch) (a b:Chg):Int:=if a.table≠b.table then a.table - b.table else cmpR (keyC s a) (keyC s b)
def ZcZ (s:Sch) (a b:Chg):Bool:=(a.table == b.table)&&(cmpR (keyC s a) (keyC s b) == 0)
def ZaT (f la:Chg):List Chg:=if cmpR f.old la.new=0 then [] else [⟨f.table,f.old,la.new⟩]
def Zar (s:Sch):Option (Chg × Chg)→List Chg→Option (List Chg)
 | none,[]=>some []
 | none,x :: r=>Zar s (some (x,x)) r
 | some (f,la),[]=>some (ZaT f la)
 | some (f,la),x :: r=>if ZcZ s f x then (if cmpR la.new x.old=0 then Zar s (some (f,x)) r else none) else (Zar s (some (x,x)) r).map (ZaT f la++·)
def netF (e:Int) (s:Sch) (m:Int) (l:List Chg):Int × List Chg :=
 if Zck e m≠0 then (Zck e m,[]) else match Zar s none (ZbA (cmpC s) (l.take (Zbh s m l))) with
  | none=>(81,[])
  | some o=>if Zbh s m l<l.length then (71,[]) else (0,o)
theorem ZgS (s:Sch) {l:List Chg} {k:Nat} (h:k<l.length):Zar s none (l.drop k)=Zar s (some (l.getD k chg0,l.getD k chg0)) (l.drop (k+1)):=by
 have e:l.getD k chg0=l[k]:=(by simp [List.getD,h]);rw [List.drop_eq_getElem_cons h,Zar,e]
theorem ZhG (s:Sch) (f la:Chg) {l:List Chg} {k:Nat} (h:k<l.length):Zar s (some (f,la)) (l.drop k)=if ZcZ s f (l.getD k chg0) then (if cmpR la.new (l.getD k chg0).old=0 then Zar s (some (f,l.getD k chg0)) (l.drop (k+1)) else none) else (Zar s none (l.drop k)).map (ZaT f la++·):=by
 have e:l.getD k chg0=l[k]:=(by simp [List.getD,h]);rw [List.drop_eq_getElem_cons h,Zar,e,Zar]
theorem net_end (s:Sch) (f la:Chg) {l:List Chg} {k:Nat} (h:l.length≤k):Zar s (some (f,la)) (l.drop k)=(Zar s none (l.drop k)).map (ZaT f la++·):=by
 rw [List.drop_eq_nil_of_le h,Zar,Zar];simp
theorem ZcL (o p:List Chg) (x:Option (List Chg)):(x.map (p++·)).map (o++·)=x.map ((o++p)++·):=by cases x<;>simp
theorem netF_bad {e:Int} {s:Sch} {m:Int} {l:List Chg} (h:Zck e m≠0):netF e s m l=(Zck e m,[]):=by unfold netF;rw [if_pos h]
theorem netF_conflict {e:Int} {s:Sch} {m:Int} {l:List Chg} (h:Zck e m=0) (h2:Zar s none (ZbA (cmpC s) (l.take (Zbh s m l)))=none):netF e s m l=(81,[]):=by unfold netF;rw [if_neg (by omega),h2]
theorem netF_row {e:Int} {s:Sch} {m:Int} {l o:List Chg} (h:Zck e m=0) (h2:Zar s none (ZbA (cmpC s) (l.take (Zbh s m l)))=some o) (h3:Zbh s m l<l.length):netF e s m l=(71,[]):=by
 unfold netF;rw [if_neg (by omega),h2];simp [h3]
theorem netF_ok {e:Int} {s:Sch} {m:Int} {l o:List Chg} (h:Zck e m=0) (h2:Zar s none (ZbA (cmpC s) (l.take (Zbh s m l)))=some o) (h3:¬ Zbh s m l<l.length):netF e s m l=(0,o):=by
 unfold netF;rw [if_neg (by omega),h2];simp [h3]
section
variable {s:Sch}
def gGo (s:Sch):Option (Chg × Chg)→List Chg→Option (List (Chg × Chg))
 | none,[]=>some []
 | none,x :: r=>gGo s (some (x,x)) r
 | some (f,la),[]=>some [(f,la)]
 | some (f,la),x :: r=>if ZcZ s f x then (if cmpR la.new x.old=0 then gGo s (some (f,x)) r else none) else (gGo s (some (x,x)) r).map ((f,la) :: ·)
def outs (G:List (Chg × Chg)):List Chg:=G.flatMap fun p=>ZaT p.1 p.2
theorem ZeR (s:Sch):∀ (l:List Chg) (o:Option (Chg × Chg)),Zar s o l=(gGo s o l).map outs
 | [],none=>rfl
 | [],some (f,la)=>by simp [Zar,gGo,outs]
 | x :: r,none=>by
  have h1:Zar s none (x :: r)=Zar s (some (x,x)) r:=(by rw [Zar]);have h2:gGo s none (x :: r)=gGo s (some (x,x)) r:=(by rw [gGo]);rw [h1,h2];exact ZeR s r _
 | x :: r,some (f,la)=>by
  rw [Zar,gGo];split
  · split
    · exact ZeR s r _
    · rfl
  · rw [ZeR s r _];cases gGo s (some (x,x)) r<;>simp [outs]
theorem cmpC_same {a b:Chg}:ZcZ s a b=true↔cmpC s a b=0:=by
 unfold ZcZ cmpC
 by_cases h:a.table=b.table
 · simp [h]
 · have:¬ a.table - b.table=0:=(by omega);simp [h,this]
theorem Zba (a b:Chg):cmpC s a b<0↔0<cmpC s b a:=by
 unfold cmpC
 by_cases h:a.table=b.table
 · have:=cmpR_is.flip (keyC s a) (keyC s b);simp [h];omega
 · have h':¬ b.table=a.table:=fun e=>h e.symm;simp [h,h'];omega
theorem ZcR {a b:Chg} (h:cmpC s a b=0):cmpC s b a=0:=by
 have h1:=Zba (s:=s) a b;have h2:=Zba (s:=s) b a;omega
theorem ZbZ {a b c:Chg} (h1:cmpC s a b≤0) (h2:cmpC s b c≤0):cmpC s a c≤0:=by
 unfold cmpC at *
 by_cases x:a.table=b.table
 · by_cases y:b.table=c.table
   · have z:a.table=c.table:=x.trans y;simp only [x,y,z,ne_eq,not_true,if_false] at *;exact cmpR_is.trans _ _ _ h1 h2
   · have z:¬ a.table=c.table:=fun e=>y (x ▸ e);simp only [ne_eq,y,z,not_false_eq_true,if_true] at *;omega
 · simp only [ne_eq,x,not_false_eq_true,if_true] at h1
   by_cases y:b.table=c.table
   · have z:¬ a.table=c.table:=(by omega);simp only [ne_eq,z,not_false_eq_true,if_true];omega
   · simp only [ne_eq,y,not_false_eq_true,if_true] at h2;have z:¬ a.table=c.table:=(by omega);simp only [ne_eq,z,not_false_eq_true,if_true];omega
theorem ZcX {a b c:Chg} (h1:cmpC s a b≤0) (h2:cmpC s b c<0):cmpC s a c<0:=by
 have h3:=ZbZ h1 (Int.le_of_lt h2);rcases Int.lt_or_eq_of_le h3 with h | h
 · exact h
 · have h4:=ZcR h;have h5:=ZbZ (Int.le_of_eq h4) h1;have h6:=(Zba (s:=s) b c).1 h2;omega
theorem Zbt {a b c:Chg} (h1:cmpC s a b<0) (h2:cmpC s b c≤0):cmpC s a c<0:=by
 have h3:=ZbZ (Int.le_of_lt h1) h2;rcases Int.lt_or_eq_of_le h3 with h | h
 · exact h
 · have h4:=ZcR h;have h5:=ZbZ h2 (Int.le_of_eq h4);have h6:=(Zba (s:=s) a b).1 h1;omega
theorem Zfm {Q:List Chg}:∀ {P:List Chg} {o:Option (Chg × Chg)},(∀ q r,Q=q :: r→(∀ p ∈ P,cmpC s p q<0)∧∀ f la,o=some (f,la)→cmpC s f q<0)→gGo s o (P++Q)=(gGo s o P).bind fun a=>(gGo s none Q).map (a++·)
 | [],none,_=>by simp [gGo]
 | [],some (f,la),h=>by
  cases Q with
  | nil=>simp [gGo]
  | cons q r =>
   have h1:=(h q r rfl).2 f la rfl;have h2:¬ ZcZ s f q=true:=(fun e=>by rw [cmpC_same] at e;omega);have h4:gGo s (some (f,la)) (q :: r)=(gGo s (some (q,q)) r).map ((f,la) :: ·):=(by rw [gGo,if_neg h2]);have h3:gGo s none (q :: r)=gGo s (some (q,q)) r:=(by rw [gGo]);have h5:gGo s (some (f,la)) []=some [(f,la)]:=(by rw [gGo]);rw [List.nil_append,h4,h3,h5];simp
 | x :: P,none,h=>by
  have h1:gGo s none (x :: (P++Q))=gGo s (some (x,x)) (P++Q):=(by rw [gGo]);have h2:gGo s none (x :: P)=gGo s (some (x,x)) P:=(by rw [gGo]);rw [List.cons_append,h1,h2];exact Zfm (fun q r e=>⟨fun p hp=>(h q r e).1 p (by simp [hp]),fun f la e'=>by injection e' with e';injection e' with e1 e2;rw [←e1];exact(h q r e).1 x (by simp)⟩)
 | x :: P,some (f,la),h=>by
  rw [List.cons_append,gGo,gGo];split
  · split
    · exact Zfm (fun q r e=>⟨fun p hp=>(h q r e).1 p (by simp [hp]),fun f' la' e'=>by injection e' with e';injection e' with e1 e2;rw [←e1];exact(h q r e).2 f la rfl⟩)
    · simp
  · have ih:=Zfm (P:=P) (o:=some (x,x)) (Q:=Q) (fun q r e=>⟨fun p hp=>(h q r e).1 p (by simp [hp]),fun f' la' e'=>by injection e' with e';injection e' with e1 e2;rw [←e1];exact(h q r e).1 x (by simp)⟩);rw [ih];cases gGo s (some (x,x)) P with
    | none=>simp
    | some a=>cases gGo s none Q<;>simp
def ZdI (s:Sch) (x:Chg):List (Chg × Chg)→Option (List (Chg × Chg))
 | []=>some [(x,x)]
 | [p]=>if ZcZ s p.1 x then (if cmpR p.2.new x.old=0 then some [(p.1,x)] else none) else some [p,(x,x)]
 | p :: q :: r=>(ZdI s x (q :: r)).map (p :: ·)
theorem gGo_ne:∀ {P:List Chg} {f la:Chg} {G:List (Chg × Chg)},gGo s (some (f,la)) P=some G→∃ p r,G=p :: r
 | [],f,la,G,h=>by rw [gGo] at h;injection h with h;exact⟨_,_,h.symm⟩
 | x :: P,f,la,G,h=>by
  rw [gGo] at h;split at h
  · split at h
    · exact gGo_ne h
    · cases h
  · cases hg:gGo s (some (x,x)) P with
    | none=>rw [hg] at h;cases h
    | some a=>rw [hg] at h;injection h with h;exact⟨_,_,h.symm⟩
theorem ZeT (x:Chg):∀ {P:List Chg} {o:Option (Chg × Chg)},gGo s o (P++[x])=(gGo s o P).bind (ZdI s x)
 | [],none=>by simp [gGo,ZdI]
 | [],some (f,la)=>by
  rw [List.nil_append,gGo,gGo];show _=ZdI s x [(f,la)];rw [ZdI];split
  · split<;>simp [gGo]
  · simp [gGo]
 | y :: P,none=>by
  have h1:gGo s none (y :: (P++[x]))=gGo s (some (y,y)) (P++[x]):=(by rw [gGo]);have h2:gGo s none (y :: P)=gGo s (some (y,y)) P:=(by rw [gGo]);rw [List.cons_append,h1,h2];exact ZeT x
 | y :: P,some (f,la)=>by
  rw [List.cons_append,gGo,gGo];split
  · split
    · exact ZeT x
    · rfl
  · rw [ZeT x];cases hg:gGo s (some (y,y)) P with
    | none=>simp
    | some a =>
     obtain⟨p,r,rfl⟩:=gGo_ne hg;simp [ZdI]
end
structure NetE where
 t:Int
 key:Row
 c:Chg
abbrev net0:NetE:=⟨0,[],chg0⟩
def nlow (t:Int) (key:Row):List NetE→Nat
 | []=>0
 | e :: L=>if e.t<t∨e.t=t∧cmpR e.key key<0 then nlow t key L+1 else 0
def nhit (t:Int) (key:Row) (L:List NetE):Bool:=decide (nlow t key L<L.length)&&((L.getD (nlow t key L) net0).t == t)&&(cmpR (L.getD (nlow t key L) net0).key key == 0)
def Zgl (t:Int) (key:Row) (c:Chg) (L:List NetE):Option (List NetE) :=
 if nhit t key L then (if cmpR (L.getD (nlow t key L) net0).c.new c.old=0 then some (L.set (nlow t key L) ⟨(L.getD (nlow t key L) net0).t,(L.getD (nlow t key L) net0).key,⟨(L.getD (nlow t key L) net0).c.table,(L.getD (nlow t key L) net0).c.old,c.new⟩⟩) else none)
 else some (L.take (nlow t key L)++⟨t,key,⟨c.table,c.old,c.new⟩⟩ :: L.drop (nlow t key L))
def Zdc (s:Sch) (m:Int):List NetE→List Chg→Int × List NetE
 | L,[]=>(0,L)
 | L,c :: r=>if Zap s m c=false then (71,[]) else match Zgl c.table (keyC s c) c L with
  | none=>(81,[])
  | some L'=>Zdc s m L' r
def routs (L:List NetE):List Chg:=L.flatMap fun e=>if cmpR e.c.old e.c.new=0 then [] else [e.c]
def rnetF (e:Int) (s:Sch) (m:Int) (l:List Chg):Int × List Chg :=
 if Zck e m≠0 then (Zck e m,[]) else if (Zdc s m [] l).1≠0 then ((Zdc s m [] l).1,[]) else (0,routs (Zdc s m [] l).2)
def entG (s:Sch) (p:Chg × Chg):NetE:=⟨p.1.table,keyC s p.1,⟨p.1.table,p.1.old,p.2.new⟩⟩
theorem ZhC (s:Sch) (G:List (Chg × Chg)):routs (G.map (entG s))=outs G:=by
 induction G with
 | nil=>rfl
 | cons p G ih =>
  unfold routs outs at *;rw [List.map_cons,List.flatMap_cons,List.flatMap_cons,ih];rfl
section
variable {s:Sch}
theorem ent_lt (p:Chg × Chg) (x:Chg):((entG s p).t<x.table∨(entG s p).t=x.table∧cmpR (entG s p).key (keyC s x)<0)↔cmpC s p.1 x<0:=by
 unfold entG cmpC
 by_cases h:p.1.table=x.table
 · simp [h]
 · simp [h];omega
theorem Zeo {x:Chg} {B:List (Chg × Chg)}:∀ {A:List (Chg × Chg)},(∀ p ∈ A,cmpC s p.1 x<0)→nlow x.table (keyC s x) ((A++B).map (entG s))=A.length+nlow x.table (keyC s x) (B.map (entG s))
 | [],_=>by simp
 | p :: A,h=>by
  have ih:=Zeo (B:=B) (A:=A) (fun q hq=>h q (by simp [hq]));have h1:=(ent_lt (s:=s) p x).2 (h p (by simp));rw [List.cons_append,List.map_cons,nlow,if_pos h1,ih,List.length_cons];omega
theorem nlow_above {x:Chg} {B:List (Chg × Chg)} (h:∀ p ∈ B,0≤cmpC s p.1 x):nlow x.table (keyC s x) (B.map (entG s))=0:=by
 cases B with
 | nil=>rfl
 | cons p B =>
  have h1:¬ _:=(fun e=>by have:=(ent_lt (s:=s) p x).1 e;have:=h p (by simp);omega);rw [List.map_cons,nlow,if_neg h1]
theorem ZgK {x:Chg} {A B:List (Chg × Chg)} (hA:∀ p ∈ A,cmpC s p.1 x<0) (hB:∀ p ∈ B,0<cmpC s p.1 x):Zgl x.table (keyC s x) x ((A++B).map (entG s))=some ((A++(x,x) :: B).map (entG s)):=by
 have hl:nlow x.table (keyC s x) ((A++B).map (entG s))=A.length:=by
  rw [Zeo hA,nlow_above (fun p hp=>Int.le_of_lt (hB p hp))];omega
 have hh:nhit x.table (keyC s x) ((A++B).map (entG s))=false:=by
  unfold nhit;rw [hl];cases B with
  | nil=>simp
  | cons p B =>
   have h1:=hB p (by simp);have e:((A++p :: B).map (entG s)).getD A.length net0=entG s p:=(by simp [List.getD]);rw [e]
   by_cases ht:p.1.table=x.table
   · have h2:¬ cmpR (keyC s p.1) (keyC s x)=0:=by
       unfold cmpC at h1;simp [ht] at h1;omega
     simp [entG,ht,h2]
   · simp [entG,ht]
 unfold Zgl;rw [hh,hl];simp only [Bool.false_eq_true,if_false]
 congr 1
 simp [entG,List.take_append,List.drop_append,List.take_of_length_le,List.drop_of_length_le]
theorem ZgJ {x:Chg} {A B:List (Chg × Chg)} {p:Chg × Chg} (hA:∀ q ∈ A,cmpC s q.1 x<0) (hp:cmpC s p.1 x=0):Zgl x.table (keyC s x) x ((A++p :: B).map (entG s))=if cmpR p.2.new x.old=0 then some ((A++(p.1,x) :: B).map (entG s)) else none:=by
 have hl0:nlow x.table (keyC s x) ((p :: B).map (entG s))=0:=by
  have h1:¬ _:=(fun e=>by have:=(ent_lt (s:=s) p x).1 e;omega);rw [List.map_cons,nlow,if_neg h1]
 have hl:nlow x.table (keyC s x) ((A++p :: B).map (entG s))=A.length:=by
  rw [Zeo hA,hl0];omega
 have e:((A++p :: B).map (entG s)).getD A.length net0=entG s p:=(by simp [List.getD])
 have ht:p.1.table=x.table∧cmpR (keyC s p.1) (keyC s x)=0:=by
  have:=cmpC_same.2 hp;unfold ZcZ at this;simpa using this
 have hh:nhit x.table (keyC s x) ((A++p :: B).map (entG s))=true:=by
  unfold nhit;rw [hl,e];simp [entG,ht.1,ht.2]
 unfold Zgl;rw [hh,hl,e];simp only [if_true];have e2:(entG s p).c.new=p.2.new:=rfl;rw [e2];split
 · congr 1
   rw [List.map_append,List.set_append,if_neg (by simp)];simp [entG]
 · rfl
def Srtd (s:Sch) (l:List Chg):Prop:=l.Pairwise (fun a b=>cmpC s a b≤0)
theorem ZgF (x:Chg):∀ {l:List Chg},Srtd s l→∃ P Q,l=P++Q∧(∀ y ∈ P,cmpC s y x≤0)∧(∀ y ∈ Q,cmpC s x y<0)∧ins (cmpC s) x l=P++x :: Q
 | l,h=>by
  have key:∀ {l:List Chg},Srtd s l→∃ P Q,l=P++Q∧(∀ y ∈ P,cmpC s y x≤0)∧(∀ y ∈ Q,cmpC s x y<0):=by
   intro l;induction l with
   | nil=>intro _;exact⟨[],[],rfl,by simp,by simp⟩
   | cons y l ih =>
    intro h;obtain⟨h1,h2⟩:=List.pairwise_cons.1 h
    by_cases hc:cmpC s y x≤0
    · obtain⟨P,Q,e,h3,h4⟩:=ih h2;refine⟨y :: P,Q,by rw [e];rfl,fun z hz=>?_,h4⟩;rcases List.mem_cons.1 hz with rfl | hz
      · exact hc
      · exact h3 z hz
    · have hc':cmpC s x y<0:=(Zba x y).2 (by omega);refine⟨[],y :: l,rfl,by simp,fun z hz=>?_⟩;rcases List.mem_cons.1 hz with rfl | hz
      · exact hc'
      · exact Zbt hc' (h1 z hz)
  obtain⟨P,Q,rfl,h1,h2⟩:=key h;refine⟨P,Q,rfl,h1,h2,ins_at _ _ _ _ h2 (fun y hy=>?_)⟩;have:=h1 y (List.mem_of_getLast? hy);have h3:=Zba (s:=s) x y;omega
theorem srtd_ins {l:List Chg} (x:Chg) (h:Srtd s l):Srtd s (ins (cmpC s) x l):=by
 obtain⟨P,Q,rfl,h1,h2,h3⟩:=ZgF x h;rw [h3];unfold Srtd at *;rw [List.pairwise_append] at h ⊢;refine⟨h.1,List.pairwise_cons.2 ⟨fun y hy=>Int.le_of_lt (h2 y hy),h.2.1⟩,fun y hy z hz=>?_⟩;rcases List.mem_cons.1 hz with rfl | hz
 · exact h1 y hy
 · exact h.2.2 y hy z hz
theorem Zfl:∀ {P:List Chg} {o:Option (Chg × Chg)} {G:List (Chg × Chg)},gGo s o P=some G→Srtd s ((o.map (·.1)).toList++P)→(∀ p ∈ G,p.1 ∈ (o.map (·.1)).toList++P)∧G.Pairwise (fun p q=>cmpC s p.1 q.1<0)
 | [],none,G,h,_=>by rw [gGo] at h;injection h with h;subst h;simp
 | [],some (f,la),G,h,_=>by rw [gGo] at h;injection h with h;subst h;simp
 | x :: P,none,G,h,hs=>by
  rw [gGo] at h;exact Zfl (P:=P) (o:=some (x,x)) h hs
 | x :: P,some (f,la),G,h,hs=>by
  have hs':Srtd s (f :: x :: P):=hs;obtain⟨h1,h2⟩:=List.pairwise_cons.1 hs';rw [gGo] at h;split at h
  · rename_i hsame
    split at h
    · have h3:Srtd s (f :: P):=List.pairwise_cons.2 ⟨fun y hy=>h1 y (List.mem_cons_of_mem _ hy),(List.pairwise_cons.1 h2).2⟩;obtain⟨h4,h5⟩:=Zfl h h3;refine⟨fun p hp=>?_,h5⟩;have:=h4 p hp;simp at this ⊢;rcases this with h | h
      · exact .inl h
      · exact .inr (.inr h)
    · cases h
  · rename_i hsame
    cases hg:gGo s (some (x,x)) P with
    | none=>rw [hg] at h;cases h
    | some a =>
     rw [hg] at h;injection h with h;subst h;obtain⟨h4,h5⟩:=Zfl hg h2
     have hlt:cmpC s f x<0:=by
      have:=h1 x (by simp);rcases Int.lt_or_eq_of_le this with h | h
      · exact h
      · exact absurd (cmpC_same.2 h) hsame
     refine⟨fun p hp=>?_,List.pairwise_cons.2 ⟨fun q hq=>?_,h5⟩⟩
     · rcases List.mem_cons.1 hp with rfl | hp
       · simp
       · have:=h4 p hp;simp at this ⊢;exact .inr this
     · have hm:=h4 q hq;have hm':q.1=x∨q.1 ∈ P:=(by simpa using hm);rcases hm' with h | h
       · rw [h];exact hlt
       · exact Zbt hlt ((List.pairwise_cons.1 h2).1 _ h)
theorem ZgY {x:Chg}:∀ {A:List (Chg × Chg)},(∀ p ∈ A,cmpC s p.1 x<0)→ZdI s x A=some (A++[(x,x)])
 | [],_=>rfl
 | [p],h=>by
  have h1:¬ ZcZ s p.1 x=true:=(fun e=>by rw [cmpC_same] at e;have:=h p (by simp);omega);rw [ZdI,if_neg h1];rfl
 | p :: q :: r,h=>by
  rw [ZdI,ZgY (fun z hz=>h z (by simp [hz]))];rfl
theorem ZgX {x:Chg} {p:Chg × Chg} (hp:cmpC s p.1 x=0):∀ {A:List (Chg × Chg)},ZdI s x (A++[p])=if cmpR p.2.new x.old=0 then some (A++[(p.1,x)]) else none
 | []=>by
  rw [List.nil_append,ZdI,if_pos (cmpC_same.2 hp)];rfl
 | [q]=>by
  show (ZdI s x [p]).map (q :: ·)=_;rw [ZdI,if_pos (cmpC_same.2 hp)];split<;>rfl
 | q :: r :: A=>by
  show (ZdI s x (r :: A++[p])).map (q :: ·)=_;rw [ZgX hp (A:=r :: A)];split<;>rfl
theorem ins_step {l:List Chg} (x:Chg) (h:Srtd s l):(gGo s none (ins (cmpC s) x l)).map (fun G=>G.map (entG s))=(gGo s none l).bind fun G=>Zgl x.table (keyC s x) x (G.map (entG s)):=by
 obtain⟨P,Q,rfl,h1,h2,h3⟩:=ZgF x h;have hPQ:∀ q r,Q=q :: r→(∀ p ∈ P,cmpC s p q<0)∧∀ f la,(none:Option (Chg × Chg))=some (f,la)→cmpC s f q<0:=fun q r e=>⟨fun p hp=>ZcX (h1 p hp) (h2 q (by rw [e];simp)),fun f la e'=>by cases e'⟩
 have hPxQ:∀ q r,Q=q :: r→(∀ p ∈ P++[x],cmpC s p q<0)∧∀ f la,(none:Option (Chg × Chg))=some (f,la)→cmpC s f q<0:=fun q r e=>⟨fun p hp=>by
  rcases List.mem_append.1 hp with hp | hp
  · exact(hPQ q r e).1 p hp
  · rw [List.mem_singleton] at hp;rw [hp];exact h2 q (by rw [e];simp),fun f la e'=>by cases e'⟩
 rw [h3,show P++x :: Q=(P++[x])++Q by simp,Zfm hPxQ,ZeT,Zfm hPQ];unfold Srtd at h;rw [List.pairwise_append] at h;cases hP:gGo s none P with
 | none=>simp
 | some A =>
  obtain⟨hA1,hA2⟩:=Zfl hP (show Srtd s P from h.1);have hA1':∀ p ∈ A,p.1 ∈ P:=(fun p hp=>by simpa using hA1 p hp);cases hQ:gGo s none Q with
  | none=>cases ZdI s x A<;>simp
  | some B =>
   obtain⟨hB1,_⟩:=Zfl hQ (show Srtd s Q from h.2.1);have hB:∀ p ∈ B,0<cmpC s p.1 x:=fun p hp=>(Zba x p.1).1 (h2 _ (by simpa using hB1 p hp));simp only [Option.bind_some,Option.map_some]
   by_cases hnew:∀ p ∈ A,cmpC s p.1 x<0
   · rw [ZgY hnew,ZgK hnew hB];simp
   ·
     have hex:∃ A' p,A=A'++[p]∧cmpC s p.1 x=0:=by
      rcases List.eq_nil_or_concat A with rfl | ⟨A',p,rfl⟩
      · exact absurd (by simp) hnew
      · refine⟨A',p,by simp,?_⟩;have hp:=h1 p.1 (hA1' p (by simp));rcases Int.lt_or_eq_of_le hp with hlt | he
        · exfalso;apply hnew;intro q hq;rcases(by simpa using hq:q ∈ A'∨q=p) with hq | hq
          · have hpw:=(List.pairwise_append.1 (by simpa using hA2)).2.2 q hq p (by simp);exact Zbt hpw hp
          · rw [hq];exact hlt
        · exact he
     obtain⟨A',p,rfl,hp⟩:=hex
     have hA':∀ q ∈ A',cmpC s q.1 x<0:=fun q hq=>by
      have hpw:=(List.pairwise_append.1 hA2).2.2 q hq p (by simp);exact Zbt hpw (Int.le_of_eq hp)
     rw [ZgX hp,show A'++[p]++B=A'++p :: B by simp,ZgJ hA' hp];split<;>simp
def Zgm (s:Sch):Option (List NetE)→List Chg→Option (List NetE)
 | o,[]=>o
 | o,c :: r=>Zgm s (o.bind (Zgl c.table (keyC s c) c)) r
theorem ZfQ:∀ l:List Chg,Zgm s none l=none
 | []=>rfl
 | c :: r=>by unfold Zgm;exact ZfQ r
theorem ZhD:∀ (l p:List Chg),Srtd s p→Zgm s ((gGo s none p).map (fun G=>G.map (entG s))) l=(gGo s none (l.foldl (fun p x=>ins (cmpC s) x p) p)).map (fun G=>G.map (entG s))
 | [],p,_=>rfl
 | x :: l,p,h=>by
  rw [List.foldl_cons,←ZhD l _ (srtd_ins x h),ins_step x h,Zgm]
  congr 1
  cases gGo s none p<;>rfl
theorem ZgM {m:Int}:∀ (l:List Chg) (L:List NetE),Zdc s m L l=match Zgm s (some L) (l.take (Zbh s m l)) with
  | none=>(81,[])
  | some L'=>if Zbh s m l<l.length then (71,[]) else (0,L')
 | [],L=>by simp [Zdc,Zbh,Zgm]
 | c :: r,L=>by
  by_cases hv:Zap s m c=true
  · rw [Zdc,Zbh,if_pos hv];simp only [hv,Bool.true_eq_false,if_false,List.take_succ_cons,List.length_cons,Nat.add_lt_add_iff_right];rw [Zgm,Option.bind_some];cases hr:Zgl c.table (keyC s c) c L with
    | none=>rw [ZfQ]
    | some L'=>exact ZgM r L'
  · have hv':Zap s m c=false:=(by simpa using hv);rw [Zdc,Zbh,if_neg hv];simp [hv',Zgm]
theorem rnetF_eq (e m:Int) (l:List Chg):rnetF e s m l=netF e s m l:=by
 unfold rnetF netF;split
 · rfl
 · rw [ZgM,ZeR];have h:=ZhD (s:=s) (l.take (Zbh s m l)) [] List.Pairwise.nil;have h0:(gGo s none []).map (fun G=>G.map (entG s))=some []:=rfl;rw [h0] at h;rw [h];show _=match (gGo s none (ZbA (cmpC s) (l.take (Zbh s m l)))).map outs with | none=>_ | some o=>_;unfold ZbA;cases gGo s none ((l.take (Zbh s m l)).foldl (fun p x=>ins (cmpC s) x p) []) with
   | none=>simp
   | some G =>
    simp only [Option.map_some];split
    · simp
    · simp [ZhC]
end
end Go.Proofs.YtkpjjfhfbpfjpaaGreat
