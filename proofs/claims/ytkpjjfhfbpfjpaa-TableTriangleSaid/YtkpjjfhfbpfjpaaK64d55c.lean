import Derived.Test.YtkpjjfhfbpfjpaaK42e91f
set_option linter.unusedVariables false
set_option linter.unusedSimpArgs false
set_option maxRecDepth 100000
set_option maxHeartbeats 8000000
namespace Go.Proofs.Ytkpjjfhfbpfjpaa
section
variable {α:Type} (f:α→α→Int)
def ZcP (x:α):List α→List α
 | []=>[x]
 | y :: r=>if f x y<0 then y :: ZcP x r else x :: y :: r
def ins (x:α) (p:List α):List α:=(ZcP f x p.reverse).reverse
def Zaq (l:List α):List α:=l.foldl (fun p x=>ins f x p) []
theorem ZfJ (x:α):∀ (r s:List α),(∀ y ∈ r,f x y<0)→ZcP f x (r++s)=r++ZcP f x s
 | [],s,_=>rfl
 | y :: r,s,h=>by
  rw [List.cons_append,ZcP,if_pos (h y (by simp)),ZfJ x r s (fun z hz=>h z (by simp [hz]))];rfl
theorem ZfG (x:α) (p q:List α) (hq:∀ y ∈ q,f x y<0) (hp:∀ y,p.getLast?=some y→0≤f x y):ins f x (p++q)=p++x :: q:=by
 unfold ins;rw [List.reverse_append,ZfJ f x _ _ (fun y hy=>hq y (by simpa using hy))]
 have:ZcP f x p.reverse=x :: p.reverse:=by
  cases hr:p.reverse with
  | nil=>rfl
  | cons y r =>
   have h1:p.getLast?=some y:=(by rw [List.getLast?_eq_head?_reverse,hr];rfl);have:=hp y h1;rw [ZcP,if_neg (by omega)]
 rw [this];simp
theorem ZfI (x:α):∀ r:List α,(ZcP f x r).length=r.length+1
 | []=>rfl
 | y :: r=>by unfold ZcP;split<;>simp [ZfI x r]
theorem ins_len (x:α) (p:List α):(ins f x p).length=p.length+1:=by simp [ins,ZfI]
theorem ZfE (l:List α) (x:α):Zaq f (l++[x])=ins f x (Zaq f l):=by simp [Zaq]
theorem ZaW (l:List α):(Zaq f l).length=l.length:=by
 have key:∀ (l p:List α),(l.foldl (fun p x=>ins f x p) p).length=p.length+l.length:=by
  intro l;induction l with
  | nil=>intro p;simp
  | cons x l ih=>intro p;rw [List.foldl_cons,ih,ins_len,List.length_cons];omega
 simpa [Zaq] using key l []
theorem ZfH (x:α):∀ (r:List α) (y:α),y ∈ ZcP f x r↔y=x∨y ∈ r
 | [],y=>by simp [ZcP]
 | z :: r,y=>by
  unfold ZcP;split
  · simp only [List.mem_cons,ZfH x r y];constructor
    · rintro(h | h | h)
      · exact .inr (.inl h)
      · exact .inl h
      · exact .inr (.inr h)
    · rintro(h | h | h)
      · exact .inr (.inl h)
      · exact .inl h
      · exact .inr (.inr h)
  · simp
theorem ins_mem (x:α) (p:List α) (y:α):y ∈ ins f x p↔y=x∨y ∈ p:=by simp [ins,ZfH]
theorem ZeV (l:List α) (y:α):y ∈ Zaq f l↔y ∈ l:=by
 have key:∀ (l p:List α),y ∈ l.foldl (fun p x=>ins f x p) p↔y ∈ p∨y ∈ l:=by
  intro l;induction l with
  | nil=>intro p;simp
  | cons x l ih =>
   intro p;rw [List.foldl_cons,ih,ins_mem,List.mem_cons];constructor
   · rintro((h | h) | h)
     · exact .inr (.inl h)
     · exact .inl h
     · exact .inr (.inr h)
   · rintro(h | h | h)
     · exact .inl (.inr h)
     · exact .inl (.inl h)
     · exact .inr h
 simpa [Zaq] using key l []
end
def Zbt (s:Sch) (m:Int):List Chg→Nat
 | []=>0
 | c :: l=>if Zas s m c then Zbt s m l+1 else 0
theorem Zgf (s:Sch) (m:Int):∀ l:List Chg,Zbt s m l≤l.length
 | []=>Nat.le_refl _
 | c :: l=>by unfold Zbt;have:=Zgf s m l;split<;>simp<;>omega
theorem Zdy (s:Sch) (m:Int):∀ (l:List Chg) (k:Nat),k<Zbt s m l→Zas s m (l.getD k chg0)=true
 | [],k,h=>by simp [Zbt] at h
 | c :: l,k,h=>by
  unfold Zbt at h;split at h
  · rename_i hc
    cases k with
    | zero=>exact hc
    | succ k=>exact Zdy s m l k (by omega)
  · omega
theorem ZfL (s:Sch) (m:Int):∀ (l:List Chg),Zbt s m l<l.length→Zas s m (l.getD (Zbt s m l) chg0)=false
 | [],h=>by simp at h
 | c :: l,h=>by
  by_cases hc:Zas s m c=true
  · have e:Zbt s m (c :: l)=Zbt s m l+1:=(by rw [Zbt,if_pos hc]);rw [e] at h ⊢;exact ZfL s m l (by simpa using h)
  · have e:Zbt s m (c :: l)=0:=(by rw [Zbt,if_neg hc]);rw [e];simpa using hc
def badI (s:Sch) (m:Int) (l:List Chg):Int:=if Zbt s m l<l.length then Zbt s m l else -1
def cmpC (s:Sch) (a b:Chg):Int:=if a.table≠b.table then a.table - b.table else cmpR (keyC s a) (keyC s b)
def ZcT (s:Sch) (a b:Chg):Bool:=(a.table == b.table)&&(cmpR (keyC s a) (keyC s b) == 0)
def ZaV (f la:Chg):List Chg:=if cmpR f.old la.new=0 then [] else [⟨f.table,f.old,la.new⟩]
def Zaw (s:Sch):Option (Chg × Chg)→List Chg→Option (List Chg)
 | none,[]=>some []
 | none,x :: r=>Zaw s (some (x,x)) r
 | some (f,la),[]=>some (ZaV f la)
 | some (f,la),x :: r=>if ZcT s f x then (if cmpR la.new x.old=0 then Zaw s (some (f,x)) r else none) else (Zaw s (some (x,x)) r).map (ZaV f la++·)
def netF (e:Int) (s:Sch) (m:Int) (l:List Chg):Int × List Chg :=
 if Zcp e m≠0 then (Zcp e m,[]) else match Zaw s none (Zaq (cmpC s) (l.take (Zbt s m l))) with
  | none=>(81,[])
  | some o=>if Zbt s m l<l.length then (71,[]) else (0,o)
theorem ZgD (s:Sch) {l:List Chg} {k:Nat} (h:k<l.length):Zaw s none (l.drop k)=Zaw s (some (l.getD k chg0,l.getD k chg0)) (l.drop (k+1)):=by
 have e:l.getD k chg0=l[k]:=(by simp [List.getD,h]);rw [List.drop_eq_getElem_cons h,Zaw,e]
theorem Zhu (s:Sch) (f la:Chg) {l:List Chg} {k:Nat} (h:k<l.length):Zaw s (some (f,la)) (l.drop k)=if ZcT s f (l.getD k chg0) then (if cmpR la.new (l.getD k chg0).old=0 then Zaw s (some (f,l.getD k chg0)) (l.drop (k+1)) else none) else (Zaw s none (l.drop k)).map (ZaV f la++·):=by
 have e:l.getD k chg0=l[k]:=(by simp [List.getD,h]);rw [List.drop_eq_getElem_cons h,Zaw,e,Zaw]
theorem net_end (s:Sch) (f la:Chg) {l:List Chg} {k:Nat} (h:l.length≤k):Zaw s (some (f,la)) (l.drop k)=(Zaw s none (l.drop k)).map (ZaV f la++·):=by
 rw [List.drop_eq_nil_of_le h,Zaw,Zaw];simp
theorem ZcL (o p:List Chg) (x:Option (List Chg)):(x.map (p++·)).map (o++·)=x.map ((o++p)++·):=by cases x<;>simp
theorem netF_bad {e:Int} {s:Sch} {m:Int} {l:List Chg} (h:Zcp e m≠0):netF e s m l=(Zcp e m,[]):=by unfold netF;rw [if_pos h]
theorem netF_conflict {e:Int} {s:Sch} {m:Int} {l:List Chg} (h:Zcp e m=0) (h2:Zaw s none (Zaq (cmpC s) (l.take (Zbt s m l)))=none):netF e s m l=(81,[]):=by unfold netF;rw [if_neg (by omega),h2]
theorem netF_row {e:Int} {s:Sch} {m:Int} {l o:List Chg} (h:Zcp e m=0) (h2:Zaw s none (Zaq (cmpC s) (l.take (Zbt s m l)))=some o) (h3:Zbt s m l<l.length):netF e s m l=(71,[]):=by
 unfold netF;rw [if_neg (by omega),h2];simp [h3]
theorem netF_ok {e:Int} {s:Sch} {m:Int} {l o:List Chg} (h:Zcp e m=0) (h2:Zaw s none (Zaq (cmpC s) (l.take (Zbt s m l)))=some o) (h3:¬ Zbt s m l<l.length):netF e s m l=(0,o):=by
 unfold netF;rw [if_neg (by omega),h2];simp [h3]
section
variable {s:Sch}
def gGo (s:Sch):Option (Chg × Chg)→List Chg→Option (List (Chg × Chg))
 | none,[]=>some []
 | none,x :: r=>gGo s (some (x,x)) r
 | some (f,la),[]=>some [(f,la)]
 | some (f,la),x :: r=>if ZcT s f x then (if cmpR la.new x.old=0 then gGo s (some (f,x)) r else none) else (gGo s (some (x,x)) r).map ((f,la) :: ·)
def outs (G:List (Chg × Chg)):List Chg:=G.flatMap fun p=>ZaV p.1 p.2
theorem ZeJ (s:Sch):∀ (l:List Chg) (o:Option (Chg × Chg)),Zaw s o l=(gGo s o l).map outs
 | [],none=>rfl
 | [],some (f,la)=>by simp [Zaw,gGo,outs]
 | x :: r,none=>by
  have h1:Zaw s none (x :: r)=Zaw s (some (x,x)) r:=(by rw [Zaw]);have h2:gGo s none (x :: r)=gGo s (some (x,x)) r:=(by rw [gGo]);rw [h1,h2];exact ZeJ s r _
 | x :: r,some (f,la)=>by
  rw [Zaw,gGo];split
  · split
    · exact ZeJ s r _
    · rfl
  · rw [ZeJ s r _];cases gGo s (some (x,x)) r<;>simp [outs]
theorem cmpC_same {a b:Chg}:ZcT s a b=true↔cmpC s a b=0:=by
 unfold ZcT cmpC
 by_cases h:a.table=b.table
 · simp [h]
 · have:¬ a.table - b.table=0:=(by omega);simp [h,this]
theorem Zbe (a b:Chg):cmpC s a b<0↔0<cmpC s b a:=by
 unfold cmpC
 by_cases h:a.table=b.table
 · have:=cmpR_is.flip (keyC s a) (keyC s b);simp [h];omega
 · have h':¬ b.table=a.table:=fun e=>h e.symm;simp [h,h'];omega
theorem ZcO {a b:Chg} (h:cmpC s a b=0):cmpC s b a=0:=by
 have h1:=Zbe (s:=s) a b;have h2:=Zbe (s:=s) b a;omega
theorem ZbQ {a b c:Chg} (h1:cmpC s a b≤0) (h2:cmpC s b c≤0):cmpC s a c≤0:=by
 unfold cmpC at *
 by_cases x:a.table=b.table
 · by_cases y:b.table=c.table
   · have z:a.table=c.table:=x.trans y;simp only [x,y,z,ne_eq,not_true,if_false] at *;exact cmpR_is.trans _ _ _ h1 h2
   · have z:¬ a.table=c.table:=fun e=>y (x ▸ e);simp only [ne_eq,y,z,not_false_eq_true,if_true] at *;omega
 · simp only [ne_eq,x,not_false_eq_true,if_true] at h1
   by_cases y:b.table=c.table
   · have z:¬ a.table=c.table:=(by omega);simp only [ne_eq,z,not_false_eq_true,if_true];omega
   · simp only [ne_eq,y,not_false_eq_true,if_true] at h2;have z:¬ a.table=c.table:=(by omega);simp only [ne_eq,z,not_false_eq_true,if_true];omega
theorem ZcR {a b c:Chg} (h1:cmpC s a b≤0) (h2:cmpC s b c<0):cmpC s a c<0:=by
 have h3:=ZbQ h1 (Int.le_of_lt h2);rcases Int.lt_or_eq_of_le h3 with h | h
 · exact h
 · have h4:=ZcO h;have h5:=ZbQ (Int.le_of_eq h4) h1;have h6:=(Zbe (s:=s) b c).1 h2;omega
theorem ZbH {a b c:Chg} (h1:cmpC s a b<0) (h2:cmpC s b c≤0):cmpC s a c<0:=by
 have h3:=ZbQ (Int.le_of_lt h1) h2;rcases Int.lt_or_eq_of_le h3 with h | h
 · exact h
 · have h4:=ZcO h;have h5:=ZbQ h2 (Int.le_of_eq h4);have h6:=(Zbe (s:=s) a b).1 h1;omega
theorem Zfb {Q:List Chg}:∀ {P:List Chg} {o:Option (Chg × Chg)},(∀ q r,Q=q :: r→(∀ p ∈ P,cmpC s p q<0)∧∀ f la,o=some (f,la)→cmpC s f q<0)→gGo s o (P++Q)=(gGo s o P).bind fun a=>(gGo s none Q).map (a++·)
 | [],none,_=>by simp [gGo]
 | [],some (f,la),h=>by
  cases Q with
  | nil=>simp [gGo]
  | cons q r =>
   have h1:=(h q r rfl).2 f la rfl;have h2:¬ ZcT s f q=true:=(fun e=>by rw [cmpC_same] at e;omega);have h4:gGo s (some (f,la)) (q :: r)=(gGo s (some (q,q)) r).map ((f,la) :: ·):=(by rw [gGo,if_neg h2]);have h3:gGo s none (q :: r)=gGo s (some (q,q)) r:=(by rw [gGo]);have h5:gGo s (some (f,la)) []=some [(f,la)]:=(by rw [gGo]);rw [List.nil_append,h4,h3,h5];simp
 | x :: P,none,h=>by
  have h1:gGo s none (x :: (P++Q))=gGo s (some (x,x)) (P++Q):=(by rw [gGo]);have h2:gGo s none (x :: P)=gGo s (some (x,x)) P:=(by rw [gGo]);rw [List.cons_append,h1,h2];exact Zfb (fun q r e=>⟨fun p hp=>(h q r e).1 p (by simp [hp]),fun f la e'=>by injection e' with e';injection e' with e1 e2;rw [←e1];exact(h q r e).1 x (by simp)⟩)
 | x :: P,some (f,la),h=>by
  rw [List.cons_append,gGo,gGo];split
  · split
    · exact Zfb (fun q r e=>⟨fun p hp=>(h q r e).1 p (by simp [hp]),fun f' la' e'=>by injection e' with e';injection e' with e1 e2;rw [←e1];exact(h q r e).2 f la rfl⟩)
    · simp
  · have ih:=Zfb (P:=P) (o:=some (x,x)) (Q:=Q) (fun q r e=>⟨fun p hp=>(h q r e).1 p (by simp [hp]),fun f' la' e'=>by injection e' with e';injection e' with e1 e2;rw [←e1];exact(h q r e).1 x (by simp)⟩);rw [ih];cases gGo s (some (x,x)) P with
    | none=>simp
    | some a=>cases gGo s none Q<;>simp
def Zdz (s:Sch) (x:Chg):List (Chg × Chg)→Option (List (Chg × Chg))
 | []=>some [(x,x)]
 | [p]=>if ZcT s p.1 x then (if cmpR p.2.new x.old=0 then some [(p.1,x)] else none) else some [p,(x,x)]
 | p :: q :: r=>(Zdz s x (q :: r)).map (p :: ·)
theorem gGo_ne:∀ {P:List Chg} {f la:Chg} {G:List (Chg × Chg)},gGo s (some (f,la)) P=some G→∃ p r,G=p :: r
 | [],f,la,G,h=>by rw [gGo] at h;injection h with h;exact⟨_,_,h.symm⟩
 | x :: P,f,la,G,h=>by
  rw [gGo] at h;split at h
  · split at h
    · exact gGo_ne h
    · cases h
  · cases hg:gGo s (some (x,x)) P with
    | none=>rw [hg] at h;cases h
    | some a=>rw [hg] at h;injection h with h;exact⟨_,_,h.symm⟩
theorem ZeL (x:Chg):∀ {P:List Chg} {o:Option (Chg × Chg)},gGo s o (P++[x])=(gGo s o P).bind (Zdz s x)
 | [],none=>by simp [gGo,Zdz]
 | [],some (f,la)=>by
  rw [List.nil_append,gGo,gGo];show _=Zdz s x [(f,la)];rw [Zdz];split
  · split<;>simp [gGo]
  · simp [gGo]
 | y :: P,none=>by
  have h1:gGo s none (y :: (P++[x]))=gGo s (some (y,y)) (P++[x]):=(by rw [gGo]);have h2:gGo s none (y :: P)=gGo s (some (y,y)) P:=(by rw [gGo]);rw [List.cons_append,h1,h2];exact ZeL x
 | y :: P,some (f,la)=>by
  rw [List.cons_append,gGo,gGo];split
  · split
    · exact ZeL x
    · rfl
  · rw [ZeL x];cases hg:gGo s (some (y,y)) P with
    | none=>simp
    | some a =>
     obtain⟨p,r,rfl⟩:=gGo_ne hg;simp [Zdz]
end
structure NetE where
 t:Int
 key:Row
 c:Chg
abbrev net0:NetE:=⟨0,[],chg0⟩
def nlow (t:Int) (key:Row):List NetE→Nat
 | []=>0
 | e :: L=>if e.t<t∨e.t=t∧cmpR e.key key<0 then nlow t key L+1 else 0
def nhit (t:Int) (key:Row) (L:List NetE):Bool:=decide (nlow t key L<L.length)&&((L.getD (nlow t key L) net0).t == t)&&(cmpR (L.getD (nlow t key L) net0).key key == 0)
def ZfZ (t:Int) (key:Row) (c:Chg) (L:List NetE):Option (List NetE) :=
 if nhit t key L then (if cmpR (L.getD (nlow t key L) net0).c.new c.old=0 then some (L.set (nlow t key L) ⟨(L.getD (nlow t key L) net0).t,(L.getD (nlow t key L) net0).key,⟨(L.getD (nlow t key L) net0).c.table,(L.getD (nlow t key L) net0).c.old,c.new⟩⟩) else none)
 else some (L.take (nlow t key L)++⟨t,key,⟨c.table,c.old,c.new⟩⟩ :: L.drop (nlow t key L))
def ZcX (s:Sch) (m:Int):List NetE→List Chg→Int × List NetE
 | L,[]=>(0,L)
 | L,c :: r=>if Zas s m c=false then (71,[]) else match ZfZ c.table (keyC s c) c L with
  | none=>(81,[])
  | some L'=>ZcX s m L' r
def routs (L:List NetE):List Chg:=L.flatMap fun e=>if cmpR e.c.old e.c.new=0 then [] else [e.c]
def rnetF (e:Int) (s:Sch) (m:Int) (l:List Chg):Int × List Chg :=
 if Zcp e m≠0 then (Zcp e m,[]) else if (ZcX s m [] l).1≠0 then ((ZcX s m [] l).1,[]) else (0,routs (ZcX s m [] l).2)
def entG (s:Sch) (p:Chg × Chg):NetE:=⟨p.1.table,keyC s p.1,⟨p.1.table,p.1.old,p.2.new⟩⟩
theorem Zho (s:Sch) (G:List (Chg × Chg)):routs (G.map (entG s))=outs G:=by
 induction G with
 | nil=>rfl
 | cons p G ih =>
  unfold routs outs at *;rw [List.map_cons,List.flatMap_cons,List.flatMap_cons,ih];rfl
section
variable {s:Sch}
theorem ent_lt (p:Chg × Chg) (x:Chg):((entG s p).t<x.table∨(entG s p).t=x.table∧cmpR (entG s p).key (keyC s x)<0)↔cmpC s p.1 x<0:=by
 unfold entG cmpC
 by_cases h:p.1.table=x.table
 · simp [h]
 · simp [h];omega
theorem Zei {x:Chg} {B:List (Chg × Chg)}:∀ {A:List (Chg × Chg)},(∀ p ∈ A,cmpC s p.1 x<0)→nlow x.table (keyC s x) ((A++B).map (entG s))=A.length+nlow x.table (keyC s x) (B.map (entG s))
 | [],_=>by simp
 | p :: A,h=>by
  have ih:=Zei (B:=B) (A:=A) (fun q hq=>h q (by simp [hq]));have h1:=(ent_lt (s:=s) p x).2 (h p (by simp));rw [List.cons_append,List.map_cons,nlow,if_pos h1,ih,List.length_cons];omega
theorem nlow_above {x:Chg} {B:List (Chg × Chg)} (h:∀ p ∈ B,0≤cmpC s p.1 x):nlow x.table (keyC s x) (B.map (entG s))=0:=by
 cases B with
 | nil=>rfl
 | cons p B =>
  have h1:¬ _:=(fun e=>by have:=(ent_lt (s:=s) p x).1 e;have:=h p (by simp);omega);rw [List.map_cons,nlow,if_neg h1]
theorem Zgw {x:Chg} {A B:List (Chg × Chg)} (hA:∀ p ∈ A,cmpC s p.1 x<0) (hB:∀ p ∈ B,0<cmpC s p.1 x):ZfZ x.table (keyC s x) x ((A++B).map (entG s))=some ((A++(x,x) :: B).map (entG s)):=by
 have hl:nlow x.table (keyC s x) ((A++B).map (entG s))=A.length:=by
  rw [Zei hA,nlow_above (fun p hp=>Int.le_of_lt (hB p hp))];omega
 have hh:nhit x.table (keyC s x) ((A++B).map (entG s))=false:=by
  unfold nhit;rw [hl];cases B with
  | nil=>simp
  | cons p B =>
   have h1:=hB p (by simp);have e:((A++p :: B).map (entG s)).getD A.length net0=entG s p:=(by simp [List.getD]);rw [e]
   by_cases ht:p.1.table=x.table
   · have h2:¬ cmpR (keyC s p.1) (keyC s x)=0:=by
       unfold cmpC at h1;simp [ht] at h1;omega
     simp [entG,ht,h2]
   · simp [entG,ht]
 unfold ZfZ;rw [hh,hl];simp only [Bool.false_eq_true,if_false]
 congr 1
 simp [entG,List.take_append,List.drop_append,List.take_of_length_le,List.drop_of_length_le]
theorem Zgv {x:Chg} {A B:List (Chg × Chg)} {p:Chg × Chg} (hA:∀ q ∈ A,cmpC s q.1 x<0) (hp:cmpC s p.1 x=0):ZfZ x.table (keyC s x) x ((A++p :: B).map (entG s))=if cmpR p.2.new x.old=0 then some ((A++(p.1,x) :: B).map (entG s)) else none:=by
 have hl0:nlow x.table (keyC s x) ((p :: B).map (entG s))=0:=by
  have h1:¬ _:=(fun e=>by have:=(ent_lt (s:=s) p x).1 e;omega);rw [List.map_cons,nlow,if_neg h1]
 have hl:nlow x.table (keyC s x) ((A++p :: B).map (entG s))=A.length:=by
  rw [Zei hA,hl0];omega
 have e:((A++p :: B).map (entG s)).getD A.length net0=entG s p:=(by simp [List.getD])
 have ht:p.1.table=x.table∧cmpR (keyC s p.1) (keyC s x)=0:=by
  have:=cmpC_same.2 hp;unfold ZcT at this;simpa using this
 have hh:nhit x.table (keyC s x) ((A++p :: B).map (entG s))=true:=by
  unfold nhit;rw [hl,e];simp [entG,ht.1,ht.2]
 unfold ZfZ;rw [hh,hl,e];simp only [if_true];have e2:(entG s p).c.new=p.2.new:=rfl;rw [e2];split
 · congr 1
   rw [List.map_append,List.set_append,if_neg (by simp)];simp [entG]
 · rfl
def Srtd (s:Sch) (l:List Chg):Prop:=l.Pairwise (fun a b=>cmpC s a b≤0)
theorem Zgs (x:Chg):∀ {l:List Chg},Srtd s l→∃ P Q,l=P++Q∧(∀ y ∈ P,cmpC s y x≤0)∧(∀ y ∈ Q,cmpC s x y<0)∧ins (cmpC s) x l=P++x :: Q
 | l,h=>by
  have key:∀ {l:List Chg},Srtd s l→∃ P Q,l=P++Q∧(∀ y ∈ P,cmpC s y x≤0)∧(∀ y ∈ Q,cmpC s x y<0):=by
   intro l;induction l with
   | nil=>intro _;exact⟨[],[],rfl,by simp,by simp⟩
   | cons y l ih =>
    intro h;obtain⟨h1,h2⟩:=List.pairwise_cons.1 h
    by_cases hc:cmpC s y x≤0
    · obtain⟨P,Q,e,h3,h4⟩:=ih h2;refine⟨y :: P,Q,by rw [e];rfl,fun z hz=>?_,h4⟩;rcases List.mem_cons.1 hz with rfl | hz
      · exact hc
      · exact h3 z hz
    · have hc':cmpC s x y<0:=(Zbe x y).2 (by omega);refine⟨[],y :: l,rfl,by simp,fun z hz=>?_⟩;rcases List.mem_cons.1 hz with rfl | hz
      · exact hc'
      · exact ZbH hc' (h1 z hz)
  obtain⟨P,Q,rfl,h1,h2⟩:=key h;refine⟨P,Q,rfl,h1,h2,ZfG _ _ _ _ h2 (fun y hy=>?_)⟩;have:=h1 y (List.mem_of_getLast? hy);have h3:=Zbe (s:=s) x y;omega
theorem srtd_ins {l:List Chg} (x:Chg) (h:Srtd s l):Srtd s (ins (cmpC s) x l):=by
 obtain⟨P,Q,rfl,h1,h2,h3⟩:=Zgs x h;rw [h3];unfold Srtd at *;rw [List.pairwise_append] at h ⊢;refine⟨h.1,List.pairwise_cons.2 ⟨fun y hy=>Int.le_of_lt (h2 y hy),h.2.1⟩,fun y hy z hz=>?_⟩;rcases List.mem_cons.1 hz with rfl | hz
 · exact h1 y hy
 · exact h.2.2 y hy z hz
theorem Zfa:∀ {P:List Chg} {o:Option (Chg × Chg)} {G:List (Chg × Chg)},gGo s o P=some G→Srtd s ((o.map (·.1)).toList++P)→(∀ p ∈ G,p.1 ∈ (o.map (·.1)).toList++P)∧G.Pairwise (fun p q=>cmpC s p.1 q.1<0)
 | [],none,G,h,_=>by rw [gGo] at h;injection h with h;subst h;simp
 | [],some (f,la),G,h,_=>by rw [gGo] at h;injection h with h;subst h;simp
 | x :: P,none,G,h,hs=>by
  rw [gGo] at h;exact Zfa (P:=P) (o:=some (x,x)) h hs
 | x :: P,some (f,la),G,h,hs=>by
  have hs':Srtd s (f :: x :: P):=hs;obtain⟨h1,h2⟩:=List.pairwise_cons.1 hs';rw [gGo] at h;split at h
  · rename_i hsame
    split at h
    · have h3:Srtd s (f :: P):=List.pairwise_cons.2 ⟨fun y hy=>h1 y (List.mem_cons_of_mem _ hy),(List.pairwise_cons.1 h2).2⟩;obtain⟨h4,h5⟩:=Zfa h h3;refine⟨fun p hp=>?_,h5⟩;have:=h4 p hp;simp at this ⊢;rcases this with h | h
      · exact .inl h
      · exact .inr (.inr h)
    · cases h
  · rename_i hsame
    cases hg:gGo s (some (x,x)) P with
    | none=>rw [hg] at h;cases h
    | some a =>
     rw [hg] at h;injection h with h;subst h;obtain⟨h4,h5⟩:=Zfa hg h2
     have hlt:cmpC s f x<0:=by
      have:=h1 x (by simp);rcases Int.lt_or_eq_of_le this with h | h
      · exact h
      · exact absurd (cmpC_same.2 h) hsame
     refine⟨fun p hp=>?_,List.pairwise_cons.2 ⟨fun q hq=>?_,h5⟩⟩
     · rcases List.mem_cons.1 hp with rfl | hp
       · simp
       · have:=h4 p hp;simp at this ⊢;exact .inr this
     · have hm:=h4 q hq;have hm':q.1=x∨q.1 ∈ P:=(by simpa using hm);rcases hm' with h | h
       · rw [h];exact hlt
       · exact ZbH hlt ((List.pairwise_cons.1 h2).1 _ h)
theorem ZgK {x:Chg}:∀ {A:List (Chg × Chg)},(∀ p ∈ A,cmpC s p.1 x<0)→Zdz s x A=some (A++[(x,x)])
 | [],_=>rfl
 | [p],h=>by
  have h1:¬ ZcT s p.1 x=true:=(fun e=>by rw [cmpC_same] at e;have:=h p (by simp);omega);rw [Zdz,if_neg h1];rfl
 | p :: q :: r,h=>by
  rw [Zdz,ZgK (fun z hz=>h z (by simp [hz]))];rfl
theorem ZgJ {x:Chg} {p:Chg × Chg} (hp:cmpC s p.1 x=0):∀ {A:List (Chg × Chg)},Zdz s x (A++[p])=if cmpR p.2.new x.old=0 then some (A++[(p.1,x)]) else none
 | []=>by
  rw [List.nil_append,Zdz,if_pos (cmpC_same.2 hp)];rfl
 | [q]=>by
  show (Zdz s x [p]).map (q :: ·)=_;rw [Zdz,if_pos (cmpC_same.2 hp)];split<;>rfl
 | q :: r :: A=>by
  show (Zdz s x (r :: A++[p])).map (q :: ·)=_;rw [ZgJ hp (A:=r :: A)];split<;>rfl
theorem ins_step {l:List Chg} (x:Chg) (h:Srtd s l):(gGo s none (ins (cmpC s) x l)).map (fun G=>G.map (entG s))=(gGo s none l).bind fun G=>ZfZ x.table (keyC s x) x (G.map (entG s)):=by
 obtain⟨P,Q,rfl,h1,h2,h3⟩:=Zgs x h;have hPQ:∀ q r,Q=q :: r→(∀ p ∈ P,cmpC s p q<0)∧∀ f la,(none:Option (Chg × Chg))=some (f,la)→cmpC s f q<0:=fun q r e=>⟨fun p hp=>ZcR (h1 p hp) (h2 q (by rw [e];simp)),fun f la e'=>by cases e'⟩
 have hPxQ:∀ q r,Q=q :: r→(∀ p ∈ P++[x],cmpC s p q<0)∧∀ f la,(none:Option (Chg × Chg))=some (f,la)→cmpC s f q<0:=fun q r e=>⟨fun p hp=>by
  rcases List.mem_append.1 hp with hp | hp
  · exact(hPQ q r e).1 p hp
  · rw [List.mem_singleton] at hp;rw [hp];exact h2 q (by rw [e];simp),fun f la e'=>by cases e'⟩
 rw [h3,show P++x :: Q=(P++[x])++Q by simp,Zfb hPxQ,ZeL,Zfb hPQ];unfold Srtd at h;rw [List.pairwise_append] at h;cases hP:gGo s none P with
 | none=>simp
 | some A =>
  obtain⟨hA1,hA2⟩:=Zfa hP (show Srtd s P from h.1);have hA1':∀ p ∈ A,p.1 ∈ P:=(fun p hp=>by simpa using hA1 p hp);cases hQ:gGo s none Q with
  | none=>cases Zdz s x A<;>simp
  | some B =>
   obtain⟨hB1,_⟩:=Zfa hQ (show Srtd s Q from h.2.1);have hB:∀ p ∈ B,0<cmpC s p.1 x:=fun p hp=>(Zbe x p.1).1 (h2 _ (by simpa using hB1 p hp));simp only [Option.bind_some,Option.map_some]
   by_cases hnew:∀ p ∈ A,cmpC s p.1 x<0
   · rw [ZgK hnew,Zgw hnew hB];simp
   ·
     have hex:∃ A' p,A=A'++[p]∧cmpC s p.1 x=0:=by
      rcases List.eq_nil_or_concat A with rfl | ⟨A',p,rfl⟩
      · exact absurd (by simp) hnew
      · refine⟨A',p,by simp,?_⟩;have hp:=h1 p.1 (hA1' p (by simp));rcases Int.lt_or_eq_of_le hp with hlt | he
        · exfalso;apply hnew;intro q hq;rcases(by simpa using hq:q ∈ A'∨q=p) with hq | hq
          · have hpw:=(List.pairwise_append.1 (by simpa using hA2)).2.2 q hq p (by simp);exact ZbH hpw hp
          · rw [hq];exact hlt
        · exact he
     obtain⟨A',p,rfl,hp⟩:=hex
     have hA':∀ q ∈ A',cmpC s q.1 x<0:=fun q hq=>by
      have hpw:=(List.pairwise_append.1 hA2).2.2 q hq p (by simp);exact ZbH hpw (Int.le_of_eq hp)
     rw [ZgJ hp,show A'++[p]++B=A'++p :: B by simp,Zgv hA' hp];split<;>simp
def Zga (s:Sch):Option (List NetE)→List Chg→Option (List NetE)
 | o,[]=>o
 | o,c :: r=>Zga s (o.bind (ZfZ c.table (keyC s c) c)) r
theorem ZfA:∀ l:List Chg,Zga s none l=none
 | []=>rfl
 | c :: r=>by unfold Zga;exact ZfA r
theorem Zhq:∀ (l p:List Chg),Srtd s p→Zga s ((gGo s none p).map (fun G=>G.map (entG s))) l=(gGo s none (l.foldl (fun p x=>ins (cmpC s) x p) p)).map (fun G=>G.map (entG s))
 | [],p,_=>rfl
 | x :: l,p,h=>by
  rw [List.foldl_cons,←Zhq l _ (srtd_ins x h),ins_step x h,Zga]
  congr 1
  cases gGo s none p<;>rfl
theorem Zgz {m:Int}:∀ (l:List Chg) (L:List NetE),ZcX s m L l=match Zga s (some L) (l.take (Zbt s m l)) with
  | none=>(81,[])
  | some L'=>if Zbt s m l<l.length then (71,[]) else (0,L')
 | [],L=>by simp [ZcX,Zbt,Zga]
 | c :: r,L=>by
  by_cases hv:Zas s m c=true
  · rw [ZcX,Zbt,if_pos hv];simp only [hv,Bool.true_eq_false,if_false,List.take_succ_cons,List.length_cons,Nat.add_lt_add_iff_right];rw [Zga,Option.bind_some];cases hr:ZfZ c.table (keyC s c) c L with
    | none=>rw [ZfA]
    | some L'=>exact Zgz r L'
  · have hv':Zas s m c=false:=(by simpa using hv);rw [ZcX,Zbt,if_neg hv];simp [hv',Zga]
theorem rnetF_eq (e m:Int) (l:List Chg):rnetF e s m l=netF e s m l:=by
 unfold rnetF netF;split
 · rfl
 · rw [Zgz,ZeJ];have h:=Zhq (s:=s) (l.take (Zbt s m l)) [] List.Pairwise.nil;have h0:(gGo s none []).map (fun G=>G.map (entG s))=some []:=rfl;rw [h0] at h;rw [h];show _=match (gGo s none (Zaq (cmpC s) (l.take (Zbt s m l)))).map outs with | none=>_ | some o=>_;unfold Zaq;cases gGo s none ((l.take (Zbt s m l)).foldl (fun p x=>ins (cmpC s) x p) []) with
   | none=>simp
   | some G =>
    simp only [Option.map_some];split
    · simp
    · simp [Zho]
end
end Go.Proofs.Ytkpjjfhfbpfjpaa
