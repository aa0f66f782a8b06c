import Derived.Test.YtkpjjfhfbpfjpaaK6b6f2e
set_option linter.unusedVariables false
set_option linter.unusedSimpArgs false
set_option maxRecDepth 100000
set_option maxHeartbeats 8000000
namespace Go.Proofs.Ytkpjjfhfbpfjpaa
section
variable {α:Type} (f:α→α→Int)
def ZbU (x:α):List α→List α
 | []=>[x]
 | y :: r=>if f x y<0 then y :: ZbU x r else x :: y :: r
def ins (x:α) (p:List α):List α:=(ZbU f x p.reverse).reverse
def Zbf (l:List α):List α:=l.foldl (fun p x=>ins f x p) []
theorem Zec (x:α):∀ (r s:List α),(∀ y ∈ r,f x y<0)→ZbU f x (r++s)=r++ZbU f x s
 | [],s,_=>rfl
 | y :: r,s,h=>by
  rw [List.cons_append,ZbU,if_pos (h y (by simp)),Zec x r s (fun z hz=>h z (by simp [hz]))];rfl
theorem ZfH (x:α) (p q:List α) (hq:∀ y ∈ q,f x y<0) (hp:∀ y,p.getLast?=some y→0≤f x y):ins f x (p++q)=p++x :: q:=by
 unfold ins;rw [List.reverse_append,Zec f x _ _ (fun y hy=>hq y (by simpa using hy))]
 have:ZbU f x p.reverse=x :: p.reverse:=by
  cases hr:p.reverse with
  | nil=>rfl
  | cons y r =>
   have h1:p.getLast?=some y:=(by rw [List.getLast?_eq_head?_reverse,hr];rfl);have:=hp y h1;rw [ZbU,if_neg (by omega)]
 rw [this];simp
theorem Zeb (x:α):∀ r:List α,(ZbU f x r).length=r.length+1
 | []=>rfl
 | y :: r=>by unfold ZbU;split<;>simp [Zeb x r]
theorem ins_len (x:α) (p:List α):(ins f x p).length=p.length+1:=by simp [ins,Zeb]
theorem isort_snoc (l:List α) (x:α):Zbf f (l++[x])=ins f x (Zbf f l):=by simp [Zbf]
theorem ZdC (l:List α):(Zbf f l).length=l.length:=by
 have key:∀ (l p:List α),(l.foldl (fun p x=>ins f x p) p).length=p.length+l.length:=by
  intro l;induction l with
  | nil=>intro p;simp
  | cons x l ih=>intro p;rw [List.foldl_cons,ih,ins_len,List.length_cons];omega
 simpa [Zbf] using key l []
theorem Zea (x:α):∀ (r:List α) (y:α),y ∈ ZbU f x r↔y=x∨y ∈ r
 | [],y=>by simp [ZbU]
 | z :: r,y=>by
  unfold ZbU;split
  · simp only [List.mem_cons,Zea x r y];constructor
    · rintro(h | h | h)
      · exact .inr (.inl h)
      · exact .inl h
      · exact .inr (.inr h)
    · rintro(h | h | h)
      · exact .inr (.inl h)
      · exact .inl h
      · exact .inr (.inr h)
  · simp
theorem ins_mem (x:α) (p:List α) (y:α):y ∈ ins f x p↔y=x∨y ∈ p:=by simp [ins,Zea]
theorem isort_mem (l:List α) (y:α):y ∈ Zbf f l↔y ∈ l:=by
 have key:∀ (l p:List α),y ∈ l.foldl (fun p x=>ins f x p) p↔y ∈ p∨y ∈ l:=by
  intro l;induction l with
  | nil=>intro p;simp
  | cons x l ih =>
   intro p;rw [List.foldl_cons,ih,ins_mem,List.mem_cons];constructor
   · rintro((h | h) | h)
     · exact .inr (.inl h)
     · exact .inl h
     · exact .inr (.inr h)
   · rintro(h | h | h)
     · exact .inl (.inr h)
     · exact .inl (.inl h)
     · exact .inr h
 simpa [Zbf] using key l []
end
def Zbh (s:Sch) (m:Int):List Chg→Nat
 | []=>0
 | c :: l=>if ZaM s m c then Zbh s m l+1 else 0
theorem Zer (s:Sch) (m:Int):∀ l:List Chg,Zbh s m l≤l.length
 | []=>Nat.le_refl _
 | c :: l=>by unfold Zbh;have:=Zer s m l;split<;>simp<;>omega
theorem ZcD (s:Sch) (m:Int):∀ (l:List Chg) (k:Nat),k<Zbh s m l→ZaM s m (l.getD k chg0)=true
 | [],k,h=>by simp [Zbh] at h
 | c :: l,k,h=>by
  unfold Zbh at h;split at h
  · rename_i hc
    cases k with
    | zero=>exact hc
    | succ k=>exact ZcD s m l k (by omega)
  · omega
theorem Zee (s:Sch) (m:Int):∀ (l:List Chg),Zbh s m l<l.length→ZaM s m (l.getD (Zbh s m l) chg0)=false
 | [],h=>by simp at h
 | c :: l,h=>by
  by_cases hc:ZaM s m c=true
  · have e:Zbh s m (c :: l)=Zbh s m l+1:=(by rw [Zbh,if_pos hc]);rw [e] at h ⊢;exact Zee s m l (by simpa using h)
  · have e:Zbh s m (c :: l)=0:=(by rw [Zbh,if_neg hc]);rw [e];simpa using hc
def badI (s:Sch) (m:Int) (l:List Chg):Int:=if Zbh s m l<l.length then Zbh s m l else -1
def cmpC (s:Sch) (a b:Chg):Int:=if a.table≠b.table then a.table - b.table else cmpR (keyC s a) (keyC s b)
def Zdv (s:Sch) (a b:Chg):Bool:=(a.table == b.table)&&(cmpR (keyC s a) (keyC s b) == 0)
def ZaO (f la:Chg):List Chg:=if cmpR f.old la.new=0 then [] else [⟨f.table,f.old,la.new⟩]
def Zap (s:Sch):Option (Chg × Chg)→List Chg→Option (List Chg)
 | none,[]=>some []
 | none,x :: r=>Zap s (some (x,x)) r
 | some (f,la),[]=>some (ZaO f la)
 | some (f,la),x :: r=>if Zdv s f x then (if cmpR la.new x.old=0 then Zap s (some (f,x)) r else none) else (Zap s (some (x,x)) r).map (ZaO f la++·)
def netF (e:Int) (s:Sch) (m:Int) (l:List Chg):Int × List Chg :=
 if ZcZ e m≠0 then (ZcZ e m,[]) else match Zap s none (Zbf (cmpC s) (l.take (Zbh s m l))) with
  | none=>(81,[])
  | some o=>if Zbh s m l<l.length then (71,[]) else (0,o)
theorem ZeJ (s:Sch) {l:List Chg} {k:Nat} (h:k<l.length):Zap s none (l.drop k)=Zap s (some (l.getD k chg0,l.getD k chg0)) (l.drop (k+1)):=by
 have e:l.getD k chg0=l[k]:=(by simp [List.getD,h]);rw [List.drop_eq_getElem_cons h,Zap,e]
theorem Zfe (s:Sch) (f la:Chg) {l:List Chg} {k:Nat} (h:k<l.length):Zap s (some (f,la)) (l.drop k)=if Zdv s f (l.getD k chg0) then (if cmpR la.new (l.getD k chg0).old=0 then Zap s (some (f,l.getD k chg0)) (l.drop (k+1)) else none) else (Zap s none (l.drop k)).map (ZaO f la++·):=by
 have e:l.getD k chg0=l[k]:=(by simp [List.getD,h]);rw [List.drop_eq_getElem_cons h,Zap,e,Zap]
theorem Zfs (s:Sch) (f la:Chg) {l:List Chg} {k:Nat} (h:l.length≤k):Zap s (some (f,la)) (l.drop k)=(Zap s none (l.drop k)).map (ZaO f la++·):=by
 rw [List.drop_eq_nil_of_le h,Zap,Zap];simp
theorem ZbM (o p:List Chg) (x:Option (List Chg)):(x.map (p++·)).map (o++·)=x.map ((o++p)++·):=by cases x<;>simp
theorem netF_bad {e:Int} {s:Sch} {m:Int} {l:List Chg} (h:ZcZ e m≠0):netF e s m l=(ZcZ e m,[]):=by unfold netF;rw [if_pos h]
theorem netF_conflict {e:Int} {s:Sch} {m:Int} {l:List Chg} (h:ZcZ e m=0) (h2:Zap s none (Zbf (cmpC s) (l.take (Zbh s m l)))=none):netF e s m l=(81,[]):=by unfold netF;rw [if_neg (by omega),h2]
theorem netF_row {e:Int} {s:Sch} {m:Int} {l o:List Chg} (h:ZcZ e m=0) (h2:Zap s none (Zbf (cmpC s) (l.take (Zbh s m l)))=some o) (h3:Zbh s m l<l.length):netF e s m l=(71,[]):=by
 unfold netF;rw [if_neg (by omega),h2];simp [h3]
theorem netF_ok {e:Int} {s:Sch} {m:Int} {l o:List Chg} (h:ZcZ e m=0) (h2:Zap s none (Zbf (cmpC s) (l.take (Zbh s m l)))=some o) (h3:¬ Zbh s m l<l.length):netF e s m l=(0,o):=by
 unfold netF;rw [if_neg (by omega),h2];simp [h3]
section
variable {s:Sch}
def outs (G:List (Chg × Chg)):List Chg:=G.flatMap fun p=>ZaO p.1 p.2
end
section
variable {s:Sch}
end
end Go.Proofs.Ytkpjjfhfbpfjpaa
