import Derived.Test.YtkpjjfhfbpfjpaaK42e91f
set_option linter.unusedVariables false
set_option linter.unusedSimpArgs false
set_option maxRecDepth 100000
set_option maxHeartbeats 8000000
namespace Go.Proofs.Ytkpjjfhfbpfjpaa
section
variable {α:Type} (f:α→α→Int)
def Zcy (x:α):List α→List α
 | []=>[x]
 | y :: r=>if f x y<0 then y :: Zcy x r else x :: y :: r
def ins (x:α) (p:List α):List α:=(Zcy f x p.reverse).reverse
def Zap (l:List α):List α:=l.foldl (fun p x=>ins f x p) []
theorem Zfg (x:α):∀ (r s:List α),(∀ y ∈ r,f x y<0)→Zcy f x (r++s)=r++Zcy f x s
 | [],s,_=>rfl
 | y :: r,s,h=>by
  rw [List.cons_append,Zcy,if_pos (h y (by simp)),Zfg x r s (fun z hz=>h z (by simp [hz]))];rfl
theorem ZfU (x:α) (p q:List α) (hq:∀ y ∈ q,f x y<0) (hp:∀ y,p.getLast?=some y→0≤f x y):ins f x (p++q)=p++x :: q:=by
 unfold ins;rw [List.reverse_append,Zfg f x _ _ (fun y hy=>hq y (by simpa using hy))]
 have:Zcy f x p.reverse=x :: p.reverse:=by
  cases hr:p.reverse with
  | nil=>rfl
  | cons y r =>
   have h1:p.getLast?=some y:=(by rw [List.getLast?_eq_head?_reverse,hr];rfl);have:=hp y h1;rw [Zcy,if_neg (by omega)]
 rw [this];simp
theorem Zff (x:α):∀ r:List α,(Zcy f x r).length=r.length+1
 | []=>rfl
 | y :: r=>by unfold Zcy;split<;>simp [Zff x r]
theorem ins_len (x:α) (p:List α):(ins f x p).length=p.length+1:=by simp [ins,Zff]
theorem Zfc (l:List α) (x:α):Zap f (l++[x])=ins f x (Zap f l):=by simp [Zap]
theorem ZaT (l:List α):(Zap f l).length=l.length:=by
 have key:∀ (l p:List α),(l.foldl (fun p x=>ins f x p) p).length=p.length+l.length:=by
  intro l;induction l with
  | nil=>intro p;simp
  | cons x l ih=>intro p;rw [List.foldl_cons,ih,ins_len,List.length_cons];omega
 simpa [Zap] using key l []
theorem Zfe (x:α):∀ (r:List α) (y:α),y ∈ Zcy f x r↔y=x∨y ∈ r
 | [],y=>by simp [Zcy]
 | z :: r,y=>by
  unfold Zcy;split
  · simp only [List.mem_cons,Zfe x r y];constructor
    · rintro(h | h | h)
      · exact .inr (.inl h)
      · exact .inl h
      · exact .inr (.inr h)
    · rintro(h | h | h)
      · exact .inr (.inl h)
      · exact .inl h
      · exact .inr (.inr h)
  · simp
theorem ins_mem (x:α) (p:List α) (y:α):y ∈ ins f x p↔y=x∨y ∈ p:=by simp [ins,Zfe]
theorem Zez (l:List α) (y:α):y ∈ Zap f l↔y ∈ l:=by
 have key:∀ (l p:List α),y ∈ l.foldl (fun p x=>ins f x p) p↔y ∈ p∨y ∈ l:=by
  intro l;induction l with
  | nil=>intro p;simp
  | cons x l ih =>
   intro p;rw [List.foldl_cons,ih,ins_mem,List.mem_cons];constructor
   · rintro((h | h) | h)
     · exact .inr (.inl h)
     · exact .inl h
     · exact .inr (.inr h)
   · rintro(h | h | h)
     · exact .inl (.inr h)
     · exact .inl (.inl h)
     · exact .inr h
 simpa [Zap] using key l []
end
def ZbH (s:Sch) (m:Int):List Chg→Nat
 | []=>0
 | c :: l=>if Zat s m c then ZbH s m l+1 else 0
theorem Zfx (s:Sch) (m:Int):∀ l:List Chg,ZbH s m l≤l.length
 | []=>Nat.le_refl _
 | c :: l=>by unfold ZbH;have:=Zfx s m l;split<;>simp<;>omega
theorem Zdd (s:Sch) (m:Int):∀ (l:List Chg) (k:Nat),k<ZbH s m l→Zat s m (l.getD k chg0)=true
 | [],k,h=>by simp [ZbH] at h
 | c :: l,k,h=>by
  unfold ZbH at h;split at h
  · rename_i hc
    cases k with
    | zero=>exact hc
    | succ k=>exact Zdd s m l k (by omega)
  · omega
theorem Zfi (s:Sch) (m:Int):∀ (l:List Chg),ZbH s m l<l.length→Zat s m (l.getD (ZbH s m l) chg0)=false
 | [],h=>by simp at h
 | c :: l,h=>by
  by_cases hc:Zat s m c=true
  · have e:ZbH s m (c :: l)=ZbH s m l+1:=(by rw [ZbH,if_pos hc]);rw [e] at h ⊢;exact Zfi s m l (by simpa using h)
  · have e:ZbH s m (c :: l)=0:=(by rw [ZbH,if_neg hc]);rw [e];simpa using hc
def badI (s:Sch) (m:Int) (l:List Chg):Int:=if ZbH s m l<l.length then ZbH s m l else -1
def cmpC (s:Sch) (a b:Chg):Int:=if a.table≠b.table then a.table - b.table else cmpR (keyC s a) (keyC s b)
def Zer (s:Sch) (a b:Chg):Bool:=(a.table == b.table)&&(cmpR (keyC s a) (keyC s b) == 0)
def Zbc (f la:Chg):List Chg:=if cmpR f.old la.new=0 then [] else [⟨f.table,f.old,la.new⟩]
def Zaw (s:Sch):Option (Chg × Chg)→List Chg→Option (List Chg)
 | none,[]=>some []
 | none,x :: r=>Zaw s (some (x,x)) r
 | some (f,la),[]=>some (Zbc f la)
 | some (f,la),x :: r=>if Zer s f x then (if cmpR la.new x.old=0 then Zaw s (some (f,x)) r else none) else (Zaw s (some (x,x)) r).map (Zbc f la++·)
def netF (e:Int) (s:Sch) (m:Int) (l:List Chg):Int × List Chg :=
 if ZcA e m≠0 then (ZcA e m,[]) else match Zaw s none (Zap (cmpC s) (l.take (ZbH s m l))) with
  | none=>(81,[])
  | some o=>if ZbH s m l<l.length then (71,[]) else (0,o)
theorem ZfR (s:Sch) {l:List Chg} {k:Nat} (h:k<l.length):Zaw s none (l.drop k)=Zaw s (some (l.getD k chg0,l.getD k chg0)) (l.drop (k+1)):=by
 have e:l.getD k chg0=l[k]:=(by simp [List.getD,h]);rw [List.drop_eq_getElem_cons h,Zaw,e]
theorem Zgt (s:Sch) (f la:Chg) {l:List Chg} {k:Nat} (h:k<l.length):Zaw s (some (f,la)) (l.drop k)=if Zer s f (l.getD k chg0) then (if cmpR la.new (l.getD k chg0).old=0 then Zaw s (some (f,l.getD k chg0)) (l.drop (k+1)) else none) else (Zaw s none (l.drop k)).map (Zbc f la++·):=by
 have e:l.getD k chg0=l[k]:=(by simp [List.getD,h]);rw [List.drop_eq_getElem_cons h,Zaw,e,Zaw]
theorem ZgP (s:Sch) (f la:Chg) {l:List Chg} {k:Nat} (h:l.length≤k):Zaw s (some (f,la)) (l.drop k)=(Zaw s none (l.drop k)).map (Zbc f la++·):=by
 rw [List.drop_eq_nil_of_le h,Zaw,Zaw];simp
theorem Zct (o p:List Chg) (x:Option (List Chg)):(x.map (p++·)).map (o++·)=x.map ((o++p)++·):=by cases x<;>simp
theorem netF_bad {e:Int} {s:Sch} {m:Int} {l:List Chg} (h:ZcA e m≠0):netF e s m l=(ZcA e m,[]):=by unfold netF;rw [if_pos h]
theorem netF_conflict {e:Int} {s:Sch} {m:Int} {l:List Chg} (h:ZcA e m=0) (h2:Zaw s none (Zap (cmpC s) (l.take (ZbH s m l)))=none):netF e s m l=(81,[]):=by unfold netF;rw [if_neg (by omega),h2]
theorem netF_row {e:Int} {s:Sch} {m:Int} {l o:List Chg} (h:ZcA e m=0) (h2:Zaw s none (Zap (cmpC s) (l.take (ZbH s m l)))=some o) (h3:ZbH s m l<l.length):netF e s m l=(71,[]):=by
 unfold netF;rw [if_neg (by omega),h2];simp [h3]
theorem netF_ok {e:Int} {s:Sch} {m:Int} {l o:List Chg} (h:ZcA e m=0) (h2:Zaw s none (Zap (cmpC s) (l.take (ZbH s m l)))=some o) (h3:¬ ZbH s m l<l.length):netF e s m l=(0,o):=by
 unfold netF;rw [if_neg (by omega),h2];simp [h3]
section
variable {s:Sch}
def outs (G:List (Chg × Chg)):List Chg:=G.flatMap fun p=>Zbc p.1 p.2
theorem cmpC_flip (a b:Chg):cmpC s a b<0↔0<cmpC s b a:=by
 unfold cmpC
 by_cases h:a.table=b.table
 · have:=cmpR_is.flip (keyC s a) (keyC s b);simp [h];omega
 · have h':¬ b.table=a.table:=fun e=>h e.symm;simp [h,h'];omega
theorem cmpC_le_trans {a b c:Chg} (h1:cmpC s a b≤0) (h2:cmpC s b c≤0):cmpC s a c≤0:=by
 unfold cmpC at *
 by_cases x:a.table=b.table
 · by_cases y:b.table=c.table
   · have z:a.table=c.table:=x.trans y;simp only [x,y,z,ne_eq,not_true,if_false] at *;exact cmpR_is.trans _ _ _ h1 h2
   · have z:¬ a.table=c.table:=fun e=>y (x ▸ e);simp only [ne_eq,y,z,not_false_eq_true,if_true] at *;omega
 · simp only [ne_eq,x,not_false_eq_true,if_true] at h1
   by_cases y:b.table=c.table
   · have z:¬ a.table=c.table:=(by omega);simp only [ne_eq,z,not_false_eq_true,if_true];omega
   · simp only [ne_eq,y,not_false_eq_true,if_true] at h2;have z:¬ a.table=c.table:=(by omega);simp only [ne_eq,z,not_false_eq_true,if_true];omega
end
section
variable {s:Sch}
end
end Go.Proofs.Ytkpjjfhfbpfjpaa
