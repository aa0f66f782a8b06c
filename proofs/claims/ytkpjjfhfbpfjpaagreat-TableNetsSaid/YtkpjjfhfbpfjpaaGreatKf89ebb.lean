import Derived.Test.YtkpjjfhfbpfjpaaGreatK42e91f
set_option linter.unusedVariables false
set_option linter.unusedSimpArgs false
set_option maxRecDepth 100000
set_option maxHeartbeats 8000000
namespace Go.Proofs.YtkpjjfhfbpfjpaaGreat
theorem Zgo (s:Sch) (t m:Int):∀ (l:List Row) (p:Option Row),Zcc s t m p l=true→(∀ q,p=some q→∀ j,j<l.length→cmpR (keyF s t q) (keyF s t (l.getD j []))<0)∧Asc s t l
 | [],p,_=>⟨fun _ _ j hj=>by simp at hj,fun i j _ hj=>by simp at hj⟩
 | r :: l,p,h=>by
  simp only [Zcc,Bool.and_eq_true] at h;obtain⟨⟨h1,h2⟩,h3⟩:=h;obtain⟨h4,h5⟩:=Zgo s t m l (some r) h3;have h6:∀ q,p=some q→cmpR (keyF s t q) (keyF s t r)<0:=(fun q e=>by subst e;exact of_decide_eq_true h2);refine⟨fun q e j hj=>?_,fun i j hij hj=>?_⟩
  · cases j with
    | zero=>exact h6 q e
    | succ j=>exact cmpR_is.lt_trans (h6 q e) (h4 r rfl j (by simpa using hj))
  · cases j with
    | zero=>omega
    | succ j =>
     cases i with
     | zero=>exact h4 r rfl j (by simpa using hj)
     | succ i=>exact h5 i j (by omega) (by simpa using hj)
theorem Zhk (s:Sch) (m:Int):∀ (st:St) (t k:Nat),stOk s m t st=true→k<st.length→Zcc s ((t+k:Nat):Int) m none (st.getD k [])=true
 | [],t,k,_,hk=>by simp at hk
 | l :: st,t,k,h,hk=>by
  simp only [stOk,Bool.and_eq_true] at h;cases k with
  | zero=>exact h.1
  | succ k =>
   have:=Zhk s m st (t+1) k h.2 (by simpa using hk);rw [show t+1+k=t+(k+1) by omega] at this;exact this
theorem stOk_asc {s:Sch} {m:Int} {st:St} (h:stOk s m 0 st=true) (k:Nat) (hk:k<st.length):Asc s k (st.getD k []):=by
 have:=Zhk s m st 0 k h hk;rw [Nat.zero_add] at this;exact(Zgo s k m _ none this).2
theorem ZgD (st:St) (t:Nat) (l:List Row) (h:t<st.length):(Zap (st.set t l):Int)=Zap st+(l.length - (st.getD t []).length:Int):=by
 induction st generalizing t with
 | nil=>simp at h
 | cons a r ih =>
  cases t with
  | zero=>simp only [List.set_cons_zero,Zap,List.getD_cons_zero];omega
  | succ t =>
   have:=ih t (by simpa using h);simp only [List.set_cons_succ,Zap,List.getD_cons_succ];omega
theorem Zcu (st:St) (t:Nat):(st.getD t []).length≤Zap st:=by
 induction st generalizing t with
 | nil=>simp
 | cons a r ih =>
  cases t with
  | zero=>simp [Zap]
  | succ t=>have:=ih t;simp only [Zap,List.getD_cons_succ];omega
theorem key_new {s:Sch} {m:Int} {c:Chg} (hv:Zaq s m c=true) (hn:0<c.new.length):keyF s c.table c.new=keyC s c:=by
 unfold keyC;split
 · rename_i h0
   unfold Zaq at hv;simp only [Bool.and_eq_true,Bool.or_eq_true,decide_eq_true_eq,beq_iff_eq] at hv;rcases hv.2 with (h | h) | h
   · omega
   · omega
   · exact((cmpR_is.zero _ _).1 h).symm
 · rfl
theorem ZfN (a b:List Row) (i:Nat) (h:i<a.length):(a++b).getD i []=a.getD i []:=by simp [List.getD,List.getElem?_append_left h]
theorem ZfM (a b:List Row) (i:Nat) (h:a.length≤i):(a++b).getD i []=b.getD (i - a.length) []:=by simp [List.getD,List.getElem?_append_right h]
theorem ZcC {s:Sch} {t:Int} {a b:List Row} (ha:Asc s t a) (hb:Asc s t b) (hab:∀ x ∈ a,∀ y ∈ b,cmpR (keyF s t x) (keyF s t y)<0):Asc s t (a++b):=by
 intro i j hij hj;rw [List.length_append] at hj
 by_cases h1:j<a.length
 · rw [ZfN _ _ _ (by omega),ZfN _ _ _ h1];exact ha i j hij h1
 · by_cases h2:i<a.length
   · rw [ZfN _ _ _ h2,ZfM _ _ _ (by omega)];refine hab _ ?_ _ ?_
     · simp [List.getD,h2]
     · have:j - a.length<b.length:=(by omega);simp [List.getD,this]
   · rw [ZfM _ _ _ (by omega),ZfM _ _ _ (by omega)];exact hb _ _ (by omega) (by omega)
theorem Zhb {s:Sch} {t:Int} {l:List Row} (h:Asc s t l) (k:Nat):Asc s t (l.take k):=by
 intro i j hij hj;rw [List.length_take] at hj;have e:∀ x,x<k→(l.take k).getD x []=l.getD x []:=(fun x hx=>by simp [List.getD,List.getElem?_take,hx]);rw [e i (by omega),e j (by omega)];exact h i j hij (by omega)
theorem Zex {l:List Row} (k i:Nat):(l.drop k).getD i []=l.getD (k+i) []:=by simp [List.getD,List.getElem?_drop]
theorem asc_drop {s:Sch} {t:Int} {l:List Row} (h:Asc s t l) (k:Nat):Asc s t (l.drop k):=by
 intro i j hij hj;rw [List.length_drop] at hj;rw [Zex,Zex];exact h _ _ (by omega) (by omega)
theorem ZgS {l:List Row} {x:Row} (h:x ∈ l):∃ i,i<l.length∧l.getD i []=x:=by
 obtain⟨i,hi,e⟩:=List.mem_iff_getElem.1 h;exact⟨i,hi,by simp [List.getD,hi,e]⟩
theorem asc_one (s:Sch) (t:Int) (r:Row):Asc s t [r]:=fun i j hij hj=>by simp at hj;omega
theorem Zgw {s:Sch} {t:Int} {key:Row} {l:List Row} (ha:Asc s t l) {k:Nat} (hk:k<l.length) (h1:low s t key l≤k) (h2:k=low s t key l→cmpR (keyF s t (l.getD k [])) key≠0):cmpR key (keyF s t (l.getD k []))<0:=by
 have h3:=low_ge s t key l (by omega);have hfl:∀ a b:Row,cmpR b a=- cmpR a b:=cmpR_is.flip;rcases Nat.lt_or_eq_of_le h1 with h4 | h4
 · have h5:=ha _ _ h4 hk;have h6:cmpR key (keyF s t (l.getD (low s t key l) []))≤0:=(by rw [hfl];omega);exact cmpR_is.le_lt_trans h6 h5
 · subst h4;have:=h2 rfl;rw [hfl];omega
theorem asc_put {s:Sch} {m:Int} {c:Chg} {l:List Row} (ha:Asc s c.table l) (hv:Zaq s m c=true):Asc s c.table (putC s c l):=by
 unfold putC
 have hlt:∀ x ∈ l.take (low s c.table (keyC s c) l),cmpR (keyF s c.table x) (keyC s c)<0:=by
  intro x hx;obtain⟨i,hi,e⟩:=ZgS hx;rw [List.length_take] at hi;have e2:(l.take (low s c.table (keyC s c) l)).getD i []=l.getD i []:=(by simp [List.getD,List.getElem?_take,show i<low s c.table (keyC s c) l by omega]);rw [←e,e2];exact low_lt s c.table (keyC s c) l i (by omega)
 have hgt:∀ y ∈ (if Zcd s c l then l.drop (low s c.table (keyC s c) l+1) else l.drop (low s c.table (keyC s c) l)),cmpR (keyC s c) (keyF s c.table y)<0:=by
  intro y hy;cases hf:Zcd s c l with
  | true =>
   rw [hf] at hy;obtain⟨i,hi,e⟩:=ZgS hy;simp only [if_true,List.length_drop] at hi;simp only [if_true,Zex] at e;rw [←e];exact Zgw ha (by omega) (by omega) (fun h=>by omega)
  | false =>
   rw [hf] at hy;obtain⟨i,hi,e⟩:=ZgS hy;simp only [Bool.false_eq_true,if_false,List.length_drop] at hi;simp only [Bool.false_eq_true,if_false,Zex] at e;rw [←e];refine Zgw ha (by omega) (by omega) (fun h=>?_);have hi0:i=0:=(by omega);subst hi0;unfold Zcd at hf;rw [decide_eq_true (show low s c.table (keyC s c) l<l.length by omega),Bool.true_and] at hf;rw [Nat.add_zero];exact beq_eq_false_iff_ne.1 hf
 have hdr:Asc s c.table (if Zcd s c l then l.drop (low s c.table (keyC s c) l+1) else l.drop (low s c.table (keyC s c) l)):=by split<;>exact asc_drop ha _
 by_cases hn:0<c.new.length
 · rw [if_pos hn];have hk:=key_new hv hn;refine ZcC (ZcC (Zhb ha _) (asc_one _ _ _) (fun x hx y hy=>?_)) hdr (fun x hx y hy=>?_)
   · rw [List.mem_singleton] at hy;rw [hy,hk];exact hlt x hx
   · rcases List.mem_append.1 hx with hx | hx
     · exact cmpR_is.lt_trans (hlt x hx) (hgt y hy)
     · rw [List.mem_singleton] at hx;rw [hx,hk];exact hgt y hy
 · rw [if_neg hn,List.append_nil];exact ZcC (Zhb ha _) hdr (fun x hx y hy=>cmpR_is.lt_trans (hlt x hx) (hgt y hy))
theorem put_len (s:Sch) (c:Chg) (l:List Row):(putC s c l).length≤l.length+1:=by
 unfold putC;have:=Zfc s c.table (keyC s c) l;simp only [List.length_append,List.length_take];split<;>split<;>simp<;>omega
theorem check_ok {e:Int} {s:Sch} {m:Int} {st:St} (h:Zcr e s m st=0):Zap st≤512∧st.length=s.tabs.length∧stOk s m 0 st=true:=by
 unfold Zcr at h;split at h
 · omega
 · split at h
   · omega
   · split at h
     · omega
     · rename_i h1 h2 h3
       split at h
       · rename_i h4
         exact⟨by omega,by simpa using h3,h4⟩
       · omega
end Go.Proofs.YtkpjjfhfbpfjpaaGreat
