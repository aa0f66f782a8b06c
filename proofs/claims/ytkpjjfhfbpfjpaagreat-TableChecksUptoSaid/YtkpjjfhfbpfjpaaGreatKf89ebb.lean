import Derived.Test.YtkpjjfhfbpfjpaaGreatK6f183a
set_option linter.unusedVariables false
set_option linter.unusedSimpArgs false
set_option maxRecDepth 100000
set_option maxHeartbeats 8000000
namespace Go.Proofs.YtkpjjfhfbpfjpaaGreat
theorem ZfB (s:Sch) (t m:Int):∀ (l:List Row) (p:Option Row),ZaX s t m p l=true→(∀ q,p=some q→∀ j,j<l.length→cmpR (keyF s t q) (keyF s t (l.getD j []))<0)∧Asc s t l
 | [],p,_=>⟨fun _ _ j hj=>by simp at hj,fun i j _ hj=>by simp at hj⟩
 | r :: l,p,h=>by
  simp only [ZaX,Bool.and_eq_true] at h;obtain⟨⟨h1,h2⟩,h3⟩:=h;obtain⟨h4,h5⟩:=ZfB s t m l (some r) h3;have h6:∀ q,p=some q→cmpR (keyF s t q) (keyF s t r)<0:=(fun q e=>by subst e;exact of_decide_eq_true h2);refine⟨fun q e j hj=>?_,fun i j hij hj=>?_⟩
  · cases j with
    | zero=>exact h6 q e
    | succ j=>exact cmpR_is.lt_trans (h6 q e) (h4 r rfl j (by simpa using hj))
  · cases j with
    | zero=>omega
    | succ j =>
     cases i with
     | zero=>exact h4 r rfl j (by simpa using hj)
     | succ i=>exact h5 i j (by omega) (by simpa using hj)
theorem Zgj (s:Sch) (m:Int):∀ (st:St) (t k:Nat),stOk s m t st=true→k<st.length→ZaX s ((t+k:Nat):Int) m none (st.getD k [])=true
 | [],t,k,_,hk=>by simp at hk
 | l :: st,t,k,h,hk=>by
  simp only [stOk,Bool.and_eq_true] at h;cases k with
  | zero=>exact h.1
  | succ k =>
   have:=Zgj s m st (t+1) k h.2 (by simpa using hk);rw [show t+1+k=t+(k+1) by omega] at this;exact this
theorem stOk_asc {s:Sch} {m:Int} {st:St} (h:stOk s m 0 st=true) (k:Nat) (hk:k<st.length):Asc s k (st.getD k []):=by
 have:=Zgj s m st 0 k h hk;rw [Nat.zero_add] at this;exact(ZfB s k m _ none this).2
theorem countF_set (st:St) (t:Nat) (l:List Row) (h:t<st.length):(Zak (st.set t l):Int)=Zak st+(l.length - (st.getD t []).length:Int):=by
 induction st generalizing t with
 | nil=>simp at h
 | cons a r ih =>
  cases t with
  | zero=>simp only [List.set_cons_zero,Zak,List.getD_cons_zero];omega
  | succ t =>
   have:=ih t (by simpa using h);simp only [List.set_cons_succ,Zak,List.getD_cons_succ];omega
theorem ZdO (st:St) (t:Nat):(st.getD t []).length≤Zak st:=by
 induction st generalizing t with
 | nil=>simp
 | cons a r ih =>
  cases t with
  | zero=>simp [Zak]
  | succ t=>have:=ih t;simp only [Zak,List.getD_cons_succ];omega
theorem key_new {s:Sch} {m:Int} {c:Chg} (hv:ZaR s m c=true) (hn:0<c.new.length):keyF s c.table c.new=keyC s c:=by
 unfold keyC;split
 · rename_i h0
   unfold ZaR at hv;simp only [Bool.and_eq_true,Bool.or_eq_true,decide_eq_true_eq,beq_iff_eq] at hv;rcases hv.2 with (h | h) | h
   · omega
   · omega
   · exact((cmpR_is.zero _ _).1 h).symm
 · rfl
theorem Zfe (a b:List Row) (i:Nat) (h:i<a.length):(a++b).getD i []=a.getD i []:=by simp [List.getD,List.getElem?_append_left h]
theorem Zfd (a b:List Row) (i:Nat) (h:a.length≤i):(a++b).getD i []=b.getD (i - a.length) []:=by simp [List.getD,List.getElem?_append_right h]
theorem Zcm {s:Sch} {t:Int} {a b:List Row} (ha:Asc s t a) (hb:Asc s t b) (hab:∀ x ∈ a,∀ y ∈ b,cmpR (keyF s t x) (keyF s t y)<0):Asc s t (a++b):=by
 intro i j hij hj;rw [List.length_append] at hj
 by_cases h1:j<a.length
 · rw [Zfe _ _ _ (by omega),Zfe _ _ _ h1];exact ha i j hij h1
 · by_cases h2:i<a.length
   · rw [Zfe _ _ _ h2,Zfd _ _ _ (by omega)];refine hab _ ?_ _ ?_
     · simp [List.getD,h2]
     · have:j - a.length<b.length:=(by omega);simp [List.getD,this]
   · rw [Zfd _ _ _ (by omega),Zfd _ _ _ (by omega)];exact hb _ _ (by omega) (by omega)
theorem Zgc {s:Sch} {t:Int} {l:List Row} (h:Asc s t l) (k:Nat):Asc s t (l.take k):=by
 intro i j hij hj;rw [List.length_take] at hj;have e:∀ x,x<k→(l.take k).getD x []=l.getD x []:=(fun x hx=>by simp [List.getD,List.getElem?_take,hx]);rw [e i (by omega),e j (by omega)];exact h i j hij (by omega)
theorem ZdP {l:List Row} (k i:Nat):(l.drop k).getD i []=l.getD (k+i) []:=by simp [List.getD,List.getElem?_drop]
theorem Zhf {s:Sch} {t:Int} {l:List Row} (h:Asc s t l) (k:Nat):Asc s t (l.drop k):=by
 intro i j hij hj;rw [List.length_drop] at hj;rw [ZdP,ZdP];exact h _ _ (by omega) (by omega)
theorem ZfX {l:List Row} {x:Row} (h:x ∈ l):∃ i,i<l.length∧l.getD i []=x:=by
 obtain⟨i,hi,e⟩:=List.mem_iff_getElem.1 h;exact⟨i,hi,by simp [List.getD,hi,e]⟩
theorem ZhC (s:Sch) (t:Int) (r:Row):Asc s t [r]:=fun i j hij hj=>by simp at hj;omega
theorem ZfG {s:Sch} {t:Int} {key:Row} {l:List Row} (ha:Asc s t l) {k:Nat} (hk:k<l.length) (h1:low s t key l≤k) (h2:k=low s t key l→cmpR (keyF s t (l.getD k [])) key≠0):cmpR key (keyF s t (l.getD k []))<0:=by
 have h3:=Zhv s t key l (by omega);have hfl:∀ a b:Row,cmpR b a=- cmpR a b:=cmpR_is.flip;rcases Nat.lt_or_eq_of_le h1 with h4 | h4
 · have h5:=ha _ _ h4 hk;have h6:cmpR key (keyF s t (l.getD (low s t key l) []))≤0:=(by rw [hfl];omega);exact cmpR_is.le_lt_trans h6 h5
 · subst h4;have:=h2 rfl;rw [hfl];omega
theorem asc_put {s:Sch} {m:Int} {c:Chg} {l:List Row} (ha:Asc s c.table l) (hv:ZaR s m c=true):Asc s c.table (putC s c l):=by
 unfold putC
 have hlt:∀ x ∈ l.take (low s c.table (keyC s c) l),cmpR (keyF s c.table x) (keyC s c)<0:=by
  intro x hx;obtain⟨i,hi,e⟩:=ZfX hx;rw [List.length_take] at hi;have e2:(l.take (low s c.table (keyC s c) l)).getD i []=l.getD i []:=(by simp [List.getD,List.getElem?_take,show i<low s c.table (keyC s c) l by omega]);rw [←e,e2];exact Zhu s c.table (keyC s c) l i (by omega)
 have hgt:∀ y ∈ (if Zcb s c l then l.drop (low s c.table (keyC s c) l+1) else l.drop (low s c.table (keyC s c) l)),cmpR (keyC s c) (keyF s c.table y)<0:=by
  intro y hy;cases hf:Zcb s c l with
  | true =>
   rw [hf] at hy;obtain⟨i,hi,e⟩:=ZfX hy;simp only [if_true,List.length_drop] at hi;simp only [if_true,ZdP] at e;rw [←e];exact ZfG ha (by omega) (by omega) (fun h=>by omega)
  | false =>
   rw [hf] at hy;obtain⟨i,hi,e⟩:=ZfX hy;simp only [Bool.false_eq_true,if_false,List.length_drop] at hi;simp only [Bool.false_eq_true,if_false,ZdP] at e;rw [←e];refine ZfG ha (by omega) (by omega) (fun h=>?_);have hi0:i=0:=(by omega);subst hi0;unfold Zcb at hf;rw [decide_eq_true (show low s c.table (keyC s c) l<l.length by omega),Bool.true_and] at hf;rw [Nat.add_zero];exact beq_eq_false_iff_ne.1 hf
 have hdr:Asc s c.table (if Zcb s c l then l.drop (low s c.table (keyC s c) l+1) else l.drop (low s c.table (keyC s c) l)):=by split<;>exact Zhf ha _
 by_cases hn:0<c.new.length
 · rw [if_pos hn];have hk:=key_new hv hn;refine Zcm (Zcm (Zgc ha _) (ZhC _ _ _) (fun x hx y hy=>?_)) hdr (fun x hx y hy=>?_)
   · rw [List.mem_singleton] at hy;rw [hy,hk];exact hlt x hx
   · rcases List.mem_append.1 hx with hx | hx
     · exact cmpR_is.lt_trans (hlt x hx) (hgt y hy)
     · rw [List.mem_singleton] at hx;rw [hx,hk];exact hgt y hy
 · rw [if_neg hn,List.append_nil];exact Zcm (Zgc ha _) hdr (fun x hx y hy=>cmpR_is.lt_trans (hlt x hx) (hgt y hy))
theorem Zho (s:Sch) (c:Chg) (l:List Row):(putC s c l).length≤l.length+1:=by
 unfold putC;have:=Zeu s c.table (keyC s c) l;simp only [List.length_append,List.length_take];split<;>split<;>simp<;>omega
theorem check_ok {e:Int} {s:Sch} {m:Int} {st:St} (h:ZaE e s m st=0):Zak st≤512∧st.length=s.tabs.length∧stOk s m 0 st=true:=by
 unfold ZaE at h;split at h
 · omega
 · split at h
   · omega
   · split at h
     · omega
     · rename_i h1 h2 h3
       split at h
       · rename_i h4
         exact⟨by omega,by simpa using h3,h4⟩
       · omega
end Go.Proofs.YtkpjjfhfbpfjpaaGreat
