import Derived.Test.YtkpjjfhfbpfjpaaGreatKb0a16e
import Derived.Test.YtkpjjfhfbpfjpaaGreatK122a8f
import Derived.Test.YtkpjjfhfbpfjpaaGreatKfef5b4
set_option linter.unusedVariables false
set_option linter.unusedSimpArgs false
set_option maxRecDepth 100000
set_option maxHeartbeats 8000000
namespace Go.Proofs.YtkpjjfhfbpfjpaaGreat
section
variable {s:Sch} {m:Int}
def prtS (s:Sch) (q:Nat→Row→Bool) (st:St):St:=(List.range st.length).map fun t=>(st.getD t []).filter fun r=>q t (keyF s t r)
theorem Zco (q:Nat→Row→Bool) (st:St):(prtS s q st).length=st.length:=by simp [prtS]
theorem Zfj (q:Nat→Row→Bool) {st:St} {t:Nat} (h:t<st.length):(prtS s q st).getD t []=(st.getD t []).filter fun r=>q t (keyF s t r):=by
 simp only [prtS,List.getD,List.getElem?_map,List.getElem?_range h,Option.map_some,Option.getD_some]
theorem Zfr {t:Int} {f:Row→Bool} {k:Row}:∀ l:List Row,ZaG s t k (l.filter fun r=>f (keyF s t r))=if f k then ZaG s t k l else none
 | []=>by simp [ZaG]
 | r :: l=>by
  have ih:=Zfr (t:=t) (f:=f) (k:=k) l;rw [ZcI k r l,List.filter_cons]
  by_cases h:cmpR (keyF s t r) k=0
  · have e:keyF s t r=k:=(cmpR_is.zero _ _).1 h
    by_cases hf:f k=true
    · have h2:f (keyF s t r)=true:=(by rw [e];exact hf);rw [if_pos h2,ZcI,if_pos h,if_pos hf,if_pos h]
    · have h2:¬ f (keyF s t r)=true:=(by rw [e];exact hf);rw [if_neg h2,ih,if_neg hf,if_neg hf]
  · rw [if_neg h];split
    · rw [ZcI,if_neg h,ih]
    · exact ih
theorem ZdW (q:Nat→Row→Bool) {st:St} {t:Nat} (h:t<st.length) (k:Row):look s (prtS s q st) t k=if q t k then look s st t k else []:=by
 unfold look;rw [Zfj q h,Zfr (f:=q t)];split<;>rfl
theorem ZdH (q:Nat→Row→Bool) {st:St} (h:StOk s m st):StOk s m (prtS s q st):=by
 refine⟨(Zco q st).trans h.1,fun t ht=>?_⟩;rw [Zco] at ht;rw [Zfj q ht];obtain⟨h1,h2⟩:=h.2 t ht;exact⟨fun r hr=>h1 r (List.mem_filter.1 hr).1,asc_pw.2 ((asc_pw.1 h2).filter _)⟩
theorem ZgO:∀ {l:List Chg} {st:St},Fit s m st l→∀ x ∈ l,Zap s m x=true
 | [],_,_,x,hx=>by simp at hx
 | y :: l,st,h,x,hx=>by
  rcases List.mem_cons.1 hx with rfl | hx
  · exact h.1.1
  · exact ZgO h.2 x hx
theorem ZgC (hw:∀ t,t<s.tabs.length→0<(s.tabs.getD t t0).cols.length) (q:Nat→Row→Bool) {a b:St} (ha:StOk s m a) (hb:StOk s m b) :
  Zdq s (prtS s q a) (prtS s q b)=(Zdq s a b).filter fun c=>q c.table.toNat (keyC s c):=by
 have hab:b.length=a.length:=hb.1.trans ha.1.symm;have pa:=ZdH q ha;have pb:=ZdH q hb;refine ZgW (ZcK pa pb (Zbw hw pa) (Zbw hw pb)) ((ZcK ha hb (Zbw hw ha) (Zbw hw hb)).filter _) (fun x=>?_);rw [Zdz pa pb,List.mem_filter,Zdz ha hb,Zco];constructor
 · rintro⟨t,ht,h1,h2,k,h3,h4⟩;rw [ZdW q ht] at h3;rw [ZdW q (by omega)] at h4
   by_cases hq:q t k=true
   · rw [if_pos hq] at h3 h4;have hk:=ZcE hw ha hb ht h1 h2 h3 h4;exact⟨⟨t,ht,h1,h2,k,h3,h4⟩,by rw [hk,h1,Int.toNat_natCast];exact hq⟩
   · rw [if_neg hq] at h3 h4;exact absurd (h3.trans h4.symm) h2
 · rintro⟨⟨t,ht,h1,h2,k,h3,h4⟩,h5⟩;have hk:=ZcE hw ha hb ht h1 h2 h3 h4;rw [hk,h1,Int.toNat_natCast] at h5;exact⟨t,ht,h1,h2,k,by rw [ZdW q ht,if_pos h5];exact h3,by rw [ZdW q (by omega),if_pos h5];exact h4⟩
theorem prtS_fit (hw:∀ t,t<s.tabs.length→0<(s.tabs.getD t t0).cols.length) (q:Nat→Row→Bool) {a b:St} (ha:StOk s m a) (hb:StOk s m b) :
  Fit s m (prtS s q a) ((Zdq s a b).filter fun c=>q c.table.toNat (keyC s c))∧after s (prtS s q a) ((Zdq s a b).filter fun c=>q c.table.toNat (keyC s c))=prtS s q b:=by
 have h:=ZhI hw (ZdH q ha) (ZdH q hb);rw [ZgC hw q ha hb] at h;exact h
theorem prtS_net (hw:∀ t,t<s.tabs.length→0<(s.tabs.getD t t0).cols.length) (hm:ZcD m=true) (q:Nat→Row→Bool) {a b:St} (ha:StOk s m a) (hb:StOk s m b) :
  netF 0 s m ((Zdq s a b).filter fun c=>q c.table.toNat (keyC s c))=(0,(Zdq s a b).filter fun c=>q c.table.toNat (keyC s c)):=by
 have hf:=prtS_fit hw q ha hb;have h:=Zhy hw hm (ZdH q ha) hf.1;rw [hf.2,ZgC hw q ha hb] at h;exact h
theorem sum_filter_le {l:List Row} {f:Row→Bool}:(l.filter f).length≤l.length:=List.length_filter_le _ _
theorem ZeO {f:Nat→List Row}:∀ (n:Nat) (st:St),(∀ t,t<n→(f t).length≤(st.getD t []).length)→n≤st.length→Zao ((List.range n).map f)≤Zao (st.take n)
 | 0,st,_,_=>by simp [Zao]
 | n+1,st,h,hn=>by
  have ih:=ZeO n st (fun t ht=>h t (by omega)) (by omega)
  have hx:∀ x:List Row,∀ l:St,Zao (l++[x])=Zao l+x.length:=by
   intro x l;induction l with
   | nil=>simp [Zao]
   | cons y l ih=>simp only [List.cons_append,Zao,ih];omega
  rw [List.range_succ,List.map_append,List.map_cons,List.map_nil,hx,ZdP _ _ (by omega)];have:=h n (by omega);omega
theorem Zeq (q:Nat→Row→Bool) (st:St):Zao (prtS s q st)≤Zao st:=by
 have h:=ZeO (f:=fun t=>(st.getD t []).filter fun r=>q t (keyF s t r)) st.length st (fun t _=>sum_filter_le) nR;rwa [List.take_length] at h
end
section
variable {α:Type} {f:α→α→Int} {cl:α→Nat} {T:List α}
def rest (cl:α→Nat) (T:List α) (k i:Nat):List α:=(T.drop k).filter fun x=>cl x == i
def posn (cl:α→Nat) (T:List α) (k i:Nat):Nat:=((T.take k).filter fun x=>cl x == i).length
theorem Zgz (k i:Nat):(T.filter fun x=>cl x == i).drop (posn cl T k i)=rest cl T k i:=by
 have h:T.filter (fun x=>cl x == i)=(T.take k).filter (fun x=>cl x == i)++rest cl T k i:=by
  unfold rest;rw [←List.filter_append,List.take_append_drop]
 rw [h];unfold posn;exact List.drop_left
theorem posn_le (k i:Nat):posn cl T k i≤(T.filter fun x=>cl x == i).length:=by
 have h:=congrArg List.length (show T.filter (fun x=>cl x == i)=(T.take k).filter (fun x=>cl x == i)++rest cl T k i by
  unfold rest;rw [←List.filter_append,List.take_append_drop])
 rw [List.length_append] at h;unfold posn;omega
theorem Zcg {k i:Nat} {x:α} {r:List α} (h:rest cl T k i=x :: r):posn cl T k i<(T.filter fun x=>cl x == i).length∧(T.filter fun x=>cl x == i)[posn cl T k i]?=some x∧x ∈ T.drop k∧cl x=i:=by
 have h1:=Zgz (cl:=cl) (T:=T) k i;rw [h] at h1
 have h2:(T.filter fun x=>cl x == i)[posn cl T k i]?=some x:=by
  have h3:=congrArg (fun l=>l[0]?) h1;simpa using h3
 have h4:x ∈ rest cl T k i:=(by rw [h];simp);unfold rest at h4;rw [List.mem_filter] at h4;exact⟨(List.getElem?_eq_some_iff.1 h2).1,h2,h4.1,by simpa using h4.2⟩
theorem Zht {k i:Nat} (h:rest cl T k i=[]):¬ posn cl T k i<(T.filter fun x=>cl x == i).length:=by
 have h1:=Zgz (cl:=cl) (T:=T) k i;rw [h] at h1;have:=congrArg List.length h1;simp at this;omega
theorem ZgD {k:Nat} (h:k<T.length) (i:Nat):posn cl T (k+1) i=posn cl T k i+if cl T[k]=i then 1 else 0:=by
 unfold posn;rw [List.take_succ_eq_append_getElem h,List.filter_append,List.length_append]
 congr 1
 by_cases e:cl T[k]=i
 · simp [e]
 · simp [e]
structure Best (f:α→α→Int) (cl:α→Nat) (T:List α) (k i c:Nat) (y:α) (r:List α):Prop where
 lt:c<i
 hd:rest cl T k c=y :: r
 le:∀ j,j<i→∀ z q,rest cl T k j=z :: q→¬ f z y<0
theorem Best.first {k i:Nat} {y:α} {r:List α} (h0:TPre f) (h:∀ j,j<i→rest cl T k j=[]) (hd:rest cl T k i=y :: r):Best f cl T k (i+1) i y r:=by
 refine⟨by omega,hd,fun j hj z q hz=>?_⟩;rcases Nat.lt_or_ge j i with h1 | h1
 · rw [h j h1] at hz;cases hz
 · obtain rfl:j=i:=(by omega);rw [hd] at hz;injection hz with hz _;rw [←hz,h0.refl];omega
theorem Best.skip {k i c:Nat} {y:α} {r:List α} (h:Best f cl T k i c y r) (hd:rest cl T k i=[]):Best f cl T k (i+1) c y r:=by
 refine⟨by have:=h.lt;omega,h.hd,fun j hj z q hz=>?_⟩;rcases Nat.lt_or_ge j i with h1 | h1
 · exact h.le j h1 z q hz
 · obtain rfl:j=i:=(by omega);rw [hd] at hz;cases hz
theorem Best.stay {k i c:Nat} {y z:α} {r q:List α} (h:Best f cl T k i c y r) (hd:rest cl T k i=z :: q) (hz:¬ f z y<0):Best f cl T k (i+1) c y r:=by
 refine⟨by have:=h.lt;omega,h.hd,fun j hj z' q' hz'=>?_⟩;rcases Nat.lt_or_ge j i with h1 | h1
 · exact h.le j h1 z' q' hz'
 · obtain rfl:j=i:=(by omega);rw [hd] at hz';injection hz' with hz' _;rw [←hz'];exact hz
theorem Best.turn {k i c:Nat} {y z:α} {r q:List α} (h0:TPre f) (h:Best f cl T k i c y r) (hd:rest cl T k i=z :: q) (hz:f z y<0):Best f cl T k (i+1) i z q:=by
 refine⟨by omega,hd,fun j hj z' q' hz'=>?_⟩;rcases Nat.lt_or_ge j i with h1 | h1
 · intro h2;exact h.le j h1 z' q' hz' (h0.lt_le h2 (by omega))
 · obtain rfl:j=i:=(by omega);rw [hd] at hz';injection hz' with hz' _;rw [←hz',h0.refl];omega
theorem Best.next {n k c:Nat} {y:α} {r:List α} (h0:TPre f) (hT:T.Pairwise (fun a b=>f a b<0)) (hc:∀ x ∈ T,cl x<n) (h:Best f cl T k n c y r):∃ hk:k<T.length,y=T[k]∧c=cl T[k]:=by
 obtain⟨h1,h2,h3,h4⟩:=Zcg h.hd
 have hk:k<T.length:=by
  rcases Nat.lt_or_ge k T.length with hk | hk
  · exact hk
  · rw [List.drop_eq_nil_of_le hk] at h3;simp at h3
 have hdr:=List.drop_eq_getElem_cons hk;have hmem:T[k] ∈ T:=List.getElem_mem hk;have hhd:∃ q,rest cl T k (cl T[k])=T[k] :: q:=⟨_,by unfold rest;rw [hdr,List.filter_cons,if_pos (by simp)]⟩;obtain⟨q,hq⟩:=hhd;have hle:=h.le (cl T[k]) (hc _ hmem) _ _ hq;have hp:(T.drop k).Pairwise (fun a b=>f a b<0):=List.Pairwise.sublist (List.drop_sublist _ _) hT;rw [hdr] at h3 hp;refine⟨hk,?_⟩;rcases List.mem_cons.1 h3 with e | h5
 · exact⟨e,by rw [←e];exact h4.symm⟩
 · exact absurd ((List.pairwise_cons.1 hp).1 y h5) hle
theorem Zhu {n k:Nat} (hc:∀ x ∈ T,cl x<n) (h:∀ j,j<n→rest cl T k j=[]):T.take k=T:=by
 rcases Nat.lt_or_ge k T.length with hk | hk
 · have hmem:T[k] ∈ T:=List.getElem_mem hk;have h1:=h (cl T[k]) (hc _ hmem);unfold rest at h1;rw [List.drop_eq_getElem_cons hk,List.filter_cons,if_pos (by simp)] at h1;cases h1
 · exact List.take_of_length_le hk
end
section
variable {s:Sch} {m:Int}
theorem Zff (s:Sch):TPre (cmpC s):=⟨fun a b=>ZaZ a b,fun a b c h1 h2=>ZbD h1 h2⟩
theorem Zfe:TPre cmpR:=⟨fun a b=>by have:=cmpR_is.flip a b;omega,fun a b c h1 h2=>cmpR_is.trans a b c h1 h2⟩
theorem Zhd {c:Chg} (h:Zap s m c=true):ZbH s c=keyC s c:=by
 unfold ZbH;split
 · rename_i h0
   exact Zhc h h0
 · rename_i h0
   have h1:=Zel h;unfold keyC;rw [if_pos (by omega)]
theorem cmpR_keys {k:Nat}:∀ {a b:Row},cmpR (a.take k) (b.take k)<0→a.length=b.length→cmpR a b<0:=by
 induction k with
 | zero=>intro a b h;simp [cmpR] at h
 | succ k ih =>
  intro a b h hl
  match a,b with
  | [],[]=>simp [cmpR] at h
  | [],_ :: _=>simp at hl
  | _ :: _,[]=>simp at hl
  | x :: a,y :: b =>
   simp only [List.take_succ_cons,cmpR] at h ⊢;split
   · rename_i h1;rw [if_pos h1] at h;exact h
   · rename_i h1;rw [if_neg h1] at h;exact ih h (by simpa using hl)
theorem asc_rows {t:Nat} {l:List Row} (h:ZfY s (t:Int) m l) (ht:t<s.tabs.length):l.Pairwise (fun a b=>cmpR a b<0):=by
 refine List.Pairwise.imp_of_mem ?_ (asc_pw.1 h.2);intro a b ha hb hab;have h1:=ZbW (h.1 a ha);have h2:=ZbW (h.1 b hb);have hl:a.length=b.length:=h1.trans h2.symm;have hh:hasN s.tabs.length (t:Int)=true:=(by simp [hasN];omega);unfold keyF at hab;rw [if_pos hh,if_pos hh] at hab;unfold keyN at hab;rw [hl] at hab;exact cmpR_keys hab hl
end
end Go.Proofs.YtkpjjfhfbpfjpaaGreat
