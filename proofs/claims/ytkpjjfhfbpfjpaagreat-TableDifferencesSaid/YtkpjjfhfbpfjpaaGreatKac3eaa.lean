import Derived.Test.YtkpjjfhfbpfjpaaGreatKa64ff6
import Derived.Test.YtkpjjfhfbpfjpaaGreatK69fb77
import Derived.Test.YtkpjjfhfbpfjpaaGreatK2d4eed
import Derived.Test.YtkpjjfhfbpfjpaaGreatKb0474c
import Derived.Test.YtkpjjfhfbpfjpaaGreatK660fb2
import Derived.Test.YtkpjjfhfbpfjpaaGreatK49244f
import Derived.Laws.CopyOwn
import Derived.Laws.CopyRow
set_option linter.unusedVariables false
set_option linter.unusedSimpArgs false
set_option maxRecDepth 100000
set_option maxHeartbeats 8000000
namespace Go.Proofs.YtkpjjfhfbpfjpaaGreat
section
variable {s:Sch}
def outs (G:List (Chg × Chg)):List Chg:=G.flatMap fun p=>ZbF p.1 p.2
end
section
variable {s:Sch}
end
end Go.Proofs.YtkpjjfhfbpfjpaaGreat

namespace Go.Proofs.YtkpjjfhfbpfjpaaGreat
theorem pw_ext {α:Type} {lt:α→α→Prop} (irr:∀ a,¬ lt a a) (asy:∀ a b,lt a b→lt b a→False):∀ {l l':List α},l.Pairwise lt→l'.Pairwise lt→(∀ x,x ∈ l↔x ∈ l')→l=l'
 | [],[],_,_,_=>rfl
 | [],y :: l',_,_,h=>by have:=(h y).2 (by simp);simp at this
 | x :: l,[],_,_,h=>by have:=(h x).1 (by simp);simp at this
 | x :: l,y :: l',h1,h2,h=>by
  obtain⟨a1,a2⟩:=List.pairwise_cons.1 h1;obtain⟨b1,b2⟩:=List.pairwise_cons.1 h2
  have e:x=y:=by
   rcases List.mem_cons.1 ((h x).1 (by simp)) with e | hx
   · exact e
   · rcases List.mem_cons.1 ((h y).2 (by simp)) with e | hy
     · exact e.symm
     · exact(asy _ _ (a1 y hy) (b1 x hx)).elim
  subst e
  congr 1
  refine pw_ext irr asy a2 b2 (fun z=>⟨fun hz=>?_,fun hz=>?_⟩)
  · rcases List.mem_cons.1 ((h z).1 (by simp [hz])) with e | h3
    · subst e;exact(irr _ (a1 _ hz)).elim
    · exact h3
  · rcases List.mem_cons.1 ((h z).2 (by simp [hz])) with e | h3
    · subst e;exact(irr _ (b1 _ hz)).elim
    · exact h3
section
variable {s:Sch} {t:Int}
theorem asc_pw {l:List Row}:Asc s t l↔l.Pairwise (fun x y=>cmpR (keyF s t x) (keyF s t y)<0):=by
 constructor
 · induction l with
   | nil=>intro _;exact List.Pairwise.nil
   | cons r l ih =>
    intro h;obtain⟨h1,h2⟩:=Zch h;exact List.pairwise_cons.2 ⟨h2,ih h1⟩
 · induction l with
   | nil=>intro _ i j _ hj;simp at hj
   | cons r l ih =>
    intro h;obtain⟨h1,h2⟩:=List.pairwise_cons.1 h;exact asc_cons (ih h2) h1
theorem Zdn {l:List Row} (h:Asc s t l) {k:Row} {r:Row}:ZaX s t k l=some r↔r ∈ l∧keyF s t r=k:=by
 obtain⟨a,o,b,hc⟩:=Zcr k h;rw [hc.find];constructor
 · intro e;exact⟨by rw [hc.eq,e];simp,hc.at_ r e⟩
 · rintro⟨hr,hk⟩;rw [hc.eq] at hr;simp only [List.mem_append] at hr;rcases hr with (hr | hr) | hr
   · have:=hc.below r hr;rw [hk,cmpR_is.self] at this;omega
   · simpa [eq_comm] using hr
   · have:=hc.above r hr;rw [hk,cmpR_is.self] at this;omega
theorem asc_ext {l l':List Row} (h:Asc s t l) (h':Asc s t l') (he:∀ k,ZaX s t k l=ZaX s t k l'):l=l':=by
 refine pw_ext (fun a h=>by rw [cmpR_is.self] at h;omega) (fun a b h1 h2=>by have:=cmpR_is.flip (keyF s t a) (keyF s t b);omega) (asc_pw.1 h) (asc_pw.1 h') (fun r=>?_);have h1:=Zdn h (k:=keyF s t r) (r:=r);have h2:=Zdn h' (k:=keyF s t r) (r:=r);rw [he] at h1;constructor
 · intro hr;exact(h2.1 (h1.2 ⟨hr,rfl⟩)).1
 · intro hr;exact(h1.1 (h2.2 ⟨hr,rfl⟩)).1
theorem Zgu (k r:Row) (l:List Row):ZaX s t k (r :: l)=if cmpR (keyF s t r) k=0 then some r else ZaX s t k l:=by
 have:=ZeL s t k (l:=r :: l) (k:=0) (by simp);simpa using this
theorem ZbW {k:Row} {l:List Row} (h:∀ y ∈ l,cmpR k (keyF s t y)<0):ZaX s t k l=none:=by
 unfold ZaX;rw [List.find?_eq_none];intro y hy;have h1:=h y hy;have h2:=cmpR_is.flip k (keyF s t y);simp;omega
def addC (c:Chg) (l:List Chg):List Chg:=if cmpR c.old c.new≠0 then c :: l else l
def ZaH (s:Sch) (t:Int):List Row→List Row→List Chg
 | [],[]=>[]
 | x :: a,[]=>addC ⟨t,x,[]⟩ (ZaH s t a [])
 | [],y :: b=>addC ⟨t,[],y⟩ (ZaH s t [] b)
 | x :: a,y :: b =>
  if cmpR (keyF s t x) (keyF s t y)<0 then addC ⟨t,x,[]⟩ (ZaH s t a (y :: b))
  else if 0<cmpR (keyF s t x) (keyF s t y) then addC ⟨t,[],y⟩ (ZaH s t (x :: a) b)
  else addC ⟨t,x,y⟩ (ZaH s t a b)
termination_by a b=>a.length+b.length
theorem Zex {c x:Chg} {l:List Chg}:x ∈ addC c l↔(x=c∧c.old≠c.new)∨x ∈ l:=by
 unfold addC
 by_cases h:cmpR c.old c.new=0
 · have:=(cmpR_is.zero _ _).1 h;rw [if_neg (by simp [h])];exact⟨.inr,fun h'=>h'.resolve_left (fun h2=>h2.2 this)⟩
 · have:c.old≠c.new:=fun e=>h ((cmpR_is.zero _ _).2 e);simp [h,this]
def At (s:Sch) (t:Int) (a b:List Row) (x:Chg):Prop:=x.table=t∧x.old≠x.new∧∃ k,x.old=(ZaX s t k a).getD []∧x.new=(ZaX s t k b).getD []
theorem ZfV {a b a' b':List Row} {k0:Row} {c:Chg} (hc:c.table=t) (h1:c.old=(ZaX s t k0 a).getD []) (h2:c.new=(ZaX s t k0 b).getD []) (h3:ZaX s t k0 a'=none) (h4:ZaX s t k0 b'=none)
  (h5:∀ k,k≠k0→ZaX s t k a=ZaX s t k a'∧ZaX s t k b=ZaX s t k b') (x:Chg):At s t a b x↔(x=c∧c.old≠c.new)∨At s t a' b' x:=by
 constructor
 · rintro⟨e1,e2,k,e3,e4⟩
   by_cases hk:k=k0
   · subst hk;left
     have:x=c:=by
      cases x;cases c
      simp only at *;simp [e1,hc,e3,e4,h1,h2]
     exact⟨this,by rw [←this];exact e2⟩
   · right;exact⟨e1,e2,k,by rw [e3,(h5 k hk).1],by rw [e4,(h5 k hk).2]⟩
 · rintro(⟨rfl,h⟩ | ⟨e1,e2,k,e3,e4⟩)
   · exact⟨hc,h,k0,h1,h2⟩
   · by_cases hk:k=k0
     · subst hk;rw [h3] at e3;rw [h4] at e4;exact absurd (e3.trans e4.symm) e2
     · exact⟨e1,e2,k,by rw [e3,(h5 k hk).1],by rw [e4,(h5 k hk).2]⟩
theorem ZcH {k r:Row} {l:List Row} (h:k≠keyF s t r):ZaX s t k (r :: l)=ZaX s t k l:=by
 rw [Zgu,if_neg (fun e=>h ((cmpR_is.zero _ _).1 e).symm)]
theorem Zdd {r:Row} {l:List Row}:ZaX s t (keyF s t r) (r :: l)=some r:=by
 rw [Zgu,if_pos (cmpR_is.self _)]
theorem ZcP:∀ (a b:List Row),Asc s t a→Asc s t b→∀ x,x ∈ ZaH s t a b↔At s t a b x
 | [],[],_,_,x=>by
  unfold ZaH;constructor
  · intro h;simp at h
  · rintro⟨_,h,k,e1,e2⟩;exact absurd (e1.trans e2.symm) h
 | r :: a,[],ha,hb,x=>by
  obtain⟨h1,h2⟩:=Zch ha;unfold ZaH;rw [Zex,ZcP a [] h1 hb x];exact(ZfV (c:=⟨t,r,[]⟩) (a':=a) (b':=[]) (k0:=keyF s t r) rfl (by rw [Zdd];rfl) rfl (ZbW h2) rfl (fun k hk=>⟨ZcH hk,rfl⟩) x).symm
 | [],r :: b,ha,hb,x=>by
  obtain⟨h1,h2⟩:=Zch hb;unfold ZaH;rw [Zex,ZcP [] b ha h1 x];exact(ZfV (c:=⟨t,[],r⟩) (a':=[]) (b':=b) (k0:=keyF s t r) rfl rfl (by rw [Zdd];rfl) rfl (ZbW h2) (fun k hk=>⟨rfl,ZcH hk⟩) x).symm
 | r :: a,q :: b,ha,hb,x=>by
  obtain⟨h1,h2⟩:=Zch ha;obtain⟨h3,h4⟩:=Zch hb;unfold ZaH
  by_cases c1:cmpR (keyF s t r) (keyF s t q)<0
  · have hq:∀ y ∈ q :: b,cmpR (keyF s t r) (keyF s t y)<0:=fun y hy=>by
      rcases List.mem_cons.1 hy with rfl | hy
      · exact c1
      · exact cmpR_is.lt_trans c1 (h4 y hy)
    rw [if_pos c1,Zex,ZcP a (q :: b) h1 hb x];exact(ZfV (c:=⟨t,r,[]⟩) (a':=a) (b':=q :: b) (k0:=keyF s t r) rfl (by rw [Zdd];rfl) (by rw [ZbW hq];rfl) (ZbW h2) (ZbW hq) (fun k hk=>⟨ZcH hk,rfl⟩) x).symm
  · rw [if_neg c1]
    by_cases c2:0<cmpR (keyF s t r) (keyF s t q)
    · have c2':cmpR (keyF s t q) (keyF s t r)<0:=(by have:=cmpR_is.flip (keyF s t q) (keyF s t r);omega)
      have hr:∀ y ∈ r :: a,cmpR (keyF s t q) (keyF s t y)<0:=fun y hy=>by
       rcases List.mem_cons.1 hy with rfl | hy
       · exact c2'
       · exact cmpR_is.lt_trans c2' (h2 y hy)
      rw [if_pos c2,Zex,ZcP (r :: a) b ha h3 x];exact(ZfV (c:=⟨t,[],q⟩) (a':=r :: a) (b':=b) (k0:=keyF s t q) rfl (by rw [ZbW hr];rfl) (by rw [Zdd];rfl) (ZbW hr) (ZbW h4) (fun k hk=>⟨rfl,ZcH hk⟩) x).symm
    · have hk:keyF s t r=keyF s t q:=(cmpR_is.zero _ _).1 (by omega);rw [if_neg c2,Zex,ZcP a b h1 h3 x];refine(ZfV (c:=⟨t,r,q⟩) (a':=a) (b':=b) (k0:=keyF s t r) rfl (by rw [Zdd];rfl) (by rw [hk,Zdd];rfl) (ZbW h2) (ZbW (by rw [hk];exact h4)) (fun k hk'=>⟨ZcH hk',ZcH (by rw [←hk];exact hk')⟩) x).symm
termination_by a b=>a.length+b.length
theorem at_key {a b:List Row} (ha:Asc s t a) (hb:Asc s t b) (hne:(∀ r ∈ a,0<r.length)∧∀ r ∈ b,0<r.length) {x:Chg} {k:Row} (h1:x.table=t) (h2:x.old≠x.new) (h3:x.old=(ZaX s t k a).getD []) (h4:x.new=(ZaX s t k b).getD []):keyC s x=k∧((∃ r ∈ a,keyF s t r=k)∨∃ r ∈ b,keyF s t r=k):=by
 unfold keyC;rw [h1];cases ho:ZaX s t k a with
 | some r =>
  rw [ho] at h3;obtain⟨h5,h6⟩:=(Zdn ha).1 ho;have e:x.old=r:=h3;rw [e,if_pos (hne.1 r h5)];exact⟨h6,.inl ⟨r,h5,h6⟩⟩
 | none =>
  rw [ho] at h3;have e:x.old=[]:=h3;rw [e,if_neg (by simp)];cases hn:ZaX s t k b with
  | none =>
   rw [hn] at h4;exact absurd (h3.trans h4.symm) h2
  | some r =>
   rw [hn] at h4;obtain⟨h5,h6⟩:=(Zdn hb).1 hn;have e:x.new=r:=h4;rw [e];exact⟨h6,.inr ⟨r,h5,h6⟩⟩
def ZhG (s:Sch) (l:List Chg):Prop:=l.Pairwise (fun x y=>cmpC s x y<0)
theorem Zdg {c:Chg} {l:List Chg} (h:ZhG s l) (hc:∀ x ∈ l,cmpC s c x<0):ZhG s (addC c l):=by
 unfold addC;split
 · exact List.pairwise_cons.2 ⟨hc,h⟩
 · exact h
theorem Zhs {x y:Chg} {k k':Row} (hx:x.table=t) (hy:y.table=t) (h1:keyC s x=k) (h2:keyC s y=k') (h:cmpR k k'<0):cmpC s x y<0:=by
 unfold cmpC;rw [hx,hy,h1,h2];simpa using h
theorem Zhp {a b:List Row} (ha:Asc s t a) (hb:Asc s t b) (hne:(∀ r ∈ a,0<r.length)∧∀ r ∈ b,0<r.length) {x:Chg} (hx:x ∈ ZaH s t a b):x.table=t∧((∃ r ∈ a,keyC s x=keyF s t r)∨∃ r ∈ b,keyC s x=keyF s t r):=by
 obtain⟨h1,h2,k,h3,h4⟩:=(ZcP a b ha hb x).1 hx;obtain⟨h5,h6⟩:=at_key ha hb hne h1 h2 h3 h4;refine⟨h1,?_⟩;rcases h6 with ⟨r,hr,e⟩ | ⟨r,hr,e⟩
 · exact .inl ⟨r,hr,h5.trans e.symm⟩
 · exact .inr ⟨r,hr,h5.trans e.symm⟩
theorem ZfB {a b:List Row} {k0:Row} {c:Chg} (ha:Asc s t a) (hb:Asc s t b) (hne:(∀ r ∈ a,0<r.length)∧∀ r ∈ b,0<r.length) (hc:c.table=t) (hk:keyC s c=k0) (h1:∀ r ∈ a,cmpR k0 (keyF s t r)<0) (h2:∀ r ∈ b,cmpR k0 (keyF s t r)<0):∀ x ∈ ZaH s t a b,cmpC s c x<0:=fun x hx=>by
 obtain⟨h3,h4⟩:=Zhp ha hb hne hx;rcases h4 with ⟨r,hr,e⟩ | ⟨r,hr,e⟩
 · exact Zhs hc h3 hk e (h1 r hr)
 · exact Zhs hc h3 hk e (h2 r hr)
theorem Zcq:∀ (a b:List Row),Asc s t a→Asc s t b→(∀ r ∈ a,0<r.length)→(∀ r ∈ b,0<r.length)→ZhG s (ZaH s t a b)
 | [],[],_,_,_,_=>by unfold ZaH;exact List.Pairwise.nil
 | r :: a,[],ha,hb,na,nb=>by
  obtain⟨h1,h2⟩:=Zch ha;unfold ZaH;exact Zdg (Zcq a [] h1 hb (fun x hx=>na x (by simp [hx])) nb) (ZfB h1 hb ⟨fun x hx=>na x (by simp [hx]),nb⟩ rfl (by simp [keyC,na r (by simp)]) h2 (by simp))
 | [],r :: b,ha,hb,na,nb=>by
  obtain⟨h1,h2⟩:=Zch hb;unfold ZaH;exact Zdg (Zcq [] b ha h1 na (fun x hx=>nb x (by simp [hx]))) (ZfB ha h1 ⟨na,fun x hx=>nb x (by simp [hx])⟩ rfl (by simp [keyC]) (by simp) h2)
 | r :: a,q :: b,ha,hb,na,nb=>by
  obtain⟨h1,h2⟩:=Zch ha;obtain⟨h3,h4⟩:=Zch hb;have na':∀ x ∈ a,0<x.length:=fun x hx=>na x (by simp [hx]);have nb':∀ x ∈ b,0<x.length:=fun x hx=>nb x (by simp [hx]);unfold ZaH
  by_cases c1:cmpR (keyF s t r) (keyF s t q)<0
  · rw [if_pos c1];refine Zdg (Zcq a (q :: b) h1 hb na' nb) (ZfB h1 hb ⟨na',nb⟩ rfl (by simp [keyC,na r (by simp)]) h2 (fun y hy=>?_));rcases List.mem_cons.1 hy with rfl | hy
    · exact c1
    · exact cmpR_is.lt_trans c1 (h4 y hy)
  · rw [if_neg c1]
    by_cases c2:0<cmpR (keyF s t r) (keyF s t q)
    · have c2':cmpR (keyF s t q) (keyF s t r)<0:=(by have:=cmpR_is.flip (keyF s t q) (keyF s t r);omega);rw [if_pos c2];refine Zdg (Zcq (r :: a) b ha h3 na nb') (ZfB ha h3 ⟨na,nb'⟩ rfl (by simp [keyC]) (fun y hy=>?_) h4);rcases List.mem_cons.1 hy with rfl | hy
      · exact c2'
      · exact cmpR_is.lt_trans c2' (h2 y hy)
    · have hk:keyF s t r=keyF s t q:=(cmpR_is.zero _ _).1 (by omega);rw [if_neg c2];exact Zdg (Zcq a b h1 h3 na' nb') (ZfB h1 h3 ⟨na',nb'⟩ rfl (by simp [keyC,na r (by simp)]) h2 (by rw [hk];exact h4))
termination_by a b=>a.length+b.length
end
def Zbo (s:Sch):Nat→St→St→List Chg
 | _,[],_=>[]
 | t,a :: r,q=>ZaH s t a (q.headD [])++Zbo s (t+1) r q.tail
abbrev Zbp (s:Sch) (a b:St):List Chg:=Zbo s 0 a b
theorem Zgw (s:Sch) (a b:St) (k:Nat) (h:k<a.length):Zbo s k (a.drop k) (b.drop k)=ZaH s k (a.getD k []) (b.getD k [])++Zbo s (k+1) (a.drop (k+1)) (b.drop (k+1)):=by
 rw [List.drop_eq_getElem_cons h];have e1:a.getD k []=a[k]:=(by simp [List.getD,h])
 have e2:(b.drop k).headD []=b.getD k []:=by
  simp [List.headD_eq_head?_getD,List.head?_drop,List.getD]
 rw [Zbo,e1,e2,List.tail_drop]
def Full (st:St):Prop:=∀ t r,r ∈ st.getD t []→0<r.length
section
variable {s:Sch} {m:Int}
def look (s:Sch) (st:St) (t:Nat) (k:Row):Row:=(ZaX s t k (st.getD t [])).getD []
theorem Zhq:∀ (a b:St) (t:Nat),(∀ k,k<a.length→Asc s ((t+k:Nat):Int) (a.getD k []))→(∀ k,k<a.length→Asc s ((t+k:Nat):Int) (b.getD k []))→∀ x,x ∈ Zbo s t a b↔∃ k,k<a.length∧At s ((t+k:Nat):Int) (a.getD k []) (b.getD k []) x
 | [],b,t,_,_,x=>by simp [Zbo]
 | r :: a,b,t,ha,hb,x=>by
  have e0:b.headD []=b.getD 0 []:=(by cases b<;>rfl);have e1:∀ k,b.tail.getD k []=b.getD (k+1) []:=(fun k=>by cases b<;>rfl);have a0:=ha 0 (by simp);have b0:=hb 0 (by simp);have hd0:x ∈ ZaH s (t:Int) r (b.getD 0 [])↔At s ((t+0:Nat):Int) r (b.getD 0 []) x:=ZcP _ _ a0 b0 x;rw [Zbo,List.mem_append,e0,hd0,Zhq a b.tail (t+1) (fun k hk=>by have:=ha (k+1) (by simpa using hk);rw [show t+(k+1)=t+1+k by omega] at this;exact this) (fun k hk=>by have:=hb (k+1) (by simpa using hk);rw [show t+(k+1)=t+1+k by omega] at this;rw [e1];exact this)];constructor
  · rintro(h | ⟨k,hk,h⟩)
    · exact⟨0,by simp,h⟩
    · refine⟨k+1,by simpa using hk,?_⟩;rw [e1] at h;rw [show t+(k+1)=t+1+k by omega];exact h
  · rintro⟨k,hk,h⟩;cases k with
    | zero=>exact .inl h
    | succ k =>
     refine .inr ⟨k,by simpa using hk,?_⟩;rw [e1,show t+1+k=t+(k+1) by omega];exact h
theorem ZfP:∀ (a b:St) (t:Nat),(∀ k,k<a.length→Asc s ((t+k:Nat):Int) (a.getD k []))→(∀ k,k<a.length→Asc s ((t+k:Nat):Int) (b.getD k []))→Full a→Full b→ZhG s (Zbo s t a b)∧∀ x ∈ Zbo s t a b,(t:Int)≤x.table
 | [],b,t,_,_,_,_=>by simp [Zbo,ZhG]
 | r :: a,b,t,ha,hb,fa,fb=>by
  have e0:b.headD []=b.getD 0 []:=(by cases b<;>rfl);have e1:∀ k,b.tail.getD k []=b.getD (k+1) []:=(fun k=>by cases b<;>rfl);have a0:=ha 0 (by simp);have b0:=hb 0 (by simp);have na:∀ x ∈ r,0<x.length:=fun x hx=>fa 0 x hx;have nb:∀ x ∈ b.getD 0 [],0<x.length:=fun x hx=>fb 0 x hx;obtain⟨h1,h2⟩:=ZfP a b.tail (t+1) (fun k hk=>by have:=ha (k+1) (by simpa using hk);rw [show t+(k+1)=t+1+k by omega] at this;exact this) (fun k hk=>by have:=hb (k+1) (by simpa using hk);rw [show t+(k+1)=t+1+k by omega] at this;rw [e1];exact this) (fun k x hx=>fa (k+1) x hx) (fun k x hx=>fb (k+1) x (by rw [←e1];exact hx));have h3:=Zcq r (b.getD 0 []) a0 b0 na nb;have ht:∀ x ∈ ZaH s t r (b.getD 0 []),x.table=t:=fun x hx=>(Zhp a0 b0 ⟨na,nb⟩ hx).1;rw [Zbo,e0];refine⟨List.pairwise_append.2 ⟨h3,h1,fun x hx y hy=>?_⟩,fun x hx=>?_⟩
  · have hx':=ht x hx;have hy':=h2 y hy;unfold cmpC;rw [if_pos (by omega)];omega
  · rcases List.mem_append.1 hx with hx | hx
    · have:=ht x hx;omega
    · have:=h2 x hx;omega
theorem StOk.asc {st:St} (h:StOk s m st):∀ k,k<st.length→Asc s ((0+k:Nat):Int) (st.getD k []):=fun k hk=>by rw [Nat.zero_add];exact(h.2 k hk).2
theorem ZgK {a b:St} (ha:StOk s m a) (hb:StOk s m b) (x:Chg):x ∈ Zbp s a b↔∃ t:Nat,t<a.length∧x.table=t∧x.old≠x.new∧∃ k,x.old=look s a t k∧x.new=look s b t k:=by
 unfold Zbp;rw [Zhq a b 0 ha.asc (fun k hk=>hb.asc k (by rw [hb.1,←ha.1];exact hk))];simp only [Nat.zero_add];rfl
theorem diff_canon {a b:St} (ha:StOk s m a) (hb:StOk s m b) (fa:Full a) (fb:Full b):ZhG s (Zbp s a b) :=
 (ZfP a b 0 ha.asc (fun k hk=>hb.asc k (by rw [hb.1,←ha.1];exact hk)) fa fb).1
theorem look_step {st:St} (h:StOk s m st) {x:Chg} {t:Nat} (ht:x.table=t) (htl:t<st.length) (hv:Zau s m x=true) (u:Nat) (k:Row):look s (Zcj s st x) u k=if u=t∧k=keyC s x then x.new else look s st u k:=by
 unfold look Zcj;rw [show x.table.toNat=t by omega]
 by_cases hu:u=t
 · subst hu;have e:(st.set u (putC s x (st.getD u []))).getD u []=putC s x (st.getD u []):=(by simp [List.getD,htl]);have hr:=h.2 u htl;rw [e];have hasc:Asc s x.table (st.getD u []):=(by rw [ht];exact hr.2);obtain⟨a,o,b,hc⟩:=Zcr (keyC s x) hasc;have hag:Cut s x.table (keyC s x) (putC s x (st.getD u [])) a (if 0<x.new.length then some x.new else none) b:=hc.again (fun h0=>Zfy hv h0);rw [←ht]
   by_cases hk:k=keyC s x
   · subst hk;rw [hag.find];simp only [true_and,if_true]
     by_cases h0:0<x.new.length
     · rw [if_pos h0];rfl
     · rw [if_neg h0];have:x.new=[]:=List.eq_nil_of_length_eq_zero (by omega);rw [this];rfl
   · rw [if_neg (by simp [hk])]
     have hfind:∀ (o:Option Row),(∀ r,o=some r→keyF s x.table r=keyC s x)→ZaX s x.table k (a++o.toList++b)=ZaX s x.table k (a++b):=fun o ho=>by
      unfold ZaX;rw [List.find?_append,List.find?_append,List.find?_append];cases o with
      | none=>simp
      | some r =>
       have h1:=ho r rfl;have h2:¬ cmpR (keyF s x.table r) k=0:=fun e=>hk ((cmpR_is.zero _ _).1 (by rw [←h1];exact(by rw [(cmpR_is.zero _ _).1 e];exact cmpR_is.self _):cmpR k (keyC s x)=0));simp [h2]
     rw [hag.eq,hc.eq,hfind _ hag.at_,hfind _ hc.at_]
 · have e:(st.set t (putC s x (st.getD t []))).getD u []=st.getD u []:=(by simp [List.getD,List.getElem?_set_ne (Ne.symm hu)]);rw [e,if_neg (by simp [hu])]
theorem Zfa {st:St} (h:StOk s m st) (hfl:Full st) {x:Chg} {t:Nat} (ht:x.table=t) (htl:t<st.length) (hl:look s st t (keyC s x)=x.old):Zcf s x (st.getD t [])=true:=by
 have hasc:Asc s x.table (st.getD t []):=(by rw [ht];exact(h.2 t htl).2);obtain⟨a,o,b,hc⟩:=Zcr (keyC s x) hasc;refine ZfG hc ?_;unfold look at hl;rw [←ht,hc.find] at hl;cases o with
 | none =>
  have e:x.old=[]:=hl.symm;rw [e];simp
 | some r =>
  have e:x.old=r:=hl.symm;have hr:r ∈ st.getD t []:=(by rw [hc.eq];simp);rw [e,if_pos (hfl t r hr)]
theorem st_ext {a b:St} (ha:StOk s m a) (hb:StOk s m b) (h:∀ t,t<a.length→∀ k,ZaX s t k (a.getD t [])=ZaX s t k (b.getD t [])):a=b:=by
 have hl:a.length=b.length:=ha.1.trans hb.1.symm;apply List.ext_getElem hl;intro t h1 h2;have:=asc_ext (ha.2 t h1).2 (hb.2 t h2).2 (h t h1);simpa [List.getD,h1,h2] using this
theorem find_of_look {st st':St} {t:Nat} {k:Row} (hfa:Full st) (hfb:Full st') (ha:Asc s t (st.getD t [])) (hb:Asc s t (st'.getD t [])) (h:look s st t k=look s st' t k):ZaX s t k (st.getD t [])=ZaX s t k (st'.getD t []):=by
 unfold look at h;cases h1:ZaX s t k (st.getD t []) with
 | none =>
  cases h2:ZaX s t k (st'.getD t []) with
  | none=>rfl
  | some r =>
   rw [h1,h2] at h;have:=hfb t r ((Zdn hb).1 h2).1;have e:r=[]:=h.symm;rw [e] at this;simp at this
 | some r =>
  cases h2:ZaX s t k (st'.getD t []) with
  | none =>
   rw [h1,h2] at h;have:=hfa t r ((Zdn ha).1 h1).1;have e:r=[]:=h;rw [e] at this;simp at this
  | some r' =>
   rw [h1,h2] at h;exact congrArg some h
theorem look_ext {a b:St} (ha:StOk s m a) (hb:StOk s m b) (hfa:Full a) (hfb:Full b) (h:∀ t,t<a.length→∀ k,look s a t k=look s b t k):a=b :=
 st_ext ha hb (fun t ht k=>find_of_look hfa hfb (ha.2 t ht).2 (hb.2 t (by rw [hb.1,←ha.1];exact ht)).2 (h t ht k))
end
end Go.Proofs.YtkpjjfhfbpfjpaaGreat

namespace Go.Proofs.YtkpjjfhfbpfjpaaGreat
section
variable {s:Sch} {m:Int}
theorem ZdX {st:St} (hw:∀ t,t<s.tabs.length→0<(s.tabs.getD t t0).cols.length) (h:StOk s m st):Full st:=by
 intro t r hr
 by_cases ht:t<st.length
 · have hf:=(h.2 t ht).1 r hr;have:=ZcU hf;rw [this,Int.toNat_natCast];exact hw t (by rw [←h.1];exact ht)
 · have e:st.getD t []=[]:=(by simp [List.getD,ht]);rw [e] at hr;simp at hr
theorem step_len (st:St) (x:Chg):(Zcj s st x).length=st.length:=by simp [Zcj]
theorem ZdC:∀ (l:List Chg) (st:St),(after s st l).length=st.length
 | [],st=>rfl
 | x :: l,st=>by show (after s (Zcj s st x) l).length=_;rw [ZdC l,step_len]
theorem cmpC_eq {x y:Chg}:cmpC s x y=0↔x.table=y.table∧keyC s x=keyC s y:=by
 unfold cmpC
 by_cases h:x.table=y.table
 · simp [h,cmpR_is.zero]
 · simp [h];omega
theorem valid_at {x:Chg} (hv:Zau s m x=true):∃ t:Nat,x.table=t∧t<s.tabs.length:=by
 unfold Zau at hv;simp only [Bool.and_eq_true,hasN,decide_eq_true_eq] at hv;obtain⟨t,ht⟩:=Int.eq_ofNat_of_zero_le hv.1.1.1.1.1;exact⟨t,ht,by have:=hv.1.1.1.1.2;omega⟩
theorem run_all (hw:∀ t,t<s.tabs.length→0<(s.tabs.getD t t0).cols.length):∀ (D:List Chg) (c:St),StOk s m c→ZhG s D→(∀ x ∈ D,Zau s m x=true∧∀ t:Nat,x.table=t→look s c t (keyC s x)=x.old) →
  Fit s m c D∧StOk s m (after s c D)∧(∀ x ∈ D,∀ t:Nat,x.table=t→look s (after s c D) t (keyC s x)=x.new)∧∀ (t:Nat) k,(∀ x ∈ D,¬ (x.table=(t:Int)∧keyC s x=k))→look s (after s c D) t k=look s c t k
 | [],c,h,_,_=>⟨trivial,h,fun x hx=>by simp at hx,fun _ _ _=>rfl⟩
 | x :: D,c,h,hc,hx=>by
  obtain⟨c1,c2⟩:=List.pairwise_cons.1 hc;obtain⟨hv,ho⟩:=hx x (by simp);obtain⟨t,ht,htl⟩:=valid_at hv;have htc:t<c.length:=(by rw [h.1];exact htl);have hfit:=Zfa h (ZdX hw h) ht htc (ho t ht);have h1:=(Zcn h hv).1;have hst:=fun (u:Nat) k=>look_step h ht htc hv u k
  obtain⟨i1,i2,i3,i4⟩:=run_all hw D (Zcj s c x) h1 c2 (fun y hy=>⟨(hx y (by simp [hy])).1,fun u hu=>by
   rw [hst u (keyC s y),if_neg]
   · exact(hx y (by simp [hy])).2 u hu
   · rintro⟨e1,e2⟩;have:=c1 y hy;have:cmpC s x y=0:=cmpC_eq.2 ⟨by rw [ht,hu,e1],e2.symm⟩;omega⟩)
  refine⟨⟨⟨hv,by rw [ht,Int.toNat_natCast];exact hfit⟩,i1⟩,i2,fun y hy u hu=>?_,fun u k hk=>?_⟩
  · rcases List.mem_cons.1 hy with rfl | hy
    · have hu':u=t:=(by omega);subst hu';show look s (after s (Zcj s c y) D) u _=_
      rw [i4 u (keyC s y) (fun z hz e=>by
       have:=c1 z hz;have:cmpC s y z=0:=cmpC_eq.2 ⟨by rw [ht,e.1],e.2.symm⟩;omega),hst,if_pos ⟨rfl,rfl⟩]
    · exact i3 y hy u hu
  · show look s (after s (Zcj s c x) D) u k=_;rw [i4 u k (fun z hz=>hk z (by simp [hz])),hst,if_neg];rintro⟨rfl,rfl⟩;exact hk x (by simp) ⟨ht,rfl⟩
theorem Zei {st:St} (h:StOk s m st) {t:Nat} (ht:t<st.length) {k r:Row} (hl:look s st t k=r) (hr:0<r.length):r ∈ st.getD t []∧keyF s t r=k:=by
 unfold look at hl;cases hf:ZaX s t k (st.getD t []) with
 | none=>rw [hf] at hl;have e:r=[]:=hl.symm;rw [e] at hr;simp at hr
 | some q =>
  rw [hf] at hl;have e:q=r:=hl;subst e;exact(Zdn (h.2 t ht).2).1 hf
theorem Zda {st:St} (h:StOk s m st) {t:Nat} (ht:t<st.length) {k r:Row} (hl:look s st t k=r) (hr:0<r.length):Zaz s t r m=true:=(h.2 t ht).1 r (Zei h ht hl hr).1
theorem valid_looks {a b:St} (ha:StOk s m a) (hb:StOk s m b) {t:Nat} (ht:t<a.length) {k:Row} {x:Chg} (h1:x.table=t) (h2:x.old≠x.new) (h3:x.old=look s a t k) (h4:x.new=look s b t k):Zau s m x=true:=by
 have htb:t<b.length:=(by rw [hb.1,←ha.1];exact ht);have hts:t<s.tabs.length:=(by rw [←ha.1];exact ht);unfold Zau hasN;rw [h1];simp only [Bool.and_eq_true,Bool.or_eq_true,decide_eq_true_eq,Bool.not_eq_true',beq_iff_eq];refine⟨⟨⟨⟨⟨by omega,by omega⟩,?_⟩,?_⟩,?_⟩,?_⟩
 · rw [Bool.and_eq_false_iff]
   by_cases h0:x.old.length=0
   · refine .inr (decide_eq_false fun h5=>h2 ?_);rw [List.eq_nil_of_length_eq_zero h0,List.eq_nil_of_length_eq_zero h5]
   · exact .inl (decide_eq_false h0)
 · by_cases h0:x.old.length=0
   · exact .inl h0
   · exact .inr (Zda ha ht h3.symm (by omega))
 · by_cases h0:x.new.length=0
   · exact .inl h0
   · exact .inr (Zda hb htb h4.symm (by omega))
 · by_cases h0:x.old.length=0
   · exact .inl (.inl h0)
   · by_cases h5:x.new.length=0
     · exact .inl (.inr h5)
     · refine .inr ((cmpR_is.zero _ _).2 ?_);rw [(Zei ha ht h3.symm (by omega)).2,(Zei hb htb h4.symm (by omega)).2]
theorem Zfz (hw:∀ t,t<s.tabs.length→0<(s.tabs.getD t t0).cols.length) {a b:St} (ha:StOk s m a) (hb:StOk s m b) {t:Nat} (ht:t<a.length) {k:Row} {x:Chg} (h1:x.table=t) (h2:x.old≠x.new) (h3:x.old=look s a t k) (h4:x.new=look s b t k):keyC s x=k :=
 (at_key (t:=(t:Int)) (ha.2 t ht).2 (hb.2 t (by rw [hb.1,←ha.1];exact ht)).2 ⟨fun r hr=>ZdX hw ha t r hr,fun r hr=>ZdX hw hb t r hr⟩ h1 h2 h3 h4).1
theorem diff_fit (hw:∀ t,t<s.tabs.length→0<(s.tabs.getD t t0).cols.length) {a b:St} (ha:StOk s m a) (hb:StOk s m b):Fit s m a (Zbp s a b)∧after s a (Zbp s a b)=b:=by
 have fa:=ZdX hw ha;have fb:=ZdX hw hb
 obtain⟨h1,h2,h3,h4⟩:=run_all hw (Zbp s a b) a ha (diff_canon ha hb fa fb) (fun x hx=>by
  obtain⟨t,ht,e1,e2,k,e3,e4⟩:=(ZgK ha hb x).1 hx;refine⟨valid_looks ha hb ht e1 e2 e3 e4,fun u hu=>?_⟩;have hu':u=t:=(by omega);subst hu';rw [Zfz hw ha hb ht e1 e2 e3 e4,e3])
 refine⟨h1,look_ext h2 hb (ZdX hw h2) fb (fun t ht k=>?_)⟩;rw [ZdC] at ht
 by_cases he:look s a t k=look s b t k
 · rw [h4 t k (fun x hx e=>?_),he];obtain⟨t',ht',e1,e2,k',e3,e4⟩:=(ZgK ha hb x).1 hx;have hk:=Zfz hw ha hb ht' e1 e2 e3 e4;have:t'=t:=(by have:=e.1;omega);subst this;rw [hk] at e;rw [e.2] at e3 e4;exact e2 (by rw [e3,e4,he])
 · have hx:(⟨t,look s a t k,look s b t k⟩:Chg) ∈ Zbp s a b:=(ZgK ha hb _).2 ⟨t,ht,rfl,he,k,rfl,rfl⟩;have hk:=Zfz hw ha hb ht (x:=⟨t,look s a t k,look s b t k⟩) rfl he rfl rfl;have:=h3 _ hx t rfl;rw [hk] at this;exact this
end
end Go.Proofs.YtkpjjfhfbpfjpaaGreat

namespace Go.Proofs.YtkpjjfhfbpfjpaaGreat
theorem ZcO {α:Type} {l:List α} {d:α} {k:Nat} (h:k<l.length):l.getD k d=l[k]:=by simp [List.getD,h]
def TabG (tb:Tab):Prop:=1≤tb.cols.length∧tb.cols.length≤4∧1≤tb.key∧tb.key≤tb.cols.length∧∀ c ∈ tb.cols,c.kind=3∨c.kind=4∨c.kind=5
theorem gen_tabs {id:Int} (hid:id=4∨id=5) (r1 r2 r3:List Rfr) (chk:List Pred):∀ tb ∈ ZaD id r1 r2 r3 chk,TabG tb:=by
 intro tb h;simp only [ZaD,List.mem_cons,List.not_mem_nil,or_false] at h;rcases h with rfl | rfl | rfl | rfl
 · refine⟨by decide,by decide,by decide,by decide,fun c hc=>?_⟩;simp only [ZeZ,List.mem_cons,List.not_mem_nil,or_false] at hc;rcases hc with rfl | rfl<;>simp
 · refine⟨by simp [Zdc],by simp [Zdc],by simp,by simp [Zdc],fun c hc=>?_⟩;simp only [Zdc,List.mem_cons,List.not_mem_nil,or_false] at hc;rcases hc with rfl | rfl | rfl | rfl
   · rcases hid with h | h<;>simp [h]
   all_goals simp
 · refine⟨by simp [Zdy],by simp [Zdy],by simp,by simp [Zdy],fun c hc=>?_⟩;simp only [Zdy,List.mem_cons,List.not_mem_nil,or_false] at hc;rcases hc with rfl | rfl<;>simp
 · refine⟨by simp [Zdr],by simp [Zdr],by simp,by simp [Zdr],fun c hc=>?_⟩;simp only [Zdr,List.mem_cons,List.not_mem_nil,or_false] at hc;rcases hc with rfl;rcases hid with h | h<;>simp [h]
theorem GenS.len {s:Sch} (h:GenS s):2≤s.tabs.length∧s.tabs.length≤4:=by
 obtain⟨n,v,id,b1,b2,b3,chk,rfl,h2,h4,_⟩:=h;have:(ZaD id (rf0 b1 1 0) (rf0 b2 0 0) (rf0 b3 0 1) chk).length=4:=rfl;show 2≤(List.take n _).length∧(List.take n _).length≤4;rw [List.length_take];omega
theorem GenS.tab {s:Sch} (h:GenS s) {t:Nat} (ht:t<s.tabs.length):TabG (s.tabs.getD t t0):=by
 obtain⟨n,v,id,b1,b2,b3,chk,rfl,h2,h4,_,_,hid,_⟩:=h;have e:(Sch.tabs ⟨v,(ZaD id (rf0 b1 1 0) (rf0 b2 0 0) (rf0 b3 0 1) chk).take n⟩).getD t t0=(List.take n (ZaD id (rf0 b1 1 0) (rf0 b2 0 0) (rf0 b3 0 1) chk))[t]'ht:=ZcO ht;rw [e];exact gen_tabs hid _ _ _ _ _ (List.mem_of_mem_take (List.getElem_mem ht))
theorem GenS.wide {s:Sch} (h:GenS s):∀ t,t<s.tabs.length→0<(s.tabs.getD t t0).cols.length:=fun t ht=>(h.tab ht).1
theorem GenS.kinds {s:Sch} (h:GenS s) {t:Nat} (ht:t<s.tabs.length):ZbC s t=(s.tabs.getD t t0).cols.map (·.kind)∧(ZbC s t).length≤4:=by
 have e:ZbC s t=(s.tabs.getD t t0).cols.map (·.kind):=by
  unfold ZbC hasN;rw [if_pos (by simp;omega),Int.toNat_natCast]
 rw [e,List.length_map];exact⟨rfl,(h.tab ht).2.1⟩
theorem ZdY {m key:Int}:∀ {cs:List Col} {r:Row} {i:Nat},r.length=cs.length→(∀ j,j<cs.length→ZaM m key (cs.getD j c0).kind (i+j) (r.getD j v0)=true)→ZaE m key i cs r=true
 | [],r,i,_,_=>by cases r<;>simp [ZaE]
 | c :: cs,[],i,h,_=>by simp at h
 | c :: cs,v :: r,i,h,hf=>by
  have h0:=hf 0 (by simp)
  have ih:=ZdY (m:=m) (key:=key) (cs:=cs) (r:=r) (i:=i+1) (by simpa using h) (fun j hj=>by
   have:=hf (j+1) (by simpa using hj);rw [show i+(j+1)=i+1+j by omega] at this;simpa using this)
  simp only [ZaE,Bool.and_eq_true];exact⟨by simpa using h0,ih⟩
theorem Zfr {s:Sch} {m:Int} (h:GenS s) (hm:ZbB m=true) {t:Nat} (ht:t<s.tabs.length) {r:Row} (hr:Zhw (s.tabs.getD t t0).key m (ZbC s t) r):Zaz s t r m=true:=by
 obtain⟨h1,h2⟩:=hr;obtain⟨h3,_⟩:=h.kinds ht;have hk:=(h.tab ht).2.2.2.2;rw [h3] at h1 h2;rw [List.length_map] at h1 h2;unfold Zaz hasN;rw [Int.toNat_natCast];simp only [Bool.and_eq_true,decide_eq_true_eq];refine⟨⟨⟨hm,by omega,by omega⟩,h1⟩,ZdY h1 (fun j hj=>?_)⟩;have h4:=h2 j hj;have e1:((s.tabs.getD t t0).cols.map (·.kind)).getD j 0=((s.tabs.getD t t0).cols.getD j c0).kind:=(by rw [ZcO hj,ZcO (by simpa using hj),List.getElem_map])
 have e2:Zdw ((s.tabs.getD t t0).cols.getD j c0).kind=((s.tabs.getD t t0).cols.getD j c0).kind:=by
  have hmem:(s.tabs.getD t t0).cols.getD j c0 ∈ (s.tabs.getD t t0).cols:=by
   rw [ZcO hj];exact List.getElem_mem hj
  rcases hk _ hmem with e | e | e<;>rw [e]<;>rfl
 rw [e1,e2] at h4;rw [Nat.zero_add];exact h4
theorem put_ok {s:Sch} {m:Int} {st:St} (h:StOk s m st) {t:Nat} (ht:t<st.length) {key row:Row} (hk:0<row.length→keyF s t row=key) (hf:0<row.length→Zaz s t row m=true):StOk s m (st.set t (putR s t key row (st.getD t [])))∧putR s t key row (st.getD t [])=putL s t key row (st.getD t []):=by
 have hr:=h.2 t ht;have e:=putR_eq hr.2 key row;rw [e];exact⟨h.set (Zgi hr hk hf),rfl⟩
theorem putL_len (s:Sch) (t:Int) (row:Row) (l:List Row):(putL s t (keyF s t row) row l).length≤l.length+1:=by
 have:=Zhz s ⟨t,[],row⟩ l;have e:putC s ⟨t,[],row⟩ l=putL s t (keyF s t row) row l:=(by rw [ZhA];simp [keyC]);rwa [e] at this
theorem stOk_nil {s:Sch} {m:Int} (n:Nat) (h:n=s.tabs.length):StOk s m (List.replicate n []):=by
 refine⟨by simpa using h,fun t ht=>?_⟩
 have e:(List.replicate n ([]:List Row)).getD t []=[]:=by
  have:t<n:=(by simpa using ht);simp [List.getD,this]
 rw [e];exact⟨fun r hr=>by simp at hr,fun i j _ hj=>by simp at hj⟩
end Go.Proofs.YtkpjjfhfbpfjpaaGreat

namespace Go.Proofs.YtkpjjfhfbpfjpaaGreat
open Go.RowKit
theorem Fr.frozenF {X:Nat→Prop} {w w':World} (h:Fr X w w') {b o:Nat} (hb:b<w.heap.size) (hx:¬ X b):w'.frozen? ⟨b,o,none⟩=w.frozen? ⟨b,o,none⟩:=World.frozen?_of_block (h.block b hb hx)
theorem Zfq {key m:Int} {ks:List Int} {r:Row} (h:Zhw key m ks r) (hl:ks.length≤1000000):RowOk r:=by
 refine⟨by rw [h.1];omega,fun v hv=>?_⟩;obtain⟨i,hi,rfl⟩:=List.getElem_of_mem hv;have h1:=h.2 i (by rw [←h.1];exact hi);rw [ZcO hi] at h1;unfold ZaM at h1;simp only [Bool.and_eq_true] at h1;have:=ZcS h1.1;omega
theorem Zbv {s:Sch} {t:Int} {r:Row} (h:RowOk r):RowOk (keyF s t r):=by
 unfold keyF;split
 · exact⟨by rw [List.length_take];have:=h.1;omega,fun v hv=>h.2 v (List.mem_of_mem_take hv)⟩
 · exact⟨by simp,fun v hv=>by simp at hv⟩
structure StI (w wr:World) (g:Nat) (S:Nat→Prop) (s:Sch) (A0:Option Addr) (c0':Nat) (m:Int) (cur:St):Prop where
 stc:StC wr (fun b=>S b∨(w.heap.size+4≤b∧b<wr.heap.size)) (w.heap.size+2) cur
 ok:StOk s m cur
 b0:wr.cell? ⟨w.heap.size,0,none⟩=some (.int .i64 s.version)
 b1:wr.cell? ⟨w.heap.size,1,none⟩=some (.slice A0 s.tabs.length c0')
 r0:wr.cell? ⟨w.heap.size+1,0,none⟩=some (.slice none 0 0)
 rf:wr.frozen? ⟨w.heap.size+1,0,none⟩=false
 t0:wr.cell? ⟨w.heap.size+3,0,none⟩=some (.slice (some ⟨w.heap.size+2,0,none⟩) s.tabs.length s.tabs.length)
 tf:wr.frozen? ⟨w.heap.size+3,0,none⟩=false
 case:CaseOk wr g
 gr:w.grownBy wr (some g)
 sz:w.heap.size+4≤wr.heap.size
section
variable {w wr wx wp:World} {g:Nat} {S:Nat→Prop} {s:Sch} {A0:Option Addr} {c0':Nat} {m:Int} {cur cur':St}
theorem StI.keep (h:StI w wr g S s A0 c0' m cur) (hf:Fr (fun b=>b=g) wr wx) (hc:CaseOk wx g) (hgl:g<w.heap.size) (hS:∀ b,S b→b<w.heap.size∧b≠g):StI w wx g S s A0 c0' m cur:=by
 have hz:=h.sz;have hzx:=hf.size;refine⟨(h.stc.fr hf (fun b hb hl=>⟨fun hb'=>?_,by omega⟩)).more (fun b hb=>hb.imp id (fun hb=>⟨hb.1,by have:=hb.2;omega⟩)) (fun b hb=>?_),h.ok,(hf.cell (by omega) (by omega)).trans h.b0,(hf.cell (by omega) (by omega)).trans h.b1,(hf.cell (by omega) (by omega)).trans h.r0,(hf.frozenF (by omega) (by omega)).trans h.rf,(hf.cell (by omega) (by omega)).trans h.t0,(hf.frozenF (by omega) (by omega)).trans h.tf,hc,h.gr.trans hf.grown,by omega⟩
 · rcases hb' with hb' | hb'
   · exact(hS b hb').2 hb
   · omega
 · rcases hb with hb | hb
   · have:=hS b hb;omega
   · exact⟨hb.2,by have:=hb.1;omega⟩
theorem StI.put (h:StI w wr g S s A0 c0' m cur) (hgl:g<w.heap.size) (hS:∀ b,S b→b<w.heap.size∧b≠g) (hb:Below wr.heap.size wr wx) (hst:StC wp (fun b=>(S b∨(w.heap.size+4≤b∧b<wx.heap.size))∨New wx wp b) (w.heap.size+2) cur') (hf:Fr (fun b=>b=w.heap.size+2) wx wp) (hok:StOk s m cur') :
  StI w (wp.setCell ⟨w.heap.size+3,0,none⟩ (.slice (some ⟨w.heap.size+2,0,none⟩) s.tabs.length s.tabs.length)) g S s A0 c0' m cur':=by
 have hz:=h.sz;have hzx:=hb.size;have hzp:=hf.size;have hne:∀ b,b≠w.heap.size+3→(wp.setCell ⟨w.heap.size+3,0,none⟩ (.slice (some ⟨w.heap.size+2,0,none⟩) s.tabs.length s.tabs.length)).heap[b]?=wp.heap[b]?:=fun b hb=>Below.heap_setCell wp ⟨w.heap.size+3,0,none⟩ _ b hb;have hblk:∀ b,b<wr.heap.size→b≠w.heap.size+2→wp.heap[b]?=wr.heap[b]?:=fun b h1 h2=>(hf.block b (by omega) h2).trans (hb.block b h1);have hall:∀ b,b<wr.heap.size→b≠w.heap.size+2→b≠w.heap.size+3→(wp.setCell ⟨w.heap.size+3,0,none⟩ (.slice (some ⟨w.heap.size+2,0,none⟩) s.tabs.length s.tabs.length)).heap[b]?=wr.heap[b]?:=fun b h1 h2 h3=>(hne b h3).trans (hblk b h1 h2)
 have hnew:∀ b,((S b∨(w.heap.size+4≤b∧b<wx.heap.size))∨New wx wp b)→S b∨(w.heap.size+4≤b∧b<wp.heap.size):=fun b hb'=>by
  rcases hb' with (hb' | hb') | hb'
  · exact .inl hb'
  · exact .inr ⟨hb'.1,by have:=hb'.2;omega⟩
  · exact .inr ⟨by have h9:wx.heap.size≤b:=hb'.1;omega,hb'.2⟩
 have hlow:∀ b,(S b∨(w.heap.size+4≤b∧b<wp.heap.size))→b<wp.heap.size∧b≠w.heap.size+2:=fun b hb'=>by
  rcases hb' with hb' | hb'
  · have:=hS b hb';omega
  · exact⟨hb'.2,by have:=hb'.1;omega⟩
 have hst1:=hst.more (S':=fun b=>S b∨(w.heap.size+4≤b∧b<wp.heap.size)) hnew hlow;have hfg:Fr (fun b=>b=g) wr (wp.setCell ⟨w.heap.size+3,0,none⟩ (.slice (some ⟨w.heap.size+2,0,none⟩) s.tabs.length s.tabs.length))→True:=fun _=>trivial;refine⟨(hst1.keep (by simp) (fun b hb'=>hne b ?_) (hne (w.heap.size+2) (by omega))).more (fun b hb'=>hb'.imp id (fun hb'=>⟨hb'.1,by have:=hb'.2;simpa using this⟩)) (fun b hb'=>?_),hok,?_,?_,?_,?_,?_,?_,?_,?_,by simp;omega⟩
 · rcases hb' with hb' | hb'
   · have:=hS b hb';omega
   · have:=hb'.1;omega
 · have:=hlow b (by simpa using hb');simpa using this
 · exact(World.cell?_of_block (hall (w.heap.size) (by omega) (by omega) (by omega))).trans h.b0
 · exact(World.cell?_of_block (hall (w.heap.size) (by omega) (by omega) (by omega))).trans h.b1
 · exact(World.cell?_of_block (hall (w.heap.size+1) (by omega) (by omega) (by omega))).trans h.r0
 · exact(World.frozen?_of_block (hall (w.heap.size+1) (by omega) (by omega) (by omega))).trans h.rf
 · exact World.cell?_setCell_same _ _ _ ((World.cell?_of_block (hblk (w.heap.size+3) (by omega) (by omega))).trans h.t0)
 · rw [World.frozen?_setCell];exact(World.frozen?_of_block (hblk (w.heap.size+3) (by omega) (by omega))).trans h.tf
 · exact h.case.keep (fun b hb'=>hall b (by omega) (by omega) (by omega))
 · have h1:=h.gr;refine⟨?_,?_,?_,by simp;omega,fun b hb1 hb2=>(hall b (by omega) (by omega) (by omega)).trans (h1.block b hb1 hb2)⟩
   · exact hf.os.trans (hb.os.trans h1.os)
   · exact hf.tape.trans (hb.tape.trans h1.tape)
   · exact hf.output.trans (hb.output.trans h1.output)
end
def CntOk (cur:St) (t nn:Nat):Prop:=(∀ j,(cur.getD j []).length≤4)∧(cur.getD t []).length+nn≤4∧∀ j,t<j→cur.getD j []=[]
theorem CntOk.put {cur:St} {t nn:Nat} {P:List Row} (h:CntOk cur t (nn+1)) (ht:t<cur.length) (hP:P.length≤(cur.getD t []).length+1):CntOk (cur.set t P) t nn:=by
 have e1:(cur.set t P).getD t []=P:=(by simp [List.getD,ht]);have e2:∀ j,j≠t→(cur.set t P).getD j []=cur.getD j []:=(fun j hj=>by simp [List.getD,List.getElem?_set_ne (Ne.symm hj)]);refine⟨fun j=>?_,?_,fun j hj=>?_⟩
 · by_cases hj:j=t
   · rw [hj,e1];have:=h.2.1;omega
   · rw [e2 j hj];exact h.1 j
 · rw [e1];have:=h.2.1;omega
 · rw [e2 j (by omega)];exact h.2.2 j hj
theorem getD_nil (n j:Nat):(List.replicate n ([]:List Row)).getD j []=[]:=by
 by_cases h:j<n<;>simp [List.getD,h]
def StatePost (s:Sch) (m:Int) (S:Nat→Prop) (w:World) (g:Nat) (e:Ending) (w':World):Prop:=∃ (gt:Nat) (st:St),e=.returned (Zbr (some ⟨gt,0,none⟩) st.length st.length)∧StOk s m st∧(∀ j,(st.getD j []).length≤4)∧w.heap.size≤gt∧StC w' (fun b=>S b∨(gt<b∧b<w'.heap.size)) gt st∧CaseOk w' g∧w.grownBy w' (some g)
theorem state_any (g:Nat) (A0:Option Addr) (c0':Nat) (s:Sch) (m:Int) (S:Nat→Prop) (w:World) (hs:TabS w S A0 s.tabs) (hS:∀ b,S b→b<w.heap.size∧b≠g) (hgs:GenS s) (hm:ZbB m=true) (hc:CaseOk w g) :
  Calls Tryz.prog 12 #[.pointer (some ⟨g,0,none⟩),sAgg s.version A0 s.tabs.length c0',.int .i64 m] w (StatePost s m S w g):=by
 have hgl:=hc.lt;have hsl:=hgs.len;have HS:=hI hs;have HSG:=hI hS;have HGS:=hI hgs;have HC:=hI hc;have HM:=hI hm;clear hs hgs hc hm;have hmk:∀ w:World,(Instr.makeSlice 31 (.int .i64 (s.tabs.length:Int)) (.int .i64 (s.tabs.length:Int))).run Tryz.prog w=.ok (.slice (some ⟨w.heap.size,0,none⟩) s.tabs.length s.tabs.length) (w.alloc (.cells (Zbi s.tabs.length).toArray 73)):=fun w=>Zef s.tabs.length (by omega) w;go_enter Tryz.func12,Tryz.ntmps12
 go_wp2_with fail
 clear hmk;rw [show w.heap.size+1+1+1=w.heap.size+3 from rfl,show w.heap.size+1+1=w.heap.size+2 from rfl];obtain⟨W,hW⟩:∃ W,(((w.alloc (.cells #[.int .i64 s.version,.slice A0 s.tabs.length c0'] 28)).alloc (.cells #[.slice none 0 0] 33)).alloc (.cells (Zbi s.tabs.length).toArray 73)).alloc (.cells #[.slice (some ⟨w.heap.size+2,0,none⟩) s.tabs.length s.tabs.length] 33)=W:=⟨_,rfl⟩
 have HI0:=hI (show StI w W g S s A0 c0' m (List.replicate s.tabs.length []) from by
  subst hW;have hb:Below w.heap.size w ((((w.alloc (.cells #[.int .i64 s.version,.slice A0 s.tabs.length c0'] 28)).alloc (.cells #[.slice none 0 0] 33)).alloc (.cells (Zbi s.tabs.length).toArray 73)).alloc (.cells #[.slice (some ⟨w.heap.size+2,0,none⟩) s.tabs.length s.tabs.length] 33)):=((((Below.refl w.heap.size w).alloc (Nat.le_refl _) _).alloc (by simp) _).alloc (by simp;omega) _).alloc (by simp;omega) _
  have hg:(((((w.alloc (.cells #[.int .i64 s.version,.slice A0 s.tabs.length c0'] 28)).alloc (.cells #[.slice none 0 0] 33)).alloc (.cells (Zbi s.tabs.length).toArray 73)).alloc (.cells #[.slice (some ⟨w.heap.size+2,0,none⟩) s.tabs.length s.tabs.length] 33))).heap[w.heap.size+2]?=some (.cells (Zbi s.tabs.length).toArray 73 (0,0)):=by
   refine(Below.heap_alloc _ _ _ (by simp)).trans ?_;have:=heap_alloc_new ((w.alloc (.cells #[.int .i64 s.version,.slice A0 s.tabs.length c0'] 28)).alloc (.cells #[.slice none 0 0] 33)) (.cells (Zbi s.tabs.length).toArray 73);simpa using this
  exact⟨(StC.made hg).more (fun _ h=>h.elim) (fun b hb'=>by
   rcases hb' with hb' | hb'
   · have:=HSG.out b hb';simp;omega
   · exact⟨hb'.2,by have:=hb'.1;omega⟩),stOk_nil _ rfl,(Zag (by simp<;>omega)).trans ((Zag (by simp<;>omega)).trans ((Zag (by simp)).trans (Zae rfl rfl))),(Zag (by simp<;>omega)).trans ((Zag (by simp<;>omega)).trans ((Zag (by simp)).trans (Zae rfl rfl))),(Zag (by simp<;>omega)).trans ((Zag (by simp)).trans (Zae (by simp) rfl)),(Zby (by simp<;>omega)).trans ((Zby (by simp)).trans (ZaN (by simp))),Zae (by simp) rfl,ZaN (by simp),HC.out.keep (fun b hb'=>hb.block b (by omega)),(Fr.of_below (X:=fun b=>b=g) hb).grown,by simp⟩)
 rw [hW];clear hW HC
 go_loopw [19] (fun i wr=>∃ (t:Nat) (cur:St),t≤s.tabs.length∧i=.int .i64 t∧StI w wr g S s A0 c0' m cur∧(∀ j,(cur.getD j []).length≤4)∧∀ j,t≤j→cur.getD j []=[]) (fun i _=>s.tabs.length - (intOf i).toNat)
 case atStart=>exact⟨0,_,Nat.zero_le _,rfl,HI0.out,fun j=>by rw [getD_nil];simp,fun j _=>getD_nil _ _⟩
 case round =>
  obtain⟨t,cur,ht,rfl,hi,hc4,hcn⟩:=hrel;have HI:=hI hi;have HC4:=hI hc4;have HCN:=hI hcn;have hsz:=hi.sz;clear hi hc4 hcn
  by_cases htl:t<s.tabs.length
  · go_wp2_with fail
    refine(ZaI g 5 _ (by omega) HI.out.case).mono ?_;rintro e w1 ⟨r,rfl,r0,r1,-,hcr,hgr,hsr⟩;have hr5:=r1 (by omega);obtain⟨nn,rfl⟩:=Int.eq_ofNat_of_zero_le r0;have HI1:=hI (HI.out.keep (ZaJ hgr) hcr hgl HSG.out);clear hcr hgr hsr r1
    go_wp2_with fail
    go_loopw [9] (fun i wr=>∃ (nn:Nat) (cur:St),nn≤4∧i=.int .i64 nn∧StI w wr g S s A0 c0' m cur∧CntOk cur t nn) (fun i _=>(intOf i).toNat)
    case atStart=>exact⟨nn,cur,by omega,rfl,HI1.out,HC4.out,by rw [HCN.out t (Nat.le_refl _)];simp;omega,fun j hj=>HCN.out j (by omega)⟩
    case round =>
     clear HI HI1 HC4 HCN hsz;obtain⟨nn,cur,hnn,rfl,hi,hcn⟩:=hrel;have HI:=hI hi;have HCN:=hI hcn;have hsz:=hi.sz;clear hi hcn;rcases Nat.eq_zero_or_pos nn with hn0 | hn0
     · subst hn0
       go_wp2_with fail
       go_roundw
       case rel=>exact⟨t+1,cur,by omega,by go_num,HI.out,HCN.out.1,fun j hj=>HCN.out.2.2 j (by omega)⟩
       case measure=>(simp [intOf];try omega)
     · obtain⟨n1,rfl⟩:∃ n1,nn=n1+1:=⟨nn - 1,by omega⟩;have hSw:∀ b,S b→b<w.heap.size:=fun b hb=>(HSG.out b hb).1;have hsame:Same S w wr:=fun b hb=>HI.out.gr.block b (hSw b hb) (fun e=>(HSG.out b hb).2 (by injection e));have HTW:=hI (HS.out.keep hsame);have hSr:∀ b,S b→b<wr.heap.size:=(fun b hb=>by have:=hSw b hb;omega);obtain⟨bT,oT,rfl,hbT,A1,A2,A3,c1,c2,c3,hta⟩:=HTW.out.at_ htl;have lT:bT<wr.heap.size:=hSr bT hbT;have l0:w.heap.size<wr.heap.size:=(by omega);have hg0:¬ w.heap.size=g:=(by omega);have hgT:¬ bT=g:=(HSG.out bT hbT).2;have u0:=HI.out.b0;have u1:=HI.out.b1;have u2:=hta.key;have hkl:(ZbC s t).length≤1000000:=(by have:=(HGS.out.kinds htl).2;omega);have HFIT:=hI (fun (r:Row) (h:Zhw (s.tabs.getD t t0).key m (ZbC s t) r)=>Zfr HGS.out HM.out htl h);clear hta hsame;generalize (s.tabs.getD t t0).key=ky at u2 HFIT
       go_wp2_with fail
       refine ZbD (fun c a d v w h=>by cases d<;>exact h) (fun Q' HQ HP=>?_);refine Zak (fun w'=>w'.cell? ⟨w.heap.size,0,none⟩=some (.int .i64 s.version)∧w'.cell? ⟨w.heap.size,1,none⟩=some (.slice (some ⟨bT,oT,none⟩) s.tabs.length c0')∧w'.cell? ⟨bT,oT+t*5+2,none⟩=some (.int .i64 ky)) 13 13 (bA 13 0) (by kernel_rfl) (by kernel_rfl) (by kernel_rfl) ?_;refine tJ 0 28 (bA 13 1) HP.out ⟨u0,u1,u2⟩ ?_;refine tJ 1 29 (bA 13 3) HP.out ⟨u0,u1,u2⟩ ?_;refine tJ 2 30 (bA 13 7) HP.out ⟨u0,u1,u2⟩ ?_;refine tJ 4 32 (bA 13 23) HP.out ⟨u0,u1,u2⟩ ?_;refine tJ 5 33 (bA 13 55) HP.out ⟨u0,u1,u2⟩ ?_;refine tJ 6 34 (bA 13 119) HP.out ⟨u0,u1,u2⟩ ?_;refine tJ 7 35 (bA 13 247) HP.out ⟨u0,u1,u2⟩ ?_;refine tJ 8 36 (bA 13 503) HP.out ⟨u0,u1,u2⟩ ?_;refine tJ 9 37 (bA 13 1015) HP.out ⟨u0,u1,u2⟩ ?_;refine tJ 10 38 (bA 13 2039) HP.out ⟨u0,u1,u2⟩ ?_;refine tQ 3 (some 31) (bA 13 2047) fun K HK=>?_;go_simp;refine(ZdE (some ⟨bT,oT,none⟩) c0' s t S wr.drew (HTW.out.keep (fun _ _=>rfl)) hSr).mono ?_;rintro e wk ⟨KA,kc,rfl,hks,hkc,-,hbk0⟩;have hbk:Below wr.heap.size wr wk:=(Below.refl _ wr).drew.trans hbk0;have hzk:=hbk.size;have HKS:=hI hks;clear hks hbk0;have p0:=cQ hbk l0 u0;have p1:=cQ hbk l0 u1;have p2:=cQ hbk lT u2;refine HK.out _ _ (fun _=>⟨p0,p1,p2⟩) ?_;clear HK K
       try simp only [Act.put,psA,psB,psC]
       refine tQ 11 (some 39) (bA 13 4095) fun K HK=>?_;go_simp;refine(row_any g KA kc (ZbC s t) ky m (New wr.drew wk) wk HKS.out (fun b hb=>⟨hb.2,by have h9:wr.heap.size≤b:=hb.1;omega⟩) hkl (HI.out.case.keep (fun b hb=>hbk.block b (by omega)))).mono ?_;rintro e wq ⟨row,RA,rc,rfl,hgen,hrow,hcq,hgq⟩;have hzq:=hgq.size;have HGEN:=hI hgen;have HROW:=hI (ZaA hrow (Zfq HGEN.out hkl) (Nat.le_refl _));have HFQ:=hI (show Fr (fun b=>b=g) wr wq from (Fr.of_below hbk).trans (ZaJ hgq) (fun _ _ e=>e));have HIQ:=hI (HI.out.keep HFQ.out hcq hgl HSG.out);clear hgen hrow hcq;have q0:=(HFQ.out.cell (b:=w.heap.size) l0 hg0).trans u0;have q1:=(HFQ.out.cell (b:=w.heap.size) l0 hg0).trans u1;have q2:=(HFQ.out.cell (b:=bT) lT hgT).trans u2;clear hgq;refine HK.out _ _ (fun _=>⟨q0,q1,q2⟩) ?_;clear HK K
       try simp only [Act.put,psA,psB,psC]
       refine tJ 12 10 (bA 13 8191) HP.out ⟨q0,q1,q2⟩ ?_;refine Zam (by kernel_rfl) ?_;rw [HQ.out];clear HQ HP Q';have HTQ:=hI (HTW.out.keep (HFQ.out.same (fun b hb=>⟨hSr b hb,(HSG.out b hb).2⟩)));have hsq:=HIQ.out.sz;clear p0 p1 p2 u0 u1 u2 q2;have u0:=q0;have u1:=q1;have u2:=HIQ.out.t0;clear q0 q1;have hqq:wr.heap.size≤wq.heap.size:=HFQ.out.size
       go_wp2_with fail
       refine ZbD (fun c a d v w h=>by cases d<;>exact h) (fun Q' HQ HP=>?_);refine Zak (fun w'=>w'.cell? ⟨w.heap.size,0,none⟩=some (.int .i64 s.version)∧w'.cell? ⟨w.heap.size,1,none⟩=some (.slice (some ⟨bT,oT,none⟩) s.tabs.length c0')∧w'.cell? ⟨w.heap.size+3,0,none⟩=some (.slice (some ⟨w.heap.size+2,0,none⟩) s.tabs.length s.tabs.length)) 9 10 (bA 10 0) (by kernel_rfl) (by kernel_rfl) (by kernel_rfl) ?_;refine tJ 0 40 (bA 10 1) HP.out ⟨u0,u1,u2⟩ ?_;refine tJ 1 41 (bA 10 3) HP.out ⟨u0,u1,u2⟩ ?_;refine tJ 2 42 (bA 10 7) HP.out ⟨u0,u1,u2⟩ ?_;refine tJ 3 43 (bA 10 15) HP.out ⟨u0,u1,u2⟩ ?_;refine tJ 4 44 (bA 10 31) HP.out ⟨u0,u1,u2⟩ ?_;refine tJ 5 45 (bA 10 63) HP.out ⟨u0,u1,u2⟩ ?_;refine tJ 7 47 (bA 10 191) HP.out ⟨u0,u1,u2⟩ ?_;refine tQ 6 (some 46) (bA 10 255) fun K HK=>?_;go_simp;refine(Zcd (some ⟨bT,oT,none⟩) c0' s t RA rc row (fun b=>b<wq.heap.size) wq.drew ((HTQ.out.keep (w':=wq.drew) (fun _ _=>rfl)).more (fun b hb=>by have:=hSr b hb;show b<wq.heap.size;omega)) ((HROW.out.2.keep (w':=wq.drew) (fun _ _=>rfl)).more (fun b hb=>hb.2)) HROW.out.1 (fun b hb=>hb)).mono ?_;rintro e wk ⟨KA2,kc2,rfl,hkey,hbk0⟩;have hbk:Below wq.heap.size wq wk:=(Below.refl _ wq).drew.trans hbk0;have hzk2:=hbk.size;have HKEY:=hI (ZaA hkey (Zbv (s:=s) (t:=t) (Zfq HGEN.out hkl)) (show wq.heap.size≤_ from Nat.le_refl _));clear hkey hbk0;have p0:=cK hbk u0;have p1:=cK hbk u1;have p2:=cK hbk u2;refine HK.out _ _ (fun _=>⟨p0,p1,p2⟩) ?_;clear HK K
       try simp only [Act.put,psA,psB,psC]
       refine tQ 8 (some 48) (bA 10 511) fun K HK=>?_;go_simp;have HST:=hI (HIQ.out.stc.below hbk);have hlen2:=HIQ.out.ok.1;have hput:=Zct (some ⟨bT,oT,none⟩) c0' s (w.heap.size+2) s.tabs.length cur t KA2 kc2 (keyF s t row) RA rc row (fun b=>S b∨(w.heap.size+4≤b∧b<wk.heap.size)) wk ((HTQ.out.keep (Same.of_below hbk (fun b hb=>by have:=hSr b hb;omega))).more (fun b hb=>.inl hb)) (HST.out.more (fun b hb=>hb.imp id (fun hb=>⟨hb.1,by have:=hb.2;omega⟩)) (fun b hb=>by rcases hb with hb | hb;{ have:=HSG.out b hb;omega };exact⟨hb.2,by have:=hb.1;omega⟩)) (HKEY.out.2.more (fun b hb=>.inr ⟨by have h9:wq.heap.size≤b:=hb.1;omega,hb.2⟩)) ((HROW.out.2.keep (Same.of_below hbk (fun b hb=>hb.2))).more (fun b hb=>.inr ⟨by have h9:_≤b:=hb.1;omega,by have:=hb.2;omega⟩)) htl (by omega) (by have:=HCN.out.1 t;omega) (by omega);rw [hlen2] at hput;refine hput.mono ?_;rintro e wp ⟨rfl,hstp,hfp⟩;have HSTP:=hI hstp;have HFP:=hI hfp;have hzp:=hfp.size;clear hput hstp hfp;have q0:=(HFP.out.cell (b:=w.heap.size) (by omega) (by omega)).trans p0;have q1:=(HFP.out.cell (b:=w.heap.size) (by omega) (by omega)).trans p1;have q2:=(HFP.out.cell (b:=w.heap.size+3) (by omega) (by omega)).trans p2;refine HK.out _ _ (fun _=>⟨q0,q1,q2⟩) ?_;clear HK K
       try simp only [Act.put,psA,psB,psC]
       refine tQ 9 none (bA 10 1023) fun K HK=>?_;have tf:=(HFP.out.frozenF (b:=w.heap.size+3) (o:=0) (by omega) (by omega)).trans ((hbk.frozen (p:=⟨w.heap.size+3,0,none⟩) (by show _<_;simp;omega)).trans HIQ.out.tf);go_simp;refine HK.out _ _ (fun h=>absurd rfl h) ?_;clear HK K;refine Zam (by kernel_rfl) ?_;rw [HQ.out];clear HQ HP Q';have hok:=put_ok HIQ.out.ok (t:=t) (by rw [HIQ.out.ok.1];exact htl) (key:=keyF s t row) (row:=row) (fun _=>rfl) (fun _=>HFIT.out row HGEN.out);have HF:=hI (HIQ.out.put hgl HSG.out hbk HSTP.out HFP.out hok.1)
       go_wp2_with fail
       go_roundw
       case rel=>exact⟨n1,_,by omega,by go_num,HF.out,HCN.out.put (by rw [HIQ.out.ok.1];exact htl) (by rw [hok.2];exact putL_len _ _ _ _)⟩
       case measure=>(simp [intOf];try omega)
  · have r0:=HI.out.r0;have rf:=HI.out.rf;have t0':=HI.out.t0;have hl3:w.heap.size+3<wr.heap.size:=(by omega);have hl1:w.heap.size+1<wr.heap.size:=by omega
    go_wp2_with fail
    have x0:(wr.setCell ⟨w.heap.size+1,0,none⟩ (.slice (some ⟨w.heap.size+2,0,none⟩) s.tabs.length s.tabs.length)).cell? ⟨w.heap.size+1,0,none⟩=some (.slice (some ⟨w.heap.size+2,0,none⟩) s.tabs.length s.tabs.length):=World.cell?_setCell_same _ _ _ r0;have hne:∀ b,b≠w.heap.size+1→(wr.setCell ⟨w.heap.size+1,0,none⟩ (.slice (some ⟨w.heap.size+2,0,none⟩) s.tabs.length s.tabs.length)).heap[b]?=wr.heap[b]?:=fun b hb=>Below.heap_setCell wr ⟨w.heap.size+1,0,none⟩ _ b hb;have hlen:=HI.out.ok.1
    have hst:=(HI.out.stc.keep (w':=wr.setCell ⟨w.heap.size+1,0,none⟩ (.slice (some ⟨w.heap.size+2,0,none⟩) s.tabs.length s.tabs.length)) (by simp) (fun b hb=>hne b (by rcases hb with hb | hb;{ have:=HSG.out b hb;omega };have:=hb.1;omega)) (hne (w.heap.size+2) (by omega))).more (S':=fun b=>S b∨(w.heap.size+2<b∧b<(wr.setCell ⟨w.heap.size+1,0,none⟩ (.slice (some ⟨w.heap.size+2,0,none⟩) s.tabs.length s.tabs.length)).heap.size)) (fun b hb=>hb.imp id (fun hb=>⟨by have:=hb.1;omega,by have:=hb.2;simpa using this⟩)) (fun b hb=>by
     rcases hb with hb | hb
     · have:=HSG.out b hb;simp;omega
     · exact⟨hb.2,by have:=hb.1;omega⟩)
    exact bodyPost_ret (v:=Zbr (some ⟨w.heap.size+2,0,none⟩) s.tabs.length s.tabs.length) (by simp [results,Tryz.results12,go_sem,x0]) rfl ⟨w.heap.size+2,cur,by rw [hlen],HI.out.ok,HC4.out,by omega,hst,Zac HI.out.case (by omega),Zad HI.out.gr (by omega)⟩
end Go.Proofs.YtkpjjfhfbpfjpaaGreat

namespace Go.Proofs.YtkpjjfhfbpfjpaaGreat
open Go Go.RowKit
theorem run_copy_rowK {P:Program} (w:World) (dT sT ty elem:TypeId) (k g o dLen dCap:Nat) (a:Addr) (sLen sCap:Nat) (cur:Array Value) (t:TypeId) (cs:List Value) (m:Nat)
  (hu:P.underlying dT=some (.slice elem)) (hs:(P.info? elem).map (·.size)=some k)
  (hg:w.heap[g]?=some (.cells cur t (0,0))) (hm:m=Nat.min sLen dLen) (hn:cs.length=m*k)
  (hsrc:∀ j v,cs[j]?=some v→w.cell? (a.add j)=some v) (hfit:o+cs.length≤cur.size) (h1:∀ v ∈ cs,v.oneCell'=true) :
  (Builtin.copy_ #[dT,sT] ty #[.slice (some ⟨g,o,none⟩) dLen dCap,.slice (some a) sLen sCap]).run P w =
   .ok (goInt m) (w.setRow g (cur.toList.take o++cs++cur.toList.drop (o+cs.length)).toArray):=by
 have hl:=run_loadCells_list (P:=P) w a cs hsrc;have hst:=run_storeCells_at P g o t cs 0 cur w hg (by simpa using hfit) h1;rw [hn] at hl;cases hq:P.info? elem with
 | none=>simp [hq] at hs
 | some i =>
  have hi:i.size=k:=(by simpa [hq] using hs);simp [Builtin.copy_,run_underlying hu,Builtin.lenOf,Builtin.firstCells,sizeOf,typeInfo,hq,hi,←hm,hl,hst]
theorem wpList_copy_k {P:Program} {w:World} {ops:Array Oper} {rest:List Oper} {o:Oper} {a:Act} {Q:Exit→Act→World→Prop} (hgd:o.guard=none) (d s:Operand) (dT sT:TypeId)
  (ho:o.op=.call { callee:=.builtin .copy,args:=#[d,s],argTypes:=#[dT,sT] }) (elem:TypeId) (k:Nat) (hu:P.underlying dT=some (.slice elem)) (hsz:(P.info? elem).map (·.size)=some k)
  (g dLen dCap:Nat) (ad:Addr) (sLen sCap:Nat) (hd:a.eval d=.slice (some ⟨g,0,none⟩) dLen dCap) (hs:a.eval s=.slice (some ad) sLen sCap)
  (cur:List Value) (t:TypeId) (hg:w.heap[g]?=some (.cells cur.toArray t (0,0))) (cs:List Value) (m:Nat) (hm:m=Nat.min sLen dLen) (hn:cs.length=m*k)
  (hsrc:∀ j v,cs[j]?=some v→w.cell? (ad.add j)=some v) (hfit:cs.length≤cur.length) (h1:∀ v ∈ cs,v.oneCell'=true)
  (h:∀ w',w'.heap[g]?=some (.cells (cs++cur.drop cs.length).toArray t (0,0))→Fr (fun b=>b=g) w w'→wpList P ops Q rest (a.put o.dst (goInt m)) w'):wpList P ops Q (o :: rest) a w:=by
 refine wpList_plain hgd fun K hK=>?_;have hrun:=run_copy_rowK (P:=P) w dT sT o.type elem k g 0 dLen dCap ad sLen sCap cur.toArray t cs m hu hsz hg hm hn hsrc (by simpa using hfit) h1;unfold Oper.wp;simp only [execOp,ho,resolve,invoke,builtin,hd,hs];simp [hd,hs,hrun,Result.andThen];refine hK _ _ (h _ ?_ ?_)
 · have:=setRow_heap w g cur.toArray (cs++cur.drop cs.length).toArray t _ hg;simpa using this
 · exact⟨rfl,rfl,rfl,by simp [World.setRow],fun b hb hne=>setRow_other w g b _ hne⟩
end Go.Proofs.YtkpjjfhfbpfjpaaGreat

namespace Go.Proofs.YtkpjjfhfbpfjpaaGreat
theorem Zdm {m key:Int}:∀ {cs:List Col} {r:Row} {i:Nat},ZaE m key i cs r=true→r.length=cs.length→∀ j,j<cs.length→ZaM m key (cs.getD j c0).kind (i+j) (r.getD j v0)=true
 | [],r,i,_,_,j,hj=>by simp at hj
 | c :: cs,[],i,_,h,j,_=>by simp at h
 | c :: cs,v :: r,i,hf,h,j,hj=>by
  simp only [ZaE,Bool.and_eq_true] at hf;cases j with
  | zero=>simpa using hf.1
  | succ j =>
   have:=Zdm hf.2 (by simpa using h) j (by simpa using hj);rw [show i+1+j=i+(j+1) by omega] at this;simpa using this
theorem ZgI {s:Sch} {t:Nat} (ht:t<s.tabs.length) (r:Row):keyF s t r=r.take (keyN (s.tabs.getD t t0).key r):=by
 unfold keyF hasN;rw [if_pos (by simp;omega),Int.toNat_natCast]
def mixR (k r:Row):Row:=k++r.drop k.length
theorem Zdv {k r:Row} (h:k.length≤r.length):(mixR k r).length=r.length:=by simp [mixR];omega
theorem fits_mix {s:Sch} {m:Int} {t:Nat} (ht:t<s.tabs.length) {old row:Row} (ho:Zaz s t old m=true) (hr:Zaz s t row m=true):(keyF s t old).length≤row.length∧Zaz s t (mixR (keyF s t old) row) m=true:=by
 have lo:=ZcU ho;have lr:=ZcU hr;rw [Int.toNat_natCast] at lo lr;have hk:(keyF s t old).length≤row.length:=(by rw [ZgI ht,List.length_take];omega);refine⟨hk,?_⟩;unfold Zaz at ho hr ⊢;rw [Int.toNat_natCast] at *;simp only [Bool.and_eq_true,decide_eq_true_eq] at ho hr ⊢;refine⟨⟨hr.1.1,by rw [Zdv hk];exact hr.1.2⟩,ZdY (by rw [Zdv hk];exact hr.1.2) (fun j hj=>?_)⟩
 by_cases h:j<(keyF s t old).length
 · have e:(mixR (keyF s t old) row).getD j v0=old.getD j v0:=by
     have h2:j<old.length:=(by rw [ZgI ht,List.length_take] at h;omega);have h3:j<(mixR (keyF s t old) row).length:=(by rw [Zdv hk];omega);rw [ZcO h3,ZcO h2];have e3:(keyF s t old)[j]=old[j]:=(by simp only [ZgI ht,List.getElem_take]);rw [←e3];exact List.getElem_append_left h
   rw [e];exact Zdm ho.2 ho.1.2 j hj
 · have e:(mixR (keyF s t old) row).getD j v0=row.getD j v0:=by
     have h2:j<row.length:=(by omega);have h3:j<(mixR (keyF s t old) row).length:=(by rw [Zdv hk];omega);rw [ZcO h3,ZcO h2];simp only [mixR];rw [List.getElem_append_right (by omega),List.getElem_drop]
     congr 1
     omega
   rw [e];exact Zdm hr.2 hr.1.2 j hj
theorem Zet {s:Sch} {m:Int} (hw:∀ t,t<s.tabs.length→0<(s.tabs.getD t t0).cols.length) {cur:St} (hc:StOk s m cur) {t:Nat} (ht:t<s.tabs.length) {row:Row} (hr:Zaz s t row m=true) {b:Bool} (hb:look s cur t (keyF s t row)=[]→b=true) {x:Chg} (hx:x=⟨t,look s cur t (keyF s t row),if b then row else []⟩) :
  Zau s m x=true∧Zcf s x (cur.getD t [])=true∧keyC s x=keyF s t row:=by
 have htc:t<cur.length:=(by rw [hc.1];exact ht);have hrl:0<row.length:=(by have:=ZcU hr;rw [Int.toNat_natCast] at this;rw [this];exact hw t ht);obtain⟨old,ho⟩:∃ old,look s cur t (keyF s t row)=old:=⟨_,rfl⟩;rw [ho] at hb hx
 have hkey:keyC s x=keyF s t row:=by
  subst hx;unfold keyC
  by_cases h0:0<old.length
  · rw [if_pos h0];exact(Zei hc htc ho h0).2
  · rw [if_neg h0];have e:old=[]:=List.eq_nil_of_length_eq_zero (by omega);rw [hb e];rfl
 refine⟨?_,Zfa hc (ZdX hw hc) (by rw [hx]) htc (by rw [hkey,ho,hx]),hkey⟩;subst hx;unfold Zau hasN;simp only [Bool.and_eq_true,Bool.or_eq_true,decide_eq_true_eq,Bool.not_eq_true',beq_iff_eq];refine⟨⟨⟨⟨⟨by omega,by omega⟩,?_⟩,?_⟩,?_⟩,?_⟩
 · rw [Bool.and_eq_false_iff]
   by_cases h0:old.length=0
   · refine .inr (decide_eq_false ?_);rw [hb (List.eq_nil_of_length_eq_zero h0)];simp;intro e;rw [e] at hrl;simp at hrl
   · exact .inl (decide_eq_false h0)
 · by_cases h0:old.length=0
   · exact .inl h0
   · exact .inr (Zda hc htc ho (by omega))
 · cases b
   · exact .inl rfl
   · exact .inr hr
 · by_cases h0:old.length=0
   · exact .inl (.inl h0)
   · cases b
     · exact .inl (.inr rfl)
     · exact .inr ((cmpR_is.zero _ _).2 (Zei hc htc ho (by omega)).2)
theorem Zdk {s:Sch} {m:Int} {cur:St} (hc:StOk s m cur) {t:Nat} (ht:t<cur.length) {x:Chg} (hx:x.table=t) {key:Row} (hk:keyC s x=key):cur.set t (putR s t key x.new (cur.getD t []))=Zcj s cur x:=by
 unfold Zcj;rw [putR_eq (hc.2 t ht).2,ZhA,hk,hx,Int.toNat_natCast]
theorem ZfC {s:Sch} {cur:St} {t:Nat} (h1:t<s.tabs.length) (h2:t<cur.length) (key:Row):(getS s cur t key).getD []=look s cur t key:=by
 unfold getS look inT hasN;rw [if_pos (by simp;omega),Int.toNat_natCast]
end Go.Proofs.YtkpjjfhfbpfjpaaGreat

