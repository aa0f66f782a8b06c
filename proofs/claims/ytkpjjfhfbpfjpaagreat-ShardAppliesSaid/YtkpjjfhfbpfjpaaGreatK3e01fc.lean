import Derived.Test.YtkpjjfhfbpfjpaaGreatK0b8b95
import Derived.Test.YtkpjjfhfbpfjpaaGreatK64d55c
set_option linter.unusedVariables false
set_option linter.unusedSimpArgs false
set_option maxRecDepth 100000
set_option maxHeartbeats 8000000
namespace Go.Proofs.YtkpjjfhfbpfjpaaGreat
theorem pw_ext {α:Type} {lt:α→α→Prop} (irr:∀ a,¬ lt a a) (asy:∀ a b,lt a b→lt b a→False):∀ {l l':List α},l.Pairwise lt→l'.Pairwise lt→(∀ x,x ∈ l↔x ∈ l')→l=l'
 | [],[],_,_,_=>rfl
 | [],y :: l',_,_,h=>by have:=(h y).2 (by simp);simp at this
 | x :: l,[],_,_,h=>by have:=(h x).1 (by simp);simp at this
 | x :: l,y :: l',h1,h2,h=>by
  obtain⟨a1,a2⟩:=List.pairwise_cons.1 h1;obtain⟨b1,b2⟩:=List.pairwise_cons.1 h2
  have e:x=y:=by
   rcases List.mem_cons.1 ((h x).1 (by simp)) with e | hx
   · exact e
   · rcases List.mem_cons.1 ((h y).2 (by simp)) with e | hy
     · exact e.symm
     · exact(asy _ _ (a1 y hy) (b1 x hx)).elim
  subst e
  congr 1
  refine pw_ext irr asy a2 b2 (fun z=>⟨fun hz=>?_,fun hz=>?_⟩)
  · rcases List.mem_cons.1 ((h z).1 (by simp [hz])) with e | h3
    · subst e;exact(irr _ (a1 _ hz)).elim
    · exact h3
  · rcases List.mem_cons.1 ((h z).2 (by simp [hz])) with e | h3
    · subst e;exact(irr _ (b1 _ hz)).elim
    · exact h3
section
variable {s:Sch} {t:Int}
theorem asc_pw {l:List Row}:Asc s t l↔l.Pairwise (fun x y=>cmpR (keyF s t x) (keyF s t y)<0):=by
 constructor
 · induction l with
   | nil=>intro _;exact List.Pairwise.nil
   | cons r l ih =>
    intro h;obtain⟨h1,h2⟩:=ZbE h;exact List.pairwise_cons.2 ⟨h2,ih h1⟩
 · induction l with
   | nil=>intro _ i j _ hj;simp at hj
   | cons r l ih =>
    intro h;obtain⟨h1,h2⟩:=List.pairwise_cons.1 h;exact asc_cons (ih h2) h1
theorem ZcQ {l:List Row} (h:Asc s t l) {k:Row} {r:Row}:ZaI s t k l=some r↔r ∈ l∧keyF s t r=k:=by
 obtain⟨a,o,b,hc⟩:=ZbO k h;rw [hc.find];constructor
 · intro e;exact⟨by rw [hc.eq,e];simp,hc.at_ r e⟩
 · rintro⟨hr,hk⟩;rw [hc.eq] at hr;simp only [List.mem_append] at hr;rcases hr with (hr | hr) | hr
   · have:=hc.below r hr;rw [hk,cmpR_is.self] at this;omega
   · simpa [eq_comm] using hr
   · have:=hc.above r hr;rw [hk,cmpR_is.self] at this;omega
theorem asc_ext {l l':List Row} (h:Asc s t l) (h':Asc s t l') (he:∀ k,ZaI s t k l=ZaI s t k l'):l=l':=by
 refine pw_ext (fun a h=>by rw [cmpR_is.self] at h;omega) (fun a b h1 h2=>by have:=cmpR_is.flip (keyF s t a) (keyF s t b);omega) (asc_pw.1 h) (asc_pw.1 h') (fun r=>?_);have h1:=ZcQ h (k:=keyF s t r) (r:=r);have h2:=ZcQ h' (k:=keyF s t r) (r:=r);rw [he] at h1;constructor
 · intro hr;exact(h2.1 (h1.2 ⟨hr,rfl⟩)).1
 · intro hr;exact(h1.1 (h2.2 ⟨hr,rfl⟩)).1
theorem ZcD (k r:Row) (l:List Row):ZaI s t k (r :: l)=if cmpR (keyF s t r) k=0 then some r else ZaI s t k l:=by
 have:=Zgd s t k (l:=r :: l) (k:=0) (by simp);simpa using this
theorem Zbr {k:Row} {l:List Row} (h:∀ y ∈ l,cmpR k (keyF s t y)<0):ZaI s t k l=none:=by
 unfold ZaI;rw [List.find?_eq_none];intro y hy;have h1:=h y hy;have h2:=cmpR_is.flip k (keyF s t y);simp;omega
def addC (c:Chg) (l:List Chg):List Chg:=if cmpR c.old c.new≠0 then c :: l else l
def ZcF (s:Sch) (t:Int):List Row→List Row→List Chg
 | [],[]=>[]
 | x :: a,[]=>addC ⟨t,x,[]⟩ (ZcF s t a [])
 | [],y :: b=>addC ⟨t,[],y⟩ (ZcF s t [] b)
 | x :: a,y :: b =>
  if cmpR (keyF s t x) (keyF s t y)<0 then addC ⟨t,x,[]⟩ (ZcF s t a (y :: b))
  else if 0<cmpR (keyF s t x) (keyF s t y) then addC ⟨t,[],y⟩ (ZcF s t (x :: a) b)
  else addC ⟨t,x,y⟩ (ZcF s t a b)
termination_by a b=>a.length+b.length
theorem Zec {c x:Chg} {l:List Chg}:x ∈ addC c l↔(x=c∧c.old≠c.new)∨x ∈ l:=by
 unfold addC
 by_cases h:cmpR c.old c.new=0
 · have:=(cmpR_is.zero _ _).1 h;rw [if_neg (by simp [h])];exact⟨.inr,fun h'=>h'.resolve_left (fun h2=>h2.2 this)⟩
 · have:c.old≠c.new:=fun e=>h ((cmpR_is.zero _ _).2 e);simp [h,this]
def At (s:Sch) (t:Int) (a b:List Row) (x:Chg):Prop:=x.table=t∧x.old≠x.new∧∃ k,x.old=(ZaI s t k a).getD []∧x.new=(ZaI s t k b).getD []
theorem Zfy {a b a' b':List Row} {k0:Row} {c:Chg} (hc:c.table=t) (h1:c.old=(ZaI s t k0 a).getD []) (h2:c.new=(ZaI s t k0 b).getD []) (h3:ZaI s t k0 a'=none) (h4:ZaI s t k0 b'=none)
  (h5:∀ k,k≠k0→ZaI s t k a=ZaI s t k a'∧ZaI s t k b=ZaI s t k b') (x:Chg):At s t a b x↔(x=c∧c.old≠c.new)∨At s t a' b' x:=by
 constructor
 · rintro⟨e1,e2,k,e3,e4⟩
   by_cases hk:k=k0
   · subst hk;left
     have:x=c:=by
      cases x;cases c
      simp only at *;simp [e1,hc,e3,e4,h1,h2]
     exact⟨this,by rw [←this];exact e2⟩
   · right;exact⟨e1,e2,k,by rw [e3,(h5 k hk).1],by rw [e4,(h5 k hk).2]⟩
 · rintro(⟨rfl,h⟩ | ⟨e1,e2,k,e3,e4⟩)
   · exact⟨hc,h,k0,h1,h2⟩
   · by_cases hk:k=k0
     · subst hk;rw [h3] at e3;rw [h4] at e4;exact absurd (e3.trans e4.symm) e2
     · exact⟨e1,e2,k,by rw [e3,(h5 k hk).1],by rw [e4,(h5 k hk).2]⟩
theorem Zcd {k r:Row} {l:List Row} (h:k≠keyF s t r):ZaI s t k (r :: l)=ZaI s t k l:=by
 rw [ZcD,if_neg (fun e=>h ((cmpR_is.zero _ _).1 e).symm)]
theorem ZcC {r:Row} {l:List Row}:ZaI s t (keyF s t r) (r :: l)=some r:=by
 rw [ZcD,if_pos (cmpR_is.self _)]
theorem Zci:∀ (a b:List Row),Asc s t a→Asc s t b→∀ x,x ∈ ZcF s t a b↔At s t a b x
 | [],[],_,_,x=>by
  unfold ZcF;constructor
  · intro h;simp at h
  · rintro⟨_,h,k,e1,e2⟩;exact absurd (e1.trans e2.symm) h
 | r :: a,[],ha,hb,x=>by
  obtain⟨h1,h2⟩:=ZbE ha;unfold ZcF;rw [Zec,Zci a [] h1 hb x];exact(Zfy (c:=⟨t,r,[]⟩) (a':=a) (b':=[]) (k0:=keyF s t r) rfl (by rw [ZcC];rfl) rfl (Zbr h2) rfl (fun k hk=>⟨Zcd hk,rfl⟩) x).symm
 | [],r :: b,ha,hb,x=>by
  obtain⟨h1,h2⟩:=ZbE hb;unfold ZcF;rw [Zec,Zci [] b ha h1 x];exact(Zfy (c:=⟨t,[],r⟩) (a':=[]) (b':=b) (k0:=keyF s t r) rfl rfl (by rw [ZcC];rfl) rfl (Zbr h2) (fun k hk=>⟨rfl,Zcd hk⟩) x).symm
 | r :: a,q :: b,ha,hb,x=>by
  obtain⟨h1,h2⟩:=ZbE ha;obtain⟨h3,h4⟩:=ZbE hb;unfold ZcF
  by_cases c1:cmpR (keyF s t r) (keyF s t q)<0
  · have hq:∀ y ∈ q :: b,cmpR (keyF s t r) (keyF s t y)<0:=fun y hy=>by
      rcases List.mem_cons.1 hy with rfl | hy
      · exact c1
      · exact cmpR_is.lt_trans c1 (h4 y hy)
    rw [if_pos c1,Zec,Zci a (q :: b) h1 hb x];exact(Zfy (c:=⟨t,r,[]⟩) (a':=a) (b':=q :: b) (k0:=keyF s t r) rfl (by rw [ZcC];rfl) (by rw [Zbr hq];rfl) (Zbr h2) (Zbr hq) (fun k hk=>⟨Zcd hk,rfl⟩) x).symm
  · rw [if_neg c1]
    by_cases c2:0<cmpR (keyF s t r) (keyF s t q)
    · have c2':cmpR (keyF s t q) (keyF s t r)<0:=(by have:=cmpR_is.flip (keyF s t q) (keyF s t r);omega)
      have hr:∀ y ∈ r :: a,cmpR (keyF s t q) (keyF s t y)<0:=fun y hy=>by
       rcases List.mem_cons.1 hy with rfl | hy
       · exact c2'
       · exact cmpR_is.lt_trans c2' (h2 y hy)
      rw [if_pos c2,Zec,Zci (r :: a) b ha h3 x];exact(Zfy (c:=⟨t,[],q⟩) (a':=r :: a) (b':=b) (k0:=keyF s t q) rfl (by rw [Zbr hr];rfl) (by rw [ZcC];rfl) (Zbr hr) (Zbr h4) (fun k hk=>⟨rfl,Zcd hk⟩) x).symm
    · have hk:keyF s t r=keyF s t q:=(cmpR_is.zero _ _).1 (by omega);rw [if_neg c2,Zec,Zci a b h1 h3 x];refine(Zfy (c:=⟨t,r,q⟩) (a':=a) (b':=b) (k0:=keyF s t r) rfl (by rw [ZcC];rfl) (by rw [hk,ZcC];rfl) (Zbr h2) (Zbr (by rw [hk];exact h4)) (fun k hk'=>⟨Zcd hk',Zcd (by rw [←hk];exact hk')⟩) x).symm
termination_by a b=>a.length+b.length
theorem at_key {a b:List Row} (ha:Asc s t a) (hb:Asc s t b) (hne:(∀ r ∈ a,0<r.length)∧∀ r ∈ b,0<r.length) {x:Chg} {k:Row} (h1:x.table=t) (h2:x.old≠x.new) (h3:x.old=(ZaI s t k a).getD []) (h4:x.new=(ZaI s t k b).getD []):keyC s x=k∧((∃ r ∈ a,keyF s t r=k)∨∃ r ∈ b,keyF s t r=k):=by
 unfold keyC;rw [h1];cases ho:ZaI s t k a with
 | some r =>
  rw [ho] at h3;obtain⟨h5,h6⟩:=(ZcQ ha).1 ho;have e:x.old=r:=h3;rw [e,if_pos (hne.1 r h5)];exact⟨h6,.inl ⟨r,h5,h6⟩⟩
 | none =>
  rw [ho] at h3;have e:x.old=[]:=h3;rw [e,if_neg (by simp)];cases hn:ZaI s t k b with
  | none =>
   rw [hn] at h4;exact absurd (h3.trans h4.symm) h2
  | some r =>
   rw [hn] at h4;obtain⟨h5,h6⟩:=(ZcQ hb).1 hn;have e:x.new=r:=h4;rw [e];exact⟨h6,.inr ⟨r,h5,h6⟩⟩
def ZfF (s:Sch) (l:List Chg):Prop:=l.Pairwise (fun x y=>cmpC s x y<0)
theorem Zhl {l l':List Chg} (h:ZfF s l) (h':ZfF s l') (he:∀ x,x ∈ l↔x ∈ l'):l=l' :=
 pw_ext (fun a h=>by have:=(Zba (s:=s) a a).1 h;omega) (fun a b h1 h2=>by have:=(Zba (s:=s) a b).1 h1;omega) h h' he
theorem ZcH {c:Chg} {l:List Chg} (h:ZfF s l) (hc:∀ x ∈ l,cmpC s c x<0):ZfF s (addC c l):=by
 unfold addC;split
 · exact List.pairwise_cons.2 ⟨hc,h⟩
 · exact h
theorem Zhk {x y:Chg} {k k':Row} (hx:x.table=t) (hy:y.table=t) (h1:keyC s x=k) (h2:keyC s y=k') (h:cmpR k k'<0):cmpC s x y<0:=by
 unfold cmpC;rw [hx,hy,h1,h2];simpa using h
theorem Zhf {a b:List Row} (ha:Asc s t a) (hb:Asc s t b) (hne:(∀ r ∈ a,0<r.length)∧∀ r ∈ b,0<r.length) {x:Chg} (hx:x ∈ ZcF s t a b):x.table=t∧((∃ r ∈ a,keyC s x=keyF s t r)∨∃ r ∈ b,keyC s x=keyF s t r):=by
 obtain⟨h1,h2,k,h3,h4⟩:=(Zci a b ha hb x).1 hx;obtain⟨h5,h6⟩:=at_key ha hb hne h1 h2 h3 h4;refine⟨h1,?_⟩;rcases h6 with ⟨r,hr,e⟩ | ⟨r,hr,e⟩
 · exact .inl ⟨r,hr,h5.trans e.symm⟩
 · exact .inr ⟨r,hr,h5.trans e.symm⟩
theorem Zfi {a b:List Row} {k0:Row} {c:Chg} (ha:Asc s t a) (hb:Asc s t b) (hne:(∀ r ∈ a,0<r.length)∧∀ r ∈ b,0<r.length) (hc:c.table=t) (hk:keyC s c=k0) (h1:∀ r ∈ a,cmpR k0 (keyF s t r)<0) (h2:∀ r ∈ b,cmpR k0 (keyF s t r)<0):∀ x ∈ ZcF s t a b,cmpC s c x<0:=fun x hx=>by
 obtain⟨h3,h4⟩:=Zhf ha hb hne hx;rcases h4 with ⟨r,hr,e⟩ | ⟨r,hr,e⟩
 · exact Zhk hc h3 hk e (h1 r hr)
 · exact Zhk hc h3 hk e (h2 r hr)
theorem ZbN:∀ (a b:List Row),Asc s t a→Asc s t b→(∀ r ∈ a,0<r.length)→(∀ r ∈ b,0<r.length)→ZfF s (ZcF s t a b)
 | [],[],_,_,_,_=>by unfold ZcF;exact List.Pairwise.nil
 | r :: a,[],ha,hb,na,nb=>by
  obtain⟨h1,h2⟩:=ZbE ha;unfold ZcF;exact ZcH (ZbN a [] h1 hb (fun x hx=>na x (by simp [hx])) nb) (Zfi h1 hb ⟨fun x hx=>na x (by simp [hx]),nb⟩ rfl (by simp [keyC,na r (by simp)]) h2 (by simp))
 | [],r :: b,ha,hb,na,nb=>by
  obtain⟨h1,h2⟩:=ZbE hb;unfold ZcF;exact ZcH (ZbN [] b ha h1 na (fun x hx=>nb x (by simp [hx]))) (Zfi ha h1 ⟨na,fun x hx=>nb x (by simp [hx])⟩ rfl (by simp [keyC]) (by simp) h2)
 | r :: a,q :: b,ha,hb,na,nb=>by
  obtain⟨h1,h2⟩:=ZbE ha;obtain⟨h3,h4⟩:=ZbE hb;have na':∀ x ∈ a,0<x.length:=fun x hx=>na x (by simp [hx]);have nb':∀ x ∈ b,0<x.length:=fun x hx=>nb x (by simp [hx]);unfold ZcF
  by_cases c1:cmpR (keyF s t r) (keyF s t q)<0
  · rw [if_pos c1];refine ZcH (ZbN a (q :: b) h1 hb na' nb) (Zfi h1 hb ⟨na',nb⟩ rfl (by simp [keyC,na r (by simp)]) h2 (fun y hy=>?_));rcases List.mem_cons.1 hy with rfl | hy
    · exact c1
    · exact cmpR_is.lt_trans c1 (h4 y hy)
  · rw [if_neg c1]
    by_cases c2:0<cmpR (keyF s t r) (keyF s t q)
    · have c2':cmpR (keyF s t q) (keyF s t r)<0:=(by have:=cmpR_is.flip (keyF s t q) (keyF s t r);omega);rw [if_pos c2];refine ZcH (ZbN (r :: a) b ha h3 na nb') (Zfi ha h3 ⟨na,nb'⟩ rfl (by simp [keyC]) (fun y hy=>?_) h4);rcases List.mem_cons.1 hy with rfl | hy
      · exact c2'
      · exact cmpR_is.lt_trans c2' (h2 y hy)
    · have hk:keyF s t r=keyF s t q:=(cmpR_is.zero _ _).1 (by omega);rw [if_neg c2];exact ZcH (ZbN a b h1 h3 na' nb') (Zfi h1 h3 ⟨na',nb'⟩ rfl (by simp [keyC,na r (by simp)]) h2 (by rw [hk];exact h4))
termination_by a b=>a.length+b.length
end
def Zgv (s:Sch):Nat→St→St→List Chg
 | _,[],_=>[]
 | t,a :: r,q=>ZcF s t a (q.headD [])++Zgv s (t+1) r q.tail
abbrev ZbX (s:Sch) (a b:St):List Chg:=Zgv s 0 a b
def Full (st:St):Prop:=∀ t r,r ∈ st.getD t []→0<r.length
section
variable {s:Sch} {m:Int}
def look (s:Sch) (st:St) (t:Nat) (k:Row):Row:=(ZaI s t k (st.getD t [])).getD []
theorem Zhg:∀ (a b:St) (t:Nat),(∀ k,k<a.length→Asc s ((t+k:Nat):Int) (a.getD k []))→(∀ k,k<a.length→Asc s ((t+k:Nat):Int) (b.getD k []))→∀ x,x ∈ Zgv s t a b↔∃ k,k<a.length∧At s ((t+k:Nat):Int) (a.getD k []) (b.getD k []) x
 | [],b,t,_,_,x=>by simp [Zgv]
 | r :: a,b,t,ha,hb,x=>by
  have e0:b.headD []=b.getD 0 []:=(by cases b<;>rfl);have e1:∀ k,b.tail.getD k []=b.getD (k+1) []:=(fun k=>by cases b<;>rfl);have a0:=ha 0 (by simp);have b0:=hb 0 (by simp);have hd0:x ∈ ZcF s (t:Int) r (b.getD 0 [])↔At s ((t+0:Nat):Int) r (b.getD 0 []) x:=Zci _ _ a0 b0 x;rw [Zgv,List.mem_append,e0,hd0,Zhg a b.tail (t+1) (fun k hk=>by have:=ha (k+1) (by simpa using hk);rw [show t+(k+1)=t+1+k by omega] at this;exact this) (fun k hk=>by have:=hb (k+1) (by simpa using hk);rw [show t+(k+1)=t+1+k by omega] at this;rw [e1];exact this)];constructor
  · rintro(h | ⟨k,hk,h⟩)
    · exact⟨0,by simp,h⟩
    · refine⟨k+1,by simpa using hk,?_⟩;rw [e1] at h;rw [show t+(k+1)=t+1+k by omega];exact h
  · rintro⟨k,hk,h⟩;cases k with
    | zero=>exact .inl h
    | succ k =>
     refine .inr ⟨k,by simpa using hk,?_⟩;rw [e1,show t+1+k=t+(k+1) by omega];exact h
theorem Zfs:∀ (a b:St) (t:Nat),(∀ k,k<a.length→Asc s ((t+k:Nat):Int) (a.getD k []))→(∀ k,k<a.length→Asc s ((t+k:Nat):Int) (b.getD k []))→Full a→Full b→ZfF s (Zgv s t a b)∧∀ x ∈ Zgv s t a b,(t:Int)≤x.table
 | [],b,t,_,_,_,_=>by simp [Zgv,ZfF]
 | r :: a,b,t,ha,hb,fa,fb=>by
  have e0:b.headD []=b.getD 0 []:=(by cases b<;>rfl);have e1:∀ k,b.tail.getD k []=b.getD (k+1) []:=(fun k=>by cases b<;>rfl);have a0:=ha 0 (by simp);have b0:=hb 0 (by simp);have na:∀ x ∈ r,0<x.length:=fun x hx=>fa 0 x hx;have nb:∀ x ∈ b.getD 0 [],0<x.length:=fun x hx=>fb 0 x hx;obtain⟨h1,h2⟩:=Zfs a b.tail (t+1) (fun k hk=>by have:=ha (k+1) (by simpa using hk);rw [show t+(k+1)=t+1+k by omega] at this;exact this) (fun k hk=>by have:=hb (k+1) (by simpa using hk);rw [show t+(k+1)=t+1+k by omega] at this;rw [e1];exact this) (fun k x hx=>fa (k+1) x hx) (fun k x hx=>fb (k+1) x (by rw [←e1];exact hx));have h3:=ZbN r (b.getD 0 []) a0 b0 na nb;have ht:∀ x ∈ ZcF s t r (b.getD 0 []),x.table=t:=fun x hx=>(Zhf a0 b0 ⟨na,nb⟩ hx).1;rw [Zgv,e0];refine⟨List.pairwise_append.2 ⟨h3,h1,fun x hx y hy=>?_⟩,fun x hx=>?_⟩
  · have hx':=ht x hx;have hy':=h2 y hy;unfold cmpC;rw [if_pos (by omega)];omega
  · rcases List.mem_append.1 hx with hx | hx
    · have:=ht x hx;omega
    · have:=h2 x hx;omega
theorem StOk.asc {st:St} (h:StOk s m st):∀ k,k<st.length→Asc s ((0+k:Nat):Int) (st.getD k []):=fun k hk=>by rw [Nat.zero_add];exact(h.2 k hk).2
theorem Zdv {a b:St} (ha:StOk s m a) (hb:StOk s m b) (x:Chg):x ∈ ZbX s a b↔∃ t:Nat,t<a.length∧x.table=t∧x.old≠x.new∧∃ k,x.old=look s a t k∧x.new=look s b t k:=by
 unfold ZbX;rw [Zhg a b 0 ha.asc (fun k hk=>hb.asc k (by rw [hb.1,←ha.1];exact hk))];simp only [Nat.zero_add];rfl
theorem ZcE {a b:St} (ha:StOk s m a) (hb:StOk s m b) (fa:Full a) (fb:Full b):ZfF s (ZbX s a b) :=
 (Zfs a b 0 ha.asc (fun k hk=>hb.asc k (by rw [hb.1,←ha.1];exact hk)) fa fb).1
theorem ZgU {st:St} (h:StOk s m st) {x:Chg} {t:Nat} (ht:x.table=t) (htl:t<st.length) (hv:Zap s m x=true) (u:Nat) (k:Row):look s (Zcj s st x) u k=if u=t∧k=keyC s x then x.new else look s st u k:=by
 unfold look Zcj;rw [show x.table.toNat=t by omega]
 by_cases hu:u=t
 · subst hu;have e:(st.set u (putC s x (st.getD u []))).getD u []=putC s x (st.getD u []):=(by simp [List.getD,htl]);have hr:=h.2 u htl;rw [e];have hasc:Asc s x.table (st.getD u []):=(by rw [ht];exact hr.2);obtain⟨a,o,b,hc⟩:=ZbO (keyC s x) hasc;have hag:Cut s x.table (keyC s x) (putC s x (st.getD u [])) a (if 0<x.new.length then some x.new else none) b:=hc.again (fun h0=>Zgr hv h0);rw [←ht]
   by_cases hk:k=keyC s x
   · subst hk;rw [hag.find];simp only [true_and,if_true]
     by_cases h0:0<x.new.length
     · rw [if_pos h0];rfl
     · rw [if_neg h0];have:x.new=[]:=List.eq_nil_of_length_eq_zero (by omega);rw [this];rfl
   · rw [if_neg (by simp [hk])]
     have hfind:∀ (o:Option Row),(∀ r,o=some r→keyF s x.table r=keyC s x)→ZaI s x.table k (a++o.toList++b)=ZaI s x.table k (a++b):=fun o ho=>by
      unfold ZaI;rw [List.find?_append,List.find?_append,List.find?_append];cases o with
      | none=>simp
      | some r =>
       have h1:=ho r rfl;have h2:¬ cmpR (keyF s x.table r) k=0:=fun e=>hk ((cmpR_is.zero _ _).1 (by rw [←h1];exact(by rw [(cmpR_is.zero _ _).1 e];exact cmpR_is.self _):cmpR k (keyC s x)=0));simp [h2]
     rw [hag.eq,hc.eq,hfind _ hag.at_,hfind _ hc.at_]
 · have e:(st.set t (putC s x (st.getD t []))).getD u []=st.getD u []:=(by simp [List.getD,List.getElem?_set_ne (Ne.symm hu)]);rw [e,if_neg (by simp [hu])]
theorem look_old {st:St} (h:StOk s m st) {x:Chg} {t:Nat} (ht:x.table=t) (htl:t<st.length) (hf:ZcB s x (st.getD t [])=true):look s st t (keyC s x)=x.old:=by
 have hasc:Asc s x.table (st.getD t []):=(by rw [ht];exact(h.2 t htl).2);obtain⟨a,o,b,hc⟩:=ZbO (keyC s x) hasc;have ho:=fit_old hc hf;unfold look;rw [←ht,hc.find,ho];split
 · rfl
 · have:x.old=[]:=List.eq_nil_of_length_eq_zero (by omega);rw [this];rfl
theorem ZeI {st:St} (h:StOk s m st) (hfl:Full st) {x:Chg} {t:Nat} (ht:x.table=t) (htl:t<st.length) (hl:look s st t (keyC s x)=x.old):ZcB s x (st.getD t [])=true:=by
 have hasc:Asc s x.table (st.getD t []):=(by rw [ht];exact(h.2 t htl).2);obtain⟨a,o,b,hc⟩:=ZbO (keyC s x) hasc;refine fits_of_cut hc ?_;unfold look at hl;rw [←ht,hc.find] at hl;cases o with
 | none =>
  have e:x.old=[]:=hl.symm;rw [e];simp
 | some r =>
  have e:x.old=r:=hl.symm;have hr:r ∈ st.getD t []:=(by rw [hc.eq];simp);rw [e,if_pos (hfl t r hr)]
theorem st_ext {a b:St} (ha:StOk s m a) (hb:StOk s m b) (h:∀ t,t<a.length→∀ k,ZaI s t k (a.getD t [])=ZaI s t k (b.getD t [])):a=b:=by
 have hl:a.length=b.length:=ha.1.trans hb.1.symm;apply List.ext_getElem hl;intro t h1 h2;have:=asc_ext (ha.2 t h1).2 (hb.2 t h2).2 (h t h1);simpa [List.getD,h1,h2] using this
theorem find_of_look {st st':St} {t:Nat} {k:Row} (hfa:Full st) (hfb:Full st') (ha:Asc s t (st.getD t [])) (hb:Asc s t (st'.getD t [])) (h:look s st t k=look s st' t k):ZaI s t k (st.getD t [])=ZaI s t k (st'.getD t []):=by
 unfold look at h;cases h1:ZaI s t k (st.getD t []) with
 | none =>
  cases h2:ZaI s t k (st'.getD t []) with
  | none=>rfl
  | some r =>
   rw [h1,h2] at h;have:=hfb t r ((ZcQ hb).1 h2).1;have e:r=[]:=h.symm;rw [e] at this;simp at this
 | some r =>
  cases h2:ZaI s t k (st'.getD t []) with
  | none =>
   rw [h1,h2] at h;have:=hfa t r ((ZcQ ha).1 h1).1;have e:r=[]:=h;rw [e] at this;simp at this
  | some r' =>
   rw [h1,h2] at h;exact congrArg some h
theorem look_ext {a b:St} (ha:StOk s m a) (hb:StOk s m b) (hfa:Full a) (hfb:Full b) (h:∀ t,t<a.length→∀ k,look s a t k=look s b t k):a=b :=
 st_ext ha hb (fun t ht k=>find_of_look hfa hfb (ha.2 t ht).2 (hb.2 t (by rw [hb.1,←ha.1];exact ht)).2 (h t ht k))
end
section
variable {s:Sch} {m:Int}
theorem Zbu {st:St} (hw:∀ t,t<s.tabs.length→0<(s.tabs.getD t t0).cols.length) (h:StOk s m st):Full st:=by
 intro t r hr
 by_cases ht:t<st.length
 · have hf:=(h.2 t ht).1 r hr;have:=ZcN hf;rw [this,Int.toNat_natCast];exact hw t (by rw [←h.1];exact ht)
 · have e:st.getD t []=[]:=(by simp [List.getD,ht]);rw [e] at hr;simp at hr
theorem Zhy (st:St) (x:Chg):(Zcj s st x).length=st.length:=by simp [Zcj]
theorem ZfC:∀ (l:List Chg) (st:St),(after s st l).length=st.length
 | [],st=>rfl
 | x :: l,st=>by show (after s (Zcj s st x) l).length=_;rw [ZfC l,Zhy]
theorem cmpC_eq {x y:Chg}:cmpC s x y=0↔x.table=y.table∧keyC s x=keyC s y:=by
 unfold cmpC
 by_cases h:x.table=y.table
 · simp [h,cmpR_is.zero]
 · simp [h];omega
theorem Zgi {x:Chg} (hv:Zap s m x=true):∃ t:Nat,x.table=t∧t<s.tabs.length:=by
 unfold Zap at hv;simp only [Bool.and_eq_true,hasN,decide_eq_true_eq] at hv;obtain⟨t,ht⟩:=Int.eq_ofNat_of_zero_le hv.1.1.1.1.1;exact⟨t,ht,by have:=hv.1.1.1.1.2;omega⟩
theorem run_all (hw:∀ t,t<s.tabs.length→0<(s.tabs.getD t t0).cols.length):∀ (D:List Chg) (c:St),StOk s m c→ZfF s D→(∀ x ∈ D,Zap s m x=true∧∀ t:Nat,x.table=t→look s c t (keyC s x)=x.old) →
  Fit s m c D∧StOk s m (after s c D)∧(∀ x ∈ D,∀ t:Nat,x.table=t→look s (after s c D) t (keyC s x)=x.new)∧∀ (t:Nat) k,(∀ x ∈ D,¬ (x.table=(t:Int)∧keyC s x=k))→look s (after s c D) t k=look s c t k
 | [],c,h,_,_=>⟨trivial,h,fun x hx=>by simp at hx,fun _ _ _=>rfl⟩
 | x :: D,c,h,hc,hx=>by
  obtain⟨c1,c2⟩:=List.pairwise_cons.1 hc;obtain⟨hv,ho⟩:=hx x (by simp);obtain⟨t,ht,htl⟩:=Zgi hv;have htc:t<c.length:=(by rw [h.1];exact htl);have hfit:=ZeI h (Zbu hw h) ht htc (ho t ht);have h1:=(ZeW h hv).1;have hst:=fun (u:Nat) k=>ZgU h ht htc hv u k
  obtain⟨i1,i2,i3,i4⟩:=run_all hw D (Zcj s c x) h1 c2 (fun y hy=>⟨(hx y (by simp [hy])).1,fun u hu=>by
   rw [hst u (keyC s y),if_neg]
   · exact(hx y (by simp [hy])).2 u hu
   · rintro⟨e1,e2⟩;have:=c1 y hy;have:cmpC s x y=0:=cmpC_eq.2 ⟨by rw [ht,hu,e1],e2.symm⟩;omega⟩)
  refine⟨⟨⟨hv,by rw [ht,Int.toNat_natCast];exact hfit⟩,i1⟩,i2,fun y hy u hu=>?_,fun u k hk=>?_⟩
  · rcases List.mem_cons.1 hy with rfl | hy
    · have hu':u=t:=(by omega);subst hu';show look s (after s (Zcj s c y) D) u _=_
      rw [i4 u (keyC s y) (fun z hz e=>by
       have:=c1 z hz;have:cmpC s y z=0:=cmpC_eq.2 ⟨by rw [ht,e.1],e.2.symm⟩;omega),hst,if_pos ⟨rfl,rfl⟩]
    · exact i3 y hy u hu
  · show look s (after s (Zcj s c x) D) u k=_;rw [i4 u k (fun z hz=>hk z (by simp [hz])),hst,if_neg];rintro⟨rfl,rfl⟩;exact hk x (by simp) ⟨ht,rfl⟩
theorem ZdS {st:St} (h:StOk s m st) {t:Nat} (ht:t<st.length) {k r:Row} (hl:look s st t k=r) (hr:0<r.length):r ∈ st.getD t []∧keyF s t r=k:=by
 unfold look at hl;cases hf:ZaI s t k (st.getD t []) with
 | none=>rw [hf] at hl;have e:r=[]:=hl.symm;rw [e] at hr;simp at hr
 | some q =>
  rw [hf] at hl;have e:q=r:=hl;subst e;exact(ZcQ (h.2 t ht).2).1 hf
theorem ZdT {st:St} (h:StOk s m st) {t:Nat} (ht:t<st.length) {k r:Row} (hl:look s st t k=r) (hr:0<r.length):Zax s t r m=true:=(h.2 t ht).1 r (ZdS h ht hl hr).1
theorem valid_looks {a b:St} (ha:StOk s m a) (hb:StOk s m b) {t:Nat} (ht:t<a.length) {k:Row} {x:Chg} (h1:x.table=t) (h2:x.old≠x.new) (h3:x.old=look s a t k) (h4:x.new=look s b t k):Zap s m x=true:=by
 have htb:t<b.length:=(by rw [hb.1,←ha.1];exact ht);have hts:t<s.tabs.length:=(by rw [←ha.1];exact ht);unfold Zap hasN;rw [h1];simp only [Bool.and_eq_true,Bool.or_eq_true,decide_eq_true_eq,Bool.not_eq_true',beq_iff_eq];refine⟨⟨⟨⟨⟨by omega,by omega⟩,?_⟩,?_⟩,?_⟩,?_⟩
 · rw [Bool.and_eq_false_iff]
   by_cases h0:x.old.length=0
   · refine .inr (decide_eq_false fun h5=>h2 ?_);rw [List.eq_nil_of_length_eq_zero h0,List.eq_nil_of_length_eq_zero h5]
   · exact .inl (decide_eq_false h0)
 · by_cases h0:x.old.length=0
   · exact .inl h0
   · exact .inr (ZdT ha ht h3.symm (by omega))
 · by_cases h0:x.new.length=0
   · exact .inl h0
   · exact .inr (ZdT hb htb h4.symm (by omega))
 · by_cases h0:x.old.length=0
   · exact .inl (.inl h0)
   · by_cases h5:x.new.length=0
     · exact .inl (.inr h5)
     · refine .inr ((cmpR_is.zero _ _).2 ?_);rw [(ZdS ha ht h3.symm (by omega)).2,(ZdS hb htb h4.symm (by omega)).2]
theorem Zcy (hw:∀ t,t<s.tabs.length→0<(s.tabs.getD t t0).cols.length) {a b:St} (ha:StOk s m a) (hb:StOk s m b) {t:Nat} (ht:t<a.length) {k:Row} {x:Chg} (h1:x.table=t) (h2:x.old≠x.new) (h3:x.old=look s a t k) (h4:x.new=look s b t k):keyC s x=k :=
 (at_key (t:=(t:Int)) (ha.2 t ht).2 (hb.2 t (by rw [hb.1,←ha.1];exact ht)).2 ⟨fun r hr=>Zbu hw ha t r hr,fun r hr=>Zbu hw hb t r hr⟩ h1 h2 h3 h4).1
theorem diff_fit (hw:∀ t,t<s.tabs.length→0<(s.tabs.getD t t0).cols.length) {a b:St} (ha:StOk s m a) (hb:StOk s m b):Fit s m a (ZbX s a b)∧after s a (ZbX s a b)=b:=by
 have fa:=Zbu hw ha;have fb:=Zbu hw hb
 obtain⟨h1,h2,h3,h4⟩:=run_all hw (ZbX s a b) a ha (ZcE ha hb fa fb) (fun x hx=>by
  obtain⟨t,ht,e1,e2,k,e3,e4⟩:=(Zdv ha hb x).1 hx;refine⟨valid_looks ha hb ht e1 e2 e3 e4,fun u hu=>?_⟩;have hu':u=t:=(by omega);subst hu';rw [Zcy hw ha hb ht e1 e2 e3 e4,e3])
 refine⟨h1,look_ext h2 hb (Zbu hw h2) fb (fun t ht k=>?_)⟩;rw [ZfC] at ht
 by_cases he:look s a t k=look s b t k
 · rw [h4 t k (fun x hx e=>?_),he];obtain⟨t',ht',e1,e2,k',e3,e4⟩:=(Zdv ha hb x).1 hx;have hk:=Zcy hw ha hb ht' e1 e2 e3 e4;have:t'=t:=(by have:=e.1;omega);subst this;rw [hk] at e;rw [e.2] at e3 e4;exact e2 (by rw [e3,e4,he])
 · have hx:(⟨t,look s a t k,look s b t k⟩:Chg) ∈ ZbX s a b:=(Zdv ha hb _).2 ⟨t,ht,rfl,he,k,rfl,rfl⟩;have hk:=Zcy hw ha hb ht (x:=⟨t,look s a t k,look s b t k⟩) rfl he rfl rfl;have:=h3 _ hx t rfl;rw [hk] at this;exact this
structure NetI (s:Sch) (st cur:St) (G:List (Chg × Chg)):Prop where
 srt:G.Pairwise (fun p q=>cmpC s p.1 q.1<0)
 at_:∀ p ∈ G,∃ t:Nat,p.1.table=t∧t<st.length∧look s st t (keyC s p.1)=p.1.old∧look s cur t (keyC s p.1)=p.2.new
 off:∀ (t:Nat) k,(∀ p ∈ G,¬ (p.1.table=t∧keyC s p.1=k))→look s cur t k=look s st t k
theorem ZgG (x:Chg):∀ {G:List (Chg × Chg)},G.Pairwise (fun p q=>cmpC s p.1 q.1<0)→∃ A B,G=A++B∧(∀ p ∈ A,cmpC s p.1 x<0)∧((∀ p ∈ B,0<cmpC s p.1 x)∨∃ p B',B=p :: B'∧cmpC s p.1 x=0∧∀ q ∈ B',0<cmpC s q.1 x)
 | [],_=>⟨[],[],rfl,fun p hp=>by simp at hp,.inl fun p hp=>by simp at hp⟩
 | p :: G,h=>by
  obtain⟨h1,h2⟩:=List.pairwise_cons.1 h
  by_cases hlt:cmpC s p.1 x<0
  · obtain⟨A,B,rfl,hA,hB⟩:=ZgG x h2;refine⟨p :: A,B,rfl,fun q hq=>?_,hB⟩;rcases List.mem_cons.1 hq with rfl | hq
    · exact hlt
    · exact hA q hq
  · have hb:∀ q ∈ G,0<cmpC s q.1 x:=fun q hq=>by
      have h3:cmpC s x p.1≤0:=by
       rcases Int.lt_or_eq_of_le (show 0≤cmpC s p.1 x by omega) with h4 | h4
       · exact Int.le_of_lt ((Zba x p.1).2 h4)
       · exact Int.le_of_eq (ZcR h4.symm)
      exact(Zba x q.1).1 (ZcX h3 (h1 q hq))
    refine⟨[],p :: G,rfl,fun q hq=>by simp at hq,?_⟩
    by_cases h0:cmpC s p.1 x=0
    · exact .inr ⟨p,G,rfl,h0,hb⟩
    · refine .inl fun q hq=>?_;rcases List.mem_cons.1 hq with rfl | hq
      · omega
      · exact hb q hq
theorem netI_step {st cur:St} {G:List (Chg × Chg)} {x:Chg} (h:NetI s st cur G) (hl:st.length=cur.length) (hc:StOk s m cur) (hv:Zap s m x=true) (hf:ZcB s x (cur.getD x.table.toNat [])=true) :
  ∃ G',Zgl x.table (keyC s x) x (G.map (entG s))=some (G'.map (entG s))∧NetI s st (Zcj s cur x) G':=by
 obtain⟨t,ht,htl⟩:=Zgi hv;have htc:t<cur.length:=(by rw [hc.1];exact htl);rw [show x.table.toNat=t by omega] at hf;have hold:=look_old hc ht htc hf;have hst:=fun (u:Nat) k=>ZgU hc ht htc hv u k;obtain⟨A,B,rfl,hA,hB⟩:=ZgG x h.srt;obtain⟨s1,s2,s3⟩:=List.pairwise_append.1 h.srt;rcases hB with hB | ⟨p,B',rfl,hp,hB⟩
 · refine⟨A++(x,x) :: B,ZgK hA hB,?_,?_,?_⟩
   · refine List.pairwise_append.2 ⟨s1,List.pairwise_cons.2 ⟨fun q hq=>(Zba x q.1).2 (hB q hq),s2⟩,fun p hp q hq=>?_⟩;rcases List.mem_cons.1 hq with rfl | hq
     · exact hA p hp
     · exact s3 p hp q hq
   · intro p hp
     have hne:∀ p ∈ A++B,¬ (p.1.table=x.table∧keyC s p.1=keyC s x):=fun p hp e=>by
      have h0:cmpC s p.1 x=0:=cmpC_eq.2 e;rcases List.mem_append.1 hp with hp | hp
      · have:=hA p hp;omega
      · have:=hB p hp;omega
     by_cases hpx:p ∈ A++B
     · obtain⟨u,e1,e2,e3,e4⟩:=h.at_ p hpx;refine⟨u,e1,e2,e3,?_⟩;rw [hst,if_neg,e4];rintro⟨rfl,e⟩;exact hne p hpx ⟨by rw [e1,ht],e⟩
     · have hpe:p=(x,x):=by
         rcases List.mem_append.1 hp with hp | hp
         · exact absurd (List.mem_append_left _ hp) hpx
         · rcases List.mem_cons.1 hp with hp | hp
           · exact hp
           · exact absurd (List.mem_append_right _ hp) hpx
       subst hpe;refine⟨t,ht,by rw [hl];exact htc,?_,?_⟩
       · rw [←h.off t (keyC s x) (fun p hp e=>hne p hp ⟨by rw [e.1,ht],e.2⟩),hold]
       · rw [hst,if_pos ⟨rfl,rfl⟩]
   · intro u k hk
     have hk':∀ p ∈ A++B,¬ (p.1.table=(u:Int)∧keyC s p.1=k):=fun p hp=>hk p (by
      rcases List.mem_append.1 hp with hp | hp
      · exact List.mem_append_left _ hp
      · exact List.mem_append_right _ (List.mem_cons_of_mem _ hp))
     rw [hst,if_neg,h.off u k hk'];rintro⟨rfl,rfl⟩;exact hk (x,x) (by simp) ⟨ht,rfl⟩
 · obtain⟨et,ek⟩:=cmpC_eq.1 hp;obtain⟨u,e1,e2,e3,e4⟩:=h.at_ p (by simp);have hu:u=t:=(by omega);subst hu;have hcmp:cmpR p.2.new x.old=0:=(by rw [←e4,ek,hold];exact cmpR_is.self _);refine⟨A++(p.1,x) :: B',by rw [ZgJ hA hp,if_pos hcmp],?_,?_,?_⟩
   · refine List.pairwise_append.2 ⟨s1,List.pairwise_cons.2 ⟨fun q hq=>(List.pairwise_cons.1 s2).1 q hq,(List.pairwise_cons.1 s2).2⟩,fun a ha q hq=>?_⟩;rcases List.mem_cons.1 hq with rfl | hq
     · exact s3 a ha p (by simp)
     · exact s3 a ha q (by simp [hq])
   · intro q hq
     by_cases hqe:q=(p.1,x)
     · subst hqe;refine⟨u,e1,e2,e3,?_⟩;show look s (Zcj s cur x) u (keyC s p.1)=x.new;rw [hst,if_pos ⟨rfl,ek⟩]
     · have hq':q ∈ A∨q ∈ B':=by
         rcases List.mem_append.1 hq with hq | hq
         · exact .inl hq
         · rcases List.mem_cons.1 hq with hq | hq
           · exact absurd hq hqe
           · exact .inr hq
       have hqn:¬ cmpC s q.1 x=0:=by
        rcases hq' with hq' | hq'
        · have:=hA q hq';omega
        · have:=hB q hq';omega
       obtain⟨v,f1,f2,f3,f4⟩:=h.at_ q (by rcases hq' with hq' | hq'<;>simp [hq']);refine⟨v,f1,f2,f3,?_⟩;rw [hst,if_neg,f4];rintro⟨rfl,e⟩;exact hqn (cmpC_eq.2 ⟨by rw [f1,ht],e⟩)
   · intro v k hk
     have hpk:∀ q ∈ A++p :: B',¬ (q.1.table=(v:Int)∧keyC s q.1=k):=fun q hq=>by
      rcases List.mem_append.1 hq with hq | hq
      · exact hk q (List.mem_append_left _ hq)
      · rcases List.mem_cons.1 hq with rfl | hq
        · exact hk (q.1,x) (by simp)
        · exact hk q (by simp [hq])
     rw [hst,if_neg,h.off v k hpk];rintro⟨rfl,rfl⟩;exact hk (p.1,x) (by simp) ⟨e1,ek⟩
theorem net_go:∀ (l:List Chg) (st cur:St) (G:List (Chg × Chg)),NetI s st cur G→st.length=cur.length→StOk s m cur→Fit s m cur l→∃ G',Zdc s m (G.map (entG s)) l=(0,G'.map (entG s))∧NetI s st (after s cur l) G'
 | [],st,cur,G,h,_,_,_=>⟨G,rfl,h⟩
 | x :: l,st,cur,G,h,hl,hc,hf=>by
  obtain⟨⟨hv,hfc⟩,hr⟩:=hf;obtain⟨G1,h1,h2⟩:=netI_step h hl hc hv hfc;obtain⟨G2,h3,h4⟩:=net_go l st (Zcj s cur x) G1 h2 (by rw [Zhy];exact hl) (ZeW hc hv).1 hr;refine⟨G2,?_,h4⟩;rw [Zdc,hv,h1];simp only [Bool.true_eq_false,if_false];exact h3
theorem net_outs (hw:∀ t,t<s.tabs.length→0<(s.tabs.getD t t0).cols.length) {st cur:St} (hs:StOk s m st) (hc:StOk s m cur) {G:List (Chg × Chg)} (h:NetI s st cur G):outs G=ZbX s st cur:=by
 have hlk:∀ p ∈ G,p.1.old≠p.2.new→∃ t:Nat,p.1.table=t∧t<st.length∧look s st t (keyC s p.1)=p.1.old∧look s cur t (keyC s p.1)=p.2.new∧keyC s ⟨p.1.table,p.1.old,p.2.new⟩=keyC s p.1:=fun p hp hn=>by
  obtain⟨t,e1,e2,e3,e4⟩:=h.at_ p hp;exact⟨t,e1,e2,e3,e4,Zcy hw hs hc e2 (x:=⟨p.1.table,p.1.old,p.2.new⟩) e1 hn e3.symm e4.symm⟩
 have hout:∀ (p:Chg × Chg) (y:Chg),y ∈ ZaT p.1 p.2↔p.1.old≠p.2.new∧y=(⟨p.1.table,p.1.old,p.2.new⟩:Chg):=fun p y=>by
  unfold ZaT
  by_cases e:p.1.old=p.2.new
  · rw [if_pos ((cmpR_is.zero _ _).2 e)];simp [e]
  · rw [if_neg (fun h=>e ((cmpR_is.zero _ _).1 h))];simp [e]
 have hm:∀ y,y ∈ outs G↔∃ p ∈ G,p.1.old≠p.2.new∧y=(⟨p.1.table,p.1.old,p.2.new⟩:Chg):=fun y=>by
  unfold outs;rw [List.mem_flatMap];exact⟨fun ⟨p,hp,hy⟩=>⟨p,hp,(hout p y).1 hy⟩,fun ⟨p,hp,hy⟩=>⟨p,hp,(hout p y).2 hy⟩⟩
 refine Zhl (s:=s) ?_ (ZcE hs hc (Zbu hw hs) (Zbu hw hc)) (fun y=>?_)
 · have:∀ G:List (Chg × Chg),G.Pairwise (fun p q=>cmpC s p.1 q.1<0)→(∀ p ∈ G,p.1.old≠p.2.new→keyC s ⟨p.1.table,p.1.old,p.2.new⟩=keyC s p.1)→ZfF s (outs G):=by
     intro G;induction G with
     | nil=>intro _ _;exact List.Pairwise.nil
     | cons p G ih =>
      intro h1 h2;obtain⟨h3,h4⟩:=List.pairwise_cons.1 h1;have ih':=ih h4 (fun q hq=>h2 q (by simp [hq]));show ZfF s (ZaT p.1 p.2++outs G);refine List.pairwise_append.2 ⟨?_,ih',fun a ha b hb=>?_⟩
      · unfold ZaT;split<;>simp
      · obtain⟨ha1,rfl⟩:=(hout p a).1 ha;unfold outs at hb;obtain⟨q,hq,hb⟩:=List.mem_flatMap.1 hb;obtain⟨hb1,rfl⟩:=(hout q b).1 hb;have h5:=h3 q hq;unfold cmpC at h5 ⊢;rw [h2 p (by simp) ha1,h2 q (by simp [hq]) hb1];exact h5
   exact this G h.srt (fun p hp hn=>by obtain⟨t,_,_,_,_,e⟩:=hlk p hp hn;exact e)
 · rw [hm,Zdv hs hc];constructor
   · rintro⟨p,hp,hn,rfl⟩;obtain⟨t,e1,e2,e3,e4,_⟩:=hlk p hp hn;exact⟨t,e2,e1,hn,keyC s p.1,e3.symm,e4.symm⟩
   · rintro⟨t,ht,e1,e2,k,e3,e4⟩
     by_cases hex:∃ p ∈ G,p.1.table=(t:Int)∧keyC s p.1=k
     · obtain⟨p,hp,h1,h2⟩:=hex;obtain⟨u,f1,f2,f3,f4⟩:=h.at_ p hp;have hu:u=t:=(by omega);subst hu;rw [h2] at f3 f4;have g1:y.old=p.1.old:=(by rw [e3,f3]);have g2:y.new=p.2.new:=(by rw [e4,f4]);refine⟨p,hp,by rw [←g1,←g2];exact e2,?_⟩;obtain⟨yt,yo,yn⟩:=y;dsimp only at e1 g1 g2;rw [e1,g1,g2,f1]
     · have:=h.off t k (fun p hp e=>hex ⟨p,hp,e⟩);exact absurd (by rw [e3,e4,this]) e2
theorem ZhH (hw:∀ t,t<s.tabs.length→0<(s.tabs.getD t t0).cols.length) (hm:Zcx m=true) {st:St} (hs:StOk s m st) {l:List Chg} (hf:Fit s m st l):netF 0 s m l=(0,ZbX s st (after s st l)):=by
 obtain⟨G,h1,h2⟩:=net_go l st st [] ⟨List.Pairwise.nil,fun p hp=>by simp at hp,fun _ _ _=>rfl⟩ rfl hs hf;have hm0:¬ Zck 0 m≠0:=(by simp [Zck,hm]);rw [←rnetF_eq];unfold rnetF;have h1':Zdc s m [] l=(0,G.map (entG s)):=h1;rw [if_neg hm0,h1',if_neg (by simp),ZhC,net_outs hw hs (Zgc hs hf).1 h2]
end
section
variable {s:Sch} {m:Int}
def prtS (s:Sch) (q:Nat→Row→Bool) (st:St):St:=(List.range st.length).map fun t=>(st.getD t []).filter fun r=>q t (keyF s t r)
theorem ZdP (q:Nat→Row→Bool) (st:St):(prtS s q st).length=st.length:=by simp [prtS]
theorem prtS_at (q:Nat→Row→Bool) {st:St} {t:Nat} (h:t<st.length):(prtS s q st).getD t []=(st.getD t []).filter fun r=>q t (keyF s t r):=by
 simp only [prtS,List.getD,List.getElem?_map,List.getElem?_range h,Option.map_some,Option.getD_some]
theorem Zfp {t:Int} {f:Row→Bool} {k:Row}:∀ l:List Row,ZaI s t k (l.filter fun r=>f (keyF s t r))=if f k then ZaI s t k l else none
 | []=>by simp [ZaI]
 | r :: l=>by
  have ih:=Zfp (t:=t) (f:=f) (k:=k) l;rw [ZcD k r l,List.filter_cons]
  by_cases h:cmpR (keyF s t r) k=0
  · have e:keyF s t r=k:=(cmpR_is.zero _ _).1 h
    by_cases hf:f k=true
    · have h2:f (keyF s t r)=true:=(by rw [e];exact hf);rw [if_pos h2,ZcD,if_pos h,if_pos hf,if_pos h]
    · have h2:¬ f (keyF s t r)=true:=(by rw [e];exact hf);rw [if_neg h2,ih,if_neg hf,if_neg hf]
  · rw [if_neg h];split
    · rw [ZcD,if_neg h,ih]
    · exact ih
theorem ZdO (q:Nat→Row→Bool) {st:St} {t:Nat} (h:t<st.length) (k:Row):look s (prtS s q st) t k=if q t k then look s st t k else []:=by
 unfold look;rw [prtS_at q h,Zfp (f:=q t)];split<;>rfl
theorem Zek (q:Nat→Row→Bool) {st:St} (h:StOk s m st):StOk s m (prtS s q st):=by
 refine⟨(ZdP q st).trans h.1,fun t ht=>?_⟩;rw [ZdP] at ht;rw [prtS_at q ht];obtain⟨h1,h2⟩:=h.2 t ht;exact⟨fun r hr=>h1 r (List.mem_filter.1 hr).1,asc_pw.2 ((asc_pw.1 h2).filter _)⟩
theorem Zhb:∀ {l:List Chg} {st:St},Fit s m st l→∀ x ∈ l,Zap s m x=true
 | [],_,_,x,hx=>by simp at hx
 | y :: l,st,h,x,hx=>by
  rcases List.mem_cons.1 hx with rfl | hx
  · exact h.1.1
  · exact Zhb h.2 x hx
theorem ZgQ (hw:∀ t,t<s.tabs.length→0<(s.tabs.getD t t0).cols.length) (q:Nat→Row→Bool) {a b:St} (ha:StOk s m a) (hb:StOk s m b) :
  ZbX s (prtS s q a) (prtS s q b)=(ZbX s a b).filter fun c=>q c.table.toNat (keyC s c):=by
 have hab:b.length=a.length:=hb.1.trans ha.1.symm;have pa:=Zek q ha;have pb:=Zek q hb;refine Zhl (ZcE pa pb (Zbu hw pa) (Zbu hw pb)) ((ZcE ha hb (Zbu hw ha) (Zbu hw hb)).filter _) (fun x=>?_);rw [Zdv pa pb,List.mem_filter,Zdv ha hb,ZdP];constructor
 · rintro⟨t,ht,h1,h2,k,h3,h4⟩;rw [ZdO q ht] at h3;rw [ZdO q (by omega)] at h4
   by_cases hq:q t k=true
   · rw [if_pos hq] at h3 h4;have hk:=Zcy hw ha hb ht h1 h2 h3 h4;exact⟨⟨t,ht,h1,h2,k,h3,h4⟩,by rw [hk,h1,Int.toNat_natCast];exact hq⟩
   · rw [if_neg hq] at h3 h4;exact absurd (h3.trans h4.symm) h2
 · rintro⟨⟨t,ht,h1,h2,k,h3,h4⟩,h5⟩;have hk:=Zcy hw ha hb ht h1 h2 h3 h4;rw [hk,h1,Int.toNat_natCast] at h5;exact⟨t,ht,h1,h2,k,by rw [ZdO q ht,if_pos h5];exact h3,by rw [ZdO q (by omega),if_pos h5];exact h4⟩
theorem Zgn (hw:∀ t,t<s.tabs.length→0<(s.tabs.getD t t0).cols.length) (q:Nat→Row→Bool) {a b:St} (ha:StOk s m a) (hb:StOk s m b) :
  Fit s m (prtS s q a) ((ZbX s a b).filter fun c=>q c.table.toNat (keyC s c))∧after s (prtS s q a) ((ZbX s a b).filter fun c=>q c.table.toNat (keyC s c))=prtS s q b:=by
 have h:=diff_fit hw (Zek q ha) (Zek q hb);rw [ZgQ hw q ha hb] at h;exact h
theorem prtS_net (hw:∀ t,t<s.tabs.length→0<(s.tabs.getD t t0).cols.length) (hm:Zcx m=true) (q:Nat→Row→Bool) {a b:St} (ha:StOk s m a) (hb:StOk s m b) :
  netF 0 s m ((ZbX s a b).filter fun c=>q c.table.toNat (keyC s c))=(0,(ZbX s a b).filter fun c=>q c.table.toNat (keyC s c)):=by
 have hf:=Zgn hw q ha hb;have h:=ZhH hw hm (Zek q ha) hf.1;rw [hf.2,ZgQ hw q ha hb] at h;exact h
theorem sum_filter_le {l:List Row} {f:Row→Bool}:(l.filter f).length≤l.length:=List.length_filter_le _ _
theorem ZeL {f:Nat→List Row}:∀ (n:Nat) (st:St),(∀ t,t<n→(f t).length≤(st.getD t []).length)→n≤st.length→Zam ((List.range n).map f)≤Zam (st.take n)
 | 0,st,_,_=>by simp [Zam]
 | n+1,st,h,hn=>by
  have ih:=ZeL n st (fun t ht=>h t (by omega)) (by omega)
  have hx:∀ x:List Row,∀ l:St,Zam (l++[x])=Zam l+x.length:=by
   intro x l;induction l with
   | nil=>simp [Zam]
   | cons y l ih=>simp only [List.cons_append,Zam,ih];omega
  rw [List.range_succ,List.map_append,List.map_cons,List.map_nil,hx,Zft _ _ (by omega)];have:=h n (by omega);omega
theorem ZfS (q:Nat→Row→Bool) (st:St):Zam (prtS s q st)≤Zam st:=by
 have h:=ZeL (f:=fun t=>(st.getD t []).filter fun r=>q t (keyF s t r)) st.length st (fun t _=>sum_filter_le) nR;rwa [List.take_length] at h
theorem prtS_still (hw:∀ t,t<s.tabs.length→0<(s.tabs.getD t t0).cols.length) (q:Nat→Row→Bool) {a b:St} (ha:StOk s m a) (hb:StOk s m b) (h:(ZbX s a b).filter (fun c=>q c.table.toNat (keyC s c))=[]):prtS s q a=prtS s q b:=by
 have hf:=(Zgn hw q ha hb).2;rw [h] at hf;exact hf
end
end Go.Proofs.YtkpjjfhfbpfjpaaGreat
