import Derived.Test.YtkpjjfhfbpfjpaaKffbf8f
import Derived.Test.YtkpjjfhfbpfjpaaK64d55c
import Derived.Test.YtkpjjfhfbpfjpaaK868ea6
import Derived.Test.YtkpjjfhfbpfjpaaK4e30bf
import Derived.Test.YtkpjjfhfbpfjpaaK660fb2
import Derived.Test.YtkpjjfhfbpfjpaaK49244f
import Derived.Laws.CopyOwn
import Derived.Laws.CopyRow
import Derived.Deep.Cut
import Derived.Deep.CutRange
import Derived.Deep.DeepCutAuto
set_option linter.unusedVariables false
set_option linter.unusedSimpArgs false
set_option maxRecDepth 100000
set_option maxHeartbeats 8000000
namespace Go.Proofs.Ytkpjjfhfbpfjpaa
theorem pw_ext {α:Type} {lt:α→α→Prop} (irr:∀ a,¬ lt a a) (asy:∀ a b,lt a b→lt b a→False):∀ {l l':List α},l.Pairwise lt→l'.Pairwise lt→(∀ x,x ∈ l↔x ∈ l')→l=l'
 | [],[],_,_,_=>rfl
 | [],y :: l',_,_,h=>by have:=(h y).2 (by simp);simp at this
 | x :: l,[],_,_,h=>by have:=(h x).1 (by simp);simp at this
 | x :: l,y :: l',h1,h2,h=>by
  obtain⟨a1,a2⟩:=List.pairwise_cons.1 h1;obtain⟨b1,b2⟩:=List.pairwise_cons.1 h2
  have e:x=y:=by
   rcases List.mem_cons.1 ((h x).1 (by simp)) with e | hx
   · exact e
   · rcases List.mem_cons.1 ((h y).2 (by simp)) with e | hy
     · exact e.symm
     · exact(asy _ _ (a1 y hy) (b1 x hx)).elim
  subst e
  congr 1
  refine pw_ext irr asy a2 b2 (fun z=>⟨fun hz=>?_,fun hz=>?_⟩)
  · rcases List.mem_cons.1 ((h z).1 (by simp [hz])) with e | h3
    · subst e;exact(irr _ (a1 _ hz)).elim
    · exact h3
  · rcases List.mem_cons.1 ((h z).2 (by simp [hz])) with e | h3
    · subst e;exact(irr _ (b1 _ hz)).elim
    · exact h3
section
variable {s:Sch} {t:Int}
theorem asc_pw {l:List Row}:Asc s t l↔l.Pairwise (fun x y=>cmpR (keyF s t x) (keyF s t y)<0):=by
 constructor
 · induction l with
   | nil=>intro _;exact List.Pairwise.nil
   | cons r l ih =>
    intro h;obtain⟨h1,h2⟩:=ZbS h;exact List.pairwise_cons.2 ⟨h2,ih h1⟩
 · induction l with
   | nil=>intro _ i j _ hj;simp at hj
   | cons r l ih =>
    intro h;obtain⟨h1,h2⟩:=List.pairwise_cons.1 h;exact asc_cons (ih h2) h1
theorem ZcN {l:List Row} (h:Asc s t l) {k:Row} {r:Row}:ZaP s t k l=some r↔r ∈ l∧keyF s t r=k:=by
 obtain⟨a,o,b,hc⟩:=ZbZ k h;rw [hc.find];constructor
 · intro e;exact⟨by rw [hc.eq,e];simp,hc.at_ r e⟩
 · rintro⟨hr,hk⟩;rw [hc.eq] at hr;simp only [List.mem_append] at hr;rcases hr with (hr | hr) | hr
   · have:=hc.below r hr;rw [hk,cmpR_is.self] at this;omega
   · simpa [eq_comm] using hr
   · have:=hc.above r hr;rw [hk,cmpR_is.self] at this;omega
theorem asc_ext {l l':List Row} (h:Asc s t l) (h':Asc s t l') (he:∀ k,ZaP s t k l=ZaP s t k l'):l=l':=by
 refine pw_ext (fun a h=>by rw [cmpR_is.self] at h;omega) (fun a b h1 h2=>by have:=cmpR_is.flip (keyF s t a) (keyF s t b);omega) (asc_pw.1 h) (asc_pw.1 h') (fun r=>?_);have h1:=ZcN h (k:=keyF s t r) (r:=r);have h2:=ZcN h' (k:=keyF s t r) (r:=r);rw [he] at h1;constructor
 · intro hr;exact(h2.1 (h1.2 ⟨hr,rfl⟩)).1
 · intro hr;exact(h1.1 (h2.2 ⟨hr,rfl⟩)).1
theorem ZfN (k r:Row) (l:List Row):ZaP s t k (r :: l)=if cmpR (keyF s t r) k=0 then some r else ZaP s t k l:=by
 have:=ZfM s t k (l:=r :: l) (k:=0) (by simp);simpa using this
theorem ZbE {k:Row} {l:List Row} (h:∀ y ∈ l,cmpR k (keyF s t y)<0):ZaP s t k l=none:=by
 unfold ZaP;rw [List.find?_eq_none];intro y hy;have h1:=h y hy;have h2:=cmpR_is.flip k (keyF s t y);simp;omega
def addC (c:Chg) (l:List Chg):List Chg:=if cmpR c.old c.new≠0 then c :: l else l
def ZaD (s:Sch) (t:Int):List Row→List Row→List Chg
 | [],[]=>[]
 | x :: a,[]=>addC ⟨t,x,[]⟩ (ZaD s t a [])
 | [],y :: b=>addC ⟨t,[],y⟩ (ZaD s t [] b)
 | x :: a,y :: b =>
  if cmpR (keyF s t x) (keyF s t y)<0 then addC ⟨t,x,[]⟩ (ZaD s t a (y :: b))
  else if 0<cmpR (keyF s t x) (keyF s t y) then addC ⟨t,[],y⟩ (ZaD s t (x :: a) b)
  else addC ⟨t,x,y⟩ (ZaD s t a b)
termination_by a b=>a.length+b.length
theorem ZdZ {c x:Chg} {l:List Chg}:x ∈ addC c l↔(x=c∧c.old≠c.new)∨x ∈ l:=by
 unfold addC
 by_cases h:cmpR c.old c.new=0
 · have:=(cmpR_is.zero _ _).1 h;rw [if_neg (by simp [h])];exact⟨.inr,fun h'=>h'.resolve_left (fun h2=>h2.2 this)⟩
 · have:c.old≠c.new:=fun e=>h ((cmpR_is.zero _ _).2 e);simp [h,this]
def At (s:Sch) (t:Int) (a b:List Row) (x:Chg):Prop:=x.table=t∧x.old≠x.new∧∃ k,x.old=(ZaP s t k a).getD []∧x.new=(ZaP s t k b).getD []
theorem Zfn {a b a' b':List Row} {k0:Row} {c:Chg} (hc:c.table=t) (h1:c.old=(ZaP s t k0 a).getD []) (h2:c.new=(ZaP s t k0 b).getD []) (h3:ZaP s t k0 a'=none) (h4:ZaP s t k0 b'=none)
  (h5:∀ k,k≠k0→ZaP s t k a=ZaP s t k a'∧ZaP s t k b=ZaP s t k b') (x:Chg):At s t a b x↔(x=c∧c.old≠c.new)∨At s t a' b' x:=by
 constructor
 · rintro⟨e1,e2,k,e3,e4⟩
   by_cases hk:k=k0
   · subst hk;left
     have:x=c:=by
      cases x;cases c
      simp only at *;simp [e1,hc,e3,e4,h1,h2]
     exact⟨this,by rw [←this];exact e2⟩
   · right;exact⟨e1,e2,k,by rw [e3,(h5 k hk).1],by rw [e4,(h5 k hk).2]⟩
 · rintro(⟨rfl,h⟩ | ⟨e1,e2,k,e3,e4⟩)
   · exact⟨hc,h,k0,h1,h2⟩
   · by_cases hk:k=k0
     · subst hk;rw [h3] at e3;rw [h4] at e4;exact absurd (e3.trans e4.symm) e2
     · exact⟨e1,e2,k,by rw [e3,(h5 k hk).1],by rw [e4,(h5 k hk).2]⟩
theorem Zch {k r:Row} {l:List Row} (h:k≠keyF s t r):ZaP s t k (r :: l)=ZaP s t k l:=by
 rw [ZfN,if_neg (fun e=>h ((cmpR_is.zero _ _).1 e).symm)]
theorem ZcA {r:Row} {l:List Row}:ZaP s t (keyF s t r) (r :: l)=some r:=by
 rw [ZfN,if_pos (cmpR_is.self _)]
theorem Zcn:∀ (a b:List Row),Asc s t a→Asc s t b→∀ x,x ∈ ZaD s t a b↔At s t a b x
 | [],[],_,_,x=>by
  unfold ZaD;constructor
  · intro h;simp at h
  · rintro⟨_,h,k,e1,e2⟩;exact absurd (e1.trans e2.symm) h
 | r :: a,[],ha,hb,x=>by
  obtain⟨h1,h2⟩:=ZbS ha;unfold ZaD;rw [ZdZ,Zcn a [] h1 hb x];exact(Zfn (c:=⟨t,r,[]⟩) (a':=a) (b':=[]) (k0:=keyF s t r) rfl (by rw [ZcA];rfl) rfl (ZbE h2) rfl (fun k hk=>⟨Zch hk,rfl⟩) x).symm
 | [],r :: b,ha,hb,x=>by
  obtain⟨h1,h2⟩:=ZbS hb;unfold ZaD;rw [ZdZ,Zcn [] b ha h1 x];exact(Zfn (c:=⟨t,[],r⟩) (a':=[]) (b':=b) (k0:=keyF s t r) rfl rfl (by rw [ZcA];rfl) rfl (ZbE h2) (fun k hk=>⟨rfl,Zch hk⟩) x).symm
 | r :: a,q :: b,ha,hb,x=>by
  obtain⟨h1,h2⟩:=ZbS ha;obtain⟨h3,h4⟩:=ZbS hb;unfold ZaD
  by_cases c1:cmpR (keyF s t r) (keyF s t q)<0
  · have hq:∀ y ∈ q :: b,cmpR (keyF s t r) (keyF s t y)<0:=fun y hy=>by
      rcases List.mem_cons.1 hy with rfl | hy
      · exact c1
      · exact cmpR_is.lt_trans c1 (h4 y hy)
    rw [if_pos c1,ZdZ,Zcn a (q :: b) h1 hb x];exact(Zfn (c:=⟨t,r,[]⟩) (a':=a) (b':=q :: b) (k0:=keyF s t r) rfl (by rw [ZcA];rfl) (by rw [ZbE hq];rfl) (ZbE h2) (ZbE hq) (fun k hk=>⟨Zch hk,rfl⟩) x).symm
  · rw [if_neg c1]
    by_cases c2:0<cmpR (keyF s t r) (keyF s t q)
    · have c2':cmpR (keyF s t q) (keyF s t r)<0:=(by have:=cmpR_is.flip (keyF s t q) (keyF s t r);omega)
      have hr:∀ y ∈ r :: a,cmpR (keyF s t q) (keyF s t y)<0:=fun y hy=>by
       rcases List.mem_cons.1 hy with rfl | hy
       · exact c2'
       · exact cmpR_is.lt_trans c2' (h2 y hy)
      rw [if_pos c2,ZdZ,Zcn (r :: a) b ha h3 x];exact(Zfn (c:=⟨t,[],q⟩) (a':=r :: a) (b':=b) (k0:=keyF s t q) rfl (by rw [ZbE hr];rfl) (by rw [ZcA];rfl) (ZbE hr) (ZbE h4) (fun k hk=>⟨rfl,Zch hk⟩) x).symm
    · have hk:keyF s t r=keyF s t q:=(cmpR_is.zero _ _).1 (by omega);rw [if_neg c2,ZdZ,Zcn a b h1 h3 x];refine(Zfn (c:=⟨t,r,q⟩) (a':=a) (b':=b) (k0:=keyF s t r) rfl (by rw [ZcA];rfl) (by rw [hk,ZcA];rfl) (ZbE h2) (ZbE (by rw [hk];exact h4)) (fun k hk'=>⟨Zch hk',Zch (by rw [←hk];exact hk')⟩) x).symm
termination_by a b=>a.length+b.length
theorem at_key {a b:List Row} (ha:Asc s t a) (hb:Asc s t b) (hne:(∀ r ∈ a,0<r.length)∧∀ r ∈ b,0<r.length) {x:Chg} {k:Row} (h1:x.table=t) (h2:x.old≠x.new) (h3:x.old=(ZaP s t k a).getD []) (h4:x.new=(ZaP s t k b).getD []):keyC s x=k∧((∃ r ∈ a,keyF s t r=k)∨∃ r ∈ b,keyF s t r=k):=by
 unfold keyC;rw [h1];cases ho:ZaP s t k a with
 | some r =>
  rw [ho] at h3;obtain⟨h5,h6⟩:=(ZcN ha).1 ho;have e:x.old=r:=h3;rw [e,if_pos (hne.1 r h5)];exact⟨h6,.inl ⟨r,h5,h6⟩⟩
 | none =>
  rw [ho] at h3;have e:x.old=[]:=h3;rw [e,if_neg (by simp)];cases hn:ZaP s t k b with
  | none =>
   rw [hn] at h4;exact absurd (h3.trans h4.symm) h2
  | some r =>
   rw [hn] at h4;obtain⟨h5,h6⟩:=(ZcN hb).1 hn;have e:x.new=r:=h4;rw [e];exact⟨h6,.inr ⟨r,h5,h6⟩⟩
def Zft (s:Sch) (l:List Chg):Prop:=l.Pairwise (fun x y=>cmpC s x y<0)
theorem canon_ext {l l':List Chg} (h:Zft s l) (h':Zft s l') (he:∀ x,x ∈ l↔x ∈ l'):l=l' :=
 pw_ext (fun a h=>by have:=(Zbe (s:=s) a a).1 h;omega) (fun a b h1 h2=>by have:=(Zbe (s:=s) a b).1 h1;omega) h h' he
theorem ZcE {c:Chg} {l:List Chg} (h:Zft s l) (hc:∀ x ∈ l,cmpC s c x<0):Zft s (addC c l):=by
 unfold addC;split
 · exact List.pairwise_cons.2 ⟨hc,h⟩
 · exact h
theorem ZgV {x y:Chg} {k k':Row} (hx:x.table=t) (hy:y.table=t) (h1:keyC s x=k) (h2:keyC s y=k') (h:cmpR k k'<0):cmpC s x y<0:=by
 unfold cmpC;rw [hx,hy,h1,h2];simpa using h
theorem ZgR {a b:List Row} (ha:Asc s t a) (hb:Asc s t b) (hne:(∀ r ∈ a,0<r.length)∧∀ r ∈ b,0<r.length) {x:Chg} (hx:x ∈ ZaD s t a b):x.table=t∧((∃ r ∈ a,keyC s x=keyF s t r)∨∃ r ∈ b,keyC s x=keyF s t r):=by
 obtain⟨h1,h2,k,h3,h4⟩:=(Zcn a b ha hb x).1 hx;obtain⟨h5,h6⟩:=at_key ha hb hne h1 h2 h3 h4;refine⟨h1,?_⟩;rcases h6 with ⟨r,hr,e⟩ | ⟨r,hr,e⟩
 · exact .inl ⟨r,hr,h5.trans e.symm⟩
 · exact .inr ⟨r,hr,h5.trans e.symm⟩
theorem ZeW {a b:List Row} {k0:Row} {c:Chg} (ha:Asc s t a) (hb:Asc s t b) (hne:(∀ r ∈ a,0<r.length)∧∀ r ∈ b,0<r.length) (hc:c.table=t) (hk:keyC s c=k0) (h1:∀ r ∈ a,cmpR k0 (keyF s t r)<0) (h2:∀ r ∈ b,cmpR k0 (keyF s t r)<0):∀ x ∈ ZaD s t a b,cmpC s c x<0:=fun x hx=>by
 obtain⟨h3,h4⟩:=ZgR ha hb hne hx;rcases h4 with ⟨r,hr,e⟩ | ⟨r,hr,e⟩
 · exact ZgV hc h3 hk e (h1 r hr)
 · exact ZgV hc h3 hk e (h2 r hr)
theorem ZbY:∀ (a b:List Row),Asc s t a→Asc s t b→(∀ r ∈ a,0<r.length)→(∀ r ∈ b,0<r.length)→Zft s (ZaD s t a b)
 | [],[],_,_,_,_=>by unfold ZaD;exact List.Pairwise.nil
 | r :: a,[],ha,hb,na,nb=>by
  obtain⟨h1,h2⟩:=ZbS ha;unfold ZaD;exact ZcE (ZbY a [] h1 hb (fun x hx=>na x (by simp [hx])) nb) (ZeW h1 hb ⟨fun x hx=>na x (by simp [hx]),nb⟩ rfl (by simp [keyC,na r (by simp)]) h2 (by simp))
 | [],r :: b,ha,hb,na,nb=>by
  obtain⟨h1,h2⟩:=ZbS hb;unfold ZaD;exact ZcE (ZbY [] b ha h1 na (fun x hx=>nb x (by simp [hx]))) (ZeW ha h1 ⟨na,fun x hx=>nb x (by simp [hx])⟩ rfl (by simp [keyC]) (by simp) h2)
 | r :: a,q :: b,ha,hb,na,nb=>by
  obtain⟨h1,h2⟩:=ZbS ha;obtain⟨h3,h4⟩:=ZbS hb;have na':∀ x ∈ a,0<x.length:=fun x hx=>na x (by simp [hx]);have nb':∀ x ∈ b,0<x.length:=fun x hx=>nb x (by simp [hx]);unfold ZaD
  by_cases c1:cmpR (keyF s t r) (keyF s t q)<0
  · rw [if_pos c1];refine ZcE (ZbY a (q :: b) h1 hb na' nb) (ZeW h1 hb ⟨na',nb⟩ rfl (by simp [keyC,na r (by simp)]) h2 (fun y hy=>?_));rcases List.mem_cons.1 hy with rfl | hy
    · exact c1
    · exact cmpR_is.lt_trans c1 (h4 y hy)
  · rw [if_neg c1]
    by_cases c2:0<cmpR (keyF s t r) (keyF s t q)
    · have c2':cmpR (keyF s t q) (keyF s t r)<0:=(by have:=cmpR_is.flip (keyF s t q) (keyF s t r);omega);rw [if_pos c2];refine ZcE (ZbY (r :: a) b ha h3 na nb') (ZeW ha h3 ⟨na,nb'⟩ rfl (by simp [keyC]) (fun y hy=>?_) h4);rcases List.mem_cons.1 hy with rfl | hy
      · exact c2'
      · exact cmpR_is.lt_trans c2' (h2 y hy)
    · have hk:keyF s t r=keyF s t q:=(cmpR_is.zero _ _).1 (by omega);rw [if_neg c2];exact ZcE (ZbY a b h1 h3 na' nb') (ZeW h1 h3 ⟨na',nb'⟩ rfl (by simp [keyC,na r (by simp)]) h2 (by rw [hk];exact h4))
termination_by a b=>a.length+b.length
end
def ZbF (s:Sch):Nat→St→St→List Chg
 | _,[],_=>[]
 | t,a :: r,q=>ZaD s t a (q.headD [])++ZbF s (t+1) r q.tail
abbrev Zbu (s:Sch) (a b:St):List Chg:=ZbF s 0 a b
theorem diffS_drop (s:Sch) (a b:St) (k:Nat) (h:k<a.length):ZbF s k (a.drop k) (b.drop k)=ZaD s k (a.getD k []) (b.getD k [])++ZbF s (k+1) (a.drop (k+1)) (b.drop (k+1)):=by
 rw [List.drop_eq_getElem_cons h];have e1:a.getD k []=a[k]:=(by simp [List.getD,h])
 have e2:(b.drop k).headD []=b.getD k []:=by
  simp [List.headD_eq_head?_getD,List.head?_drop,List.getD]
 rw [ZbF,e1,e2,List.tail_drop]
def Full (st:St):Prop:=∀ t r,r ∈ st.getD t []→0<r.length
section
variable {s:Sch} {m:Int}
def look (s:Sch) (st:St) (t:Nat) (k:Row):Row:=(ZaP s t k (st.getD t [])).getD []
theorem ZgS:∀ (a b:St) (t:Nat),(∀ k,k<a.length→Asc s ((t+k:Nat):Int) (a.getD k []))→(∀ k,k<a.length→Asc s ((t+k:Nat):Int) (b.getD k []))→∀ x,x ∈ ZbF s t a b↔∃ k,k<a.length∧At s ((t+k:Nat):Int) (a.getD k []) (b.getD k []) x
 | [],b,t,_,_,x=>by simp [ZbF]
 | r :: a,b,t,ha,hb,x=>by
  have e0:b.headD []=b.getD 0 []:=(by cases b<;>rfl);have e1:∀ k,b.tail.getD k []=b.getD (k+1) []:=(fun k=>by cases b<;>rfl);have a0:=ha 0 (by simp);have b0:=hb 0 (by simp);have hd0:x ∈ ZaD s (t:Int) r (b.getD 0 [])↔At s ((t+0:Nat):Int) r (b.getD 0 []) x:=Zcn _ _ a0 b0 x;rw [ZbF,List.mem_append,e0,hd0,ZgS a b.tail (t+1) (fun k hk=>by have:=ha (k+1) (by simpa using hk);rw [show t+(k+1)=t+1+k by omega] at this;exact this) (fun k hk=>by have:=hb (k+1) (by simpa using hk);rw [show t+(k+1)=t+1+k by omega] at this;rw [e1];exact this)];constructor
  · rintro(h | ⟨k,hk,h⟩)
    · exact⟨0,by simp,h⟩
    · refine⟨k+1,by simpa using hk,?_⟩;rw [e1] at h;rw [show t+(k+1)=t+1+k by omega];exact h
  · rintro⟨k,hk,h⟩;cases k with
    | zero=>exact .inl h
    | succ k =>
     refine .inr ⟨k,by simpa using hk,?_⟩;rw [e1,show t+1+k=t+(k+1) by omega];exact h
theorem Zfh:∀ (a b:St) (t:Nat),(∀ k,k<a.length→Asc s ((t+k:Nat):Int) (a.getD k []))→(∀ k,k<a.length→Asc s ((t+k:Nat):Int) (b.getD k []))→Full a→Full b→Zft s (ZbF s t a b)∧∀ x ∈ ZbF s t a b,(t:Int)≤x.table
 | [],b,t,_,_,_,_=>by simp [ZbF,Zft]
 | r :: a,b,t,ha,hb,fa,fb=>by
  have e0:b.headD []=b.getD 0 []:=(by cases b<;>rfl);have e1:∀ k,b.tail.getD k []=b.getD (k+1) []:=(fun k=>by cases b<;>rfl);have a0:=ha 0 (by simp);have b0:=hb 0 (by simp);have na:∀ x ∈ r,0<x.length:=fun x hx=>fa 0 x hx;have nb:∀ x ∈ b.getD 0 [],0<x.length:=fun x hx=>fb 0 x hx;obtain⟨h1,h2⟩:=Zfh a b.tail (t+1) (fun k hk=>by have:=ha (k+1) (by simpa using hk);rw [show t+(k+1)=t+1+k by omega] at this;exact this) (fun k hk=>by have:=hb (k+1) (by simpa using hk);rw [show t+(k+1)=t+1+k by omega] at this;rw [e1];exact this) (fun k x hx=>fa (k+1) x hx) (fun k x hx=>fb (k+1) x (by rw [←e1];exact hx));have h3:=ZbY r (b.getD 0 []) a0 b0 na nb;have ht:∀ x ∈ ZaD s t r (b.getD 0 []),x.table=t:=fun x hx=>(ZgR a0 b0 ⟨na,nb⟩ hx).1;rw [ZbF,e0];refine⟨List.pairwise_append.2 ⟨h3,h1,fun x hx y hy=>?_⟩,fun x hx=>?_⟩
  · have hx':=ht x hx;have hy':=h2 y hy;unfold cmpC;rw [if_pos (by omega)];omega
  · rcases List.mem_append.1 hx with hx | hx
    · have:=ht x hx;omega
    · have:=h2 x hx;omega
theorem StOk.asc {st:St} (h:StOk s m st):∀ k,k<st.length→Asc s ((0+k:Nat):Int) (st.getD k []):=fun k hk=>by rw [Nat.zero_add];exact(h.2 k hk).2
theorem ZeM {a b:St} (ha:StOk s m a) (hb:StOk s m b) (x:Chg):x ∈ Zbu s a b↔∃ t:Nat,t<a.length∧x.table=t∧x.old≠x.new∧∃ k,x.old=look s a t k∧x.new=look s b t k:=by
 unfold Zbu;rw [ZgS a b 0 ha.asc (fun k hk=>hb.asc k (by rw [hb.1,←ha.1];exact hk))];simp only [Nat.zero_add];rfl
theorem ZfP {a b:St} (ha:StOk s m a) (hb:StOk s m b) (fa:Full a) (fb:Full b):Zft s (Zbu s a b) :=
 (Zfh a b 0 ha.asc (fun k hk=>hb.asc k (by rw [hb.1,←ha.1];exact hk)) fa fb).1
theorem ZgF {st:St} (h:StOk s m st) {x:Chg} {t:Nat} (ht:x.table=t) (htl:t<st.length) (hv:Zas s m x=true) (u:Nat) (k:Row):look s (ZcV s st x) u k=if u=t∧k=keyC s x then x.new else look s st u k:=by
 unfold look ZcV;rw [show x.table.toNat=t by omega]
 by_cases hu:u=t
 · subst hu;have e:(st.set u (putC s x (st.getD u []))).getD u []=putC s x (st.getD u []):=(by simp [List.getD,htl]);have hr:=h.2 u htl;rw [e];have hasc:Asc s x.table (st.getD u []):=(by rw [ht];exact hr.2);obtain⟨a,o,b,hc⟩:=ZbZ (keyC s x) hasc;have hag:Cut s x.table (keyC s x) (putC s x (st.getD u [])) a (if 0<x.new.length then some x.new else none) b:=hc.again (fun h0=>Zhf hv h0);rw [←ht]
   by_cases hk:k=keyC s x
   · subst hk;rw [hag.find];simp only [true_and,if_true]
     by_cases h0:0<x.new.length
     · rw [if_pos h0];rfl
     · rw [if_neg h0];have:x.new=[]:=List.eq_nil_of_length_eq_zero (by omega);rw [this];rfl
   · rw [if_neg (by simp [hk])]
     have hfind:∀ (o:Option Row),(∀ r,o=some r→keyF s x.table r=keyC s x)→ZaP s x.table k (a++o.toList++b)=ZaP s x.table k (a++b):=fun o ho=>by
      unfold ZaP;rw [List.find?_append,List.find?_append,List.find?_append];cases o with
      | none=>simp
      | some r =>
       have h1:=ho r rfl;have h2:¬ cmpR (keyF s x.table r) k=0:=fun e=>hk ((cmpR_is.zero _ _).1 (by rw [←h1];exact(by rw [(cmpR_is.zero _ _).1 e];exact cmpR_is.self _):cmpR k (keyC s x)=0));simp [h2]
     rw [hag.eq,hc.eq,hfind _ hag.at_,hfind _ hc.at_]
 · have e:(st.set t (putC s x (st.getD t []))).getD u []=st.getD u []:=(by simp [List.getD,List.getElem?_set_ne (Ne.symm hu)]);rw [e,if_neg (by simp [hu])]
theorem look_old {st:St} (h:StOk s m st) {x:Chg} {t:Nat} (ht:x.table=t) (htl:t<st.length) (hf:Zdq s x (st.getD t [])=true):look s st t (keyC s x)=x.old:=by
 have hasc:Asc s x.table (st.getD t []):=(by rw [ht];exact(h.2 t htl).2);obtain⟨a,o,b,hc⟩:=ZbZ (keyC s x) hasc;have ho:=fit_old hc hf;unfold look;rw [←ht,hc.find,ho];split
 · rfl
 · have:x.old=[]:=List.eq_nil_of_length_eq_zero (by omega);rw [this];rfl
theorem fits_of_look {st:St} (h:StOk s m st) (hfl:Full st) {x:Chg} {t:Nat} (ht:x.table=t) (htl:t<st.length) (hl:look s st t (keyC s x)=x.old):Zdq s x (st.getD t [])=true:=by
 have hasc:Asc s x.table (st.getD t []):=(by rw [ht];exact(h.2 t htl).2);obtain⟨a,o,b,hc⟩:=ZbZ (keyC s x) hasc;refine fits_of_cut hc ?_;unfold look at hl;rw [←ht,hc.find] at hl;cases o with
 | none =>
  have e:x.old=[]:=hl.symm;rw [e];simp
 | some r =>
  have e:x.old=r:=hl.symm;have hr:r ∈ st.getD t []:=(by rw [hc.eq];simp);rw [e,if_pos (hfl t r hr)]
theorem st_ext {a b:St} (ha:StOk s m a) (hb:StOk s m b) (h:∀ t,t<a.length→∀ k,ZaP s t k (a.getD t [])=ZaP s t k (b.getD t [])):a=b:=by
 have hl:a.length=b.length:=ha.1.trans hb.1.symm;apply List.ext_getElem hl;intro t h1 h2;have:=asc_ext (ha.2 t h1).2 (hb.2 t h2).2 (h t h1);simpa [List.getD,h1,h2] using this
theorem find_of_look {st st':St} {t:Nat} {k:Row} (hfa:Full st) (hfb:Full st') (ha:Asc s t (st.getD t [])) (hb:Asc s t (st'.getD t [])) (h:look s st t k=look s st' t k):ZaP s t k (st.getD t [])=ZaP s t k (st'.getD t []):=by
 unfold look at h;cases h1:ZaP s t k (st.getD t []) with
 | none =>
  cases h2:ZaP s t k (st'.getD t []) with
  | none=>rfl
  | some r =>
   rw [h1,h2] at h;have:=hfb t r ((ZcN hb).1 h2).1;have e:r=[]:=h.symm;rw [e] at this;simp at this
 | some r =>
  cases h2:ZaP s t k (st'.getD t []) with
  | none =>
   rw [h1,h2] at h;have:=hfa t r ((ZcN ha).1 h1).1;have e:r=[]:=h;rw [e] at this;simp at this
  | some r' =>
   rw [h1,h2] at h;exact congrArg some h
theorem look_ext {a b:St} (ha:StOk s m a) (hb:StOk s m b) (hfa:Full a) (hfb:Full b) (h:∀ t,t<a.length→∀ k,look s a t k=look s b t k):a=b :=
 st_ext ha hb (fun t ht k=>find_of_look hfa hfb (ha.2 t ht).2 (hb.2 t (by rw [hb.1,←ha.1];exact ht)).2 (h t ht k))
end
section
variable {s:Sch} {m:Int}
theorem Zdd {st:St} (hw:∀ t,t<s.tabs.length→0<(s.tabs.getD t t0).cols.length) (h:StOk s m st):Full st:=by
 intro t r hr
 by_cases ht:t<st.length
 · have hf:=(h.2 t ht).1 r hr;have:=fits_len hf;rw [this,Int.toNat_natCast];exact hw t (by rw [←h.1];exact ht)
 · have e:st.getD t []=[]:=(by simp [List.getD,ht]);rw [e] at hr;simp at hr
theorem Zhm (st:St) (x:Chg):(ZcV s st x).length=st.length:=by simp [ZcV]
theorem ZgX:∀ (l:List Chg) (st:St),(after s st l).length=st.length
 | [],st=>rfl
 | x :: l,st=>by show (after s (ZcV s st x) l).length=_;rw [ZgX l,Zhm]
theorem cmpC_eq {x y:Chg}:cmpC s x y=0↔x.table=y.table∧keyC s x=keyC s y:=by
 unfold cmpC
 by_cases h:x.table=y.table
 · simp [h,cmpR_is.zero]
 · simp [h];omega
theorem Zhj {x:Chg} (hv:Zas s m x=true):∃ t:Nat,x.table=t∧t<s.tabs.length:=by
 unfold Zas at hv;simp only [Bool.and_eq_true,hasN,decide_eq_true_eq] at hv;obtain⟨t,ht⟩:=Int.eq_ofNat_of_zero_le hv.1.1.1.1.1;exact⟨t,ht,by have:=hv.1.1.1.1.2;omega⟩
theorem run_all (hw:∀ t,t<s.tabs.length→0<(s.tabs.getD t t0).cols.length):∀ (D:List Chg) (c:St),StOk s m c→Zft s D→(∀ x ∈ D,Zas s m x=true∧∀ t:Nat,x.table=t→look s c t (keyC s x)=x.old) →
  Fit s m c D∧StOk s m (after s c D)∧(∀ x ∈ D,∀ t:Nat,x.table=t→look s (after s c D) t (keyC s x)=x.new)∧∀ (t:Nat) k,(∀ x ∈ D,¬ (x.table=(t:Int)∧keyC s x=k))→look s (after s c D) t k=look s c t k
 | [],c,h,_,_=>⟨trivial,h,fun x hx=>by simp at hx,fun _ _ _=>rfl⟩
 | x :: D,c,h,hc,hx=>by
  obtain⟨c1,c2⟩:=List.pairwise_cons.1 hc;obtain⟨hv,ho⟩:=hx x (by simp);obtain⟨t,ht,htl⟩:=Zhj hv;have htc:t<c.length:=(by rw [h.1];exact htl);have hfit:=fits_of_look h (Zdd hw h) ht htc (ho t ht);have h1:=(Zha h hv).1;have hst:=fun (u:Nat) k=>ZgF h ht htc hv u k
  obtain⟨i1,i2,i3,i4⟩:=run_all hw D (ZcV s c x) h1 c2 (fun y hy=>⟨(hx y (by simp [hy])).1,fun u hu=>by
   rw [hst u (keyC s y),if_neg]
   · exact(hx y (by simp [hy])).2 u hu
   · rintro⟨e1,e2⟩;have:=c1 y hy;have:cmpC s x y=0:=cmpC_eq.2 ⟨by rw [ht,hu,e1],e2.symm⟩;omega⟩)
  refine⟨⟨⟨hv,by rw [ht,Int.toNat_natCast];exact hfit⟩,i1⟩,i2,fun y hy u hu=>?_,fun u k hk=>?_⟩
  · rcases List.mem_cons.1 hy with rfl | hy
    · have hu':u=t:=(by omega);subst hu';show look s (after s (ZcV s c y) D) u _=_
      rw [i4 u (keyC s y) (fun z hz e=>by
       have:=c1 z hz;have:cmpC s y z=0:=cmpC_eq.2 ⟨by rw [ht,e.1],e.2.symm⟩;omega),hst,if_pos ⟨rfl,rfl⟩]
    · exact i3 y hy u hu
  · show look s (after s (ZcV s c x) D) u k=_;rw [i4 u k (fun z hz=>hk z (by simp [hz])),hst,if_neg];rintro⟨rfl,rfl⟩;exact hk x (by simp) ⟨ht,rfl⟩
theorem Zge {st:St} (h:StOk s m st) {t:Nat} (ht:t<st.length) {k r:Row} (hl:look s st t k=r) (hr:0<r.length):r ∈ st.getD t []∧keyF s t r=k:=by
 unfold look at hl;cases hf:ZaP s t k (st.getD t []) with
 | none=>rw [hf] at hl;have e:r=[]:=hl.symm;rw [e] at hr;simp at hr
 | some q =>
  rw [hf] at hl;have e:q=r:=hl;subst e;exact(ZcN (h.2 t ht).2).1 hf
theorem ZgG {st:St} (h:StOk s m st) {t:Nat} (ht:t<st.length) {k r:Row} (hl:look s st t k=r) (hr:0<r.length):ZaT s t r m=true:=(h.2 t ht).1 r (Zge h ht hl hr).1
theorem valid_looks {a b:St} (ha:StOk s m a) (hb:StOk s m b) {t:Nat} (ht:t<a.length) {k:Row} {x:Chg} (h1:x.table=t) (h2:x.old≠x.new) (h3:x.old=look s a t k) (h4:x.new=look s b t k):Zas s m x=true:=by
 have htb:t<b.length:=(by rw [hb.1,←ha.1];exact ht);have hts:t<s.tabs.length:=(by rw [←ha.1];exact ht);unfold Zas hasN;rw [h1];simp only [Bool.and_eq_true,Bool.or_eq_true,decide_eq_true_eq,Bool.not_eq_true',beq_iff_eq];refine⟨⟨⟨⟨⟨by omega,by omega⟩,?_⟩,?_⟩,?_⟩,?_⟩
 · rw [Bool.and_eq_false_iff]
   by_cases h0:x.old.length=0
   · refine .inr (decide_eq_false fun h5=>h2 ?_);rw [List.eq_nil_of_length_eq_zero h0,List.eq_nil_of_length_eq_zero h5]
   · exact .inl (decide_eq_false h0)
 · by_cases h0:x.old.length=0
   · exact .inl h0
   · exact .inr (ZgG ha ht h3.symm (by omega))
 · by_cases h0:x.new.length=0
   · exact .inl h0
   · exact .inr (ZgG hb htb h4.symm (by omega))
 · by_cases h0:x.old.length=0
   · exact .inl (.inl h0)
   · by_cases h5:x.new.length=0
     · exact .inl (.inr h5)
     · refine .inr ((cmpR_is.zero _ _).2 ?_);rw [(Zge ha ht h3.symm (by omega)).2,(Zge hb htb h4.symm (by omega)).2]
theorem ZdO (hw:∀ t,t<s.tabs.length→0<(s.tabs.getD t t0).cols.length) {a b:St} (ha:StOk s m a) (hb:StOk s m b) {t:Nat} (ht:t<a.length) {k:Row} {x:Chg} (h1:x.table=t) (h2:x.old≠x.new) (h3:x.old=look s a t k) (h4:x.new=look s b t k):keyC s x=k :=
 (at_key (t:=(t:Int)) (ha.2 t ht).2 (hb.2 t (by rw [hb.1,←ha.1];exact ht)).2 ⟨fun r hr=>Zdd hw ha t r hr,fun r hr=>Zdd hw hb t r hr⟩ h1 h2 h3 h4).1
theorem ZhD (hw:∀ t,t<s.tabs.length→0<(s.tabs.getD t t0).cols.length) {a b:St} (ha:StOk s m a) (hb:StOk s m b):Fit s m a (Zbu s a b)∧after s a (Zbu s a b)=b:=by
 have fa:=Zdd hw ha;have fb:=Zdd hw hb
 obtain⟨h1,h2,h3,h4⟩:=run_all hw (Zbu s a b) a ha (ZfP ha hb fa fb) (fun x hx=>by
  obtain⟨t,ht,e1,e2,k,e3,e4⟩:=(ZeM ha hb x).1 hx;refine⟨valid_looks ha hb ht e1 e2 e3 e4,fun u hu=>?_⟩;have hu':u=t:=(by omega);subst hu';rw [ZdO hw ha hb ht e1 e2 e3 e4,e3])
 refine⟨h1,look_ext h2 hb (Zdd hw h2) fb (fun t ht k=>?_)⟩;rw [ZgX] at ht
 by_cases he:look s a t k=look s b t k
 · rw [h4 t k (fun x hx e=>?_),he];obtain⟨t',ht',e1,e2,k',e3,e4⟩:=(ZeM ha hb x).1 hx;have hk:=ZdO hw ha hb ht' e1 e2 e3 e4;have:t'=t:=(by have:=e.1;omega);subst this;rw [hk] at e;rw [e.2] at e3 e4;exact e2 (by rw [e3,e4,he])
 · have hx:(⟨t,look s a t k,look s b t k⟩:Chg) ∈ Zbu s a b:=(ZeM ha hb _).2 ⟨t,ht,rfl,he,k,rfl,rfl⟩;have hk:=ZdO hw ha hb ht (x:=⟨t,look s a t k,look s b t k⟩) rfl he rfl rfl;have:=h3 _ hx t rfl;rw [hk] at this;exact this
structure NetI (s:Sch) (st cur:St) (G:List (Chg × Chg)):Prop where
 srt:G.Pairwise (fun p q=>cmpC s p.1 q.1<0)
 at_:∀ p ∈ G,∃ t:Nat,p.1.table=t∧t<st.length∧look s st t (keyC s p.1)=p.1.old∧look s cur t (keyC s p.1)=p.2.new
 off:∀ (t:Nat) k,(∀ p ∈ G,¬ (p.1.table=t∧keyC s p.1=k))→look s cur t k=look s st t k
theorem Zgt (x:Chg):∀ {G:List (Chg × Chg)},G.Pairwise (fun p q=>cmpC s p.1 q.1<0)→∃ A B,G=A++B∧(∀ p ∈ A,cmpC s p.1 x<0)∧((∀ p ∈ B,0<cmpC s p.1 x)∨∃ p B',B=p :: B'∧cmpC s p.1 x=0∧∀ q ∈ B',0<cmpC s q.1 x)
 | [],_=>⟨[],[],rfl,fun p hp=>by simp at hp,.inl fun p hp=>by simp at hp⟩
 | p :: G,h=>by
  obtain⟨h1,h2⟩:=List.pairwise_cons.1 h
  by_cases hlt:cmpC s p.1 x<0
  · obtain⟨A,B,rfl,hA,hB⟩:=Zgt x h2;refine⟨p :: A,B,rfl,fun q hq=>?_,hB⟩;rcases List.mem_cons.1 hq with rfl | hq
    · exact hlt
    · exact hA q hq
  · have hb:∀ q ∈ G,0<cmpC s q.1 x:=fun q hq=>by
      have h3:cmpC s x p.1≤0:=by
       rcases Int.lt_or_eq_of_le (show 0≤cmpC s p.1 x by omega) with h4 | h4
       · exact Int.le_of_lt ((Zbe x p.1).2 h4)
       · exact Int.le_of_eq (ZcO h4.symm)
      exact(Zbe x q.1).1 (ZcR h3 (h1 q hq))
    refine⟨[],p :: G,rfl,fun q hq=>by simp at hq,?_⟩
    by_cases h0:cmpC s p.1 x=0
    · exact .inr ⟨p,G,rfl,h0,hb⟩
    · refine .inl fun q hq=>?_;rcases List.mem_cons.1 hq with rfl | hq
      · omega
      · exact hb q hq
theorem netI_step {st cur:St} {G:List (Chg × Chg)} {x:Chg} (h:NetI s st cur G) (hl:st.length=cur.length) (hc:StOk s m cur) (hv:Zas s m x=true) (hf:Zdq s x (cur.getD x.table.toNat [])=true) :
  ∃ G',ZfZ x.table (keyC s x) x (G.map (entG s))=some (G'.map (entG s))∧NetI s st (ZcV s cur x) G':=by
 obtain⟨t,ht,htl⟩:=Zhj hv;have htc:t<cur.length:=(by rw [hc.1];exact htl);rw [show x.table.toNat=t by omega] at hf;have hold:=look_old hc ht htc hf;have hst:=fun (u:Nat) k=>ZgF hc ht htc hv u k;obtain⟨A,B,rfl,hA,hB⟩:=Zgt x h.srt;obtain⟨s1,s2,s3⟩:=List.pairwise_append.1 h.srt;rcases hB with hB | ⟨p,B',rfl,hp,hB⟩
 · refine⟨A++(x,x) :: B,Zgw hA hB,?_,?_,?_⟩
   · refine List.pairwise_append.2 ⟨s1,List.pairwise_cons.2 ⟨fun q hq=>(Zbe x q.1).2 (hB q hq),s2⟩,fun p hp q hq=>?_⟩;rcases List.mem_cons.1 hq with rfl | hq
     · exact hA p hp
     · exact s3 p hp q hq
   · intro p hp
     have hne:∀ p ∈ A++B,¬ (p.1.table=x.table∧keyC s p.1=keyC s x):=fun p hp e=>by
      have h0:cmpC s p.1 x=0:=cmpC_eq.2 e;rcases List.mem_append.1 hp with hp | hp
      · have:=hA p hp;omega
      · have:=hB p hp;omega
     by_cases hpx:p ∈ A++B
     · obtain⟨u,e1,e2,e3,e4⟩:=h.at_ p hpx;refine⟨u,e1,e2,e3,?_⟩;rw [hst,if_neg,e4];rintro⟨rfl,e⟩;exact hne p hpx ⟨by rw [e1,ht],e⟩
     · have hpe:p=(x,x):=by
         rcases List.mem_append.1 hp with hp | hp
         · exact absurd (List.mem_append_left _ hp) hpx
         · rcases List.mem_cons.1 hp with hp | hp
           · exact hp
           · exact absurd (List.mem_append_right _ hp) hpx
       subst hpe;refine⟨t,ht,by rw [hl];exact htc,?_,?_⟩
       · rw [←h.off t (keyC s x) (fun p hp e=>hne p hp ⟨by rw [e.1,ht],e.2⟩),hold]
       · rw [hst,if_pos ⟨rfl,rfl⟩]
   · intro u k hk
     have hk':∀ p ∈ A++B,¬ (p.1.table=(u:Int)∧keyC s p.1=k):=fun p hp=>hk p (by
      rcases List.mem_append.1 hp with hp | hp
      · exact List.mem_append_left _ hp
      · exact List.mem_append_right _ (List.mem_cons_of_mem _ hp))
     rw [hst,if_neg,h.off u k hk'];rintro⟨rfl,rfl⟩;exact hk (x,x) (by simp) ⟨ht,rfl⟩
 · obtain⟨et,ek⟩:=cmpC_eq.1 hp;obtain⟨u,e1,e2,e3,e4⟩:=h.at_ p (by simp);have hu:u=t:=(by omega);subst hu;have hcmp:cmpR p.2.new x.old=0:=(by rw [←e4,ek,hold];exact cmpR_is.self _);refine⟨A++(p.1,x) :: B',by rw [Zgv hA hp,if_pos hcmp],?_,?_,?_⟩
   · refine List.pairwise_append.2 ⟨s1,List.pairwise_cons.2 ⟨fun q hq=>(List.pairwise_cons.1 s2).1 q hq,(List.pairwise_cons.1 s2).2⟩,fun a ha q hq=>?_⟩;rcases List.mem_cons.1 hq with rfl | hq
     · exact s3 a ha p (by simp)
     · exact s3 a ha q (by simp [hq])
   · intro q hq
     by_cases hqe:q=(p.1,x)
     · subst hqe;refine⟨u,e1,e2,e3,?_⟩;show look s (ZcV s cur x) u (keyC s p.1)=x.new;rw [hst,if_pos ⟨rfl,ek⟩]
     · have hq':q ∈ A∨q ∈ B':=by
         rcases List.mem_append.1 hq with hq | hq
         · exact .inl hq
         · rcases List.mem_cons.1 hq with hq | hq
           · exact absurd hq hqe
           · exact .inr hq
       have hqn:¬ cmpC s q.1 x=0:=by
        rcases hq' with hq' | hq'
        · have:=hA q hq';omega
        · have:=hB q hq';omega
       obtain⟨v,f1,f2,f3,f4⟩:=h.at_ q (by rcases hq' with hq' | hq'<;>simp [hq']);refine⟨v,f1,f2,f3,?_⟩;rw [hst,if_neg,f4];rintro⟨rfl,e⟩;exact hqn (cmpC_eq.2 ⟨by rw [f1,ht],e⟩)
   · intro v k hk
     have hpk:∀ q ∈ A++p :: B',¬ (q.1.table=(v:Int)∧keyC s q.1=k):=fun q hq=>by
      rcases List.mem_append.1 hq with hq | hq
      · exact hk q (List.mem_append_left _ hq)
      · rcases List.mem_cons.1 hq with rfl | hq
        · exact hk (q.1,x) (by simp)
        · exact hk q (by simp [hq])
     rw [hst,if_neg,h.off v k hpk];rintro⟨rfl,rfl⟩;exact hk (p.1,x) (by simp) ⟨e1,ek⟩
theorem net_go:∀ (l:List Chg) (st cur:St) (G:List (Chg × Chg)),NetI s st cur G→st.length=cur.length→StOk s m cur→Fit s m cur l→∃ G',ZcX s m (G.map (entG s)) l=(0,G'.map (entG s))∧NetI s st (after s cur l) G'
 | [],st,cur,G,h,_,_,_=>⟨G,rfl,h⟩
 | x :: l,st,cur,G,h,hl,hc,hf=>by
  obtain⟨⟨hv,hfc⟩,hr⟩:=hf;obtain⟨G1,h1,h2⟩:=netI_step h hl hc hv hfc;obtain⟨G2,h3,h4⟩:=net_go l st (ZcV s cur x) G1 h2 (by rw [Zhm];exact hl) (Zha hc hv).1 hr;refine⟨G2,?_,h4⟩;rw [ZcX,hv,h1];simp only [Bool.true_eq_false,if_false];exact h3
theorem net_outs (hw:∀ t,t<s.tabs.length→0<(s.tabs.getD t t0).cols.length) {st cur:St} (hs:StOk s m st) (hc:StOk s m cur) {G:List (Chg × Chg)} (h:NetI s st cur G):outs G=Zbu s st cur:=by
 have hlk:∀ p ∈ G,p.1.old≠p.2.new→∃ t:Nat,p.1.table=t∧t<st.length∧look s st t (keyC s p.1)=p.1.old∧look s cur t (keyC s p.1)=p.2.new∧keyC s ⟨p.1.table,p.1.old,p.2.new⟩=keyC s p.1:=fun p hp hn=>by
  obtain⟨t,e1,e2,e3,e4⟩:=h.at_ p hp;exact⟨t,e1,e2,e3,e4,ZdO hw hs hc e2 (x:=⟨p.1.table,p.1.old,p.2.new⟩) e1 hn e3.symm e4.symm⟩
 have hout:∀ (p:Chg × Chg) (y:Chg),y ∈ ZaV p.1 p.2↔p.1.old≠p.2.new∧y=(⟨p.1.table,p.1.old,p.2.new⟩:Chg):=fun p y=>by
  unfold ZaV
  by_cases e:p.1.old=p.2.new
  · rw [if_pos ((cmpR_is.zero _ _).2 e)];simp [e]
  · rw [if_neg (fun h=>e ((cmpR_is.zero _ _).1 h))];simp [e]
 have hm:∀ y,y ∈ outs G↔∃ p ∈ G,p.1.old≠p.2.new∧y=(⟨p.1.table,p.1.old,p.2.new⟩:Chg):=fun y=>by
  unfold outs;rw [List.mem_flatMap];exact⟨fun ⟨p,hp,hy⟩=>⟨p,hp,(hout p y).1 hy⟩,fun ⟨p,hp,hy⟩=>⟨p,hp,(hout p y).2 hy⟩⟩
 refine canon_ext (s:=s) ?_ (ZfP hs hc (Zdd hw hs) (Zdd hw hc)) (fun y=>?_)
 · have:∀ G:List (Chg × Chg),G.Pairwise (fun p q=>cmpC s p.1 q.1<0)→(∀ p ∈ G,p.1.old≠p.2.new→keyC s ⟨p.1.table,p.1.old,p.2.new⟩=keyC s p.1)→Zft s (outs G):=by
     intro G;induction G with
     | nil=>intro _ _;exact List.Pairwise.nil
     | cons p G ih =>
      intro h1 h2;obtain⟨h3,h4⟩:=List.pairwise_cons.1 h1;have ih':=ih h4 (fun q hq=>h2 q (by simp [hq]));show Zft s (ZaV p.1 p.2++outs G);refine List.pairwise_append.2 ⟨?_,ih',fun a ha b hb=>?_⟩
      · unfold ZaV;split<;>simp
      · obtain⟨ha1,rfl⟩:=(hout p a).1 ha;unfold outs at hb;obtain⟨q,hq,hb⟩:=List.mem_flatMap.1 hb;obtain⟨hb1,rfl⟩:=(hout q b).1 hb;have h5:=h3 q hq;unfold cmpC at h5 ⊢;rw [h2 p (by simp) ha1,h2 q (by simp [hq]) hb1];exact h5
   exact this G h.srt (fun p hp hn=>by obtain⟨t,_,_,_,_,e⟩:=hlk p hp hn;exact e)
 · rw [hm,ZeM hs hc];constructor
   · rintro⟨p,hp,hn,rfl⟩;obtain⟨t,e1,e2,e3,e4,_⟩:=hlk p hp hn;exact⟨t,e2,e1,hn,keyC s p.1,e3.symm,e4.symm⟩
   · rintro⟨t,ht,e1,e2,k,e3,e4⟩
     by_cases hex:∃ p ∈ G,p.1.table=(t:Int)∧keyC s p.1=k
     · obtain⟨p,hp,h1,h2⟩:=hex;obtain⟨u,f1,f2,f3,f4⟩:=h.at_ p hp;have hu:u=t:=(by omega);subst hu;rw [h2] at f3 f4;have g1:y.old=p.1.old:=(by rw [e3,f3]);have g2:y.new=p.2.new:=(by rw [e4,f4]);refine⟨p,hp,by rw [←g1,←g2];exact e2,?_⟩;obtain⟨yt,yo,yn⟩:=y;dsimp only at e1 g1 g2;rw [e1,g1,g2,f1]
     · have:=h.off t k (fun p hp e=>hex ⟨p,hp,e⟩);exact absurd (by rw [e3,e4,this]) e2
theorem net_diff (hw:∀ t,t<s.tabs.length→0<(s.tabs.getD t t0).cols.length) (hm:Zcm m=true) {st:St} (hs:StOk s m st) {l:List Chg} (hf:Fit s m st l):netF 0 s m l=(0,Zbu s st (after s st l)):=by
 obtain⟨G,h1,h2⟩:=net_go l st st [] ⟨List.Pairwise.nil,fun p hp=>by simp at hp,fun _ _ _=>rfl⟩ rfl hs hf;have hm0:¬ Zcp 0 m≠0:=(by simp [Zcp,hm]);rw [←rnetF_eq];unfold rnetF;have h1':ZcX s m [] l=(0,G.map (entG s)):=h1;rw [if_neg hm0,h1',if_neg (by simp),Zho,net_outs hw hs (fit_ok hs hf).1 h2]
end
theorem ZeX {α:Type} {l:List α} {d:α} {k:Nat} (h:k<l.length):l.getD k d=l[k]:=by simp [List.getD,h]
def TabG (tb:Tab):Prop:=1≤tb.cols.length∧tb.cols.length≤4∧1≤tb.key∧tb.key≤tb.cols.length∧∀ c ∈ tb.cols,c.kind=3∨c.kind=4∨c.kind=5
theorem gen_tabs {id:Int} (hid:id=4∨id=5) (r1 r2 r3:List Rfr) (chk:List Pred):∀ tb ∈ Zau id r1 r2 r3 chk,TabG tb:=by
 intro tb h;simp only [Zau,List.mem_cons,List.not_mem_nil,or_false] at h;rcases h with rfl | rfl | rfl | rfl
 · refine⟨by decide,by decide,by decide,by decide,fun c hc=>?_⟩;simp only [Zey,List.mem_cons,List.not_mem_nil,or_false] at hc;rcases hc with rfl | rfl<;>simp
 · refine⟨by simp [Zcz],by simp [Zcz],by simp,by simp [Zcz],fun c hc=>?_⟩;simp only [Zcz,List.mem_cons,List.not_mem_nil,or_false] at hc;rcases hc with rfl | rfl | rfl | rfl
   · rcases hid with h | h<;>simp [h]
   all_goals simp
 · refine⟨by simp [Zdc],by simp [Zdc],by simp,by simp [Zdc],fun c hc=>?_⟩;simp only [Zdc,List.mem_cons,List.not_mem_nil,or_false] at hc;rcases hc with rfl | rfl<;>simp
 · refine⟨by simp [ZcQ],by simp [ZcQ],by simp,by simp [ZcQ],fun c hc=>?_⟩;simp only [ZcQ,List.mem_cons,List.not_mem_nil,or_false] at hc;rcases hc with rfl;rcases hid with h | h<;>simp [h]
theorem GenS.len {s:Sch} (h:GenS s):2≤s.tabs.length∧s.tabs.length≤4:=by
 obtain⟨n,v,id,b1,b2,b3,chk,rfl,h2,h4,_⟩:=h;have:(Zau id (rf0 b1 1 0) (rf0 b2 0 0) (rf0 b3 0 1) chk).length=4:=rfl;show 2≤(List.take n _).length∧(List.take n _).length≤4;rw [List.length_take];omega
theorem GenS.tab {s:Sch} (h:GenS s) {t:Nat} (ht:t<s.tabs.length):TabG (s.tabs.getD t t0):=by
 obtain⟨n,v,id,b1,b2,b3,chk,rfl,h2,h4,_,_,hid,_⟩:=h;have e:(Sch.tabs ⟨v,(Zau id (rf0 b1 1 0) (rf0 b2 0 0) (rf0 b3 0 1) chk).take n⟩).getD t t0=(List.take n (Zau id (rf0 b1 1 0) (rf0 b2 0 0) (rf0 b3 0 1) chk))[t]'ht:=ZeX ht;rw [e];exact gen_tabs hid _ _ _ _ _ (List.mem_of_mem_take (List.getElem_mem ht))
theorem GenS.wide {s:Sch} (h:GenS s):∀ t,t<s.tabs.length→0<(s.tabs.getD t t0).cols.length:=fun t ht=>(h.tab ht).1
theorem GenS.kinds {s:Sch} (h:GenS s) {t:Nat} (ht:t<s.tabs.length):Zbs s t=(s.tabs.getD t t0).cols.map (·.kind)∧(Zbs s t).length≤4:=by
 have e:Zbs s t=(s.tabs.getD t t0).cols.map (·.kind):=by
  unfold Zbs hasN;rw [if_pos (by simp;omega),Int.toNat_natCast]
 rw [e,List.length_map];exact⟨rfl,(h.tab ht).2.1⟩
theorem Zfd {m key:Int}:∀ {cs:List Col} {r:Row} {i:Nat},r.length=cs.length→(∀ j,j<cs.length→Zaz m key (cs.getD j c0).kind (i+j) (r.getD j v0)=true)→ZaX m key i cs r=true
 | [],r,i,_,_=>by cases r<;>simp [ZaX]
 | c :: cs,[],i,h,_=>by simp at h
 | c :: cs,v :: r,i,h,hf=>by
  have h0:=hf 0 (by simp)
  have ih:=Zfd (m:=m) (key:=key) (cs:=cs) (r:=r) (i:=i+1) (by simpa using h) (fun j hj=>by
   have:=hf (j+1) (by simpa using hj);rw [show i+(j+1)=i+1+j by omega] at this;simpa using this)
  simp only [ZaX,Bool.and_eq_true];exact⟨by simpa using h0,ih⟩
theorem rowGen_fits {s:Sch} {m:Int} (h:GenS s) (hm:Zcm m=true) {t:Nat} (ht:t<s.tabs.length) {r:Row} (hr:ZhI (s.tabs.getD t t0).key m (Zbs s t) r):ZaT s t r m=true:=by
 obtain⟨h1,h2⟩:=hr;obtain⟨h3,_⟩:=h.kinds ht;have hk:=(h.tab ht).2.2.2.2;rw [h3] at h1 h2;rw [List.length_map] at h1 h2;unfold ZaT hasN;rw [Int.toNat_natCast];simp only [Bool.and_eq_true,decide_eq_true_eq];refine⟨⟨⟨hm,by omega,by omega⟩,h1⟩,Zfd h1 (fun j hj=>?_)⟩;have h4:=h2 j hj;have e1:((s.tabs.getD t t0).cols.map (·.kind)).getD j 0=((s.tabs.getD t t0).cols.getD j c0).kind:=(by rw [ZeX hj,ZeX (by simpa using hj),List.getElem_map])
 have e2:Zda ((s.tabs.getD t t0).cols.getD j c0).kind=((s.tabs.getD t t0).cols.getD j c0).kind:=by
  have hmem:(s.tabs.getD t t0).cols.getD j c0 ∈ (s.tabs.getD t t0).cols:=by
   rw [ZeX hj];exact List.getElem_mem hj
  rcases hk _ hmem with e | e | e<;>rw [e]<;>rfl
 rw [e1,e2] at h4;rw [Nat.zero_add];exact h4
theorem put_ok {s:Sch} {m:Int} {st:St} (h:StOk s m st) {t:Nat} (ht:t<st.length) {key row:Row} (hk:0<row.length→keyF s t row=key) (hf:0<row.length→ZaT s t row m=true):StOk s m (st.set t (putR s t key row (st.getD t [])))∧putR s t key row (st.getD t [])=putL s t key row (st.getD t []):=by
 have hr:=h.2 t ht;have e:=putR_eq hr.2 key row;rw [e];exact⟨h.set (Zfx hr hk hf),rfl⟩
theorem putL_len (s:Sch) (t:Int) (row:Row) (l:List Row):(putL s t (keyF s t row) row l).length≤l.length+1:=by
 have:=Zhc s ⟨t,[],row⟩ l;have e:putC s ⟨t,[],row⟩ l=putL s t (keyF s t row) row l:=(by rw [putC_eq];simp [keyC]);rwa [e] at this
theorem stOk_nil {s:Sch} {m:Int} (n:Nat) (h:n=s.tabs.length):StOk s m (List.replicate n []):=by
 refine⟨by simpa using h,fun t ht=>?_⟩
 have e:(List.replicate n ([]:List Row)).getD t []=[]:=by
  have:t<n:=(by simpa using ht);simp [List.getD,this]
 rw [e];exact⟨fun r hr=>by simp at hr,fun i j _ hj=>by simp at hj⟩
open Go.RowKit
theorem Fr.frozenF {X:Nat→Prop} {w w':World} (h:Fr X w w') {b o:Nat} (hb:b<w.heap.size) (hx:¬ X b):w'.frozen? ⟨b,o,none⟩=w.frozen? ⟨b,o,none⟩:=World.frozen?_of_block (h.block b hb hx)
theorem Zgy {key m:Int} {ks:List Int} {r:Row} (h:ZhI key m ks r) (hl:ks.length≤1000000):RowOk r:=by
 refine⟨by rw [h.1];omega,fun v hv=>?_⟩;obtain⟨i,hi,rfl⟩:=List.getElem_of_mem hv;have h1:=h.2 i (by rw [←h.1];exact hi);rw [ZeX hi] at h1;unfold Zaz at h1;simp only [Bool.and_eq_true] at h1;have:=Zer h1.1;omega
theorem rowOk_key {s:Sch} {t:Int} {r:Row} (h:RowOk r):RowOk (keyF s t r):=by
 unfold keyF;split
 · exact⟨by rw [List.length_take];have:=h.1;omega,fun v hv=>h.2 v (List.mem_of_mem_take hv)⟩
 · exact⟨by simp,fun v hv=>by simp at hv⟩
structure StI (w wr:World) (g:Nat) (S:Nat→Prop) (s:Sch) (A0:Option Addr) (c0':Nat) (m:Int) (cur:St):Prop where
 stc:StC wr (fun b=>S b∨(w.heap.size+4≤b∧b<wr.heap.size)) (w.heap.size+2) cur
 ok:StOk s m cur
 b0:wr.cell? ⟨w.heap.size,0,none⟩=some (.int .i64 s.version)
 b1:wr.cell? ⟨w.heap.size,1,none⟩=some (.slice A0 s.tabs.length c0')
 r0:wr.cell? ⟨w.heap.size+1,0,none⟩=some (.slice none 0 0)
 rf:wr.frozen? ⟨w.heap.size+1,0,none⟩=false
 t0:wr.cell? ⟨w.heap.size+3,0,none⟩=some (.slice (some ⟨w.heap.size+2,0,none⟩) s.tabs.length s.tabs.length)
 tf:wr.frozen? ⟨w.heap.size+3,0,none⟩=false
 case:CaseOk wr g
 gr:w.grownBy wr (some g)
 sz:w.heap.size+4≤wr.heap.size
section
variable {w wr wx wp:World} {g:Nat} {S:Nat→Prop} {s:Sch} {A0:Option Addr} {c0':Nat} {m:Int} {cur cur':St}
theorem StI.keep (h:StI w wr g S s A0 c0' m cur) (hf:Fr (fun b=>b=g) wr wx) (hc:CaseOk wx g) (hgl:g<w.heap.size) (hS:∀ b,S b→b<w.heap.size∧b≠g):StI w wx g S s A0 c0' m cur:=by
 have hz:=h.sz;have hzx:=hf.size;refine⟨(h.stc.fr hf (fun b hb hl=>⟨fun hb'=>?_,by omega⟩)).more (fun b hb=>hb.imp id (fun hb=>⟨hb.1,by have:=hb.2;omega⟩)) (fun b hb=>?_),h.ok,(hf.cell (by omega) (by omega)).trans h.b0,(hf.cell (by omega) (by omega)).trans h.b1,(hf.cell (by omega) (by omega)).trans h.r0,(hf.frozenF (by omega) (by omega)).trans h.rf,(hf.cell (by omega) (by omega)).trans h.t0,(hf.frozenF (by omega) (by omega)).trans h.tf,hc,h.gr.trans hf.grown,by omega⟩
 · rcases hb' with hb' | hb'
   · exact(hS b hb').2 hb
   · omega
 · rcases hb with hb | hb
   · have:=hS b hb;omega
   · exact⟨hb.2,by have:=hb.1;omega⟩
theorem StI.put (h:StI w wr g S s A0 c0' m cur) (hgl:g<w.heap.size) (hS:∀ b,S b→b<w.heap.size∧b≠g) (hb:Below wr.heap.size wr wx) (hst:StC wp (fun b=>(S b∨(w.heap.size+4≤b∧b<wx.heap.size))∨New wx wp b) (w.heap.size+2) cur') (hf:Fr (fun b=>b=w.heap.size+2) wx wp) (hok:StOk s m cur') :
  StI w (wp.setCell ⟨w.heap.size+3,0,none⟩ (.slice (some ⟨w.heap.size+2,0,none⟩) s.tabs.length s.tabs.length)) g S s A0 c0' m cur':=by
 have hz:=h.sz;have hzx:=hb.size;have hzp:=hf.size;have hne:∀ b,b≠w.heap.size+3→(wp.setCell ⟨w.heap.size+3,0,none⟩ (.slice (some ⟨w.heap.size+2,0,none⟩) s.tabs.length s.tabs.length)).heap[b]?=wp.heap[b]?:=fun b hb=>Below.heap_setCell wp ⟨w.heap.size+3,0,none⟩ _ b hb;have hblk:∀ b,b<wr.heap.size→b≠w.heap.size+2→wp.heap[b]?=wr.heap[b]?:=fun b h1 h2=>(hf.block b (by omega) h2).trans (hb.block b h1);have hall:∀ b,b<wr.heap.size→b≠w.heap.size+2→b≠w.heap.size+3→(wp.setCell ⟨w.heap.size+3,0,none⟩ (.slice (some ⟨w.heap.size+2,0,none⟩) s.tabs.length s.tabs.length)).heap[b]?=wr.heap[b]?:=fun b h1 h2 h3=>(hne b h3).trans (hblk b h1 h2)
 have hnew:∀ b,((S b∨(w.heap.size+4≤b∧b<wx.heap.size))∨New wx wp b)→S b∨(w.heap.size+4≤b∧b<wp.heap.size):=fun b hb'=>by
  rcases hb' with (hb' | hb') | hb'
  · exact .inl hb'
  · exact .inr ⟨hb'.1,by have:=hb'.2;omega⟩
  · exact .inr ⟨by have h9:wx.heap.size≤b:=hb'.1;omega,hb'.2⟩
 have hlow:∀ b,(S b∨(w.heap.size+4≤b∧b<wp.heap.size))→b<wp.heap.size∧b≠w.heap.size+2:=fun b hb'=>by
  rcases hb' with hb' | hb'
  · have:=hS b hb';omega
  · exact⟨hb'.2,by have:=hb'.1;omega⟩
 have hst1:=hst.more (S':=fun b=>S b∨(w.heap.size+4≤b∧b<wp.heap.size)) hnew hlow;have hfg:Fr (fun b=>b=g) wr (wp.setCell ⟨w.heap.size+3,0,none⟩ (.slice (some ⟨w.heap.size+2,0,none⟩) s.tabs.length s.tabs.length))→True:=fun _=>trivial;refine⟨(hst1.keep (by simp) (fun b hb'=>hne b ?_) (hne (w.heap.size+2) (by omega))).more (fun b hb'=>hb'.imp id (fun hb'=>⟨hb'.1,by have:=hb'.2;simpa using this⟩)) (fun b hb'=>?_),hok,?_,?_,?_,?_,?_,?_,?_,?_,by simp;omega⟩
 · rcases hb' with hb' | hb'
   · have:=hS b hb';omega
   · have:=hb'.1;omega
 · have:=hlow b (by simpa using hb');simpa using this
 · exact(World.cell?_of_block (hall (w.heap.size) (by omega) (by omega) (by omega))).trans h.b0
 · exact(World.cell?_of_block (hall (w.heap.size) (by omega) (by omega) (by omega))).trans h.b1
 · exact(World.cell?_of_block (hall (w.heap.size+1) (by omega) (by omega) (by omega))).trans h.r0
 · exact(World.frozen?_of_block (hall (w.heap.size+1) (by omega) (by omega) (by omega))).trans h.rf
 · exact World.cell?_setCell_same _ _ _ ((World.cell?_of_block (hblk (w.heap.size+3) (by omega) (by omega))).trans h.t0)
 · rw [World.frozen?_setCell];exact(World.frozen?_of_block (hblk (w.heap.size+3) (by omega) (by omega))).trans h.tf
 · exact h.case.keep (fun b hb'=>hall b (by omega) (by omega) (by omega))
 · have h1:=h.gr;refine⟨?_,?_,?_,by simp;omega,fun b hb1 hb2=>(hall b (by omega) (by omega) (by omega)).trans (h1.block b hb1 hb2)⟩
   · exact hf.os.trans (hb.os.trans h1.os)
   · exact hf.tape.trans (hb.tape.trans h1.tape)
   · exact hf.output.trans (hb.output.trans h1.output)
end
def CntOk (cur:St) (t nn:Nat):Prop:=(∀ j,(cur.getD j []).length≤4)∧(cur.getD t []).length+nn≤4∧∀ j,t<j→cur.getD j []=[]
theorem CntOk.put {cur:St} {t nn:Nat} {P:List Row} (h:CntOk cur t (nn+1)) (ht:t<cur.length) (hP:P.length≤(cur.getD t []).length+1):CntOk (cur.set t P) t nn:=by
 have e1:(cur.set t P).getD t []=P:=(by simp [List.getD,ht]);have e2:∀ j,j≠t→(cur.set t P).getD j []=cur.getD j []:=(fun j hj=>by simp [List.getD,List.getElem?_set_ne (Ne.symm hj)]);refine⟨fun j=>?_,?_,fun j hj=>?_⟩
 · by_cases hj:j=t
   · rw [hj,e1];have:=h.2.1;omega
   · rw [e2 j hj];exact h.1 j
 · rw [e1];have:=h.2.1;omega
 · rw [e2 j (by omega)];exact h.2.2 j hj
theorem ZhA (n j:Nat):(List.replicate n ([]:List Row)).getD j []=[]:=by
 by_cases h:j<n<;>simp [List.getD,h]
def StatePost (s:Sch) (m:Int) (S:Nat→Prop) (w:World) (g:Nat) (e:Ending) (w':World):Prop:=∃ (gt:Nat) (st:St),e=.returned (Zay (some ⟨gt,0,none⟩) st.length st.length)∧StOk s m st∧(∀ j,(st.getD j []).length≤4)∧w.heap.size≤gt∧StC w' (fun b=>S b∨(gt<b∧b<w'.heap.size)) gt st∧CaseOk w' g∧w.grownBy w' (some g)
theorem state_any (g:Nat) (A0:Option Addr) (c0':Nat) (s:Sch) (m:Int) (S:Nat→Prop) (w:World) (hs:TabS w S A0 s.tabs) (hS:∀ b,S b→b<w.heap.size∧b≠g) (hgs:GenS s) (hm:Zcm m=true) (hc:CaseOk w g) :
  Calls Try.prog 22 #[.pointer (some ⟨g,0,none⟩),sAgg s.version A0 s.tabs.length c0',.int .i64 m] w (StatePost s m S w g):=by
 have hgl:=hc.lt;have hsl:=hgs.len;have HS:=hI hs;have HSG:=hI hS;have HGS:=hI hgs;have HC:=hI hc;have HM:=hI hm;clear hs hgs hc hm;have hmk:∀ w:World,(Instr.makeSlice 54 (.int .i64 (s.tabs.length:Int)) (.int .i64 (s.tabs.length:Int))).run Try.prog w=.ok (.slice (some ⟨w.heap.size,0,none⟩) s.tabs.length s.tabs.length) (w.alloc (.cells (ZaI s.tabs.length).toArray 49)):=fun w=>ZdJ s.tabs.length (by omega) w;go_enter Try.func22,Try.ntmps22
 go_wp2_with fail
 clear hmk;rw [show w.heap.size+1+1+1=w.heap.size+3 from rfl,show w.heap.size+1+1=w.heap.size+2 from rfl];obtain⟨W,hW⟩:∃ W,(((w.alloc (.cells #[.int .i64 s.version,.slice A0 s.tabs.length c0'] 25)).alloc (.cells #[.slice none 0 0] 56)).alloc (.cells (ZaI s.tabs.length).toArray 49)).alloc (.cells #[.slice (some ⟨w.heap.size+2,0,none⟩) s.tabs.length s.tabs.length] 56)=W:=⟨_,rfl⟩
 have HI0:=hI (show StI w W g S s A0 c0' m (List.replicate s.tabs.length []) from by
  subst hW;have hb:Below w.heap.size w ((((w.alloc (.cells #[.int .i64 s.version,.slice A0 s.tabs.length c0'] 25)).alloc (.cells #[.slice none 0 0] 56)).alloc (.cells (ZaI s.tabs.length).toArray 49)).alloc (.cells #[.slice (some ⟨w.heap.size+2,0,none⟩) s.tabs.length s.tabs.length] 56)):=((((Below.refl w.heap.size w).alloc nR _).alloc (by simp) _).alloc (by simp;omega) _).alloc (by simp;omega) _
  have hg:(((((w.alloc (.cells #[.int .i64 s.version,.slice A0 s.tabs.length c0'] 25)).alloc (.cells #[.slice none 0 0] 56)).alloc (.cells (ZaI s.tabs.length).toArray 49)).alloc (.cells #[.slice (some ⟨w.heap.size+2,0,none⟩) s.tabs.length s.tabs.length] 56))).heap[w.heap.size+2]?=some (.cells (ZaI s.tabs.length).toArray 49 (0,0)):=by
   refine(Below.heap_alloc _ _ _ (by simp)).trans ?_;have:=heap_alloc_new ((w.alloc (.cells #[.int .i64 s.version,.slice A0 s.tabs.length c0'] 25)).alloc (.cells #[.slice none 0 0] 56)) (.cells (ZaI s.tabs.length).toArray 49);simpa using this
  exact⟨(StC.made hg).more (fun _ h=>h.elim) (fun b hb'=>by
   rcases hb' with hb' | hb'
   · have:=HSG.out b hb';simp;omega
   · exact⟨hb'.2,by have:=hb'.1;omega⟩),stOk_nil _ rfl,(Zah (by simp<;>omega)).trans ((Zah (by simp<;>omega)).trans ((Zah (by simp)).trans (Zae rfl rfl))),(Zah (by simp<;>omega)).trans ((Zah (by simp<;>omega)).trans ((Zah (by simp)).trans (Zae rfl rfl))),(Zah (by simp<;>omega)).trans ((Zah (by simp)).trans (Zae (by simp) rfl)),(ZbX (by simp<;>omega)).trans ((ZbX (by simp)).trans (Zbk (by simp))),Zae (by simp) rfl,Zbk (by simp),HC.out.keep (fun b hb'=>hb.block b (by omega)),(Fr.of_below (X:=fun b=>b=g) hb).grown,by simp⟩)
 rw [hW];clear hW HC
 go_loopw [19] (fun i wr=>∃ (t:Nat) (cur:St),t≤s.tabs.length∧i=.int .i64 t∧StI w wr g S s A0 c0' m cur∧(∀ j,(cur.getD j []).length≤4)∧∀ j,t≤j→cur.getD j []=[]) (fun i _=>s.tabs.length - (intOf i).toNat)
 case atStart=>exact⟨0,_,Nat.zero_le _,rfl,HI0.out,fun j=>by rw [ZhA];simp,fun j _=>ZhA _ _⟩
 case round =>
  obtain⟨t,cur,ht,rfl,hi,hc4,hcn⟩:=hrel;have HI:=hI hi;have HC4:=hI hc4;have HCN:=hI hcn;have hsz:=hi.sz;clear hi hc4 hcn
  by_cases htl:t<s.tabs.length
  · go_wp2_with fail
    refine(ZaO g 5 _ (by omega) HI.out.case).mono ?_;rintro e w1 ⟨r,rfl,r0,r1,-,hcr,hgr,hsr⟩;have hr5:=r1 (by omega);obtain⟨nn,rfl⟩:=Int.eq_ofNat_of_zero_le r0;have HI1:=hI (HI.out.keep (Zbp hgr) hcr hgl HSG.out);clear hcr hgr hsr r1
    go_wp2_with fail
    go_loopw [9] (fun i wr=>∃ (nn:Nat) (cur:St),nn≤4∧i=.int .i64 nn∧StI w wr g S s A0 c0' m cur∧CntOk cur t nn) (fun i _=>(intOf i).toNat)
    case atStart=>exact⟨nn,cur,by omega,rfl,HI1.out,HC4.out,by rw [HCN.out t nR];simp;omega,fun j hj=>HCN.out j (by omega)⟩
    case round =>
     clear HI HI1 HC4 HCN hsz;obtain⟨nn,cur,hnn,rfl,hi,hcn⟩:=hrel;have HI:=hI hi;have HCN:=hI hcn;have hsz:=hi.sz;clear hi hcn;rcases Nat.eq_zero_or_pos nn with hn0 | hn0
     · subst hn0
       go_wp2_with fail
       go_roundw
       case rel=>exact⟨t+1,cur,by omega,by go_num,HI.out,HCN.out.1,fun j hj=>HCN.out.2.2 j (by omega)⟩
       case measure=>(simp [intOf];try omega)
     · obtain⟨n1,rfl⟩:∃ n1,nn=n1+1:=⟨nn - 1,by omega⟩;have hSw:∀ b,S b→b<w.heap.size:=fun b hb=>(HSG.out b hb).1;have hsame:Same S w wr:=fun b hb=>HI.out.gr.block b (hSw b hb) (fun e=>(HSG.out b hb).2 (by injection e));have HTW:=hI (HS.out.keep hsame);have hSr:∀ b,S b→b<wr.heap.size:=(fun b hb=>by have:=hSw b hb;omega);obtain⟨bT,oT,rfl,hbT,A1,A2,A3,c1,c2,c3,hta⟩:=HTW.out.at_ htl;have lT:bT<wr.heap.size:=hSr bT hbT;have l0:w.heap.size<wr.heap.size:=(by omega);have hg0:¬ w.heap.size=g:=(by omega);have hgT:¬ bT=g:=(HSG.out bT hbT).2;have u0:=HI.out.b0;have u1:=HI.out.b1;have u2:=hta.key;have hkl:(Zbs s t).length≤1000000:=(by have:=(HGS.out.kinds htl).2;omega);have HFIT:=hI (fun (r:Row) (h:ZhI (s.tabs.getD t t0).key m (Zbs s t) r)=>rowGen_fits HGS.out HM.out htl h);clear hta hsame;generalize (s.tabs.getD t t0).key=ky at u2 HFIT
       go_wp2_with fail
       refine tS (fun w'=>w'.cell? ⟨w.heap.size,0,none⟩=some (.int .i64 s.version)∧w'.cell? ⟨w.heap.size,1,none⟩=some (.slice (some ⟨bT,oT,none⟩) s.tabs.length c0')∧w'.cell? ⟨bT,oT+t*5+2,none⟩=some (.int .i64 ky)) 13 13 fun Q' HQ HP=>?_;refine tX 0 28 1 29 2 30 4 32 (bA 13 23) HP.out ⟨u0,u1,u2⟩ ?_;refine tX 5 33 6 34 7 35 8 36 (bA 13 503) HP.out ⟨u0,u1,u2⟩ ?_;refine tW 9 37 10 38 (bA 13 2039) HP.out ⟨u0,u1,u2⟩ ?_;refine tQ 3 (some 31) (bA 13 2047) fun K HK=>?_;go_simp;refine(Zfz (some ⟨bT,oT,none⟩) c0' s t S wr.drew (HTW.out.keep (fun _ _=>rfl)) hSr).mono ?_;rintro e wk ⟨KA,kc,rfl,hks,hkc,-,hbk0⟩;have hbk:Below wr.heap.size wr wk:=(Below.refl _ wr).drew.trans hbk0;have hzk:=hbk.size;have HKS:=hI hks;clear hks hbk0;have p0:=c9Q hbk l0 u0;have p1:=c9Q hbk l0 u1;have p2:=c9Q hbk lT u2;refine HK.out _ _ (fun _=>⟨p0,p1,p2⟩) ?_;clear HK K
       try simp only [Act.put,psA,psB,psC]
       refine tQ 11 (some 39) (bA 13 4095) fun K HK=>?_;go_simp;refine(row_any g KA kc (Zbs s t) ky m (New wr.drew wk) wk HKS.out (fun b hb=>⟨hb.2,by have h9:wr.heap.size≤b:=hb.1;omega⟩) hkl (HI.out.case.keep (fun b hb=>hbk.block b (by omega)))).mono ?_;rintro e wq ⟨row,RA,rc,rfl,hgen,hrow,hcq,hgq⟩;have hzq:=hgq.size;have HGEN:=hI hgen;have HROW:=hI (ZbW hrow (Zgy HGEN.out hkl) nR);have HFQ:=hI (show Fr (fun b=>b=g) wr wq from (Fr.of_below hbk).trans (Zbp hgq) (fun _ _ e=>e));have HIQ:=hI (HI.out.keep HFQ.out hcq hgl HSG.out);clear hgen hrow hcq;have q0:=(HFQ.out.cell (b:=w.heap.size) l0 hg0).trans u0;have q1:=(HFQ.out.cell (b:=w.heap.size) l0 hg0).trans u1;have q2:=(HFQ.out.cell (b:=bT) lT hgT).trans u2;clear hgq;refine HK.out _ _ (fun _=>⟨q0,q1,q2⟩) ?_;clear HK K
       try simp only [Act.put,psA,psB,psC]
       refine tJ 12 10 (bA 13 8191) HP.out ⟨q0,q1,q2⟩ ?_;refine tE HQ ?_;clear HQ HP Q';have HTQ:=hI (HTW.out.keep (HFQ.out.same (fun b hb=>⟨hSr b hb,(HSG.out b hb).2⟩)));have hsq:=HIQ.out.sz;clear p0 p1 p2 u0 u1 u2 q2;have u0:=q0;have u1:=q1;have u2:=HIQ.out.t0;clear q0 q1;have hqq:wr.heap.size≤wq.heap.size:=HFQ.out.size
       go_wp2_with fail
       refine tS (fun w'=>w'.cell? ⟨w.heap.size,0,none⟩=some (.int .i64 s.version)∧w'.cell? ⟨w.heap.size,1,none⟩=some (.slice (some ⟨bT,oT,none⟩) s.tabs.length c0')∧w'.cell? ⟨w.heap.size+3,0,none⟩=some (.slice (some ⟨w.heap.size+2,0,none⟩) s.tabs.length s.tabs.length)) 9 10 fun Q' HQ HP=>?_;refine tX 0 40 1 41 2 42 3 43 (bA 10 15) HP.out ⟨u0,u1,u2⟩ ?_;refine tW 4 44 5 45 (bA 10 63) HP.out ⟨u0,u1,u2⟩ ?_;refine tJ 7 47 (bA 10 191) HP.out ⟨u0,u1,u2⟩ ?_;refine tQ 6 (some 46) (bA 10 255) fun K HK=>?_;go_simp;refine(Zhp (some ⟨bT,oT,none⟩) c0' s t RA rc row (fun b=>b<wq.heap.size) wq.drew ((HTQ.out.keep (w':=wq.drew) (fun _ _=>rfl)).more (fun b hb=>by have:=hSr b hb;show b<wq.heap.size;omega)) ((HROW.out.2.keep (w':=wq.drew) (fun _ _=>rfl)).more (fun b hb=>hb.2)) HROW.out.1 (fun b hb=>hb)).mono ?_;rintro e wk ⟨KA2,kc2,rfl,hkey,hbk0⟩;have hbk:Below wq.heap.size wq wk:=(Below.refl _ wq).drew.trans hbk0;have hzk2:=hbk.size;have HKEY:=hI (ZbW hkey (rowOk_key (s:=s) (t:=t) (Zgy HGEN.out hkl)) (show wq.heap.size≤_ from Nat.le_refl _));clear hkey hbk0;have p0:=c9K hbk u0;have p1:=c9K hbk u1;have p2:=c9K hbk u2;refine HK.out _ _ (fun _=>⟨p0,p1,p2⟩) ?_;clear HK K
       try simp only [Act.put,psA,psB,psC]
       refine tQ 8 (some 48) (bA 10 511) fun K HK=>?_;go_simp;have HST:=hI (HIQ.out.stc.below hbk);have hlen2:=HIQ.out.ok.1;have hput:=rput_any (some ⟨bT,oT,none⟩) c0' s (w.heap.size+2) s.tabs.length cur t KA2 kc2 (keyF s t row) RA rc row (fun b=>S b∨(w.heap.size+4≤b∧b<wk.heap.size)) wk ((HTQ.out.keep (Same.of_below hbk (fun b hb=>by have:=hSr b hb;omega))).more (fun b hb=>.inl hb)) (HST.out.more (fun b hb=>hb.imp id (fun hb=>⟨hb.1,by have:=hb.2;omega⟩)) (fun b hb=>by rcases hb with hb | hb;{ have:=HSG.out b hb;omega };exact⟨hb.2,by have:=hb.1;omega⟩)) (HKEY.out.2.more (fun b hb=>.inr ⟨by have h9:wq.heap.size≤b:=hb.1;omega,hb.2⟩)) ((HROW.out.2.keep (Same.of_below hbk (fun b hb=>hb.2))).more (fun b hb=>.inr ⟨by have h9:_≤b:=hb.1;omega,by have:=hb.2;omega⟩)) htl (by omega) (by have:=HCN.out.1 t;omega) (by omega);rw [hlen2] at hput;refine hput.mono ?_;rintro e wp ⟨rfl,hstp,hfp⟩;have HSTP:=hI hstp;have HFP:=hI hfp;have hzp:=hfp.size;clear hput hstp hfp;have q0:=(HFP.out.cell (b:=w.heap.size) (by omega) (by omega)).trans p0;have q1:=(HFP.out.cell (b:=w.heap.size) (by omega) (by omega)).trans p1;have q2:=(HFP.out.cell (b:=w.heap.size+3) (by omega) (by omega)).trans p2;refine HK.out _ _ (fun _=>⟨q0,q1,q2⟩) ?_;clear HK K
       try simp only [Act.put,psA,psB,psC]
       refine tQ 9 none (bA 10 1023) fun K HK=>?_;have tf:=(HFP.out.frozenF (b:=w.heap.size+3) (o:=0) (by omega) (by omega)).trans ((hbk.frozen (p:=⟨w.heap.size+3,0,none⟩) (by show _<_;simp;omega)).trans HIQ.out.tf);go_simp;refine HK.out _ _ (fun h=>absurd rfl h) ?_;clear HK K;refine tE HQ ?_;clear HQ HP Q';have hok:=put_ok HIQ.out.ok (t:=t) (by rw [HIQ.out.ok.1];exact htl) (key:=keyF s t row) (row:=row) (fun _=>rfl) (fun _=>HFIT.out row HGEN.out);have HF:=hI (HIQ.out.put hgl HSG.out hbk HSTP.out HFP.out hok.1)
       go_wp2_with fail
       go_roundw
       case rel=>exact⟨n1,_,by omega,by go_num,HF.out,HCN.out.put (by rw [HIQ.out.ok.1];exact htl) (by rw [hok.2];exact putL_len _ _ _ _)⟩
       case measure=>(simp [intOf];try omega)
  · have r0:=HI.out.r0;have rf:=HI.out.rf;have t0':=HI.out.t0;have hl3:w.heap.size+3<wr.heap.size:=(by omega);have hl1:w.heap.size+1<wr.heap.size:=by omega
    go_wp2_with fail
    have x0:(wr.setCell ⟨w.heap.size+1,0,none⟩ (.slice (some ⟨w.heap.size+2,0,none⟩) s.tabs.length s.tabs.length)).cell? ⟨w.heap.size+1,0,none⟩=some (.slice (some ⟨w.heap.size+2,0,none⟩) s.tabs.length s.tabs.length):=World.cell?_setCell_same _ _ _ r0;have hne:∀ b,b≠w.heap.size+1→(wr.setCell ⟨w.heap.size+1,0,none⟩ (.slice (some ⟨w.heap.size+2,0,none⟩) s.tabs.length s.tabs.length)).heap[b]?=wr.heap[b]?:=fun b hb=>Below.heap_setCell wr ⟨w.heap.size+1,0,none⟩ _ b hb;have hlen:=HI.out.ok.1
    have hst:=(HI.out.stc.keep (w':=wr.setCell ⟨w.heap.size+1,0,none⟩ (.slice (some ⟨w.heap.size+2,0,none⟩) s.tabs.length s.tabs.length)) (by simp) (fun b hb=>hne b (by rcases hb with hb | hb;{ have:=HSG.out b hb;omega };have:=hb.1;omega)) (hne (w.heap.size+2) (by omega))).more (S':=fun b=>S b∨(w.heap.size+2<b∧b<(wr.setCell ⟨w.heap.size+1,0,none⟩ (.slice (some ⟨w.heap.size+2,0,none⟩) s.tabs.length s.tabs.length)).heap.size)) (fun b hb=>hb.imp id (fun hb=>⟨by have:=hb.1;omega,by have:=hb.2;simpa using this⟩)) (fun b hb=>by
     rcases hb with hb | hb
     · have:=HSG.out b hb;simp;omega
     · exact⟨hb.2,by have:=hb.1;omega⟩)
    exact bodyPost_ret (v:=Zay (some ⟨w.heap.size+2,0,none⟩) s.tabs.length s.tabs.length) (by simp [results,Try.results22,go_sem,x0]) rfl ⟨w.heap.size+2,cur,by rw [hlen],HI.out.ok,HC4.out,by omega,hst,Zab HI.out.case (by omega),Zac HI.out.gr (by omega)⟩
open Go
section
variable {w wr wx wl wp:World} {B0 gt cap g:Nat} {S:Nat→Prop} {s:Sch} {A0:Option Addr} {c0':Nat} {cur cur':St} {l:List Chg} {A A':Option Addr} {c c':Nat}
end
section
variable {wr W W':World} {g xb:Nat} {X:List Value} {A:Option Addr} {c:Nat} {r:Row}
end
end Go.Proofs.Ytkpjjfhfbpfjpaa
