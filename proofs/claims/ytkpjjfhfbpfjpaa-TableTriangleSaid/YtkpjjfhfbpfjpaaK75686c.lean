import Derived.Test.YtkpjjfhfbpfjpaaK64d55c
import Derived.Test.YtkpjjfhfbpfjpaaK33bc0a
set_option linter.unusedVariables false
set_option linter.unusedSimpArgs false
set_option maxRecDepth 100000
set_option maxHeartbeats 8000000
namespace Go.Proofs.Ytkpjjfhfbpfjpaa
section
variable {α:Type} {f:α→α→Int}
structure TPre (f:α→α→Int):Prop where
 flip:∀ a b,f a b<0↔0<f b a
 le_trans:∀ a b c,f a b≤0→f b c≤0→f a c≤0
theorem TPre.refl (h:TPre f) (a:α):f a a=0:=by have:=h.flip a a;omega
theorem TPre.sym (h:TPre f) {a b:α} (e:f a b=0):f b a=0:=by have:=h.flip a b;have:=h.flip b a;omega
theorem TPre.lt_le (h:TPre f) {a b c:α} (h1:f a b<0) (h2:f b c≤0):f a c<0:=by
 have h3:=h.flip a c;have h4:=h.flip c a;have h5:=h.flip a b;have h6:=h.le_trans b c a h2;omega
theorem TPre.le_lt (h:TPre f) {a b c:α} (h1:f a b≤0) (h2:f b c<0):f a c<0:=by
 have h3:=h.flip a c;have h4:=h.flip c a;have h5:=h.flip b c;have h6:=h.le_trans c a b;omega
theorem TPre.eq_trans (h:TPre f) {a b c:α} (h1:f a b=0) (h2:f b c=0):f a c=0:=by
 have h3:=h.le_trans a b c (by omega) (by omega);have h4:=h.le_trans c b a (by have:=h.sym h2;omega) (by have:=h.sym h1;omega);have h5:=h.flip a c;omega
def Std (f:α→α→Int) (l:List α):Prop:=l.Pairwise (fun a b=>f a b≤0)
def cls (f:α→α→Int) (x:α) (l:List α):List α:=l.filter (fun y=>decide (f x y=0))
def SameC (f:α→α→Int) (l r:List α):Prop:=∀ x,cls f x l=cls f x r
theorem Zcv (x:α) (l r:List α):cls f x (l++r)=cls f x l++cls f x r:=by simp [cls]
theorem SameC.refl (l:List α):SameC f l l:=fun _=>rfl
theorem SameC.symm {l r:List α} (h:SameC f l r):SameC f r l:=fun x=>(h x).symm
theorem SameC.trans {l r q:List α} (h:SameC f l r) (h':SameC f r q):SameC f l q:=fun x=>(h x).trans (h' x)
theorem SameC.app {l r l' r':List α} (h:SameC f l r) (h':SameC f l' r'):SameC f (l++l') (r++r'):=fun x=>by rw [Zcv,Zcv,h x,h' x]
theorem cls_self (h:TPre f) (x:α) (l:List α):cls f x (x :: l)=x :: cls f x l:=by simp [cls,h.refl]
theorem SameC.mem (h:TPre f) {l r:List α} (e:SameC f l r) {x:α} (hx:x ∈ l):x ∈ r:=by
 have h1:x ∈ cls f x l:=List.mem_filter.2 ⟨hx,by simp [h.refl]⟩;rw [e x] at h1;exact(List.mem_filter.1 h1).1
theorem Zhn (h:TPre f):∀ {p q:List α},Std f p→Std f q→SameC f p q→p=q
 | [],[],_,_,_=>rfl
 | [],b :: q,_,_,e=>by have:=e.symm.mem h (x:=b) (by simp);simp at this
 | a :: p,[],_,_,e=>by have:=e.mem h (x:=a) (by simp);simp at this
 | a :: p,b :: q,hp,hq,e=>by
  have h1:=List.pairwise_cons.1 hp;have h2:=List.pairwise_cons.1 hq
  have ab:f a b≤0:=by
   rcases List.mem_cons.1 (e.symm.mem h (x:=b) (by simp)) with rfl | hb
   · rw [h.refl];omega
   · exact h1.1 b hb
  have ba:f b a≤0:=by
   rcases List.mem_cons.1 (e.mem h (x:=a) (by simp)) with rfl | hb
   · rw [h.refl];omega
   · exact h2.1 a hb
  have e0:f a b=0:=(by have:=h.flip a b;have:=h.flip b a;omega);have e1:=e a;rw [cls_self h] at e1;have e2:cls f a (b :: q)=b :: cls f a q:=(by simp [cls,e0]);rw [e2] at e1;injection e1 with e3 e4;subst e3;refine congrArg (a :: ·) (Zhn h h1.2 h2.2 (fun x=>?_));have e5:=e x;unfold cls at e5 ⊢
  by_cases hx:f x a=0
  · simpa [hx] using e5
  · simpa [hx] using e5
theorem split_insG (h:TPre f) (x:α) {l:List α} (hl:Std f l):∃ P Q,l=P++Q∧(∀ y ∈ P,f y x≤0)∧(∀ y ∈ Q,f x y<0)∧ins f x l=P++x :: Q:=by
 have key:∀ {l:List α},Std f l→∃ P Q,l=P++Q∧(∀ y ∈ P,f y x≤0)∧(∀ y ∈ Q,f x y<0):=by
  intro l;induction l with
  | nil=>intro _;exact⟨[],[],rfl,by simp,by simp⟩
  | cons y l ih =>
   intro hl;obtain⟨h1,h2⟩:=List.pairwise_cons.1 hl
   by_cases hc:f y x≤0
   · obtain⟨P,Q,e,h3,h4⟩:=ih h2;refine⟨y :: P,Q,by rw [e];rfl,fun z hz=>?_,h4⟩;rcases List.mem_cons.1 hz with rfl | hz
     · exact hc
     · exact h3 z hz
   · have hc':f x y<0:=(h.flip x y).2 (by omega);refine⟨[],y :: l,rfl,by simp,fun z hz=>?_⟩;rcases List.mem_cons.1 hz with rfl | hz
     · exact hc'
     · exact h.lt_le hc' (h1 z hz)
 obtain⟨P,Q,rfl,h1,h2⟩:=key hl;refine⟨P,Q,rfl,h1,h2,ZfG _ _ _ _ h2 (fun y hy=>?_)⟩;have:=h1 y (List.mem_of_getLast? hy);have h3:=h.flip x y;omega
theorem std_ins (h:TPre f) (x:α) {l:List α} (hl:Std f l):Std f (ins f x l)∧SameC f (ins f x l) (l++[x]):=by
 obtain⟨P,Q,rfl,h1,h2,h3⟩:=split_insG h x hl;rw [h3];refine⟨?_,fun z=>?_⟩
 · unfold Std at *;rw [List.pairwise_append] at hl ⊢;refine⟨hl.1,List.pairwise_cons.2 ⟨fun y hy=>Int.le_of_lt (h2 y hy),hl.2.1⟩,fun y hy z hz=>?_⟩;rcases List.mem_cons.1 hz with rfl | hz
   · exact h1 y hy
   · exact hl.2.2 y hy z hz
 · by_cases hz:f z x=0
   · have hQ:cls f z Q=[]:=List.filter_eq_nil_iff.2 (fun y hy=>by
       have:=h.le_lt (a:=z) (by omega) (h2 y hy);simp;omega)
     have e1:cls f z (x :: Q)=x :: cls f z Q:=(by simp [cls,hz]);have e2:cls f z [x]=[x]:=(by simp [cls,hz]);rw [Zcv,Zcv,Zcv,e1,hQ,e2];simp
   · have e1:cls f z (x :: Q)=cls f z Q:=(by simp [cls,hz]);have e2:cls f z [x]=[]:=(by simp [cls,hz]);rw [Zcv,Zcv,Zcv,e1,e2];simp
theorem ZbP (h:TPre f) (l:List α):Std f (Zaq f l)∧SameC f (Zaq f l) l:=by
 have key:∀ (l p:List α),Std f p→Std f (l.foldl (fun p x=>ins f x p) p)∧SameC f (l.foldl (fun p x=>ins f x p) p) (p++l):=by
  intro l;induction l with
  | nil=>intro p hp;exact⟨hp,by simpa using SameC.refl _⟩
  | cons x l ih =>
   intro p hp;obtain⟨h1,h2⟩:=std_ins h x hp;obtain⟨h3,h4⟩:=ih _ h1;refine⟨h3,h4.trans ?_⟩;have:=h2.app (SameC.refl (f:=f) l);simpa using this
 have:=key l [] List.Pairwise.nil;simpa [Zaq] using this
theorem Zel (h:TPre f) {l r:List α} (h1:Std f r) (h2:SameC f r l):r=Zaq f l :=
 Zhn h h1 (ZbP h l).1 (h2.trans (ZbP h l).2.symm)
theorem Zbf (h:TPre f) {l:List α} (h1:Std f l):Zaq f l=l:=(Zel h h1 (SameC.refl _)).symm
theorem Std.left {l r:List α} (h:Std f (l++r)):Std f l:=(List.pairwise_append.1 h).1
theorem Std.right {l r:List α} (h:Std f (l++r)):Std f r:=(List.pairwise_append.1 h).2.1
theorem Std.cross {l r:List α} (h:Std f (l++r)):∀ a ∈ l,∀ b ∈ r,f a b≤0:=(List.pairwise_append.1 h).2.2
theorem same_swap (h:TPre f) {u' v:List α} (hlt:∀ a ∈ v,∀ b ∈ u',f a b<0):SameC f (u'++v) (v++u'):=fun x=>by
 rw [Zcv,Zcv]
 by_cases hu:cls f x u'=[]
 · rw [hu];simp
 · obtain⟨b,hb⟩:=List.exists_mem_of_ne_nil _ hu;obtain⟨hb1,hb2⟩:=List.mem_filter.1 hb
   have hv:cls f x v=[]:=List.filter_eq_nil_iff.2 (fun a ha=>by
    have h1:=hlt a ha b hb1;have h2:f x b=0:=(by simpa using hb2);simp only [decide_eq_true_eq];intro h3;have:=h.lt_le (a:=a) h1 (c:=x) (by have:=h.sym h2;omega);have:=h.sym h3;omega)
   rw [hv];simp
theorem ZfX (h:TPre f) {u u' v v':List α} (h1:Std f (u++u')) (h2:Std f (v++v')) (h3:∀ a ∈ u,∀ b ∈ v',f a b≤0) (h4:∀ a ∈ v,∀ b ∈ u',f a b<0) :
  Zaq f (u++u'++(v++v'))=Zaq f (u++v)++Zaq f (u'++v'):=by
 refine(Zel h ?_ ?_).symm
 · refine List.pairwise_append.2 ⟨(ZbP h _).1,(ZbP h _).1,fun a ha b hb=>?_⟩;rw [ZeV,List.mem_append] at ha hb;rcases ha with ha | ha<;>rcases hb with hb | hb
   · exact h1.cross a ha b hb
   · exact h3 a ha b hb
   · exact Int.le_of_lt (h4 a ha b hb)
   · exact h2.cross a ha b hb
 · refine((ZbP h _).2.app (ZbP h _).2).trans ?_;have e1:u++v++(u'++v')=u++((v++u')++v'):=(by simp);have e2:u++u'++(v++v')=u++((u'++v)++v'):=(by simp);rw [e1,e2];exact(SameC.refl u).app ((same_swap h h4).symm.app (SameC.refl v'))
end
section
variable {α:Type} {f:α→α→Int} {d:α}
def sw (d:α) (i j:Nat) (l:List α):List α:=(l.set i (l.getD j d)).set j (l.getD i d)
theorem sw_len (i j:Nat) (l:List α):(sw d i j l).length=l.length:=by simp [sw]
def ZeE (d:α):Nat→Nat→Nat→List α→List α
 | _,_,0,l=>l
 | a,b,n+1,l=>ZeE d (a+1) (b+1) n (sw d a b l)
theorem Zhl (p r q:List α) (x y:α):sw d p.length (p.length+1+r.length) (p++x :: (r++y :: q))=p++y :: (r++x :: q):=by
 unfold sw;have e1:(p++x :: (r++y :: q)).getD p.length d=x:=(by simp [List.getD])
 have e2:(p++x :: (r++y :: q)).getD (p.length+1+r.length) d=y:=by
  rw [List.getD_eq_getElem?_getD,List.getElem?_append_right (by omega),show p.length+1+r.length - p.length=r.length+1 by omega,List.getElem?_cons_succ,List.getElem?_append_right nR];simp
 rw [e1,e2,List.set_append_right _ _ nR,Nat.sub_self,List.set_cons_zero,List.set_append_right _ _ (by omega),show p.length+1+r.length - p.length=r.length+1 by omega,List.set_cons_succ,List.set_append_right _ _ nR,Nat.sub_self,List.set_cons_zero]
theorem ZdE:∀ (u v p m q:List α) (a b n:Nat),u.length=v.length→p.length=a→a+u.length+m.length=b→u.length=n→ZeE d a b n (p++u++m++v++q)=p++v++m++u++q
 | [],v,p,m,q,a,b,n,h,ha,hb,hn=>by
  have hv:v=[]:=List.length_eq_zero_iff.1 (by simpa using h.symm);subst hn hv;rfl
 | x :: u,[],p,m,q,a,b,n,h,ha,hb,hn=>by simp at h
 | x :: u,y :: v,p,m,q,a,b,n,h,ha,hb,hn=>by
  subst ha hb;rw [List.length_cons] at hn;subst hn
  have e1:sw d p.length (p.length+(x :: u).length+m.length) (p++(x :: u)++m++(y :: v)++q)=(p++[y])++u++(m++[x])++v++q:=by
   have:=Zhl (d:=d) p (u++m) (v++q) x y;rw [List.length_append,show p.length+1+(u.length+m.length)=p.length+(x :: u).length+m.length by simp;omega] at this;simpa using this
  show ZeE d (p.length+1) (p.length+(x :: u).length+m.length+1) u.length _=_;rw [e1,ZdE u v (p++[y]) (m++[x]) q (p.length+1) _ u.length (by simpa using h) (by simp) (by simp;omega) rfl];simp
theorem ZeH (D:Nat→Prop) (lo:Nat):∀ (k:Nat),(∀ c c',lo≤c→c≤c'→c'<lo+k→D c'→D c)→∃ p,lo≤p∧p≤lo+k∧∀ c,lo≤c→c<lo+k→(D c↔c<p)
 | 0,_=>⟨lo,by omega,by omega,fun c h1 h2=>by omega⟩
 | k+1,hm=>by
  by_cases hd:D (lo+k)
  · exact⟨lo+k+1,by omega,by omega,fun c h1 h2=>⟨fun _=>by omega,fun _=>hm c (lo+k) h1 (by omega) (by omega) hd⟩⟩
  · obtain⟨p,h1,h2,h3⟩:=ZeH D lo k (fun c c' a b e=>hm c c' a b (by omega));refine⟨p,h1,by omega,fun c h4 h5=>?_⟩;rcases Nat.lt_or_ge c (lo+k) with h6 | h6
    · exact h3 c h4 h6
    · have e:c=lo+k:=(by omega);subst e;exact⟨fun h=>absurd h hd,fun h=>by omega⟩
theorem Zcq (h:TPre f) {l:List α} (hs:Std f l) {i j:Nat} (hij:i≤j) (hj:j<l.length):f (l.getD i d) (l.getD j d)≤0:=by
 rcases Nat.lt_or_ge i j with hlt | hge
 · have:=List.pairwise_iff_getElem.1 hs i j (by omega) hj hlt;simpa [List.getD,hj,show i<l.length by omega] using this
 · have e:i=j:=(by omega);subst e;rw [h.refl];omega
theorem ZcJ {l:List α} {k:Nat} {a:α} (h:a ∈ l.take k):∃ i,i<k∧i<l.length∧a=l.getD i d:=by
 obtain⟨i,hi,e⟩:=List.getElem_of_mem h;rw [List.length_take] at hi;rw [List.getElem_take] at e;exact⟨i,by omega,by omega,by rw [←e];simp [List.getD,show i<l.length by omega]⟩
theorem ZcK {l:List α} {k:Nat} {a:α} (h:a ∈ l.drop k):∃ i,k≤i∧i<l.length∧a=l.getD i d:=by
 obtain⟨i,hi,e⟩:=List.getElem_of_mem h;rw [List.length_drop] at hi;rw [List.getElem_drop] at e;exact⟨k+i,by omega,by omega,by rw [←e];simp [List.getD,show k+i<l.length by omega]⟩
theorem ZdF {l:List α} (h:Std f l) (k:Nat):Std f (l.take k):=by
 have h':Std f (l.take k++l.drop k):=(by rw [List.take_append_drop];exact h);exact h'.left
theorem ZeG {l:List α} (h:Std f l) (k:Nat):Std f (l.drop k):=by
 have h':Std f (l.take k++l.drop k):=(by rw [List.take_append_drop];exact h);exact h'.right
theorem merge1 (h:TPre f) {x:α} {y:List α} (hy:Std f y):∃ k,k≤y.length∧(∀ j,j<y.length→(f (y.getD j d) x<0↔j<k))∧Zaq f (x :: y)=y.take k++x :: y.drop k:=by
 obtain⟨k,-,h2,h3⟩:=ZeH (fun j=>f (y.getD j d) x<0) 0 y.length (fun c c' _ hc h1 hd=>by
  exact h.le_lt (Zcq h hy hc (by omega)) hd)
 have h3':∀ j,j<y.length→(f (y.getD j d) x<0↔j<k):=fun j hj=>h3 j (by omega) (by omega);refine⟨k,by omega,h3',?_⟩
 have e:=ZfX h (u:=[]) (u':=[x]) (v:=y.take k) (v':=y.drop k) (List.pairwise_cons.2 ⟨fun _ h=>by simp at h,List.Pairwise.nil⟩) (by rw [List.take_append_drop];exact hy) (fun a ha=>by simp at ha) (fun a ha b hb=>by
  simp only [List.mem_singleton] at hb;subst hb;obtain⟨i,h4,h5,rfl⟩:=ZcJ (d:=d) ha;exact(h3' i h5).2 h4)
 rw [List.take_append_drop,List.nil_append,List.nil_append] at e;rw [show x :: y=[x]++y from rfl,e,Zbf h (ZdF hy k),Zbf h (l:=[x]++y.drop k)]
 · rfl
 · refine List.pairwise_cons.2 ⟨fun z hz=>?_,ZeG hy k⟩;obtain⟨i,h4,h5,rfl⟩:=ZcK (d:=d) (by simpa using hz);have h6:=(h3' i h5).1;have h7:=h.flip (y.getD i d) x;have h8:=h.flip x (y.getD i d);omega
theorem merge2 (h:TPre f) {x:List α} {y:α} (hx:Std f x):∃ k,k≤x.length∧(∀ j,j<x.length→(¬ f y (x.getD j d)<0↔j<k))∧Zaq f (x++[y])=x.take k++y :: x.drop k:=by
 obtain⟨k,-,h2,h3⟩:=ZeH (fun j=>¬ f y (x.getD j d)<0) 0 x.length (fun c c' _ hc h1 hd hl=>hd (h.lt_le hl (Zcq h hx hc (by omega))));have h3':∀ j,j<x.length→(¬ f y (x.getD j d)<0↔j<k):=fun j hj=>h3 j (by omega) (by omega);refine⟨k,by omega,h3',?_⟩
 have e:=ZfX h (u:=x.take k) (u':=x.drop k) (v:=[y]) (v':=[]) (by rw [List.take_append_drop];exact hx) (List.pairwise_cons.2 ⟨fun _ h=>by simp at h,List.Pairwise.nil⟩) (fun a _ b hb=>by simp at hb) (fun a ha b hb=>by
  simp only [List.mem_singleton] at ha;subst ha;obtain⟨i,h4,h5,rfl⟩:=ZcK (d:=d) hb;exact Classical.byContradiction fun hn=>by have:=(h3' i h5).1 hn;omega)
 rw [List.take_append_drop,List.append_nil,List.append_nil] at e;rw [e,Zbf h (ZeG hx k),Zbf h (l:=x.take k++[y])]
 · simp
 · refine List.pairwise_append.2 ⟨ZdF hx k,List.pairwise_cons.2 ⟨fun _ h=>by simp at h,List.Pairwise.nil⟩,fun a ha b hb=>?_⟩;simp only [List.mem_singleton] at hb;subst hb;obtain⟨i,h4,h5,rfl⟩:=ZcJ (d:=d) ha;have h6:=(h3' i h5).2 h4;have h7:=h.flip (x.getD i d) b;have h8:=h.flip b (x.getD i d);omega
theorem Zhz (P x y Q:List α) {na c:Nat} (hP:P.length=na) (h1:na≤c) (h2:c<na+x.length):(P++x++y++Q).getD c d=x.getD (c - na) d:=by
 subst hP;simp only [List.getD_eq_getElem?_getD];rw [List.append_assoc,List.append_assoc,List.getElem?_append_right h1,List.getElem?_append_left (by omega)]
theorem Zhy (P x y Q:List α) {na nm c:Nat} (hP:P.length=na) (hm:na+x.length=nm) (h1:nm≤c) (h2:c<nm+y.length):(P++x++y++Q).getD c d=y.getD (c - nm) d:=by
 subst hP hm;simp only [List.getD_eq_getElem?_getD];rw [List.append_assoc,List.append_assoc,List.getElem?_append_right (by omega),List.getElem?_append_right (by omega),List.getElem?_append_left (by omega),show c - P.length - x.length=c - (P.length+x.length) by omega]
theorem merge3 (h:TPre f) {P x y Q:List α} (hx:Std f x) (hy:Std f y) {na nm nb mid n lo hi:Nat} (hP:P.length=na) (hm:na+x.length=nm) (hb:nm+y.length=nb) (hmid:(na+nb) / 2=mid) (hn:mid+nm=n)
  (hlo:lo=if mid<nm then n - nb else na) (hhi:hi=if mid<nm then mid else nm) :
  ∃ p,lo≤p∧p≤hi∧(∀ c,lo≤c→c<hi→(¬ f ((P++x++y++Q).getD (n - 1 - c) d) ((P++x++y++Q).getD c d)<0↔c<p))∧na≤p∧p≤nm∧nm≤n - p∧n - p≤nb∧p≤n ∧
   Zaq f (x++y)=Zaq f (x.take (p - na)++y.take (n - p - nm))++Zaq f (x.drop (p - na)++y.drop (n - p - nm)):=by
 have hr:na≤lo∧hi≤nm∧lo≤hi∧(∀ c,lo≤c→c<hi→nm≤n - 1 - c∧n - 1 - c<nb∧c<n)∧(lo=na∨n - lo=nb)∧(hi=nm∨n - hi=nm)∧nm≤n - hi∧n - lo≤nb∧hi≤n:=by
  by_cases hc:mid<nm
  · rw [if_pos hc] at hlo hhi;refine⟨by omega,by omega,by omega,fun c h1 h2=>⟨by omega,by omega,by omega⟩,.inr (by omega),.inr (by omega),by omega,by omega,by omega⟩
  · rw [if_neg hc] at hlo hhi;refine⟨by omega,by omega,by omega,fun c h1 h2=>⟨by omega,by omega,by omega⟩,.inl (by omega),.inl (by omega),by omega,by omega,by omega⟩
 clear hlo hhi;obtain⟨r1,r2,r3,r4,r5,r6,r7,r8,r9⟩:=hr;have hX:∀ c,lo≤c→c<hi→(P++x++y++Q).getD c d=x.getD (c - na) d:=fun c h1 h2=>Zhz P x y Q hP (by omega) (by omega);have hY:∀ c,lo≤c→c<hi→(P++x++y++Q).getD (n - 1 - c) d=y.getD (n - 1 - c - nm) d:=fun c h1 h2=>Zhy P x y Q hP hm (r4 c h1 h2).1 (by have:=(r4 c h1 h2).2;omega)
 obtain⟨p,h1,h2,h3⟩:=ZeH (fun c=>¬ f ((P++x++y++Q).getD (n - 1 - c) d) ((P++x++y++Q).getD c d)<0) lo (hi - lo) (fun c c' hc hcc hc' hd=>by
  have k1:=r4 c hc (by omega);have k2:=r4 c' (by omega) (by omega);rw [hX c' (by omega) (by omega),hY c' (by omega) (by omega)] at hd;rw [hX c hc (by omega),hY c hc (by omega)];have e1:=Zcq (d:=d) h hx (show c - na≤c' - na by omega) (by omega);have e2:=Zcq (d:=d) h hy (show n - 1 - c' - nm≤n - 1 - c - nm by omega) (by omega);have e3:=h.flip (y.getD (n - 1 - c' - nm) d) (x.getD (c' - na) d);have e3':=h.flip (x.getD (c' - na) d) (y.getD (n - 1 - c' - nm) d);have e4:=h.le_trans _ _ _ (h.le_trans _ _ _ e1 (show f (x.getD (c' - na) d) (y.getD (n - 1 - c' - nm) d)≤0 by omega)) e2;have e5:=h.flip (y.getD (n - 1 - c - nm) d) (x.getD (c - na) d);omega)
 refine⟨p,h1,by omega,fun c a b=>h3 c a (by omega),by omega,by omega,by omega,by omega,by omega,?_⟩;have hxs:x.take (p - na)++x.drop (p - na)=x:=List.take_append_drop _ _;have hys:y.take (n - p - nm)++y.drop (n - p - nm)=y:=List.take_append_drop _ _
 have e:=ZfX h (u:=x.take (p - na)) (u':=x.drop (p - na)) (v:=y.take (n - p - nm)) (v':=y.drop (n - p - nm)) (by rw [hxs];exact hx) (by rw [hys];exact hy) (fun a ha b hb=>by
  obtain⟨i,i1,i2,rfl⟩:=ZcJ (d:=d) ha;obtain⟨j,j1,j2,rfl⟩:=ZcK (d:=d) hb
  have hlp:lo<p:=by
   rcases r5 with e | e<;>omega
  have k1:=r4 (p - 1) (by omega) (by omega);have hd:=(h3 (p - 1) (by omega) (by omega)).2 (by omega);rw [hX (p - 1) (by omega) (by omega),hY (p - 1) (by omega) (by omega)] at hd;have e1:=Zcq (d:=d) h hx (show i≤p - 1 - na by omega) (by omega);have e2:=Zcq (d:=d) h hy (show n - 1 - (p - 1) - nm≤j by omega) j2;have e3':=h.flip (x.getD (p - 1 - na) d) (y.getD (n - 1 - (p - 1) - nm) d);have e4:=h.flip (y.getD (n - 1 - (p - 1) - nm) d) (x.getD (p - 1 - na) d);exact h.le_trans _ _ _ (h.le_trans _ _ _ e1 (by omega)) e2) (fun a ha b hb=>by
  obtain⟨j,j1,j2,rfl⟩:=ZcJ (d:=d) ha;obtain⟨i,i1,i2,rfl⟩:=ZcK (d:=d) hb
  have hlp:p<hi:=by
   rcases r6 with e | e<;>omega
  have k1:=r4 p (by omega) hlp;have hd:f ((P++x++y++Q).getD (n - 1 - p) d) ((P++x++y++Q).getD p d)<0:=(Classical.byContradiction fun hn=>by have:=(h3 p (by omega) (by omega)).1 hn;omega);rw [hX p (by omega) hlp,hY p (by omega) hlp] at hd;have e1:=Zcq (d:=d) h hy (show j≤n - 1 - p - nm by omega) (by omega);have e2:=Zcq (d:=d) h hx (show p - na≤i by omega) i2;exact h.lt_le (h.le_lt e1 hd) e2)
 rw [hxs,hys] at e;exact e
end
open Go.RowKit
section
variable {w:World} {base n c g:Nat} {S:Nat→Prop}
theorem vals_chgE {ch:Chg} {vs:List Value} (h:Dat.Vals w S (Zal ch) vs):∃ A1 c1 A2 c2,vs=[.int .i64 ch.table,.slice A1 ch.old.length c1,.slice A2 ch.new.length c2]∧ChV w S ch A1 c1 A2 c2:=by
 unfold Zal Dat.Vals Dat.ValsAll at h;obtain⟨a,r,rfl,h1,h2⟩:=h;unfold Dat.Vals at h1;obtain⟨rfl,-⟩:=h1;unfold Dat.ValsAll at h2;obtain⟨a2,r2,rfl,h3,h4⟩:=h2;unfold Dat.ValsAll at h4;obtain⟨a3,r3,rfl,h5,h6⟩:=h4;unfold Dat.ValsAll at h6;subst h6;unfold ZaJ Dat.Vals at h3 h5;obtain⟨A1,c1,rfl,l1,s1⟩:=h3;obtain⟨A2,c2,rfl,l2,s2⟩:=h5;rw [List.length_map] at l1 l2;exact⟨A1,c1,A2,c2,by simp,s1,l1,s2,l2⟩
theorem vals_chgI {ch:Chg} {A1 A2:Option Addr} {c1 c2:Nat} (h:ChV w S ch A1 c1 A2 c2):Dat.Vals w S (Zal ch) [.int .i64 ch.table,.slice A1 ch.old.length c1,.slice A2 ch.new.length c2]:=by
 unfold Zal Dat.Vals Dat.ValsAll;refine⟨[.int .i64 ch.table],[.slice A1 ch.old.length c1,.slice A2 ch.new.length c2],rfl,by unfold Dat.Vals;exact⟨rfl,trivial⟩,?_⟩;unfold Dat.ValsAll;refine⟨[.slice A1 ch.old.length c1],[.slice A2 ch.new.length c2],rfl,by unfold ZaJ Dat.Vals;exact⟨A1,c1,by simp,by simpa using h.l1,h.r1⟩,?_⟩;unfold Dat.ValsAll;exact⟨[.slice A2 ch.new.length c2],[],rfl,by unfold ZaJ Dat.Vals;exact⟨A2,c2,by simp,by simpa using h.l2,h.r2⟩,by unfold Dat.ValsAll;rfl⟩
theorem Zgr {l:List Chg} {i:Nat} (h:i<l.length):l=l.take i++l.getD i chg0 :: l.drop (i+1):=by
 have h1:l.getD i chg0=l[i]:=(by simp [List.getD,h]);rw [h1,←List.drop_eq_getElem_cons h,List.take_append_drop]
theorem set_one {l:List Chg} {i:Nat} (h:i<l.length) (y:Chg):l.set i y=l.take i++y :: l.drop (i+1):=by
 rw [List.set_eq_take_append_cons_drop,if_pos h]
theorem OwnD.some_ {A:Option Addr} {l:List Chg} (h:OwnD w base 53 3 S (.slice A n c) (l.map Zal)) (hl:0<l.length):∃ g,A=some ⟨g,0,none⟩:=by
 obtain⟨vals,h1,_⟩:=h;obtain⟨g,cap,e,_⟩:=h1.form (by simpa using hl);injection e with e;exact⟨g,e⟩
theorem OwnD.el {l:List Chg} {i:Nat} (h:OwnD w base 53 3 S (.slice (some ⟨g,0,none⟩) n c) (l.map Zal)) (hi:i<l.length):∃ A1 c1 A2 c2,w.cell? ⟨g,i*3,none⟩=some (.int .i64 (l.getD i chg0).table)∧w.cell? ⟨g,i*3+1,none⟩=some (.slice A1 (l.getD i chg0).old.length c1)∧w.cell? ⟨g,i*3+2,none⟩=some (.slice A2 (l.getD i chg0).new.length c2)∧ChV w S (l.getD i chg0) A1 c1 A2 c2∧g<w.heap.size∧∀ z,w.frozen? ⟨g,z,none⟩=false:=by
 obtain⟨vals,h1,h2,h3⟩:=h;have hgl:g<w.heap.size:=ZaE h1 rfl
 have hn:l.length=n:=by
  rcases h1.2 with ⟨e,_⟩ | ⟨g',cap,cur,e,_⟩
  · injection e with e;cases e
  · injection e with _ e _;simpa using e.symm
 rw [List.length_map,hn] at h1;rw [Zgr hi,List.map_append,List.map_cons] at h2;obtain⟨vp,v',e1,h4,h5⟩:=ZbM h2;unfold Dat.ValsAll at h5;obtain⟨va,v'',e2,h6,h7⟩:=h5;obtain⟨A1,c1,A2,c2,e3,hcv⟩:=vals_chgE h6;subst e3 e2 e1;have hpl:vp.length=i*3:=(by rw [Dat.ValsAll.len _ _ h4,ZaZ ZaL,List.length_take,Nat.min_eq_left (by omega)])
 have hc:∀ j,j<3→w.cell? ⟨g,i*3+j,none⟩=([Value.int .i64 (l.getD i chg0).table,.slice A1 (l.getD i chg0).old.length c1,.slice A2 (l.getD i chg0).new.length c2]++v'')[j]?:=fun j hj=>by
  rw [h1.cellAt _ (by omega),List.getElem?_append_right (by omega),hpl,Nat.add_sub_cancel_left]
 exact⟨A1,c1,A2,c2,hc 0 (by omega),hc 1 (by omega),hc 2 (by omega),hcv,hgl,fun z=>h1.frozenAt z⟩
theorem OwnD.put {l:List Chg} {i:Nat} {y:Chg} {A1 A2:Option Addr} {c1 c2:Nat} (h:OwnD w base 53 3 S (.slice (some ⟨g,0,none⟩) n c) (l.map Zal)) (hi:i<l.length) (hy:ChV w S y A1 c1 A2 c2) :
  OwnD (((w.setCell ⟨g,i*3,none⟩ (.int .i64 y.table)).setCell ⟨g,i*3+1,none⟩ (.slice A1 y.old.length c1)).setCell ⟨g,i*3+2,none⟩ (.slice A2 y.new.length c2)) base 53 3 S (.slice (some ⟨g,0,none⟩) n c) ((l.set i y).map Zal):=by
 obtain⟨vals,h1,h2,h3⟩:=h
 have hn:l.length=n:=by
  rcases h1.2 with ⟨e,_⟩ | ⟨g',cap,cur,e,_⟩
  · injection e with e;cases e
  · injection e with _ e _;simpa using e.symm
 rw [List.length_map,hn] at h1;have hst:=(((h1.stored (i*3) (.int .i64 y.table)).1.stored (i*3+1) (.slice A1 y.old.length c1)).1.stored (i*3+2) (.slice A2 y.new.length c2)).1
 have hk:Same S w (((w.setCell ⟨g,i*3,none⟩ (.int .i64 y.table)).setCell ⟨g,i*3+1,none⟩ (.slice A1 y.old.length c1)).setCell ⟨g,i*3+2,none⟩ (.slice A2 y.new.length c2)):=fun b hb=>by
  have hne:b≠g:=fun e=>(h3 b hb).2 (by subst e;rfl)
  iterate 3 rw [Below.heap_setCell _ _ _ b hne]
 rw [Zgr hi,List.map_append,List.map_cons] at h2;obtain⟨vp,v',e1,h4,h5⟩:=ZbM h2;unfold Dat.ValsAll at h5;obtain⟨va,v'',e2,h6,h7⟩:=h5;obtain⟨z0,z1,z2,e3⟩:=vals3 h6;subst e3 e2 e1;have hpl:vp.length=i*3:=(by rw [Dat.ValsAll.len _ _ h4,ZaZ ZaL,List.length_take,Nat.min_eq_left (by omega)]);rw [←hpl] at hst;simp only [List.cons_append,List.nil_append] at hst;rw [List.set_append_right _ _ nR,Nat.sub_self,List.set_cons_zero,List.set_append_right _ _ (by omega),show vp.length+1 - vp.length=0+1 by omega,List.set_cons_succ,List.set_cons_zero,List.set_append_right _ _ (by omega),show vp.length+2 - vp.length=0+1+1 by omega,List.set_cons_succ,List.set_cons_succ,List.set_cons_zero] at hst;rw [hpl] at hst;refine⟨_,by rw [List.length_map,List.length_set,hn];exact hst,?_,fun b hb=>⟨by simpa using (h3 b hb).1,(h3 b hb).2⟩⟩;rw [set_one hi,List.map_append,List.map_cons];refine Zav (Dat.ValsAll.keep hk _ _ h4) ?_;unfold Dat.ValsAll;exact⟨[.int .i64 y.table,.slice A1 y.old.length c1,.slice A2 y.new.length c2],v'',rfl,Dat.Vals.keep hk _ _ (vals_chgI hy),Dat.ValsAll.keep hk _ _ h7⟩
theorem ChV.keep_ {w w':World} {S:Nat→Prop} {ch:Chg} {A1 A2:Option Addr} {c1 c2:Nat} (h:ChV w S ch A1 c1 A2 c2) (hk:Same S w w'):ChV w' S ch A1 c1 A2 c2:=⟨h.r1.keep hk,h.l1,h.r2.keep hk,h.l2⟩
theorem OwnD.swap2 {l:List Chg} {i j:Nat} {x y:Chg} {A1 A2 B1 B2:Option Addr} {c1 c2 d1 d2:Nat} (h:OwnD w base 53 3 S (.slice (some ⟨g,0,none⟩) n c) (l.map Zal)) (hi:i<l.length) (hj:j<l.length) (ex:l.getD i chg0=x) (ey:l.getD j chg0=y)
  (hx:ChV w S x A1 c1 A2 c2) (hy:ChV w S y B1 d1 B2 d2) :
  OwnD ((((((w.setCell ⟨g,i*3,none⟩ (.int .i64 y.table)).setCell ⟨g,i*3+1,none⟩ (.slice B1 y.old.length d1)).setCell ⟨g,i*3+2,none⟩ (.slice B2 y.new.length d2)).setCell ⟨g,j*3,none⟩ (.int .i64 x.table)).setCell ⟨g,j*3+1,none⟩ (.slice A1 x.old.length c1)).setCell ⟨g,j*3+2,none⟩ (.slice A2 x.new.length c2)) base 53 3 S (.slice (some ⟨g,0,none⟩) n c) ((sw chg0 i j l).map Zal):=by
 have hS:∀ b,S b→b≠g:=fun b hb e=>by
  obtain⟨_,_,_,h3⟩:=h;exact(h3 b hb).2 (by subst e;rfl)
 unfold sw;rw [ex,ey];refine OwnD.put (OwnD.put h hi hy) (by rw [List.length_set];exact hj) (hx.keep_ (fun b hb=>?_))
 iterate 3 rw [Below.heap_setCell _ _ _ b (hS b hb)]
end
theorem ZhB {X:Nat→Prop} {w w':World} (h:Fr X w w') {g:Nat} (hg:X g) (i j:Nat) (a0 a1 a2 b0 b1 b2:Value):Fr X w ((((((w'.setCell ⟨g,i*3,none⟩ a0).setCell ⟨g,i*3+1,none⟩ a1).setCell ⟨g,i*3+2,none⟩ a2).setCell ⟨g,j*3,none⟩ b0).setCell ⟨g,j*3+1,none⟩ b1).setCell ⟨g,j*3+2,none⟩ b2) :=
 (((((h.setCell _ (fun _=>hg)).setCell _ (fun _=>hg)).setCell _ (fun _=>hg)).setCell _ (fun _=>hg)).setCell _ (fun _=>hg)).setCell _ (fun _=>hg)
theorem ZcG (F:Value) (A:Option Addr) (c N:Nat) (l:List Chg) (base:Nat) (S:Nat→Prop) (w:World) (a b n:Nat) (hN:l.length=N) (ho:OwnD w base 53 3 S (.slice A N c) (l.map Zal)) (hab:a+n≤b) (hb:b+n≤N) (hl:N≤1000) :
  Calls Try.prog 144 #[.slice A N c,.int .i64 a,.int .i64 b,.int .i64 n,F] w (Zbw base S (.slice A N c) (ZeE chg0 a b n l) w):=by
 have HO:=hI ho;have HN:=hI hN;clear ho hN;go_enter Try.func144,Try.ntmps144
 go_wp2_with fail
 go_loopw [10] (fun i wr=>∃ k:Nat,k≤n∧i=.int .i64 k∧∃ L:List Chg,L.length=N∧ZeE chg0 (a+k) (b+k) (n - k) L=ZeE chg0 a b n l∧OwnD wr base 53 3 S (.slice A N c) (L.map Zal)∧Fr (fun b=>some b=(Value.slice A N c).ownBlock) w wr) (fun i _=>n - (intOf i).toNat)
 case atStart=>exact⟨0,Nat.zero_le _,rfl,l,HN.out,rfl,HO.out,Fr.refl _ _⟩
 case round =>
  obtain⟨k,hk,rfl,L,hLl,hsw,hown,hfr⟩:=hrel;have HLL:=hI hLl;have HSW:=hI hsw;have HOW:=hI hown;have HFR:=hI hfr;clear hLl hsw hown hfr HO HN
  by_cases hkn:k<n
  · have hdk:decide ((k:Int)<(n:Int))=true:=decide_eq_true (by omega);obtain⟨x,hx⟩:∃ x,a+k=x:=⟨_,rfl⟩;obtain⟨y,hy⟩:∃ y,b+k=y:=⟨_,rfl⟩;have hxN:x<N:=(by omega);have hyN:y<N:=(by omega);have hxy:x<y:=(by omega);have q1:IntKind.i64.wrap ((a:Int)+(k:Int))=x:=(by rw [show (a:Int)+(k:Int)=(x:Int) by omega];exact IntWalk.i64_in _ (by omega));have q2:IntKind.i64.wrap ((b:Int)+(k:Int))=y:=(by rw [show (b:Int)+(k:Int)=(y:Int) by omega];exact IntWalk.i64_in _ (by omega));have q3:(0:Int)≤(x:Int):=(by omega);have q4:(x:Int)<(N:Int):=(by omega);have q5:(0:Int)≤(y:Int):=(by omega);have q6:(y:Int)<(N:Int):=(by omega);obtain⟨g,rfl⟩:=OwnD.some_ HOW.out (by rw [HLL.out];omega);obtain⟨A1,c1,A2,c2,d0,d1,d2,hX,hgl,hfz⟩:=OwnD.el HOW.out (i:=x) (by rw [HLL.out];exact hxN);obtain⟨B1,e1,B2,e2,f0,f1,f2,hY,-,-⟩:=OwnD.el HOW.out (i:=y) (by rw [HLL.out];exact hyN);obtain⟨X,eX⟩:∃ X,L.getD x chg0=X:=⟨_,rfl⟩;obtain⟨Y,eY⟩:∃ Y,L.getD y chg0=Y:=⟨_,rfl⟩;rw [eX] at d0 d1 d2 hX;rw [eY] at f0 f1 f2 hY;have HSP:=hI (OwnD.swap2 HOW.out (by rw [HLL.out];exact hxN) (by rw [HLL.out];exact hyN) eX eY hX hY);have HF6:=hI (ZhB HFR.out (g:=g) rfl x y (.int .i64 Y.table) (.slice B1 Y.old.length e1) (.slice B2 Y.new.length e2) (.int .i64 X.table) (.slice A1 X.old.length c1) (.slice A2 X.new.length c2))
    have HNX:=hI (show ZeE chg0 (a+(k+1)) (b+(k+1)) (n - (k+1)) (sw chg0 x y L)=ZeE chg0 a b n l by
     rw [←HSW.out,show n - k=(n - (k+1))+1 by omega,←hx,←hy];rfl)
    have hz0:=hfz (x*3);have hz1:=hfz (x*3+1);have hz2:=hfz (x*3+2);have hz3:=hfz (y*3);have hz4:=hfz (y*3+1);have hz5:=hfz (y*3+2);have HLL2:=hI (show (sw chg0 x y L).length=N by rw [sw_len];exact HLL.out);clear hX hY hfz hx hy eX eY HSW HOW HFR HLL hxN hyN;obtain⟨tx,ox,nx⟩:=X;obtain⟨ty,oy,ny⟩:=Y;simp only at d0 d1 d2 f0 f1 f2
    go_wp2_with fail
    have n00:y*3≠x*3:=by omega
    go_region
    go_wp2_with fail
    go_roundw
    case rel=>exact⟨k+1,by omega,by go_num,_,HLL2.out,HNX.out,OwnD.drew HSP.out,Fr.drew HF6.out⟩
    case measure=>(simp [intOf];omega)
  · have hdk:decide ((k:Int)<(n:Int))=false:=decide_eq_false (by omega);have HE:=hI (show ZeE chg0 a b n l=L by rw [←HSW.out,show n - k=0 by omega];rfl)
    go_wp2_with fail
    go_end0
    exact⟨⟨_,rfl⟩,by rw [HE.out];exact HOW.out,HFR.out⟩
theorem rotate_any (F:Value) (A:Option Addr) (c N:Nat) (base:Nat) (S:Nat→Prop) (w:World) (P u v Q:List Chg) (na nm nb:Nat) (hP:P.length=na) (hm:na+u.length=nm) (hb:nm+v.length=nb) (hu:0<u.length) (hv:0<v.length) (hN:(P++u++v++Q).length=N) (ho:OwnD w base 53 3 S (.slice A N c) ((P++u++v++Q).map Zal)) (hl:N≤1000) :
  Calls Try.prog 140 #[.slice A N c,.int .i64 na,.int .i64 nm,.int .i64 nb,F] w (Zbw base S (.slice A N c) (P++v++u++Q) w):=by
 have HO:=hI ho;have HN:=hI hN;have hNl:nb≤N:=(by rw [←hN];simp;omega);obtain⟨nu,hnu⟩:∃ nu,u.length=nu:=⟨_,rfl⟩;obtain⟨nv,hnv⟩:∃ nv,v.length=nv:=⟨_,rfl⟩;have HNU:=hI hnu;have HNV:=hI hnv;have HP:=hI hP;rw [hnu] at hm hu;rw [hnv] at hb hv;clear ho hN hnu hnv hP;have q1:IntKind.i64.wrap ((nm:Int) - (na:Int))=nu:=(by rw [show (nm:Int) - (na:Int)=(nu:Int) by omega];exact IntWalk.i64_in _ (by omega));have q2:IntKind.i64.wrap ((nb:Int) - (nm:Int))=nv:=(by rw [show (nb:Int) - (nm:Int)=(nv:Int) by omega];exact IntWalk.i64_in _ (by omega));go_enter Try.func140,Try.ntmps140
 go_wp2_with fail
 clear q1 q2
 go_loopw [10,11] (fun i j wr=>∃ (ni nj:Nat) (p x y q:List Chg),i=.int .i64 ni∧j=.int .i64 nj∧x.length=ni∧y.length=nj∧0<ni∧0<nj∧p.length+ni=nm∧nm+nj≤N∧p++y++x++q=P++v++u++Q∧(p++x++y++q).length=N∧OwnD wr base 53 3 S (.slice A N c) ((p++x++y++q).map Zal)∧Fr (fun b=>some b=(Value.slice A N c).ownBlock) w wr) (fun i j _=>(intOf i).toNat+(intOf j).toNat)
 case atStart=>exact⟨nu,nv,P,u,v,Q,rfl,rfl,HNU.out,HNV.out,hu,hv,by rw [HP.out];omega,by omega,rfl,HN.out,HO.out,Fr.refl _ _⟩
 case round =>
  obtain⟨ni,nj,p,x,y,q,rfl,rfl,hx,hy,hi0,hj0,hpm,hnN,htg,hlen,hown,hfr⟩:=hrel;have HX:=hI hx;have HY:=hI hy;have HTG:=hI htg;have HLN:=hI hlen;have HOW:=hI hown;have HFR:=hI hfr;obtain⟨np,hnp⟩:∃ np,p.length=np:=⟨_,rfl⟩;have HNP:=hI hnp;rw [hnp] at hpm;clear hx hy htg hlen hown hfr hnp HO HN HNU HNV HP;have q3:IntKind.i64.wrap ((nm:Int) - (ni:Int))=np:=(by rw [show (nm:Int) - (ni:Int)=(np:Int) by omega];exact IntWalk.i64_in _ (by omega));rcases Nat.lt_trichotomy ni nj with hlt | heq | hgt
  · have hne:((ni:Int) != (nj:Int))=true:=(by simp;omega);have hd:decide ((nj:Int)<(ni:Int))=false:=decide_eq_false (by omega);obtain⟨nz,hnz⟩:∃ nz,nj - ni=nz:=⟨_,rfl⟩;have q4:IntKind.i64.wrap ((nm:Int)+(nj:Int))=(nm+nj:Nat):=(by rw [show (nm:Int)+(nj:Int)=((nm+nj:Nat):Int) by omega];exact IntWalk.i64_in _ (by omega));obtain⟨ns,hns⟩:∃ ns,nm+nj=ns:=⟨_,rfl⟩;rw [hns] at q4;obtain⟨nt,hnt⟩:∃ nt,nm+nz=nt:=⟨_,rfl⟩;have q5:IntKind.i64.wrap ((ns:Int) - (ni:Int))=nt:=(by rw [show (ns:Int) - (ni:Int)=(nt:Int) by omega];exact IntWalk.i64_in _ (by omega));have q6:IntKind.i64.wrap ((nj:Int) - (ni:Int))=nz:=(by rw [show (nj:Int) - (ni:Int)=(nz:Int) by omega];exact IntWalk.i64_in _ (by omega));have hy1:(y.take nz).length=nz:=(by rw [List.length_take,HY.out];omega);have hy2:(y.drop nz).length=ni:=(by rw [List.length_drop,HY.out];omega)
    have HSW:=hI (show ZeE chg0 np nt ni (p++x++y++q)=p++y.drop nz++y.take nz++(x++q) by
     have:=ZdE (d:=chg0) x (y.drop nz) p (y.take nz) q np nt ni (by rw [HX.out,hy2]) HNP.out (by rw [HX.out,hy1];omega) HX.out;rw [show p++x++y.take nz++y.drop nz++q=p++x++y++q by rw [List.append_assoc (p++x),List.take_append_drop]] at this;rw [this];simp)
    have HY1:=hI hy1;have HY2:=hI hy2;clear hy1 hy2
    go_wp2_with fail
    refine(ZcG F A c N (p++x++y++q) base S _ np nt ni HLN.out HOW.out (by omega) (by omega) hl).mono ?_;rintro e w1 ⟨⟨z,rfl⟩,h1,h2⟩;rw [HSW.out] at h1;have H1:=hI h1;have H2:=hI (HFR.out.trans h2 (fun b _ h=>h));clear h1 h2
    go_wp2_with fail
    go_roundw
    case rel=>exact⟨ni,nz,p,y.drop nz,y.take nz,x++q,rfl,by go_num,HY2.out,HY1.out,hi0,by omega,by rw [HNP.out];omega,by omega,by rw [←HTG.out,List.append_assoc p,List.take_append_drop];simp,by rw [←HLN.out];simp;have:=HX.out;have:=HY.out;omega,H1.out,H2.out⟩
    case measure=>(simp [intOf];omega)
  · subst heq;have hne:((ni:Int) != (ni:Int))=false:=(by simp)
    have HSW:=hI (show ZeE chg0 np nm ni (p++x++y++q)=P++v++u++Q by
     have:=ZdE (d:=chg0) x y p [] q np nm ni (by rw [HX.out,HY.out]) HNP.out (by rw [HX.out];simp;omega) HX.out;rw [List.append_nil,List.append_nil] at this;rw [this];exact HTG.out)
    go_wp2_with fail
    refine(ZcG F A c N (p++x++y++q) base S _ np nm ni HLN.out HOW.out (by omega) (by omega) hl).mono ?_;rintro e w1 ⟨⟨z,rfl⟩,h1,h2⟩;rw [HSW.out] at h1;have H1:=hI h1;have H2:=hI (HFR.out.trans h2 (fun b _ h=>h));clear h1 h2
    go_wp2_with fail
    go_end0
    exact⟨⟨_,rfl⟩,H1.out,H2.out⟩
  · have hne:((ni:Int) != (nj:Int))=true:=(by simp;omega);have hd:decide ((nj:Int)<(ni:Int))=true:=decide_eq_true (by omega);obtain⟨nz,hnz⟩:∃ nz,ni - nj=nz:=⟨_,rfl⟩;have q6:IntKind.i64.wrap ((ni:Int) - (nj:Int))=nz:=(by rw [show (ni:Int) - (nj:Int)=(nz:Int) by omega];exact IntWalk.i64_in _ (by omega));have hx1:(x.take nj).length=nj:=(by rw [List.length_take,HX.out];omega);have hx2:(x.drop nj).length=nz:=(by rw [List.length_drop,HX.out];omega)
    have HSW:=hI (show ZeE chg0 np nm nj (p++x++y++q)=p++y++x.drop nj++x.take nj++q by
     have:=ZdE (d:=chg0) (x.take nj) y p (x.drop nj) q np nm nj (by rw [hx1,HY.out]) HNP.out (by rw [hx1,hx2];omega) hx1;rw [show p++x.take nj++x.drop nj++y++q=p++x++y++q by rw [List.append_assoc p,List.take_append_drop]] at this;exact this)
    have HX1:=hI hx1;have HX2:=hI hx2;clear hx1 hx2
    go_wp2_with fail
    refine(ZcG F A c N (p++x++y++q) base S _ np nm nj HLN.out HOW.out (by omega) (by omega) hl).mono ?_;rintro e w1 ⟨⟨z,rfl⟩,h1,h2⟩;rw [HSW.out] at h1;have H1:=hI h1;have H2:=hI (HFR.out.trans h2 (fun b _ h=>h));clear h1 h2
    go_wp2_with fail
    go_roundw
    case rel=>exact⟨nz,nj,p++y,x.drop nj,x.take nj,q,by go_num,rfl,HX2.out,HX1.out,by omega,hj0,by rw [List.length_append,HNP.out,HY.out];omega,hnN,by rw [←HTG.out,List.append_assoc (p++y),List.take_append_drop],by rw [←HLN.out];simp;have:=HX.out;have:=HY.out;omega,H1.out,H2.out⟩
    case measure=>(simp [intOf];omega)
end Go.Proofs.Ytkpjjfhfbpfjpaa
