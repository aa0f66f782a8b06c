import Derived.Lib.Hide
import Derived.WalkKit
set_option linter.all false
set_option maxRecDepth 100000
set_option maxHeartbeats 8000000
namespace Go.Proofs.YtjadnfodboepeaaGreat
open Go.RowKit
variable {w w':World} {n k m:Nat} {a t z y:Int} {l:List Int} {x:Value}
abbrev qa:=@Go.RowKit.Below.refl
abbrev qb:=@Go.heap_alloc_new
abbrev qc:=@Go.RowKit.Below.heap_setCell
abbrev qd:=@Go.RowKit.Below.heap_alloc
abbrev qe:=@decide_eq_false
abbrev qg:=@List.length_map
abbrev qf:=@beq_eq_false_iff_ne
abbrev qi:=@List.length_append
abbrev qj:=@List.take_succ_eq_append_getElem
abbrev qk:=@Nat.zero_le
abbrev ql:=@Go.World.cell?_of_block
abbrev qm:=@List.map_append
abbrev qn:=@Int.eq_ofNat_of_zero_le
abbrev qo:=@if_neg
abbrev qu:=@Int.toNat_natCast
abbrev qr:=@if_pos
abbrev qq:=@List.drop_eq_getElem_cons
abbrev qs:=@List.take_of_length_le
abbrev qt:=@decide_eq_true
abbrev qp:=@Nat.le_refl
abbrev qv:=@Nat.lt_or_ge
abbrev qx:=@Nat.zero_add
abbrev qw:=@Go.bodyPost_ret
abbrev qA:=@Go.info_parts
abbrev qy:=@List.mem_singleton
abbrev qG:=@List.length_take
abbrev qB:=@List.append_assoc
abbrev qC:=@Nat.lt_of_lt_of_le
abbrev qD:=@Nat.le_trans
abbrev qF:=@Nat.eq_zero_or_pos
abbrev qE:=@Bool.and_eq_true
abbrev qI:=@List.length_filter_le
abbrev qJ:=@List.getElem_mem
abbrev qH:=@List.mem_append
abbrev qL:=@List.map_cons
abbrev qK:=@List.length_cons
abbrev qN:=@List.eq_nil_of_length_eq_zero
abbrev qM:=@List.take_length
abbrev qO:=@List.mem_map
abbrev qR:=@List.getElem?_eq_some_iff
abbrev qQ:=@List.drop_length
abbrev qT:=@decide_eq_true_eq
abbrev qP:=@List.nil_append
abbrev qV:=@Go.World.ownsRow_nil
abbrev qX:=@List.not_mem_nil
abbrev qY:=@Go.World.grownBy_alloc
abbrev Qs:=@List.mem_cons
abbrev Qn:=@List.map_nil
abbrev Qr:=@Go.World.cell?_setCell_same
abbrev Qo:=@Go.cell_of_row
abbrev Qp:=@List.length_nil
abbrev Qq:=@List.append_nil
abbrev Qt:=@Go.World.size_alloc
abbrev Qu:=@List.drop_eq_nil_of_le
theorem ya {p:Prop} (h:p:=by omega):p:=h
theorem yb {p:Prop} (h:p:=by simp):p:=h
theorem yd {p:Prop} (h:p:=by (simp;omega)):p:=h
theorem ye {p:Prop} (h:p:=by kernel_rfl):p:=h
theorem yf {p:Prop} (h:p:=by decide):p:=h
theorem yg {p:Prop} (h:p:=by rfl):p:=h
theorem yh {p:Prop} (h:p:=by (unfold maxLen;omega)):p:=h
theorem yj {p:Prop} (h:p:=by (intro e;injection e with e;omega)):p:=h
theorem yq {p:Prop} (h:p:=by (simp [intOf];omega)):p:=h
theorem yl {p q:Prop} (a:p) (h:p->q:=by (intro a;omega)):q:=h a
theorem ym {p q r:Prop} (a:p) (b:q) (h:p->q->r:=by (intro a b;omega)):r:=h a b
theorem yp {α:Sort _} (a:α):∃ b,a=b:=⟨a,rfl⟩
instance iWN:Coe World Nat:=⟨fun w=>w.heap.size⟩
instance iLN {α:Type _}:CoeOut (List α) Nat:=⟨List.length⟩
abbrev yr (w:World) (b k:Nat) (v:Value):Prop:=w.cell? ⟨b,k,none⟩=some v
theorem nR:n<=n:=Nat.le_refl n
theorem hI {p:Prop} (h:p):RowKit.Hid p:=h
theorem c9J (h:Below n w w') (z:w.cell? ⟨k,m,none⟩=some x) (E:k<n:=by omega):w'.cell? ⟨k,m,none⟩=some x:=(h.cell (p:=⟨k,m,none⟩) E).trans z
theorem c9K (h:Below n w w') (z:w.cell? ⟨k,m,none⟩=some x) (E:k<n:=by (try simp)<;>omega):w'.cell? ⟨k,m,none⟩=some x:=(h.cell (p:=⟨k,m,none⟩) E).trans z
theorem c9Q (h:Below n w w') (E:k<n) (z:w.cell? ⟨k,m,none⟩=some x):w'.cell? ⟨k,m,none⟩=some x:=(h.cell (p:=⟨k,m,none⟩) E).trans z
theorem al (w:World) (o:Obj):∃ x,w.alloc o=x/\Hid (Below w.heap.size w x)/\Hid (x.heap[w.heap.size]?=some o):=⟨_,rfl,(Below.refl _ _).alloc (Nat.le_refl _) _,Go.heap_alloc_new w _⟩
theorem ag (w:World) (o:Obj):∃ x g,w.alloc o=x/\w.heap.size=g/\Hid (Below w.heap.size w x)/\Hid (x.heap[g]?=some o):=⟨_,_,rfl,rfl,(Below.refl _ _).alloc (Nat.le_refl _) _,Go.heap_alloc_new w _⟩
theorem gD {α} {l:List α} {i:Nat} {d:α} (h:i<l.length):l.getD i d=l[i]:=by simp [List.getD,h]
theorem dr (w:World):∃ x,w.drew=x/\Hid (Below w.heap.size w x)/\x.heap.size<=w.heap.size/\w.heap.size<=x.heap.size:=⟨_,rfl,(Below.refl _ w).drew,Nat.le_refl _,Nat.le_refl _⟩
end Go.Proofs.YtjadnfodboepeaaGreat
namespace Go.Proofs.YtjadnfodboepeaaGreat.Cut
variable {w w':World} {n k m:Nat} {a t z y:Int} {l:List Int} {x:Value}
abbrev Stp:=Int × List Int
def Fits (m i:Int) (l:List Int):Prop:=l.Pairwise (·<·)/\(∀ x ∈ l,0<=x/\x<m)/\i ∈ l
instance (m i:Int) (l:List Int):Decidable (Fits m i l):=by unfold Fits;infer_instance
def Zhj (m i:Int) (l:List Int):Bool:=decide (Fits m i l)
def Asc (base:Int) (l:List Stp):Prop:=(∀ s ∈ l,base<s.1/\s.1<=1073741824)/\l.Pairwise (fun a b=>a.1<b.1)
def Zlj (base m i:Int) (l:List Stp):Prop:=Asc base l/\∀ s ∈ l,Fits m i s.2
def Zlk (l:List Stp):Prop:=∀ s ∈ l,∀ t ∈ l,s.1=t.1->s.2=t.2
structure Valid (base:Int) (L:List (List Stp)):Prop where
 ok:∀ i,i<L.length->Zlj base L.length i (L.getD i [])
 agree:Zlk L.flatten
def BadArg (base:Int) (z:List (List Stp)):Prop:=base<0\/1073741824<base\/z.length=0\/4<z.length
open Classical in
noncomputable def errOf (base:Int) (z:List (List Stp)):Int:=if BadArg base z then 1 else if Valid base z then 0 else 210
theorem Zie {z:List (List Stp)} (h:BadArg a z):errOf a z=1:=by unfold errOf;rw [if_pos h]
theorem ZcS {z:List (List Stp)} (h:¬ BadArg a z) (E:¬ Valid a z):errOf a z=210:=by unfold errOf;rw [if_neg h,if_neg E]
theorem errOf_ok {z:List (List Stp)} (h:¬ BadArg a z) (E:Valid a z):errOf a z=0:=by unfold errOf;rw [if_neg h,if_pos E]
theorem errOf_cases (base:Int) (z:List (List Stp)):(errOf base z=0/\¬ BadArg base z/\Valid base z)\/errOf base z=1\/errOf base z=210:=by
 by_cases h:BadArg base z
 .exact .inr (.inl (Zie h))
 by_cases E:Valid base z
 .exact .inl ⟨errOf_ok h E,h,E⟩
 exact .inr (.inr (ZcS h E))
def Zda (base:Int) (l:List Int) (v:Int):Prop:=(∀ x ∈ l,x<=v)/\base<=v/\(v=base\/v ∈ l)
theorem Zev (base:Int):Zda base [] base:=⟨by simp,Int.le_refl _,.inl rfl⟩
theorem ZfL (h:Zda a l t) (I:t<z):Zda a (l++[z]) z:=by
 obtain⟨E,F,H⟩:=h;refine⟨fun y x=>?_,by omega,.inr (by simp)⟩;rcases List.mem_append.1 x with h | h
 .have:=E y h;omega
 have:y=z:=(by simpa using h);omega
theorem pairwise_snoc (h:l.Pairwise (·<·)) (v:Zda a l t) (H:t<z):(l++[z]).Pairwise (·<·):=by
 rw [List.pairwise_append];refine⟨h,by simp,fun x E b F=>?_⟩;have:b=z:=(by simpa using F);have:=v.1 x E;omega
theorem take_snoc {α:Type} (l:List α) (k:Nat) (h:k<l.length):l.take (k+1)=l.take k++[l[k]]:=List.take_succ_eq_append_getElem h
theorem ZcQ (E:n<l.length) (L:l.getD n 0=z) (K:(l.take n).Pairwise (·<·)) (H:∀ y ∈ l.take n,0<=y/\y<a) (m:Zda (-1) (l.take n) t) (F:t<z) (M:z<a) :
 (l.take (n+1)).Pairwise (·<·)/\(∀ y ∈ l.take (n+1),0<=y/\y<a)/\Zda (-1) (l.take (n+1)) z:=by
 have e:l[n]=z:=(by simpa [List.getD,E] using L);rw [take_snoc l n E,e];refine⟨pairwise_snoc K m F,fun y I=>?_,ZfL m F⟩;rcases List.mem_append.1 I with h | h
 .exact H y h
 have:y=z:=(by simpa using h);have:=m.2.1;omega
theorem ZcR (E:n<l.length) (I:l.getD n 0=y) (F:Zda (-1) (l.take n) z) (x:y<=z\/a<=y):Zhj a t l=false:=by
 have e:l[n]=y:=(by simpa [List.getD,E] using I);refine decide_eq_false fun ⟨p,q,_⟩=>?_;have L:=q l[n] (List.getElem_mem _);rcases x with x | x
 .rcases F.2.2 with h | h
  .omega
  obtain⟨j,M,K⟩:=List.mem_take_iff_getElem.1 h;have H:j<n:=(by omega);have:=List.pairwise_iff_getElem.1 p j n (by omega) E H;omega
 omega
theorem Zju (F:l.length<=n) (E:(l.take n).Pairwise (·<·)) (z:∀ y ∈ l.take n,0<=y/\y<a):Zhj a t l=decide (t ∈ l):=by
 rw [List.take_of_length_le F] at E z;unfold Zhj Fits;simp only [E,true_and];have:(∀ x ∈ l,0<=x/\x<a)=True:=(by simp only [eq_iff_iff,iff_true];exact z);simp [this]
theorem Zcz {α:Type} (l:List α) (d:α) (h:n<l.length):l.getD n d=l[n]:=by simp [List.getD,h]
theorem Zkt {α:Type} (l:List α) {d:α} (h:n<l.length):l.getD n d ∈ l:=by rw [Zcz l (n:=n) d h];exact List.getElem_mem _
theorem Zbq {z:List (List Stp)} {s:Stp} (E:n<z.length) (F:s ∈ z.getD n []):s ∈ z.flatten:=by
 rw [List.mem_flatten];exact⟨z.getD n [],by simp [List.getD,E],F⟩
theorem mem_flatten_take {z:List (List Stp)} {s:Stp} (E:s ∈ (z.take n).flatten):s ∈ z.flatten:=by
 rw [List.mem_flatten] at E ⊢;obtain⟨l,F,h⟩:=E;exact⟨l,List.mem_of_mem_take F,h⟩
theorem Zco {z:List (List Stp)} (E:n<z.length):(z.take (n+1)).flatten=(z.take n).flatten++z.getD n []:=by
 rw [take_snoc z n E,List.flatten_append];simp [List.getD,E]
theorem Zdm {l:List Stp} (d:Stp) (z:n<l.length):l.take (n+1)=l.take n++[l.getD n d]:=by
 rw [take_snoc l n z];simp [List.getD,z]
def ZjQ (base:Int) (z:List (List Stp)) (k:Nat):Prop:=(∀ i,i<k->Zlj base z.length i (z.getD i []))/\Zlk (z.take k).flatten
def ZiO (base:Int) (z:List (List Stp)) (k j:Nat) (E:Int):Prop :=
 Zlj base z.length k ((z.getD k []).take j)/\Zda base (((z.getD k []).take j).map (·.1)) E/\Zlk ((z.take k).flatten++(z.getD k []).take j)
theorem chk_zero {z:List (List Stp)}:ZjQ a z 0:=⟨fun i E=>absurd E (by omega),fun s F=>by simp at F⟩
theorem chk_in {z:List (List Stp)} (h:ZjQ a z n):ZiO a z n 0 a:=by
 refine⟨⟨⟨by simp,by simp⟩,by simp⟩,by simpa using Zev a,?_⟩;simpa using h.2
theorem chk_out {z:List (List Stp)} (K:n<z.length) (h:ZjQ a z n) (F:ZiO a z n k t) (M:(z.getD n []).length<=k):ZjQ a z (n+1):=by
 obtain⟨H,_,I⟩:=F;rw [List.take_of_length_le M] at H I;refine⟨fun i F=>?_,by rw [Zco K];exact I⟩;rcases Nat.lt_succ_iff_lt_or_eq.1 F with E | E
 .exact h.1 i E
 subst E;exact H
theorem chk_end {z:List (List Stp)} (E:z.length<=n) (h:ZjQ a z n):Valid a z:=by
 refine⟨fun i F=>h.1 i (by omega),?_⟩;have:=h.2;rwa [List.take_of_length_le E] at this
theorem Zjx {E:List (List Stp)} (N:k<(E.getD n []).length) (F:(E.getD n []).getD k (0,[])=(z,l)) (h:ZiO a E n k t) (U:t<z) (O:z<=1073741824)
 (Z:Zhj E.length n l=true) (M:∀ j ∈ (E.take n).flatten++(E.getD n []).take k,j.1=z->j.2=l):ZiO a E n (k+1) z:=by
 obtain⟨⟨⟨a1,a2⟩,a3⟩,a4,a5⟩:=h;have e:=Zdm (0,[]) N;rw [F] at e;unfold ZiO;rw [e];refine⟨⟨⟨fun s F=>?_,?_⟩,fun s F=>?_⟩,?_,?_⟩
 .rcases List.mem_append.1 F with h | h
  .exact a1 s h
  rw [List.mem_singleton.1 h];have:=a4.2.1;exact⟨by show a<z;omega,O⟩
 .rw [List.pairwise_append];refine⟨a2,by simp,fun L R b aa=>?_⟩;rw [List.mem_singleton.1 aa];have:=a4.1 L.1 (List.mem_map.2 ⟨L,R,rfl⟩);show L.1<z;omega
 .rcases List.mem_append.1 F with h | h
  .exact a3 s h
  rw [List.mem_singleton.1 h];exact of_decide_eq_true Z
 .rw [List.map_append];exact ZfL a4 U
 rw [<-List.append_assoc];intro s F j W H;rcases List.mem_append.1 F with h | h<;>rcases List.mem_append.1 W with I | I
 .exact a5 s h j I H
 .rw [List.mem_singleton.1 I] at H ⊢;exact M s h H
 .rw [List.mem_singleton.1 h] at H ⊢;exact(M j I H.symm).symm
 rw [List.mem_singleton.1 h,List.mem_singleton.1 I]
theorem Zki {z:List (List Stp)} {s:Stp} (F:k<(z.getD n []).length) (E:(z.getD n []).getD k (0,[])=s):s ∈ z.getD n []:=by
 rw [<-E];exact Zkt _ F
theorem Zim {E:List (List Stp)} (O:n<E.length) (H:k<(E.getD n []).length) (M:(E.getD n []).getD k (0,[])=(z,l)) (h:ZiO a E n k t) (F:z<=t\/1073741824<z):¬ Valid a E:=by
 intro U;obtain⟨⟨R,ab⟩,_⟩:=U.ok n O;have I:=R _ (Zki H M);rcases F with F | F
 .rcases h.2.1.2.2 with K | K
  .have:a<z:=I.1;omega
  obtain⟨L,aa,e⟩:=List.mem_map.1 K;obtain⟨i,ae,Z⟩:=List.mem_take_iff_getElem.1 aa;have ac:i<k:=(by omega);have:=List.pairwise_iff_getElem.1 ab i k (by omega) H ac;have W:(E.getD n [])[k]=(z,l):=(by rw [<-M];exact(Zcz _ _ H).symm);rw [Z,W] at this;have:L.1<z:=this;omega
 have:z<=1073741824:=I.2;omega
theorem chk_fail2 {z:List (List Stp)} (F:n<z.length) (K:k<(z.getD n []).length) (M:(z.getD n []).getD k (0,[])=(t,l)) (H:Zhj z.length n l=false):¬ Valid a z:=by
 intro L;have:=(L.ok n F).2 _ (Zki K M);exact of_decide_eq_false H this
theorem chk_fail3 {z:List (List Stp)} {j:Stp} (H:n<z.length) (K:k<(z.getD n []).length) (R:(z.getD n []).getD k (0,[])=(t,l)) (O:j ∈ (z.take n).flatten++(z.getD n []).take k) (e:j.1=t) (I:j.2≠l):¬ Valid a z:=by
 intro L;have N:(t,l) ∈ z.flatten:=Zbq H (Zki K R)
 have M:j ∈ z.flatten:=by
  rcases List.mem_append.1 O with h | h
  .exact mem_flatten_take h
  exact Zbq H (List.mem_of_mem_take h)
 exact I (L.agree j M _ N e)
abbrev stp (z:List (List Stp)) (i k:Nat):Stp:=(z.getD i []).getD k (0,[])
section
variable {base:Int} {L:List (List Stp)}
theorem stp_mem {i k:Nat} (z:k<(L.getD i []).length):stp L i k ∈ L.getD i []:=Zkt _ z
theorem Valid.lt (E:Valid base L) {i k k':Nat} (F:i<L.length) (h:k<k') (z:k'<(L.getD i []).length):(stp L i k).1<(stp L i k').1:=by
 have:=List.pairwise_iff_getElem.1 (E.ok i F).1.2 k k' (by omega) z h;rwa [<-Zcz _ (0,[]) (by omega),<-Zcz _ (0,[]) z] at this
theorem Valid.le (E:Valid base L) {i k k':Nat} (F:i<L.length) (h:k<=k') (H:k'<(L.getD i []).length):(stp L i k).1<=(stp L i k').1:=by
 rcases Nat.lt_or_eq_of_le h with z | z
 .have:=E.lt F z H;omega
 subst z;exact Int.le_refl _
theorem Valid.inj (E:Valid base L) {i k k':Nat} (F:i<L.length) (I:k<(L.getD i []).length) (H:k'<(L.getD i []).length) (h:(stp L i k).1=(stp L i k').1):k=k':=by
 rcases Nat.lt_trichotomy k k' with z | z | z
 .have:=E.lt F z H;omega
 .exact z
 have:=E.lt F z I;omega
theorem Valid.same (F:Valid base L) {i j k k':Nat} (I:i<L.length) (H:j<L.length) (E:k<(L.getD i []).length) (z:k'<(L.getD j []).length) (h:(stp L i k).1=(stp L j k').1):(stp L i k).2=(stp L j k').2 :=
 F.agree _ (Zbq I (stp_mem E)) _ (Zbq H (stp_mem z)) h
theorem Valid.own (z:Valid base L) {i k:Nat} (E:i<L.length) (F:k<(L.getD i []).length):(i:Int) ∈ (stp L i k).2:=((z.ok i E).2 _ (stp_mem F)).2.2
theorem Valid.range (z:Valid base L) {i k:Nat} (E:i<L.length) (F:k<(L.getD i []).length) {t:Int} (H:t ∈ (stp L i k).2):0<=t/\t<L.length:=((z.ok i E).2 _ (stp_mem F)).2.1 t H
theorem Valid.asc (z:Valid base L) {i k:Nat} (E:i<L.length) (F:k<(L.getD i []).length):(stp L i k).2.Pairwise (·<·):=((z.ok i E).2 _ (stp_mem F)).1
theorem Valid.bd (z:Valid base L) {i k:Nat} (E:i<L.length) (F:k<(L.getD i []).length):base<(stp L i k).1/\(stp L i k).1<=1073741824:=(z.ok i E).1.1 _ (stp_mem F)
end
def Zgn (E:List (List Stp)) (c p:List Int) (i:Nat) (z:Int):Prop:=p.getD i 0<c.getD i 0/\(stp E i (p.getD i 0).toNat).1=z
def ZjP (z:List (List Stp)) (o p:List Int) (s:Stp):Prop :=
 (∃ i,i<z.length/\p.getD i 0<o.getD i 0/\s=stp z i (p.getD i 0).toNat)/\∀ i,i<z.length->p.getD i 0<o.getD i 0->s.1<=(stp z i (p.getD i 0).toNat).1
section
variable {base:Int} {L:List (List Stp)} {c o p:List Int} {s:Stp}
end
def room:List Int->List Int->Nat
 | x :: xs,y :: z=>(y - x).toNat+room xs z
 | _,_=>0
theorem Zhh (l:List Int) (z:n<l.length):(l.set n a).getD k 0=if k=n then a else l.getD k 0:=by
 simp only [List.getD,List.getElem?_set]
 by_cases h:n=k
 .subst h;simp [z]
 have:¬ k=n:=fun e=>h e.symm;simp [h,this]
section
variable {base:Int} {L:List (List Stp)} {c o p o' p':List Int} {cm:Int} {k:Nat} {s:Stp}
def Zir (E:List (List Stp)) (p:List Int) (F:List Int) (j:Nat) (z:List Int):Prop :=
 z.length=E.length/\∀ i,i<E.length->((i:Int) ∈ F.take j->z.getD i 0=p.getD i 0+1)/\((i:Int) ∉ F.take j->z.getD i 0=p.getD i 0)
theorem adv_zero (h:p.length=L.length) {z:List Int}:Zir L p z 0 p:=⟨h,fun i _=>⟨fun h=>by simp at h,fun _=>rfl⟩⟩
theorem adv_fresh {z:List Int} {j:Nat} (F:z.Pairwise (·<·)) (E:j<z.length) {t:Int} (I:z.getD j 0=t):t ∉ z.take j:=by
 intro H;obtain⟨i,K,e⟩:=List.mem_take_iff_getElem.1 H;rw [Zcz _ _ E] at I;have:=List.pairwise_iff_getElem.1 F i j (by omega) E (by omega);omega
theorem adv_at {z:List Int} {j:Nat} {t:Int} (h:Zir L p z j p') (F:t ∉ z.take j) (H:0<=t) (E:t<L.length):p'.getD t.toNat 0=p.getD t.toNat 0:=by
 refine(h.2 t.toNat (by omega)).2 ?_;rwa [show ((t.toNat:Nat):Int)=t by omega]
theorem adv_step {z:List Int} {j:Nat} {t:Int} (I:j<z.length) (N:z.getD j 0=t) (h:Zir L p z j p') (R:0<=t) (O:t<L.length):Zir L p z (j+1) (p'.set t.toNat (p.getD t.toNat 0+1)):=by
 have e:z.take (j+1)=z.take j++[t]:=(by rw [take_snoc z j I,<-N,Zcz _ _ I]);rw [Zir,e];refine⟨by simpa using h.1,fun i K=>⟨fun E=>?_,fun E=>?_⟩⟩
 .rw [Zhh _ (by rw [h.1];omega)]
  by_cases H:i=t.toNat
  .rw [if_pos H,H]
  rw [if_neg H];rcases List.mem_append.1 E with F | F
  .exact(h.2 i K).1 F
  exfalso;have:=List.mem_singleton.1 F;omega
 rw [List.mem_append] at E;have M:i≠t.toNat:=fun e=>E (.inr (List.mem_singleton.2 (by omega)));rw [Zhh _ (by rw [h.1];omega),if_neg M];exact(h.2 i K).2 fun F=>E (.inl F)
end
def ZkH (z:List (List Stp)) (n:Int):Prop :=
 (∃ i k,i<z.length/\k<(z.getD i []).length/\(stp z i k).1=n) /\
 ∀ i k,i<z.length->k<(z.getD i []).length->(stp z i k).1=n->∀ t ∈ (stp z i k).2,∃ k',k'<(z.getD t.toNat []).length/\(stp z t.toNat k').1=n
def IsLast (base:Int) (z:List (List Stp)) (n:Int):Prop:=base<=n/\(∀ c,base<c->c<=n->ZkH z c)/\¬ ZkH z (n+1)
theorem isLast_unique {F:List (List Stp)} (E:IsLast a F t) (m:IsLast a F z):t=z:=by
 rcases Int.lt_trichotomy t z with h | h | h
 .exact absurd (m.2.1 (t+1) (by have:=E.1;omega) (by omega)) E.2.2
 .exact h
 exact absurd (E.2.1 (z+1) (by have:=m.1;omega) (by omega)) m.2.2
structure WholeInv (base:Int) (L:List (List Stp)) (n:Int) (p:List Int):Prop where
 lp:p.length=L.length
 pos:∀ i,i<L.length->0<=p.getD i 0
 top:∀ i,i<L.length->p.getD i 0<=(L.getD i []).length
 lo:∀ i,i<L.length->∀ k:Nat,(k:Int)<p.getD i 0->(stp L i k).1<=n
 hi:∀ i,i<L.length->∀ k:Nat,p.getD i 0<=(k:Int)->k<(L.getD i []).length->n<(stp L i k).1
 ge:base<=n
 le:n<=1073741824
 wh:∀ c,base<c->c<=n->ZkH L c
section
variable {base:Int} {L:List (List Stp)} {o p p':List Int} {n:Int} {s:Stp}
theorem whole_start (H:Valid base L) (I:base<=1073741824):WholeInv base L base (List.replicate L.length 0):=by
 have F:∀ i,i<L.length->(List.replicate L.length (0:Int)).getD i 0=0:=(fun i z=>by simp [List.getD,z]);refine⟨by simp,fun i z=>by rw [F i z];exact Int.le_refl _,fun i z=>by rw [F i z];omega,fun i z k E=>?_,fun i z k _ E=>(H.bd z E).1,Int.le_refl _,I,fun c M K=>by omega⟩;rw [F i z] at E;omega
theorem whole_none (h:WholeInv base L n p) (F:∀ i,i<L.length->o.getD i 0=(L.getD i []).length) (I:∀ i,i<L.length->¬ p.getD i 0<o.getD i 0):IsLast base L n:=by
 refine⟨h.ge,h.wh,fun E=>?_⟩;obtain⟨⟨i,k,z,K,e⟩,_⟩:=E;have H:=I i z;rw [F i z] at H;have:=h.lo i z k (by omega);omega
theorem Zft (M:Valid base L) (h:WholeInv base L n p) (I:∀ i,i<L.length->o.getD i 0=(L.getD i []).length) (U:ZjP L o p s):n<s.1/\∀ i k,i<L.length->k<(L.getD i []).length->n<(stp L i k).1->s.1<=(stp L i k).1:=by
 obtain⟨⟨E,H,N,rfl⟩,O⟩:=U;have ab:=h.pos E H;rw [I E H] at N;refine⟨h.hi E H _ (by omega) (by omega),fun i k z K W=>?_⟩
 have aa:p.getD i 0<=(k:Int):=by
  rcases Int.lt_or_le (k:Int) (p.getD i 0) with F | F
  .have:=h.lo i z k F;omega
  exact F
 have R:=O i z (by rw [I i z];omega);have Z:=h.pos i z;exact Int.le_trans R (M.le z (by omega) K)
theorem whole_gap (H:Valid base L) (h:WholeInv base L n p) (F:∀ i,i<L.length->o.getD i 0=(L.getD i []).length) (K:ZjP L o p s) (N:s.1≠n+1):IsLast base L n:=by
 obtain⟨O,I⟩:=Zft H h F K;refine⟨h.ge,h.wh,fun z=>?_⟩;obtain⟨⟨i,k,M,E,e⟩,_⟩:=z;have:=I i k M E (by omega);omega
theorem whole_lack (K:Valid base L) (h:WholeInv base L n p) (I:∀ i,i<L.length->o.getD i 0=(L.getD i []).length) (O:ZjP L o p s) (aa:s.1=n+1) {t:Int} (M:t ∈ s.2) (Z:¬ Zgn L o p t.toNat s.1):IsLast base L n:=by
 obtain⟨ae,ab⟩:=Zft K h I O;refine⟨h.ge,h.wh,fun W=>?_⟩;obtain⟨⟨z,F,R,rfl⟩,an⟩:=O;have ak:=h.pos z F;rw [I z F] at R;have N:(p.getD z 0).toNat<(L.getD z []).length:=(by omega);obtain⟨k',U,af⟩:=W.2 z _ F N aa t M;have ai:=K.range F N M;have E:t.toNat<L.length:=(by omega)
 have ah:p.getD t.toNat 0<=(k':Int):=by
  rcases Int.lt_or_le (k':Int) (p.getD t.toNat 0) with H | H
  .have:=h.lo _ E k' H;omega
  exact H
 have am:=h.pos _ E;have aj:=K.le E (show (p.getD t.toNat 0).toNat<=k' by omega) U;have ac:=h.hi _ E (p.getD t.toNat 0).toNat (by omega) (by omega);exact Z ⟨by rw [I _ E];omega,by omega⟩
theorem whole_adv (M:Valid base L) (h:WholeInv base L n p) (Z:∀ i,i<L.length->o.getD i 0=(L.getD i []).length) (an:ZjP L o p s) (R:s.1=n+1) (aa:∀ t ∈ s.2,Zgn L o p t.toNat s.1) {j:Nat} (ao:s.2.length<=j) (I:Zir L p s.2 j p'):WholeInv base L (n+1) p':=by
 rw [Zir,List.take_of_length_le ao] at I;obtain⟨ak,I⟩:=I;obtain⟨⟨E,K,ai,rfl⟩,av⟩:=an;have ar:=h.pos E K;rw [Z E K] at ai;have O:(p.getD E 0).toNat<(L.getD E []).length:=(by omega)
 have U:∀ i,i<L.length->(i:Int) ∈ (stp L E (p.getD E 0).toNat).2->p.getD i 0<(L.getD i []).length/\(stp L i (p.getD i 0).toNat).1=n+1:=fun i z F=>by
  have:=aa _ F;rw [Int.toNat_natCast] at this;rw [<-Z i z];exact⟨this.1,this.2.trans R⟩
 have ae:∀ i k,i<L.length->k<(L.getD i []).length->(stp L i k).1=n+1->(stp L i k).2=(stp L E (p.getD E 0).toNat).2:=fun i k z H e=>M.same z K H O (e.trans R.symm);refine⟨ak,fun i z=>?_,fun i z=>?_,fun i z k H=>?_,fun i z k H N=>?_,by have:=h.ge;omega,by have:=(M.bd K O).2;omega,fun c ac ah=>?_⟩
 .have:=h.pos i z
  by_cases F:(i:Int) ∈ (stp L E (p.getD E 0).toNat).2
  .rw [(I i z).1 F];omega
  rw [(I i z).2 F];omega
 .by_cases F:(i:Int) ∈ (stp L E (p.getD E 0).toNat).2
  .rw [(I i z).1 F];have:=(U i z F).1;omega
  rw [(I i z).2 F];exact h.top i z
 .by_cases F:(i:Int) ∈ (stp L E (p.getD E 0).toNat).2
  .rw [(I i z).1 F] at H;rcases Int.lt_or_le (k:Int) (p.getD i 0) with ab | ab
   .have:=h.lo i z k ab;omega
   have e:k=(p.getD i 0).toNat:=(by omega);rw [e,(U i z F).2];exact Int.le_refl _
  rw [(I i z).2 F] at H;have:=h.lo i z k H;omega
 .by_cases F:(i:Int) ∈ (stp L E (p.getD E 0).toNat).2
  .rw [(I i z).1 F] at H;have ap:=h.pos i z;have:=M.lt z (show (p.getD i 0).toNat<k by omega) N;rw [(U i z F).2] at this;exact this
  rw [(I i z).2 F] at H;have ac:=h.hi i z k H N
  have ah:(stp L i k).1≠n+1:=fun e=>by
   have:=M.own z N;rw [ae i k z N e] at this;exact F this
  omega
 by_cases aj:c<=n
 .exact h.wh c ac aj
 have e:c=n+1:=(by omega);subst e;refine⟨⟨E,_,K,O,R⟩,fun i k z H e t W=>?_⟩;rw [ae i k z H e] at W;have aq:=M.range K O W;have af:t.toNat<L.length:=(by omega);have:=aa t W;have au:=h.pos _ af;have am:=this.1;rw [Z _ af] at am;exact⟨(p.getD t.toNat 0).toNat,by omega,this.2.trans R⟩
theorem whole_shards (F:Valid base L) (h:WholeInv base L n p) (I:∀ i,i<L.length->o.getD i 0=(L.getD i []).length) (M:ZjP L o p s):s.2.Pairwise (·<·)/\(∀ t ∈ s.2,0<=t/\t<L.length)/\s.1<=1073741824:=by
 obtain⟨⟨i,z,H,rfl⟩,_⟩:=M;rw [I i z] at H;have:=h.pos i z;have E:(p.getD i 0).toNat<(L.getD i []).length:=(by omega);exact⟨F.asc z E,fun t K=>F.range z E K,(F.bd z E).2⟩
end
section
variable {base:Int} {L:List (List Stp)} {c:List Int} {n m:Int} {k:Nat}
end
end Go.Proofs.YtjadnfodboepeaaGreat.Cut
