import Derived.Test.YtjadnfodboepeaaGreatKc7
import Derived.Test.YtjadnfodboepeaaGreatKm6
set_option linter.all false
set_option maxRecDepth 100000
set_option maxHeartbeats 8000000
namespace Go.Proofs.YtjadnfodboepeaaGreat
open Tryz
open Go Go.RowKit
variable {w:World} {n k m i j b:Nat} {A B:Option Addr} {S:Nat->Prop} {l:List Int} {s:Sch} {o:St} {F:Nat->Value} {I:List Ent} {J:List (List Int)}
structure JdM (w:World) (d n:Nat) (J:Nat->Nat) (V1 V2:Nat->Value) (SJ:Nat->Nat->Prop) (recs:Nat->List (List Int)) (room:Nat) (V:Nat->Value) (Nd:Nat->Int) (fs:List (List Int)):Prop where
 jrs:JrsM w d n J V1 V2 SJ recs
 dsk:DskM w d room V Nd fs
 ds:∀ k,k<n->∀ b,SJ k b->¬ DskX d V b
def JdX (d n:Nat) (J:Nat->Nat) (V1 V2 V:Nat->Value):Nat->Prop:=fun b=>JrsX n J V1 V2 b\/DskX d V b
def JdP (d n:Nat) (J:Nat->Nat) (V1 V2:Nat->Value) (SJ:Nat->Nat->Prop) (V:Nat->Value) (K:Nat->List (List Int)) (room:Nat) (L:List (List Int)) (w w':World):Prop :=
 ∃ F z H E I,JdM w' d n J F z H K room E I L/\Fr (JdX d n J V1 V2 V) w w'/\(∀ b,JdX d n J F z E b->JdX d n J V1 V2 V b\/w.heap.size<=b)/\(∀ k,k<n->∀ b,H k b->SJ k b\/w.heap.size<=b)/\∀ b,JrsX n J F z b->¬ DskX d E b
section
variable {w w' w'':World} {d n room:Nat} {J:Nat->Nat} {V1 V2:Nat->Value} {SJ:Nat->Nat->Prop} {recs:Nat->List (List Int)} {V:Nat->Value} {Nd:Nat->Int} {fs:List (List Int)}
theorem JdM.jd (h:JdM w d n J V1 V2 SJ recs room V Nd fs):∀ b,JrsX n J V1 V2 b->¬ DskX d V b:=fun b ⟨k,F,H⟩ E=>by
 rcases(h.jrs.one k F).typX H with z | z | z
 .exact h.dsk.notX z yf yf E
 .exact h.dsk.notX z yf yf E
 exact h.dsk.notX z yf yf E
theorem JdM.xlt (h:JdM w d n J V1 V2 SJ recs room V Nd fs):∀ b,JdX d n J V1 V2 V b->b<w:=fun b z=>by
 rcases z with ⟨k,E,z⟩ | z
 .exact(h.jrs.one k E).xlt b z
 exact h.dsk.xlt b z
theorem JdM.below (h:JdM w d n J V1 V2 SJ recs room V Nd fs) {B:Nat} (z:Below B w w') (E:w<=B):JdM w' d n J V1 V2 SJ recs room V Nd fs :=
 ⟨h.jrs.below z E,h.dsk.keep (fun b F=>z.block b (yl (h.dsk.xlt b F))),h.ds⟩
theorem JdM.drewN (h:JdM w d n J V1 V2 SJ recs room V Nd fs) (k:Nat):JdM (w.drewN k) d n J V1 V2 SJ recs room V Nd fs:=h.below (below_drewN (qa w w) k) nR
theorem JdP.refl_ (h:JdM w d n J V1 V2 SJ recs room V Nd fs):JdP d n J V1 V2 SJ V recs room fs w w:=⟨V1,V2,SJ,V,Nd,h,Qa _ _,fun b z=>.inl z,fun k E b z=>.inl z,h.jd⟩
theorem JdP.trans {O N K:Nat->Value} {L:Nat->Nat->Prop} {R:Nat->List (List Int)} {F:List (List Int)} (I:Fr (JdX d n J V1 V2 V) w w') (M:∀ b,JdX d n J O N K b->JdX d n J V1 V2 V b\/w.heap.size<=b) (ac:∀ k,k<n->∀ b,L k b->SJ k b\/w.heap.size<=b)
 (h:JdP d n J O N L K R room F w' w''):JdP d n J V1 V2 SJ V R room F w w'':=by
 obtain⟨a1,a2,a3,a4,a5,Z,U,ab,W,aa⟩:=h;have af:=I.size;refine⟨a1,a2,a3,a4,a5,Z,I.trans U (fun b E ae=>?_),fun b E=>?_,fun k H b E=>?_,aa⟩
 .rcases M b ae with z | z
  .exact z
  omega
 .rcases ab b E with z | z
  .exact M b z
  exact .inr ya
 rcases W k H b E with z | z
 .exact ac k H b z
 exact .inr ya
theorem JrsM.congr {z:Nat->List (List Int)} (h:JrsM w d n J V1 V2 SJ recs) (F:∀ k,k<n->recs k=z k):JrsM w d n J V1 V2 SJ z:=⟨fun k E=>by rw [<-F k E];exact h.one k E,h.inj⟩
theorem JdM.app (h:JdM w d n J V1 V2 SJ recs room V Nd fs) {i:Nat} (ah:i<n) {Z:List (List Int)} {rec:List Int} (ar:JapP (J i) d i (recs i).length room (V1 i) (V2 i) (SJ i) (recs i) V Z rec w w'):JdP d n J V1 V2 SJ V (updF recs i (recs i++[rec])) room Z w w':=by
 obtain⟨N,U,S',ac,am,au,hd,ab,aa,W,aw,af⟩:=ar;have aj:∀ b,JrnX (J i) (V1 i) (V2 i) b->JrsX n J V1 V2 b:=fun b z=>⟨i,ah,z⟩;have I:∀ k,k≠i->updF V1 i N k=V1 k/\updF V2 i U k=V2 k/\updF SJ i S' k=SJ k/\updF recs i (recs i++[rec]) k=recs k:=(fun k E=>by unfold updF;simp [E]);have K:updF V1 i N i=N/\updF V2 i U i=U/\updF SJ i S' i=S'/\updF recs i (recs i++[rec]) i=recs i++[rec]:=(by unfold updF;simp)
 have av:∀ k,k<n->k≠i->∀ b,JrnX (J k) (V1 k) (V2 k) b\/SJ k b->b<w/\w'.heap[b]?=w.heap[b]?:=fun k E ai b z=>by
  have ae:b<w:=by
   rcases z with z | z
   .exact(h.jrs.one k E).xlt b z
   exact((h.jrs.one k E).own1.sub b z).1
  refine⟨ae,ab.block b ae (fun e=>?_)⟩;rcases e with e | e
  .rcases z with z | z
   .exact(h.jrs.inj k i E ah ai b z).1 e
   exact(h.jrs.inj i k ah E (Ne.symm ai) b e).2 z
  rcases z with z | z
  .exact h.jd b ⟨k,E,z⟩ e
  exact h.ds k E b z e
 have ap:JrsM w' d n J (updF V1 i N) (updF V2 i U) (updF SJ i S') (updF recs i (recs i++[rec])):=by
  refine⟨fun k E=>?_,fun k m E L M b z=>?_⟩
  .by_cases e:k=i
   .subst e;obtain⟨a1,a2,a3,a4⟩:=K;rw [a1,a2,a3,a4,qi,List.length_singleton];exact au
   obtain⟨a1,a2,a3,a4⟩:=I k e;rw [a1,a2,a3,a4];exact(h.jrs.one k E).keep ab.size (fun b z=>(av k E e b z).2)
  by_cases e:k=i
  .subst e;obtain⟨a1,a2,a3,a4⟩:=K;rw [a1,a2] at z;obtain⟨c1,c2,R,ao⟩:=I m (Ne.symm M);rw [c1,c2,R];rcases aa b z with F | F
   .exact h.jrs.inj k m E L M b F
   exact⟨fun H=>yl ((h.jrs.one m L).xlt b H),fun H=>yl (((h.jrs.one m L).own1.sub b H).1)⟩
  obtain⟨a1,a2,a3,a4⟩:=I k e;rw [a1,a2] at z;have ae:=(h.jrs.one k E).xlt b z
  by_cases ak:m=i
  .subst ak;obtain⟨c1,c2,R,ao⟩:=K;rw [c1,c2,R];refine⟨fun H=>?_,fun H=>?_⟩
   .rcases aa b H with F | F
    .exact(h.jrs.inj k m E L M b z).1 F
    omega
   rcases af b H with F | F
   .exact(h.jrs.inj k m E L M b z).2 F
   omega
  obtain⟨c1,c2,R,ao⟩:=I m ak;rw [c1,c2,R];exact h.jrs.inj k m E L M b z
 have aq:∀ k,k<n->∀ b,updF SJ i S' k b->¬ DskX d ac b:=fun k E b z=>by
  by_cases e:k=i
  .subst e;rw [K.2.2.1] at z;rcases af b z with F | F
   .intro H;rcases W b H with O | O
    .exact h.ds k E b F O
    have:=((h.jrs.one k E).own1.sub b F).1;omega
   exact F.2
  rw [(I k e).2.2.1] at z;intro H;rcases W b H with O | O
  .exact h.ds k E b z O
  have:=((h.jrs.one k E).own1.sub b z).1;omega
 have an:JdM w' d n J (updF V1 i N) (updF V2 i U) (updF SJ i S') (updF recs i (recs i++[rec])) room ac am Z:=⟨ap,hd,aq⟩;refine⟨_,_,_,ac,am,an,ab.mono (fun b z e=>?_),fun b z=>?_,fun k E b z=>?_,an.jd⟩
 .rcases e with e | e
  .exact .inl (aj b e)
  exact .inr e
 .rcases z with ⟨k,E,z⟩ | z
  .by_cases e:k=i
   .subst e;rw [K.1,K.2.1] at z;rcases aa b z with F | F
    .exact .inl (.inl (aj b F))
    exact .inr F
   obtain⟨a1,a2,a3,a4⟩:=I k e;rw [a1,a2] at z;exact .inl (.inl ⟨k,E,z⟩)
  rcases W b z with F | F
  .exact .inl (.inr F)
  exact .inr F
 by_cases e:k=i
 .subst e;rw [K.2.2.1] at z;rcases af b z with F | F
  .exact .inl F
  exact .inr F.1
 rw [(I k e).2.2.1] at z;exact .inl z
theorem JdM.sync (h:JdM w d n J V1 V2 SJ recs room V Nd fs) (N:DskP d room V fs w w'):JdP d n J V1 V2 SJ V recs room fs w w':=by
 obtain⟨I,K,hd,H,M⟩:=N
 have E:∀ k b,k<n->JrnX (J k) (V1 k) (V2 k) b\/SJ k b->w'.heap[b]?=w.heap[b]?:=fun k b E z=>H.block b (by
  rcases z with z | z
  .exact(h.jrs.one k E).xlt b z
  .exact((h.jrs.one k E).own1.sub b z).1) (by
  rcases z with z | z
  .exact h.jd b ⟨k,E,z⟩
  exact h.ds k E b z)
 have L:JdM w' d n J V1 V2 SJ recs room I K fs:=⟨h.jrs.keep H.size E,hd,fun k E b z e=>by
  rcases M b e with F | F
  .exact h.ds k E b z F
  have:=((h.jrs.one k E).own1.sub b z).1;omega⟩
 exact⟨V1,V2,SJ,I,K,L,H.mono (fun b z e=>.inr e),fun b z=>by
  rcases z with z | z
  .exact .inl (.inl z)
  rcases M b z with F | F
  .exact .inl (.inr F)
  exact .inr F,fun k E b z=>.inl z,L.jd⟩
end
def Zcj (z:Nat->List (List Int)) (E:Nat->List Int) (l:List Int):Nat->List (List Int):=fun k=>if (k:Int) ∈ l then z k++[E k] else z k
def fsP (z:List (List Int)) (E:Nat->List Int) (l:List Int):List (List Int):=(List.range 8).map fun (k:Nat)=>if (k:Int) ∈ l then z.getD k []++ZbT (E k) else z.getD k []
section
variable {recs:Nat->List (List Int)} {R:Nat->List Int} {fs:List (List Int)} {sh:List Int} {q:Nat}
theorem Zla {l:List Int} {k:Nat} (z:k<8):(fsP fs R l).getD k []=if (k:Int) ∈ l then fs.getD k []++ZbT (R k) else fs.getD k []:=by simp [fsP,List.getD,z]
theorem Zkv (h:fs.length=8):fsP fs R []=fs:=by
 apply List.ext_getElem?;intro k;unfold fsP
 by_cases z:k<8
 .simp [z,List.getD,h]
 rw [List.getElem?_eq_none yd,List.getElem?_eq_none ya]
theorem Ziq (F:sh.Pairwise (·<·)) (E:q<sh) {i:Nat} (K:sh.getD q 0=(i:Int)):(i:Int) ∉ sh.take q:=by
 intro z;rw [List.mem_take_iff_getElem] at z;obtain⟨j,H,e⟩:=z;have I:=List.pairwise_iff_getElem.1 F j q ya E ya;have:sh.getD q 0=sh[q]:=gD E;omega
theorem Zfi (z:q<sh) {i:Nat} (E:sh.getD q 0=(i:Int)) {k:Int}:k ∈ sh.take (q+1)↔k ∈ sh.take q\/k=(i:Int):=by
 rw [qj z,qH,qy];have F:sh.getD q 0=sh[q]:=gD z;rw [<-E,F]
theorem recsP_next (I:sh.Pairwise (·<·)) (E:q<sh) {i:Nat} (F:sh.getD q 0=(i:Int)) {k:Nat}:updF (Zcj recs R (sh.take q)) i (Zcj recs R (sh.take q) i++[R i]) k=Zcj recs R (sh.take (q+1)) k:=by
 have H:=Ziq I E F;unfold updF
 by_cases e:k=i
 .subst e;rw [qr rfl];unfold Zcj;rw [qo H,qr ((Zfi E F).2 (.inr rfl))]
 rw [qo e];unfold Zcj
 have:((k:Int) ∈ sh.take (q+1))↔((k:Int) ∈ sh.take q):=by
  rw [Zfi E F];exact⟨fun h=>h.resolve_right ya,.inl⟩
 by_cases z:(k:Int) ∈ sh.take q
 .rw [qr z,qr (this.2 z)]
 rw [qo z,qo (fun h=>z (this.1 h))]
theorem Zjo (L:sh.Pairwise (·<·)) (E:q<sh) {i:Nat} (F:sh.getD q 0=(i:Int)) (M:i<8):(fsP fs R (sh.take q)).set i ((fsP fs R (sh.take q)).getD i []++ZbT (R i))=fsP fs R (sh.take (q+1)):=by
 have K:=Ziq L E F;apply List.ext_getElem?;intro k;rw [List.getElem?_set]
 by_cases H:k<8
 .have I:∀ l,(fsP fs R l)[k]?=some (if (k:Int) ∈ l then fs.getD k []++ZbT (R k) else fs.getD k []):=(fun l=>by simp [fsP,H]);rw [I,I]
  by_cases e:i=k
  .subst e;rw [qr rfl,qr (by simp [fsP];omega),Zla H,qo K,qr ((Zfi E F).2 (.inr rfl))]
  rw [qo e]
  have:((k:Int) ∈ sh.take (q+1))↔((k:Int) ∈ sh.take q):=by
   rw [Zfi E F];exact⟨fun h=>h.resolve_right ya,.inl⟩
  by_cases z:(k:Int) ∈ sh.take q
  .rw [qr z,qr (this.2 z)]
  rw [qo z,qo (fun h=>z (this.1 h))]
 rw [List.getElem?_eq_none (by simp [fsP];omega),List.getElem?_eq_none (by simp [fsP];omega),qo ya]
theorem ZiS:∀ (z:List (List Int)) (i:Nat) (x:List Int),i<z->Zby (z.set i (z.getD i []++x))=Zby z+x.length
 | [],i,x,h=>by simp at h
 | l :: r,0,x,h=>by simp [Zby];omega
 | l :: r,i+1,x,h=>by
  have:=ZiS r i x (by simpa using h);simp only [Zby,List.set_cons_succ,qL,List.sum_cons,List.getD_cons_succ] at this ⊢;omega
theorem frameB_len {r:List Int} (h:r.length<=100000000):(ZbT r).length<=r+10:=by unfold ZbT;rw [qi];have:=Zz (n:=r) ya;omega
end
theorem ZhK {z:Nat->List (List Int)} {E:Nat->List Int} :(Zcj z E l n).length<=(z n).length+1:=by
 unfold Zcj;split
 .rw [qi,List.length_singleton];omega
 omega
def Zhc (z:Nat->List Int) (l:List Int):Nat:=(l.map fun (i:Int)=>(z i.toNat).length+10).sum
theorem ZgD {z:Nat->List Int} (E:n<l) (F:l.getD n 0=(k:Int)):Zhc z (l.drop n)=((z k).length+10)+Zhc z (l.drop (n+1)):=by
 unfold Zhc;rw [qq E,qL,List.sum_cons];have e:l[n]=(k:Int):=(by rw [<-F];simp [List.getD,E]);rw [e,qu]
structure ExR (w wi:World) (d n:Nat) (J:Nat->Nat) (V1 V2:Nat->Value) (SJ:Nat->Nat->Prop) (V:Nat->Value) (recs:Nat->List (List Int)) (room:Nat) (fs:List (List Int)) (V1' V2':Nat->Value) (SJ':Nat->Nat->Prop) (V':Nat->Value) (Nd':Nat->Int):Prop where
 jd:JdM wi d n J V1' V2' SJ' recs room V' Nd' fs
 fr:Fr (JdX d n J V1 V2 V) w wi
 x:∀ b,JdX d n J V1' V2' V' b->JdX d n J V1 V2 V b\/w.heap.size<=b
 s:∀ k,k<n->∀ b,SJ' k b->SJ k b\/w.heap.size<=b
theorem ExR.next {w E w':World} {d n:Nat} {J:Nat->Nat} {V1 V2:Nat->Value} {SJ:Nat->Nat->Prop} {V:Nat->Value} {W K:Nat->List (List Int)} {room:Nat} {Z L:List (List Int)} {I z:Nat->Value} {H:Nat->Nat->Prop} {F:Nat->Value} {N:Nat->Int}
 (h:ExR w E d n J V1 V2 SJ V W room Z I z H F N) (M:JdP d n J I z H F K room L E w'):∃ a1 a2 a3 a4 a5,ExR w w' d n J V1 V2 SJ V K room L a1 a2 a3 a4 a5:=by
 obtain⟨a1,a2,a3,a4,a5,U,O,aa,R,_⟩:=JdP.trans h.fr h.x h.s M;exact⟨a1,a2,a3,a4,a5,U,O,aa,R⟩
theorem ExR.out_ {w E:World} {d n:Nat} {J:Nat->Nat} {V1 V2:Nat->Value} {SJ:Nat->Nat->Prop} {V:Nat->Value} {I:Nat->List (List Int)} {room:Nat} {L:List (List Int)} {M z:Nat->Value} {K:Nat->Nat->Prop} {H:Nat->Value} {F:Nat->Int}
 (h:ExR w E d n J V1 V2 SJ V I room L M z K H F):JdP d n J V1 V2 SJ V I room L w E:=⟨M,z,K,H,F,h.jd,h.fr,h.x,h.s,h.jd.jd⟩
theorem extend_any {room:Nat} {d:Nat->Nat} {V2:Nat->Value} {SJ:Nat->Nat->Prop} {N:Nat->List (List Int)} {V:Nat->Value} {bI:Nat->Int} (bW:Nat) (bV:Nat) (E:Nat->List Int)  
 (be:yr w n 0 (.slice (some ⟨i,j,none⟩) m b)) (aD:∀ an,an<m->yr w i (j+an) (.pointer (some ⟨d an,0,none⟩))) (ar:JdM w k m d F V2 SJ N room V bI J) (bf:IntS w S A l) (aX:BysS w S B (l.map fun (h:Int)=>E h.toNat)) (O:∀ z,S z->z<w/\¬ JdX k m d F V2 V z) (bg:¬ JdX k m d F V2 V n) (aO:¬ JdX k m d F V2 V i)
 (aB:l.Pairwise (·<·)) (aG:∀ x ∈ l,0<=x/\x<(m:Int)) (b7:m<=4) (bl:∀ x ∈ l,Zbn (E x.toNat)/\(E x.toNat).length<=1000000/\0<(E x.toNat).length) (ab:Zby J+Zhc E l<=room) (bR:room<=16777216) (aL:∀ an,an<m->(N an).length<=900) :
 Calls prog 120 #[.pointer (some ⟨n,0,none⟩),.slice A l bW,.slice B l bV] w fun e w'=>e=.returned (.int .i64 0)/\JdP k m d F V2 SJ V (Zcj N E l) room (fsP J E l) w w':=by
 have bu:=ar.dsk.len;have bP:=hI be;replace aD:=hI aD;replace ar:=hI ar;have bq:=hI bf;replace aX:=hI aX;replace O:=hI O;replace bg:=hI bg;replace aO:=hI aO;replace aB:=hI aB;replace aG:=hI aG;replace bl:=hI bl;have bY:=hI ab;replace aL:=hI aL;have bL:n<w:=World.block_lt_of_cell? w _ be;have b3:=bf.len;clear be bf ab;have aN:=hI (show ∀ R,Fr (JdX k m d F V2 V) w R->Same S w R/\yr R n 0 (.slice (some ⟨i,j,none⟩) m b)/\∀ an,an<m->R.cell? ⟨i,j+an,none⟩=some (.pointer (some ⟨d an,0,none⟩)) from fun R aS=>⟨aS.same O,(aS.cell bL bg).trans bP,fun an aF=>(aS.cell (World.block_lt_of_cell? w _ (aD an aF)) aO).trans (aD an aF)⟩);go_enter func120,ntmps120
 go_wp2
 go_loopw [15] (fun h R=>∃ (q:Nat) (ah ak:Nat->Value) (af:Nat->Nat->Prop) (ai:Nat->Value) (am:Nat->Int),q<=l/\h=.int .i64 (q:Int)/\ExR w R k m d F V2 SJ V (Zcj N E (l.take q)) room (fsP J E (l.take q)) ah ak af ai am/\Zby (fsP J E (l.take q))+Zhc E (l.drop q)<=room) (fun h _=>l.length - (intOf h).toNat)
 case atStart=>exact⟨0,F,V2,SJ,V,bI,qk _,rfl,by rw [List.take_zero,Zkv bu];exact⟨⟨ar.jrs.congr (fun an aF=>by unfold Zcj;simp),ar.dsk,ar.ds⟩,Qa _ _,fun z L=>.inl L,fun an aF z L=>.inl L⟩,by rw [List.take_zero,List.drop_zero,Zkv bu];exact bY⟩
 obtain⟨ac,rfl⟩:∃ ac:World,ac=wr:=⟨_,rfl⟩;obtain⟨q,ah,ak,af,ai,am,bX,rfl,U,ab⟩:=hrel;have H:=hI U;replace ab:=hI ab;have ca:=U.fr.size;obtain⟨ao,aw,aH⟩:=aN ac U.fr;replace ao:=hI ao;replace aH:=hI aH;clear U;rcases qv q l.length with I | b6
 .obtain⟨bO,bS,rfl,b0,aJ⟩:=(bq.keep ao).at_ I;have ap:=ZbG (d:=(0:Int)) I;have av:=aG _ ap;have W:=bl _ ap;obtain⟨h,au⟩:=qn av.1;have aq:=hI au;rw [au] at aJ av W;rw [qu] at W;replace W:=hI W;clear au ap;have K:h<m:=ya;obtain⟨aj,bw,rfl,aU,bk,c2,aR,bm,aE⟩:=BysS.at_ (qU aX ao) (k:=q) (by rw [qg];exact I);have bE:(l.map fun (h:Int)=>E h.toNat).getD q []=E h:=(show (l.map fun (h:Int)=>E h.toNat).getD q []=E (l.getD q 0).toNat by simp [List.getD,I]).trans (by rw [aq,qu]);rw [bE] at aR bm aE;clear bE;replace aE:=hI aE;have bB:aj<ac:=(yl ((O aj aU).1));have bT:(q:Int)<(l:Int):=ya;have ay:=aH h K;have bM:i<ac:=World.block_lt_of_cell? ac _ ay;have bZ:n<ac:=ya;go_upto_region 4 with fail
  obtain⟨bN,bz,Z,-⟩:=dr ac;have b8:=Z.size;have bG:=c9Q Z bZ aw;have bJ:=c9Q Z bM ay;have aI:=c9Q Z bB aR;have az:=hI (H.jd.below Z nR);have bU:=hI (H.fr.trans (qW (X:=JdX k m d F V2 V) Z) (fun _ _ e=>e));obtain⟨bC,bj⟩:=yp (E h);have bQ:=hI bj;have aC:=jappend_any c2 (az.jrs.one h K) az.dsk (qU aE (qS Z (fun z L=>yl ((O z L).1)))) (fun z L=>⟨yl ((O z L).1),fun aV=>by rcases H.x z (.inr aV) with bp | bp;exact(O z L).2 bp;have:=(O z L).1;omega,fun aV=>by rcases H.x z (.inl ⟨h,K,aV⟩) with bp | bp;exact(O z L).2 bp;have:=(O z L).1;omega⟩) (az.ds h K) W.1 W.2.1 W.2.2 ya (by have bp:=ab.out;rw [ZgD I aq.out] at bp;omega) bR (qD ZhK (yl (aL h K))) (qD ZhK (yl (aL h K)));rw [bj] at aC bm aI;replace aC:=hI aC;clear bj aw ay aR;refine uS (fun w'=>w'.cell? ⟨n,0,none⟩=some (.slice (some ⟨i,j,none⟩) m b)/\w'.cell? ⟨i,j+h,none⟩=some (.pointer (some ⟨d h,0,none⟩))/\w'.cell? ⟨aj,bw+q,none⟩=some (.slice bk bC c2)) 14 15 fun Q' bo bK=>?_;rw [bz];clear bz;refine uR [0,12] bK ⟨bG,bJ,aI⟩ ?_;refine uQ 12 fun aA aa=>?_;go_simp;refine aC.mono ?_;rintro e w2 ⟨rfl,aK⟩;rw [<-bQ] at aK;have b2:=hI aK;have aY:=az.app K aK;have b9:=hI aY;obtain⟨a1,a2,a3,a4,a5,aM⟩:=ExR.next (w:=w) (V1:=F) (V2:=V2) (SJ:=SJ) (V:=V) ⟨az,bU,H.x,H.s⟩ aY;have bF:=hI aM;obtain⟨bH,bb,bt⟩:=aN w2 aM.fr;have bh:=bt h K;have aW:yr w2 aj (bw+q) (.slice bk bC c2):=(ql ((bH aj aU).trans ((ao aj aU).symm.trans (Z.block aj bB).symm))).trans aI;clear aK aY aM bH bt aC;refine aa _ _ (fun _=>⟨bb,bh,aW⟩) ?_;clear aa aA
  try simp only [Act.put,psA,psB,psC]
  refine uQ 13 fun aA aa=>?_;go_simp;refine(ZfD).mono ?_;rintro e aQ ⟨rfl,rfl⟩;refine aa _ _ (fun _=>⟨bb,bh,aW⟩) ?_;clear aa aA
  try simp only [Act.put,psA,psB,psC]
  refine uQ 14 fun aA aa=>?_;go_simp;refine aa _ _ nD ?_;clear aa aA;refine uE bo ?_;clear bo bK Q'
  have aT:ExR w aQ k m d F V2 SJ V (Zcj N E (l.take (q+1))) room (fsP J E (l.take (q+1))) a1 a2 a3 a4 a5:=by
   have bp:=bF.out;rw [Zjo aB.out I aq.out ya] at bp;exact⟨⟨bp.jd.jrs.congr (fun an _=>recsP_next aB I aq),bp.jd.dsk,bp.jd.ds⟩,bp.fr,bp.x,bp.s⟩
  have bi:Zby (fsP J E (l.take (q+1)))+Zhc E (l.drop (q+1))<=room:=by
   have bp:=ab.out;rw [ZgD I aq.out] at bp;rw [<-Zjo aB.out I aq.out ya,ZiS _ _ _ (by simp [fsP];omega)];have:=frameB_len (r:=E h) (yl W.2.1);omega
  replace aT:=hI aT;replace bi:=hI bi;clear bb bh aW bG bJ aI bF
  go_wp2
  go_roundw
  case rel=>exact⟨q+1,a1,a2,a3,a4,a5,ya,by go_num,aT,bi⟩
  simp [intOf];omega
 obtain rfl:q=l.length:=ya;have ax:=H.out;rw [qM] at ax;replace ax:=hI ax;clear aw
 go_wp2
 go_loopw [47] (fun h R=>∃ (q:Nat) (ah ak:Nat->Value) (af:Nat->Nat->Prop) (ai:Nat->Value) (am:Nat->Int),q<=l/\h=.int .i64 (q:Int)/\ExR w R k m d F V2 SJ V (Zcj N E l) room (fsP J E l) ah ak af ai am) (fun h _=>l.length - (intOf h).toNat)
 case atStart=>exact⟨0,_,_,_,_,_,qk _,rfl,ax⟩
 clear ax H ab ao aH;obtain⟨w2,rfl⟩:∃ w2:World,w2=wr:=⟨_,rfl⟩;obtain⟨q,ah,ak,af,ai,am,bX,rfl,U⟩:=hrel;have H:=hI U;have b5:=U.fr.size;obtain⟨bc,aw,aZ⟩:=aN w2 U.fr;replace bc:=hI bc;replace aZ:=hI aZ;clear U;rcases qv q l.length with I | cc
 .obtain⟨bO,bS,rfl,b0,aJ⟩:=(bq.keep bc).at_ I;have ap:=ZbG (d:=(0:Int)) I;have av:=aG _ ap;obtain⟨h,au⟩:=qn av.1;rw [au] at aJ av;clear au ap;have K:h<m:=ya;have bT:(q:Int)<(l:Int):=ya;have ay:=aZ h K;have bD:=hI (jsync_any (H.jd.jrs.one h K) H.jd.dsk (H.jd.ds h K) ya)
  go_wp2_with fail
  refine bD.mono ?_;rintro e aQ ⟨rfl,b1,br⟩;obtain⟨a1,a2,a3,a4,a5,aP⟩:=H.next (H.jd.sync br);replace aP:=hI aP;clear b1 br bD aw ay aJ
  go_wp2_with fail
  refine(ZfD).mono ?_;rintro e b4 ⟨rfl,rfl⟩
  go_wp2
  go_roundw
  case rel=>exact⟨q+1,a1,a2,a3,a4,a5,ya,by go_num,aP⟩
  simp [intOf];omega
 obtain rfl:q=l.length:=by omega
 go_wp2
 exact qw (v:=.int .i64 0) (by simp [results,results120,go_sem]) rfl ⟨rfl,H.out_⟩
structure OpN where
 gN:Nat
 As:Option Addr
 cs:Nat
structure OpE (wd W:World) (s:Sch) (b:OpN):Prop where
 bel:Below wd wd W
 lo:wd.heap.size<=b.gN
 blk:W.heap[b.gN]?=some (.cells zE9 67 (0,0))
 tab:TabS W (fun z=>wd<=z/\z<W/\z≠b.gN) b.As s.tt
def ZjN (s:Sch) (n:Nat) (es:List Ent) (st z:St):Hist:=⟨0,st,z,es,List.replicate 9 ent0,Zcu s n es⟩
structure OpnOk (s:Sch) (n:Nat) (es:List Ent) (st final:St):Prop where
 fol:FolOk s n 0 es
 fld:∀ i,i<n->FoldOk s i n 0 (Zdy s n es i)
 few:es.length<=1000
 recs:∀ i,i<n->(∀ r ∈ Zcu s n es i,r.length<=1000000/\Zbn r)/\(Zr (Zcu s n es i)).length<=100000000
 net:∃ N,netF (schF pcF s) s 1 (ZbH es)=(0,N)/\N.length<=1/\Zak (schF pcF s) s 1 st (advL N)=(0,final)
theorem ZeS {α:Type} {f:Nat->α} (d:α) (h:k<n):((List.range n).map f).getD k d=f k:=by simp [List.getD,h]
theorem ZiB {room:Nat} {V:Nat->Value} {cH:Nat->Int} (ae:Nat) (ao:Nat) {st:St} (bh:TabS w S A s.tt) (bf:StS w S B st) (W:∀ b,S b->b<w) (bz:DskM w n room V cH J)
 (b4:1<=k) (bT:k<=4) (aO:schF pcF s=0) (aN:StOk s 1 st) (aM:Zi st<=512) (bW:OpnOk s k I st o) (bJ:∀ i,i<k->J.getD i []=Zr (Zcu s k I i)) :
 Calls prog 14 #[.pointer (some ⟨n,0,none⟩),sAgg s.vv A s.tt ae,.int .i64 (k:Int),ZaM B st ao] w fun e w'=>∃ h a,e=.returned (.tuple #[.pointer (some ⟨h,0,none⟩),.int .i64 0])/\HisM w' h n s k (ZjN s k I st o) a/\(∀ b,HisB h a k I b->w<=b)/\Below w w w':=by
 obtain⟨dg,cO,dK,dC,du⟩:=qA infoPJ;obtain⟨w0,aI⟩:=yp ((w.alloc (.cells #[.int .i64 s.vv,.slice A s.tt ae] 25)).alloc (.cells #[.slice B st ao] 28));have av:Below w w w0:=(by rw [<-aI];exact((qa _ w).alloc nR _).alloc yb _);obtain⟨x,E⟩:=yp w.heap.size;have aX:=hI (show w0.heap[x]?=some (.cells #[.int .i64 s.vv,.slice A s.tt ae] 25 (0,0)) by rw [<-aI,<-E];exact(qd _ _ _ yb).trans (qb w _));have bG:=hI (show w0.heap[x+1]?=some (.cells #[.slice B st ao] 28 (0,0)) by rw [<-aI,<-E];exact heap_alloc_new' yb);have dw:decide ((k:Int)<1)=false:=qe ya;have dj:decide ((4:Int)<(k:Int))=false:=qe ya;have b7:Zv (schF pcF s) s 1 st=0:=(by rw [aO];exact aN.check rfl aM);have aP:=Zch (L:=pcF) (A:=A) ae (s:=s) 1 (B:=B) ao (st:=st) (S:=S) (w:=w0) (qU bh (qS av W)) (qU bf (qS av W)) (fun b z=>ym (W b z) av.size) (ZU (s:=s)) ya;rw [b7] at aP;replace aP:=hI aP;have cQ:yr w0 x 0 (.int .i64 s.vv):=Za aX 0 _ rfl;have c3:yr w0 x 1 (.slice A s.tt ae):=Za aX 1 _ rfl;have dJ:yr w0 (x+1) 0 (.slice B st ao):=Za bG 0 _ rfl;have cZ:=Zb aX;have dz:=Zb bG;replace av:=hI av;replace bh:=hI bh;replace bf:=hI bf;replace W:=hI W;replace bz:=hI bz;replace aO:=hI aO;replace aN:=hI aN;replace aM:=hI aM;have ar:=hI bW;replace bJ:=hI bJ;have dP:=bW.few;have:w<=x/\x<=w:=ya;clear bW b7;replace aI:=hI aI;have dN:=hI E;clear E;go_enter func14,ntmps14;go_upto_region 3 with fail
 rw [aI,dN]
 go_wp2_with fail
 refine aP.mono ?_;rintro e dA ⟨rfl,bZ⟩;have bQ:=hI bZ;have dF:=bZ.size;clear bZ cQ c3 dJ aP dw dj;go_upto_region 6 with fail
 have db:=run_make_notes;obtain⟨H,aE⟩:=yp dA.drew;have an:=hI (show Below w w H by rw [<-aE];exact(av.trans (bQ.mono av.size)).drew);have:w0.heap.size<=H:=(by rw [<-aE];exact dF);have bL:=hI (show H.heap[x]?=some (.cells #[.int .i64 s.vv,.slice A s.tt ae] 25 (0,0)) by rw [<-aE];exact(bQ.block _ cZ).trans aX);have SD:=hI (show H.heap[x+1]?=some (.cells #[.slice B st ao] 28 (0,0)) by rw [<-aE];exact(bQ.block _ dz).trans bG);have ab:=Zb bL;have ay:yr H x 0 (.int .i64 s.vv):=Za bL 0 _ rfl;have az:yr H x 1 (.slice A s.tt ae):=Za bL 1 _ rfl;have cm:=hI (show TabS H S A s.tt from qU bh (qS an W));refine uS (fun w'=>w'.cell? ⟨x,0,none⟩=some (.int .i64 s.vv)/\w'.cell? ⟨x,1,none⟩=some (.slice A s.tt ae)) 5 6 fun Q' b5 b2=>?_;rw [aE];clear aE;refine uR [0,1] b2 ⟨ay,az⟩ ?_;refine Zeh (β:=OpN) 3 (bA 6 7) (fun b de=>((de.put (some 31) (.agg #[.int .i64 s.vv,.slice b.As s.tt b.cs])).put (some 32) (.slice (some ⟨b.gN,0,none⟩) 9 9))) (fun b aA=>OpE H aA s b) (fun b aA U=>?_) (fun bH=>?_)
 .simp only [Act.put,psA,psB,psC];obtain⟨gN,O,cs⟩:=b;simp only at U ⊢;replace U:=hI U;clear db;have cV:=U.lo;have b9:=Zb U.blk;simp only at cV b9;have dU:=U.bel.size;have aV:=c9Q U.bel ab ay;have aj:=c9Q U.bel ab az;refine uR [3,1] b2 ⟨aV,aj⟩ ?_;refine uQ 4 fun aa aR=>?_;go_simp;obtain⟨ak,h,bg,be,aF,-⟩:=ag aA (.cells #[.slice none 0 0,.bool false,.int .i64 s.vv,.slice O s.tt cs,.int .i64 0,.slice none 0 0,.slice none 0 0,.slice none 0 0,.slice (some ⟨gN,0,none⟩) 9 9] 131);have dH:=hI (show ak.heap[h]?=some (.cells (hisL none 0 0 s O cs 0 (.slice none 0 0) (.slice none 0 0) (.slice none 0 0) (.slice (some ⟨gN,0,none⟩) 9 9)).toArray 131 (0,0)) by rw [<-bg,<-be];exact qb aA _);have:aA<=h/\h<=aA/\ak<=h+1/\h+1<=ak:=by refine⟨ya,ya,?_,?_⟩<;>(rw [<-bg,<-be];simp)
  try rw [bg]
  try rw [be]
  clear bg be;have cL:=c9J aF aV;have b3:=c9J aF aj;refine aR _ _ (fun _=>⟨cL,b3⟩) ?_;clear aR aa
  try simp only [Act.put,psA,psB,psC]
  refine uQ 5 fun aa aR=>?_;go_simp;refine aR _ _ nD ?_;clear aR aa;refine uE b5 ?_;clear b5 b2 Q';clear ay az aV aj cL b3;have bk:=hI (show Below w w ak from (an.trans (U.bel.mono an.size)).trans (aF.mono (yl an.size)));have cg:=hI ((aF.block _ ya).trans ((U.bel.block _ (Zb SD)).trans SD))
  go_wp2
  go_loopw [36] (fun i cN=>∃ (q:Nat) (am:Option Addr) (Z:Nat) (d:Nat->Nat) (V1 V2:Nat->Value) (SJ:Nat->Nat->Prop),q<=k/\i=.int .i64 (q:Int)/\OpnR ak cN h n s O cs (.slice (some ⟨gN,0,none⟩) 9 9) (Zcu s k I) q am Z d V1 V2 SJ) (fun i _=>k - (intOf i).toNat)
  case atStart=>exact⟨0,none,0,fun _=>0,fun _=>undef,fun _=>undef,fun _ _=>False,qk _,rfl,⟨Qa _ _,dH,Qg (fun b z=>z.elim),⟨fun es F=>absurd F ya,fun es m F=>absurd F ya⟩,fun es F=>absurd F ya,fun es F=>absurd F ya⟩⟩
  obtain⟨w2,rfl⟩:∃ w2:World,w2=wr:=⟨_,rfl⟩;obtain⟨q,am,Z,d,V1,V2,SJ,d3,rfl,bt⟩:=hrel;have bK:=hI bt;have dZ:=bt.fr.size;have cv:=Zb bt.hh;clear bt;have b1:=hI (show Below w w w2 from bk.trans (bK.fr.below (yl bk.size) (fun b z L=>ya)));rcases qv q k with cf | d1
  .have ch:=hI (ar.recs q cf);have cx:=hI (jopen_any (n:=n) (room:=room) (V:=V) (ai:=cH) (J:=J) (k:=q) (F:=Zcu s k I q) (w:=w2) (bz.below b1) ya (bJ q cf) ch.2 ch.1 (by rw [ZdQ,ZaJ];exact qD (qI _ _) yd))
   go_wp2_with fail
   refine cx.mono ?_;rintro e aS ⟨j,aC,aT,S',rfl,K,aW,bB,bO⟩;replace K:=hI K;replace aW:=hI aW;replace bB:=hI bB;replace bO:=hI bO;clear cx;have bI:=hI ((aW.block h cv).trans bK.hh);have dv:=Zb bI;have cy:yr aS h 0 (.slice am q Z):=Za bI 0 _ rfl;have cp:=hI (bK.own.below aW);have:q<=1000:=ya;have dq:ak.heap.size<=aS:=ya;go_upto_region 13 with fail
   go_upto_region 14 with (at_builtin;refine ZcA rfl (.tmp 53) (.tmp 55) 127 rfl (base:=ak.heap.size) (e:=132) (i:=dg) (size:=1) 8 underlying127 cO dK dC du rfl yf (w0:=aS) (A:=am) (n:=q) (c:=Z) cp (by rw [qg,List.length_range]) dq rfl (d:=ZcT j) #[.pointer (some ⟨j,0,none⟩)] (by unfold ZcT Dat.Vs;exact⟨rfl,trivial⟩) (by simp [ZcT,Dat.Plain,Value.oneCell']) rfl 1 rfl ya ya ?_;intro b8 cD aB ci d0 bM cJ;have cn:=hI ci;have dO:=hI bM;have di:=hI cJ;have cj:=hI (show Fr (fun b=>(Value.slice am q Z).ownBlock=some b) aS aB from Qc bM (fun b z L=>L.symm));have bb:=hI ((cj.block h dv (fun L=>yl ((cp.base_le L).1))).trans bI);have dm:yr aB h 0 (.slice am q Z):=Za bb 0 _ rfl;have dd:aB.frozen? ⟨h,0,none⟩=false:=Zd bb (k:=0);have dV:=Zb bb;clear ci bM cJ)
   obtain⟨bS,aG⟩:=yp (aB.setCell ⟨h,0,none⟩ (.slice (some ⟨b8,0,none⟩) (q+1) cD));have dl:=hI (show Fr (fun b=>b=h\/(Value.slice am q Z).ownBlock=some b) aS bS by rw [<-aG];exact(cj.mono (fun b z L=>.inr L)).setCell _ (fun _=>.inl rfl));have c4:=hI (show bS.heap[h]?=some (.cells (hisL (some ⟨b8,0,none⟩) (q+1) cD s O cs 0 (.slice none 0 0) (.slice none 0 0) (.slice none 0 0) (.slice (some ⟨gN,0,none⟩) 9 9)).toArray 131 (0,0)) by rw [<-aG];exact Zc (k:=0) bb);have cP:=hI (cn.keep (w':=bS) (by rw [<-aG];simp) (fun b z=>z.elim) (fun g aD=>by rw [<-aG];exact qc aB ⟨h,0,none⟩ _ g (by have:=(cn.base_le aD).1;show g≠h;omega)));rw [aG];clear aG dm dd;have da:=hI (bK.next ya K aW bB bO dl (di.imp id (fun L=>ya)) cP c4)
   go_wp2
   go_roundw
   case rel=>exact⟨q+1,_,_,_,_,_,_,ya,by go_num,da⟩
   simp [intOf];omega
  obtain rfl:q=k:=ya;have aQ:=bK.own
  obtain⟨N,rfl⟩:∃ N,am=some ⟨N,0,none⟩:=by
   obtain⟨vals,aj,_⟩:=aQ;rcases aj.2 with ⟨ac,aV⟩ | ⟨g,cap,dQ,ac,_⟩
   .rw [qg,List.length_range] at aV;omega
   injection ac with ac _ _;exact⟨g,ac⟩
  have dX:=aQ.base_le (g:=N) rfl;have cM:=aQ.typ (g:=N) rfl;replace cM:=hI cM
  have bj:∀ es,es<q->yr w2 N (0+es) (.pointer (some ⟨d es,0,none⟩)):=fun es F=>by
   obtain⟨-,-,cA⟩:=aQ.slice (S':=fun _=>True) (by rw [Ze (n:=8) (fun _=>rfl),List.length_range];omega) (fun b z=>trivial) (fun _ _ _ _=>trivial);rw [show (List.range q).map (fun es=>ZcT (d es))=((List.range q).map d).map ZcT by rw [List.map_map];rfl] at cA;obtain⟨b,dY,ac,_,aj⟩:=Qf (n:=1) (fun _=>rfl) 0 cA (k:=es) (by rw [qg,List.length_range];exact F);injection ac with ac;injection ac with ac dt;subst ac;subst dt;rw [Nat.mul_one,ZeS (f:=d) 0 F] at aj;unfold ZcT Dat.Held at aj;exact aj.1
  replace bj:=hI bj;clear aQ;have ct:=hI ((bK.fr.block (x+1) (yl (Zb cg)) (yl (Zb SD))).trans cg);have d2:=Zb ct;have cy:yr w2 (x+1) 0 (.slice B st ao):=Za ct 0 _ rfl;have dy:=hI (show StS w2 (fun b=>b<w2) B st from qZ (qU bf (qS b1 W)) (fun b z=>yl (W b z)));have aZ:=hI (show TabS w2 (fun b=>H<=b/\b<h/\b≠gN) O s.tt from qZ (qU U.tab (fun b z=>(bK.fr.block b (yl z.2.1) (yl z.2.1)).trans (aF.block b z.2.1))) (fun b z=>⟨z.1,yl z.2.1,z.2.2⟩));have cI:=hI (logs_any h (n:=q) (k:=n) (s:=s) (m:=N) (i:=0) (j:=Z) (A:=O) (b:=cs) (a:=0) (x:=.slice none 0 0) (xA:=.slice none 0 0) (xB:=.slice none 0 0) (dC:=.slice (some ⟨gN,0,none⟩) 9 9) (B:=B) ao (st:=st) (J:=d) (F:=V1) (V2:=V2) (SJ:=SJ) (ae:=Zcu s q I) (lgI s q I st) (S:=fun b=>b<w2) (w:=w2) bK.hh (qZ aZ (fun b z=>yl z.2.1)) dy (fun b z=>z) b4 bT aO aN aM bj bK.jrs (fun es F=>⟨by rw [ZdQ,ZaJ];exact qD (qI _ _) yd,fun r dI=>((ar.recs es F).1 r dI).1⟩) (fun i bR=>foldC_parts bK.hh (S:=fun b=>b<w2) (qZ aZ (fun b z=>yl z.2.1)) (fun b z=>z) (ar.fld i bR) bR))
  go_wp2_with fail
  refine cI.mono ?_;rintro e bu ⟨cq,cz,rfl,dR,bm,bX⟩;replace bm:=hI bm;have ax:=hI bX;have dW:=bX.size;clear bX cI cy;have dB:=hI ((ax.block h cv).trans bK.hh);obtain⟨ds,bY,cW,bD⟩:=ar.net;replace bY:=hI bY;replace bD:=hI bD;have aY:((List.range q).map (lgI s q I st)).length=q:=yb;have cd:=hI (restore_any h (n:=q) (s:=s) (A:=some ⟨N,0,none⟩) (k:=Z) (B:=O) (m:=cs) (i:=0) (x:=.slice none 0 0) (xA:=.slice none 0 0) (xB:=.slice (some ⟨gN,0,none⟩) 9 9) (first:=st) (o:=o) (L:=ds) (A':=cq) cz (N:=(List.range q).map (lgI s q I st)) (I:=I) (S:=fun b=>(H<=b/\b<h)\/(w2<=b/\b<bu)) (w:=bu) dB (qZ (qU aZ (fun b z=>ax.block b (yl z.2.1))) (fun b z=>.inl ⟨z.1,z.2.1⟩)) (qZ bm (fun b z=>.inr z)) aY (fun b z=>by rcases z with z | z;exact⟨yl z.2,yl z.2⟩;exact⟨z.2,yl z.1⟩) (fun j K=>by rw [ZeS _ K];rfl) (fun j K=>by rw [ZeS _ K];rfl) (fun j K=>by rw [ZeS _ K];rfl) (fun j K=>by rw [ZeS _ K];rfl) ar.fol ya b4 bT aO aN aM bY cW bD);replace aY:=hI aY
  go_wp2_with fail
  refine cd.mono ?_;rintro e au ⟨rfl,cw,ck,ca,cF,bl,bp,D,bc,cX,bF,cT,bC,aw,bE,bU⟩;replace bc:=hI bc;replace bF:=hI bF;replace bC:=hI bC;replace aw:=hI aw;replace bE:=hI bE;have aH:=hI bU;have dT:=bU.size;clear bU cd;have cu:=hI (bK.jrs.keep (w':=au) ya (fun es b F z=>(aH.block b (yl ((bK.jx F z).1)) (yl (bK.lo es F b z))).trans (ax.block b (bK.jx F z).1)));have ce:=hI (show ∀ es,es<q->au.cell? ⟨N,0+es,none⟩=some (.pointer (some ⟨d es,0,none⟩)) from fun es F=>(ql ((aH.block N ya ya).trans (ax.block N ya))).trans (bj es F));have cr:∀ i,i<q->(ZZ s q I i).length<=1000000:=(fun i bR=>by rw [ZaJ];exact qD (qI _ _) yd)
  have cK:=hI (mend_any h (n:=q) (k:=n) (s:=s) (m:=N) (i:=0) (j:=Z) (A:=O) (b:=cs) (c:=0) (d:=I) (x:=.slice cw st ck) (xA:=.slice ca o cF) (xB:=.slice (some ⟨gN,0,none⟩) 9 9) (B:=bl) (e:=bp) (A':=cq) cz (ao:=(List.range q).map (lgI s q I st)) (J:=d) (F:=V1) (V2:=V2) (SJ:=SJ) (N:=Zcu s q I) (S:=fun b=>w2<=b/\b<bu) (w:=au) bc (qU bm (fun b z=>aH.block b z.2 (yl z.1))) aY (fun b z=>yl z.2) (fun j K=>by rw [ZeS _ K];rfl) bT ce cu ya (fun j K p cG=>by
   rw [ZeS _ K] at cG;obtain⟨cC,dE,rfl⟩:=ZfK (d:=ent0) cG;obtain⟨bn,cE,c7,dG⟩:=ZdU (s:=s) ar.fol.eok (i:=j) (q:=cC) dE;have L:((lgI s q I st j).parts.getD cC ent0)=Zcl (I.getD bn ent0) j q (prtI s q j (I.getD bn ent0)):=(by rw [dG];exact(ZcI cE c7).2);rw [L];have aq:=ar.fol.eok.com bn cE;show (I.getD bn ent0).co<=_;omega) (fun j K=>by rw [ZeS _ K];exact⟨by rw [ZdQ];show (ZZ s q I j).length=0+(ZZ s q I j).length;omega,by rw [ZdQ];exact cr j K⟩))
  clear cr
  go_wp2_with fail
  refine cK.mono ?_;rintro e aB ⟨rfl,br⟩;replace br:=hI br;clear cK
  go_wp2_with fail
  have ap:∀ g,(Value.slice bl I bp).ownBlock=some g->bu<=g/\g<au:=fun g aD=>aw.base_le aD;have aU:∀ b,JrsX q d V1 V2 b->ak<=b/\b<w2:=fun b ⟨es,F,z⟩=>⟨bK.lo es F b (.inl z),(bK.jx F (.inl z)).1⟩;have dL:¬ JrsX q d V1 V2 N:=fun ⟨es,F,z⟩=>(bK.jx F (.inl z)).2 rfl;refine qw (v:=.tuple #[.pointer (some ⟨h,0,none⟩),.int .i64 0]) (by simp [results,results14,go_sem]) rfl ⟨h,⟨N,0,Z,O,cs,cw,ck,ca,cF,bl,bp,some ⟨gN,0,none⟩,9,d,V1,V2,SJ,fun b=>(H<=b/\b<h)\/b=N\/(w2<=b/\b<au/\some b≠(Value.slice bl I bp).ownBlock)⟩,rfl,HisM.below (B:=au) ?_ br nR,fun b z=>?_,?_⟩
  .have dM:∀ b,b<h->au.heap[b]?=ak.heap[b]?:=fun b z=>(aH.block b ya ya).trans ((ax.block b ya).trans (bK.fr.block b ya ya));refine⟨bc,qZ (qU aZ (fun b z=>(aH.block b (yl z.2.1) (yl z.2.1)).trans (ax.block b (yl z.2.1)))) (fun b z=>.inl ⟨z.1,z.2.1⟩),qZ bF (fun b z=>.inr (.inr ⟨yl z.1,yl z.2.1,z.2.2⟩)),cX,qZ bC (fun b z=>.inr (.inr ⟨yl z.1,yl z.2.1,z.2.2⟩)),cT,?_,?_,qp _,by simp [ZjN],ce,.inr (.inl rfl),cu,fun b z=>?_,fun E=>yl ((aU h E).1),fun g aD=>⟨yl ((ap g aD).1),fun E=>ym ((aU g E).2) ((ap g aD).1)⟩,fun es F b z=>⟨yl (bK.lo es F b (.inr z)),fun L=>ym ((ap b L).1) ((bK.jx F (.inr z)).1)⟩⟩
   .obtain⟨vals,c9,c8,cS⟩:=aw.out;refine OwnD.more ⟨vals,Zcw c9 (qk _),c8,cS⟩ (fun b z=>?_) (fun b z=>?_)
    .rcases(bE b z).2 with aq | aq
     .rcases aq with aq | aq
      .exact .inl aq
      exact .inr (.inr ⟨aq.1,yl aq.2,(aw.sub b z).2⟩)
     exact .inr (.inr ⟨ya,yl ((aw.sub b z).1),(aw.sub b z).2⟩)
    rcases z with z | z | z
    .exact⟨yl z.2,fun L=>ym ((ap b L.symm).1) z.2⟩
    .subst z;exact⟨ya,fun L=>yl ((ap _ L.symm).1)⟩
    exact z.2
   .exact notes_zero ((dM gN ya).trans ((aF.block gN b9).trans U.blk)) (.inl ⟨ya,ya⟩)
   rcases z with z | z | z
   .exact⟨yl z.2,fun E=>by
     rcases E with E | E | E
     .have:=z.2;omega
     .have:=(ap b E).1;have:=z.2;omega
     have:=(aU b E).1;have:=z.2;omega⟩
   .subst z
    exact⟨ya,fun E=>by
     rcases E with E | E | E
     .omega
     .have:=(ap _ E).1;omega
     exact dL E⟩
   exact⟨z.2.1,fun E=>by
    rcases E with E | E | E
    .have:=z.1;omega
    .exact z.2.2 E.symm
    have:=(aU b E).2;have:=z.1;omega⟩
  .have c5:=bk.size;rcases z with z | z | ⟨es,F,z⟩
   .rcases z with z | z | z
    .omega
    .have:=(ap b z).1;omega
    have:=(aU b z).1;omega
   .rcases z with z | z | z
    .have:=z.1;omega
    .omega
    have:=z.1;omega
   have:=bK.lo es F b (.inr z);omega
  have c5:=bk.size;exact((b1.trans (ax.mono ya)).trans (aH.below ya (fun b z L=>ya))).trans (br.mono ya)
 try simp only [Act.put,psA,psB,psC] at bH
 have aL:=hI (qa H H);refine anyL_two (k:=1) (m:=2) (oi:=⟨some 31,_,_,_,_,_⟩) (oj:=⟨some 32,_,_,_,_,_⟩) (Li:=(bA 6 3)) (Lj:=(bA 6 5)) rfl rfl ye ye ye (fun aa M=>?_) (fun aa M=>?_)
 .replace M:=hI M;go_simp;refine(ZcX s (A:=A) ae (S:=S) (w:=H) (qU cm (qS aL (fun b z=>ym (W b z) an.size))) (fun b z=>by have:=W b z;have:=an.size;have:=aL.size;omega)).mono ?_;rintro e aC ⟨O,cs,rfl,dc,ai,cc⟩;replace ai:=hI ai;have bq:=hI (show Below H H aC from aL.trans (cc.mono aL.size));have cR:=c9Q bq ab ay;have dx:=c9Q bq ab az;have dS:=cc.size;refine M _ _ (fun _=>⟨cR,dx⟩) ?_;clear M aa
  try simp only [Act.put,psA,psB,psC]
  refine uQ 2 fun aa M=>?_;go_simp;obtain⟨aT,bN,bo,aK⟩:=al aC (.cells zE9 67);have bo:=bo.out;have df:aT.heap.size<=aC+1/\aC.heap.size+1<=aT:=by rw [<-bN];simp
  try rw [bN]
  clear bN;have bV:=hI (show Below H H aT from bq.trans (bo.mono bq.size));have c6:=c9Q bV ab ay;have dD:=c9Q bV ab az;have ai:=hI (qU ai (qS bo (fun b z=>z.2)));refine M _ _ (fun _=>⟨c6,dD⟩) ?_;clear M aa
  try simp only [Act.put,psA,psB,psC]
  exact bH ⟨aC.heap.size,O,cs⟩ aT ⟨bV,by simp only;omega,aK,qZ ai (fun dk ah=>⟨yl ah.1,yl ah.2,by have:=ah.1;have:=ah.2;simp only;omega⟩)⟩
 replace M:=hI M;go_simp;obtain⟨ba,bP,b0,aK⟩:=al H (.cells zE9 67);have b0:=b0.out;have df:ba.heap.size<=H+1/\H.heap.size+1<=ba:=by rw [<-bP];simp
 try rw [bP]
 clear bP;have aJ:=hI (show Below H H ba from aL.trans (b0.mono aL.size));have dh:=c9Q aJ ab ay;have dp:=c9Q aJ ab az;refine M _ _ (fun _=>⟨dh,dp⟩) ?_;clear M aa
 try simp only [Act.put,psA,psB,psC]
 refine uQ 1 fun aa M=>?_;go_simp;refine(ZcX s (A:=A) ae (S:=S) (w:=ba) (qU cm (qS aJ (fun b z=>ym (W b z) an.size))) (fun b z=>by have:=W b z;have:=an.size;have:=aJ.size;omega)).mono ?_;rintro e co ⟨O,cs,rfl,dc,ai,b6⟩;replace ai:=hI ai;have bw:=hI (show Below H H co from aJ.trans (b6.mono aJ.size));have cU:=c9Q bw ab ay;have cY:=c9Q bw ab az;have aK:=hI ((b6.block _ (Zb aK)).trans aK);refine M _ _ (fun _=>⟨cU,cY⟩) ?_;clear M aa
 try simp only [Act.put,psA,psB,psC]
 exact bH ⟨H.heap.size,O,cs⟩ co ⟨bw,by simp only;omega,aK,qZ ai (fun dk ah=>⟨yl ah.1,yl ah.2,by have:=ah.1;have:=ah.2;simp only;omega⟩)⟩
structure HdM (w:World) (h d:Nat) (s:Sch) (n:Nat) (H:Hist) (a:HisA) (room:Nat) (V:Nat->Value) (Nd:Nat->Int) (fs:List (List Int)):Prop where
 his:HisM w h d s n H a
 dsk:DskM w d room V Nd fs
 dd:∀ b,a.D b->¬ DskX d V b
 ds:∀ k,k<n->∀ b,a.SJ k b->¬ DskX d V b
def HdX (h d:Nat) (a:HisA) (n m:Nat) (V:Nat->Value):Nat->Prop:=fun b=>HisX h a n m b\/DskX d V b
def HdB (h d:Nat) (a:HisA) (n m:Nat) (V:Nat->Value):Nat->Prop:=fun b=>HisB h a n m b\/DskX d V b
section
variable {w w':World} {h d n room:Nat} {s:Sch} {H:Hist} {a:HisA} {V:Nat->Value} {Nd:Nat->Int} {fs:List (List Int)}
theorem HdM.jd (z:HdM w h d s n H a room V Nd fs):JdM w d n a.J a.V1 a.V2 a.SJ H.recs room V Nd fs:=⟨z.his.jrs,z.dsk,z.ds⟩
theorem HdM.keep (z:HdM w h d s n H a room V Nd fs) (I:w.heap.size<=w') (F:∀ b,HdB h d a n H.es V b->w'.heap[b]?=w.heap[b]?):HdM w' h d s n H a room V Nd fs :=
 ⟨z.his.keep I (fun b E=>F b (.inl E)),z.dsk.keep (fun b E=>F b (.inr E)),z.dd,z.ds⟩
theorem HdM.blt (E:HdM w h d s n H a room V Nd fs):∀ b,HdB h d a n H.es V b->b<w:=fun b z=>by
 rcases z with z | z
 .exact E.his.blt b z
 exact E.dsk.xlt b z
theorem HdM.below {B:Nat} (z:HdM w h d s n H a room V Nd fs) (E:Below B w w') (I:w<=B):HdM w' h d s n H a room V Nd fs:=z.keep E.size (fun b F=>E.block b (yl (z.blt b F)))
theorem HdM.hd (z:HdM w h d s n H a room V Nd fs):¬ DskX d V h:=z.dsk.notX ⟨_,z.his.blk⟩ yf yf
theorem HdM.ed (z:HdM w h d s n H a room V Nd fs) {g:Nat} (E:(Value.slice a.AE H.es a.cE).ownBlock=some g):¬ DskX d V g:=z.dsk.notX (z.his.ent.typ E) yf yf
end
theorem Zjy {z:List (List Chg)} (h:Sl w S A (z.map ZW)) (I:n<z):∃ b E,A=some ⟨b,E,none⟩/\S b/\∃ A' c,yr w b (E+n) (.slice A' (z.getD n []).length c)/\(z.getD n []).length<=c/\ChgS w S A' (z.getD n []):=by
 obtain⟨b,E,e,N,F⟩:=Qf (n:=1) (fun _=>rfl) ([]:List Chg) h I;unfold ZW at F;simp only [Dat.Held,qg,Nat.mul_one] at F;obtain⟨A',c,K,M,H⟩:=F;exact⟨b,E,e,N,A',c,K,M,⟨H.1,fun L=>H.2 (by simpa using L)⟩⟩
def shB (n ow:Nat) (PL:List (List Chg)) (i:Nat):Bool:=decide (0<(PL.getD i []).length)||decide ((ow:Int) % (n:Int)=(i:Int))
def shT (n ow:Nat) (PL:List (List Chg)) (k:Nat):List Int:=((List.range k).filter (shB n ow PL)).map fun (i:Nat)=>(i:Int)
section
variable {n ow:Nat} {PL:List (List Chg)} {k:Nat}
theorem shT_next:shT n ow PL (k+1)=shT n ow PL k++(if shB n ow PL k then [(k:Int)] else []):=by
 unfold shT;rw [List.range_succ,List.filter_append,qm]
 congr 1
 by_cases h:shB n ow PL k=true
 .simp [h]
 simp [h]
theorem ZjT:(shT n ow PL k).length<=k:=by
 unfold shT;rw [qg];exact qD (qI _ _) yb
theorem shT_asc:(shT n ow PL k).Pairwise (·<·):=by
 unfold shT;rw [List.pairwise_map];refine List.Pairwise.filter _ (List.Pairwise.imp (fun {a b} h=>?_) List.pairwise_lt_range);omega
theorem shT_rng:∀ x ∈ shT n ow PL k,0<=x/\x<(k:Int):=by
 intro x z;unfold shT at z;obtain⟨i,E,rfl⟩:=qO.1 z;have:=List.mem_range.1 (List.mem_filter.1 E).1;omega
end
end Go.Proofs.YtjadnfodboepeaaGreat
