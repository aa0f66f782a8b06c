import Derived.Test.YtjadnfodboepeaaGreatKmi
import Derived.BigQuiet
set_option linter.all false
set_option maxRecDepth 100000
set_option maxHeartbeats 8000000
namespace Go.Proofs.YtjadnfodboepeaaGreat.Cut
open Tryz
open Go.RowKit
variable {w:World} {n k m i j:Nat} {A B A':Option Addr} {S S':Nat->Prop} {a t:Int} {l p q:List Int} {x:Value}
theorem take_succ_eq (xs z:List Int) (H:n<xs) (F:n<z) (h:xs.take n=z.take n) (E:xs.getD n 0=z.getD n 0):xs.take (n+1)=z.take (n+1):=by
 rw [qj H,qj F,h];simp [List.getD,H,F] at E;rw [E]
theorem equal_any (A B:Option Addr) (U cb:Nat) (xs z:List Int) (S:Nat->Prop) (w:World) (Z:Ints w S A xs) (R:Ints w S B z) (ak:xs.length<=9223372036854775807) (ai:z.length<=9223372036854775807) :
 Calls prog 86 #[.slice A xs U,.slice B z cb] w fun e w'=>e=.returned (.bool (decide (xs=z)))/\∃ k,w'=w.drewN k:=by
 by_cases E:xs.length=z.length
 .have hd:((xs:Int) != (z:Int))=false:=(by simp [E]);replace E:=hI E;go_enter func86,ntmps86
  go_wp2
  go_loopw [13] (fun i wr=>∃ k n:Nat,k<=xs/\i=.int .i64 k/\xs.take k=z.take k/\wr=w.drewN n) (fun i _=>xs.length - (intOf i).toNat)
  case atStart=>exact⟨0,0,qk _,rfl,rfl,rfl⟩
  obtain⟨k,n,ae,rfl,F,rfl⟩:=hrel;replace F:=hI F
  by_cases M:k<xs
  .have N:k<z:=(yl E.out);obtain⟨ab,ah,rfl,_,aa⟩:=Z.at_ M;obtain⟨aj,af,rfl,_,W⟩:=R.at_ N;have L:xs.getD k 0=z.getD k 0\/xs.getD k 0≠z.getD k 0:=ya;generalize H:xs.getD k 0=x at aa L;generalize K:z.getD k 0=y at W L;replace H:=hI H;replace K:=hI K;rcases L with I | I
   .subst I
    go_wp2
    go_quiet (fail)
    go_wp2
    go_roundw
    case rel=>exact⟨k+1,_,ya,by go_num,take_succ_eq xs z M N F (by rw [H,K]),rfl⟩
    simp [intOf];omega
   have:(x != y)=true:=by simp [I]
   go_wp2
   go_quiet (fail)
   go_wp2
   go_ret;refine⟨?_,_,World.drewN_drewN _ _ _⟩;have:¬ xs=z:=(by rintro rfl;exact I (H.symm.trans K));simp [this]
  go_wp2
  go_ret;refine⟨?_,_,rfl⟩;have O:=F.out;have ac:=E.out;rw [qs ya,qs ya] at O;simp [O]
 have hd:((xs:Int) != (z:Int))=true:=yd;go_enter func86,ntmps86
 go_wp2
 go_ret;refine⟨?_,0,rfl⟩;have:¬ xs=z:=(by rintro rfl;exact E rfl);simp [this]
def pairedB (xs z:List Int):Bool:=decide (xs.length=z.length)&&xs.all (fun x=>decide (0<=x))&&z.all (fun x=>decide (0<=x))
def IndexPost (l:List Int) (x:Int) (w:World) (e:Ending) (w':World):Prop:=∃ r:Int,e=.returned (.int .i64 r)/\(0<=r↔x ∈ l)/\w=w'
theorem mem_getD {l:List Int} {k:Nat} (z:k<l):l.getD k 0 ∈ l:=by simp [List.getD,z]
theorem notin_step (F:n<l) (h:a ∉ l.take n) (E:l.getD n 0≠a):a ∉ l.take (n+1):=by
 rw [take_snoc l n F,qH];simp [List.getD,F] at E;rintro(z | z)
 .exact h z
 exact E (qy.1 z).symm
theorem index_any (A:Option Addr) (M:Nat) (l:List Int) (x:Int) (S:Nat->Prop) (w:World) (K:Ints w S A l) (O:l.length<=9223372036854775807) :
 Calls prog 67 #[.slice A l M,.int .i64 x] w (IndexPost l x w):=by
 go_enter func67,ntmps67
 go_wp2
 go_loop [8] (fun i=>∃ k:Nat,k<=l/\i=.int .i64 k/\x ∉ l.take k) (fun i=>l.length - (intOf i).toNat)
 case atStart=>exact⟨0,qk _,rfl,yb⟩
 obtain⟨k,R,rfl,z⟩:=hrel;replace z:=hI z
 by_cases E:k<l
 .obtain⟨U,W,rfl,_,N⟩:=K.at_ E;have I:=hI (mem_getD E);generalize H:l.getD k 0=y at N I;replace H:=hI H
  by_cases F:x=y
  .subst F
   go_wp2
   go_ret;exact⟨k,rfl,by constructor<;>intro _<;>first | exact I | omega,rfl⟩
  have:(x == y)=false:=by simp [F]
  go_wp2
  go_round
  case rel=>exact⟨k+1,ya,by go_num,notin_step E z (by rw [H];exact fun e=>F e.symm)⟩
  simp [intOf];omega
 have L:=hI (show x ∉ l by have:=z.out;rwa [qs ya] at this)
 go_wp2
 go_ret;exact⟨-1,rfl,by constructor<;>intro h<;>first | exact absurd h L | omega,rfl⟩
theorem contains_any (F:Ints w S A l) (K:l.length<=9223372036854775807) :
 Calls prog 26 #[.slice A l n,.int .i64 a] w fun e w'=>e=.returned (.bool (decide (a ∈ l)))/\w=w':=by
 go_enter func26,ntmps26
 go_wp2_with fail
 refine(index_any A n l a S w F K).mono ?_;rintro e w' ⟨r,rfl,z,rfl⟩;replace z:=hI z
 go_wp2
 go_ret;refine⟨?_,rfl⟩;have:=z.out;show Ending.returned (.bool (decide (0<=r)))=_
 by_cases h:a ∈ l
 .simp [h,this.2 h]
 have I:¬ 0<=r:=fun H=>h (this.1 H);simp [h,I]
def FitRel (l:List Int) (m:Int) (k:Nat) (v:Int):Prop:=(l.take k).Pairwise (·<·)/\(∀ y ∈ l.take k,0<=y/\y<m)/\Zda (-1) (l.take k) v
theorem shardsFit_any {own:Int} (H:Ints w S A l) (N:l.length<=9223372036854775807) :
 Calls prog 137 #[.slice A l n,.int .i64 own,.int .i64 a] w fun e w'=>e=.returned (.bool (Zhj a own l))/\w=w':=by
 go_enter func137,ntmps137
 go_wp2
 go_loop [7,12] (fun t i=>∃ (k:Nat) (v:Int),k<=l/\i=.int .i64 k/\t=.int .i64 v/\FitRel l a k v) (fun _ i=>l.length - (intOf i).toNat)
 case atStart=>exact⟨0,-1,qk _,rfl,rfl,yb,yb,by simpa using Zev (-1)⟩
 obtain⟨k,v,R,rfl,rfl,z⟩:=hrel
 by_cases F:k<l
 .obtain⟨U,W,rfl,_,M⟩:=H.at_ F;generalize E:l.getD k 0=y at M;replace E:=hI E
  by_cases L:y<=v
  .go_wp2
   go_ret;exact⟨by rw [ZcR F E.out z.2.2 (.inl L)];rfl,rfl⟩
  by_cases K:a<=y
  .go_wp2
   go_ret;exact⟨by rw [ZcR F E.out z.2.2 (.inr K)];rfl,rfl⟩
  go_wp2
  go_round
  case rel=>exact⟨k+1,y,ya,by go_num,rfl,ZcQ F E z.1 z.2.1 z.2.2 ya ya⟩
  simp [intOf];omega
 have O:=hI (Zju (t:=own) ya z.1 z.2.1)
 go_wp2_with fail
 refine(contains_any H N).mono ?_;rintro e w' ⟨rfl,rfl⟩
 go_wp2
 go_ret;exact⟨by rw [O];rfl,rfl⟩
theorem fitRel_last (H:n<=l) (z:(l.take n).Pairwise (·<·)) (E:∀ y ∈ l.take n,0<=y/\y<a):Zda (-1) (l.take n) (if n=0 then -1 else l.getD (n - 1) 0):=by
 rcases qF n with rfl | h
 .simpa using Zev (-1)
 obtain⟨j,rfl⟩:∃ j,n=j+1:=⟨n - 1,ya⟩;rw [qo ya,Nat.add_sub_cancel];rw [take_snoc l j ya] at z E ⊢;have e:l.getD j 0=l[j]:=(by simp [List.getD,show j<l.length by omega]);rw [e];rw [List.pairwise_append] at z;refine⟨fun x F=>?_,?_,.inr (qH.2 (.inr (qy.2 rfl)))⟩
 .rcases qH.1 F with h | h
  .have:=z.2.2 x h l[j] yb;omega
  have:x=l[j]:=(by simpa using h);omega
 have:=E l[j] (qH.2 (.inr (qy.2 rfl)));omega
theorem mem_take_succ (z:n<l) (E:l.getD n 0=t):decide (a ∈ l.take (n+1))=(decide (a ∈ l.take n)||(t == a)):=by
 have e:l[n]=t:=(by simpa [List.getD,z] using E);rw [take_snoc l n z,e,Bool.eq_iff_iff,Bool.or_eq_true,decide_eq_true_iff,decide_eq_true_iff,qH,qy,beq_iff_eq];constructor<;>rintro(h | h)<;>simp [h]
theorem fits_any (A:Option Addr) (ac:Nat) (l:List Int) (own m:Int) (S:Nat->Prop) (w:World) (O:Ints w S A l) (aq:l.length<=9223372036854775807) :
 Calls prog 239 #[.slice A l ac,.int .i64 m,.int .i64 own] w fun e w'=>e=.returned (.bool (Zhj m own l))/\w=w':=by
 go_enter func239,ntmps239
 go_wp2
 go_loop [7,12] (fun t i=>∃ (k:Nat),k<=l/\i=.int .i64 k/\t=.bool (decide (own ∈ l.take k))/\(l.take k).Pairwise (·<·)/\(∀ y ∈ l.take k,0<=y/\y<m)) (fun _ i=>l.length - (intOf i).toNat)
 case atStart=>exact⟨0,qk _,rfl,yb,yb,yb⟩
 obtain⟨k,aa,rfl,rfl,F,H⟩:=hrel;have I:=hI (fitRel_last aa F H);replace F:=hI F;replace H:=hI H
 by_cases E:k<l
 .obtain⟨U,ae,rfl,_,R⟩:=O.at_ E;have M:=hI (fun y z=>mem_take_succ (a:=own) (t:=y) E z)
  have K:0<k->w.cell? ⟨U,ae+(k - 1),none⟩=some (.int .i64 (l.getD (k - 1) 0)):=fun h=>by
   obtain⟨ap,ao,N,_,ah⟩:=O.at_ (show k - 1<l.length by omega);injection N with N;injection N with ak am;subst ak am;exact ah
  generalize z:l.getD k 0=y at R;replace z:=hI z;generalize decide (own ∈ l.take k)=found at M ⊢
  by_cases an:y<0
  .clear K
   go_wp2
   go_ret;exact⟨by rw [ZcR E z.out I.out (.inl (yl I.2.1))];rfl,rfl⟩
  by_cases W:m<=y
  .clear K
   go_wp2
   go_ret;exact⟨by rw [ZcR E z.out I.out (.inr W)];rfl,rfl⟩
  rcases qF k with rfl | ab
  .clear K;simp only [Nat.add_zero] at R;cases found
   all_goals
    go_wp2
    go_round
    case rel=>exact⟨1,ya,by go_num,by rw [M.out y z.out];simp,(ZcQ E z F H I yd ya).1,(ZcQ E z F H I yd ya).2.1⟩
    simp [intOf];omega
  have af:=K ab;clear K;have L:=hI (show Zda (-1) (l.take k) (l.getD (k - 1) 0) by have:=I.out;rwa [qo ya] at this);clear I;generalize l.getD (k - 1) 0=v at af L
  by_cases ai:y<=v
  .go_wp2
   go_ret;exact⟨by rw [ZcR E z.out L.out (.inl ai)];rfl,rfl⟩
  cases found
  all_goals
   go_wp2
   go_round
   case rel=>exact⟨k+1,ya,by go_num,by rw [M.out y z.out];simp,(ZcQ E z F H L ya ya).1,(ZcQ E z F H L ya ya).2.1⟩
   simp [intOf];omega
 have Z:=hI (Zju (t:=own) ya F H);have aj:=hI (show l.take k=l from qs ya);clear F H I;rw [aj.out]
 go_wp2
 go_ret;exact⟨by rw [Z.out];rfl,rfl⟩
abbrev nilS:Stp:=(0,[])
def StampAt (w:World) (S:Nat->Prop) (b z:Nat) (s:Stp):Prop :=
 w.cell? ⟨b,z,none⟩=some (.int .i64 s.1)/\∃ A c,w.cell? ⟨b,z+1,none⟩=some (.slice A s.2 c)/\Ints w S A s.2/\s.2.length<=17592186044416
def Stamps (w:World) (S:Nat->Prop) (A:Option Addr) (l:List Stp):Prop :=
 l.length<=17592186044416/\(0<l.length->∃ b z,A=some ⟨b,z,none⟩/\S b/\∀ k,k<l.length->StampAt w S b (z+k*2) (l.getD k nilS))
def Logs (w:World) (S:Nat->Prop) (A:Option Addr) (z:List (List Stp)):Prop :=
 z.length<=17592186044416/\(0<z.length->∃ b E,A=some ⟨b,E,none⟩/\S b/\∀ k,k<z.length->∃ A' c,w.cell? ⟨b,E+k,none⟩=some (.slice A' (z.getD k []).length c)/\Stamps w S A' (z.getD k []))
section
variable {w w':World} {S S':Nat->Prop} {A:Option Addr} {l:List Stp} {L:List (List Stp)}
theorem StampAt.keep {b E:Nat} {s:Stp} (h:StampAt w S b E s) (z:Same S w w') (F:S b):StampAt w' S b E s:=by
 obtain⟨K,A,c,H,L,I⟩:=h;exact⟨(z.cell F).trans K,A,c,(z.cell F).trans H,L.keep z,I⟩
theorem StampAt.more {b z:Nat} {s:Stp} (h:StampAt w S b z s) (F:∀ b,S b->S' b):StampAt w S' b z s:=by
 obtain⟨I,A,c,E,K,H⟩:=h;exact⟨I,A,c,E,K.more F,H⟩
theorem Stamps.keep (h:Stamps w S A l) (E:Same S w w'):Stamps w' S A l :=
 ⟨h.1,fun K=>by
  obtain⟨b,F,e,z,I⟩:=h.2 K;exact⟨b,F,e,z,fun k H=>(I k H).keep E z⟩⟩
theorem Stamps.more (h:Stamps w S A l) (z:∀ b,S b->S' b):Stamps w S' A l :=
 ⟨h.1,fun K=>by
  obtain⟨b,E,e,H,I⟩:=h.2 K;exact⟨b,E,e,z b H,fun k F=>(I k F).more z⟩⟩
theorem Stamps.at_ {k:Nat} (h:Stamps w S A l) (F:k<l):∃ b z,A=some ⟨b,z,none⟩/\S b/\StampAt w S b (z+k*2) (l.getD k nilS):=by
 obtain⟨b,z,e,H,E⟩:=h.2 ya;exact⟨b,z,e,H,E k F⟩
theorem Logs.keep (h:Logs w S A L) (z:Same S w w'):Logs w' S A L :=
 ⟨h.1,fun N=>by
  obtain⟨b,F,e,E,M⟩:=h.2 N;refine⟨b,F,e,E,fun k H=>?_⟩;obtain⟨A',c,K,I⟩:=M k H;exact⟨A',c,(z.cell E).trans K,I.keep z⟩⟩
theorem Logs.more (h:Logs w S A L) (z:∀ b,S b->S' b):Logs w S' A L :=
 ⟨h.1,fun N=>by
  obtain⟨b,E,e,K,M⟩:=h.2 N;refine⟨b,E,e,z b K,fun k F=>?_⟩;obtain⟨A',c,I,H⟩:=M k F;exact⟨A',c,I,H.more z⟩⟩
theorem Logs.at_ {k:Nat} (h:Logs w S A L) (E:k<L):∃ b z A' c,A=some ⟨b,z,none⟩/\S b/\yr w b (z+k) (.slice A' (L.getD k []).length c)/\Stamps w S A' (L.getD k []):=by
 obtain⟨b,z,e,I,K⟩:=h.2 ya;obtain⟨A',c,H,F⟩:=K k E;exact⟨b,z,A',c,e,I,H,F⟩
end
def lessB (xs z:List Int) (k:Nat):Bool:=(List.range k).any fun j=>decide (xs.getD j 0<z.getD j 0)
def cmpN (l g:Bool):Int:=match l,g with
 | true,true=>3
 | true,false=>1
 | false,true=>2
 | false,false=>0
def cmpC (xs z:List Int):Int:=if pairedB xs z then cmpN (lessB xs z xs) (lessB z xs xs) else 0
def Zbp (l:List Int):Array Value:=(l.map (Value.int .i64)).toArray
theorem intCells_get (l:List Int) (h:n<l):(Zbp l)[n]?=some (.int .i64 (l.getD n 0)):=by
 simp [Zbp,h]
theorem intCells_set (l:List Int) (k:Nat) (x:Int):(Zbp l).setIfInBounds k (.int .i64 x)=Zbp (l.set k x):=by
 simp [Zbp]
theorem made_ints (n:Nat):madeCells (Value.int .i64 0).cells (n*1)=Zbp (List.replicate n 0):=by
 apply Array.ext
 .simp [size_madeCells,Zbp]
 intro i z E;simp [madeCells,Zbp,Value.cells,Nat.mod_one]
theorem info3:(prog.info? 3).map (fun i=>(i.zero,i.size,i.bytes))=some (some (.int .i64 0),1,8):=by kernel_rfl
theorem run_make_ints (n:Nat) (L:n<=35184372088832) (w:World) :
 (Instr.makeSlice 65 (.int .i64 (n:Int)) (.int .i64 (n:Int))).run prog w=.ok (.slice (some ⟨w,0,none⟩) n n) (w.alloc (.cells (Zbp (List.replicate n 0)) 3)):=by
 obtain⟨z,K,H,I,E⟩:=qA info3;have F:=run_make (P:=prog) w 65 3 z _ underlying65 K H .i64 .i64 n n ya ya (by rw [E];omega) ya;rw [F,I];simp only [qu,made_ints]
def Row (w:World) (g:Nat) (l:List Int):Prop:=w.heap[g]?=some (.cells (Zbp l) 3 (0,0))
section
variable {w w':World} {g:Nat} {l:List Int}
theorem Row.lt (h:Row w g l):g<w:=by
 rcases qv g w.heap.size with E | z
 .exact E
 unfold Row at h;rw [Array.getElem?_eq_none z] at h;cases h
theorem Row.cell (h:Row w g l) {k:Nat} (z:k<l):w.cell? ⟨g,k,none⟩=some (.int .i64 (l.getD k 0)):=by
 unfold Row at h;simp only [World.cell?,h];exact intCells_get l z
theorem Row.frozen (h:Row w g l) (k:Nat):w.frozen? ⟨g,k,none⟩=false:=by
 unfold Row at h;simp [World.frozen?,h]
theorem Row.set_ (h:Row w g l) (k:Nat) (x:Int):Row (w.setCell ⟨g,k,none⟩ (.int .i64 x)) g (l.set k x):=by
 unfold Row at h ⊢;simp [World.setCell,Array.getElem?_modify,h,intCells_set]
theorem Row.keep (h:Row w g l) (z:w'.heap[g]?=w.heap[g]?):Row w' g l:=z.trans h
theorem Row.drewN (h:Row w g l) (n:Nat):Row (w.drewN n) g l:=h
theorem Row.new (w:World) (l:List Int):Row (w.alloc (.cells (Zbp l) 3)) w l:=qb w _
theorem Row.ints (h:Row w g l):Ints w (fun b=>b=g) (some ⟨g,0,none⟩) l :=
 ⟨yb,fun F=>⟨g,0,rfl,rfl,fun j u E=>by
  have z:j<l:=by
   have:=(qR.1 E).1;simpa using this
  simp [z] at E;rw [qx,h.cell z,<-E];simp [z]⟩⟩
end
def Zcr (z:List (List Stp)) (i:Nat) (k:Int):Stp:=(z.getD i []).getD k.toNat nilS
def Zdv (E:List (List Stp)) (c p:List Int) (i:Nat) (z:Int):Bool:=decide (p.getD i 0<c.getD i 0)&&((Zcr E i (p.getD i 0)).1 == z)
structure CutOk (L:List (List Stp)) (c p:List Int):Prop where
 lc:c.length=L.length
 lp:p.length=L.length
 pos:∀ i,i<L.length->0<=p.getD i 0
 top:∀ i,i<L.length->c.getD i 0<=(L.getD i []).length
theorem stands_any {z:List (List Stp)}    
 (U:Logs w S A z) (O:Ints w S' B l) (aa:Ints w S' A' p) (F:CutOk z l p) (ai:0<=a) (au:a<z) :
 Calls prog 139 #[.slice A z n,.slice B l k,.slice A' p m,.int .i64 a,.int .i64 t] w fun e w'=>e=.returned (.bool (Zdv z l p a.toNat t))/\∃ T,w'=w.drewN T:=by
 obtain⟨i,rfl⟩:=qn ai;have L:i<z:=ya;have ak:=F.lc;have an:=F.lp;obtain⟨ao,ax,rfl,_,c1⟩:=O.at_ (show i<l.length by omega);obtain⟨aA,aw,rfl,_,c2⟩:=aa.at_ (show i<p.length by omega);obtain⟨aq,ay,am,ap,rfl,_,aj,K⟩:=U.at_ L;have Z:=F.pos i L;have ac:=F.top i L;have E:=hI (show Zdv z l p i t=(decide (p.getD i 0<l.getD i 0)&&(((z.getD i []).getD (p.getD i 0).toNat nilS).1 == t)) from rfl);have:(i:Int)<l:=ya;have:(i:Int)<p:=ya;clear ak an F U O aa;generalize p.getD i 0=x at c2 Z E;generalize l.getD i 0=y at c1 ac E;generalize z.getD i []=cl at aj K ac E;rw [qu,E];obtain⟨T,rfl⟩:=qn Z
 by_cases N:(T:Int)<y
 .have ah:T<cl:=ya;obtain⟨aB,aC,rfl,_,ae,av,az,ab,_,_⟩:=K.at_ ah;rw [qu];generalize cl.getD T nilS=s at ae ab;obtain⟨aD,ar⟩:=s;simp only at ae ab;clear K E;go_enter func139,ntmps139
  go_wp2
  go_quiet (fail)
  go_wp2
  go_ret;refine⟨?_,_,rfl⟩;simp [N]
 have hd:decide ((T:Int)<y)=false:=(by simpa using N);clear K E;go_enter func139,ntmps139
 go_wp2
 go_quiet (fail)
 go_wp2
 go_ret;refine⟨?_,_,rfl⟩;show Ending.returned (.bool false)=_;rw [hd];rfl
def Zcg (z:List (List Stp)) (c p:List Int) (k:Nat) (found:Bool) (s:Stp):Prop :=
 (found=false/\∀ i,i<k->¬ p.getD i 0<c.getD i 0) \/
 (found=true/\(∃ i,i<k/\p.getD i 0<c.getD i 0/\s=Zcr z i (p.getD i 0))/\∀ i,i<k->p.getD i 0<c.getD i 0->s.1<=(Zcr z i (p.getD i 0)).1)
theorem ZgH {H:List (List Stp)} {found:Bool} {s:Stp} (h:Zcg H l p n found s) (z:¬ p.getD n 0<l.getD n 0\/(found=true/\s.1<=(Zcr H n (p.getD n 0)).1)):Zcg H l p (n+1) found s:=by
 rcases h with ⟨F,h⟩ | ⟨F,⟨i,K,M,N⟩,h⟩
 .refine .inl ⟨F,fun i K=>?_⟩;rcases Nat.lt_succ_iff_lt_or_eq.1 K with E | E
  .exact h i E
  rcases z with z | z
  .rw [E];exact z
  rw [F] at z;simp at z
 refine .inr ⟨F,⟨i,ya,M,N⟩,fun j L I=>?_⟩;rcases Nat.lt_succ_iff_lt_or_eq.1 L with E | E
 .exact h j E I
 subst E;rcases z with z | z
 .exact absurd I z
 exact z.2
theorem least_take {F:List (List Stp)} {found:Bool} {s:Stp} (h:Zcg F l p n found s) (K:p.getD n 0<l.getD n 0) (z:found=false\/(Zcr F n (p.getD n 0)).1<s.1):Zcg F l p (n+1) true (Zcr F n (p.getD n 0)):=by
 refine .inr ⟨rfl,⟨n,ya,K,rfl⟩,fun j L I=>?_⟩;rcases Nat.lt_succ_iff_lt_or_eq.1 L with E | E
 .rcases h with ⟨H,h⟩ | ⟨H,_,h⟩
  .exact absurd I (h j E)
  have:=h j E I;rcases z with z | z
  .rw [H] at z;simp at z
  omega
 subst E;exact Int.le_refl _
def ZjI (z:List (List Stp)) (c p:List Int) (S:Nat->Prop) (w:World) (e:Ending) (w':World):Prop :=
 ∃ (found:Bool) (s:Stp) (A:Option Addr) (cap:Nat),e=.returned (.tuple #[.agg #[.int .i64 s.1,.slice A s.2 cap],.bool found])/\Zcg z c p z found s/\Ints w' S A s.2/\s.2.length<=17592186044416/\Below w w w'
def Cell2 (w:World) (g:Nat) (x y:Value):Prop:=w.heap[g]?=some (.cells #[x,y] 175 (0,0))
theorem Cell2.c0 {w:World} {g:Nat} {x y:Value} (h:Cell2 w g x y):w.cell? ⟨g,0,none⟩=some x:=by unfold Cell2 at h;simp [World.cell?,h]
theorem Cell2.c1 {w:World} {g:Nat} {x y:Value} (h:Cell2 w g x y):w.cell? ⟨g,0+1,none⟩=some y:=by unfold Cell2 at h;simp [World.cell?,h]
theorem Cell2.f {w:World} {g:Nat} {x y:Value} (h:Cell2 w g x y) (k:Nat):w.frozen? ⟨g,k,none⟩=false:=by unfold Cell2 at h;simp [World.frozen?,h]
theorem Cell2.lt {w:World} {g:Nat} {x y:Value} (h:Cell2 w g x y):g<w:=by
 rcases qv g w.heap.size with E | z
 .exact E
 unfold Cell2 at h;rw [Array.getElem?_eq_none z] at h;cases h
theorem Cell2.set2 {w:World} {g:Nat} {x y:Value} (h:Cell2 w g x y) (a b:Value):Cell2 ((w.setCell ⟨g,0,none⟩ a).setCell ⟨g,1,none⟩ b) g a b:=by
 unfold Cell2 at h ⊢;simp [World.setCell,Array.getElem?_modify,h]
theorem Zej (w:World) (a:Value) (i:Nat) (z:i≠n):((w.setCell ⟨n,0,none⟩ a).setCell ⟨n,1,none⟩ x).heap[i]?=w.heap[i]? :=
 (qc _ ⟨n,1,none⟩ x i z).trans (qc _ ⟨n,0,none⟩ a i z)
theorem Zgu {wr:World} (h:Below n w wr) (z:n<=k) (a:Value) :Below n w ((wr.setCell ⟨k,0,none⟩ a).setCell ⟨k,1,none⟩ x):=(h.setCell (p:=⟨k,0,none⟩) z a).setCell (p:=⟨k,1,none⟩) z x
theorem ZhR {H:List (List Stp)} {wr:World} {found:Bool} {z:List Int} {cap:Nat} (nq:Nat) (aj:n<H) (ai:∀ b,S b->b<w)
 (h:Zcg H l p n found (a,q)) (R:p.getD n 0=(k:Int)) (Z:p.getD n 0<l.getD n 0) (O:Zcr H n (k:Int)=(t,z)) (af:found=false\/t<a)
 (W:Cell2 wr w (.int .i64 0) (.slice none 0 0)) (aa:Cell2 wr (w+1) (.int .i64 a) (.slice A q cap)) (M:Below w w wr) (ae:Ints wr S B z) (ab:z.length<=17592186044416) :
 ∃ (L:Nat) (found:Bool) (s:Stp) (A:Option Addr) (cap:Nat),L<=H/\Value.int .i64 ((n:Int)+1)=.int .i64 L/\Value.bool true=.bool found/\Zcg H l p L found s /\
  Ints (((wr.drewN nq).setCell ⟨w+1,0,none⟩ (.int .i64 t)).setCell ⟨w+1,1,none⟩ (.slice B z m)) S A s.2/\s.2.length<=17592186044416 /\
  Cell2 (((wr.drewN nq).setCell ⟨w+1,0,none⟩ (.int .i64 t)).setCell ⟨w+1,1,none⟩ (.slice B z m)) w (.int .i64 0) (.slice none 0 0) /\
  Cell2 (((wr.drewN nq).setCell ⟨w+1,0,none⟩ (.int .i64 t)).setCell ⟨w+1,1,none⟩ (.slice B z m)) (w+1) (.int .i64 s.1) (.slice A s.2 cap) /\
  Below w w (((wr.drewN nq).setCell ⟨w+1,0,none⟩ (.int .i64 t)).setCell ⟨w+1,1,none⟩ (.slice B z m)):=by
 have ah:Below w w (wr.drewN nq):=below_drewN M nq;have ac:Cell2 (wr.drewN nq) (w+1) (.int .i64 a) (.slice A q cap):=aa;have U:=least_take h Z (by rw [R,O];exact af);rw [R,O] at U;refine⟨n+1,true,(t,z),B,m,ya,yb,rfl,U,ae.keep (fun b M=>?_),ab,?_,ac.set2 _ _,Zgu ah ya _⟩
 .exact Zej (wr.drewN nq) _ b (yl (ai b M))
 exact(Zej (wr.drewN nq) _ _ ya).trans W
theorem next_any (au ax aA:Option Addr) (cl aG aR:Nat) (z:List (List Stp)) (c p:List Int) (S T:Nat->Prop) (w:World)
 (an:Logs w S au z) (av:Ints w T ax c) (aD:Ints w T aA p) (U:CutOk z c p) (ah:∀ b,S b->b<w) (aJ:∀ b,T b->b<w) :
 Calls prog 138 #[.slice au z cl,.slice ax c aG,.slice aA p aR] w (ZjI z c p S w):=by
 have bp:=an.1;go_enter func138,ntmps138
 go_wp2
 go_loopw [9, 14] (fun f i wr => ∃ (k : Nat) (found : Bool) (s : Stp) (A : Option Addr) (cap : Nat), k <= z.length /\ i = .int .i64 k /\ f = .bool found /\ Zcg z c p k found s /\ Ints wr S A s.2 /\ s.2.length <= 17592186044416 /\
  Cell2 wr w (.int .i64 0) (.slice none 0 0)/\Cell2 wr (w+1) (.int .i64 s.1) (.slice A s.2 cap)/\Below w w wr) (fun _ i _=>z.length - (intOf i).toNat)
 case atStart =>
  refine⟨0,false,nilS,none,0,qk _,rfl,rfl,.inl ⟨rfl,fun i aP=>absurd aP ya⟩,Reads.none_,yb,?_,?_,?_⟩
  .exact(qd _ _ _ yb).trans (qb w _)
  .have:=qb (w.alloc (.cells #[.int .i64 0,.slice none 0 0] 175)) (.cells #[.int .i64 0,.slice none 0 0] 175);simpa [Cell2] using this
  exact((qa _ _).alloc nR _).alloc yb _
 obtain⟨k,found,s,A,cap,aY,rfl,rfl,aq,ai,ac,I,E,W⟩:=hrel;obtain⟨H,aa⟩:=s;simp only at ai ac E;have O:=hI aq;have ar:=hI ai;have Z:=hI I;have ae:=hI E;have N:=hI W
 by_cases M:k<z
 .have aC:=qS W ah;have am:=qS W aJ;have aQ:=U.lc;have aK:=U.lp;obtain⟨aT,bb,rfl,bn,c1⟩:=(av.keep am).at_ (show k<c.length by omega);obtain⟨bg,ba,rfl,bi,c2⟩:=(aD.keep am).at_ (show k<p.length by omega);obtain⟨aW,be,A',aU,rfl,bo,aN,af⟩:=(an.keep aC).at_ M;have aB:=U.pos k M;have aF:=U.top k M;have:(k:Int)<c:=ya;have:(k:Int)<p:=ya;have K:=hI (show Zcr z k (p.getD k 0)=(z.getD k []).getD (p.getD k 0).toNat nilS from rfl);have ak:=hI (show (p.getD k 0<c.getD k 0)↔(p.getD k 0<c.getD k 0) from Iff.rfl);have aM:=E.c0;have aO:=E.c1;have bl:=E.f 0;have bk:=E.f (0+1);clear aQ aK aq ai I E W U aC am an av aD;generalize F:p.getD k 0=x at c2 aB K ak;generalize R:c.getD k 0=y at c1 aF ak;generalize z.getD k []=l at aN af aF K;replace F:=hI F;replace R:=hI R;clear ak;obtain⟨q,rfl⟩:=qn aB;rw [qu] at K
  by_cases ao:(q:Int)<y
  .have aS:q<l:=ya;obtain⟨bh,bj,rfl,bm,ay,aZ,bf,aE,L,ab⟩:=af.at_ aS;generalize aI:l.getD q nilS=s at ay aE L ab K;obtain⟨ap,aX⟩:=s;simp only at ay aE L ab;replace L:=hI L;clear af aI;have:(q:Int)<l:=ya;cases found
   .go_wp2
    go_quiet (fail)
    go_wp2
    go_roundw
    case rel=>exact ZhR _ M ah O F (by rw [F,R];exact ao) K (.inl rfl) Z ae N L ab
    simp [intOf];omega
   by_cases aw:ap<H
   .go_wp2
    go_quiet (fail)
    go_wp2
    go_roundw
    case rel=>exact ZhR _ M ah O F (by rw [F,R];exact ao) K (.inr aw) Z ae N L ab
    simp [intOf];omega
   have:decide (ap<H)=false:=by simpa using aw
   go_wp2
   go_quiet (fail)
   go_wp2
   go_roundw
   case rel=>exact⟨k+1,true,(H,aa),A,cap,ya,by go_num,rfl,ZgH O (.inr ⟨rfl,by rw [F,K];show H<=ap;omega⟩),ar,ac,Z,ae,below_drewN N _⟩
   simp [intOf];omega
  have:decide ((q:Int)<y)=false:=(by simpa using ao);clear af
  go_wp2
  go_quiet (fail)
  go_wp2
  go_roundw
  case rel=>exact⟨k+1,found,(H,aa),A,cap,ya,by go_num,rfl,ZgH O (.inl (by rw [F,R];omega)),ar,ac,Z,ae,below_drewN N _⟩
  simp [intOf];omega
 have aM:=E.c0;have aO:=E.c1;have aL:=I.c0;have n1:=I.c1;have aV:=I.f 0;have bc:=I.f (0+1);clear aq ai I E W;have aj:k=z.length:=ya;replace aj:=hI aj
 go_wp2
 refine qw (v:=.tuple #[.agg #[.int .i64 H,.slice A aa cap],.bool found]) (by simp [results,results138,go_sem,aL,n1]) rfl ?_;have az:=O.out;rw [aj] at az;refine⟨found,(H,aa),A,cap,rfl,az,ar.keep (fun b aH=>?_),ac,Zgu N nR _⟩;exact Zej wr _ b (yl (ah b aH))
theorem next_len {z:List (List Stp)} (R:l.length=i) (ab:p.length=j)
 (aa:Logs w S A z) (O:Ints w S' B l) (U:Ints w S' A' p) (N:CutOk z l p) (W:∀ b,S b->b<w) (Z:∀ b,S' b->b<w) :
 Calls prog 138 #[.slice A z n,.slice B i k,.slice A' j m] w (ZjI z l p S w):=by
 subst R ab;exact next_any A B A' n k m z l p S S' w aa O U N W Z
theorem stands_len {z:List (List Stp)} (W:l.length=i) (ae:p.length=j)
 (ac:Logs w S A z) (U:Ints w S' B l) (Z:Ints w S' A' p) (R:CutOk z l p) (ab:0<=a) (aa:a<z) :
 Calls prog 139 #[.slice A z n,.slice B i k,.slice A' j m,.int .i64 a,.int .i64 t] w fun e w'=>e=.returned (.bool (Zdv z l p a.toNat t))/\∃ cl,w'=w.drewN cl:=by
 subst W ae;exact stands_any ac U Z R ab aa
end Go.Proofs.YtjadnfodboepeaaGreat.Cut
