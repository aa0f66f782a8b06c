import Derived.Test.YtjadnfodboepeaaGreatK27
import Derived.Deep.RegionHeld3
import Derived.Deep.DrawnRows
set_option linter.all false
set_option maxRecDepth 100000
set_option maxHeartbeats 8000000
namespace Go.Proofs.YtjadnfodboepeaaGreat
open Tryz
open Go.RowKit
variable {w w':World} {n k:Nat} {A B:Option Addr} {S S':Nat->Prop} {h hA:ByteArray} {M:V}
abbrev v0:V:=⟨0,0,⟨#[]⟩⟩
def encV (v:V):Dat:=.agg [.lit (.int .i64 v.k),.lit (.int .i64 v.i),.lit (.string v.t)]
theorem ZfY (v:V):(encV v).size=3:=rfl
def RowS (w:World) (S:Nat->Prop) (A:Option Addr) (r:Row):Prop:=Sl w S A (r.map encV)
theorem RowS.keep {r:Row} (h:RowS w S A r) (z:Same S w w'):RowS w' S A r:=qU h z
theorem RowS.more {r:Row} (h:RowS w S A r) (z:∀ b,S b->S' b):RowS w S' A r:=qZ h z
theorem RowS.nil_:RowS w S A []:=Qd
abbrev Qi:=@RowS.nil_
theorem ZdW:Dat.Held w S (encV M) n k↔w.cell? ⟨n,k,none⟩=some (.int .i64 M.k)/\yr w n (k+1) (.int .i64 M.i)/\yr w n (k+2) (.string M.t)/\M.t.size<=9223372036854775807:=by
 simp [encV,Dat.Held,Dat.Ha,Dat.size]
theorem RowS.len {r:Row} (h:RowS w S A r):r.length<=17592186044416:=by have:=h.1;rw [Ze (n:=32) (fun _=>rfl)] at this;omega
theorem RowS.len' {r:Row} (h:RowS w S A r):r.length<=4398046511104:=by have:=h.1;rw [Ze (n:=32) (fun _=>rfl)] at this;omega
theorem RowS.at_ {w:World} {S:Nat->Prop} {A:Option Addr} {r:Row} {k:Nat} (h:RowS w S A r) (F:k<r) :
 ∃ b z,A=some ⟨b,z,none⟩/\S b/\yr w b (z+k*3) (.int .i64 (r.getD k v0).k)/\yr w b (z+k*3+1) (.int .i64 (r.getD k v0).i)/\w.cell? ⟨b,z+k*3+2,none⟩=some (.string (r.getD k v0).t):=by
 obtain⟨b,z,e,H,I⟩:=h.2 yd;have E:=Zbu (n:=3) (fun d hd=>by obtain⟨v,_,rfl⟩:=qO.1 hd;rfl) I k (by simpa using F);rw [List.getElem_map,ZdW] at E;have K:r.getD k v0=r[k]:=gD F;rw [K];exact⟨b,z,e,H,E.1,E.2.1,E.2.2.1⟩
def RowOk (r:Row):Prop:=r.length<=4398046511104/\∀ v ∈ r,v.t.size<=9223372036854775807
theorem RowS.ok {r:Row} (h:RowS w S A r):RowOk r:=⟨h.len',fun v F=>by
 obtain⟨k,E,rfl⟩:=List.mem_iff_getElem.1 F;obtain⟨b,I,e,K,H⟩:=h.2 yd;have z:=Zbu (n:=3) (fun d hd=>by obtain⟨v,_,rfl⟩:=qO.1 hd;rfl) H k (by simpa using E);rw [List.getElem_map,ZdW] at z;exact z.2.2.2⟩
theorem RowOk.at_ {r:Row} (h:RowOk r) (k:Nat):(r.getD k v0).t.size<=9223372036854775807:=by
 by_cases z:k<r
 .have:r.getD k v0=r[k]:=gD z;rw [this];exact h.2 _ (qJ _)
 have:r.getD k v0=v0:=(by simp [List.getD,List.getElem?_eq_none (Nat.le_of_not_lt z)]);rw [this]
 decide
theorem Zee:∀ (k:Nat) (a b:Row),k<=a->k<=b->a.take k=b.take k->cmpR a b=cmpR (a.drop k) (b.drop k)
 | 0,a,b,_,_,_=>by simp
 | k+1,[],b,h,_,_=>by simp at h
 | k+1,a :: x,[],_,h,_=>by simp at h
 | k+1,a :: x,b :: y,z,E,h=>by
  simp only [List.take_succ_cons,List.cons.injEq] at h;have e:=h.1;subst e;simp only [cmpR,cmpV_is.self,ne_eq,not_true,if_false,List.drop_succ_cons];exact Zee k x y (by simpa using z) (by simpa using E) h.2
theorem ZkB {a b:Row} (z:n<a) (E:n<b) (h:a.take n=b.take n) (F:cmpV (a.getD n v0) (b.getD n v0)≠0):cmpR a b=cmpV (a.getD n v0) (b.getD n v0):=by
 rw [Zee n a b ya ya h,qq z,qq E];have H:a.getD n v0=a[n]:=gD z;have I:b.getD n v0=b[n]:=gD E;rw [H,I] at F ⊢;simp only [cmpR,ne_eq,F,not_false_eq_true,if_true]
theorem ZeK {a b:Row} (z:n<a) (E:n<b) (h:a.take n=b.take n) (F:cmpV (a.getD n v0) (b.getD n v0)=0):a.take (n+1)=b.take (n+1):=by
 have H:a.getD n v0=a[n]:=gD z;have I:b.getD n v0=b[n]:=gD E;rw [H,I,cmpV_is.zero] at F;rw [qj z,qj E,h,F]
theorem Zgd {a b:Row} (E:a.length=n) (z:n<b) (h:a.take n=b.take n):cmpR a b=-1:=by
 rw [Zee n a b ya ya h,List.drop_of_length_le ya,qq z];rfl
theorem Zgc {a b:Row} (z:n<a) (E:b.length=n) (h:a.take n=b.take n):cmpR a b=1:=by
 rw [Zee n a b ya ya h,List.drop_of_length_le (l:=b) ya,qq z];rfl
theorem Zil {a b:Row} (z:a.length=n) (E:b.length=n) (h:a.take n=b.take n):cmpR a b=0:=by
 rw [qs ya,qs ya] at h;exact(cmpR_is.zero a b).2 h
theorem cmpFunc_any {a b:Row} (ab:RowS w S A a) (ac:RowS w S B b) (ah:∀ b,S b->b<w) :
 Calls prog 158 #[.slice A a n,.slice B b k,.func (.func 159) #[] #[]] w (Zaz (cmpR a b) w):=by
 have aB:=ab.len;replace ab:=hI ab;replace ac:=hI ac;go_enter func158,ntmps158
 go_wp2
 go_loopw [13] (fun i wr=>∃ cb:Nat,cb<=a/\cb<=b/\i=.int .i64 cb/\a.take cb=b.take cb/\Below w w wr) (fun i _=>a.length - (intOf i).toNat)
 case atStart=>exact⟨0,qk _,qk _,rfl,yb,qa _ _⟩
 obtain⟨cb,aD,aC,rfl,E,af⟩:=hrel;replace E:=hI E;have K:=hI af;have au:=af.size;clear af
 by_cases O:cb<a
 .obtain⟨ax,aA,rfl,aj,c1,c2,W⟩:=(ab.keep (qS K ah)).at_ O;have F:=hI ((K.alloc au (.cells #[.int .i64 (a.getD cb v0).k,.int .i64 (a.getD cb v0).i,.string (a.getD cb v0).t] 108)))
  by_cases M:cb<b
  .obtain⟨ao,az,rfl,av,an,ak,am⟩:=(ac.keep (qS K ah)).at_ M;have:(cb:Int)<b:=ya;have ae:=hI (show ∀ h:cmpV (a.getD cb v0) (b.getD cb v0)≠0,cmpR a b=cmpV (a.getD cb v0) (b.getD cb v0) from ZkB O M E);have ai:=hI (show cmpV (a.getD cb v0) (b.getD cb v0)=0->a.take (cb+1)=b.take (cb+1) from ZeK O M E);have:ao<wr:=(yl (ah ao av));generalize a.getD cb v0=x at c1 c2 W ae ai F;generalize b.getD cb v0=y at an ak am ae ai;obtain⟨N,I,L⟩:=x;obtain⟨Z,aa,R⟩:=y;simp only at c1 c2 W an ak am F
   go_wp2_with fail
   refine(compare_any ⟨N,I,L⟩ ⟨Z,aa,R⟩).mono ?_;rintro e aw ⟨rfl,aj⟩;have ap:=hI ((F.alloc yd _).trans (aj.mono yd));clear aj F
   by_cases H:cmpV ⟨N,I,L⟩ ⟨Z,aa,R⟩=0
   .have aq:=hI (ai H);rw [H];clear H
    go_wp2
    go_roundw
    case rel=>exact⟨cb+1,ya,ya,by go_num,aq,ap⟩
    simp [intOf];omega
   have z:=hI (ae H);have hd:(cmpV ⟨N,I,L⟩ ⟨Z,aa,R⟩ != 0)=true:=(by simp [H]);generalize cmpV ⟨N,I,L⟩ ⟨Z,aa,R⟩=ay at hd z H
   go_wp2
   go_ret;exact⟨by rw [z];rfl,ap⟩
  have z:=hI (Zgc O (show b.length=cb by omega) E);generalize a.getD cb v0=x at c1 c2 W F;obtain⟨N,I,L⟩:=x;simp only at c1 c2 W F
  go_wp2
  go_ret;exact⟨by rw [z];rfl,F⟩
 have U:a.length=cb:=by omega
 by_cases M:cb<b
 .have z:=hI (Zgd U M E);have hd:decide (a.length<b)=true:=yd;clear U
  go_wp2
  go_ret;exact⟨by rw [z];rfl,K⟩
 have z:=hI (Zil U (show b.length=cb by omega) E);have hd:decide (a.length<b)=false:=yd;clear U
 go_wp2
 go_ret;exact⟨by rw [z];rfl,K⟩
theorem ZaU {a b:Row} (F:RowS w S A a) (I:RowS w S B b) (H:∀ b,S b->b<w) :
 Calls prog 100 #[.slice A a n,.slice B b k] w (Zaz (cmpR a b) w):=by
 go_enter func100,ntmps100
 go_wp2_with fail
 refine(cmpFunc_any F I H).mono ?_;rintro e K ⟨rfl,z⟩;replace z:=hI z
 go_wp2
 go_ret;exact⟨rfl,z⟩
theorem Zfd (t:cmpB h hA=-1):Op.bytesLess h.toList hA.toList=true/\Op.bytesLess hA.toList h.toList=false:=by
 have key:∀ a b:List UInt8,(Lib.compareBytes a b=-1->Op.bytesLess a b=true/\Op.bytesLess b a=false):=by
  intro a;induction a with
  | nil=>intro b t;cases b<;>simp [Lib.compareBytes,Op.bytesLess] at t ⊢
  | cons x a F=>intro b t;cases b with
   | nil=>simp [Lib.compareBytes] at t
   | cons y b =>
    simp only [Lib.compareBytes] at t;simp only [Op.bytesLess]
    by_cases z:x<y
    .have E:¬ y<x:=(by rw [UInt8.lt_iff_toNat_lt] at z ⊢;omega);have H:¬ y=x:=(fun e=>by subst e;exact E z);simp [z,E,H]
    by_cases E:y<x
    .simp [z,E] at t
    simp only [z,E,if_false] at t
    have e:x=y:=by
     rw [UInt8.lt_iff_toNat_lt] at z E;exact UInt8.toNat_inj.1 ya
    subst e;simp [z,F b t]
 have:=key h.data.toList hA.data.toList t;simpa [ByteArray.toList_eq] using this
theorem bytesLess_self (s:ByteArray):Op.bytesLess s.toList s.toList=false:=by
 have key:∀ a:List UInt8,Op.bytesLess a a=false:=by
  intro a;induction a with
  | nil=>rfl
  | cons x a z=>simp [Op.bytesLess,z]
 exact key _
theorem rcompare_any (a b:V) :Calls prog 154 #[vAgg a,vAgg b] w (Zaz (cmpV a b) w):=by
 have E:=@Zld a b;have F:=@Zle a b;have H:=@Zlc a b;obtain⟨W,Z,at_⟩:=a;obtain⟨aa,U,L⟩:=b;dsimp only at E F H;generalize O:cmpV ⟨W,Z,at_⟩ ⟨aa,U,L⟩=R at E F H;have K:=hI (((qa w w).alloc nR (.cells #[.int .i64 W,.int .i64 Z,.string at_] 108)).alloc yb (.cells #[.int .i64 aa,.int .i64 U,.string L] 108));rcases Int.lt_trichotomy W aa with N | N | N
 .have I:=hI (show R=-1 by rw [E ya];unfold cmpI;rw [qr N]);clear E F H O;go_enter func154,ntmps154
  go_wp2
  go_ret;exact⟨by rw [I];rfl,K⟩
 .subst N;rcases Int.lt_trichotomy Z U with M | M | M
  .have I:=hI (show R=-1 by rw [F rfl ya];unfold cmpI;rw [qr M]);clear E F H O;go_enter func154,ntmps154
   go_wp2
   go_ret;exact⟨by rw [I];rfl,K⟩
  .subst M;have ab:=hI (H rfl rfl);clear E F H O;rcases cmpB_is.rng at_ L with z | z | z
   .obtain⟨ae,af⟩:=Zfd z;replace z:=hI z;go_enter func154,ntmps154
    go_wp2
    go_ret;exact⟨by rw [ab,z];rfl,K⟩
   .have e:=(cmpB_is.zero at_ L).1 z;subst e;have ae:=bytesLess_self at_;replace z:=hI z;go_enter func154,ntmps154
    go_wp2
    go_ret;exact⟨by rw [ab,z];rfl,K⟩
   have ac:cmpB L at_=-1:=(by rw [cmpB_is.flip at_ L,z]);obtain⟨ae,af⟩:=Zfd ac;have:(at_.toList == L.toList)=false:=ZbY (fun e=>by subst e;rw [cmpB_is.self] at z;cases z);replace z:=hI z;clear ac;go_enter func154,ntmps154
   go_wp2
   go_ret;exact⟨by rw [ab,z];rfl,K⟩
  have I:=hI (show R=1 by rw [F rfl ya];unfold cmpI;rw [qo ya,qr M]);have hd:decide (Z<U)=false:=yd;clear E F H O;go_enter func154,ntmps154
  go_wp2
  go_ret;exact⟨by rw [I];rfl,K⟩
 have I:=hI (show R=1 by rw [E ya];unfold cmpI;rw [qo ya,qr N]);have hd:decide (W<aa)=false:=yd;clear E F H O;go_enter func154,ntmps154
 go_wp2
 go_ret;exact⟨by rw [I];rfl,K⟩
theorem Zbl {a b:Row} (ac:RowS w S A a) (ai:RowS w S B b) (ae:∀ b,S b->b<w) :
 Calls prog 97 #[.slice A a n,.slice B b k] w (Zaz (cmpR a b) w):=by
 have aE:=ac.len;replace ac:=hI ac;replace ai:=hI ai;go_enter func97,ntmps97
 go_wp2
 go_loopw [5] (fun i wr=>∃ cb:Nat,cb<=a/\cb<=b/\i=.int .i64 cb/\a.take cb=b.take cb/\Below w w wr) (fun i _=>a.length - (intOf i).toNat)
 case atStart=>exact⟨0,qk _,qk _,rfl,yb,qa _ _⟩
 obtain⟨cb,aG,aF,rfl,F,aq⟩:=hrel;replace F:=hI F;have H:=hI aq;have az:=aq.size;clear aq
 by_cases aa:cb<a
 .by_cases R:cb<b
  .obtain⟨K,ao,rfl,aB,c1,c2,ap⟩:=(ac.keep (qS H ae)).at_ aa;obtain⟨N,am,rfl,aA,ak,af,ah⟩:=(ai.keep (qS H ae)).at_ R;have:(0:Int)<=(cb:Int):=ya;have:(cb:Int)<a:=ya;have:(cb:Int)<b:=ya;have an:=hI (show ∀ h:cmpV (a.getD cb v0) (b.getD cb v0)≠0,cmpR a b=cmpV (a.getD cb v0) (b.getD cb v0) from ZkB aa R F);have au:=hI (show cmpV (a.getD cb v0) (b.getD cb v0)=0->a.take (cb+1)=b.take (cb+1) from ZeK aa R F);generalize a.getD cb v0=x at c1 c2 ap an au;generalize b.getD cb v0=y at ak af ah an au;obtain⟨U,L,O⟩:=x;obtain⟨W,Z,M⟩:=y;simp only at c1 c2 ap ak af ah;have ar:K<wr:=(yl (ae K aB));have aj:N<wr:=by have:=ae N aA;omega
   go_wp2
   go_region_held3 (fun w'=>(w'.cell? ⟨K,ao+cb*3,none⟩=some (.int .i64 U)/\w'.cell? ⟨K,ao+cb*3+1,none⟩=some (.int .i64 L)/\w'.cell? ⟨K,ao+cb*3+2,none⟩=some (.string O))/\w'.cell? ⟨N,am+cb*3,none⟩=some (.int .i64 W)/\w'.cell? ⟨N,am+cb*3+1,none⟩=some (.int .i64 Z)/\w'.cell? ⟨N,am+cb*3+2,none⟩=some (.string M)) (first | go_keep | (exact⟨⟨c9Q E ar c1,c9Q E ar c2,c9Q E ar ap⟩,c9Q E aj ak,c9Q E aj af,c9Q E aj ah⟩))
    ((go_at_call 154;refine(rcompare_any ⟨U,L,O⟩ ⟨W,Z,M⟩).mono ?_;rintro e aC ⟨rfl,E⟩))
   have av:=hI (H.trans (((qa wr wr).drew.trans E).mono az));clear E
   by_cases I:cmpV ⟨U,L,O⟩ ⟨W,Z,M⟩=0
   .have ax:=hI (au I);rw [I];clear I
    go_wp2
    go_roundw
    case rel=>exact⟨cb+1,ya,ya,by go_num,ax,av⟩
    simp [intOf];omega
   have z:=hI (an I);have hd:(cmpV ⟨U,L,O⟩ ⟨W,Z,M⟩ != 0)=true:=(by simp [I]);generalize cmpV ⟨U,L,O⟩ ⟨W,Z,M⟩=aD at hd z I
   go_wp2
   go_ret;exact⟨by rw [z];rfl,av⟩
  have z:=hI (Zgc aa (show b.length=cb by omega) F);have hd:decide (a.length<b)=false:=yd;have aw:decide (b.length<a)=true:=by simp;omega
  go_wp2
  go_ret;exact⟨by rw [z];rfl,H⟩
 have ab:a.length=cb:=by omega
 by_cases R:cb<b
 .have z:=hI (Zgd ab R F);have hd:decide (a.length<b)=true:=yd;clear ab
  go_wp2
  go_ret;exact⟨by rw [z];rfl,H⟩
 have z:=hI (Zil ab (show b.length=cb by omega) F);have hd:decide (a.length<b)=false:=yd;have aw:decide (b.length<a)=false:=yd;clear ab
 go_wp2
 go_ret;exact⟨by rw [z];rfl,H⟩
def Zp (v:V):Bool :=
 if v.k=1\/v.k=2 then decide (v.i=0)&&v.t.toList.isEmpty
 else if v.k=3 then (decide (v.i=0)||decide (v.i=1))&&v.t.toList.isEmpty
 else if v.k=4 then v.t.toList.isEmpty
 else if v.k=5 then decide (v.i=0)&&decide ((v.t.size:Int)<=64)
 else false
def Zdx (v:V):Bool:=Zp v&&decide (v.k≠1)&&decide (v.k≠2)
theorem validV_kind (h:Zp M=true):1<=M.k/\M.k<=5:=by
 unfold Zp at h
 by_cases z:M.k=1\/M.k=2
 .omega
 rw [qo z] at h
 by_cases H:M.k=3
 .omega
 rw [qo H] at h
 by_cases F:M.k=4
 .omega
 rw [qo F] at h
 by_cases E:M.k=5
 .omega
 rw [qo E] at h;cases h
theorem ZdL (v:V) (O:v.t.size<=9223372036854775807):Calls prog 157 #[vAgg v] w (ZH (Zp v) w):=by
 obtain⟨k,i,t⟩:=v;dsimp only at O;have F:=hI ((qa w w).alloc nR (.cells #[.int .i64 k,.int .i64 i,.string t] 108))
 by_cases L:k=1
 .subst L
  by_cases E:i=0
  .subst E;have z:=hI (show Zp ⟨1,0,t⟩=t.toList.isEmpty by simp [Zp]);go_enter func157,ntmps157
   go_wp2
   go_ret;exact⟨by rw [z];rfl,F⟩
  have hd:(i == 0)=false:=qf.2 E;have z:=hI (show Zp ⟨1,i,t⟩=false by simp [Zp,E]);go_enter func157,ntmps157
  go_wp2
  go_ret;exact⟨by rw [z];rfl,F⟩
 have:(k == 1)=false:=qf.2 L
 by_cases I:k=2
 .subst I
  by_cases E:i=0
  .subst E;have z:=hI (show Zp ⟨2,0,t⟩=t.toList.isEmpty by simp [Zp]);go_enter func157,ntmps157
   go_wp2
   go_ret;exact⟨by rw [z];rfl,F⟩
  have hd:(i == 0)=false:=qf.2 E;have z:=hI (show Zp ⟨2,i,t⟩=false by simp [Zp,E]);go_enter func157,ntmps157
  go_wp2
  go_ret;exact⟨by rw [z];rfl,F⟩
 have:(k == 2)=false:=qf.2 I
 by_cases N:k=3
 .subst N
  by_cases E:i=0
  .subst E;have z:=hI (show Zp ⟨3,0,t⟩=t.toList.isEmpty by simp [Zp]);go_enter func157,ntmps157
   go_wp2
   go_ret;exact⟨by rw [z];rfl,F⟩
  have hd:(i == 0)=false:=qf.2 E
  by_cases H:i=1
  .subst H;have z:=hI (show Zp ⟨3,1,t⟩=t.toList.isEmpty by simp [Zp]);go_enter func157,ntmps157
   go_wp2
   go_ret;exact⟨by rw [z];rfl,F⟩
  have:(i == 1)=false:=qf.2 H;have z:=hI (show Zp ⟨3,i,t⟩=false by simp [Zp,E,H]);go_enter func157,ntmps157
  go_wp2
  go_ret;exact⟨by rw [z];rfl,F⟩
 have:(k == 3)=false:=qf.2 N
 by_cases K:k=4
 .subst K;have z:=hI (show Zp ⟨4,i,t⟩=t.toList.isEmpty by simp [Zp]);go_enter func157,ntmps157
  go_wp2
  go_ret;exact⟨by rw [z];rfl,F⟩
 have:(k == 4)=false:=qf.2 K
 by_cases M:k=5
 .subst M
  by_cases E:i=0
  .subst E;have z:=hI (show Zp ⟨5,0,t⟩=decide ((t.size:Int)<=64) by simp [Zp]);go_enter func157,ntmps157
   go_wp2
   go_ret;exact⟨by rw [z];rfl,F⟩
  have hd:(i == 0)=false:=qf.2 E;have z:=hI (show Zp ⟨5,i,t⟩=false by simp [Zp,E]);go_enter func157,ntmps157
  go_wp2
  go_ret;exact⟨by rw [z];rfl,F⟩
 have:(k == 5)=false:=qf.2 M;have z:=hI (show Zp ⟨k,i,t⟩=false by simp [Zp,L,I,N,K,M]);go_enter func157,ntmps157
 go_wp2
 go_ret;exact⟨by rw [z];rfl,F⟩
theorem Zgx (v:V) (O:v.t.size<=9223372036854775807):Calls prog 180 #[vAgg v] w (ZH (Zp v) w):=by
 obtain⟨k,i,t⟩:=v;dsimp only at O;have F:=hI ((qa w w).alloc nR (.cells #[.int .i64 k,.int .i64 i,.string t] 108))
 by_cases L:k=1
 .subst L
  by_cases E:i=0
  .subst E;have z:=hI (show Zp ⟨1,0,t⟩=t.toList.isEmpty by simp [Zp]);go_enter func180,ntmps180
   go_wp2
   go_ret;exact⟨by rw [z];rfl,F⟩
  have hd:(i == 0)=false:=qf.2 E;have z:=hI (show Zp ⟨1,i,t⟩=false by simp [Zp,E]);go_enter func180,ntmps180
  go_wp2
  go_ret;exact⟨by rw [z];rfl,F⟩
 have:(k == 1)=false:=qf.2 L
 by_cases I:k=2
 .subst I
  by_cases E:i=0
  .subst E;have z:=hI (show Zp ⟨2,0,t⟩=t.toList.isEmpty by simp [Zp]);go_enter func180,ntmps180
   go_wp2
   go_ret;exact⟨by rw [z];rfl,F⟩
  have hd:(i == 0)=false:=qf.2 E;have z:=hI (show Zp ⟨2,i,t⟩=false by simp [Zp,E]);go_enter func180,ntmps180
  go_wp2
  go_ret;exact⟨by rw [z];rfl,F⟩
 have:(k == 2)=false:=qf.2 I
 by_cases N:k=3
 .subst N
  by_cases E:i=0
  .subst E;have z:=hI (show Zp ⟨3,0,t⟩=t.toList.isEmpty by simp [Zp]);go_enter func180,ntmps180
   go_wp2
   go_ret;exact⟨by rw [z];rfl,F⟩
  have hd:(i == 0)=false:=qf.2 E
  by_cases H:i=1
  .subst H;have z:=hI (show Zp ⟨3,1,t⟩=t.toList.isEmpty by simp [Zp]);go_enter func180,ntmps180
   go_wp2
   go_ret;exact⟨by rw [z];rfl,F⟩
  have:(i == 1)=false:=qf.2 H;have z:=hI (show Zp ⟨3,i,t⟩=false by simp [Zp,E,H]);go_enter func180,ntmps180
  go_wp2
  go_ret;exact⟨by rw [z];rfl,F⟩
 have:(k == 3)=false:=qf.2 N
 by_cases K:k=4
 .subst K;have z:=hI (show Zp ⟨4,i,t⟩=t.toList.isEmpty by simp [Zp]);go_enter func180,ntmps180
  go_wp2
  go_ret;exact⟨by rw [z];rfl,F⟩
 have:(k == 4)=false:=qf.2 K
 by_cases M:k=5
 .subst M
  by_cases E:i=0
  .subst E;have z:=hI (show Zp ⟨5,0,t⟩=decide ((t.size:Int)<=64) by simp [Zp]);go_enter func180,ntmps180
   go_wp2
   go_ret;exact⟨by rw [z];rfl,F⟩
  have hd:(i == 0)=false:=qf.2 E;have z:=hI (show Zp ⟨5,i,t⟩=false by simp [Zp,E]);go_enter func180,ntmps180
  go_wp2
  go_ret;exact⟨by rw [z];rfl,F⟩
 have:(k == 5)=false:=qf.2 M;have z:=hI (show Zp ⟨k,i,t⟩=false by simp [Zp,L,I,N,K,M]);go_enter func180,ntmps180
 go_wp2
 go_ret;exact⟨by rw [z];rfl,F⟩
theorem real_any (v:V) (K:v.t.size<=9223372036854775807):Calls prog 273 #[vAgg v] w (ZH (Zdx v) w):=by
 have z:Zdx v=(Zp v&&decide (v.k≠1)&&decide (v.k≠2)):=rfl;obtain⟨k,i,t⟩:=v;dsimp only at K z;go_enter func273,ntmps273
 go_wp2_with fail
 refine(ZdL ⟨k,i,t⟩ K).mono ?_;rintro e L ⟨rfl,I⟩;have H:=hI (((qa w w).alloc nR (.cells #[.int .i64 k,.int .i64 i,.string t] 108)).trans (I.mono yb));have:yr L w 0 (.int .i64 k):=c9Q I yb (by simp [Qo _ _ _ _ _ _ (qb w _)]);replace z:=hI z;clear I;generalize Zp ⟨k,i,t⟩=M at z;cases M
 .go_wp2
  go_ret;exact⟨by rw [z];rfl,H⟩
 by_cases F:k=1
 .subst F
  go_wp2
  go_ret;exact⟨by rw [z];rfl,H⟩
 have:(k != 1)=true:=(by simp [F]);have N:=hI F
 by_cases E:k=2
 .subst E
  go_wp2
  go_ret;exact⟨by rw [z];rfl,H⟩
 have:(k != 2)=true:=(by simp [E]);replace E:=hI E;clear F
 go_wp2
 go_ret;exact⟨by rw [z];simp [N.out,E.out],H⟩
theorem rreal_any (v:V) (K:v.t.size<=9223372036854775807):Calls prog 243 #[vAgg v] w (ZH (Zdx v) w):=by
 have E:=@validV_kind v;have z:Zdx v=(Zp v&&decide (v.k≠1)&&decide (v.k≠2)):=rfl;obtain⟨k,i,t⟩:=v;dsimp only at K z E;go_enter func243,ntmps243
 go_wp2_with fail
 refine(Zgx ⟨k,i,t⟩ K).mono ?_;rintro e L ⟨rfl,F⟩;have H:=hI (((qa w w).alloc nR (.cells #[.int .i64 k,.int .i64 i,.string t] 108)).trans (F.mono yb));have:yr L w 0 (.int .i64 k):=c9Q F yb (by simp [Qo _ _ _ _ _ _ (qb w _)]);replace z:=hI z;clear F;generalize Zp ⟨k,i,t⟩=M at z E;cases M
 .clear E
  go_wp2
  go_ret;exact⟨by rw [z];rfl,H⟩
 have O:=E rfl;clear E
 by_cases N:3<=k
 .have I:=hI (show Zdx ⟨k,i,t⟩=true by rw [z];simp;omega)
  go_wp2
  go_ret;exact⟨by rw [I];rfl,H⟩
 have:decide (3<=k)=false:=(by simpa using N);have I:=hI (show Zdx ⟨k,i,t⟩=false by rw [z];simp;omega)
 go_wp2
 go_ret;exact⟨by rw [I];rfl,H⟩
structure Col where
 name:ByteArray
 kind:Int
structure Rfr where
 cols:List Int
 tx:Int
structure Opd where
 kind:Int
 index:Int
 value:V
inductive Pred
 | mk (op cmp:Int) (left right:Opd) (args:List Pred)
structure Tab where
 name:ByteArray
 cols:List Col
 key:Int
 refs:List Rfr
 checks:List Pred
structure Sch where
 vv:Int
 tt:List Tab
def ZaT (n:Int):Dat:=.lit (.int .i64 n)
def Zbh (c:Col):Dat:=.agg [.lit (.string c.name),.lit (.int .i64 c.kind)]
def ZbJ (r:Rfr):Dat:=.agg [.slice (r.cols.map ZaT),.lit (.int .i64 r.tx)]
def ZaL (o:Opd):Dat:=.agg [.lit (.int .i64 o.kind),.lit (.int .i64 o.index),encV o.value]
mutual
def encPred:Pred->Dat
 | .mk op cmp left right args=>.agg [.lit (.int .i64 op),.lit (.int .i64 cmp),ZaL left,ZaL right,.slice (encPreds args)]
def encPreds:List Pred->List Dat
 | []=>[]
 | p :: r=>encPred p :: encPreds r
end
theorem ZbV:∀ l:List Pred,encPreds l=l.map encPred
 | []=>by unfold encPreds;rfl
 | p :: r=>by unfold encPreds;rw [ZbV r];rfl
def ZP (t:Tab):Dat:=.agg [.lit (.string t.name),.slice (t.cols.map Zbh),.lit (.int .i64 t.key),.slice (t.refs.map ZbJ),.slice (t.checks.map encPred)]
theorem ZbI (t:Tab):(ZP t).size=5:=rfl
theorem ZdF (t:Col):(Zbh t).size=2:=rfl
theorem ZdE (t:Rfr):(ZbJ t).size=2:=rfl
theorem ZbW (p:Pred):(encPred p).size=13:=by cases p;unfold encPred;rfl
theorem ZL (p:Pred):(encPred p).bytes=136:=by cases p;unfold encPred;rfl
abbrev t0:Tab:=⟨⟨#[]⟩,[],0,[],[]⟩
abbrev c0:Col:=⟨⟨#[]⟩,0⟩
abbrev r0:Rfr:=⟨[],0⟩
def IntS (w:World) (S:Nat->Prop) (A:Option Addr) (l:List Int):Prop:=Sl w S A (l.map ZaT)
def ColS (w:World) (S:Nat->Prop) (A:Option Addr) (l:List Col):Prop:=Sl w S A (l.map Zbh)
def RfrS (w:World) (S:Nat->Prop) (A:Option Addr) (l:List Rfr):Prop:=Sl w S A (l.map ZbJ)
def PredS (w:World) (S:Nat->Prop) (A:Option Addr) (l:List Pred):Prop:=Sl w S A (l.map encPred)
def TabS (w:World) (S:Nat->Prop) (A:Option Addr) (l:List Tab):Prop:=Sl w S A (l.map ZP)
section
variable {w w':World} {S S':Nat->Prop} {A:Option Addr}
theorem Sl.at_ {α:Type} {enc:α->Dat} {n:Nat} {l:List α} (I:∀ a,(enc a).size=n) (d:α) (h:Sl w S A (l.map enc)) {k:Nat} (E:k<l):∃ b z,A=some ⟨b,z,none⟩/\S b/\Dat.Held w S (enc (l.getD k d)) b (z+k*n):=by
 obtain⟨b,z,e,H,K⟩:=h.2 yd;have F:=Zbu (n:=n) (fun d hd=>by obtain⟨v,_,rfl⟩:=qO.1 hd;exact I v) K k (by simpa using E);rw [List.getElem_map] at F;have L:l.getD k d=l[k]:=gD E;rw [L];exact⟨b,z,e,H,F⟩
abbrev Qf:=@Sl.at_
theorem IntS.keep {l:List Int} (h:IntS w S A l) (z:Same S w w'):IntS w' S A l:=qU h z
theorem IntS.more {l:List Int} (h:IntS w S A l) (z:∀ b,S b->S' b):IntS w S' A l:=qZ h z
theorem IntS.len {l:List Int} (h:IntS w S A l):l.length<=17592186044416:=by have:=h.1;rw [Ze (n:=8) (fun _=>rfl)] at this;omega
theorem IntS.nil_:IntS w S A []:=Qd
abbrev Qk:=@IntS.nil_
theorem IntS.at_ {l:List Int} (h:IntS w S A l) {k:Nat} (F:k<l):∃ b z,A=some ⟨b,z,none⟩/\S b/\w.cell? ⟨b,z+k,none⟩=some (.int .i64 (l.getD k 0)):=by
 obtain⟨b,z,e,H,E⟩:=Qf (n:=1) (fun _=>rfl) 0 h F;rw [Nat.mul_one] at E;exact⟨b,z,e,H,by simpa [ZaT,Dat.Held] using E⟩
theorem ColS.keep {l:List Col} (h:ColS w S A l) (z:Same S w w'):ColS w' S A l:=qU h z
theorem ColS.more {l:List Col} (h:ColS w S A l) (z:∀ b,S b->S' b):ColS w S' A l:=qZ h z
theorem ColS.len {l:List Col} (h:ColS w S A l):l.length<=17592186044416:=by have:=h.1;rw [Ze (n:=24) (fun _=>rfl)] at this;omega
theorem ColS.at_ {l:List Col} (h:ColS w S A l) {k:Nat} (F:k<l):∃ b z,A=some ⟨b,z,none⟩/\S b/\yr w b (z+k*2) (.string (l.getD k c0).name)/\w.cell? ⟨b,z+k*2+1,none⟩=some (.int .i64 (l.getD k c0).kind):=by
 obtain⟨b,z,e,I,H⟩:=Qf ZdF c0 h F;have E:yr w b (z+k*2) (.string (l.getD k c0).name)/\(l.getD k c0).name.size<=9223372036854775807/\w.cell? ⟨b,z+k*2+1,none⟩=some (.int .i64 (l.getD k c0).kind):=(by simpa [Zbh,Dat.Held,Dat.Ha,Dat.size,and_assoc] using H);exact⟨b,z,e,I,E.1,E.2.2⟩
theorem ColS.txt {l:List Col} (h:ColS w S A l) {k:Nat} (E:k<l):(l.getD k c0).name.size<=9223372036854775807:=by
 obtain⟨b,z,e,I,H⟩:=Qf ZdF c0 h E;have F:yr w b (z+k*2) (.string (l.getD k c0).name)/\(l.getD k c0).name.size<=9223372036854775807/\w.cell? ⟨b,z+k*2+1,none⟩=some (.int .i64 (l.getD k c0).kind):=(by simpa [Zbh,Dat.Held,Dat.Ha,Dat.size,and_assoc] using H);exact F.2.1
theorem RfrS.keep {l:List Rfr} (h:RfrS w S A l) (z:Same S w w'):RfrS w' S A l:=qU h z
theorem RfrS.more {l:List Rfr} (h:RfrS w S A l) (z:∀ b,S b->S' b):RfrS w S' A l:=qZ h z
theorem RfrS.len {l:List Rfr} (h:RfrS w S A l):l.length<=17592186044416:=by have:=h.1;rw [Ze (n:=32) (fun _=>rfl)] at this;omega
theorem RfrS.at_ {l:List Rfr} (h:RfrS w S A l) {k:Nat} (F:k<l):∃ b z,A=some ⟨b,z,none⟩/\S b/\(∃ A' c,yr w b (z+k*2) (.slice A' (l.getD k r0).cols.length c)/\(l.getD k r0).cols.length<=c/\IntS w S A' (l.getD k r0).cols)/\w.cell? ⟨b,z+k*2+1,none⟩=some (.int .i64 (l.getD k r0).tx):=by
 obtain⟨b,z,e,N,E⟩:=Qf ZdE r0 h F;simp only [ZbJ,Dat.Held,Dat.Ha,Dat.size,and_true,qg,ZC] at E;obtain⟨⟨A',c,I,M,K,L⟩,H⟩:=E;exact⟨b,z,e,N,⟨A',c,I,M,⟨by simpa using K,by simpa using L⟩⟩,H⟩
theorem PredS.keep {l:List Pred} (h:PredS w S A l) (z:Same S w w'):PredS w' S A l:=qU h z
theorem PredS.more {l:List Pred} (h:PredS w S A l) (z:∀ b,S b->S' b):PredS w S' A l:=qZ h z
theorem PredS.len {l:List Pred} (h:PredS w S A l):l.length<=17592186044416:=by have:=h.1;rw [Ze (n:=136) (ZL)] at this;omega
theorem TabS.keep {l:List Tab} (h:TabS w S A l) (z:Same S w w'):TabS w' S A l:=qU h z
theorem TabS.more {l:List Tab} (h:TabS w S A l) (z:∀ b,S b->S' b):TabS w S' A l:=qZ h z
theorem TabS.len {l:List Tab} (h:TabS w S A l):l.length<=17592186044416:=by have:=h.1;rw [Ze (n:=96) (fun _=>rfl)] at this;omega
structure TabAt (w:World) (S:Nat->Prop) (b off:Nat) (t:Tab) (A1 A2 A3:Option Addr) (c1 c2 c3:Nat):Prop where
 name:w.cell? ⟨b,off,none⟩=some (.string t.name)
 cols:w.cell? ⟨b,off+1,none⟩=some (.slice A1 t.cols c1)
 key:w.cell? ⟨b,off+2,none⟩=some (.int .i64 t.key)
 refs:w.cell? ⟨b,off+3,none⟩=some (.slice A2 t.refs c2)
 checks:w.cell? ⟨b,off+4,none⟩=some (.slice A3 t.checks c3)
 cS:ColS w S A1 t.cols
 rS:RfrS w S A2 t.refs
 pS:PredS w S A3 t.checks
 cc:t.cols.length<=c1
 rc:t.refs.length<=c2
 pc:t.checks.length<=c3
 txt:t.name.size<=9223372036854775807
theorem TabS.at_ {l:List Tab} (h:TabS w S A l) {k:Nat} (M:k<l):∃ b z,A=some ⟨b,z,none⟩/\S b/\∃ F I H c1 c2 K,TabAt w S b (z+k*5) (l.getD k t0) F I H c1 c2 K:=by
 obtain⟨b,z,e,ab,E⟩:=Qf ZbI t0 h M;simp only [ZP,Dat.Held,Dat.Ha,Dat.size,and_true,qg,ZC,ZA] at E;obtain⟨⟨E,aa⟩,⟨F,c1,a1,a2,a3,a4⟩,U,⟨I,c2,O,Z,ae,ac⟩,H,K,W,L,N,R⟩:=E;exact⟨b,z,e,ab,F,I,H,c1,c2,K,E,a1,U,O,W,⟨by simpa using a3,by simpa using a4⟩,⟨by simpa using ae,by simpa using ac⟩,⟨by simpa using N,by simpa using R⟩,a2,Z,L,aa⟩
theorem TabAt.keep {b K:Nat} {t:Tab} {F I H:Option Addr} {c1 c2 L:Nat} (h:TabAt w S b K t F I H c1 c2 L) (z:Same S w w') (E:S b):TabAt w' S b K t F I H c1 c2 L :=
 ⟨(z.cell E).trans h.name,(z.cell E).trans h.cols,(z.cell E).trans h.key,(z.cell E).trans h.refs,(z.cell E).trans h.checks,h.cS.keep z,h.rS.keep z,h.pS.keep z,h.cc,h.rc,h.pc,h.txt⟩
end
abbrev sAgg (v:Int) (A:Option Addr) (n c:Nat):Value:=.agg #[.int .i64 v,.slice A n c]
end Go.Proofs.YtjadnfodboepeaaGreat
