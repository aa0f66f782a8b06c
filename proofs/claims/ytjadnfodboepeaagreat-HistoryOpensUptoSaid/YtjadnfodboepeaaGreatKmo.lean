import Derived.Test.YtjadnfodboepeaaGreatKej
import Derived.Lib.Bytealg
set_option linter.all false
set_option maxRecDepth 100000
set_option maxHeartbeats 8000000
namespace Go.Proofs.YtjadnfodboepeaaGreat
structure V where
 k:Int
 i:Int
 t:ByteArray
 deriving DecidableEq
abbrev Row:=List V
structure IsCmp {α:Type} (f:α->α->Int):Prop where
 rng:∀ a b,f a b=-1\/f a b=0\/f a b=1
 zero:∀ a b,f a b=0↔a=b
 flip:∀ a b,f b a=- f a b
 trans:∀ a b c,f a b<=0->f b c<=0->f a c<=0
section
variable {α β:Type} {f:α->α->Int} {g:β->β->Int}
theorem IsCmp.self (h:IsCmp f) (a:α):f a a=0:=(h.zero a a).2 rfl
theorem IsCmp.lt_trans (h:IsCmp f) {a b c:α} (F:f a b<0) (H:f b c<0):f a c<0:=by
 have E:=h.trans a b c ya ya;rcases Int.lt_or_eq_of_le E with z | z
 .exact z
 have e:=(h.zero a c).1 z;subst e;have:=h.flip a b;omega
theorem IsCmp.le_lt_trans (h:IsCmp f) {a b c:α} (F:f a b<=0) (E:f b c<0):f a c<0:=by
 rcases Int.lt_or_eq_of_le F with z | z
 .exact h.lt_trans z E
 have e:=(h.zero a b).1 z;subst e;exact E
end
def cmpI (a b:Int):Int:=if a<b then -1 else if b<a then 1 else 0
theorem cmpI_is:IsCmp cmpI:=by
 refine⟨fun a b=>?_,fun a b=>?_,fun a b=>?_,fun a b c=>?_⟩
 .unfold cmpI;repeat' split
  all_goals simp
 .unfold cmpI;split<;>(try split)<;>simp<;>omega
 .unfold cmpI;repeat' split
  all_goals omega
 unfold cmpI;repeat' split
 all_goals omega
abbrev cmpL:List UInt8->List UInt8->Int:=Lib.compareBytes
theorem cmpL_is:IsCmp cmpL:=by
 have N:∀ a b,cmpL a b=-1\/cmpL a b=0\/cmpL a b=1:=by
  intro a;induction a with
  | nil=>intro b;cases b<;>simp [cmpL,Lib.compareBytes]
  | cons x a H=>intro b;cases b with
   | nil=>simp [cmpL,Lib.compareBytes]
   | cons y b =>
    simp only [cmpL,Lib.compareBytes];split
    .simp
    split
    .simp
    exact H b
 have zero:∀ a b,cmpL a b=0↔a=b:=by
  intro a;induction a with
  | nil=>intro b;cases b<;>simp [cmpL,Lib.compareBytes]
  | cons x a H=>intro b;cases b with
   | nil=>simp [cmpL,Lib.compareBytes]
   | cons y b =>
    simp only [cmpL,Lib.compareBytes]
    by_cases z:x<y
    .have:x≠y:=(fun e=>by subst e;simp at z);simp [z,this]
    by_cases E:y<x
    .have:x≠y:=(fun e=>by subst e;simp at E);simp [z,E,this]
    have e:x=y:=by
     rw [UInt8.lt_iff_toNat_lt] at z E;exact UInt8.toNat_inj.1 ya
    subst e;simp only [z,if_false];rw [H b];simp
 have O:∀ a b,cmpL b a=- cmpL a b:=by
  intro a;induction a with
  | nil=>intro b;cases b<;>simp [cmpL,Lib.compareBytes]
  | cons x a H=>intro b;cases b with
   | nil=>simp [cmpL,Lib.compareBytes]
   | cons y b =>
    simp only [cmpL,Lib.compareBytes]
    by_cases z:x<y
    .have E:¬ y<x:=(by rw [UInt8.lt_iff_toNat_lt] at z ⊢;omega);simp [z,E]
    by_cases E:y<x
    .simp [z,E]
    simp only [z,E,if_false];exact H b
 refine⟨N,zero,O,?_⟩;intro a;induction a with
 | nil=>intro b c _ _;cases c<;>simp [cmpL,Lib.compareBytes]
 | cons x a H =>
  intro b c;cases b with
  | nil=>intro h;simp [cmpL,Lib.compareBytes] at h
  | cons y b =>
   cases c with
   | nil=>intro _ h;simp [cmpL,Lib.compareBytes] at h
   | cons F c =>
    simp only [cmpL,Lib.compareBytes,UInt8.lt_iff_toNat_lt];intro z E
    by_cases L:x.toNat<y.toNat
    .by_cases I:y.toNat<F.toNat
     .simp [show x.toNat<F.toNat by omega]
     by_cases K:F.toNat<y.toNat
     .simp [I,K] at E
     simp [show x.toNat<F.toNat by omega]
    by_cases M:y.toNat<x.toNat
    .simp [L,M] at z
    simp only [L,M,if_false] at z
    by_cases I:y.toNat<F.toNat
    .simp [show x.toNat<F.toNat by omega]
    by_cases K:F.toNat<y.toNat
    .simp [I,K] at E
    simp only [I,K,if_false] at E;simp only [show ¬ x.toNat<F.toNat by omega,show ¬ F.toNat<x.toNat by omega,if_false];exact H b c z E
abbrev cmpB (a b:ByteArray):Int:=Lib.compareBytes a.data.toList b.data.toList
theorem cmpB_is:IsCmp cmpB :=
 ⟨fun a b=>cmpL_is.rng _ _,fun a b=>(cmpL_is.zero _ _).trans ⟨fun h=>by cases a;cases b;simpa using h,fun h=>by rw [h]⟩,fun a b=>cmpL_is.flip _ _,fun a b c=>cmpL_is.trans _ _ _⟩
def cmpV (a b:V):Int:=if cmpI a.k b.k≠0 then cmpI a.k b.k else if cmpI a.i b.i≠0 then cmpI a.i b.i else cmpB a.t b.t
def lex {α β:Type} (f:α->α->Int) (g:β->β->Int) (a b:α × β):Int:=if f a.1 b.1≠0 then f a.1 b.1 else g a.2 b.2
theorem ZkX {α β:Type} {f:α->α->Int} {g:β->β->Int} (E:IsCmp f) (K:IsCmp g):IsCmp (lex f g):=by
 refine⟨fun a b=>?_,fun a b=>?_,fun a b=>?_,fun a b c H F=>?_⟩
 .unfold lex;split
  .exact E.rng _ _
  exact K.rng _ _
 .obtain⟨a1,a2⟩:=a;obtain⟨z,N⟩:=b;unfold lex;simp only [Prod.mk.injEq]
  by_cases h:f a1 z=0
  .simp only [h,ne_eq,not_true,if_false];rw [K.zero];simp [(E.zero a1 z).1 h]
  simp only [h,ne_eq,not_false_eq_true,if_true,false_iff];exact fun M=>h ((E.zero a1 z).2 M.1)
 .unfold lex;rw [E.flip a.1 b.1,K.flip a.2 b.2]
  by_cases h:f a.1 b.1=0<;>simp [h]
 obtain⟨a1,a2⟩:=a;obtain⟨z,N⟩:=b;obtain⟨c1,c2⟩:=c;unfold lex at H F ⊢;dsimp only at H F ⊢
 by_cases L:f a1 z=0
 .have e:=(E.zero a1 z).1 L;subst e
  by_cases I:f a1 c1=0
  .simp only [L,I,ne_eq,not_true,if_false] at H F ⊢;exact K.trans _ _ _ H F
  simp only [I,ne_eq,not_false_eq_true,if_true] at F ⊢;exact F
 by_cases I:f z c1=0
 .have e:=(E.zero z c1).1 I;subst e;simp only [L,ne_eq,not_false_eq_true,if_true] at H ⊢;exact H
 simp only [L,I,ne_eq,not_false_eq_true,if_true] at H F;have:f a1 c1<0:=E.lt_trans (show f a1 z<0 by omega) (show f z c1<0 by omega);simp only [show f a1 c1≠0 by omega,ne_eq,not_false_eq_true,if_true];omega
theorem ZbX (a b:V):cmpV a b=lex cmpI (lex cmpI cmpB) (a.k,a.i,a.t) (b.k,b.i,b.t):=rfl
theorem cmpV_is:IsCmp cmpV:=by
 have h:=ZkX cmpI_is (ZkX cmpI_is cmpB_is);refine⟨fun a b=>by rw [ZbX];exact h.rng _ _,fun a b=>⟨fun e=>?_,fun e=>by rw [e,ZbX];exact h.self _⟩,fun a b=>by rw [ZbX,ZbX];exact h.flip _ _,fun a b c=>by rw [ZbX,ZbX,ZbX];exact h.trans _ _ _⟩;rw [ZbX,h.zero] at e;obtain⟨F,E,at_⟩:=a;obtain⟨I,z,H⟩:=b;simp only [Prod.mk.injEq] at e;simp [e]
def cmpR:Row->Row->Int
 | [],[]=>0
 | [],_ :: _=>-1
 | _ :: _,[]=>1
 | a :: x,b :: y=>if cmpV a b≠0 then cmpV a b else cmpR x y
theorem cmpR_is:IsCmp cmpR:=by
 refine⟨?_,?_,?_,?_⟩
 .intro a;induction a with
  | nil=>intro b;cases b<;>simp [cmpR]
  | cons x a z=>intro b;cases b with
   | nil=>simp [cmpR]
   | cons y b =>
    simp only [cmpR];split
    .exact cmpV_is.rng _ _
    exact z b
 .intro a;induction a with
  | nil=>intro b;cases b<;>simp [cmpR]
  | cons x a z=>intro b;cases b with
   | nil=>simp [cmpR]
   | cons y b =>
    simp only [cmpR,List.cons.injEq];split
    .rename_i h
     constructor
     .intro K;exact absurd K h
     intro K;exact absurd ((cmpV_is.zero x y).2 K.1) h
    rename_i h
    rw [z b];have:=(cmpV_is.zero x y).1 (by simpa using h);simp [this]
 .intro a;induction a with
  | nil=>intro b;cases b<;>simp [cmpR]
  | cons x a z=>intro b;cases b with
   | nil=>simp [cmpR]
   | cons y b =>
    simp only [cmpR];rw [cmpV_is.flip x y,z b]
    by_cases h:cmpV x y=0<;>simp [h]
 intro a;induction a with
 | nil=>intro b c _ _;cases c<;>simp [cmpR]
 | cons x a z =>
  intro b c;cases b with
  | nil=>intro h;simp [cmpR] at h
  | cons y b =>
   cases c with
   | nil=>intro _ h;simp [cmpR] at h
   | cons E c =>
    simp only [cmpR];intro I H
    by_cases a1:cmpV x y=0
    .have e:=(cmpV_is.zero x y).1 a1;subst e
     by_cases F:cmpV x E=0
     .simp only [a1,F,ne_eq,not_true,if_false] at I H ⊢;exact z b c I H
     simp only [F,ne_eq,not_false_eq_true,if_true] at H ⊢;exact H
    by_cases F:cmpV y E=0
    .have e:=(cmpV_is.zero y E).1 F;subst e;simp only [a1,ne_eq,not_false_eq_true,if_true] at I ⊢;exact I
    simp only [a1,F,ne_eq,not_false_eq_true,if_true] at I H;have:cmpV x E<0:=cmpV_is.lt_trans (show cmpV x y<0 by omega) (show cmpV y E<0 by omega);simp only [show cmpV x E≠0 by omega,ne_eq,not_false_eq_true,if_true];omega
end Go.Proofs.YtjadnfodboepeaaGreat
