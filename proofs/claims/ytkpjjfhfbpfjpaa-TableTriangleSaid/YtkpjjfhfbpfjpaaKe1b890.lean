import Derived.Test.YtkpjjfhfbpfjpaaK5fea28
import Derived.Lib.Bytealg
import Derived.Lib.Strings
import Derived.Lib.Walk
import Derived.Deep.QuietTactic
import Derived.BigQuiet
import Derived.RegionTactic
import Derived.WalkLawsBesides
import Derived.WalkSpells
import Derived.Outline
import Derived.Deep.RegionHeld3
import Derived.Deep.DrawnRows
set_option linter.unusedVariables false
set_option linter.unusedSimpArgs false
set_option maxRecDepth 100000
set_option maxHeartbeats 8000000
namespace Go.Proofs.Ytkpjjfhfbpfjpaa
structure V where
 k:Int
 i:Int
 t:ByteArray
 deriving DecidableEq
abbrev Row:=List V
structure IsCmp {α:Type} (f:α→α→Int):Prop where
 rng:∀ a b,f a b=-1∨f a b=0∨f a b=1
 zero:∀ a b,f a b=0↔a=b
 flip:∀ a b,f b a=- f a b
 trans:∀ a b c,f a b≤0→f b c≤0→f a c≤0
section
variable {α β:Type} {f:α→α→Int} {g:β→β→Int}
theorem IsCmp.self (h:IsCmp f) (a:α):f a a=0:=(h.zero a a).2 rfl
theorem IsCmp.lt_trans (h:IsCmp f) {a b c:α} (h1:f a b<0) (h2:f b c<0):f a c<0:=by
 have h3:=h.trans a b c (by omega) (by omega);rcases Int.lt_or_eq_of_le h3 with h4 | h4
 · exact h4
 · have e:=(h.zero a c).1 h4;subst e;have:=h.flip a b;omega
theorem IsCmp.le_lt_trans (h:IsCmp f) {a b c:α} (h1:f a b≤0) (h2:f b c<0):f a c<0:=by
 rcases Int.lt_or_eq_of_le h1 with h3 | h3
 · exact h.lt_trans h3 h2
 · have e:=(h.zero a b).1 h3;subst e;exact h2
end
def cmpI (a b:Int):Int:=if a<b then -1 else if b<a then 1 else 0
theorem cmpI_is:IsCmp cmpI:=by
 refine⟨fun a b=>?_,fun a b=>?_,fun a b=>?_,fun a b c=>?_⟩
 · unfold cmpI;repeat' split
   all_goals simp
 · unfold cmpI;split<;>(try split)<;>simp<;>omega
 · unfold cmpI;repeat' split
   all_goals omega
 · unfold cmpI;repeat' split
   all_goals omega
abbrev cmpL:List UInt8→List UInt8→Int:=Lib.compareBytes
theorem cmpL_is:IsCmp cmpL:=by
 have rng:∀ a b,cmpL a b=-1∨cmpL a b=0∨cmpL a b=1:=by
  intro a;induction a with
  | nil=>intro b;cases b<;>simp [cmpL,Lib.compareBytes]
  | cons x a ih=>intro b;cases b with
   | nil=>simp [cmpL,Lib.compareBytes]
   | cons y b =>
    simp only [cmpL,Lib.compareBytes];split
    · simp
    · split
      · simp
      · exact ih b
 have zero:∀ a b,cmpL a b=0↔a=b:=by
  intro a;induction a with
  | nil=>intro b;cases b<;>simp [cmpL,Lib.compareBytes]
  | cons x a ih=>intro b;cases b with
   | nil=>simp [cmpL,Lib.compareBytes]
   | cons y b =>
    simp only [cmpL,Lib.compareBytes]
    by_cases h1:x<y
    · have:x≠y:=(fun e=>by subst e;simp at h1);simp [h1,this]
    · by_cases h2:y<x
      · have:x≠y:=(fun e=>by subst e;simp at h2);simp [h1,h2,this]
      · have e:x=y:=by
          rw [UInt8.lt_iff_toNat_lt] at h1 h2;exact UInt8.toNat_inj.1 (by omega)
        subst e;simp only [h1,if_false];rw [ih b];simp
 have flip:∀ a b,cmpL b a=- cmpL a b:=by
  intro a;induction a with
  | nil=>intro b;cases b<;>simp [cmpL,Lib.compareBytes]
  | cons x a ih=>intro b;cases b with
   | nil=>simp [cmpL,Lib.compareBytes]
   | cons y b =>
    simp only [cmpL,Lib.compareBytes]
    by_cases h1:x<y
    · have h2:¬ y<x:=(by rw [UInt8.lt_iff_toNat_lt] at h1 ⊢;omega);simp [h1,h2]
    · by_cases h2:y<x
      · simp [h1,h2]
      · simp only [h1,h2,if_false];exact ih b
 refine⟨rng,zero,flip,?_⟩;intro a;induction a with
 | nil=>intro b c _ _;cases c<;>simp [cmpL,Lib.compareBytes]
 | cons x a ih =>
  intro b c;cases b with
  | nil=>intro h;simp [cmpL,Lib.compareBytes] at h
  | cons y b =>
   cases c with
   | nil=>intro _ h;simp [cmpL,Lib.compareBytes] at h
   | cons z c =>
    simp only [cmpL,Lib.compareBytes,UInt8.lt_iff_toNat_lt];intro h1 h2
    by_cases hxy:x.toNat<y.toNat
    · by_cases hyz:y.toNat<z.toNat
      · simp [show x.toNat<z.toNat by omega]
      · by_cases hzy:z.toNat<y.toNat
        · simp [hyz,hzy] at h2
        · simp [show x.toNat<z.toNat by omega]
    · by_cases hyx:y.toNat<x.toNat
      · simp [hxy,hyx] at h1
      · simp only [hxy,hyx,if_false] at h1
        by_cases hyz:y.toNat<z.toNat
        · simp [show x.toNat<z.toNat by omega]
        · by_cases hzy:z.toNat<y.toNat
          · simp [hyz,hzy] at h2
          · simp only [hyz,hzy,if_false] at h2;simp only [show ¬ x.toNat<z.toNat by omega,show ¬ z.toNat<x.toNat by omega,if_false];exact ih b c h1 h2
abbrev cmpB (a b:ByteArray):Int:=Lib.compareBytes a.data.toList b.data.toList
theorem cmpB_is:IsCmp cmpB :=
 ⟨fun a b=>cmpL_is.rng _ _,fun a b=>(cmpL_is.zero _ _).trans ⟨fun h=>by cases a;cases b;simpa using h,fun h=>by rw [h]⟩,fun a b=>cmpL_is.flip _ _,fun a b c=>cmpL_is.trans _ _ _⟩
def cmpV (a b:V):Int:=if cmpI a.k b.k≠0 then cmpI a.k b.k else if cmpI a.i b.i≠0 then cmpI a.i b.i else cmpB a.t b.t
def lex {α β:Type} (f:α→α→Int) (g:β→β→Int) (a b:α × β):Int:=if f a.1 b.1≠0 then f a.1 b.1 else g a.2 b.2
theorem lex_is {α β:Type} {f:α→α→Int} {g:β→β→Int} (hf:IsCmp f) (hg:IsCmp g):IsCmp (lex f g):=by
 refine⟨fun a b=>?_,fun a b=>?_,fun a b=>?_,fun a b c h1 h2=>?_⟩
 · unfold lex;split
   · exact hf.rng _ _
   · exact hg.rng _ _
 · obtain⟨a1,a2⟩:=a;obtain⟨b1,b2⟩:=b;unfold lex;simp only [Prod.mk.injEq]
   by_cases h:f a1 b1=0
   · simp only [h,ne_eq,not_true,if_false];rw [hg.zero];simp [(hf.zero a1 b1).1 h]
   · simp only [h,ne_eq,not_false_eq_true,if_true,false_iff];exact fun h'=>h ((hf.zero a1 b1).2 h'.1)
 · unfold lex;rw [hf.flip a.1 b.1,hg.flip a.2 b.2]
   by_cases h:f a.1 b.1=0<;>simp [h]
 · obtain⟨a1,a2⟩:=a;obtain⟨b1,b2⟩:=b;obtain⟨c1,c2⟩:=c;unfold lex at h1 h2 ⊢;dsimp only at h1 h2 ⊢
   by_cases x1:f a1 b1=0
   · have e:=(hf.zero a1 b1).1 x1;subst e
     by_cases y1:f a1 c1=0
     · simp only [x1,y1,ne_eq,not_true,if_false] at h1 h2 ⊢;exact hg.trans _ _ _ h1 h2
     · simp only [y1,ne_eq,not_false_eq_true,if_true] at h2 ⊢;exact h2
   · by_cases y1:f b1 c1=0
     · have e:=(hf.zero b1 c1).1 y1;subst e;simp only [x1,ne_eq,not_false_eq_true,if_true] at h1 ⊢;exact h1
     · simp only [x1,y1,ne_eq,not_false_eq_true,if_true] at h1 h2;have h3:f a1 c1<0:=hf.lt_trans (show f a1 b1<0 by omega) (show f b1 c1<0 by omega);simp only [show f a1 c1≠0 by omega,ne_eq,not_false_eq_true,if_true];omega
theorem Zct (a b:V):cmpV a b=lex cmpI (lex cmpI cmpB) (a.k,a.i,a.t) (b.k,b.i,b.t):=rfl
theorem cmpV_is:IsCmp cmpV:=by
 have h:=lex_is cmpI_is (lex_is cmpI_is cmpB_is);refine⟨fun a b=>by rw [Zct];exact h.rng _ _,fun a b=>⟨fun e=>?_,fun e=>by rw [e,Zct];exact h.self _⟩,fun a b=>by rw [Zct,Zct];exact h.flip _ _,fun a b c=>by rw [Zct,Zct,Zct];exact h.trans _ _ _⟩;rw [Zct,h.zero] at e;obtain⟨ak,ai,at_⟩:=a;obtain⟨bk,bi,bt⟩:=b;simp only [Prod.mk.injEq] at e;simp [e]
def cmpR:Row→Row→Int
 | [],[]=>0
 | [],_ :: _=>-1
 | _ :: _,[]=>1
 | a :: x,b :: y=>if cmpV a b≠0 then cmpV a b else cmpR x y
theorem cmpR_is:IsCmp cmpR:=by
 refine⟨?_,?_,?_,?_⟩
 · intro a;induction a with
   | nil=>intro b;cases b<;>simp [cmpR]
   | cons x a ih=>intro b;cases b with
    | nil=>simp [cmpR]
    | cons y b =>
     simp only [cmpR];split
     · exact cmpV_is.rng _ _
     · exact ih b
 · intro a;induction a with
   | nil=>intro b;cases b<;>simp [cmpR]
   | cons x a ih=>intro b;cases b with
    | nil=>simp [cmpR]
    | cons y b =>
     simp only [cmpR,List.cons.injEq];split
     · rename_i h
       constructor
       · intro h';exact absurd h' h
       · intro h';exact absurd ((cmpV_is.zero x y).2 h'.1) h
     · rename_i h
       rw [ih b];have:=(cmpV_is.zero x y).1 (by simpa using h);simp [this]
 · intro a;induction a with
   | nil=>intro b;cases b<;>simp [cmpR]
   | cons x a ih=>intro b;cases b with
    | nil=>simp [cmpR]
    | cons y b =>
     simp only [cmpR];rw [cmpV_is.flip x y,ih b]
     by_cases h:cmpV x y=0<;>simp [h]
 · intro a;induction a with
   | nil=>intro b c _ _;cases c<;>simp [cmpR]
   | cons x a ih =>
    intro b c;cases b with
    | nil=>intro h;simp [cmpR] at h
    | cons y b =>
     cases c with
     | nil=>intro _ h;simp [cmpR] at h
     | cons z c =>
      simp only [cmpR];intro h1 h2
      by_cases a1:cmpV x y=0
      · have e:=(cmpV_is.zero x y).1 a1;subst e
        by_cases b1:cmpV x z=0
        · simp only [a1,b1,ne_eq,not_true,if_false] at h1 h2 ⊢;exact ih b c h1 h2
        · simp only [b1,ne_eq,not_false_eq_true,if_true] at h2 ⊢;exact h2
      · by_cases b1:cmpV y z=0
        · have e:=(cmpV_is.zero y z).1 b1;subst e;simp only [a1,ne_eq,not_false_eq_true,if_true] at h1 ⊢;exact h1
        · simp only [a1,b1,ne_eq,not_false_eq_true,if_true] at h1 h2;have h3:cmpV x z<0:=cmpV_is.lt_trans (show cmpV x y<0 by omega) (show cmpV y z<0 by omega);simp only [show cmpV x z≠0 by omega,ne_eq,not_false_eq_true,if_true];omega
open Go.RowKit
abbrev vAgg (v:V):Value:=.agg #[.int .i64 v.k,.int .i64 v.i,.string v.t]
def ZbV (n:Int) (w:World) (e:Ending) (w':World):Prop:=e=.returned (.int .i64 n)∧Below w.heap.size w w'
def ZaS (b:Bool) (w:World) (e:Ending) (w':World):Prop:=e=.returned (.bool b)∧Below w.heap.size w w'
theorem Zen (a b:Int) (w:World):Calls Try.prog 119 #[.int .i64 a,.int .i64 b] w fun e w'=>e=.returned (.int .i64 (cmpI a b))∧w=w':=by
 have hn:∀ x:Int,((x:Int) != x)=false:=fun x=>by simp
 by_cases h1:a<b
 · have HF:=hI (show cmpI a b=-1 by unfold cmpI;rw [if_pos h1]);have hd:decide (a<b)=true:=(by simp [h1]);go_enter Try.func119,Try.ntmps119
   go_wp2
   go_ret;exact⟨by rw [HF.out];rfl,rfl⟩
 · have hd:decide (a<b)=false:=by simpa using h1
   by_cases h2:b<a
   · have HF:=hI (show cmpI a b=1 by unfold cmpI;rw [if_neg h1,if_pos h2]);have hd2:decide (b<a)=true:=(by simp [h2]);go_enter Try.func119,Try.ntmps119
     go_wp2
     go_ret;exact⟨by rw [HF.out];rfl,rfl⟩
   · have HF:=hI (show cmpI a b=0 by unfold cmpI;rw [if_neg h1,if_neg h2]);have hd2:decide (b<a)=false:=(by simpa using h2);go_enter Try.func119,Try.ntmps119
     go_wp2
     go_ret;exact⟨by rw [HF.out];rfl,rfl⟩
theorem ZeB (a b:Int) (w:World):Calls Try.prog 120 #[.int .i64 a,.int .i64 b] w fun e w'=>e=.returned (.int .i64 (cmpI a b))∧w=w':=by
 have hn:∀ x:Int,((x:Int) != x)=false:=fun x=>by simp
 by_cases h1:a<b
 · have HF:=hI (show cmpI a b=-1 by unfold cmpI;rw [if_pos h1]);have hd:decide (a<b)=true:=(by simp [h1]);go_enter Try.func120,Try.ntmps120
   go_wp2
   go_ret;exact⟨by rw [HF.out];rfl,rfl⟩
 · have hd:decide (a<b)=false:=by simpa using h1
   by_cases h2:b<a
   · have HF:=hI (show cmpI a b=1 by unfold cmpI;rw [if_neg h1,if_pos h2]);have hd2:decide (b<a)=true:=(by simp [h2]);go_enter Try.func120,Try.ntmps120
     go_wp2
     go_ret;exact⟨by rw [HF.out];rfl,rfl⟩
   · have HF:=hI (show cmpI a b=0 by unfold cmpI;rw [if_neg h1,if_neg h2]);have hd2:decide (b<a)=false:=(by simpa using h2);go_enter Try.func120,Try.ntmps120
     go_wp2
     go_ret;exact⟨by rw [HF.out];rfl,rfl⟩
theorem cmpString_any (a b:ByteArray) (w:World):Calls Try.prog 139 #[.string a,.string b] w fun e w'=>e=.returned (.int .i64 (cmpB a b))∧w=w':=by
 go_enter Try.func139,Try.ntmps139
 go_wp2
 rw [run_callFunc_extern Try.func143 (by kernel_rfl) (by kernel_rfl) (by kernel_rfl) (e:=Extern.BytealgCompare.compare) (by kernel_rfl),Lib.run_compareString];simp only [Result.andThen];rw [Oper.upon_value]
 go_wp2
 go_ret;exact⟨rfl,rfl⟩
theorem strCompare_any (a b:ByteArray) (w:World):Calls Try.prog 121 #[.string a,.string b] w fun e w'=>e=.returned (.int .i64 (cmpB a b))∧w=w':=by
 go_enter Try.func121,Try.ntmps121
 go_wp2_with fail
 refine(cmpString_any a b w).mono ?_;rintro e w' ⟨rfl,rfl⟩
 go_wp2_with fail
 go_ret;exact⟨rfl,rfl⟩
theorem Zgj {a b:Int} (h:a≠b):cmpI a b≠0:=fun e=>h ((cmpI_is.zero a b).1 e)
theorem cmpV_k {a b:V} (h:a.k≠b.k):cmpV a b=cmpI a.k b.k:=by unfold cmpV;rw [if_pos (Zgj h)]
theorem cmpV_i {a b:V} (h0:a.k=b.k) (h:a.i≠b.i):cmpV a b=cmpI a.i b.i:=by unfold cmpV;rw [if_neg (by simp [h0,cmpI_is.self]),if_pos (Zgj h)]
theorem cmpV_t {a b:V} (h0:a.k=b.k) (h:a.i=b.i):cmpV a b=cmpB a.t b.t:=by unfold cmpV;rw [if_neg (by simp [h0,cmpI_is.self]),if_neg (by simp [h,cmpI_is.self])]
theorem Zdp {s t:ByteArray} (h:s≠t):(s.toList == t.toList)=false:=by
 rw [beq_eq_false_iff_ne];intro e;apply h;have h1:s.data.toList=t.data.toList:=(by simpa [ByteArray.toList_eq] using e);cases s;cases t
 simpa using h1
theorem compare_any (a b:V) (w:World):Calls Try.prog 100 #[vAgg a,vAgg b] w (ZbV (cmpV a b) w):=by
 have hk:=@cmpV_k a b;have hi:=@cmpV_i a b;have ht:=@cmpV_t a b;obtain⟨ak,ai,at_⟩:=a;obtain⟨bk,bi,bt⟩:=b;dsimp only at hk hi ht;generalize hcv:cmpV ⟨ak,ai,at_⟩ ⟨bk,bi,bt⟩=cv at hk hi ht;have HB:=hI (((Below.refl w.heap.size w).alloc nR (.cells #[.int .i64 ak,.int .i64 ai,.string at_] 51)).alloc (by simp) (.cells #[.int .i64 bk,.int .i64 bi,.string bt] 51))
 by_cases h1:ak=bk
 · subst h1
   by_cases h2:ai=bi
   · subst h2;have HF:=hI (ht rfl rfl)
     by_cases h3:at_=bt
     · subst h3;clear hk hi ht hcv;have HZ:=hI (cmpB_is.self at_);go_enter Try.func100,Try.ntmps100
       go_wp2_with fail
       go_ret;exact⟨by rw [HF.out,HZ.out];rfl,HB.out⟩
     · have hd:=Zdp h3;clear hk hi ht hcv h3;have HZ:=hI (cmpI_is.self ak);have HZ2:=hI (cmpI_is.self ai);go_enter Try.func100,Try.ntmps100
       go_wp2_with fail
       refine(Zen ak ak _).mono ?_;rintro e w' ⟨rfl,rfl⟩;rw [HZ.out]
       go_wp2_with fail
       refine(ZeB ai ai _).mono ?_;rintro e w' ⟨rfl,rfl⟩;rw [HZ2.out]
       go_wp2_with fail
       refine(strCompare_any at_ bt _).mono ?_;rintro e w' ⟨rfl,rfl⟩
       go_wp2_with fail
       go_ret;exact⟨by rw [HF.out];rfl,HB.out⟩
   · have HF:=hI (hi rfl h2);have hd:(ai == bi)=false:=beq_eq_false_iff_ne.2 h2;have hne:=Zgj h2;have HZ:=hI (cmpI_is.self ak);clear hk hi ht hcv h2;go_enter Try.func100,Try.ntmps100
     go_wp2_with fail
     refine(Zen ak ak _).mono ?_;rintro e w' ⟨rfl,rfl⟩;rw [HZ.out]
     go_wp2_with fail
     refine(ZeB ai bi _).mono ?_;rintro e w' ⟨rfl,rfl⟩;have hd2:(cmpI ai bi != 0)=true:=(by simp [hne]);generalize cmpI ai bi=c at hd2 hne HF
     go_wp2_with fail
     go_ret;exact⟨by rw [HF.out];rfl,HB.out⟩
 · have HF:=hI (hk h1);have hd:(ak == bk)=false:=beq_eq_false_iff_ne.2 h1;have hne:=Zgj h1;clear hk hi ht hcv h1;go_enter Try.func100,Try.ntmps100
   go_wp2_with fail
   refine(Zen ak bk _).mono ?_;rintro e w' ⟨rfl,rfl⟩;have hd2:(cmpI ak bk != 0)=true:=(by simp [hne]);generalize cmpI ak bk=c at hd2 hne HF
   go_wp2_with fail
   go_ret;exact⟨by rw [HF.out];rfl,HB.out⟩
abbrev v0:V:=⟨0,0,⟨#[]⟩⟩
def encV (v:V):Dat:=.agg [.lit (.int .i64 v.k),.lit (.int .i64 v.i),.lit (.string v.t)]
theorem ZgM (v:V):(encV v).size=3:=rfl
def RowS (w:World) (S:Nat→Prop) (A:Option Addr) (r:Row):Prop:=Sl w S A (r.map encV)
theorem RowS.keep {w w':World} {S:Nat→Prop} {A:Option Addr} {r:Row} (h:RowS w S A r) (hk:Same S w w'):RowS w' S A r:=Sl.keep h hk
theorem RowS.more {w:World} {S S':Nat→Prop} {A:Option Addr} {r:Row} (h:RowS w S A r) (hS:∀ b,S b→S' b):RowS w S' A r:=Sl.more h hS
theorem RowS.nil_ {w:World} {S:Nat→Prop} {A:Option Addr}:RowS w S A []:=Sl.nil_
theorem ZdQ {w:World} {S:Nat→Prop} {v:V} {b off:Nat}:Dat.Held w S (encV v) b off↔w.cell? ⟨b,off,none⟩=some (.int .i64 v.k)∧w.cell? ⟨b,off+1,none⟩=some (.int .i64 v.i)∧w.cell? ⟨b,off+2,none⟩=some (.string v.t)∧v.t.size≤9223372036854775807:=by
 simp [encV,Dat.Held,Dat.HeldAll,Dat.size]
theorem RowS.len {w:World} {S:Nat→Prop} {A:Option Addr} {r:Row} (h:RowS w S A r):r.length≤17592186044416:=by have:=h.1;rw [Zag (n:=32) (fun _=>rfl)] at this;omega
theorem RowS.len' {w:World} {S:Nat→Prop} {A:Option Addr} {r:Row} (h:RowS w S A r):r.length≤4398046511104:=by have:=h.1;rw [Zag (n:=32) (fun _=>rfl)] at this;omega
theorem RowS.at_ {w:World} {S:Nat→Prop} {A:Option Addr} {r:Row} {k:Nat} (h:RowS w S A r) (hk:k<r.length) :
  ∃ b off,A=some ⟨b,off,none⟩∧S b∧w.cell? ⟨b,off+k*3,none⟩=some (.int .i64 (r.getD k v0).k)∧w.cell? ⟨b,off+k*3+1,none⟩=some (.int .i64 (r.getD k v0).i)∧w.cell? ⟨b,off+k*3+2,none⟩=some (.string (r.getD k v0).t):=by
 obtain⟨b,off,e,hb,hc⟩:=h.2 (by simp;omega);have h1:=Zdm (n:=3) (fun d hd=>by obtain⟨v,_,rfl⟩:=List.mem_map.1 hd;rfl) hc k (by simpa using hk);rw [List.getElem_map,ZdQ] at h1;have e2:r.getD k v0=r[k]:=(by simp [List.getD,hk]);rw [e2];exact⟨b,off,e,hb,h1.1,h1.2.1,h1.2.2.1⟩
def RowOk (r:Row):Prop:=r.length≤4398046511104∧∀ v ∈ r,v.t.size≤9223372036854775807
theorem RowS.ok {w:World} {S:Nat→Prop} {A:Option Addr} {r:Row} (h:RowS w S A r):RowOk r:=⟨h.len',fun v hv=>by
 obtain⟨k,hk,rfl⟩:=List.mem_iff_getElem.1 hv;obtain⟨b,off,e,hb,hc⟩:=h.2 (by simp;omega);have h1:=Zdm (n:=3) (fun d hd=>by obtain⟨v,_,rfl⟩:=List.mem_map.1 hd;rfl) hc k (by simpa using hk);rw [List.getElem_map,ZdQ] at h1;exact h1.2.2.2⟩
theorem RowOk.at_ {r:Row} (h:RowOk r) (k:Nat):(r.getD k v0).t.size≤9223372036854775807:=by
 by_cases hk:k<r.length
 · have:r.getD k v0=r[k]:=(by simp [List.getD,hk]);rw [this];exact h.2 _ (List.getElem_mem _)
 · have:r.getD k v0=v0:=(by simp [List.getD,List.getElem?_eq_none (Nat.le_of_not_lt hk)]);rw [this]
   decide
theorem ZdW:∀ (k:Nat) (a b:Row),k≤a.length→k≤b.length→a.take k=b.take k→cmpR a b=cmpR (a.drop k) (b.drop k)
 | 0,a,b,_,_,_=>by simp
 | k+1,[],b,h,_,_=>by simp at h
 | k+1,a :: x,[],_,h,_=>by simp at h
 | k+1,a :: x,b :: y,h1,h2,h=>by
  simp only [List.take_succ_cons,List.cons.injEq] at h;have e:=h.1;subst e;simp only [cmpR,cmpV_is.self,ne_eq,not_true,if_false,List.drop_succ_cons];exact ZdW k x y (by simpa using h1) (by simpa using h2) h.2
theorem cmpR_ne {a b:Row} {k:Nat} (ha:k<a.length) (hb:k<b.length) (h:a.take k=b.take k) (hc:cmpV (a.getD k v0) (b.getD k v0)≠0):cmpR a b=cmpV (a.getD k v0) (b.getD k v0):=by
 rw [ZdW k a b (by omega) (by omega) h,List.drop_eq_getElem_cons ha,List.drop_eq_getElem_cons hb];have e1:a.getD k v0=a[k]:=(by simp [List.getD,ha]);have e2:b.getD k v0=b[k]:=(by simp [List.getD,hb]);rw [e1,e2] at hc ⊢;simp only [cmpR,ne_eq,hc,not_false_eq_true,if_true]
theorem Zes {a b:Row} {k:Nat} (ha:k<a.length) (hb:k<b.length) (h:a.take k=b.take k) (hc:cmpV (a.getD k v0) (b.getD k v0)=0):a.take (k+1)=b.take (k+1):=by
 have e1:a.getD k v0=a[k]:=(by simp [List.getD,ha]);have e2:b.getD k v0=b[k]:=(by simp [List.getD,hb]);rw [e1,e2,cmpV_is.zero] at hc;rw [List.take_succ_eq_append_getElem ha,List.take_succ_eq_append_getElem hb,h,hc]
theorem Zfk {a b:Row} {k:Nat} (ha:a.length=k) (hb:k<b.length) (h:a.take k=b.take k):cmpR a b=-1:=by
 rw [ZdW k a b (by omega) (by omega) h,List.drop_of_length_le (by omega),List.drop_eq_getElem_cons hb];rfl
theorem Zfj {a b:Row} {k:Nat} (ha:k<a.length) (hb:b.length=k) (h:a.take k=b.take k):cmpR a b=1:=by
 rw [ZdW k a b (by omega) (by omega) h,List.drop_of_length_le (l:=b) (by omega),List.drop_eq_getElem_cons ha];rfl
theorem ZgU {a b:Row} {k:Nat} (ha:a.length=k) (hb:b.length=k) (h:a.take k=b.take k):cmpR a b=0:=by
 rw [List.take_of_length_le (by omega),List.take_of_length_le (by omega)] at h;exact(cmpR_is.zero a b).2 h
theorem cmpFunc_any (A B:Option Addr) (ca cb:Nat) (a b:Row) (S:Nat→Prop) (w:World) (ha:RowS w S A a) (hb:RowS w S B b) (hS:∀ b,S b→b<w.heap.size) :
  Calls Try.prog 99 #[.slice A a.length ca,.slice B b.length cb,.func (.func 100) #[] #[]] w (ZbV (cmpR a b) w):=by
 have hla:=ha.len;have hlb:=hb.len;have HA:=hI ha;have HBB:=hI hb;clear ha hb;go_enter Try.func99,Try.ntmps99
 go_wp2_with fail
 go_loopw [13] (fun i wr=>∃ k:Nat,k≤a.length∧k≤b.length∧i=.int .i64 k∧a.take k=b.take k∧Below w.heap.size w wr) (fun i _=>a.length - (intOf i).toNat)
 case atStart=>exact⟨0,Nat.zero_le _,Nat.zero_le _,rfl,by simp,Below.refl _ _⟩
 case round =>
  obtain⟨k,hka,hkb,rfl,htk,hbel⟩:=hrel;have HT:=hI htk;have HB:=hI hbel;have hsz:=hbel.size;clear htk hbel
  by_cases hlt:k<a.length
  · obtain⟨b1,o1,rfl,hb1,c1,c2,c3⟩:=(HA.out.keep (Same.of_below HB.out hS)).at_ hlt;have HBA:=hI ((HB.out.alloc hsz (.cells #[.int .i64 (a.getD k v0).k,.int .i64 (a.getD k v0).i,.string (a.getD k v0).t] 51)))
    by_cases hlt2:k<b.length
    · obtain⟨b2,o2,rfl,hb2,d1,d2,d3⟩:=(HBB.out.keep (Same.of_below HB.out hS)).at_ hlt2;have hki:(k:Int)<b.length:=(by omega);have HC:=hI (show ∀ h:cmpV (a.getD k v0) (b.getD k v0)≠0,cmpR a b=cmpV (a.getD k v0) (b.getD k v0) from cmpR_ne hlt hlt2 HT.out);have HZ:=hI (show cmpV (a.getD k v0) (b.getD k v0)=0→a.take (k+1)=b.take (k+1) from Zes hlt hlt2 HT.out);have hl2:b2<wr.heap.size:=(by have:=hS b2 hb2;omega);have hn2:b2≠wr.heap.size:=(by omega);generalize a.getD k v0=x at c1 c2 c3 HC HZ HBA;generalize b.getD k v0=y at d1 d2 d3 HC HZ;obtain⟨xk,xi,xt⟩:=x;obtain⟨yk,yi,yt⟩:=y;simp only at c1 c2 c3 d1 d2 d3 HBA
      go_wp2_with fail
      refine(compare_any ⟨xk,xi,xt⟩ ⟨yk,yi,yt⟩ _).mono ?_;rintro e w1 ⟨rfl,hb1⟩;have HB1:=hI ((HBA.out.alloc (by simp;omega) _).trans (hb1.mono (by simp;omega)));clear hb1 HBA
      by_cases hc:cmpV ⟨xk,xi,xt⟩ ⟨yk,yi,yt⟩=0
      · have HTK:=hI (HZ.out hc);rw [hc];clear hc
        go_wp2_with fail
        go_roundw
        case rel=>exact⟨k+1,by omega,by omega,by go_num,HTK.out,HB1.out⟩
        case measure=>simp [intOf];omega
      · have HF:=hI (HC.out hc);have hd:(cmpV ⟨xk,xi,xt⟩ ⟨yk,yi,yt⟩ != 0)=true:=(by simp [hc]);generalize cmpV ⟨xk,xi,xt⟩ ⟨yk,yi,yt⟩=cv at hd HF hc
        go_wp2_with fail
        go_ret;exact⟨by rw [HF.out];rfl,HB1.out⟩
    · have HF:=hI (Zfj hlt (show b.length=k by omega) HT.out);generalize a.getD k v0=x at c1 c2 c3 HBA;obtain⟨xk,xi,xt⟩:=x;simp only at c1 c2 c3 HBA
      go_wp2_with fail
      go_ret;exact⟨by rw [HF.out];rfl,HBA.out⟩
  · have hka':a.length=k:=by omega
    by_cases hlt2:k<b.length
    · have HF:=hI (Zfk hka' hlt2 HT.out);have hd:decide (a.length<b.length)=true:=(by simp;omega);clear hka'
      go_wp2_with fail
      go_ret;exact⟨by rw [HF.out];rfl,HB.out⟩
    · have HF:=hI (ZgU hka' (show b.length=k by omega) HT.out);have hd:decide (a.length<b.length)=false:=(by simp;omega);clear hka'
      go_wp2_with fail
      go_ret;exact⟨by rw [HF.out];rfl,HB.out⟩
theorem Zbc (A B:Option Addr) (ca cb:Nat) (a b:Row) (S:Nat→Prop) (w:World) (ha:RowS w S A a) (hb:RowS w S B b) (hS:∀ b,S b→b<w.heap.size) :
  Calls Try.prog 60 #[.slice A a.length ca,.slice B b.length cb] w (ZbV (cmpR a b) w):=by
 go_enter Try.func60,Try.ntmps60
 go_wp2_with fail
 refine(cmpFunc_any A B ca cb a b S w ha hb hS).mono ?_;rintro e w1 ⟨rfl,hb1⟩;have HB1:=hI hb1;clear hb1
 go_wp2_with fail
 go_ret;exact⟨rfl,HB1.out⟩
theorem ZeC {s t:ByteArray} (h:cmpB s t=-1):Op.bytesLess s.toList t.toList=true∧Op.bytesLess t.toList s.toList=false:=by
 have key:∀ a b:List UInt8,(Lib.compareBytes a b=-1→Op.bytesLess a b=true∧Op.bytesLess b a=false):=by
  intro a;induction a with
  | nil=>intro b h;cases b<;>simp [Lib.compareBytes,Op.bytesLess] at h ⊢
  | cons x a ih=>intro b h;cases b with
   | nil=>simp [Lib.compareBytes] at h
   | cons y b =>
    simp only [Lib.compareBytes] at h;simp only [Op.bytesLess]
    by_cases h1:x<y
    · have h2:¬ y<x:=(by rw [UInt8.lt_iff_toNat_lt] at h1 ⊢;omega);have h3:¬ y=x:=(fun e=>by subst e;exact h2 h1);simp [h1,h2,h3]
    · by_cases h2:y<x
      · simp [h1,h2] at h
      · simp only [h1,h2,if_false] at h
        have e:x=y:=by
         rw [UInt8.lt_iff_toNat_lt] at h1 h2;exact UInt8.toNat_inj.1 (by omega)
        subst e;simp [h1,ih b h]
 have:=key s.data.toList t.data.toList h;simpa [ByteArray.toList_eq] using this
theorem bytesLess_self (s:ByteArray):Op.bytesLess s.toList s.toList=false:=by
 have key:∀ a:List UInt8,Op.bytesLess a a=false:=by
  intro a;induction a with
  | nil=>rfl
  | cons x a ih=>simp [Op.bytesLess,ih]
 exact key _
theorem rcompare_any (a b:V) (w:World):Calls Try.prog 72 #[vAgg a,vAgg b] w (ZbV (cmpV a b) w):=by
 have hk:=@cmpV_k a b;have hi:=@cmpV_i a b;have ht:=@cmpV_t a b;obtain⟨ak,ai,at_⟩:=a;obtain⟨bk,bi,bt⟩:=b;dsimp only at hk hi ht;generalize hcv:cmpV ⟨ak,ai,at_⟩ ⟨bk,bi,bt⟩=cv at hk hi ht;have HB:=hI (((Below.refl w.heap.size w).alloc nR (.cells #[.int .i64 ak,.int .i64 ai,.string at_] 51)).alloc (by simp) (.cells #[.int .i64 bk,.int .i64 bi,.string bt] 51));rcases Int.lt_trichotomy ak bk with h1 | h1 | h1
 · have HF:=hI (show cv=-1 by rw [hk (by omega)];unfold cmpI;rw [if_pos h1]);have hd:decide (ak<bk)=true:=(by simp [h1]);clear hk hi ht hcv;go_enter Try.func72,Try.ntmps72
   go_wp2_with fail
   go_ret;exact⟨by rw [HF.out];rfl,HB.out⟩
 · subst h1;have hd:decide (ak<ak)=false:=(by simp);rcases Int.lt_trichotomy ai bi with h2 | h2 | h2
   · have HF:=hI (show cv=-1 by rw [hi rfl (by omega)];unfold cmpI;rw [if_pos h2]);have hd:decide (ai<bi)=true:=(by simp [h2]);clear hk hi ht hcv;go_enter Try.func72,Try.ntmps72
     go_wp2_with fail
     go_ret;exact⟨by rw [HF.out];rfl,HB.out⟩
   · subst h2;have HF0:=hI (ht rfl rfl);clear hk hi ht hcv;rcases cmpB_is.rng at_ bt with h3 | h3 | h3
     · obtain⟨e1,e2⟩:=ZeC h3;have H3:=hI h3;clear h3;go_enter Try.func72,Try.ntmps72
       go_wp2_with fail
       go_ret;exact⟨by rw [HF0.out,H3.out];rfl,HB.out⟩
     · have e:=(cmpB_is.zero at_ bt).1 h3;subst e;have e1:=bytesLess_self at_;have H3:=hI h3;clear h3;go_enter Try.func72,Try.ntmps72
       go_wp2_with fail
       go_ret;exact⟨by rw [HF0.out,H3.out];rfl,HB.out⟩
     · have h4:cmpB bt at_=-1:=(by rw [cmpB_is.flip at_ bt,h3]);obtain⟨e1,e2⟩:=ZeC h4;have e3:(at_.toList == bt.toList)=false:=Zdp (fun e=>by subst e;rw [cmpB_is.self] at h3;cases h3);have H3:=hI h3;clear h3 h4;go_enter Try.func72,Try.ntmps72
       go_wp2_with fail
       go_ret;exact⟨by rw [HF0.out,H3.out];rfl,HB.out⟩
   · have HF:=hI (show cv=1 by rw [hi rfl (by omega)];unfold cmpI;rw [if_neg (by omega),if_pos h2]);have hd:decide (ai<bi)=false:=(by simp;omega);have hd2:decide (bi<ai)=true:=(by simp [h2]);clear hk hi ht hcv;go_enter Try.func72,Try.ntmps72
     go_wp2_with fail
     go_ret;exact⟨by rw [HF.out];rfl,HB.out⟩
 · have HF:=hI (show cv=1 by rw [hk (by omega)];unfold cmpI;rw [if_neg (by omega),if_pos h1]);have hd:decide (ak<bk)=false:=(by simp;omega);have hd2:decide (bk<ak)=true:=(by simp [h1]);clear hk hi ht hcv;go_enter Try.func72,Try.ntmps72
   go_wp2_with fail
   go_ret;exact⟨by rw [HF.out];rfl,HB.out⟩
theorem ZbG (A B:Option Addr) (ca cb:Nat) (a b:Row) (S:Nat→Prop) (w:World) (ha:RowS w S A a) (hb:RowS w S B b) (hS:∀ b,S b→b<w.heap.size) :
  Calls Try.prog 36 #[.slice A a.length ca,.slice B b.length cb] w (ZbV (cmpR a b) w):=by
 have hla:=ha.len;have hlb:=hb.len;have HA:=hI ha;have HBB:=hI hb;clear ha hb;go_enter Try.func36,Try.ntmps36
 go_wp2_with fail
 go_loopw [5] (fun i wr=>∃ k:Nat,k≤a.length∧k≤b.length∧i=.int .i64 k∧a.take k=b.take k∧Below w.heap.size w wr) (fun i _=>a.length - (intOf i).toNat)
 case atStart=>exact⟨0,Nat.zero_le _,Nat.zero_le _,rfl,by simp,Below.refl _ _⟩
 case round =>
  obtain⟨k,hka,hkb,rfl,htk,hbel⟩:=hrel;have HT:=hI htk;have HB:=hI hbel;have hsz:=hbel.size;clear htk hbel
  by_cases hlt:k<a.length
  · have hdk:decide (k<a.length)=true:=by simp [hlt]
    by_cases hlt2:k<b.length
    · have hdk2:decide (k<b.length)=true:=(by simp [hlt2]);obtain⟨b1,o1,rfl,hb1,c1,c2,c3⟩:=(HA.out.keep (Same.of_below HB.out hS)).at_ hlt;obtain⟨b2,o2,rfl,hb2,d1,d2,d3⟩:=(HBB.out.keep (Same.of_below HB.out hS)).at_ hlt2;have hka0:(0:Int)≤(k:Int):=(by omega);have hkai:(k:Int)<a.length:=(by omega);have hkbi:(k:Int)<b.length:=(by omega);have HC:=hI (show ∀ h:cmpV (a.getD k v0) (b.getD k v0)≠0,cmpR a b=cmpV (a.getD k v0) (b.getD k v0) from cmpR_ne hlt hlt2 HT.out);have HZ:=hI (show cmpV (a.getD k v0) (b.getD k v0)=0→a.take (k+1)=b.take (k+1) from Zes hlt hlt2 HT.out);generalize a.getD k v0=x at c1 c2 c3 HC HZ;generalize b.getD k v0=y at d1 d2 d3 HC HZ;obtain⟨xk,xi,xt⟩:=x;obtain⟨yk,yi,yt⟩:=y;simp only at c1 c2 c3 d1 d2 d3;have hl1:b1<wr.heap.size:=(by have:=hS b1 hb1;omega);have hl2:b2<wr.heap.size:=by have:=hS b2 hb2;omega
      go_wp2_with fail
      go_region_held3 (fun w'=>(w'.cell? ⟨b1,o1+k*3,none⟩=some (.int .i64 xk)∧w'.cell? ⟨b1,o1+k*3+1,none⟩=some (.int .i64 xi)∧w'.cell? ⟨b1,o1+k*3+2,none⟩=some (.string xt))∧w'.cell? ⟨b2,o2+k*3,none⟩=some (.int .i64 yk)∧w'.cell? ⟨b2,o2+k*3+1,none⟩=some (.int .i64 yi)∧w'.cell? ⟨b2,o2+k*3+2,none⟩=some (.string yt)) (first | go_keep | (exact⟨⟨c9Q hbe hl1 c1,c9Q hbe hl1 c2,c9Q hbe hl1 c3⟩,c9Q hbe hl2 d1,c9Q hbe hl2 d2,c9Q hbe hl2 d3⟩))
       ((go_at_call 72;refine(rcompare_any ⟨xk,xi,xt⟩ ⟨yk,yi,yt⟩ _).mono ?_;rintro e w1 ⟨rfl,hbe⟩))
      have HB1:=hI (HB.out.trans (((Below.refl wr.heap.size wr).drew.trans hbe).mono hsz));clear hbe
      by_cases hc:cmpV ⟨xk,xi,xt⟩ ⟨yk,yi,yt⟩=0
      · have HTK:=hI (HZ.out hc);rw [hc];clear hc
        go_wp2_with fail
        go_roundw
        case rel=>exact⟨k+1,by omega,by omega,by go_num,HTK.out,HB1.out⟩
        case measure=>simp [intOf];omega
      · have HF:=hI (HC.out hc);have hd:(cmpV ⟨xk,xi,xt⟩ ⟨yk,yi,yt⟩ != 0)=true:=(by simp [hc]);generalize cmpV ⟨xk,xi,xt⟩ ⟨yk,yi,yt⟩=cv at hd HF hc
        go_wp2_with fail
        go_ret;exact⟨by rw [HF.out];rfl,HB1.out⟩
    · have HF:=hI (Zfj hlt (show b.length=k by omega) HT.out);have hdk2:decide (k<b.length)=false:=(by simp;omega);have hd:decide (a.length<b.length)=false:=(by simp;omega);have hd2:decide (b.length<a.length)=true:=by simp;omega
      go_wp2_with fail
      go_ret;exact⟨by rw [HF.out];rfl,HB.out⟩
  · have hka':a.length=k:=(by omega);have hdk:decide (k<a.length)=false:=by simp;omega
    by_cases hlt2:k<b.length
    · have HF:=hI (Zfk hka' hlt2 HT.out);have hd:decide (a.length<b.length)=true:=(by simp;omega);clear hka'
      go_wp2_with fail
      go_ret;exact⟨by rw [HF.out];rfl,HB.out⟩
    · have HF:=hI (ZgU hka' (show b.length=k by omega) HT.out);have hd:decide (a.length<b.length)=false:=(by simp;omega);have hd2:decide (b.length<a.length)=false:=(by simp;omega);clear hka'
      go_wp2_with fail
      go_ret;exact⟨by rw [HF.out];rfl,HB.out⟩
def Zan (v:V):Bool :=
 if v.k=1∨v.k=2 then decide (v.i=0)&&v.t.toList.isEmpty
 else if v.k=3 then (decide (v.i=0)||decide (v.i=1))&&v.t.toList.isEmpty
 else if v.k=4 then v.t.toList.isEmpty
 else if v.k=5 then decide (v.i=0)&&decide ((v.t.size:Int)≤64)
 else false
def Zee (v:V):Bool:=Zan v&&decide (v.k≠1)&&decide (v.k≠2)
theorem validV_kind {v:V} (h:Zan v=true):1≤v.k∧v.k≤5:=by
 unfold Zan at h
 by_cases h1:v.k=1∨v.k=2
 · omega
 · rw [if_neg h1] at h
   by_cases h3:v.k=3
   · omega
   · rw [if_neg h3] at h
     by_cases h4:v.k=4
     · omega
     · rw [if_neg h4] at h
       by_cases h5:v.k=5
       · omega
       · rw [if_neg h5] at h;cases h
theorem ZdD (v:V) (w:World) (hs:v.t.size≤9223372036854775807):Calls Try.prog 50 #[vAgg v] w (ZaS (Zan v) w):=by
 obtain⟨k,i,t⟩:=v;dsimp only at hs;have HB:=hI ((Below.refl w.heap.size w).alloc nR (.cells #[.int .i64 k,.int .i64 i,.string t] 51))
 by_cases h1:k=1
 · subst h1
   by_cases hi:i=0
   · subst hi;have HF:=hI (show Zan ⟨1,0,t⟩=t.toList.isEmpty by simp [Zan]);go_enter Try.func50,Try.ntmps50
     go_wp2_with fail
     go_ret;exact⟨by rw [HF.out];rfl,HB.out⟩
   · have hd:(i == 0)=false:=beq_eq_false_iff_ne.2 hi;have HF:=hI (show Zan ⟨1,i,t⟩=false by simp [Zan,hi]);go_enter Try.func50,Try.ntmps50
     go_wp2_with fail
     go_ret;exact⟨by rw [HF.out];rfl,HB.out⟩
 have e1:(k == 1)=false:=beq_eq_false_iff_ne.2 h1
 by_cases h2:k=2
 · subst h2
   by_cases hi:i=0
   · subst hi;have HF:=hI (show Zan ⟨2,0,t⟩=t.toList.isEmpty by simp [Zan]);go_enter Try.func50,Try.ntmps50
     go_wp2_with fail
     go_ret;exact⟨by rw [HF.out];rfl,HB.out⟩
   · have hd:(i == 0)=false:=beq_eq_false_iff_ne.2 hi;have HF:=hI (show Zan ⟨2,i,t⟩=false by simp [Zan,hi]);go_enter Try.func50,Try.ntmps50
     go_wp2_with fail
     go_ret;exact⟨by rw [HF.out];rfl,HB.out⟩
 have e2:(k == 2)=false:=beq_eq_false_iff_ne.2 h2
 by_cases h3:k=3
 · subst h3
   by_cases hi:i=0
   · subst hi;have HF:=hI (show Zan ⟨3,0,t⟩=t.toList.isEmpty by simp [Zan]);go_enter Try.func50,Try.ntmps50
     go_wp2_with fail
     go_ret;exact⟨by rw [HF.out];rfl,HB.out⟩
   · have hd:(i == 0)=false:=beq_eq_false_iff_ne.2 hi
     by_cases hj:i=1
     · subst hj;have HF:=hI (show Zan ⟨3,1,t⟩=t.toList.isEmpty by simp [Zan]);go_enter Try.func50,Try.ntmps50
       go_wp2_with fail
       go_ret;exact⟨by rw [HF.out];rfl,HB.out⟩
     · have hd2:(i == 1)=false:=beq_eq_false_iff_ne.2 hj;have HF:=hI (show Zan ⟨3,i,t⟩=false by simp [Zan,hi,hj]);go_enter Try.func50,Try.ntmps50
       go_wp2_with fail
       go_ret;exact⟨by rw [HF.out];rfl,HB.out⟩
 have e3:(k == 3)=false:=beq_eq_false_iff_ne.2 h3
 by_cases h4:k=4
 · subst h4;have HF:=hI (show Zan ⟨4,i,t⟩=t.toList.isEmpty by simp [Zan]);go_enter Try.func50,Try.ntmps50
   go_wp2_with fail
   go_ret;exact⟨by rw [HF.out];rfl,HB.out⟩
 have e4:(k == 4)=false:=beq_eq_false_iff_ne.2 h4
 by_cases h5:k=5
 · subst h5
   by_cases hi:i=0
   · subst hi;have HF:=hI (show Zan ⟨5,0,t⟩=decide ((t.size:Int)≤64) by simp [Zan]);go_enter Try.func50,Try.ntmps50
     go_wp2_with fail
     go_ret;exact⟨by rw [HF.out];rfl,HB.out⟩
   · have hd:(i == 0)=false:=beq_eq_false_iff_ne.2 hi;have HF:=hI (show Zan ⟨5,i,t⟩=false by simp [Zan,hi]);go_enter Try.func50,Try.ntmps50
     go_wp2_with fail
     go_ret;exact⟨by rw [HF.out];rfl,HB.out⟩
 have e5:(k == 5)=false:=beq_eq_false_iff_ne.2 h5;have HF:=hI (show Zan ⟨k,i,t⟩=false by simp [Zan,h1,h2,h3,h4,h5]);go_enter Try.func50,Try.ntmps50
 go_wp2_with fail
 go_ret;exact⟨by rw [HF.out];rfl,HB.out⟩
theorem rvalid_any (v:V) (w:World) (hs:v.t.size≤9223372036854775807):Calls Try.prog 95 #[vAgg v] w (ZaS (Zan v) w):=by
 obtain⟨k,i,t⟩:=v;dsimp only at hs;have HB:=hI ((Below.refl w.heap.size w).alloc nR (.cells #[.int .i64 k,.int .i64 i,.string t] 51))
 by_cases h1:k=1
 · subst h1
   by_cases hi:i=0
   · subst hi;have HF:=hI (show Zan ⟨1,0,t⟩=t.toList.isEmpty by simp [Zan]);go_enter Try.func95,Try.ntmps95
     go_wp2_with fail
     go_ret;exact⟨by rw [HF.out];rfl,HB.out⟩
   · have hd:(i == 0)=false:=beq_eq_false_iff_ne.2 hi;have HF:=hI (show Zan ⟨1,i,t⟩=false by simp [Zan,hi]);go_enter Try.func95,Try.ntmps95
     go_wp2_with fail
     go_ret;exact⟨by rw [HF.out];rfl,HB.out⟩
 have e1:(k == 1)=false:=beq_eq_false_iff_ne.2 h1
 by_cases h2:k=2
 · subst h2
   by_cases hi:i=0
   · subst hi;have HF:=hI (show Zan ⟨2,0,t⟩=t.toList.isEmpty by simp [Zan]);go_enter Try.func95,Try.ntmps95
     go_wp2_with fail
     go_ret;exact⟨by rw [HF.out];rfl,HB.out⟩
   · have hd:(i == 0)=false:=beq_eq_false_iff_ne.2 hi;have HF:=hI (show Zan ⟨2,i,t⟩=false by simp [Zan,hi]);go_enter Try.func95,Try.ntmps95
     go_wp2_with fail
     go_ret;exact⟨by rw [HF.out];rfl,HB.out⟩
 have e2:(k == 2)=false:=beq_eq_false_iff_ne.2 h2
 by_cases h3:k=3
 · subst h3
   by_cases hi:i=0
   · subst hi;have HF:=hI (show Zan ⟨3,0,t⟩=t.toList.isEmpty by simp [Zan]);go_enter Try.func95,Try.ntmps95
     go_wp2_with fail
     go_ret;exact⟨by rw [HF.out];rfl,HB.out⟩
   · have hd:(i == 0)=false:=beq_eq_false_iff_ne.2 hi
     by_cases hj:i=1
     · subst hj;have HF:=hI (show Zan ⟨3,1,t⟩=t.toList.isEmpty by simp [Zan]);go_enter Try.func95,Try.ntmps95
       go_wp2_with fail
       go_ret;exact⟨by rw [HF.out];rfl,HB.out⟩
     · have hd2:(i == 1)=false:=beq_eq_false_iff_ne.2 hj;have HF:=hI (show Zan ⟨3,i,t⟩=false by simp [Zan,hi,hj]);go_enter Try.func95,Try.ntmps95
       go_wp2_with fail
       go_ret;exact⟨by rw [HF.out];rfl,HB.out⟩
 have e3:(k == 3)=false:=beq_eq_false_iff_ne.2 h3
 by_cases h4:k=4
 · subst h4;have HF:=hI (show Zan ⟨4,i,t⟩=t.toList.isEmpty by simp [Zan]);go_enter Try.func95,Try.ntmps95
   go_wp2_with fail
   go_ret;exact⟨by rw [HF.out];rfl,HB.out⟩
 have e4:(k == 4)=false:=beq_eq_false_iff_ne.2 h4
 by_cases h5:k=5
 · subst h5
   by_cases hi:i=0
   · subst hi;have HF:=hI (show Zan ⟨5,0,t⟩=decide ((t.size:Int)≤64) by simp [Zan]);go_enter Try.func95,Try.ntmps95
     go_wp2_with fail
     go_ret;exact⟨by rw [HF.out];rfl,HB.out⟩
   · have hd:(i == 0)=false:=beq_eq_false_iff_ne.2 hi;have HF:=hI (show Zan ⟨5,i,t⟩=false by simp [Zan,hi]);go_enter Try.func95,Try.ntmps95
     go_wp2_with fail
     go_ret;exact⟨by rw [HF.out];rfl,HB.out⟩
 have e5:(k == 5)=false:=beq_eq_false_iff_ne.2 h5;have HF:=hI (show Zan ⟨k,i,t⟩=false by simp [Zan,h1,h2,h3,h4,h5]);go_enter Try.func95,Try.ntmps95
 go_wp2_with fail
 go_ret;exact⟨by rw [HF.out];rfl,HB.out⟩
theorem real_any (v:V) (w:World) (hs:v.t.size≤9223372036854775807):Calls Try.prog 145 #[vAgg v] w (ZaS (Zee v) w):=by
 have hr:Zee v=(Zan v&&decide (v.k≠1)&&decide (v.k≠2)):=rfl;obtain⟨k,i,t⟩:=v;dsimp only at hs hr;go_enter Try.func145,Try.ntmps145
 go_wp2_with fail
 refine(ZdD ⟨k,i,t⟩ _ hs).mono ?_;rintro e w1 ⟨rfl,hb1⟩;have HB1:=hI (((Below.refl w.heap.size w).alloc nR (.cells #[.int .i64 k,.int .i64 i,.string t] 51)).trans (hb1.mono (by simp)));have c0:w1.cell? ⟨w.heap.size,0,none⟩=some (.int .i64 k):=c9Q hb1 (by simp) (by simp [cell_of_row _ _ _ _ _ _ (heap_alloc_new w _)]);have HR:=hI hr;clear hb1 hr;generalize Zan ⟨k,i,t⟩=vv at HR;cases vv
 · go_wp2_with fail
   go_ret;exact⟨by rw [HR.out];rfl,HB1.out⟩
 · by_cases h1:k=1
   · subst h1
     go_wp2_with fail
     go_ret;exact⟨by rw [HR.out];rfl,HB1.out⟩
   · have hd:(k != 1)=true:=(by simp [h1]);have H1:=hI h1
     by_cases h2:k=2
     · subst h2
       go_wp2_with fail
       go_ret;exact⟨by rw [HR.out];rfl,HB1.out⟩
     · have hd2:(k != 2)=true:=(by simp [h2]);have H2:=hI h2;clear h1 h2
       go_wp2_with fail
       go_ret;exact⟨by rw [HR.out];simp [H1.out,H2.out],HB1.out⟩
theorem rreal_any (v:V) (w:World) (hs:v.t.size≤9223372036854775807):Calls Try.prog 141 #[vAgg v] w (ZaS (Zee v) w):=by
 have hk:=@validV_kind v;have hr:Zee v=(Zan v&&decide (v.k≠1)&&decide (v.k≠2)):=rfl;obtain⟨k,i,t⟩:=v;dsimp only at hs hr hk;go_enter Try.func141,Try.ntmps141
 go_wp2_with fail
 refine(rvalid_any ⟨k,i,t⟩ _ hs).mono ?_;rintro e w1 ⟨rfl,hb1⟩;have HB1:=hI (((Below.refl w.heap.size w).alloc nR (.cells #[.int .i64 k,.int .i64 i,.string t] 51)).trans (hb1.mono (by simp)));have c0:w1.cell? ⟨w.heap.size,0,none⟩=some (.int .i64 k):=c9Q hb1 (by simp) (by simp [cell_of_row _ _ _ _ _ _ (heap_alloc_new w _)]);have HR:=hI hr;clear hb1 hr;generalize Zan ⟨k,i,t⟩=vv at HR hk;cases vv
 · clear hk
   go_wp2_with fail
   go_ret;exact⟨by rw [HR.out];rfl,HB1.out⟩
 · have hk':=hk rfl;clear hk
   by_cases h1:3≤k
   · have hd:decide (3≤k)=true:=(by simp [h1]);have HF:=hI (show Zee ⟨k,i,t⟩=true by rw [HR.out];simp;omega)
     go_wp2_with fail
     go_ret;exact⟨by rw [HF.out];rfl,HB1.out⟩
   · have hd:decide (3≤k)=false:=(by simpa using h1);have HF:=hI (show Zee ⟨k,i,t⟩=false by rw [HR.out];simp;omega)
     go_wp2_with fail
     go_ret;exact⟨by rw [HF.out];rfl,HB1.out⟩
structure Col where
 name:ByteArray
 kind:Int
structure Rfr where
 cols:List Int
 table:Int
structure Opd where
 kind:Int
 index:Int
 value:V
inductive Pred
 | mk (op cmp:Int) (left right:Opd) (args:List Pred)
structure Tab where
 name:ByteArray
 cols:List Col
 key:Int
 refs:List Rfr
 checks:List Pred
structure Sch where
 version:Int
 tabs:List Tab
def ZfO (n:Int):Dat:=.lit (.int .i64 n)
def ZdV (c:Col):Dat:=.agg [.lit (.string c.name),.lit (.int .i64 c.kind)]
def ZgN (r:Rfr):Dat:=.agg [.slice (r.cols.map ZfO),.lit (.int .i64 r.table)]
def ZbU (o:Opd):Dat:=.agg [.lit (.int .i64 o.kind),.lit (.int .i64 o.index),encV o.value]
mutual
def encPred:Pred→Dat
 | .mk op cmp left right args=>.agg [.lit (.int .i64 op),.lit (.int .i64 cmp),ZbU left,ZbU right,.slice (encPreds args)]
def encPreds:List Pred→List Dat
 | []=>[]
 | p :: r=>encPred p :: encPreds r
end
theorem Zde:∀ l:List Pred,encPreds l=l.map encPred
 | []=>by unfold encPreds;rfl
 | p :: r=>by unfold encPreds;rw [Zde r];rfl
def Zbj (t:Tab):Dat:=.agg [.lit (.string t.name),.slice (t.cols.map ZdV),.lit (.int .i64 t.key),.slice (t.refs.map ZgN),.slice (t.checks.map encPred)]
theorem ZdA (t:Tab):(Zbj t).size=5:=rfl
theorem Zfe (t:Col):(ZdV t).size=2:=rfl
theorem encRfr_size (t:Rfr):(ZgN t).size=2:=rfl
theorem Zez (p:Pred):(encPred p).size=13:=by cases p;unfold encPred;rfl
theorem Zcd (p:Pred):(encPred p).bytes=136:=by cases p;unfold encPred;rfl
abbrev t0:Tab:=⟨⟨#[]⟩,[],0,[],[]⟩
abbrev c0:Col:=⟨⟨#[]⟩,0⟩
abbrev r0:Rfr:=⟨[],0⟩
def IntS (w:World) (S:Nat→Prop) (A:Option Addr) (l:List Int):Prop:=Sl w S A (l.map ZfO)
def ColS (w:World) (S:Nat→Prop) (A:Option Addr) (l:List Col):Prop:=Sl w S A (l.map ZdV)
def RfrS (w:World) (S:Nat→Prop) (A:Option Addr) (l:List Rfr):Prop:=Sl w S A (l.map ZgN)
def PredS (w:World) (S:Nat→Prop) (A:Option Addr) (l:List Pred):Prop:=Sl w S A (l.map encPred)
def TabS (w:World) (S:Nat→Prop) (A:Option Addr) (l:List Tab):Prop:=Sl w S A (l.map Zbj)
section
variable {w w':World} {S S':Nat→Prop} {A:Option Addr}
theorem Sl.at_ {α:Type} {enc:α→Dat} {n:Nat} {l:List α} (hs:∀ a,(enc a).size=n) (d:α) (h:Sl w S A (l.map enc)) {k:Nat} (hk:k<l.length):∃ b off,A=some ⟨b,off,none⟩∧S b∧Dat.Held w S (enc (l.getD k d)) b (off+k*n):=by
 obtain⟨b,off,e,hb,hc⟩:=h.2 (by simp;omega);have h1:=Zdm (n:=n) (fun d hd=>by obtain⟨v,_,rfl⟩:=List.mem_map.1 hd;exact hs v) hc k (by simpa using hk);rw [List.getElem_map] at h1;have e2:l.getD k d=l[k]:=(by simp [List.getD,hk]);rw [e2];exact⟨b,off,e,hb,h1⟩
theorem IntS.keep {l:List Int} (h:IntS w S A l) (hk:Same S w w'):IntS w' S A l:=Sl.keep h hk
theorem IntS.more {l:List Int} (h:IntS w S A l) (hS:∀ b,S b→S' b):IntS w S' A l:=Sl.more h hS
theorem IntS.len {l:List Int} (h:IntS w S A l):l.length≤17592186044416:=by have:=h.1;rw [Zag (n:=8) (fun _=>rfl)] at this;omega
theorem IntS.nil_:IntS w S A []:=Sl.nil_
theorem IntS.at_ {l:List Int} (h:IntS w S A l) {k:Nat} (hk:k<l.length):∃ b off,A=some ⟨b,off,none⟩∧S b∧w.cell? ⟨b,off+k,none⟩=some (.int .i64 (l.getD k 0)):=by
 obtain⟨b,off,e,hb,h1⟩:=Sl.at_ (n:=1) (fun _=>rfl) 0 h hk;rw [Nat.mul_one] at h1;exact⟨b,off,e,hb,by simpa [ZfO,Dat.Held] using h1⟩
theorem ColS.keep {l:List Col} (h:ColS w S A l) (hk:Same S w w'):ColS w' S A l:=Sl.keep h hk
theorem ColS.len {l:List Col} (h:ColS w S A l):l.length≤17592186044416:=by have:=h.1;rw [Zag (n:=24) (fun _=>rfl)] at this;omega
theorem ColS.at_ {l:List Col} (h:ColS w S A l) {k:Nat} (hk:k<l.length):∃ b off,A=some ⟨b,off,none⟩∧S b∧w.cell? ⟨b,off+k*2,none⟩=some (.string (l.getD k c0).name)∧w.cell? ⟨b,off+k*2+1,none⟩=some (.int .i64 (l.getD k c0).kind):=by
 obtain⟨b,off,e,hb,h1⟩:=Sl.at_ Zfe c0 h hk;have h2:w.cell? ⟨b,off+k*2,none⟩=some (.string (l.getD k c0).name)∧(l.getD k c0).name.size≤9223372036854775807∧w.cell? ⟨b,off+k*2+1,none⟩=some (.int .i64 (l.getD k c0).kind):=(by simpa [ZdV,Dat.Held,Dat.HeldAll,Dat.size,and_assoc] using h1);exact⟨b,off,e,hb,h2.1,h2.2.2⟩
theorem ColS.txt {l:List Col} (h:ColS w S A l) {k:Nat} (hk:k<l.length):(l.getD k c0).name.size≤9223372036854775807:=by
 obtain⟨b,off,e,hb,h1⟩:=Sl.at_ Zfe c0 h hk;have h2:w.cell? ⟨b,off+k*2,none⟩=some (.string (l.getD k c0).name)∧(l.getD k c0).name.size≤9223372036854775807∧w.cell? ⟨b,off+k*2+1,none⟩=some (.int .i64 (l.getD k c0).kind):=(by simpa [ZdV,Dat.Held,Dat.HeldAll,Dat.size,and_assoc] using h1);exact h2.2.1
theorem RfrS.keep {l:List Rfr} (h:RfrS w S A l) (hk:Same S w w'):RfrS w' S A l:=Sl.keep h hk
theorem RfrS.len {l:List Rfr} (h:RfrS w S A l):l.length≤17592186044416:=by have:=h.1;rw [Zag (n:=32) (fun _=>rfl)] at this;omega
theorem RfrS.at_ {l:List Rfr} (h:RfrS w S A l) {k:Nat} (hk:k<l.length):∃ b off,A=some ⟨b,off,none⟩∧S b∧(∃ A' c,w.cell? ⟨b,off+k*2,none⟩=some (.slice A' (l.getD k r0).cols.length c)∧(l.getD k r0).cols.length≤c∧IntS w S A' (l.getD k r0).cols)∧w.cell? ⟨b,off+k*2+1,none⟩=some (.int .i64 (l.getD k r0).table):=by
 obtain⟨b,off,e,hb,h1⟩:=Sl.at_ encRfr_size r0 h hk;simp only [ZgN,Dat.Held,Dat.HeldAll,Dat.size,and_true,List.length_map,Zbb] at h1;obtain⟨⟨A',c,h2,h3,h4,h5⟩,h6⟩:=h1;exact⟨b,off,e,hb,⟨A',c,h2,h3,⟨by simpa using h4,by simpa using h5⟩⟩,h6⟩
theorem PredS.keep {l:List Pred} (h:PredS w S A l) (hk:Same S w w'):PredS w' S A l:=Sl.keep h hk
theorem PredS.more {l:List Pred} (h:PredS w S A l) (hS:∀ b,S b→S' b):PredS w S' A l:=Sl.more h hS
theorem PredS.len {l:List Pred} (h:PredS w S A l):l.length≤17592186044416:=by have:=h.1;rw [Zag (n:=136) (Zcd)] at this;omega
theorem TabS.keep {l:List Tab} (h:TabS w S A l) (hk:Same S w w'):TabS w' S A l:=Sl.keep h hk
theorem TabS.more {l:List Tab} (h:TabS w S A l) (hS:∀ b,S b→S' b):TabS w S' A l:=Sl.more h hS
theorem TabS.len {l:List Tab} (h:TabS w S A l):l.length≤17592186044416:=by have:=h.1;rw [Zag (n:=96) (fun _=>rfl)] at this;omega
structure TabAt (w:World) (S:Nat→Prop) (b off:Nat) (t:Tab) (A1 A2 A3:Option Addr) (c1 c2 c3:Nat):Prop where
 name:w.cell? ⟨b,off,none⟩=some (.string t.name)
 cols:w.cell? ⟨b,off+1,none⟩=some (.slice A1 t.cols.length c1)
 key:w.cell? ⟨b,off+2,none⟩=some (.int .i64 t.key)
 refs:w.cell? ⟨b,off+3,none⟩=some (.slice A2 t.refs.length c2)
 checks:w.cell? ⟨b,off+4,none⟩=some (.slice A3 t.checks.length c3)
 cS:ColS w S A1 t.cols
 rS:RfrS w S A2 t.refs
 pS:PredS w S A3 t.checks
 cc:t.cols.length≤c1
 rc:t.refs.length≤c2
 pc:t.checks.length≤c3
 txt:t.name.size≤9223372036854775807
theorem TabS.at_ {l:List Tab} (h:TabS w S A l) {k:Nat} (hk:k<l.length):∃ b off,A=some ⟨b,off,none⟩∧S b∧∃ A1 A2 A3 c1 c2 c3,TabAt w S b (off+k*5) (l.getD k t0) A1 A2 A3 c1 c2 c3:=by
 obtain⟨b,off,e,hb,h1⟩:=Sl.at_ ZdA t0 h hk;simp only [Zbj,Dat.Held,Dat.HeldAll,Dat.size,and_true,List.length_map,Zbb,ZaQ] at h1;obtain⟨⟨h1,h1'⟩,⟨A1,c1,a1,a2,a3,a4⟩,h2,⟨A2,c2,b1,b2,b3,b4⟩,A3,c3,d1,d2,d3,d4⟩:=h1;exact⟨b,off,e,hb,A1,A2,A3,c1,c2,c3,h1,a1,h2,b1,d1,⟨by simpa using a3,by simpa using a4⟩,⟨by simpa using b3,by simpa using b4⟩,⟨by simpa using d3,by simpa using d4⟩,a2,b2,d2,h1'⟩
end
abbrev sAgg (v:Int) (A:Option Addr) (n c:Nat):Value:=.agg #[.int .i64 v,.slice A n c]
theorem info3:(Try.prog.info? 3).map (fun i=>(i.zero,i.size,i.bytes))=some (some (.int .i64 0),1,8):=by kernel_rfl
theorem Zef {w:World} {base:Nat} {e:TypeId} {size:Nat} {v:Value} {n:Nat} {xs:List Value} (h:w.ownsRow base e size v n xs) {g:Nat} (hg:v.ownBlock=some g):base≤g∧∃ cur,w.heap[g]?=some (.cells cur e (0,0)):=by
 rcases h.2 with ⟨rfl,_⟩ | ⟨g',cap,cur,rfl,hb,hh,_⟩
 · simp [Value.ownBlock] at hg
 · have:g'=g:=(by simpa [Value.ownBlock] using hg);subst this;exact⟨hb,cur,hh⟩
theorem ZaF {w:World} {base:Nat} {e:TypeId} {size:Nat} {v:Value} {n:Nat} {xs:List Value} (h:w.ownsRow base e size v n xs) {g:Nat} (hg:v.ownBlock=some g):base≤g:=(Zef h hg).1
theorem Zby {w:World} {base:Nat} {e:TypeId} {size:Nat} {A:Option Addr} {n m c:Nat} {xs:List Value} (h:w.ownsRow base e size (.slice A n c) n xs) (hm:m=n):m≤c:=by
 subst hm;rcases h.2 with ⟨_,hn⟩ | ⟨g,cap,cur,e1,hb,hh,h1,_⟩
 · omega
 · injection e1 with _ _ e3;omega
abbrev New (w w':World):Nat→Prop:=fun b=>w.heap.size≤b∧b<w'.heap.size
theorem Zck {w:World} {base:Nat} {e:TypeId} {size n c:Nat} {A:Option Addr} {xs:List Value} (h:w.ownsRow base e size (.slice A n c) n xs) (hn:0<n):∃ g,A=some ⟨g,0,none⟩∧base≤g∧g<w.heap.size∧∀ j u,xs[j]?=some u→w.cell? ⟨g,j,none⟩=some u:=by
 rcases h.2 with ⟨_,hn'⟩ | ⟨g,cap,cur,e1,hb,hh,h1,h2,h3,h4⟩
 · omega
 · injection e1 with e1 _ _;refine⟨g,e1,hb,Zad hh,fun j u hu=>?_⟩;have hq:=(List.getElem?_eq_some_iff.1 hu).1;rw [h.1] at hq;rw [←h4,List.getElem?_take_of_lt hq] at hu;simp only [World.cell?,hh];simpa using hu
theorem Zew {w:World} {base c:Nat} {A:Option Addr} {l:List Int} (hll:l.length≤17592186044416) (h:w.ownsRow base 3 1 (.slice A l.length c) l.length (l.map (Value.int .i64))):IntS w (fun b=>base≤b∧b<w.heap.size) A l:=by
 refine⟨by rw [Zag (n:=8) (fun _=>rfl)];omega,fun hn=>?_⟩;obtain⟨g,e,hb,hl,hc⟩:=Zck h (by simpa using hn);refine⟨g,0,e,⟨hb,hl⟩,ZfK (n:=1) (fun d hd=>by obtain⟨v,_,rfl⟩:=List.mem_map.1 hd;rfl) (fun k hk=>?_)⟩;rw [List.getElem_map];have hk':k<l.length:=(by simpa using hk);have:=hc k (.int .i64 l[k]) (by simp [hk']);simpa [ZfO,Dat.Held] using this
theorem Zht (w:World) (o1:Obj) (v:Value) (t:TypeId):∀ j u,([v]:List Value)[j]?=some u→((w.alloc o1).alloc (.cells #[v] t)).cell? ((⟨w.heap.size+1,0,none⟩:Addr).add j)=some u:=by
 have h:=World.news_of_block (cs:=#[v]) (t:=t) (fr:=(0,0)) (heap_alloc_new (w.alloc o1) (.cells #[v] t));simpa using h
def hasN (n:Nat) (t:Int):Bool:=decide (0≤t)&&decide (t<n)
theorem Zdx (v t:Int) (A:Option Addr) (n c:Nat) (w:World) (hn:n≤17592186044416):Calls Try.prog 92 #[sAgg v A n c,.int .i64 t] w (ZaS (hasN n t) w):=by
 have HB:=hI ((Below.refl w.heap.size w).alloc nR (.cells #[.int .i64 v,.slice A n c] 25))
 by_cases h0:0≤t
 · have hd0:decide (0≤t)=true:=(by simp [h0]);have HF:=hI (show hasN n t=decide (t<n) by simp [hasN,h0]);go_enter Try.func92,Try.ntmps92
   go_wp2_with fail
   go_ret;exact⟨by rw [HF.out];rfl,HB.out⟩
 · have hd0:decide (0≤t)=false:=(by simpa using h0);have HF:=hI (show hasN n t=false by simp [hasN];omega);go_enter Try.func92,Try.ntmps92
   go_wp2_with fail
   go_ret;exact⟨by rw [HF.out];rfl,HB.out⟩
def Zbs (s:Sch) (t:Int):List Int:=if hasN s.tabs.length t then (s.tabs.getD t.toNat t0).cols.map (·.kind) else []
def NewI (nd:Prop) (l:List Int) (w:World) (e:Ending) (w':World):Prop:=∃ A c,e=.returned (.slice A l.length c)∧IntS w' (New w w') A l∧l.length≤c∧(l.length=0→nd→A=none)∧Below w.heap.size w w'
theorem kinds_any (A0:Option Addr) (c0':Nat) (s:Sch) (t:Int) (S:Nat→Prop) (w:World) (hs:TabS w S A0 s.tabs) (hS:∀ b,S b→b<w.heap.size) :
  Calls Try.prog 91 #[sAgg s.version A0 s.tabs.length c0',.int .i64 t] w (NewI False (Zbs s t) w):=by
 have hsl:=hs.len;have HS:=hI hs;clear hs;obtain⟨i0,hi,hz0,hz1,hz2⟩:=info_parts info3;go_enter Try.func91,Try.ntmps91
 go_wp2_with fail
 refine(Zdx _ t A0 s.tabs.length c0' _ hsl).mono ?_;rintro e w1 ⟨rfl,hb1⟩;have HB1:=hI (((Below.refl w.heap.size w).alloc nR (.cells #[.int .i64 s.version,.slice A0 s.tabs.length c0'] 25)).trans (hb1.mono (by simp)));have cb:w1.cell? ⟨w.heap.size,1,none⟩=some (.slice A0 s.tabs.length c0'):=c9Q hb1 (by simp) (by simp [cell_of_row _ _ _ _ _ _ (heap_alloc_new w _)]);have hz1':w.heap.size<w1.heap.size:=(by have:=hb1.size;simp at this;omega);clear hb1
 by_cases hh:hasN s.tabs.length t=true
 · have HKF:=hI (show Zbs s t=(s.tabs.getD t.toNat t0).cols.map (·.kind) by unfold Zbs;rw [if_pos hh]);have hh0:0≤t∧t<s.tabs.length:=(by simpa [hasN] using hh);obtain⟨tt,rfl⟩:=Int.eq_ofNat_of_zero_le hh0.1;rw [Int.toNat_natCast] at HKF;have htl:tt<s.tabs.length:=(by omega);rw [hh];clear hh;obtain⟨b2,o2,rfl,hb2,A1,A2,A3,c1,c2,c3,hta⟩:=(HS.out.keep (Same.of_below HB1.out hS)).at_ htl;have k1:=hta.cols;have HCS':=hI hta.cS;have hcl:=hta.cS.len;have hl2:b2<w1.heap.size:=(by have:=hS b2 hb2;omega);clear hta;generalize s.tabs.getD tt t0=tb at k1 HCS' hcl HKF
   have hmk:∀ w:World,(Instr.makeSlice 40 (.int .i64 0) (.int .i64 (tb.cols.length:Int))).run Try.prog w=.ok (.slice (some ⟨w.heap.size,0,none⟩) 0 tb.cols.length) (w.alloc (.cells (madeCells (Value.int .i64 0).cells (tb.cols.length*1)) 3)):=fun w=>by
    have hr:=run_make (P:=Try.prog) w 40 3 i0 _ Try.underlying40 hi hz0 .i64 .i64 0 tb.cols.length (by omega) (by omega) (by rw [hz2];omega) (by omega);rw [hz1] at hr;simpa using hr
   go_wp2_with fail
   clear hmk
   go_loopw [5,27] (fun v i wr=>∃ (k c:Nat) (A:Option Addr),k≤tb.cols.length∧i=.int .i64 k∧v=.slice A k c∧wr.ownsRow w.heap.size 3 1 (.slice A k c) k (((tb.cols.map (·.kind)).take k).map (Value.int .i64))∧(k=0→False→A=none)∧Below w.heap.size w wr) (fun _ i _=>tb.cols.length - (intOf i).toNat)
   case atStart=>exact⟨0,_,_,Nat.zero_le _,rfl,rfl,World.ownsRow_made _ _ _ (by omega) (by unfold maxLen;omega) (by simp [size_madeCells]),fun _ h=>h.elim,HB1.out.alloc (by omega) _⟩
   case round =>
    obtain⟨k,c,A,hk,rfl,rfl,hown,hnil,hbel⟩:=hrel;have HOWN:=hI hown;have HBEL:=hI hbel;have HNIL:=hI hnil;have hsz:=hbel.size;clear hown hbel hnil
    by_cases hkl:k<tb.cols.length
    · obtain⟨b3,o3,rfl,hb3,c3,c4⟩:=(HCS'.out.keep (fun b hb=>(HBEL.out.block b (hS b hb)).trans (HB1.out.block b (hS b hb)).symm)).at_ hkl;have HT:=hI (show (tb.cols.map (·.kind)).take (k+1)=(tb.cols.map (·.kind)).take k++[(tb.cols.getD k c0).kind] by rw [List.take_succ_eq_append_getElem (by simpa using hkl)];simp [List.getD,hkl]);generalize tb.cols.getD k c0=cl at c3 c4 HT;obtain⟨cn,ck⟩:=cl;simp only at c3 c4 HT
      go_wp2_with (at_builtin;refine Zam _ rfl (.tmp 31) (.tmp 34) 40 rfl w.heap.size 3 i0 _ 1 8 Try.underlying40 hi hz0 hz1 hz2 rfl (by decide) (.slice A k c) k (((tb.cols.map (·.kind)).take k).map (Value.int .i64)) rfl ((HOWN.out.alloc _).alloc _) ⟨wr.heap.size+1,0,none⟩ 1 1 [.int .i64 ck] rfl rfl (Zht wr _ _ _) (by simp [Value.oneCell']) (by unfold maxLen;omega) (by omega) (by simp;omega) ?_;intro A1 c1 w7 hown7 hg7)
      have HOWN7:=hI hown7;have HG7:=hI hg7;clear hown7 hg7;go_roundw
      case rel =>
       refine⟨k+1,c1,A1,by omega,by go_num,rfl,?_,fun h=>absurd h (by omega),?_⟩
       · rw [HT.out,List.map_append];exact HOWN7.out
       · exact((HBEL.out.alloc hsz _).alloc (by simp;omega) _).grown HG7.out (by simp;omega) (fun b hb=>ZaF HOWN.out hb)
      case measure=>simp [intOf];omega
    · have HKE:=hI (show k=tb.cols.length by omega)
      go_wp2_with fail
      go_ret;have hown:=HOWN.out;rw [HKE.out,List.take_of_length_le (by simp)] at hown;rw [HKF.out];refine⟨A,c,by rw [HKE.out,List.length_map];rfl,Zew (by simpa using hcl) (by simpa using hown),Zby hown (by simp),?_,HBEL.out⟩;intro hz hnd;exact HNIL.out (by rw [HKE.out];simpa using hz) hnd
 · have HKF:=hI (show Zbs s t=[] by unfold Zbs;rw [if_neg hh]);have hh':hasN s.tabs.length t=false:=(by simpa using hh);rw [hh'];clear hh hh'
   go_wp2_with fail
   go_ret;rw [HKF.out];exact⟨none,0,rfl,IntS.nil_,by simp,fun _ _=>rfl,HB1.out⟩
theorem Zfz (A0:Option Addr) (c0':Nat) (s:Sch) (t:Int) (S:Nat→Prop) (w:World) (hs:TabS w S A0 s.tabs) (hS:∀ b,S b→b<w.heap.size) :
  Calls Try.prog 47 #[sAgg s.version A0 s.tabs.length c0',.int .i64 t] w (NewI True (Zbs s t) w):=by
 have hsl:=hs.len;have HS:=hI hs;clear hs;obtain⟨i0,hi,hz0,hz1,hz2⟩:=info_parts info3;have HB1:=hI ((Below.refl w.heap.size w).alloc nR (.cells #[.int .i64 s.version,.slice A0 s.tabs.length c0'] 25))
 by_cases hh:hasN s.tabs.length t=true
 · have HKF:=hI (show Zbs s t=(s.tabs.getD t.toNat t0).cols.map (·.kind) by unfold Zbs;rw [if_pos hh]);have hh0:0≤t∧t<s.tabs.length:=(by simpa [hasN] using hh);clear hh;obtain⟨tt,rfl⟩:=Int.eq_ofNat_of_zero_le hh0.1;rw [Int.toNat_natCast] at HKF;have htl:tt<s.tabs.length:=(by omega);obtain⟨b2,o2,rfl,hb2,A1,A2,A3,c1,c2,c3,hta⟩:=HS.out.at_ htl;have k1:=hta.cols;have HCS':=hI hta.cS;have hcl:=hta.cS.len;have hl2:b2<w.heap.size:=hS b2 hb2;clear hta;generalize s.tabs.getD tt t0=tb at k1 HCS' hcl HKF;have hd1:decide ((tt:Int)<0)=false:=(by simp);have hd2:decide (s.tabs.length≤tt)=false:=(by simp;omega);go_enter Try.func47,Try.ntmps47
   go_wp2_with fail
   go_loopw [5,24] (fun v i wr=>∃ (k c:Nat) (A:Option Addr),k≤tb.cols.length∧i=.int .i64 k∧v=.slice A k c∧wr.ownsRow w.heap.size 3 1 (.slice A k c) k (((tb.cols.map (·.kind)).take k).map (Value.int .i64))∧(k=0→True→A=none)∧Below w.heap.size w wr) (fun _ i _=>tb.cols.length - (intOf i).toNat)
   case atStart=>exact⟨0,_,_,Nat.zero_le _,rfl,rfl,World.ownsRow_nil _ _ _ _,fun _ _=>rfl,HB1.out⟩
   case round =>
    obtain⟨k,c,A,hk,rfl,rfl,hown,hnil,hbel⟩:=hrel;have HOWN:=hI hown;have HBEL:=hI hbel;have HNIL:=hI hnil;have hsz:=hbel.size;clear hown hbel hnil
    by_cases hkl:k<tb.cols.length
    · obtain⟨b3,o3,rfl,hb3,c3,c4⟩:=(HCS'.out.keep (Same.of_below HBEL.out hS)).at_ hkl;have HT:=hI (show (tb.cols.map (·.kind)).take (k+1)=(tb.cols.map (·.kind)).take k++[(tb.cols.getD k c0).kind] by rw [List.take_succ_eq_append_getElem (by simpa using hkl)];simp [List.getD,hkl]);generalize tb.cols.getD k c0=cl at c3 c4 HT;obtain⟨cn,ck⟩:=cl;simp only at c3 c4 HT
      go_wp2_with (at_builtin;refine Zam _ rfl (.tmp 28) (.tmp 31) 40 rfl w.heap.size 3 i0 _ 1 8 Try.underlying40 hi hz0 hz1 hz2 rfl (by decide) (.slice A k c) k (((tb.cols.map (·.kind)).take k).map (Value.int .i64)) rfl ((HOWN.out.alloc _).alloc _) ⟨wr.heap.size+1,0,none⟩ 1 1 [.int .i64 ck] rfl rfl (Zht wr _ _ _) (by simp [Value.oneCell']) (by unfold maxLen;omega) (by omega) (by simp;omega) ?_;intro A1 c1 w7 hown7 hg7)
      have HOWN7:=hI hown7;have HG7:=hI hg7;clear hown7 hg7;go_roundw
      case rel =>
       refine⟨k+1,c1,A1,by omega,by go_num,rfl,?_,fun h=>absurd h (by omega),?_⟩
       · rw [HT.out,List.map_append];exact HOWN7.out
       · exact((HBEL.out.alloc hsz _).alloc (by simp;omega) _).grown HG7.out (by simp;omega) (fun b hb=>ZaF HOWN.out hb)
      case measure=>simp [intOf];omega
    · have HKE:=hI (show k=tb.cols.length by omega)
      go_wp2_with fail
      go_ret;have hown:=HOWN.out;rw [HKE.out,List.take_of_length_le (by simp)] at hown;rw [HKF.out];refine⟨A,c,by rw [HKE.out,List.length_map];rfl,Zew (by simpa using hcl) (by simpa using hown),Zby hown (by simp),?_,HBEL.out⟩;intro hz hnd;exact HNIL.out (by rw [HKE.out];simpa using hz) hnd
 · have HKF:=hI (show Zbs s t=[] by unfold Zbs;rw [if_neg hh])
   have hh':t<0∨(s.tabs.length:Int)≤t:=by
    have:hasN s.tabs.length t=false:=(by simpa using hh);simp [hasN] at this;omega
   clear hh
   by_cases h0:t<0
   · have hd1:decide (t<0)=true:=(by simp [h0]);go_enter Try.func47,Try.ntmps47
     go_wp2_with fail
     go_ret;rw [HKF.out];exact⟨none,0,rfl,IntS.nil_,by simp,fun _ _=>rfl,HB1.out⟩
   · have hd1:decide (t<0)=false:=(by simpa using h0);have hd2:decide ((s.tabs.length:Int)≤t)=true:=(by simp;omega);go_enter Try.func47,Try.ntmps47
     go_wp2_with fail
     go_ret;rw [HKF.out];exact⟨none,0,rfl,IntS.nil_,by simp,fun _ _=>rfl,HB1.out⟩
end Go.Proofs.Ytkpjjfhfbpfjpaa
