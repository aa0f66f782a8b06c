import Derived.Test.YtjadnfodboepeaaGreatKej
import Derived.Test.YtjadnfodboepeaaGreatProg
import Derived.ProofKit
import Derived.Deep.AppendLies
import Derived.Deep.Draws
set_option linter.all false
set_option maxRecDepth 100000
set_option maxHeartbeats 8000000
namespace Go.Proofs.YtjadnfodboepeaaGreat
open Go.RowKit
variable {w w':World} {n:Nat} {A:Option Addr} {S S':Nat->Prop} {l:List Int}
theorem below_drewN {B:Nat} {a w:World} (h:Below B a w) (n:Nat):Below B a (w.drewN n):=⟨h.os,h.tape,h.output,h.size,h.block⟩
def Same (S:Nat->Prop) (w w':World):Prop:=∀ b,S b->w'.heap[b]?=w.heap[b]?
theorem Same.cell {S:Nat->Prop} {w w':World} (h:Same S w w') {b o:Nat} (z:S b):w'.cell? ⟨b,o,none⟩=w.cell? ⟨b,o,none⟩:=ql (h b z)
theorem Same.of_below {S:Nat->Prop} {B:Nat} {w w':World} (h:Below B w w') (z:∀ b,S b->b<B):Same S w w':=fun b E=>h.block b (z b E)
abbrev qS:=@Same.of_below
theorem Same.of_grown {S:Nat->Prop} {w w':World} {row:Option Nat} (h:w.grownBy w' row) (z:∀ b,S b->b<w/\some b≠row):Same S w w':=fun b E=>h.block b (z b E).1 (z b E).2
theorem Same.trans {S:Nat->Prop} {w w' z:World} (h:Same S w w') (F:Same S w' z):Same S w z:=fun b E=>(F b E).trans (h b E)
inductive Dat
 | lit (v:Value)
 | slice (l:List Dat)
 | agg (l:List Dat)
mutual
def Dat.size:Dat->Nat
 | .lit _=>1
 | .slice _=>1
 | .agg l=>Dat.sizes l
def Dat.sizes:List Dat->Nat
 | []=>0
 | d :: r=>d.size+Dat.sizes r
end
def litBytes:Value->Nat
 | .string _=>16
 | _=>8
mutual
def Dat.bytes:Dat->Nat
 | .lit v=>litBytes v
 | .slice _=>24
 | .agg l=>Dat.bytesAll l
def Dat.bytesAll:List Dat->Nat
 | []=>0
 | d :: r=>d.bytes+Dat.bytesAll r
end
theorem Ze {α:Type} {enc:α->Dat} (h:∀ a,(enc a).bytes=n):∀ l:List α,Dat.bytesAll (l.map enc)=l.length*n
 | []=>by simp [Dat.bytesAll]
 | a :: r=>by simp only [qL,Dat.bytesAll,h a,Ze h r,qK,Nat.succ_mul];omega
def ZkK:Value->Prop
 | .string s=>s.size<=9223372036854775807
 | _=>True
@[simp] theorem ZC (k:IntKind) (n:Int):ZkK (.int k n)=True:=rfl
@[simp] theorem ZA (s:ByteArray):ZkK (.string s)=(s.size<=9223372036854775807):=rfl
mutual
def Dat.Held (w:World) (S:Nat->Prop):Dat->Nat->Nat->Prop
 | .lit v,b,z=>w.cell? ⟨b,z,none⟩=some v/\ZkK v
 | .slice l,b,z=>∃ A c,w.cell? ⟨b,z,none⟩=some (.slice A l c)/\l.length<=c/\Dat.bytesAll l<=140737488355328/\(0<l.length->∃ b' E,A=some ⟨b',E,none⟩/\S b'/\Dat.Ha w S l b' E)
 | .agg l,b,z=>Dat.Ha w S l b z
def Dat.Ha (w:World) (S:Nat->Prop):List Dat->Nat->Nat->Prop
 | [],_,_=>True
 | d :: r,b,z=>Dat.Held w S d b z/\Dat.Ha w S r b (z+d.size)
end
mutual
theorem Dat.Held.keep (F:Same S w w'):∀ (d:Dat) (b z:Nat),S b->Dat.Held w S d b z->Dat.Held w' S d b z
 | .lit v,b,z,E,h=>by unfold Dat.Held at h ⊢;exact⟨(F.cell E).trans h.1,h.2⟩
 | .slice l,b,z,E,h=>by
  unfold Dat.Held at h ⊢;obtain⟨A,c,M,K,O,L⟩:=h;refine⟨A,c,(F.cell E).trans M,K,O,fun R=>?_⟩;obtain⟨b',I,e,H,N⟩:=L R;exact⟨b',I,e,H,Dat.Ha.keep F l b' I H N⟩
 | .agg l,b,z,E,h=>by unfold Dat.Held at h ⊢;exact Dat.Ha.keep F l b z E h
theorem Dat.Ha.keep (E:Same S w w'):∀ (l:List Dat) (b z:Nat),S b->Dat.Ha w S l b z->Dat.Ha w' S l b z
 | [],_,_,_,_=>by unfold Dat.Ha;trivial
 | d :: r,b,z,F,h=>by
  unfold Dat.Ha at h ⊢;exact⟨Dat.Held.keep E d b z F h.1,Dat.Ha.keep E r b _ F h.2⟩
end
mutual
theorem Dat.Held.more (E:∀ b,S b->S' b):∀ (d:Dat) (b z:Nat),Dat.Held w S d b z->Dat.Held w S' d b z
 | .lit v,b,z,h=>by unfold Dat.Held at h ⊢;exact h
 | .slice l,b,z,h=>by
  unfold Dat.Held at h ⊢;obtain⟨A,c,L,I,N,K⟩:=h;refine⟨A,c,L,I,N,fun O=>?_⟩;obtain⟨b',F,e,H,M⟩:=K O;exact⟨b',F,e,E b' H,Dat.Ha.more E l b' F M⟩
 | .agg l,b,z,h=>by unfold Dat.Held at h ⊢;exact Dat.Ha.more E l b z h
theorem Dat.Ha.more (E:∀ b,S b->S' b):∀ (l:List Dat) (b z:Nat),Dat.Ha w S l b z->Dat.Ha w S' l b z
 | [],_,_,_=>by unfold Dat.Ha;trivial
 | d :: r,b,z,h=>by
  unfold Dat.Ha at h ⊢;exact⟨Dat.Held.more E d b z h.1,Dat.Ha.more E r b _ h.2⟩
end
def Sl (w:World) (S:Nat->Prop) (A:Option Addr) (l:List Dat):Prop:=Dat.bytesAll l<=140737488355328/\(0<l.length->∃ b z,A=some ⟨b,z,none⟩/\S b/\Dat.Ha w S l b z)
section
variable {w w':World} {S S':Nat->Prop} {A:Option Addr} {l:List Dat}
theorem Sl.nil_:Sl w S A []:=⟨by simp [Dat.bytesAll],fun h=>absurd h yb⟩
abbrev Qd:=@Sl.nil_
theorem Sl.keep (h:Sl w S A l) (F:Same S w w'):Sl w' S A l:=⟨h.1,fun I=>by
 obtain⟨b,z,e,E,H⟩:=h.2 I;exact⟨b,z,e,E,Dat.Ha.keep F l b z E H⟩⟩
abbrev qU:=@Sl.keep
theorem Sl.more (h:Sl w S A l) (E:∀ b,S b->S' b):Sl w S' A l:=⟨h.1,fun I=>by
 obtain⟨b,z,e,H,F⟩:=h.2 I;exact⟨b,z,e,E b H,Dat.Ha.more E l b z F⟩⟩
abbrev qZ:=@Sl.more
end
theorem Zbu:∀ {l:List Dat} {b z:Nat},(∀ d ∈ l,d.size=n)->Dat.Ha w S l b z->∀ k (E:k<l.length),Dat.Held w S l[k] b (z+k*n)
 | [],_,_,_,_,k,E=>by simp at E
 | d :: r,b,z,F,h,0,_=>by
  unfold Dat.Ha at h;simpa using h.1
 | d :: r,b,z,F,h,k+1,E=>by
  unfold Dat.Ha at h;have hd:=F d yb;have:=Zbu (fun x H=>F x (by simp [H])) h.2 k (by simpa using E);rw [hd] at this;rw [show z+(k+1)*n=z+n+k*n by rw [Nat.succ_mul];omega];simpa using this
theorem ZaZ:∀ {l:List Dat} {b z:Nat},(∀ d ∈ l,d.size=n)->(∀ k (E:k<l.length),Dat.Held w S l[k] b (z+k*n))->Dat.Ha w S l b z
 | [],_,_,_,_=>by unfold Dat.Ha;trivial
 | d :: r,b,z,F,h=>by
  unfold Dat.Ha;have hd:=F d yb;have H:Dat.Held w S d b (z+0*n):=h 0 yb;refine⟨by simpa using H,ZaZ (fun x I=>F x (by simp [I])) (fun k E=>?_)⟩;have:Dat.Held w S r[k] b (z+(k+1)*n):=h (k+1) (by simpa using E);rw [hd];rw [show z+(k+1)*n=z+n+k*n by rw [Nat.succ_mul];omega] at this;exact this
end Go.Proofs.YtjadnfodboepeaaGreat
namespace Go.Proofs.YtjadnfodboepeaaGreat.Cut
open Go.RowKit
variable {w w':World} {n:Nat} {A:Option Addr} {S S':Nat->Prop} {l:List Int}
theorem below_drewN {B:Nat} {a w:World} (h:Below B a w) (n:Nat):Below B a (w.drewN n):=⟨h.os,h.tape,h.output,h.size,h.block⟩
def Same (S:Nat->Prop) (w w':World):Prop:=∀ b,S b->w'.heap[b]?=w.heap[b]?
theorem Same.cell {S:Nat->Prop} {w w':World} (h:Same S w w') {b o:Nat} (z:S b):w'.cell? ⟨b,o,none⟩=w.cell? ⟨b,o,none⟩:=ql (h b z)
theorem Same.of_below {S:Nat->Prop} {B:Nat} {w w':World} (h:Below B w w') (z:∀ b,S b->b<B):Same S w w':=fun b E=>h.block b (z b E)
abbrev qS:=@Same.of_below
theorem Same.of_grown {S:Nat->Prop} {w w':World} {row:Option Nat} (h:w.grownBy w' row) (z:∀ b,S b->b<w/\some b≠row):Same S w w':=fun b E=>h.block b (z b E).1 (z b E).2
def Reads (w:World) (S:Nat->Prop) (size:Nat) (A:Option Addr) (n:Nat) (xs:List Value):Prop :=
 xs.length=n*size/\(0<n->∃ b z,A=some ⟨b,z,none⟩/\S b/\∀ j u,xs[j]?=some u->w.cell? ⟨b,z+j,none⟩=some u)
section
variable {w w':World} {S S':Nat->Prop} {size n:Nat} {A:Option Addr} {xs:List Value}
theorem Reads.none_:Reads w S size A 0 []:=⟨yb,fun h=>absurd h ya⟩
theorem Reads.keep (h:Reads w S size A n xs) (E:Same S w w'):Reads w' S size A n xs :=
 ⟨h.1,fun K=>by
  obtain⟨b,F,e,z,I⟩:=h.2 K;exact⟨b,F,e,z,fun j u H=>(E.cell z).trans (I j u H)⟩⟩
theorem Reads.more (h:Reads w S size A n xs) (E:∀ b,S b->S' b):Reads w S' size A n xs :=
 ⟨h.1,fun I=>by
  obtain⟨b,z,e,F,H⟩:=h.2 I;exact⟨b,z,e,E b F,H⟩⟩
end
def Ints (w:World) (S:Nat->Prop) (A:Option Addr) (l:List Int):Prop:=Reads w S 1 A l (l.map (Value.int .i64))
theorem Ints.at_ {w:World} {S:Nat->Prop} {A:Option Addr} {l:List Int} {k:Nat} (h:Ints w S A l) (F:k<l) :
 ∃ b z,A=some ⟨b,z,none⟩/\S b/\w.cell? ⟨b,z+k,none⟩=some (.int .i64 (l.getD k 0)):=by
 obtain⟨b,z,e,H,E⟩:=h.2 ya;exact⟨b,z,e,H,E k _ (by simp [F])⟩
theorem Ints.keep (h:Ints w S A l) (z:Same S w w'):Ints w' S A l:=Reads.keep h z
theorem Ints.more (h:Ints w S A l) (z:∀ b,S b->S' b):Ints w S' A l:=Reads.more h z
def CaseOk (w:World) (g:Nat):Prop :=
 ∃ (A:Option Addr) (len cap p:Nat) (z:List Int),w.heap[g]?=some (.cells #[.slice A len cap,.int .i64 p] 95 (0,0))/\p<=len/\len<=1000/\z.length=len/\(∀ E ∈ z,0<=E/\E<=255) /\
  (0<len->∃ b,A=some ⟨b,0,none⟩/\b<g/\∀ j,j<len->w.cell? ⟨b,j,none⟩=some (.int .u8 (z.getD j 0)))
theorem CaseOk.lt {w:World} {g:Nat} (h:CaseOk w g):g<w:=by
 obtain⟨A,len,cap,p,H,z,_⟩:=h;rcases qv g w.heap.size with F | E
 .exact F
 rw [Array.getElem?_eq_none E] at z;cases z
theorem CaseOk.keep {w w':World} {g:Nat} (h:CaseOk w g) (z:∀ b,b<=g->w'.heap[b]?=w.heap[b]?):CaseOk w' g:=by
 obtain⟨A,len,cap,p,N,O,L,H,R,I,M⟩:=h;refine⟨A,len,cap,p,N,(z g nR).trans O,L,H,R,I,fun F=>?_⟩;obtain⟨b,e,E,U⟩:=M F;exact⟨b,e,E,fun j K=>(ql (w:=w) (z b ya)).trans (U j K)⟩
end Go.Proofs.YtjadnfodboepeaaGreat.Cut
