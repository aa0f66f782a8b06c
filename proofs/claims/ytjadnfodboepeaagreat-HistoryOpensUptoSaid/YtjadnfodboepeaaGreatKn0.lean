import Derived.Test.YtjadnfodboepeaaGreatK4y
import Derived.WalkSpells
set_option linter.all false
set_option maxRecDepth 100000
set_option maxHeartbeats 8000000
namespace Go.Proofs.YtjadnfodboepeaaGreat.Cut
open Tryz
open Go.RowKit
def Own (w:World) (g:Nat) (l:List Int):Prop:=∃ z:Array Value,w.heap[g]?=some (.cells z 3 (0,0))/\z.toList.take l.length=l.map (Value.int .i64)
section
variable {w w':World} {g:Nat} {l:List Int}
theorem Own.lt (h:Own w g l):g<w:=by
 obtain⟨F,h,_⟩:=h;rcases qv g w.heap.size with E | z
 .exact E
 rw [Array.getElem?_eq_none z] at h;cases h
theorem Own.cell (h:Own w g l) {k:Nat} (z:k<l):w.cell? ⟨g,k,none⟩=some (.int .i64 (l.getD k 0)):=by
 obtain⟨E,h,F⟩:=h;have:(E.toList.take l)[k]?=some (.int .i64 (l.getD k 0)):=(by rw [F];simp [z]);rw [List.getElem?_take_of_lt z] at this;simp only [World.cell?,h];simpa using this
theorem Own.frozen (h:Own w g l) (k:Nat):w.frozen? ⟨g,k,none⟩=false:=by
 obtain⟨z,h,_⟩:=h;simp [World.frozen?,h]
theorem Own.set_ (h:Own w g l) (k:Nat) (x:Int):Own (w.setCell ⟨g,k,none⟩ (.int .i64 x)) g (l.set k x):=by
 obtain⟨z,h,E⟩:=h;refine⟨z.setIfInBounds k (.int .i64 x),by simp [World.setCell,Array.getElem?_modify,h],?_⟩;rw [Array.toList_setIfInBounds,List.length_set,List.take_set,E,List.map_set]
theorem Own.keep (h:Own w g l) (E:w'.heap[g]?=w.heap[g]?):Own w' g l:=by
 obtain⟨z,h,F⟩:=h;exact⟨z,E.trans h,F⟩
theorem Own.drewN (h:Own w g l) (n:Nat):Own (w.drewN n) g l:=h
theorem Own.of_row (h:Row w g l):Own w g l:=⟨Zbp l,h,by simp only [Zbp];rw [qs yb]⟩
theorem Own.ints (h:Own w g l):Ints w (fun b=>b=g) (some ⟨g,0,none⟩) l :=
 ⟨yb,fun F=>⟨g,0,rfl,rfl,fun j u E=>by
  have z:j<l:=by
   have:=(qR.1 E).1;simpa using this
  simp [z] at E;rw [qx,h.cell z,<-E];simp [z]⟩⟩
theorem Own.of_owns {base:Nat} {v:Value} {n:Nat} (h:w.ownsRow base 3 1 v n (l.map (Value.int .i64))) (M:0<n):n=l.length/\∃ g cap,v=.slice (some ⟨g,0,none⟩) n cap/\base<=g/\Own w g l:=by
 have z:n=l.length:=(by have:=h.1;simpa using this.symm);rcases h.2 with ⟨_,L⟩ | ⟨g,cap,E,F,K,H,_,_,_,I⟩
 .omega
 exact⟨z,g,cap,F,K,E,H,by rw [<-z,<-I];simp⟩
end
theorem add_none (b z j:Nat):(⟨b,z,none⟩:Addr).add j=⟨b,z+j,none⟩:=by
 unfold Addr.add;split
 .rename_i h;subst h;rfl
 rfl
def ClonePost (l:List Int) (w:World) (e:Ending) (w':World):Prop:=∃ g cap,e=.returned (.slice (some ⟨g,0,none⟩) l.length cap)/\w<=g/\Own w' g l/\Below w w w'
theorem int_one (l:List Int):∀ u ∈ l.map (Value.int .i64),u.oneCell'=true:=by
 intro u z;obtain⟨x,_,rfl⟩:=qO.1 z;rfl
theorem clone_any (A:Option Addr) (F:Nat) (l:List Int) (S:Nat->Prop) (w:World) (K:Ints w S A l) (aj:∀ b,S b->b<w) (H:0<l.length) (ap:l.length<=17592186044416) :
 Calls prog 143 #[.slice A l F] w (ClonePost l w):=by
 obtain⟨b,E,rfl,R,L⟩:=K.2 H;have N:=aj b R;obtain⟨ac,ai,O,aa,ae⟩:=qA info3;have ao:=fun U=>Lib.run_eql_slice_nil (P:=prog) U 65 3 (some ⟨b,E,none⟩) l.length F 0 0 underlying65;have z:Below w w (w.alloc (.cells #[] 3)):=(qa _ _).alloc nR _
 have W:=hI (show ∀ j u,(l.map (Value.int .i64))[j]?=some u->(w.alloc (.cells #[] 3)).cell? ((⟨b,E,none⟩:Addr).add j)=some u from fun j u ah=>by
  rw [add_none];exact(z.cell (p:=⟨b,E+j,none⟩) N).trans (L j u ah))
 have Z:=hI (show (w.alloc (.cells #[] 3)).ownsRow w.heap.size 3 1 (.slice (some ⟨w,0,none⟩) 0 0) 0 [] from ⟨rfl,.inr ⟨w.heap.size,0,#[],rfl,qp _,qb w _,qp _,yh,rfl,rfl⟩⟩);replace z:=hI z;clear L K;go_enter func143,ntmps143
 go_wp2_with (at_builtin;refine wpList_append_own _ rfl (.tmp 5) (.tmp 6) 65 rfl w.heap.size 3 ac _ 1 8 underlying65 ai O aa ae rfl yf (.slice (some ⟨w,0,none⟩) 0 0) 0 [] rfl Z ⟨b,E,none⟩ l.length F (l.map (Value.int .i64)) rfl yb W (int_one l) yh ya yb ?_;intro am ak I ab an)
 go_ret;rw [qP,qx] at I;obtain⟨_,g,cap,rfl,af,M⟩:=Own.of_owns I H;exact⟨g,cap,rfl,af,M,z.grown ab yb (fun k e=>by simp [Value.ownBlock] at e;omega)⟩
end Go.Proofs.YtjadnfodboepeaaGreat.Cut
