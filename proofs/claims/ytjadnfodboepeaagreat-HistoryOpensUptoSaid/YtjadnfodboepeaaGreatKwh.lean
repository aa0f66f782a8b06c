import Derived.Test.YtjadnfodboepeaaGreatKmi
import Derived.BigQuiet
import Derived.Laws.AppendOwnNone
import Derived.OpenShut
set_option linter.all false
set_option maxRecDepth 100000
set_option maxHeartbeats 8000000
namespace Go.Proofs.YtjadnfodboepeaaGreat
open Tryz
open Go.RowKit
variable {w w':World} {n k m:Nat} {A:Option Addr} {a:Int} {l:List Int} {x xA:Value} {g:TypeId} {P:Program} {Q:Act}
theorem Zb {o:Obj} (h:w.heap[n]?=some o):n<w:=by
 rcases qv n w.heap.size with F | E
 .exact F
 rw [Array.getElem?_eq_none E] at h;cases h
def CaseOk (w:World) (g:Nat):Prop :=
 ∃ (A:Option Addr) (len cap p:Nat) (z:List Int),w.heap[g]?=some (.cells #[.slice A len cap,.int .i64 p] 95 (0,0))/\p<=len/\len<=1000/\z.length=len/\(∀ E ∈ z,0<=E/\E<=255) /\
  (0<len->∃ b,A=some ⟨b,0,none⟩/\b<g/\∀ j,j<len->w.cell? ⟨b,j,none⟩=some (.int .u8 (z.getD j 0)))
theorem CaseOk.lt {w:World} {g:Nat} (h:CaseOk w g):g<w:=by
 obtain⟨A,len,cap,p,H,z,_⟩:=h;rcases qv g w.heap.size with F | E
 .exact F
 rw [Array.getElem?_eq_none E] at z;cases z
theorem CaseOk.keep {w w':World} {g:Nat} (h:CaseOk w g) (z:∀ b,b<=g->w'.heap[b]?=w.heap[b]?):CaseOk w' g:=by
 obtain⟨A,len,cap,p,N,O,L,H,R,I,M⟩:=h;refine⟨A,len,cap,p,N,(z g nR).trans O,L,H,R,I,fun F=>?_⟩;obtain⟨b,e,E,U⟩:=M F;exact⟨b,e,E,fun j K=>(ql (w:=w) (z b ya)).trans (U j K)⟩
def ZiM (w:World) (g:Nat) (n:Int) (e:Ending) (w':World):Prop :=
 ∃ r:Int,e=.returned (.int .i64 r)/\0<=r/\(1<=n->r<n)/\(n<1->r=0)/\CaseOk w' g/\w.grownBy w' (some g)/\w'.heap.size=w.heap.size
theorem getD_mem (z:List Int) (h:n<z):z.getD n 0 ∈ z:=by
 simp [List.getD,h]
theorem only_drewN {row:Option Nat} (h:w.grownBy w' row) (n:Nat):w.grownBy (w'.drewN n) row:=⟨h.os,h.tape,h.output,h.size,h.block⟩
theorem ZeX (k:Nat) (z:CaseOk w n):ZiM w n a (.returned (.int .i64 0)) (w.drewN k) :=
 ⟨0,rfl,ya,fun h=>ya,fun _=>rfl,z,only_drewN (World.grownBy.refl w _) k,rfl⟩
theorem intPost_next (z:Int) {len cap:Nat} (E:List Int) (O:w.heap[n]?=some (.cells #[.slice A len cap,.int .i64 k] 95 (0,0))) (W:k<len) (I:len<=1000)
 (R:E.length=len) (K:∀ z ∈ E,0<=z/\z<=255)
 (N:0<len->∃ b,A=some ⟨b,0,none⟩/\b<n/\∀ j,j<len->yr w b j (.int .u8 (E.getD j 0))) (aa:1<=a) (i:Nat)  :
 ZiM w n a (.returned (.int .i64 (z % a))) (((w.drewN i).setCell ⟨n,1,none⟩ (.int .i64 (k+1))).drewN m):=by
 refine⟨z % a,rfl,Int.emod_nonneg _ ya,fun _=>Int.emod_lt_of_pos _ ya,fun h=>ya,?_,?_,yb⟩
 .refine⟨A,len,cap,k+1,E,?_,ya,I,R,K,fun L=>?_⟩
  .have:((w.drewN i).setCell ⟨n,1,none⟩ (.int .i64 (k+1))).heap[n]?=some (.cells #[.slice A len cap,.int .i64 (k+1)] 95 (0,0)):=by
    simp [World.setCell,Array.getElem?_modify,O]
   exact_mod_cast this
  obtain⟨b,e,H,U⟩:=N L;refine⟨b,e,H,fun j M=>?_⟩;rw [<-U j M];exact ql (w:=w) (qc (w.drewN i) ⟨n,1,none⟩ _ b (by show b≠n;omega))
 exact⟨rfl,rfl,rfl,yb,fun m Z F=>qc (w.drewN i) ⟨n,1,none⟩ _ m (fun e=>F (by rw [e]))⟩
theorem Zal (ah:a<=1000000) (O:CaseOk w n) :
 Calls prog 12 #[.pointer (some ⟨n,0,none⟩),.int .i64 a] w (ZiM w n a):=by
 have L:=hI O;obtain⟨A,len,cap,p,F,E,ac,U,I,H,z⟩:=O;have W:=hI E;have:w.cell? ⟨n,0,none⟩=some (.slice A len cap):=(by simp [World.cell?,E]);have:w.cell? ⟨n,0+1,none⟩=some (.int .i64 p):=(by simp [World.cell?,E]);have:w.frozen? ⟨n,0+1,none⟩=false:=(by simp [World.frozen?,E]);replace I:=hI I;clear E
 by_cases M:p<len
 .by_cases aa:a<1
  .clear z;go_enter func12,ntmps12
   go_wp2
   go_quiet (fail)
   go_wp2
   go_ret;exact ZeX _ L
  obtain⟨b,rfl,af,K⟩:=z ya;have Z:=K p M;have N:=H (F.getD p 0) (getD_mem F (yl I.out));replace H:=hI H;replace z:=hI z;clear K;generalize F.getD p 0=R at Z N;obtain⟨ab,ae⟩:=N;go_enter func12,ntmps12
  go_wp2
  go_quiet (fail)
  go_wp2
  go_quiet (fail)
  go_wp2
  go_ret;exact intPost_next R F W M U I H z aa _
 clear z;go_enter func12,ntmps12
 go_wp2
 go_quiet (fail)
 go_wp2
 go_ret;exact ZeX _ L
def BoolPost (w:World) (g:Nat) (e:Ending) (w':World):Prop :=
 ∃ r:Bool,e=.returned (.bool r)/\CaseOk w' g/\w.grownBy w' (some g)/\w'.heap.size=w.heap.size
theorem Zap (L:a<=1000000) (N:1<=a) (I:CaseOk w n) :
 Calls prog 40 #[.pointer (some ⟨n,0,none⟩),.int .i64 a] w (BoolPost w n):=by
 go_enter func40,ntmps40
 go_wp2_with fail
 refine(Zal L I).mono ?_;rintro e w' ⟨r,rfl,M,K,F,E,H,z⟩;replace z:=hI z;clear K F
 go_wp2
 go_ret;exact⟨_,rfl,E,H,z⟩
theorem Zep {size:Nat} {xs:List Value} (h:w.ownsRow n g size x k xs):∃ A c,x=.slice A k c:=by
 rcases h.2 with ⟨rfl,rfl⟩ | ⟨e,cap,z,rfl,_⟩
 .exact⟨none,0,rfl⟩
 exact⟨_,_,rfl⟩
theorem Zn {I:Array Oper} {rest:List Oper} {o:Oper} {a:Exit->Act->World->Prop} (K:o.guard=none) (s F:Operand) (t:TypeId)
 (aa:o.op=.call { callee:=.builtin .append,args:=#[s,F],argTypes:=#[t,t] })
   {i:TypeInfo}  {size:Nat} (bytes:Nat) (N:P.underlying t=some (.slice g)) (ai:P.info? g=some i) (W:i.zero=some x)
 (M:i.size=size) (ab:i.bytes=bytes) (ak:x.cells.size=size) (Z:0<size)
   {xs:List Value} (ah:Q.eval s=xA) (L:w.ownsRow n g size xA k xs)
 (ad:Addr) (m c:Nat) (z:List Value) (aj:Q.eval F=.slice (some ad) m c) (ac:z.length=m*size) (ae:∀ j u,z[j]?=some u->w.cell? (ad.add j)=some u) (R:∀ u ∈ z,u.oneCell'=true)
 (U:k+m<=maxLen) (am:(k+m)*bytes<=140737488355328) (O:n<=w)
 (h:∀ A E w',w'.ownsRow n g size (.slice A (k+m) E) (k+m) (xs++z)->w.grownBy w' xA.ownBlock->wpList P I a rest (Q.put o.dst (.slice A (k+m) E)) w'):wpList P I a (o :: rest) Q w :=
 wpList_append_own w K s F t aa n g i x size bytes N ai W M ab ak Z xA k xs ah L ad m c z aj ac ae R U am O (fun v' w' H af _=>by
  obtain⟨A,E,rfl⟩:=Zep H;exact h A E w' H af)
def IsRow (k:IntKind) (w:World) (a:Option Addr) (len cap:Nat) (z:List Int):Prop :=
 (a=none/\len=0/\cap=0/\z=[]) \/
 ∃ x,a=some x/\len<=cap/\cap<=maxLen/\z.length=cap/\(∀ i,i<z.length->w.cell? (x.add i)=some (.int k (z.getD i 0)))/\∀ n ∈ z,(Lit.int k n).wf=true
def NewPost (w:World) (e:Ending) (w':World):Prop:=∃ g,e=.returned (.pointer (some ⟨g,0,none⟩))/\w<=g/\CaseOk w' g/\Below w w w'
theorem info5:(prog.info? 5).map (fun i=>(i.zero,i.size,i.bytes))=some (some (.int .u8 0),1,1):=by kernel_rfl
theorem ZgR (ab:n<=1000) (W:l.length=n) (aa:∀ L ∈ l,0<=L/\L<=255) (h:w'.ownsRow w 5 1 (.slice A n k) n (l.map (Value.int .u8))) :
 CaseOk (w'.alloc (.cells #[.slice A n k,.int .i64 0] 95)) w':=by
 rcases h.2 with ⟨K,rfl⟩ | ⟨g,cap,Z,K,ac,H,af,_,ah,R⟩
 .injection K with F U I;subst F I;exact⟨none,0,0,0,[],qb _ _,ya,ya,rfl,yb,fun h=>ya⟩
 have M:g<w':=by
  rcases qv g w'.heap.size with O | N
  .exact O
  rw [Array.getElem?_eq_none N] at H;cases H
 injection K with F U I;subst F I;refine⟨_,n,k,0,l,qb _ _,ya,ab,W,aa,fun ae=>⟨g,rfl,M,fun j ai=>?_⟩⟩;have F:(w'.alloc (.cells #[.slice (some ⟨g,0,none⟩) n k,.int .i64 0] 95)).cell? ⟨g,j,none⟩=w'.cell? ⟨g,j,none⟩:=ql (qd _ _ _ M);rw [F];have:(Z.toList.take (n*1))[j]?=some (.int .u8 (l.getD j 0)):=(by rw [R];simp [show j<l.length by omega]);rw [List.getElem?_take_of_lt ya] at this;simp only [World.cell?,H];simpa using this
theorem u8_bounds (h:(Lit.int .u8 a).wf=true):0<=a/\a<=255:=by
 have:=bounds_u8 h;omega
theorem new_any {len cap:Nat} (an:n<=1000) (h:IsRow .u8 w A len cap l) :
 Calls prog 9 #[.slice A len cap,.int .i64 n] w (NewPost w):=by
 rcases h with ⟨rfl,rfl,rfl,rfl⟩ | ⟨x,rfl,ak,ai,K,ab,W⟩
 .go_enter func9,ntmps9
  go_wp2
  go_ret;exact⟨w.heap.size,rfl,qp _,⟨none,0,0,0,[],qb _ _,ya,ya,rfl,yb,fun h=>ya⟩,(qa _ _).alloc nR _⟩
 obtain⟨ac,ah,U,aa,ae⟩:=qA info5;have N:=hI K
 have key:∀ m:Nat,m<=cap->∀ j u,((l.take m).map (Value.int .u8))[j]?=some u->w.cell? (x.add j)=some u:=fun m af j u L=>by
  have am:j<m:=by
   have:=(qR.1 L).1;simp at this;omega
  have Z:j<l:=ya;rw [ab j Z];rw [<-L];simp [List.getElem?_take_of_lt am,Z]
 have one:∀ m:Nat,∀ u ∈ (l.take m).map (Value.int .u8),u.oneCell'=true:=fun m u L=>by
  obtain⟨I,_,rfl⟩:=qO.1 L;rfl
 have M:∀ m:Nat,∀ I ∈ l.take m,0<=I/\I<=255:=fun m I K=>u8_bounds (W I (List.mem_of_mem_take K));replace key:=hI key;replace one:=hI one;replace M:=hI M;unfold maxLen at ai;clear K ab W
 by_cases ao:len<=n
 .have hd:decide ((n:Int)<(len:Int))=false:=yd;have aj:(len:Int)<=cap:=ya;go_enter func9,ntmps9
  go_wp2_with (at_builtin;refine Zn rfl (.const (.slice none 0 0)) (.tmp 10) 22 rfl (n:=w.heap.size) (g:=5) (i:=ac) (size:=1) 1 underlying22 ah U aa ae rfl yf (xA:=.slice none 0 0) (k:=0) (xs:=[]) rfl (qV _ _ _ _) x len cap ((l.take len).map (Value.int .u8)) rfl (by simp;have:=N.out;omega) (key len ak) (one len) yh ya nR ?_;intro a c R H F)
  rw [qP] at H;rw [qx] at H;have O:=ZgR ya (by simp;have:=N.out;omega) (M len) H;go_ret;exact⟨R.heap.size,rfl,F.size,O,((qa _ _).grown F nR (by simp [Value.ownBlock])).alloc F.size _⟩
 have hd:decide ((n:Int)<(len:Int))=true:=yd;have aj:(n:Int)<=cap:=ya;have af:n<=cap:=ya;go_enter func9,ntmps9
 go_wp2_with (at_builtin;refine Zn rfl (.const (.slice none 0 0)) (.tmp 10) 22 rfl (n:=w.heap.size) (g:=5) (i:=ac) (size:=1) 1 underlying22 ah U aa ae rfl yf (xA:=.slice none 0 0) (k:=0) (xs:=[]) rfl (qV _ _ _ _) x n cap ((l.take n).map (Value.int .u8)) rfl (by simp;have:=N.out;omega) (key n af) (one n) yh ya nR ?_;intro a c R H F)
 rw [qP] at H;rw [qx] at H;have O:=ZgR ya (by simp;have:=N.out;omega) (M n) H;go_ret;exact⟨R.heap.size,rfl,F.size,O,((qa _ _).grown F nR (by simp [Value.ownBlock])).alloc F.size _⟩
end Go.Proofs.YtjadnfodboepeaaGreat
