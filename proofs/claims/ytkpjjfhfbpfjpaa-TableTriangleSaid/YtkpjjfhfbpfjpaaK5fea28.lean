import Derived.Lib.Hide
import Derived.WalkKit
import Derived.Test.YtkpjjfhfbpfjpaaProg
import Derived.ProofKit
import Derived.Below
import Derived.Laws.OwnMore
import Derived.Deep.AppendLies
import Derived.Deep.Draws
import Derived.Laws.Rows
import Derived.Deep.QuietTactic
import Derived.BigQuiet
import Derived.RegionTactic
import Derived.OneCell
import Derived.Laws.AppendOwnNone
import Derived.OpenShut
set_option linter.unusedVariables false
set_option linter.unusedSimpArgs false
set_option maxRecDepth 100000
set_option maxHeartbeats 8000000
namespace Go.Proofs.Ytkpjjfhfbpfjpaa
open Go.RowKit
theorem nR {n:Nat}:n≤n:=Nat.le_refl n
theorem hI {p:Prop} (h:p):RowKit.Hid p:=h
theorem c9J {B b k:Nat} {w w':World} {v:Value} (h:Below B w w') (h0:w.cell? ⟨b,k,none⟩=some v) (hb:b<B:=by omega):w'.cell? ⟨b,k,none⟩=some v:=(h.cell (p:=⟨b,k,none⟩) hb).trans h0
theorem c9K {B b k:Nat} {w w':World} {v:Value} (h:Below B w w') (h0:w.cell? ⟨b,k,none⟩=some v) (hb:b<B:=by (try simp)<;>omega):w'.cell? ⟨b,k,none⟩=some v:=(h.cell (p:=⟨b,k,none⟩) hb).trans h0
theorem c9Q {B b k:Nat} {w w':World} {v:Value} (h:Below B w w') (hb:b<B) (h0:w.cell? ⟨b,k,none⟩=some v):w'.cell? ⟨b,k,none⟩=some v:=(h.cell (p:=⟨b,k,none⟩) hb).trans h0
theorem Zaj {B:Nat} {a w:World} (h:Below B a w) (n:Nat):Below B a (w.drewN n):=⟨h.os,h.tape,h.output,h.size,h.block⟩
def Same (S:Nat→Prop) (w w':World):Prop:=∀ b,S b→w'.heap[b]?=w.heap[b]?
theorem Same.cell {S:Nat→Prop} {w w':World} (h:Same S w w') {b o:Nat} (hb:S b):w'.cell? ⟨b,o,none⟩=w.cell? ⟨b,o,none⟩:=World.cell?_of_block (h b hb)
theorem Same.of_below {S:Nat→Prop} {B:Nat} {w w':World} (h:Below B w w') (hS:∀ b,S b→b<B):Same S w w':=fun b hb=>h.block b (hS b hb)
theorem Same.of_grown {S:Nat→Prop} {w w':World} {row:Option Nat} (h:w.grownBy w' row) (hS:∀ b,S b→b<w.heap.size∧some b≠row):Same S w w':=fun b hb=>h.block b (hS b hb).1 (hS b hb).2
theorem Same.trans {S:Nat→Prop} {w w' w'':World} (h:Same S w w') (h':Same S w' w''):Same S w w'':=fun b hb=>(h' b hb).trans (h b hb)
inductive Dat
 | lit (v:Value)
 | slice (l:List Dat)
 | agg (l:List Dat)
mutual
def Dat.size:Dat→Nat
 | .lit _=>1
 | .slice _=>1
 | .agg l=>Dat.sizes l
def Dat.sizes:List Dat→Nat
 | []=>0
 | d :: r=>d.size+Dat.sizes r
end
def litBytes:Value→Nat
 | .string _=>16
 | _=>8
mutual
def Dat.bytes:Dat→Nat
 | .lit v=>litBytes v
 | .slice _=>24
 | .agg l=>Dat.bytesAll l
def Dat.bytesAll:List Dat→Nat
 | []=>0
 | d :: r=>d.bytes+Dat.bytesAll r
end
theorem Zag {α:Type} {enc:α→Dat} {n:Nat} (h:∀ a,(enc a).bytes=n):∀ l:List α,Dat.bytesAll (l.map enc)=l.length*n
 | []=>by simp [Dat.bytesAll]
 | a :: r=>by simp only [List.map_cons,Dat.bytesAll,h a,Zag h r,List.length_cons,Nat.succ_mul];omega
def litOk:Value→Prop
 | .string s=>s.size≤9223372036854775807
 | _=>True
@[simp] theorem Zbb (k:IntKind) (n:Int):litOk (.int k n)=True:=rfl
@[simp] theorem ZaQ (s:ByteArray):litOk (.string s)=(s.size≤9223372036854775807):=rfl
mutual
def Dat.Held (w:World) (S:Nat→Prop):Dat→Nat→Nat→Prop
 | .lit v,b,off=>w.cell? ⟨b,off,none⟩=some v∧litOk v
 | .slice l,b,off=>∃ A c,w.cell? ⟨b,off,none⟩=some (.slice A l.length c)∧l.length≤c∧Dat.bytesAll l≤140737488355328∧(0<l.length→∃ b' off',A=some ⟨b',off',none⟩∧S b'∧Dat.HeldAll w S l b' off')
 | .agg l,b,off=>Dat.HeldAll w S l b off
def Dat.HeldAll (w:World) (S:Nat→Prop):List Dat→Nat→Nat→Prop
 | [],_,_=>True
 | d :: r,b,off=>Dat.Held w S d b off∧Dat.HeldAll w S r b (off+d.size)
end
mutual
theorem Dat.Held.keep {w w':World} {S:Nat→Prop} (hk:Same S w w'):∀ (d:Dat) (b off:Nat),S b→Dat.Held w S d b off→Dat.Held w' S d b off
 | .lit v,b,off,hb,h=>by unfold Dat.Held at h ⊢;exact⟨(hk.cell hb).trans h.1,h.2⟩
 | .slice l,b,off,hb,h=>by
  unfold Dat.Held at h ⊢;obtain⟨A,c,h1,h2,h3,h4⟩:=h;refine⟨A,c,(hk.cell hb).trans h1,h2,h3,fun hn=>?_⟩;obtain⟨b',off',e,hb',h5⟩:=h4 hn;exact⟨b',off',e,hb',Dat.HeldAll.keep hk l b' off' hb' h5⟩
 | .agg l,b,off,hb,h=>by unfold Dat.Held at h ⊢;exact Dat.HeldAll.keep hk l b off hb h
theorem Dat.HeldAll.keep {w w':World} {S:Nat→Prop} (hk:Same S w w'):∀ (l:List Dat) (b off:Nat),S b→Dat.HeldAll w S l b off→Dat.HeldAll w' S l b off
 | [],_,_,_,_=>by unfold Dat.HeldAll;trivial
 | d :: r,b,off,hb,h=>by
  unfold Dat.HeldAll at h ⊢;exact⟨Dat.Held.keep hk d b off hb h.1,Dat.HeldAll.keep hk r b _ hb h.2⟩
end
mutual
theorem Dat.Held.more {w:World} {S S':Nat→Prop} (hS:∀ b,S b→S' b):∀ (d:Dat) (b off:Nat),Dat.Held w S d b off→Dat.Held w S' d b off
 | .lit v,b,off,h=>by unfold Dat.Held at h ⊢;exact h
 | .slice l,b,off,h=>by
  unfold Dat.Held at h ⊢;obtain⟨A,c,h1,h2,h3,h4⟩:=h;refine⟨A,c,h1,h2,h3,fun hn=>?_⟩;obtain⟨b',off',e,hb',h5⟩:=h4 hn;exact⟨b',off',e,hS b' hb',Dat.HeldAll.more hS l b' off' h5⟩
 | .agg l,b,off,h=>by unfold Dat.Held at h ⊢;exact Dat.HeldAll.more hS l b off h
theorem Dat.HeldAll.more {w:World} {S S':Nat→Prop} (hS:∀ b,S b→S' b):∀ (l:List Dat) (b off:Nat),Dat.HeldAll w S l b off→Dat.HeldAll w S' l b off
 | [],_,_,_=>by unfold Dat.HeldAll;trivial
 | d :: r,b,off,h=>by
  unfold Dat.HeldAll at h ⊢;exact⟨Dat.Held.more hS d b off h.1,Dat.HeldAll.more hS r b _ h.2⟩
end
def Sl (w:World) (S:Nat→Prop) (A:Option Addr) (l:List Dat):Prop:=Dat.bytesAll l≤140737488355328∧(0<l.length→∃ b off,A=some ⟨b,off,none⟩∧S b∧Dat.HeldAll w S l b off)
section
variable {w w':World} {S S':Nat→Prop} {A:Option Addr} {l:List Dat}
theorem Sl.nil_:Sl w S A []:=⟨by simp [Dat.bytesAll],fun h=>absurd h (by simp)⟩
theorem Sl.keep (h:Sl w S A l) (hk:Same S w w'):Sl w' S A l:=⟨h.1,fun hn=>by
 obtain⟨b,off,e,hb,h1⟩:=h.2 hn;exact⟨b,off,e,hb,Dat.HeldAll.keep hk l b off hb h1⟩⟩
theorem Sl.more (h:Sl w S A l) (hS:∀ b,S b→S' b):Sl w S' A l:=⟨h.1,fun hn=>by
 obtain⟨b,off,e,hb,h1⟩:=h.2 hn;exact⟨b,off,e,hS b hb,Dat.HeldAll.more hS l b off h1⟩⟩
end
theorem Zdm {w:World} {S:Nat→Prop} {n:Nat}:∀ {l:List Dat} {b off:Nat},(∀ d ∈ l,d.size=n)→Dat.HeldAll w S l b off→∀ k (hk:k<l.length),Dat.Held w S l[k] b (off+k*n)
 | [],_,_,_,_,k,hk=>by simp at hk
 | d :: r,b,off,hs,h,0,_=>by
  unfold Dat.HeldAll at h;simpa using h.1
 | d :: r,b,off,hs,h,k+1,hk=>by
  unfold Dat.HeldAll at h;have hd:=hs d (by simp);have:=Zdm (fun x hx=>hs x (by simp [hx])) h.2 k (by simpa using hk);rw [hd] at this;rw [show off+(k+1)*n=off+n+k*n by rw [Nat.succ_mul];omega];simpa using this
theorem ZfK {w:World} {S:Nat→Prop} {n:Nat}:∀ {l:List Dat} {b off:Nat},(∀ d ∈ l,d.size=n)→(∀ k (hk:k<l.length),Dat.Held w S l[k] b (off+k*n))→Dat.HeldAll w S l b off
 | [],_,_,_,_=>by unfold Dat.HeldAll;trivial
 | d :: r,b,off,hs,h=>by
  unfold Dat.HeldAll;have hd:=hs d (by simp);have h0:Dat.Held w S d b (off+0*n):=h 0 (by simp);refine⟨by simpa using h0,ZfK (fun x hx=>hs x (by simp [hx])) (fun k hk=>?_)⟩;have:Dat.Held w S r[k] b (off+(k+1)*n):=h (k+1) (by simpa using hk);rw [hd];rw [show off+(k+1)*n=off+n+k*n by rw [Nat.succ_mul];omega] at this;exact this
theorem Zad {W:World} {g:Nat} {o:Obj} (h:W.heap[g]?=some o):g<W.heap.size:=by
 rcases Nat.lt_or_ge g W.heap.size with hlt | hge
 · exact hlt
 · rw [Array.getElem?_eq_none hge] at h;cases h
def CaseOk (w:World) (g:Nat):Prop :=
 ∃ (A:Option Addr) (len cap p:Nat) (zs:List Int),w.heap[g]?=some (.cells #[.slice A len cap,.int .i64 p] 93 (0,0))∧p≤len∧len≤1000∧zs.length=len∧(∀ z ∈ zs,0≤z∧z≤255) ∧
  (0<len→∃ b,A=some ⟨b,0,none⟩∧b<g∧∀ j,j<len→w.cell? ⟨b,j,none⟩=some (.int .u8 (zs.getD j 0)))
theorem CaseOk.lt {w:World} {g:Nat} (h:CaseOk w g):g<w.heap.size:=by
 obtain⟨A,len,cap,p,zs,hb,_⟩:=h;rcases Nat.lt_or_ge g w.heap.size with hlt | hge
 · exact hlt
 · rw [Array.getElem?_eq_none hge] at hb;cases hb
theorem CaseOk.keep {w w':World} {g:Nat} (h:CaseOk w g) (hs:∀ b,b≤g→w'.heap[b]?=w.heap[b]?):CaseOk w' g:=by
 obtain⟨A,len,cap,p,zs,hb,h1,h2,h3,h4,h5⟩:=h;refine⟨A,len,cap,p,zs,(hs g nR).trans hb,h1,h2,h3,h4,fun hl=>?_⟩;obtain⟨b,e,hbg,hc⟩:=h5 hl;exact⟨b,e,hbg,fun j hj=>(World.cell?_of_block (w:=w) (hs b (by omega))).trans (hc j hj)⟩
def Zhh (w:World) (g:Nat) (n:Int) (e:Ending) (w':World):Prop :=
 ∃ r:Int,e=.returned (.int .i64 r)∧0≤r∧(1≤n→r<n)∧(n<1→r=0)∧CaseOk w' g∧w.grownBy w' (some g)∧w'.heap.size=w.heap.size
theorem getD_mem (zs:List Int) (p:Nat) (h:p<zs.length):zs.getD p 0 ∈ zs:=by
 simp [List.getD,h]
theorem only_drewN {a w:World} {row:Option Nat} (h:a.grownBy w row) (n:Nat):a.grownBy (w.drewN n) row:=⟨h.os,h.tape,h.output,h.size,h.block⟩
theorem Zex (w:World) (g:Nat) (n:Int) (k:Nat) (hc:CaseOk w g):Zhh w g n (.returned (.int .i64 0)) (w.drewN k) :=
 ⟨0,rfl,by omega,fun h=>by omega,fun _=>rfl,hc,only_drewN (World.grownBy.refl w _) k,rfl⟩
theorem intPost_next (w:World) (g:Nat) (n z:Int) (A:Option Addr) (len cap p:Nat) (zs:List Int) (hb:w.heap[g]?=some (.cells #[.slice A len cap,.int .i64 p] 93 (0,0))) (hp:p<len) (h2:len≤1000)
  (h3:zs.length=len) (h4:∀ z ∈ zs,0≤z∧z≤255)
  (h5:0<len→∃ b,A=some ⟨b,0,none⟩∧b<g∧∀ j,j<len→w.cell? ⟨b,j,none⟩=some (.int .u8 (zs.getD j 0))) (hn:1≤n) (i k:Nat) :
  Zhh w g n (.returned (.int .i64 (z % n))) (((w.drewN i).setCell ⟨g,1,none⟩ (.int .i64 (p+1))).drewN k):=by
 refine⟨z % n,rfl,Int.emod_nonneg _ (by omega),fun _=>Int.emod_lt_of_pos _ (by omega),fun h=>by omega,?_,?_,by simp⟩
 · refine⟨A,len,cap,p+1,zs,?_,by omega,h2,h3,h4,fun hl=>?_⟩
   · have:((w.drewN i).setCell ⟨g,1,none⟩ (.int .i64 (p+1))).heap[g]?=some (.cells #[.slice A len cap,.int .i64 (p+1)] 93 (0,0)):=by
       simp [World.setCell,Array.getElem?_modify,hb]
     exact_mod_cast this
   · obtain⟨b,e,hbg,hc⟩:=h5 hl;refine⟨b,e,hbg,fun j hj=>?_⟩;rw [←hc j hj];exact World.cell?_of_block (w:=w) (Below.heap_setCell (w.drewN i) ⟨g,1,none⟩ _ b (by show b≠g;omega))
 · exact⟨rfl,rfl,rfl,by simp,fun k hk hne=>Below.heap_setCell (w.drewN i) ⟨g,1,none⟩ _ k (fun e=>hne (by rw [e]))⟩
theorem ZaO (g:Nat) (n:Int) (w:World) (hn:n≤1000000) (hc:CaseOk w g) :
  Calls Try.prog 13 #[.pointer (some ⟨g,0,none⟩),.int .i64 n] w (Zhh w g n):=by
 have HC:=hI hc;obtain⟨A,len,cap,p,zs,hb,h1,h2,h3,h4,h5⟩:=hc;have HB:=hI hb;have hc0:w.cell? ⟨g,0,none⟩=some (.slice A len cap):=(by simp [World.cell?,hb]);have hc1:w.cell? ⟨g,0+1,none⟩=some (.int .i64 p):=(by simp [World.cell?,hb]);have hf1:w.frozen? ⟨g,0+1,none⟩=false:=(by simp [World.frozen?,hb]);have H3:=hI h3;clear hb h3
 by_cases hp:p<len
 · have hd:decide ((len:Int)≤(p:Int))=false:=by simp;omega
   by_cases h1n:n<1
   · clear h5;go_enter Try.func13,Try.ntmps13
     go_wp2
     go_quiet (fail)
     go_wp2
     go_ret;exact Zex w g n _ HC.out
   · obtain⟨b,rfl,hbg,hcell⟩:=h5 (by omega);have hz:=hcell p hp;have hzb:=h4 (zs.getD p 0) (getD_mem zs p (by have:=H3.out;omega));have H4:=hI h4;have H5:=hI h5;clear hcell h4 h5;generalize zs.getD p 0=z at hz hzb;obtain⟨hz0,hz1⟩:=hzb;go_enter Try.func13,Try.ntmps13
     go_wp2
     go_quiet (fail)
     go_wp2
     go_quiet (fail)
     go_wp2
     go_ret;exact intPost_next w g n z _ len cap p zs HB.out hp h2 H3.out H4.out H5.out h1n _ _
 · have hd:decide ((len:Int)≤(p:Int))=true:=(by simp;omega);clear h5;go_enter Try.func13,Try.ntmps13
   go_wp2
   go_quiet (fail)
   go_wp2
   go_ret;exact Zex w g n _ HC.out
def BoolPost (w:World) (g:Nat) (e:Ending) (w':World):Prop :=
 ∃ r:Bool,e=.returned (.bool r)∧CaseOk w' g∧w.grownBy w' (some g)∧w'.heap.size=w.heap.size
theorem ZaK (g:Nat) (n:Int) (w:World) (hn:n≤1000000) (hn0:1≤n) (hc:CaseOk w g) :
  Calls Try.prog 32 #[.pointer (some ⟨g,0,none⟩),.int .i64 n] w (BoolPost w g):=by
 go_enter Try.func32,Try.ntmps32
 go_wp2_with fail
 refine(ZaO g n w hn hc).mono ?_;rintro e w' ⟨r,rfl,hr0,hr1,hr2,hc',hg,hs⟩;have HS:=hI hs;clear hs hr1 hr2
 go_wp2
 go_ret;exact⟨_,rfl,hc',hg,HS.out⟩
theorem ZfC {w:World} {base:Nat} {e:TypeId} {size:Nat} {v:Value} {n:Nat} {xs:List Value} (h:w.ownsRow base e size v n xs):∃ A c,v=.slice A n c:=by
 rcases h.2 with ⟨rfl,rfl⟩ | ⟨g,cap,cur,rfl,_⟩
 · exact⟨none,0,rfl⟩
 · exact⟨_,_,rfl⟩
theorem Zam {P:Program} (w:World) {ops:Array Oper} {rest:List Oper} {o:Oper} {a:Act} {Q:Exit→Act→World→Prop} (hgd:o.guard=none) (s x:Operand) (t:TypeId)
  (ho:o.op=.call { callee:=.builtin .append,args:=#[s,x],argTypes:=#[t,t] })
  (base:Nat) (e:TypeId) (i:TypeInfo) (z:Value) (size bytes:Nat) (ht:P.underlying t=some (.slice e)) (hi:P.info? e=some i) (hz:i.zero=some z)
  (hsize:i.size=size) (hby:i.bytes=bytes) (hzs:z.cells.size=size) (hsz:0<size)
  (v:Value) (n:Nat) (xs:List Value) (hs:a.eval s=v) (hown:w.ownsRow base e size v n xs)
  (ad:Addr) (m c:Nat) (news:List Value) (hx:a.eval x=.slice (some ad) m c) (hl:news.length=m*size) (hnews:∀ j u,news[j]?=some u→w.cell? (ad.add j)=some u) (h1:∀ u ∈ news,u.oneCell'=true)
  (h63:n+m≤maxLen) (hbytes:(n+m)*bytes≤140737488355328) (hbase:base≤w.heap.size)
  (h:∀ A c' w',w'.ownsRow base e size (.slice A (n+m) c') (n+m) (xs++news)→w.grownBy w' v.ownBlock→wpList P ops Q rest (a.put o.dst (.slice A (n+m) c')) w'):wpList P ops Q (o :: rest) a w :=
 wpList_append_own w hgd s x t ho base e i z size bytes ht hi hz hsize hby hzs hsz v n xs hs hown ad m c news hx hl hnews h1 h63 hbytes hbase (fun v' w' h2 h3 _=>by
  obtain⟨A,c',rfl⟩:=ZfC h2;exact h A c' w' h2 h3)
def IsRow (k:IntKind) (w:World) (a:Option Addr) (len cap:Nat) (zs:List Int):Prop :=
 (a=none∧len=0∧cap=0∧zs=[]) ∨
 ∃ x,a=some x∧len≤cap∧cap≤maxLen∧zs.length=cap∧(∀ i,i<zs.length→w.cell? (x.add i)=some (.int k (zs.getD i 0)))∧∀ n ∈ zs,(Lit.int k n).wf=true
def NewPost (w:World) (e:Ending) (w':World):Prop:=∃ g,e=.returned (.pointer (some ⟨g,0,none⟩))∧w.heap.size≤g∧CaseOk w' g∧Below w.heap.size w w'
theorem info5:(Try.prog.info? 5).map (fun i=>(i.zero,i.size,i.bytes))=some (some (.int .u8 0),1,1):=by kernel_rfl
theorem ZfS {w w1:World} {A:Option Addr} {m c:Nat} {zs:List Int} (hm:m≤1000) (hz:zs.length=m) (hw:∀ z ∈ zs,0≤z∧z≤255) (h:w1.ownsRow w.heap.size 5 1 (.slice A m c) m (zs.map (Value.int .u8))) :
  CaseOk (w1.alloc (.cells #[.slice A m c,.int .i64 0] 93)) w1.heap.size:=by
 rcases h.2 with ⟨hv,rfl⟩ | ⟨g,cap,cur,hv,hb,hh,hnc,_,hs,ht⟩
 · injection hv with e1 e2 e3;subst e1 e3;exact⟨none,0,0,0,[],heap_alloc_new _ _,by omega,by omega,rfl,by simp,fun h=>by omega⟩
 · have hg:g<w1.heap.size:=by
     rcases Nat.lt_or_ge g w1.heap.size with hlt | hge
     · exact hlt
     · rw [Array.getElem?_eq_none hge] at hh;cases hh
   injection hv with e1 e2 e3;subst e1 e3;refine⟨_,m,c,0,zs,heap_alloc_new _ _,by omega,hm,hz,hw,fun hl=>⟨g,rfl,hg,fun j hj=>?_⟩⟩;have e1:(w1.alloc (.cells #[.slice (some ⟨g,0,none⟩) m c,.int .i64 0] 93)).cell? ⟨g,j,none⟩=w1.cell? ⟨g,j,none⟩:=World.cell?_of_block (Below.heap_alloc _ _ _ hg);rw [e1];have:(cur.toList.take (m*1))[j]?=some (.int .u8 (zs.getD j 0)):=(by rw [ht];simp [show j<zs.length by omega]);rw [List.getElem?_take_of_lt (by omega)] at this;simp only [World.cell?,hh];simpa using this
theorem u8_bounds {z:Int} (h:(Lit.int .u8 z).wf=true):0≤z∧z≤255:=by
 have:=bounds_u8 h;omega
theorem new_any (a:Option Addr) (len cap:Nat) (zs:List Int) (most:Nat) (w:World) (hm:most≤1000) (h:IsRow .u8 w a len cap zs) :
  Calls Try.prog 11 #[.slice a len cap,.int .i64 most] w (NewPost w):=by
 rcases h with ⟨rfl,rfl,rfl,rfl⟩ | ⟨x,rfl,hlc,hcm,hz,hcell,hwf⟩
 · have hmm:decide ((most:Int)<0)=false:=(by simp);go_enter Try.func11,Try.ntmps11
   go_wp2
   go_ret;exact⟨w.heap.size,rfl,Nat.le_refl _,⟨none,0,0,0,[],heap_alloc_new _ _,by omega,by omega,rfl,by simp,fun h=>by omega⟩,(Below.refl _ _).alloc nR _⟩
 · obtain⟨i0,hi,hz0,hz1,hz2⟩:=info_parts info5;have HZ:=hI hz
   have key:∀ m:Nat,m≤cap→∀ j u,((zs.take m).map (Value.int .u8))[j]?=some u→w.cell? (x.add j)=some u:=fun m hmc j u hu=>by
    have hj:j<m:=by
     have:=(List.getElem?_eq_some_iff.1 hu).1;simp at this;omega
    have hjz:j<zs.length:=(by omega);rw [hcell j hjz];rw [←hu];simp [List.getElem?_take_of_lt hj,hjz]
   have one:∀ m:Nat,∀ u ∈ (zs.take m).map (Value.int .u8),u.oneCell'=true:=fun m u hu=>by
    obtain⟨z,_,rfl⟩:=List.mem_map.1 hu;rfl
   have bds:∀ m:Nat,∀ z ∈ zs.take m,0≤z∧z≤255:=fun m z hz=>u8_bounds (hwf z (List.mem_of_mem_take hz));have HK:=hI key;have HO:=hI one;have HBD:=hI bds;unfold maxLen at hcm;clear hz hcell hwf key one bds
   by_cases hle:len≤most
   · have hd:decide ((most:Int)<(len:Int))=false:=(by simp;omega);have hd2:decide ((most:Int)<len)=false:=hd;have hl0:(len:Int)≤cap:=(by omega);go_enter Try.func11,Try.ntmps11
     go_wp2_with (at_builtin;refine Zam _ rfl (.const (.slice none 0 0)) (.tmp 10) 22 rfl w.heap.size 5 i0 _ 1 1 Try.underlying22 hi hz0 hz1 hz2 rfl (by decide) (.slice none 0 0) 0 [] rfl (World.ownsRow_nil _ _ _ _) x len cap ((zs.take len).map (Value.int .u8)) rfl (by simp;have:=HZ.out;omega) (HK.out len hlc) (HO.out len) (by unfold maxLen;omega) (by omega) nR ?_;intro A c w1 hown1 hg1)
     rw [List.nil_append] at hown1;rw [Nat.zero_add] at hown1;have hcase:=ZfS (by omega) (by simp;have:=HZ.out;omega) (HBD.out len) hown1;go_ret;exact⟨w1.heap.size,rfl,hg1.size,hcase,((Below.refl _ _).grown hg1 nR (by simp [Value.ownBlock])).alloc hg1.size _⟩
   · have hd:decide ((most:Int)<(len:Int))=true:=(by simp;omega);have hd2:decide ((most:Int)<len)=true:=hd;have hl0:(most:Int)≤cap:=(by omega);have hmc:most≤cap:=(by omega);go_enter Try.func11,Try.ntmps11
     go_wp2_with (at_builtin;refine Zam _ rfl (.const (.slice none 0 0)) (.tmp 10) 22 rfl w.heap.size 5 i0 _ 1 1 Try.underlying22 hi hz0 hz1 hz2 rfl (by decide) (.slice none 0 0) 0 [] rfl (World.ownsRow_nil _ _ _ _) x most cap ((zs.take most).map (Value.int .u8)) rfl (by simp;have:=HZ.out;omega) (HK.out most hmc) (HO.out most) (by unfold maxLen;omega) (by omega) nR ?_;intro A c w1 hown1 hg1)
     rw [List.nil_append] at hown1;rw [Nat.zero_add] at hown1;have hcase:=ZfS (by omega) (by simp;have:=HZ.out;omega) (HBD.out most) hown1;go_ret;exact⟨w1.heap.size,rfl,hg1.size,hcase,((Below.refl _ _).grown hg1 nR (by simp [Value.ownBlock])).alloc hg1.size _⟩
end Go.Proofs.Ytkpjjfhfbpfjpaa
