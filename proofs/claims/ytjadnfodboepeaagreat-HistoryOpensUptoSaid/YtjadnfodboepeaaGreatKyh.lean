import Derived.Test.YtjadnfodboepeaaGreatK6u
import Derived.Test.YtjadnfodboepeaaGreatKch
import Derived.Test.YtjadnfodboepeaaGreatKgq
set_option linter.all false
set_option maxRecDepth 100000
set_option maxHeartbeats 8000000
namespace Go.Proofs.YtjadnfodboepeaaGreat
open Tryz
open Go.RowKit Go.Shelf
variable {w w':World} {n k m i j b c:Nat} {A B A':Option Addr} {S:Nat->Prop} {a t:Int} {s:Sch} {o oA:St} {C:Chg}
attribute [local go_sem] Oper.semAt_some
def dn (len:Nat):Nat->List { x:Nat // x<len }
 | 0=>[]
 | k+1=>dn len k++(if h:len - 1 - k<len then [⟨len - 1 - k,h⟩] else [])
theorem Zhk {len:Nat} (h:n<len):dn len (n+1)=dn len n++[⟨len - 1 - n,ya⟩]:=by
 rw [dn,dif_pos (show len - 1 - n<len by omega)]
theorem Zii {len:Nat}:∀ {k:Nat},k<=len->(dn len k).length=k
 | 0,_=>rfl
 | k+1,h=>by rw [Zhk ya,qi,Zii ya];rfl
def BK (H E:Nat) (F z:World):Prop:=Below H F z/\z.heap[E]?=F.heap[E]?
theorem BK.refl (E F:Nat) (z:World):BK E F z z:=⟨qa _ _,rfl⟩
theorem BK.trans {z E:Nat} {A B C:World} (h:BK z E A B) (k:BK z E B C):BK z E A C:=⟨h.1.trans k.1,k.2.trans h.2⟩
theorem BK.put {H F B:Nat} (U:H<=B) (O:F<B) (E:World) (l:Nat) (o o':Obj) (L:B<=l) (I:E.heap[l]?=some o) (N:o.isCells=false) (M:o.isWalk=false):BK H F E (E.putObj l o'):=by
 have z:=grownBy_putObj' E l o';have K:=Zb I;exact⟨⟨z.os,z.tape,z.output,z.size,fun b R=>z.block b ya (fun e=>by injection e with e;omega)⟩,z.block F ya (fun e=>by injection e with e;omega)⟩
end Go.Proofs.YtjadnfodboepeaaGreat
namespace Go.Proofs.YtjadnfodboepeaaGreat
open Tryz
open Go.RowKit Go.Shelf
variable {w w':World} {n k m i j b c:Nat} {A B A':Option Addr} {S:Nat->Prop} {a t:Int} {s:Sch} {o oA:St} {C:Chg}
attribute [local go_sem] Oper.semAt_some
end Go.Proofs.YtjadnfodboepeaaGreat
namespace Go.Proofs.YtjadnfodboepeaaGreat
open Tryz
open Go.RowKit
variable {w w':World} {n k m i j b c:Nat} {A B A':Option Addr} {S:Nat->Prop} {a t:Int} {s:Sch} {o oA:St} {C:Chg}
def findK (s:Sch) (t:Int) (key:Row) (l:List Row):Option Row:=l.find? (fun r=>cmpR (keyF s t r) key == 0)
def Zkw (s:Sch) (t:Int) (key:Row) (l:List Row):Bool:=decide (low s t key l<l)&&(cmpR (keyF s t (l.getD (low s t key l) [])) key == 0)
def putL (s:Sch) (t:Int) (key row:Row) (l:List Row):List Row :=
 l.take (low s t key l)++(if 0<row.length then [row] else [])++(if Zkw s t key l then l.drop (low s t key l+1) else l.drop (low s t key l))
theorem putC_eq (s:Sch) (c:Chg) (l:List Row):putC s c l=putL s c.tx (keyC s c) c.new l:=rfl
structure Cut (s:Sch) (t:Int) (key:Row) (l a:List Row) (o:Option Row) (b:List Row):Prop where
 eq:l=a++o.toList++b
 below:∀ x ∈ a,cmpR (keyF s t x) key<0
 at_:∀ r,o=some r->keyF s t r=key
 above:∀ y ∈ b,cmpR key (keyF s t y)<0
section
variable {s:Sch} {t:Int} {key:Row} {l a b:List Row} {o:Option Row}
theorem Zkm {l':List Row}:∀ {a:List Row},(∀ x ∈ a,cmpR (keyF s t x) key<0)->low s t key (a++l')=a.length+low s t key l'
 | [],_=>by simp
 | x :: a,h=>by
  have z:=Zkm (l':=l') (a:=a) (fun y E=>h y (by simp [E]));rw [List.cons_append,low,qr (h x yb),z,qK];omega
theorem Cut.low (h:Cut s t key l a o b):low s t key l=a.length:=by
 rw [h.eq,qB,Zkm h.below]
 have:Go.Proofs.YtjadnfodboepeaaGreat.low s t key (o.toList++b)=0:=by
  cases o with
  | some r =>
   have:=h.at_ r rfl;simp [Go.Proofs.YtjadnfodboepeaaGreat.low,this,cmpR_is.self]
  | none =>
   cases b with
   | nil=>rfl
   | cons y b =>
    have z:=h.above y yb;have E:=cmpR_is.flip key (keyF s t y);simp only [Option.toList_none,qP,Go.Proofs.YtjadnfodboepeaaGreat.low];rw [qo ya]
 omega
theorem Cut.found (h:Cut s t key l a o b):Zkw s t key l=o.isSome:=by
 unfold Zkw;rw [h.low,h.eq];cases o with
 | some r =>
  have:=h.at_ r rfl;simp [List.getD,this,cmpR_is.self]
 | none =>
  cases b with
  | nil=>simp
  | cons y b =>
   have E:=h.above y yb;have F:=cmpR_is.flip key (keyF s t y);have z:¬ cmpR (keyF s t y) key=0:=ya;simp [List.getD,z]
theorem Cut.put (h:Cut s t key l a o b) (row:Row):putL s t key row l=a++(if 0<row.length then [row] else [])++b:=by
 unfold putL;rw [h.low,h.found,h.eq];cases o with
 | some r=>simp
 | none=>simp
theorem Zhq {r:Row} (h:Asc s t (r :: l)):Asc s t l/\∀ y ∈ l,cmpR (keyF s t r) (keyF s t y)<0 :=
 ⟨fun i j F z=>h (i+1) (j+1) ya (by simpa using z),fun y E=>by
  obtain⟨j,z,rfl⟩:=List.mem_iff_getElem.1 E;have:=h 0 (j+1) ya (by simpa using z);simpa [List.getD,z] using this⟩
theorem asc_cons {r:Row} (h:Asc s t l) (F:∀ y ∈ l,cmpR (keyF s t r) (keyF s t y)<0):Asc s t (r :: l):=by
 intro i j H E;cases j with
 | zero=>omega
 | succ j =>
  have z:j<l:=(by simpa using E);cases i with
  | zero =>
   have:=F l[j] (qJ _);simpa [List.getD,z] using this
  | succ i=>exact h i j ya z
theorem ZeC (key:Row):∀ {l:List Row},Asc s t l->∃ a o b,Cut s t key l a o b
 | [],_=>⟨[],none,[],⟨rfl,yb,yb,yb⟩⟩
 | r :: l,h=>by
  obtain⟨L,I⟩:=Zhq h
  by_cases M:cmpR (keyF s t r) key<0
  .obtain⟨a,o,b,E⟩:=ZeC key L;refine⟨r :: a,o,b,⟨by rw [E.eq];simp,fun x F=>?_,E.at_,E.above⟩⟩;rcases Qs.1 F with rfl | F
   .exact M
   exact E.below x F
  have O:=cmpR_is.flip (keyF s t r) key
  by_cases K:cmpR (keyF s t r) key=0
  .have H:=(cmpR_is.zero _ _).1 K;exact⟨[],some r,l,⟨rfl,yb,fun N e=>by injection e with e;rw [<-e];exact H,fun y z=>by rw [<-H];exact I y z⟩⟩
  refine⟨[],none,r :: l,⟨rfl,yb,yb,fun y z=>?_⟩⟩;rcases Qs.1 z with rfl | z
  .omega
  exact cmpR_is.lt_trans (show cmpR key (keyF s t r)<0 by omega) (I y z)
end
def rput (s:Sch) (t:Int) (key row:Row):Bool->List Row->List Row
 | d,[]=>if d then [] else [row]
 | d,r :: l=>(if 0<=cmpR (keyF s t r) key/\d=false then [row] else [])++((if cmpR (keyF s t r) key≠0 then [r] else [])++rput s t key row (d||decide (0<=cmpR (keyF s t r) key)) l)
def putR (s:Sch) (t:Int) (key row:Row) (l:List Row):List Row:=rput s t key row (decide (row.length=0)) l
theorem Zci {key row:Row}:∀ {b:List Row},(∀ y ∈ b,cmpR key (keyF s a y)<0)->rput s a key row true b=b
 | [],_=>by simp [rput]
 | y :: b,h=>by
  have K:=h y yb;have I:=cmpR_is.flip key (keyF s a y);have F:¬ cmpR (keyF s a y) key=0:=ya;have E:=Zci (row:=row) (b:=b) (fun z H=>h z (by simp [H]));simp [rput,F,E]
theorem rput_false_above {key row:Row}:∀ {b:List Row},(∀ y ∈ b,cmpR key (keyF s a y)<0)->rput s a key row false b=row :: b
 | [],_=>by simp [rput]
 | y :: b,h=>by
  have L:=h y yb;have K:=cmpR_is.flip key (keyF s a y);have H:¬ cmpR (keyF s a y) key=0:=ya;have F:0<=cmpR (keyF s a y) key:=ya;have E:=Zci (row:=row) (b:=b) (fun z I=>h z (by simp [I]));simp [rput,H,F,E]
theorem Zgy {key row:Row} {d:Bool} {l:List Row}:∀ {t:List Row},(∀ x ∈ t,cmpR (keyF s a x) key<0)->rput s a key row d (t++l)=t++rput s a key row d l
 | [],_=>by simp
 | x :: t,h=>by
  have K:=h x yb;have H:¬ cmpR (keyF s a x) key=0:=ya;have F:¬ 0<=cmpR (keyF s a x) key:=ya;have E:=Zgy (row:=row) (d:=d) (l:=l) (t:=t) (fun z I=>h z (by simp [I]));simp [rput,H,F,E]
theorem putR_eq {l:List Row} (h:Asc s a l) (key row:Row):putR s a key row l=putL s a key row l:=by
 obtain⟨t,o,b,z⟩:=ZeC key h;rw [z.put row];unfold putR;rw [z.eq,qB,Zgy z.below,qB]
 congr 1
 cases o with
 | some r =>
  have H:=z.at_ r rfl;have F:cmpR (keyF s a r) key=0:=by rw [H];exact cmpR_is.self _
  by_cases E:row.length=0
  .simp [rput,F,E,Zci z.above]
  have:0<row.length:=ya;simp [rput,F,E,this,Zci z.above]
 | none =>
  by_cases E:row.length=0
  .simp [E,Zci z.above]
  have:0<row.length:=ya;simp [E,this,rput_false_above z.above]
def ZgT (s:Sch) (t m:Int) (l:List Row):Prop:=(∀ r ∈ l,ZB s t r m=true)/\Asc s t l
def StOk (s:Sch) (m:Int) (st:St):Prop:=st.length=s.tt.length/\∀ t,t<st.length->ZgT s (t:Int) m (st.getD t [])
theorem ZhF:∀ {l:List Row} {p:Option Row},(∀ r ∈ l,ZB s a r t=true)->Asc s a l->(∀ q,p=some q->∀ y ∈ l,cmpR (keyF s a q) (keyF s a y)<0)->ZR s a t p l=true
 | [],p,_,_,_=>by simp [ZR]
 | r :: l,p,F,H,M=>by
  obtain⟨I,L⟩:=Zhq H;have E:=ZhF (p:=some r) (fun x N=>F x (by simp [N])) I (fun q e y K=>by injection e with e;rw [<-e];exact L y K);have z:=F r yb;cases p with
  | none=>simp [ZR,E,z]
  | some q =>
   have:=M q rfl r yb;simp [ZR,E,z,this]
theorem Zfz:∀ {l:List Row} {p:Option Row},ZR s a t p l=true->∀ r ∈ l,ZB s a r t=true
 | [],_,_,r,z=>by simp at z
 | x :: l,p,h,r,z=>by
  simp only [ZR,qE] at h;rcases Qs.1 z with rfl | z
  .exact h.1.1
  exact Zfz h.2 r z
theorem ZjS {s:Sch} {m:Int}:∀ {st:St} {t:Nat},(∀ k,k<st.length->ZgT s ((t+k:Nat):Int) m (st.getD k []))->stOk s m t st=true
 | [],t,_=>by simp [stOk]
 | l :: st,t,h=>by
  have z:=h 0 yb
  have E:=ZjS (s:=s) (m:=m) (st:=st) (t:=t+1) (fun k F=>by
   have:=h (k+1) (by simpa using F);rw [show t+(k+1)=t+1+k by omega] at this;exact this)
  simp only [stOk,E,Bool.and_true];exact ZhF z.1 z.2 (fun q e=>by cases e)
theorem StOk.ok {s:Sch} {m:Int} {st:St} (h:StOk s m st):stOk s m 0 st=true:=ZjS (fun k z=>by rw [qx];exact h.2 k z)
theorem StOk.of_check {e:Int} {s:Sch} {m:Int} {st:St} (h:Zv e s m st=0):StOk s m st:=by
 obtain⟨_,F,z⟩:=Zjz h;refine⟨F,fun t E=>⟨?_,Zja z E⟩⟩;have:=Zfx s m st 0 t z E;rw [qx] at this;exact Zfz this
theorem StOk.check {s:Sch} {m:Int} {st:St} (h:StOk s m st) (E:Zao m=true) (F:Zi st<=512):Zv 0 s m st=0:=by
 unfold Zv;have z:ZbD 0 m=0:=(by simp [ZbD,E]);rw [z,h.ok];simp only [ne_eq,not_true,if_false,if_true];rw [qo ya,qo (by rw [h.1];simp)]
theorem StOk.set {s:Sch} {m:Int} {st:St} (h:StOk s m st) {t:Nat} {l:List Row} (E:ZgT s t m l):StOk s m (st.set t l):=by
 refine⟨by rw [List.length_set];exact h.1,fun k z=>?_⟩;rw [List.length_set] at z
 by_cases e:t=k
 .subst e;have:(st.set t l).getD t []=l:=(by simp [List.getD,z]);rw [this];exact E
 have:(st.set t l).getD k []=st.getD k []:=(by simp [List.getD,List.getElem?_set_ne e]);rw [this];exact h.2 k z
theorem Zjt {r:Row} (h:ZB s a r t=true):r.length=(s.tt.getD a.toNat t0).cols.length:=by
 unfold ZB at h;simp only [qE,qT] at h;exact h.1.2
theorem ZgA {l:List Row} (h:ZgT s a t l) {key row:Row} (L:0<row.length->keyF s a row=key) (U:0<row.length->ZB s a row t=true):ZgT s a t (putL s a key row l):=by
 obtain⟨m,o,b,F⟩:=ZeC key h.2;have M:=F.put row;refine⟨fun r z=>?_,?_⟩
 .rw [M] at z;simp only [qH] at z;rcases z with (z | z) | z
  .exact h.1 r (by rw [F.eq];simp [z])
  .split at z
   .rename_i I
    rw [qy] at z;rw [z];exact U I
   simp at z
  exact h.1 r (by rw [F.eq];simp [z])
 rw [M];have N:Asc s a (m++(o.toList++b)):=(by rw [<-qB,<-F.eq];exact h.2)
 have K:Asc s a m:=by
  have:=Zhp N m;rwa [List.take_left] at this
 have R:Asc s a b:=by
  have:=ZjD N (m.length+o.toList.length);rwa [List.drop_append,List.drop_of_length_le ya,qP,show m.length+o.toList.length - m.length=o.toList.length by omega,List.drop_left] at this
 have O:∀ x ∈ m,∀ y ∈ b,cmpR (keyF s a x) (keyF s a y)<0:=fun x E y H=>cmpR_is.lt_trans (F.below x E) (F.above y H)
 by_cases I:0<row.length
 .rw [qr I];refine Zbv (Zbv K (ZkG _) (fun x E y H=>?_)) R (fun x E y H=>?_)
  .rw [qy] at H;rw [H,L I];exact F.below x E
  rcases qH.1 E with E | E
  .exact O x E y H
  rw [qy] at E;rw [E,L I];exact F.above y H
 rw [qo I,Qq];exact Zbv K R O
def Zit (s:Sch) (st:St) (x:Chg):St:=st.set x.tx.toNat (putC s x (st.getD x.tx.toNat []))
def Fit (s:Sch) (m:Int):St->List Chg->Prop
 | _,[]=>True
 | st,x :: l=>(ZE s m x=true/\Zhi s x (st.getD x.tx.toNat [])=true)/\Fit s m (Zit s st x) l
def after (s:Sch) (st:St) (l:List Chg):St:=l.foldl (Zit s) st
theorem Fit.append {s:Sch} {m:Int}:∀ {st:St} {l l':List Chg},Fit s m st l->Fit s m (after s st l) l'->Fit s m st (l++l')
 | st,[],l',_,h=>h
 | st,y :: l,l',h,z=>⟨h.1,Fit.append h.2 z⟩
theorem valid_fits (h:ZE s a C=true):(0<C.old.length->ZB s C.tx C.old a=true)/\(0<C.new.length->ZB s C.tx C.new a=true):=by
 unfold ZE at h;simp only [qE,Bool.or_eq_true,qT] at h;obtain⟨⟨⟨_,z⟩,E⟩,_⟩:=h;exact⟨fun F=>z.resolve_left ya,fun F=>E.resolve_left ya⟩
theorem step_ok {st:St} (h:StOk s a st) (E:ZE s a C=true):StOk s a (Zit s st C)/\Zi (Zit s st C)<=Zi st+1:=by
 have z:=E;unfold ZE at z;simp only [qE,hasN,qT] at z;obtain⟨⟨⟨⟨⟨K,N⟩,_⟩,_⟩,_⟩,_⟩:=z;obtain⟨t,L⟩:=qn K;have I:C.tx.toNat=t:=ya;unfold Zit;rw [I];have H:t<st:=(yl h.1);refine⟨h.set ?_,?_⟩
 .have F:=h.2 t H;rw [<-L] at F ⊢;exact ZgA F (fun M=>Zko E M) (valid_fits E).2
 have R:=ZeD st t (putC s C (st.getD t [])) H;have O:=Ziv s C (st.getD t []);omega
theorem Zid:∀ {l:List Chg} {st:St},StOk s a st->Fit s a st l->Zi st+l.length<=512->Zbk s a (Zi st) st l=(0,after s st l)
 | [],st,_,_,_=>rfl
 | x :: l,st,h,F,N=>by
  obtain⟨⟨z,L⟩,I⟩:=F;obtain⟨K,R⟩:=step_ok h z;rw [qK] at N
  obtain⟨t,E,O⟩:∃ t:Nat,x.tx=t/\t<st:=by
   unfold ZE at z;simp only [qE,hasN,qT] at z;obtain⟨t,E⟩:=qn z.1.1.1.1.1;exact⟨t,E,ym z.1.1.1.1.2 h.1⟩
  have M:(Zi st:Int)+((putC s x (st.getD x.tx.toNat [])).length - (st.getD x.tx.toNat []).length:Int)=Zi (Zit s st x):=by
   have:=ZeD st t (putC s x (st.getD t [])) O;unfold Zit;rw [show x.tx.toNat=t by omega,this]
  have H:=Zid K I ya;unfold Zbk;rw [z,L,M];simp only [Bool.true_eq_false,if_false];rw [qo ya];exact H
def StC (w:World) (S:Nat->Prop) (z:Nat) (st:St):Prop :=
 ∃ vs:List Value,(∃ rest:List Value,w.heap[z]?=some (.cells (vs++rest).toArray 145 (0,0)))/\Dat.Va w S (st.map Zx) vs/\∀ b,S b->b<w/\b≠z
section
variable {w w':World} {S S':Nat->Prop} {gt:Nat} {st:St}
theorem StC.keep (h:StC w S gt st) (K:w.heap.size<=w') (F:Same S w w') (L:w'.heap[gt]?=w.heap[gt]?):StC w' S gt st:=by
 obtain⟨vs,⟨rest,I⟩,H,z⟩:=h;exact⟨vs,⟨rest,L.trans I⟩,Dat.Va.keep F _ _ H,fun b E=>⟨qC (z b E).1 K,(z b E).2⟩⟩
theorem StC.lt (h:StC w S gt st):gt<w:=by
 obtain⟨vs,⟨rest,z⟩,_⟩:=h;exact Zb z
theorem StC.mem (h:StC w S gt st):∀ b,S b->b<w/\b≠gt:=by
 obtain⟨_,_,_,z⟩:=h;exact z
theorem StC.below (h:StC w S gt st) (z:Below w w w'):StC w' S gt st :=
 h.keep z.size (fun b E=>z.block b (h.mem b E).1) (z.block gt h.lt)
theorem StC.fr {X:Nat->Prop} (h:StC w S gt st) (z:Fr X w w') (H:∀ b,X b->b<w->¬ S b/\b≠gt):StC w' S gt st :=
 h.keep z.size (fun b F=>z.block b (h.mem b F).1 (fun E=>(H b E (h.mem b F).1).1 F)) (z.block gt h.lt (fun E=>(H gt E h.lt).2 rfl))
theorem StC.more (h:StC w S gt st) (F:∀ b,S b->S' b) (z:∀ b,S' b->b<w/\b≠gt):StC w S' gt st:=by
 obtain⟨vs,H,E,I⟩:=h;exact⟨vs,H,Dat.Va.more F _ _ E,z⟩
theorem StC.at_ (h:StC w S gt st) {k:Nat} (F:k<st):w.frozen? ⟨gt,k,none⟩=false/\∃ A c,w.cell? ⟨gt,k,none⟩=some (.slice A (st.getD k []).length c)/\(st.getD k []).length<=c/\RowsS w S A (st.getD k []):=by
 obtain⟨vs,⟨rest,E⟩,I,L⟩:=h;obtain⟨A,c,z,K⟩:=Zis I F;refine⟨by simp [World.frozen?,E],A,c,?_,K⟩;have H:k<vs:=(qR.1 z).1;simp only [World.cell?,E];simpa [List.getElem?_append_left H] using z
theorem StC.slice (h:StC w S gt st) (L:st.length<=5864062014805) (H:∀ b,S b->S' b) (K:S' gt):StS w S' (some ⟨gt,0,none⟩) st:=by
 obtain⟨vs,⟨rest,I⟩,F,N⟩:=h;refine Qb (by rw [Ze (n:=24) (fun _=>rfl)];omega) (Dat.Va.more H _ _ F) (fun M=>⟨gt,0,rfl,K,fun j u z=>?_⟩);have E:j<vs:=(qR.1 z).1;simp only [World.cell?,I,qx];simpa [List.getElem?_append_left E] using z
theorem StC.put (h:StC w S gt st) {k:Nat} (I:k<st) {A:Option Addr} {c:Nat} {r:List Row} (O:r.length<=c) (L:RowsS w S A r):StC (w.setCell ⟨gt,k,none⟩ (.slice A r c)) S gt (st.set k r):=by
 obtain⟨vs,⟨rest,M⟩,F,E⟩:=h;have N:Same S w (w.setCell ⟨gt,k,none⟩ (.slice A r c)):=fun b z=>qc w ⟨gt,k,none⟩ _ b (E b z).2;have K:k<vs:=(by rw [valsAll_len F];exact I);have H:=Zc (k:=k) (v:=.slice A r c) M;rw [List.set_append,qr K] at H;exact⟨_,⟨rest,H⟩,Dat.Va.keep N _ _ (ZgV F O L),fun b z=>⟨by simpa using (E b z).1,(E b z).2⟩⟩
theorem StC.made {n:Nat} (h:w.heap[gt]?=some (.cells (Zk n).toArray 145 (0,0))):StC w (fun _=>False) gt (List.replicate n []):=by
 refine⟨Zk n,⟨[],by simpa using h⟩,?_,fun _ h=>h.elim⟩;clear h;induction n with
 | zero=>simp only [List.replicate_zero,Qn,Zk];unfold Dat.Va;rfl
 | succ n z =>
  simp only [Zk,List.replicate_succ,qL] at z ⊢;unfold Dat.Va;refine⟨[.slice none 0 0],_,rfl,?_,z⟩;unfold Zx Dat.Vs;exact⟨none,0,rfl,yb,Qd⟩
end
theorem rput_drop (s:Sch) (t:Int) (key row:Row) (d:Bool) {l:List Row} (h:n<l):rput s t key row d (l.drop n)=(if 0<=cmpR (keyF s t (l.getD n [])) key/\d=false then [row] else [])++((if cmpR (keyF s t (l.getD n [])) key≠0 then [l.getD n []] else [])++rput s t key row (d||decide (0<=cmpR (keyF s t (l.getD n [])) key)) (l.drop (n+1))):=by
 have e:l.getD n []=l[n]:=(by simp [List.getD,h]);rw [qq h,e,rput]
structure PutI (w wr:World) (S:Nat->Prop) (s:Sch) (A0:Option Addr) (c0' gt n ca k:Nat) (d:Bool) (P rest:List Row) (A:Option Addr) (m c:Nat) (L:List Row):Prop where
 mkl:Mk wr (w+3) S 116 1 (.slice A m c) (L.map Zy)
 le:L.length<=k+d.toNat
 bel:Below w w wr
 res:P=L++rest
 s0:wr.cell? ⟨w,0,none⟩=some (.int .i64 s.vv)
 s1:wr.cell? ⟨w,1,none⟩=some (.slice A0 s.tt c0')
 t0:wr.cell? ⟨w+1,0,none⟩=some (.slice (some ⟨gt,0,none⟩) n ca)
 r0:wr.cell? ⟨w+2,0,none⟩=some (.slice none 0 0)
 fz:wr.frozen? ⟨w+2,0,none⟩=false
 sz:w.heap.size+3<=wr
section
variable {w wa wb:World} {S:Nat->Prop} {s:Sch} {A0 A A':Option Addr} {c0' gt n ca k k' m m' c c':Nat} {d d':Bool} {P rest rest' L L':List Row}
theorem PutI.len (h:PutI w wa S s A0 c0' gt n ca k d P rest A m c L):m=L.length:=by have:=h.mkl.len;simpa using this
theorem PutI.step (h:PutI w wa S s A0 c0' gt n ca k d P rest A m c L) (z:Below (w+3) wa wb) (E:Mk wb (w+3) S 116 1 (.slice A' m' c') (L'.map Zy)) (F:L'.length<=k'+d'.toNat) (H:P=L'++rest'):PutI w wb S s A0 c0' gt n ca k' d' P rest' A' m' c' L' :=
 ⟨E,F,h.bel.trans (z.mono ya),H,c9J z h.s0,c9J z h.s1,c9J z h.t0,c9J z h.r0,(z.frozen (p:=⟨w+2,0,none⟩) (by show w.heap.size+2<_;omega)).trans h.fz,qD h.sz z.size⟩
theorem PutI.below (h:PutI w wa S s A0 c0' gt n ca k d P rest A m c L) (z:Below wa wa wb):PutI w wb S s A0 c0' gt n ca k d P rest A m c L:=h.step (z.mono h.sz) (h.mkl.below z) h.le h.res
end
def PutPost (S:Nat->Prop) (z n E:Nat) (st:St) (w:World) (e:Ending) (w':World):Prop:=e=.returned (ZaM (some ⟨z,0,none⟩) n E)/\StC w' (fun b=>S b\/New w w' b) z st/\Fr (fun b=>b=z) w w'
theorem ZjW {d:Bool} {P H:List Row} {st:St} (h:PutI w w' S s A n k st m i d P [] B j b H) (I:StC w S k st) (ab:c<st) (aj:H.length<=5000000) (u v:Value) :
 StC ((w'.setCell ⟨k,c,none⟩ (.slice B j b)).setCell ⟨w+2,0,none⟩ v) (fun t=>S t\/New w ((w'.setCell ⟨k,c,none⟩ (.slice B j b)).setCell ⟨w+2,0,none⟩ v) t) k (st.set c P)/\Fr (fun t=>t=k) w ((w'.setCell ⟨k,c,none⟩ (.slice B j b)).setCell ⟨w+2,0,none⟩ v):=by
 have ah:=I.lt;have ai:=h.sz;have L:∀ t,S t->t<w/\t≠k:=(fun t z=>by obtain⟨_,_,_,K⟩:=I;exact K t z);obtain⟨ak,af,O⟩:=h.mkl.slice (by rw [Ze (n:=24) (fun _=>rfl)];omega);have e:j=H.length:=h.len;subst e;have ae:P=H:=(by have:=h.res;simpa using this);subst ae
 have U:StC w' (fun t=>S t\/(w.heap.size+3<=t/\t<w')) k st:=(I.below h.bel).more (fun t z=>.inl z) (fun t z=>by
  rcases z with z | z
  .have:=L t z;exact⟨ya,this.2⟩
  exact⟨z.2,yl z.1⟩)
 have M:=U.put (k:=c) (by simpa using ab) af (show RowsS w' (fun t=>S t\/(w.heap.size+3<=t/\t<w')) B P from O);have K:Fr (fun t=>t=k) w (w'.setCell ⟨k,c,none⟩ (.slice B P b)):=Fr.setCell (X:=fun t=>t=k) (qW h.bel) _ (fun _=>rfl);have R:Fr (fun t=>t=k) w ((w'.setCell ⟨k,c,none⟩ (.slice B P b)).setCell ⟨w+2,0,none⟩ v):=Fr.setCell (X:=fun t=>t=k) (g:=w.heap.size+2) K v (fun ac=>absurd ac (by show ¬ w.heap.size+2<w;omega));refine⟨(M.keep yb (fun t z=>?_) (qc _ ⟨w+2,0,none⟩ _ k (by show k≠w.heap.size+2;omega))).more (fun t z=>z.imp id (fun z=>⟨ya,by have:=z.2;simpa using this⟩)) (fun t z=>?_),R⟩
 .refine qc _ ⟨w+2,0,none⟩ _ t ?_;rcases z with z | z
  .have:=L t z;show t≠w.heap.size+2;omega
  have:=z.1;show t≠w.heap.size+2;omega
 rcases z with z | z
 .have:=L t z;simp;omega
 have W:=z.2;simp at W ⊢;have:=z.1;omega
theorem rput_any (ac:Nat) (s:Sch) (F I:Nat) (st:St) (bf:Nat) {key:Row} (aN:Nat) {E:Row} (aW:TabS w S A s.tt) (am:StC w S F st) (aU:RowS w S B key) (aR:RowS w S A' E) (b4:n<s.tt) (aY:n<st) (bP:(st.getD n []).length<=1000000) (b7:st.length<=1000000) :
 Calls prog 45 #[sAgg s.vv A s.tt ac,ZaM (some ⟨F,0,none⟩) st.length I,.int .i64 (n:Int),.slice B key bf,.slice A' E aN] w (PutPost S F st I (st.set n (putR s n key E (st.getD n []))) w):=by
 obtain⟨av,ax,au,ay,aw⟩:=qA ZiG;have aa:∀ b,S b->b<w:=(fun b H=>by obtain⟨_,_,_,aJ⟩:=am;exact(aJ b H).1);have aP:=am.lt;have:F<w+1:=ya;have:F<w+1+1:=ya;obtain⟨aQ,ba,b5,aV,bD,aM⟩:=am.at_ aY;replace aW:=hI aW;replace am:=hI am;have bK:=hI aU;replace aR:=hI aR;replace aM:=hI aM;replace aQ:=hI aQ;clear aU bD;obtain⟨N,bo⟩:=yp (st.getD n []);rw [bo] at aV aM bP ⊢;clear bo;have bj:=hI aV;obtain⟨P,aZ⟩:=yp (putR s n key E N);obtain⟨ap,bu⟩:∃ ap:Bool,((E:Int) == 0)=ap:=⟨_,rfl⟩;have bB:P=rput s n key E ap N:=(by rw [<-aZ,<-bu,putR];congr 1;rw [Bool.eq_iff_iff];simp);rw [aZ];clear aZ;have bN:=hI ((((qa w w).alloc nR (.cells #[.int .i64 s.vv,.slice A s.tt ac] 25)).alloc yb (.cells #[.slice (some ⟨F,0,none⟩) st.length I] 28)).alloc yd (.cells #[.slice none 0 0] 28))
 have bU:=hI (show PutI w (((w.alloc (.cells #[.int .i64 s.vv,.slice A s.tt ac] 25)).alloc (.cells #[.slice (some ⟨F,0,none⟩) st.length I] 28)).alloc (.cells #[.slice none 0 0] 28)) S s A ac F st.length I 0 ap P (rput s n key E ap (N.drop 0)) none 0 0 [] from
  ⟨Qe (fun b H=>yl (aa b H)) yb _ _,yb,bN,bB,(Zh yd).trans ((Zh yb).trans (Zm rfl rfl)),(Zh yd).trans ((Zh yb).trans (Zm rfl rfl)),(Zh yb).trans (Zm yb rfl),Zm yb rfl,ZaC yb,yb⟩)
 clear bB;go_enter func45,ntmps45
 go_wp2
 go_loopw [11,12,25] (fun bT done i wr=>∃ (k:Nat) (d:Bool) (az:Option Addr) (m c:Nat) (K:List Row),k<=N/\i=.int .i64 k/\done=.bool d/\bT=.slice az m c/\PutI w wr S s A ac F st I k d P (rput s n key E d (N.drop k)) az m c K) (fun _ _ i _=>N.length - (intOf i).toNat)
 case atStart=>exact⟨0,ap,none,0,0,[],qk _,rfl,rfl,rfl,bU⟩
 obtain⟨k,d,az,m,c,K,aU,rfl,rfl,rfl,af⟩:=hrel;have L:=hI af;have bH:=af.s0;have bO:=af.s1;have bS:=af.t0;have bX:=af.sz;have bJ:=af.len;have bL:=af.le;have:d.toNat<=1:=(by cases d<;>simp);have:m<=k+1:=ya;clear af bJ bL aV bu
 by_cases bb:k<N
 .obtain⟨b8,b0,rfl,b1,aH,c2,f1,ak,f3⟩:=(aM.keep (qS L.bel aa)).at_ bb;have ao:=hI (rput_drop s n key E d bb);have aO:=hI f3;replace ak:=hI ak;have bM:=f3.len;obtain⟨row,bt⟩:=yp (N.getD k []);clear f3;rw [bt] at f1 aO ak bM ao;clear bt;have bz:∀ b,S b->b<wr:=fun b H=>by have:=aa b H;omega
  go_wp2_with fail
  refine(Zfm ac s (aW.keep (qS L.bel aa)) aO ak bz).mono ?_;rintro e bw ⟨bF,bI,rfl,aJ,aX⟩;have bg:RowOk (keyF s n row):=((aO.key s n (A':=aH) (fun _=>rfl))).ok;have bR:=hI ((Zag bg aJ).more (S':=fun b=>b<bw) (fun b H=>H.2));have bm:=hI aX;have bE:=aX.size;clear aX aJ bg
  go_wp2_with fail
  refine(Zbl bR ((bK.keep (qS (L.bel.trans (bm.mono ya)) aa)).more (fun b H=>yl (aa b H))) (fun b H=>H)).mono ?_;rintro e w2 ⟨rfl,M⟩;have br:=hI (bm.trans (M.mono bE));have z:=hI (L.below br);have aD:=hI (aO.keep (qS br bz));have an:=hI (aR.keep (qS z.bel aa));have aj:=hI z.mkl;clear M bH bO bS f1;obtain⟨b6,bi⟩:=yp (cmpR (keyF s n row) key);have bn:=cmpR_is.rng (keyF s n row) key;rw [bi] at bn ao ⊢;clear bi;rcases bn with rfl | rfl | rfl
  .have Z:=hI (show P=(K++[row])++rput s n key E d (N.drop (k+1)) by rw [z.res,ao];simp)
   go_wp2_with (at_builtin;refine Zl rfl (.tmp 48) (.tmp 50) 145 rfl 24 underlying145 ax au ay aw rfl yf aj rfl #[.slice aH row c2] (Zah ak (aD.more (fun b H=>.inl H))) (by simp [Zy,Dat.Plain]) rfl 1 rfl ya ya ?_;intro bh bp bC ab R bq;have aB:=hI ab;have aE:=hI R;have be:=R.size;clear ab R)
   go_roundw
   case rel=>exact⟨k+1,d,_,_,_,(K++[row]),ya,by go_num,rfl,rfl,z.step aE (by rw [qm];exact aB) (by have:=z.le;simp at this ⊢;omega) Z⟩
   simp [intOf];omega
  .cases d
   .have Z:=hI (show P=(K++[E])++rput s n key E true (N.drop (k+1)) by rw [z.res,ao];simp)
    go_wp2_with fail
    refine(ZcH an).mono ?_;rintro e bk ⟨aF,aC,rfl,ah,M⟩;have aq:=hI M;have aj:=hI (z.mkl.below M);have ai:=hI (ZaR ah an.ok nR);clear ah M
    go_wp2_with (at_builtin;refine Zl rfl (.tmp 41) (.tmp 44) 145 rfl 24 underlying145 ax au ay aw rfl yf aj rfl #[.slice aF E aC] (Zah ai.1 (ai.2.more (fun b H=>.inr ⟨yl z.sz,H.2,fun e=>yl ((z.mkl.base_le e.symm).2)⟩))) (by simp [Zy,Dat.Plain]) rfl 1 rfl ya ya ?_;intro aL aI aA ae O bl;have aG:=hI ae;have ar:=hI O;have bc:=O.size;clear ae O)
    go_roundw
    case rel=>exact⟨k+1,true,_,_,_,(K++[E]),ya,by go_num,rfl,rfl,z.step ((aq.mono (yl z.sz)).trans ar) (by rw [qm];exact aG) (by have:=z.le;simp at this ⊢;omega) Z⟩
    simp [intOf];omega
   have Z:=hI (show P=K++rput s n key E true (N.drop (k+1)) by rw [z.res,ao];simp)
   go_wp2
   go_roundw
   case rel=>exact⟨k+1,true,_,_,_,K,ya,by go_num,rfl,rfl,z.step (qa _ _) z.mkl (by have:=z.le;simp at this ⊢;omega) Z⟩
   simp [intOf];omega
  cases d
  .have Z:=hI (show P=(K++[E]++[row])++rput s n key E true (N.drop (k+1)) by rw [z.res,ao];simp)
   go_wp2_with fail
   refine(ZcH an).mono ?_;rintro e bk ⟨aF,aC,rfl,ah,M⟩;have aq:=hI M;have aj:=hI (z.mkl.below M);have ai:=hI (ZaR ah an.ok nR);clear ah M
   go_wp2_with (first | (at_builtin;refine Zl rfl (.tmp 41) (.tmp 44) 145 rfl 24 underlying145 ax au ay aw rfl yf aj rfl #[.slice aF E aC] (Zah ai.1 (ai.2.more (fun b H=>.inr ⟨yl z.sz,H.2,fun e=>yl ((z.mkl.base_le e.symm).2)⟩))) (by simp [Zy,Dat.Plain]) rfl 1 rfl ya ya ?_;intro aL aI aA ae O bl;have aG:=hI ae;have ar:=hI O;have bc:=O.size;clear ae O;have aD:=hI (aD.keep (w':=aA) (qS (B:=w.heap.size+3) ((aq.mono (yl z.sz)).trans ar) (fun b H=>yl (aa b H))))) | (at_builtin;refine Zl rfl (.tmp 48) (.tmp 50) 145 rfl 24 underlying145 ax au ay aw rfl yf aG rfl #[.slice aH row c2] (Zah ak (aD.more (fun b H=>.inl H))) (by simp [Zy,Dat.Plain]) rfl 1 rfl ya ya ?_;intro bh bp bC ab R bq;have aB:=hI ab;have aE:=hI R;have be:=R.size;clear ab R))
   go_roundw
   case rel=>exact⟨k+1,true,_,_,_,(K++[E]++[row]),ya,by go_num,rfl,rfl,z.step ((aq.mono (yl z.sz)).trans (ar.trans aE)) (by rw [qm,qm];exact aB) (by have:=z.le;simp at this ⊢;omega) Z⟩
   simp [intOf];omega
  have Z:=hI (show P=(K++[row])++rput s n key E true (N.drop (k+1)) by rw [z.res,ao];simp)
  go_wp2_with (at_builtin;refine Zl rfl (.tmp 48) (.tmp 50) 145 rfl 24 underlying145 ax au ay aw rfl yf aj rfl #[.slice aH row c2] (Zah ak (aD.more (fun b H=>.inl H))) (by simp [Zy,Dat.Plain]) rfl 1 rfl ya ya ?_;intro bh bp bC ab R bq;have aB:=hI ab;have aE:=hI R;have be:=R.size;clear ab R)
  go_roundw
  case rel=>exact⟨k+1,true,_,_,_,(K++[row]),ya,by go_num,rfl,rfl,z.step aE (by rw [qm];exact aB) (by have:=z.le;simp at this ⊢;omega) Z⟩
  simp [intOf];omega
 have bG:=c9Q L.bel aP bj;have bQ:=(L.bel.frozen (p:=⟨F,n,none⟩) aP).trans aQ;have:w.heap.size+2≠F:=ya;have b3:=L.r0;have bY:=L.fz;cases d
 .have aK:=hI (show P=K++[E] by rw [L.res,Qu ya,rput];rfl);have z:=L;have an:=hI (aR.keep (qS z.bel aa))
  go_wp2_with fail
  refine(ZcH an).mono ?_;rintro e bk ⟨aF,aC,rfl,ah,M⟩;have aq:=hI M;have aj:=hI (z.mkl.below M);have ai:=hI (ZaR ah an.ok nR);clear ah M
  go_wp2_with (at_builtin;refine Zl rfl (.tmp 55) (.tmp 58) 145 rfl 24 underlying145 ax au ay aw rfl yf aj rfl #[.slice aF E aC] (Zah ai.1 (ai.2.more (fun b H=>.inr ⟨yl z.sz,H.2,fun e=>yl ((z.mkl.base_le e.symm).2)⟩))) (by simp [Zy,Dat.Plain]) rfl 1 rfl ya ya ?_;intro aL aI aA ae O bl;have aG:=hI ae;have ar:=hI O;have bc:=O.size;clear ae O;have W:=hI (show PutI w aA S s A ac F st I k true P [] (some ⟨aL,0,none⟩) (m+1) aI (K++[E]) from z.step ((aq.mono (yl z.sz)).trans ar) (by rw [qm];exact aG) (by have:=z.le;simp at this ⊢;omega) (by rw [aK];simp));have bG:=c9Q W.bel aP bj;have bQ:=(W.bel.frozen (p:=⟨F,n,none⟩) aP).trans aQ;have bW:=W.r0;have bZ:=W.fz;have bV:=W.t0;have b2:=W.sz)
  have aS:(((aA).setCell ⟨F,n,none⟩ (.slice (some ⟨aL,0,none⟩) (m+1) aI)).setCell ⟨w+2,0,none⟩ (.slice (some ⟨F,0,none⟩) st.length I)).cell? ⟨w+2,0,none⟩=some (.slice (some ⟨F,0,none⟩) st.length I) :=
   Qr _ _ _ (u:=.slice none 0 0) (by rw [World.cell?_setCell_other _ _ _ _ yb];exact W.r0)
  have aT:=ZjW (c:=n) W am aY (yl W.len) (.slice (some ⟨F,0,none⟩) st.length I) (.slice (some ⟨F,0,none⟩) st.length I);exact qw (v:=ZaM (some ⟨F,0,none⟩) st.length I) (by simp [results,results45,go_sem,aS]) rfl ⟨rfl,aT⟩
 have aK:=hI (show PutI w wr S s A ac F st I k true P [] az m c K from L.step (qa _ _) L.mkl L.le (by rw [L.res,Qu ya,rput];simp))
 go_wp2_with fail
 have aS:(((wr).setCell ⟨F,n,none⟩ (.slice az m c)).setCell ⟨w+2,0,none⟩ (.slice (some ⟨F,0,none⟩) st.length I)).cell? ⟨w+2,0,none⟩=some (.slice (some ⟨F,0,none⟩) st.length I) :=
  Qr _ _ _ (u:=.slice none 0 0) (by rw [World.cell?_setCell_other _ _ _ _ yb];exact aK.r0)
 have aT:=ZjW (c:=n) aK am aY (yl L.len) (.slice (some ⟨F,0,none⟩) st.length I) (.slice (some ⟨F,0,none⟩) st.length I);exact qw (v:=ZaM (some ⟨F,0,none⟩) st.length I) (by simp [results,results45,go_sem,aS]) rfl ⟨rfl,aT⟩
theorem Zgt {α:Type} {d:α} {a b:List α} (z:n<a) (E:n<b) (h:a.take n=b.take n) (H:a.getD n d=b.getD n d):a.take (n+1)=b.take (n+1):=by
 rw [qj z,qj E,h];have F:a.getD n d=a[n]:=gD z;have I:b.getD n d=b[n]:=gD E;rw [<-F,<-I,H]
theorem Zks {α:Type} {d:α} {a b:List α} (z:a.getD n d≠b.getD n d):a≠b:=fun e=>z (by rw [e])
theorem Zhy {α:Type} {a b:List α} (z:a.length<=n) (E:a.length=b.length) (h:a.take n=b.take n):a=b:=by
 rwa [qs z,qs ya] at h
theorem rsame01_any {a b:List Row} (S:Nat->Prop) (O:RowsS w S A a) (L:RowsS w S B b) (H:∀ b,S b->b<w) :
 Calls prog 57 #[.slice A a n,.slice B b k] w (ZH (decide (a=b)) w):=by
 have aH:=O.len;replace O:=hI O;have av:=hI L;clear L
 by_cases E:a.length=b.length
 .have an:((a:Int) != b.length)=false:=(by simp [E]);replace E:=hI E;go_enter func57,ntmps57
  go_wp2
  go_loopw [5,13] (fun _ i wr=>∃ cb:Nat,cb<=a/\i=.int .i64 cb/\a.take cb=b.take cb/\Below w w wr) (fun _ i _=>a.length - (intOf i).toNat)
  case atStart=>exact⟨0,qk _,rfl,yb,qa _ _⟩
  obtain⟨cb,aG,rfl,K,Z⟩:=hrel;replace K:=hI K;have M:=hI Z;have az:=Z.size;clear Z an
  by_cases ac:cb<a
  .have aj:cb<b:=(yl E.out);obtain⟨R,ay,rfl,aE,ae,c1,f1,aC,f3⟩:=(O.keep (qS M H)).at_ ac;obtain⟨W,aw,rfl,aB,am,c2,N,ax,aa⟩:=(av.keep (qS M H)).at_ aj;have ah:=hI f3;have af:=hI aa;have aA:=f3.len;have ar:=aa.len;have aD:R<wr:=(yl (H R aE));have ap:W<wr:=(yl (H W aB));have U:=hI (show a.getD cb []≠b.getD cb []->decide (a=b)=false from fun h=>qe (Zks h));have ab:=hI (show a.getD cb []=b.getD cb []->a.take (cb+1)=b.take (cb+1) from Zgt ac aj K);generalize a.getD cb []=x at f1 ah aA U ab;generalize b.getD cb []=y at N af ar U ab;clear aC f3 ax aa
   go_wp2
   go_region_held3 (fun w'=>Below wr wr w'/\w'.cell? ⟨R,ay+cb,none⟩=some (.slice ae x c1)/\w'.cell? ⟨W,aw+cb,none⟩=some (.slice am y c2))
    (first | exact⟨(qa _ _).drew,f1,N⟩ | exact⟨I,c9Q I aD f1,c9Q I ap N⟩ | go_keep)
    ((go_at_call 97;refine(Zbl (A:=ae) (B:=am) (n:=c1) (k:=c2) (a:=x) (b:=y) (S:=S) (w:=wr.drew) (ah.keep (fun _ _=>rfl)) (af.keep (fun _ _=>rfl)) (fun b L=>by have:=H b L;show b<wr;omega)).mono ?_;rintro e ao ⟨rfl,ak⟩;have I:Below wr wr ao:=(qa _ wr).drew.trans ak))
   have ai:=hI (M.trans (I.mono az));clear I ak f1 N
   by_cases F:cmpR x y=0
   .have aq:=hI (ab ((cmpR_is.zero x y).1 F));rw [F];clear F
    go_wp2
    go_roundw
    case rel=>exact⟨cb+1,ya,by go_num,aq,ai⟩
    simp [intOf];omega
   have z:=hI (U (fun e=>F ((cmpR_is.zero x y).2 e)));have hd:(cmpR x y != 0)=true:=(by simp [F]);generalize cmpR x y=aF at hd z F
   go_wp2
   go_ret;exact⟨by rw [z];rfl,ai⟩
  have z:=hI (show decide (a=b)=true from qt (Zhy ya E K))
  go_wp2
  go_ret;exact⟨by rw [z];rfl,M⟩
 have an:((a:Int) != b.length)=true:=yd;have z:=hI (show decide (a=b)=false from qe (fun e=>E (by rw [e])));go_enter func57,ntmps57
 go_wp2
 go_ret;exact⟨by rw [z];rfl,qa _ _⟩
theorem rsame_any (R cb:Nat) (Z:StS w S A o) (N:StS w S B oA) (I:∀ oA,S oA->oA<w) :
 Calls prog 19 #[ZaM A o R,ZaM B oA cb] w (ZH (decide (o=oA)) w):=by
 have aP:=Z.len;replace Z:=hI Z;have aD:=hI N;clear N;have ai:=hI (((qa w w).alloc nR (.cells #[.slice A o R] 28)).alloc yb (.cells #[.slice B oA cb] 28))
 by_cases E:o.length=oA.length
 .have ax:((o:Int) != oA.length)=false:=(by simp [E]);replace E:=hI E;go_enter func19,ntmps19
  go_wp2
  go_loopw [5,16] (fun _ i wr=>∃ k:Nat,k<=o/\i=.int .i64 k/\o.take k=oA.take k/\Below w w wr/\yr wr w 0 (.slice A o R)/\yr wr (w+1) 0 (.slice B oA cb)/\w.heap.size+2<=wr) (fun _ i _=>o.length - (intOf i).toNat)
  case atStart=>exact⟨0,qk _,rfl,yb,ai,(Zh yb).trans (Zm rfl rfl),Zm yb rfl,yb⟩
  obtain⟨k,aM,rfl,M,ac,K,aa,aO⟩:=hrel;replace M:=hI M;have O:=hI ac;have aF:=ac.size;clear ac ax
  by_cases ah:k<o
  .have au:k<oA:=(yl E.out);obtain⟨L,an,rfl,aL,aj,c1,f1,aJ,f3⟩:=(Z.keep (qS O I)).at_ ah;obtain⟨U,ak,rfl,aI,aw,c2,W,aE,ae⟩:=(aD.keep (qS O I)).at_ au;have ap:=hI f3;have am:=hI ae;have aH:=f3.len;have aC:=ae.len;have aK:L<wr:=(yl (I L aL));have aA:U<wr:=(yl (I U aI));have aq:w.heap.size<wr:=ya;have ao:w.heap.size+1<wr:=ya;have ab:=hI (show o.getD k []≠oA.getD k []->decide (o=oA)=false from fun h=>qe (Zks h));have af:=hI (show o.getD k []=oA.getD k []->o.take (k+1)=oA.take (k+1) from Zgt ah au M);generalize o.getD k []=x at f1 ap aH ab af;generalize oA.getD k []=y at W am aC ab af;clear aJ f3 aE ae
   go_wp2
   go_region_held3 (fun w'=>Below wr wr w'/\w'.cell? ⟨L,an+k,none⟩=some (.slice aj x c1)/\w'.cell? ⟨U,ak+k,none⟩=some (.slice aw y c2)/\w'.cell? ⟨w,0,none⟩=some (.slice (some ⟨L,an,none⟩) o.length R)/\w'.cell? ⟨w+1,0,none⟩=some (.slice (some ⟨U,ak,none⟩) oA.length cb))
    (first | exact⟨(qa _ _).drew,f1,W,K,aa⟩ | exact⟨z,c9Q z aK f1,c9Q z aA W,c9Q z aq K,c9Q z ao aa⟩ | go_keep)
    ((go_at_call 57;refine(rsame01_any (A:=aj) (B:=aw) (n:=c1) (k:=c2) (a:=x) (b:=y) S (w:=wr.drew) (ap.keep (fun _ _=>rfl)) (am.keep (fun _ _=>rfl)) (fun oA N=>by have:=I oA N;show oA<wr;omega)).mono ?_;rintro e ay ⟨rfl,av⟩;have z:Below wr wr ay:=(qa _ wr).drew.trans av))
   have ar:=hI (O.trans (z.mono aF));have aG:=c9Q z aq K;have az:=c9Q z ao aa;have aN:=z.size;clear z av f1 W K aa
   by_cases F:x=y
   .have aB:=hI (af F);have hd:decide (x=y)=true:=qt F;rw [hd];clear F hd
    go_wp2
    go_roundw
    case rel=>exact⟨k+1,ya,by go_num,aB,ar,aG,az,ya⟩
    simp [intOf];omega
   have H:=hI (ab F);have hd:decide (x=y)=false:=qe F;rw [hd];clear F hd
   go_wp2
   go_ret;exact⟨by rw [H];rfl,ar⟩
  have H:=hI (show decide (o=oA)=true from qt (Zhy ya E M))
  go_wp2
  go_ret;exact⟨by rw [H];rfl,O⟩
 have ax:((o:Int) != oA.length)=true:=yd;have H:=hI (show decide (o=oA)=false from qe (fun e=>E (by rw [e])));go_enter func19,ntmps19
 go_wp2
 go_ret;exact⟨by rw [H];rfl,ai⟩
instance:DecidableEq Chg:=fun a b=>decidable_of_iff (a.tx=b.tx/\a.old=b.old/\a.new=b.new) (by cases a;cases b;simp)
theorem Zhv {l:List Row} (z:l.length<=n) (E:RowsS w S A l):Dat.Vs w S (Zx l) [.slice A l n]:=by
 unfold Zx Dat.Vs;exact⟨A,n,yb,by simpa using z,E⟩
def CopPost (st:St) (w:World) (e:Ending) (w':World):Prop:=∃ A c,e=.returned (ZaM A st c)/\Mk w' w (fun _=>False) 145 1 (.slice A st c) (st.map Zx)/\Below w w w'
theorem Mk.low {w:World} {base base' size:Nat} {S0:Nat->Prop} {e:TypeId} {v:Value} {l:List Dat} (h:Mk w base S0 e size v l) (E:base'<=base) (F:∀ b,S0 b->b<base'):Mk w base' S0 e size v l:=by
 obtain⟨vals,I,H,K⟩:=h.own;refine⟨⟨vals,Zcw I E,Dat.Va.more (fun b z=>z.imp id (fun z=>⟨qD E z.1,z.2⟩)) _ _ H,fun b z=>?_⟩,F,qD E h.hi⟩;rcases z with z | z
 .exact K b (.inl z)
 exact z.2
structure CopI (w wr:World) (st:St) (A:Option Addr) (ca k:Nat) (A1:Option Addr) (c1:Nat):Prop where
 mkl:Mk wr (w+3) (fun _=>False) 145 1 (.slice A1 k c1) ((st.take k).map Zx)
 bel:Below w w wr
 a0:wr.cell? ⟨w,0,none⟩=some (.slice A st ca)
 r0:wr.cell? ⟨w+1,0,none⟩=some (.slice none 0 0)
 rf:wr.frozen? ⟨w+1,0,none⟩=false
 o0:wr.cell? ⟨w+2,0,none⟩=some (.slice A1 k c1)
 fz:wr.frozen? ⟨w+2,0,none⟩=false
theorem CopI.below {w wr F:World} {st:St} {A E:Option Addr} {H k c1:Nat} (h:CopI w wr st A H k E c1) (z:Below wr wr F):CopI w F st A H k E c1:=by
 have I:=h.mkl.hi;exact⟨h.mkl.below z,h.bel.trans (z.mono ya),c9J z h.a0,c9J z h.r0,(z.frozen (p:=⟨w+1,0,none⟩) (by show w.heap.size+1<_;omega)).trans h.rf,c9J z h.o0,(z.frozen (p:=⟨w+2,0,none⟩) (by show w.heap.size+2<_;omega)).trans h.fz⟩
theorem CopI.next {w wr z:World} {st:St} {A O E:Option Addr} {L k c1 c2:Nat} (h:CopI w wr st A L k O c1) (F:Below (w+3) wr z) (N:Mk z (w+3) (fun _=>False) 145 1 (.slice E (k+1) c2) ((st.take (k+1)).map Zx)):CopI w (z.setCell ⟨w+2,0,none⟩ (.slice E (k+1) c2)) st A L (k+1) E c2:=by
 have U:=h.mkl.hi;have I:∀ b,b≠w.heap.size+2->(z.setCell ⟨w+2,0,none⟩ (.slice E (k+1) c2)).heap[b]?=z.heap[b]?:=fun b h=>qc z ⟨w+2,0,none⟩ _ b h;have M:∀ b o,b<w.heap.size+2->(z.setCell ⟨w+2,0,none⟩ (.slice E (k+1) c2)).cell? ⟨b,o,none⟩=wr.cell? ⟨b,o,none⟩:=fun b o H=>(ql (I b ya)).trans (F.cell (p:=⟨b,o,none⟩) (by show b<_;omega));have R:=c9J F h.o0;have K:Fr (fun b=>b=w.heap.size+2) z (z.setCell ⟨w+2,0,none⟩ (.slice E (k+1) c2)):=(Qa _ z).setCell _ (fun _=>rfl);refine⟨N.keep K (fun b H=>⟨ya,fun h=>h⟩),(h.bel.trans (F.mono ya)).trans (K.below (n:=w) (yl F.size) (fun b H e=>ya)),(M _ _ ya).trans h.a0,(M _ _ ya).trans h.r0,?_,Qr _ _ _ R,?_⟩
 .exact(World.frozen?_of_block (I (w+1) ya)).trans ((F.frozen (p:=⟨w+1,0,none⟩) (by show w.heap.size+1<_;omega)).trans h.rf)
 rw [World.frozen?_setCell];exact(F.frozen (p:=⟨w+2,0,none⟩) (by show w.heap.size+2<_;omega)).trans h.fz
theorem ZaI {α:Type} {d:α} {l:List α} (h:n<l):l.take (n+1)=l.take n++[l.getD n d]:=by
 rw [qj h];simp [List.getD,h]
theorem rcopySt_any (M:Nat) {st:St} (U:StS w S A st) (aA:∀ b,S b->b<w) :
 Calls prog 54 #[ZaM A st M] w (CopPost st w):=by
 obtain⟨aO,aX,aM,bb,aV⟩:=qA ZiG;obtain⟨bg,aH,aE,aL,bh⟩:=qA ZkZ;have bn:=U.len;replace U:=hI U;have aT:=hI ((((qa w w).alloc nR (.cells #[.slice A st M] 28)).alloc yb (.cells #[.slice none 0 0] 28)).alloc yd (.cells #[.slice none 0 0] 28))
 have bf:=hI (show CopI w (((w.alloc (.cells #[.slice A st M] 28)).alloc (.cells #[.slice none 0 0] 28)).alloc (.cells #[.slice none 0 0] 28)) st A M 0 none 0 from
  ⟨Qe (fun b z=>z.elim) yb _ _,aT,(Zh yd).trans ((Zh yb).trans (Zm rfl rfl)),(Zh yb).trans (Zm yb rfl),(ZK yb).trans (ZaC yb),Zm yb rfl,ZaC yb⟩)
 go_enter func54,ntmps54
 go_wp2
 go_loopw [12] (fun i wr=>∃ (k:Nat) (I:Option Addr) (c1:Nat),k<=st/\i=.int .i64 k/\CopI w wr st A M k I c1) (fun i _=>st.length - (intOf i).toNat)
 case atStart=>exact⟨0,none,0,qk _,rfl,bf⟩
 obtain⟨F,rfl⟩:∃ F:World,F=wr:=⟨_,rfl⟩;obtain⟨k,I,c1,bm,rfl,ac⟩:=hrel;have H:=hI ac;have bp:=ac.mkl.hi;clear ac
 by_cases am:k<st
 .have aI:∀ b,S b->b<F:=(fun b z=>yl (aA b z));obtain⟨bl,bo,rfl,bC,A',bw,ao,aB,ab⟩:=(U.keep (qS H.bel aA)).at_ am;have ay:=hI ab;have aR:=ab.len;have ak:=hI (show st.take (k+1)=st.take k++[st.getD k []] from ZaI am);clear aB ab;generalize st.getD k []=E at ao ay aR ak
  go_wp2
  go_loopw [6,18] (fun ba i aj=>∃ (j:Nat) (W:Option Addr) (c2:Nat),j<=E/\i=.int .i64 j/\ba=.slice W j c2/\Mk aj F (fun _=>False) 116 1 (.slice W j c2) ((E.take j).map Zy)/\Below F F aj) (fun _ i _=>E.length - (intOf i).toNat)
  case atStart=>exact⟨0,none,0,qk _,rfl,rfl,Qe (fun b z=>z.elim) nR _ _,qa _ _⟩
  obtain⟨j,W,c2,bB,rfl,rfl,N,aa⟩:=hrel;replace N:=hI N;have ae:=hI aa;have bu:=aa.size;clear aa ao
  by_cases aq:j<E
  .obtain⟨bi,bj,rfl,bq,aF,aQ,f1,aD,f3⟩:=(ay.keep (qS ae aI)).at_ aq;have af:=hI f3;have aS:=f3.len;have av:=hI (show E.take (j+1)=E.take j++[E.getD j []] from ZaI aq);clear aD f3;generalize E.getD j []=row at f1 af aS av
   go_wp2_with fail
   refine(ZcH af).mono ?_;rintro e br ⟨bc,aY,rfl,au,ai⟩;have aG:=hI ai;have be:=hI (N.below ai);have aw:=hI (ZaR au af.ok nR);clear au ai
   go_wp2_with (at_builtin;refine Zl rfl (.tmp 22) (.tmp 25) 145 rfl 24 underlying145 aX aM bb aV rfl yf be rfl #[.slice bc row aY] (Zah aw.1 (aw.2.more (fun b z=>.inr ⟨ya,z.2,fun e=>yl ((N.base_le e.symm).2)⟩))) (by simp [Zy,Dat.Plain]) rfl 1 rfl ya ya ?_;intro aK aC an O K aU;have ah:=hI O;have L:=hI K;have aN:=K.size;clear O K)
   go_roundw
   case rel=>exact⟨j+1,_,_,ya,by go_num,rfl,by rw [av,qm];exact ah,ae.trans ((aG.mono ya).trans L)⟩
   simp [intOf];omega
  have ar:=hI (show E.take j=E from qs ya);have aW:j=E.length:=ya;subst aW;obtain⟨-,aZ,R⟩:=N.slice (by rw [ar,Ze (n:=24) (fun _=>rfl)];omega);rw [ar] at R;replace R:=hI R;have Z:=hI (H.below ae);have az:=Z.o0;have fz:=Z.fz;have:w.heap.size+2<wr:=by omega
  go_wp2_with (at_builtin;refine Zl rfl (.tmp 29) (.tmp 31) 26 rfl 24 underlying26 aH aE aL bh rfl yf Z.mkl rfl #[.slice W E c2] (Zhv aZ (qZ R (fun b z=>z.elim (fun h=>h.elim) (fun z=>.inr ⟨ya,z.2,fun e=>yl ((H.mkl.base_le e.symm).2)⟩)))) (by simp [Zx,Dat.Plain]) rfl 1 rfl ya ya ?_;intro aK aC an O K aU;have ah:=hI O;have L:=hI K;have aN:=K.size;clear O K;have bt:=c9J L az;have bk:=(L.frozen (p:=⟨w+2,0,none⟩) (by show w.heap.size+2<_;omega)).trans fz;have:w.heap.size+2<an:=by omega)
  go_roundw
  case rel=>exact⟨k+1,_,_,ya,by go_num,Z.next L (by rw [ak,qm];exact ah)⟩
  simp [intOf];omega
 have aP:k=st.length:=ya;subst aP;have az:=H.o0;have r0:=H.r0;have bz:=H.rf
 go_wp2_with fail
 have aJ:yr (F.setCell ⟨w+1,0,none⟩ (.slice I st c1)) (w+1) 0 (.slice I st c1):=Qr _ _ _ r0;have ax:Fr (fun b=>b=w.heap.size+1) F (F.setCell ⟨w+1,0,none⟩ (.slice I st c1)):=(Qa _ F).setCell _ (fun _=>rfl);have ap:=H.mkl;rw [qM] at ap;exact qw (v:=ZaM I st c1) (by simp [results,results54,go_sem,aJ]) rfl ⟨I,c1,rfl,(ap.keep ax (fun b z=>⟨ya,fun h=>h⟩)).low ya (fun b z=>z.elim),H.bel.trans (ax.below ya (fun b z e=>ya))⟩
end Go.Proofs.YtjadnfodboepeaaGreat
