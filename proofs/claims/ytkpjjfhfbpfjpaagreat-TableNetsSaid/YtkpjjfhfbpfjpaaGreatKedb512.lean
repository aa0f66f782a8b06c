import Derived.Test.YtkpjjfhfbpfjpaaGreatK185549
import Derived.Deep.Slices
set_option linter.unusedVariables false
set_option linter.unusedSimpArgs false
set_option maxRecDepth 100000
set_option maxHeartbeats 8000000
namespace Go.Proofs.YtkpjjfhfbpfjpaaGreat
open Go.RowKit
def Whole (w:World) (B:Nat) (e:TypeId) (size n:Nat) (v:Value) (cur:Array Value):Prop :=
 (v=.slice none 0 0∧n=0∧cur=#[])∨∃ g cap,v=.slice (some ⟨g,0,none⟩) n cap∧B≤g∧w.heap[g]?=some (.cells cur e (0,0))∧n≤cap∧cap≤maxLen∧cur.size=cap*size
theorem Zee {L1 news L2:List Value} {k:Nat} (h:L1.length=k):(∀ j,j<k→(L1++news++L2).toArray[j]?=L1[j]?)∧(∀ (j:Nat) u,news[j]?=some u→(L1++news++L2).toArray[k+j]?=some u)∧(∀ j,k+news.length≤j→(L1++news++L2).toArray[j]?=L2[j - (k+news.length)]?):=by
 subst h;refine⟨fun j hj=>?_,fun j u hu=>?_,fun j hj=>?_⟩
 · rw [List.getElem?_toArray,List.append_assoc,List.getElem?_append_left hj]
 · have hl:=(List.getElem?_eq_some_iff.1 hu).1;rw [List.getElem?_toArray,List.append_assoc,List.getElem?_append_right (by omega),Nat.add_sub_cancel_left,List.getElem?_append_left hl];exact hu
 · rw [List.getElem?_toArray,List.getElem?_append_right (by rw [List.length_append];omega),List.length_append]
section
variable {P:Program} (w:World)
theorem run_append_whole (t ty:TypeId) (B:Nat) (e:TypeId) (i:TypeInfo) (z:Value) (size bytes:Nat) (ht:P.underlying t=some (.slice e)) (hi:P.info? e=some i) (hz:i.zero=some z)
  (hsize:i.size=size) (hby:i.bytes=bytes) (hzs:z.cells.size=size) (hsz:0<size) (v:Value) (n:Nat) (cur:Array Value) (hv:Whole w B e size n v cur)
  (ad:Addr) (m c:Nat) (news:List Value) (hl:news.length=m*size) (hnews:∀ j u,news[j]?=some u→w.cell? (ad.add j)=some u) (h1:∀ u ∈ news,u.oneCell'=true)
  (hm:0<m) (h63:n+m≤maxLen) (hbytes:(n+m)*bytes≤140737488355328) (hB:B≤w.heap.size) :
  ∃ g cap w' cur',(Builtin.append_ #[t,t] ty #[v,.slice (some ad) m c]).run P w=.ok (.slice (some ⟨g,0,none⟩) (n+m) cap) w'∧Whole w' B e size (n+m) (.slice (some ⟨g,0,none⟩) (n+m) cap) cur' ∧
   (∀ j,j<n*size→cur'[j]?=cur[j]?)∧(∀ (j:Nat) u,news[j]?=some u→cur'[n*size+j]?=some u) ∧
   ((v.ownBlock=some g∧w.heap[g]?=some (.cells cur e (0,0))∧w'.heap[g]?=some (.cells cur' e (0,0))∧cur'.size=cur.size∧(∀ j,n*size+news.length≤j→cur'[j]?=cur[j]?)∧w.grownBy w' (some g))∨(g=w.heap.size∧Below w.heap.size w w')):=by
 subst hsize;subst hby;have hsmall:n+m≤9223372036854775807:=(by simp only [maxLen] at h63;omega);have hbel:∀ o,Below w.heap.size w (w.drew.alloc o):=fun o=>(Below.refl _ w).drew.alloc nR o;rcases hv with ⟨rfl,rfl,rfl⟩ | ⟨g,cap,rfl,hBg,hg,hnc,hcm,hcs⟩
 · have hr:=run_append_nil (P:=P) w t ty e i z ht hi hz ad m c news hl hnews (by omega) (by omega) (by have hb:=hbytes;simp only [Nat.zero_add] at hb;omega);have hge:=grownCap_ge w m 0 e;have hcm:grownCap w m 0 e≤maxLen:=grownCap_le_maxLen w m 0 e (by omega);have he:news.toArray++Builtin.zeroCells z.cells (grownCap w m 0 e - m)=([]++news++(Builtin.zeroCells z.cells (grownCap w m 0 e - m)).toList).toArray:=(by apply Array.ext';simp);have hp:=Zee (L1:=[]) (news:=news) (L2:=(Builtin.zeroCells z.cells (grownCap w m 0 e - m)).toList) (k:=0) rfl
   have hsz':(news.toArray++Builtin.zeroCells z.cells (grownCap w m 0 e - m)).size=grownCap w m 0 e*i.size:=by
    simp only [Array.size_append,List.size_toArray,size_zeroCells,hzs,hl,←Nat.add_mul]
    congr 1
    omega
   refine⟨w.heap.size,grownCap w m 0 e,_,news.toArray++Builtin.zeroCells z.cells (grownCap w m 0 e - m),by rw [Nat.zero_add];exact hr,.inr ⟨w.heap.size,_,rfl,hB,heap_alloc_new w.drew _,by omega,hcm,hsz'⟩,fun j hj=>by simp at hj,fun j u hu=>?_,.inr ⟨rfl,hbel _⟩⟩;rw [he,Nat.zero_mul];exact hp.2.1 j u hu
 · by_cases hroom:n+m≤cap
   · have hfit:n*i.size+news.length≤cur.size:=(by rw [hl,hcs,←Nat.add_mul];exact Nat.mul_le_mul_right _ hroom);have hr:=run_append_room (P:=P) w t ty e i ht hi g n cap cur hg ad m c news hl hnews h1 hroom hfit;have hL:(cur.toList.take (n*i.size)).length=n*i.size:=(by rw [List.length_take,Array.length_toList];omega);have hp:=Zee (L1:=cur.toList.take (n*i.size)) (news:=news) (L2:=cur.toList.drop (n*i.size+news.length)) hL
     have hsz':(cur.toList.take (n*i.size)++news++cur.toList.drop (n*i.size+news.length)).toArray.size=cur.size:=by
      simp only [List.size_toArray,List.length_append,List.length_drop,Array.length_toList,hL];omega
     have hh:=setRow_heap w g cur (cur.toList.take (n*i.size)++news++cur.toList.drop (n*i.size+news.length)).toArray e (0,0) hg;refine⟨g,cap,_,_,hr,.inr ⟨g,cap,rfl,hBg,hh,hroom,hcm,hsz'.trans hcs⟩,fun j hj=>?_,hp.2.1,.inl ⟨rfl,hg,hh,hsz',fun j hj=>?_,⟨rfl,rfl,rfl,by simp,fun k _ hk=>setRow_other w g k _ (fun e=>hk (by rw [e]))⟩⟩⟩
     · rw [hp.1 j hj,List.getElem?_take_of_lt hj,Array.getElem?_toList]
     · rw [hp.2.2 j hj,List.getElem?_drop,Array.getElem?_toList]
       congr 1
       omega
   · have hx:n*i.size≤cur.size:=(by rw [hcs];exact Nat.mul_le_mul_right _ hnc);have hL:(cur.toList.take (n*i.size)).length=n*i.size:=(by rw [List.length_take,Array.length_toList];omega)
     have hr:=run_append_grow (P:=P) w t ty e i z ht hi hz ⟨g,0,none⟩ n cap (cur.toList.take (n*i.size)) hL (fun j u hu=>by
      have hj:j<n*i.size:=(by have:=(List.getElem?_eq_some_iff.1 hu).1;omega);rw [Zcn,Nat.zero_add,cell_of_row w g j cur e (0,0) hg];rw [List.getElem?_take_of_lt hj,Array.getElem?_toList] at hu;exact hu) ad m c news hl hnews (by omega) (by omega) (growslice_fits (by omega) hbytes)
     have hge:=grownCap_ge w (n+m) cap e;have hcm:grownCap w (n+m) cap e≤maxLen:=grownCap_le_maxLen w (n+m) cap e h63;have he:(cur.toList.take (n*i.size)).toArray++news.toArray++Builtin.zeroCells z.cells (grownCap w (n+m) cap e - (n+m))=(cur.toList.take (n*i.size)++news++(Builtin.zeroCells z.cells (grownCap w (n+m) cap e - (n+m))).toList).toArray:=(by apply Array.ext';simp);have hp:=Zee (L1:=cur.toList.take (n*i.size)) (news:=news) (L2:=(Builtin.zeroCells z.cells (grownCap w (n+m) cap e - (n+m))).toList) hL
     have hsz':((cur.toList.take (n*i.size)).toArray++news.toArray++Builtin.zeroCells z.cells (grownCap w (n+m) cap e - (n+m))).size=grownCap w (n+m) cap e*i.size:=by
      simp only [Array.size_append,List.size_toArray,size_zeroCells,hzs,hl,hL,←Nat.add_mul]
      congr 1
      omega
     refine⟨w.heap.size,_,_,_,hr,.inr ⟨w.heap.size,_,rfl,hB,heap_alloc_new w.drew _,hge,hcm,hsz'⟩,fun j hj=>?_,fun j u hu=>?_,.inr ⟨rfl,hbel _⟩⟩
     · rw [he,hp.1 j hj,List.getElem?_take_of_lt hj,Array.getElem?_toList]
     · rw [he];exact hp.2.1 j u hu
def Grew (w w':World) (B:Nat) (e:TypeId) (size n m:Nat) (v:Value) (cur:Array Value) (news:List Value) (g cap:Nat) (cur':Array Value):Prop :=
 Whole w' B e size (n + m) (.slice (some ⟨g, 0, none⟩) (n + m) cap) cur' ∧
     (∀ j,j<n*size→cur'[j]?=cur[j]?)∧(∀ (j:Nat) u,news[j]?=some u→cur'[n*size+j]?=some u) ∧
     ((v.ownBlock=some g∧w.heap[g]?=some (.cells cur e (0,0))∧w'.heap[g]?=some (.cells cur' e (0,0))∧cur'.size=cur.size∧(∀ j,n*size+news.length≤j→cur'[j]?=cur[j]?)∧w.grownBy w' (some g))∨(g=w.heap.size∧Below w.heap.size w w'))
theorem wp_append_whole {o:Oper} {a:Act} {K:Act→World→Prop} {Q:Exit→Act→World→Prop} (s x:Operand) (t:TypeId)
  (ho:o.op=.call { callee:=.builtin .append,args:=#[s,x],argTypes:=#[t,t] })
  (B:Nat) (e:TypeId) (i:TypeInfo) (z:Value) (size bytes:Nat) (ht:P.underlying t=some (.slice e)) (hi:P.info? e=some i) (hz:i.zero=some z)
  (hsize:i.size=size) (hby:i.bytes=bytes) (hzs:z.cells.size=size) (hsz:0<size) (v:Value) (n:Nat) (cur:Array Value) (hs:a.eval s=v) (hv:Whole w B e size n v cur)
  (ad:Addr) (m c:Nat) (news:List Value) (hx:a.eval x=.slice (some ad) m c) (hl:news.length=m*size) (hnews:∀ j u,news[j]?=some u→w.cell? (ad.add j)=some u) (h1:∀ u ∈ news,u.oneCell'=true)
  (hm:0<m) (h63:n+m≤maxLen) (hbytes:(n+m)*bytes≤140737488355328) (hB:B≤w.heap.size)
  (h:∀ g cap w' cur',Grew w w' B e size n m v cur news g cap cur'→K (a.put o.dst (.slice (some ⟨g,0,none⟩) (n+m) cap)) w'):o.wp P a w K Q:=by
 obtain⟨g,cap,w',cur',hr,h2,h3,h4,h5⟩:=run_append_whole (P:=P) w t o.type B e i z size bytes ht hi hz hsize hby hzs hsz v n cur hv ad m c news hl hnews h1 hm h63 hbytes hB;unfold Oper.wp execOp;simp only [ho,resolve,invoke,builtin,Sem.run_bind,Sem.run_pure,Result.andThen_ok,List.map_toArray,List.map_cons,List.map_nil,hs,hx,hr];exact h g cap w' cur' ⟨h2,h3,h4,h5⟩
end
open Go.Deep
def Trip (cur:Array Value) (j:Nat):Prop:=∃ a b t,cur[j*3]?=some (.int .i64 a)∧cur[j*3+1]?=some (.int .i64 b)∧cur[j*3+2]?=some (.string t)∧t.size≤9223372036854775807
def LsH (w:World) (B:Nat) (e:TypeId) (size n:Nat) (E:Array Value→Nat→Prop) (v:Value):Prop:=∃ cur,Whole w B e size n v cur∧∀ j,j<n→E cur j
def RowH (w:World) (B lo N:Nat) (u:Value):Prop:=∃ n,lo≤n∧n≤N∧LsH w B 89 3 n Trip u
def Stp (w w':World) (B:Nat) (R:TypeId→Array Value→Array Value→Prop):Prop:=∀ g cur e,B≤g→w.heap[g]?=some (.cells cur e (0,0))→∃ cur',w'.heap[g]?=some (.cells cur' e (0,0))∧cur'.size=cur.size∧R e cur cur'
def RVv (e:TypeId) (cur cur':Array Value):Prop:=(e=89→∀ j,Trip cur j→Trip cur' j)∧(e≠89→cur'=cur)
section
variable {w w':World} {B B' lo N lo' N' n size:Nat} {e:TypeId} {E E':Array Value→Nat→Prop} {u v:Value} {R:TypeId→Array Value→Array Value→Prop}
theorem Whole.low {cur:Array Value} (h:Whole w B e size n v cur) (hb:B'≤B):Whole w B' e size n v cur:=by
 rcases h with h | ⟨g,cap,h1,h2,h3⟩
 · exact .inl h
 · exact .inr ⟨g,cap,h1,by omega,h3⟩
theorem LsH.mono (h:LsH w B e size n E v) (hb:B'≤B) (hE:∀ cur j,E cur j→E' cur j):LsH w B' e size n E' v:=by
 obtain⟨cur,h1,h2⟩:=h;exact⟨cur,h1.low hb,fun j hj=>hE cur j (h2 j hj)⟩
theorem LsH.stp (h:LsH w B e size n E v) (hs:Stp w w' B R) (hE:∀ cur cur' j,j<n→R e cur cur'→E cur j→E' cur' j):LsH w' B e size n E' v:=by
 obtain⟨cur,h1,h2⟩:=h;rcases h1 with ⟨h3,h4,h5⟩ | ⟨g,cap,h3,h4,h5,h6,h7,h8⟩
 · exact⟨#[],.inl ⟨h3,h4,rfl⟩,fun j hj=>by omega⟩
 · obtain⟨cur',h9,h10,h11⟩:=hs g cur e h4 h5;exact⟨cur',.inr ⟨g,cap,h3,h4,h9,h6,h7,by rw [h10];exact h8⟩,fun j hj=>hE cur cur' j hj h11 (h2 j hj)⟩
theorem stp_same (hk:∀ g,B≤g→g<w.heap.size→w'.heap[g]?=w.heap[g]?):Stp w w' B RVv:=fun g cur e hg hh =>
 ⟨cur,(hk g hg (Zad hh)).trans hh,rfl,fun _ _ h=>h,fun _=>rfl⟩
theorem Zhi {n:Nat} (hb:Below n w w') (hn:w.heap.size≤n):Stp w w' B RVv:=stp_same fun g _ h=>hb.block g (by omega)
theorem Zec {g k:Nat} {cur:Array Value} {t:TypeId} {v:Value} (h:w.heap[g]?=some (.cells cur t (0,0))):∃ cur',(w.setCell ⟨g,k,none⟩ v).heap[g]?=some (.cells cur' t (0,0))∧cur'.size=cur.size∧(k<cur.size→cur'[k]?=some v)∧∀ j,j≠k→cur'[j]?=cur[j]?:=by
 obtain⟨l⟩:=cur;refine⟨(l.set k v).toArray,Zac h,by simp,fun hk=>?_,fun j hj=>?_⟩
 · have hk':k<l.length:=(by simpa using hk);simp [hk']
 · simp [List.getElem?_set_ne (Ne.symm hj)]
theorem stp_val {g k:Nat} {cur:Array Value} {a b:Int} {t:ByteArray} (hg:w.heap[g]?=some (.cells cur 89 (0,0))) (hk:k*3+3≤cur.size) (ht:t.size≤9223372036854775807):Stp w (((w.setCell ⟨g,k*3,none⟩ (.int .i64 a)).setCell ⟨g,k*3+1,none⟩ (.int .i64 b)).setCell ⟨g,k*3+2,none⟩ (.string t)) B RVv:=by
 intro g2 cur2 e hg2 hh
 by_cases he:g2=g
 · subst he;rw [hg] at hh;injection hh with hh;injection hh with h1 h2;subst h1 h2;obtain⟨c1,h3,h4,h5,h6⟩:=Zec (k:=k*3) (v:=.int .i64 a) hg;obtain⟨c2,i3,i4,i5,i6⟩:=Zec (k:=k*3+1) (v:=.int .i64 b) h3;obtain⟨c3,j3,j4,j5,j6⟩:=Zec (k:=k*3+2) (v:=.string t) i3;refine⟨c3,j3,by omega,fun _ j hj=>?_,fun h=>absurd rfl h⟩;obtain⟨x,y,s,h7,h8,h9,h10⟩:=hj
   by_cases hjk:j=k
   · subst hjk;exact⟨a,b,t,by rw [j6 _ (by omega),i6 _ (by omega)];exact h5 (by omega),by rw [j6 _ (by omega)];exact i5 (by omega),j5 (by omega),ht⟩
   · exact⟨x,y,s,by rw [j6 _ (by omega),i6 _ (by omega),h6 _ (by omega)];exact h7,by rw [j6 _ (by omega),i6 _ (by omega),h6 _ (by omega)];exact h8,by rw [j6 _ (by omega),i6 _ (by omega),h6 _ (by omega)];exact h9,h10⟩
 · exact⟨cur2,(Below.heap_setCell _ ⟨g,k*3+2,none⟩ _ g2 he).trans ((Below.heap_setCell _ ⟨g,k*3+1,none⟩ _ g2 he).trans ((Below.heap_setCell w ⟨g,k*3,none⟩ _ g2 he).trans hh)),rfl,fun _ _ h=>h,fun _=>rfl⟩
theorem grew_row {cur cur':Array Value} {a b:Int} {t:ByteArray} {g cap:Nat} (hG:Grew w w' B 89 3 n 1 v cur [.int .i64 a,.int .i64 b,.string t] g cap cur') (hE:∀ j,j<n→Trip cur j) (ht:t.size≤9223372036854775807) (hlo:lo≤n+1) (hN:n+1≤N):Stp w w' B RVv∧RowH w' B lo N (.slice (some ⟨g,0,none⟩) (n+1) cap):=by
 obtain⟨h1,h2,h3,h4⟩:=hG
 have hnew:∀ j,j<n+1→Trip cur' j:=fun j hj=>by
  by_cases hjn:j<n
  · obtain⟨x,y,s,h7,h8,h9,h10⟩:=hE j hjn;exact⟨x,y,s,(h2 _ (by omega)).trans h7,(h2 _ (by omega)).trans h8,(h2 _ (by omega)).trans h9,h10⟩
  · have:j=n:=(by omega);subst this;exact⟨a,b,t,h3 0 _ rfl,h3 1 _ rfl,h3 2 _ rfl,ht⟩
 refine⟨?_,n+1,by omega,hN,cur',h1,hnew⟩;rcases h4 with ⟨h4,h5,h6,h7,h8,h9⟩ | ⟨h4,h5⟩
 · intro g2 cur2 e hg2 hh
   by_cases he:g2=g
   · subst he;rw [h5] at hh;injection hh with hh;injection hh with e1 e2;subst e1 e2;refine⟨cur',h6,h7,fun _ j hj=>?_,fun h=>absurd rfl h⟩
     by_cases hjn:j<n+1
     · exact hnew j hjn
     · obtain⟨x,y,s,i7,i8,i9,i10⟩:=hj;have hl:n*3+[Value.int .i64 a,.int .i64 b,.string t].length=n*3+3:=rfl;rw [hl] at h8;exact⟨x,y,s,(h8 _ (by omega)).trans i7,(h8 _ (by omega)).trans i8,(h8 _ (by omega)).trans i9,i10⟩
   · exact⟨cur2,(h9.block g2 (Zad hh) (fun e=>he (by injection e))).trans hh,rfl,fun _ _ h=>h,fun _=>rfl⟩
 · exact Zhi h5 nR
theorem LsH.form (h:LsH w B e size n E v):∃ A c,v=.slice A n c∧n≤c∧(0<n→∃ g cur,A=some ⟨g,0,none⟩∧B≤g∧w.heap[g]?=some (.cells cur e (0,0))∧cur.size=c*size∧c≤maxLen∧∀ j,j<n→E cur j):=by
 obtain⟨cur,h1,h2⟩:=h;rcases h1 with ⟨rfl,rfl,_⟩ | ⟨g,cap,rfl,h4,h5,h6,h7,h8⟩
 · exact⟨none,0,rfl,Nat.le_refl _,fun h=>by omega⟩
 · exact⟨_,cap,rfl,h6,fun _=>⟨g,cur,rfl,h4,h5,h8,h7,h2⟩⟩
theorem LsH.reads {α:Type} [Inhabited α] {ed:α→Dat} {by_:Nat} {P:α→Prop} {S:Nat→Prop} (hsz:∀ a,(ed a).size=size) (hby:∀ a,(ed a).bytes=by_) (hn:n*by_≤140737488355328) (hS:∀ b,B≤b→b<w.heap.size→S b) (h:LsH w B e size n E v)
  (hE:∀ g cur j,j<n→w.heap[g]?=some (.cells cur e (0,0))→E cur j→∃ a,P a∧Dat.Held w S (ed a) g (j*size)):∃ (l:List α) (A:Option Addr) (c:Nat),v=.slice A l.length c∧l.length=n∧n≤c∧(∀ a ∈ l,P a)∧Sl w S A (l.map ed):=by
 obtain⟨A,c,rfl,hc,h1⟩:=h.form;rcases Nat.eq_zero_or_pos n with h0 | h0
 · subst h0;exact⟨[],A,c,rfl,rfl,hc,fun a ha=>by simp at ha,Sl.nil_⟩
 · obtain⟨g,cur,rfl,h2,h3,_,_,h4⟩:=h1 h0;obtain⟨f,hf⟩:=choose_lt (fun j hj=>hE g cur j hj h3 (h4 j hj));have hl:((List.range n).map f).length=n:=(by simp);refine⟨(List.range n).map f,_,c,by rw [hl],hl,hc,fun a ha=>?_,by rw [Zaf hby,hl];exact hn,fun _=>⟨g,0,rfl,hS g h2 (Zad h3),ZdK (n:=size) (fun d hd=>by obtain⟨v,_,rfl⟩:=List.mem_map.1 hd;exact hsz v) (fun k hk=>?_)⟩⟩
   · obtain⟨j,hj,rfl⟩:=List.mem_map.1 ha;exact(hf j (List.mem_range.1 hj)).1
   · have hk':k<n:=(by simpa using hk);have e:((((List.range n).map f)).map ed)[k]=ed (f k):=(by simp);rw [e,Nat.zero_add];exact(hf k hk').2
theorem Zck {g j:Nat} {cur:Array Value} (h:w.heap[g]?=some (.cells cur e (0,0))) {x:Value} (hx:cur[j]?=some x):w.cell? ⟨g,j,none⟩=some x:=by
 rw [cell_of_row w g j cur e (0,0) h];exact hx
theorem RowH.reads (h:RowH w B lo N u) (hN:N≤1000000):∃ (r:Row) (A:Option Addr) (c:Nat),u=.slice A r.length c∧r.length≤c∧(lo≤r.length∧r.length≤N)∧RowS w (fun b=>B≤b∧b<w.heap.size) A r:=by
 obtain⟨n,h1,h2,h3⟩:=h;haveI:Inhabited V:=⟨v0⟩
 obtain⟨l,A,c,rfl,h4,h5,_,h6⟩:=h3.reads (α:=V) (ed:=encV) (by_:=32) (P:=fun _=>True) (S:=fun b=>B≤b∧b<w.heap.size) ZeA (fun _=>rfl) (by omega) (fun b h1 h2=>⟨h1,h2⟩) (fun g cur j hj hh ht=>by
  obtain⟨a,b,t,i1,i2,i3,i4⟩:=ht;exact⟨⟨a,b,t⟩,trivial,held_encV.2 ⟨Zck hh i1,Zck hh i2,Zck hh i3,i4⟩⟩)
 subst h4;exact⟨l,A,c,rfl,h5,⟨h1,h2⟩,h6⟩
theorem Zgp:∀ {r:Row} {j:Nat} (hj:j<r.length),(Zal r)[j*3]?=some (.int .i64 r[j].k)∧(Zal r)[j*3+1]?=some (.int .i64 r[j].i)∧(Zal r)[j*3+2]?=some (.string r[j].t)
 | [],j,h=>by simp at h
 | v :: r,0,_=>⟨rfl,rfl,rfl⟩
 | v :: r,j+1,h=>by
  have:=Zgp (r:=r) (j:=j) (by simpa using h);rw [Nat.succ_mul];exact this
theorem RowH.of_owns {r:Row} {A:Option Addr} {c:Nat} (h:w.ownsRow B 89 3 (.slice A r.length c) r.length (Zal r)) (hr:RowOk r) (hlo:lo≤r.length) (hN:r.length≤N):RowH w B lo N (.slice A r.length c):=by
 refine⟨r.length,hlo,hN,?_⟩;rcases h.2 with ⟨e,h0⟩ | ⟨g,cap,cur,e,h4,h5,h6,h7,h8,h9⟩
 · exact⟨#[],.inl ⟨e,h0,rfl⟩,fun j hj=>by omega⟩
 · refine⟨cur,.inr ⟨g,cap,e,h4,h5,h6,h7,h8⟩,fun j hj=>?_⟩
   have hc:∀ k x,(Zal r)[k]?=some x→cur[k]?=some x:=fun k x hx=>by
    have hk:=(List.getElem?_eq_some_iff.1 hx).1;rw [Zbb] at hk;rw [←h9,List.getElem?_take_of_lt hk,Array.getElem?_toList] at hx;exact hx
   have hv:=Zgp hj;exact⟨_,_,_,hc _ _ hv.1,hc _ _ hv.2.1,hc _ _ hv.2.2,hr.2 _ (List.getElem_mem hj)⟩
end
section
variable {w w':World} {B lo N lo' N' n:Nat}
theorem Grew.below {e:TypeId} {size m g cap:Nat} {v:Value} {cur cur':Array Value} {news:List Value} (hG:Grew w w' B e size n m v cur news g cap cur') (hB:B≤w.heap.size):Below B w w':=by
 obtain⟨h1,_,_,h4⟩:=hG;rcases h4 with ⟨_,_,_,_,_,h9⟩ | ⟨_,h5⟩
 · have hg:B≤g:=by
     rcases h1 with ⟨e,_,_⟩ | ⟨g',cap',e,hb,_⟩
     · injection e with e;cases e
     · injection e with e;injection e with e;injection e with e;omega
   exact⟨h9.os,h9.tape,h9.output,h9.size,fun b hb=>h9.block b (by omega) (fun e=>by injection e with e;omega)⟩
 · exact h5.mono hB
theorem Zhj (o:Obj):Stp w (w.alloc o) B RVv:=Zhi ((Below.refl _ w).alloc nR o) nR
end
end Go.Proofs.YtkpjjfhfbpfjpaaGreat
