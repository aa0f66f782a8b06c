import Derived.Test.YtkpjjfhfbpfjpaaGreatKfde3e9
import Derived.Deep.Slices
import Derived.Test.YtkpjjfhfbpfjpaaGreatKa9f605
import Derived.Test.YtkpjjfhfbpfjpaaGreatK70ce45
set_option linter.unusedVariables false
set_option linter.unusedSimpArgs false
set_option maxRecDepth 100000
set_option maxHeartbeats 8000000
namespace Go.Proofs.YtkpjjfhfbpfjpaaGreat
open Go.RowKit
def Whole (w:World) (B:Nat) (e:TypeId) (size n:Nat) (v:Value) (cur:Array Value):Prop :=
 (v=.slice none 0 0∧n=0∧cur=#[])∨∃ g cap,v=.slice (some ⟨g,0,none⟩) n cap∧B≤g∧w.heap[g]?=some (.cells cur e (0,0))∧n≤cap∧cap≤maxLen∧cur.size=cap*size
theorem Zdv {L1 news L2:List Value} {k:Nat} (h:L1.length=k):(∀ j,j<k→(L1++news++L2).toArray[j]?=L1[j]?)∧(∀ (j:Nat) u,news[j]?=some u→(L1++news++L2).toArray[k+j]?=some u)∧(∀ j,k+news.length≤j→(L1++news++L2).toArray[j]?=L2[j - (k+news.length)]?):=by
 subst h;refine⟨fun j hj=>?_,fun j u hu=>?_,fun j hj=>?_⟩
 · rw [List.getElem?_toArray,List.append_assoc,List.getElem?_append_left hj]
 · have hl:=(List.getElem?_eq_some_iff.1 hu).1;rw [List.getElem?_toArray,List.append_assoc,List.getElem?_append_right (by omega),Nat.add_sub_cancel_left,List.getElem?_append_left hl];exact hu
 · rw [List.getElem?_toArray,List.getElem?_append_right (by rw [List.length_append];omega),List.length_append]
section
variable {P:Program} (w:World)
theorem run_append_whole (t ty:TypeId) (B:Nat) (e:TypeId) (i:TypeInfo) (z:Value) (size bytes:Nat) (ht:P.underlying t=some (.slice e)) (hi:P.info? e=some i) (hz:i.zero=some z)
  (hsize:i.size=size) (hby:i.bytes=bytes) (hzs:z.cells.size=size) (hsz:0<size) (v:Value) (n:Nat) (cur:Array Value) (hv:Whole w B e size n v cur)
  (ad:Addr) (m c:Nat) (news:List Value) (hl:news.length=m*size) (hnews:∀ j u,news[j]?=some u→w.cell? (ad.add j)=some u) (h1:∀ u ∈ news,u.oneCell'=true)
  (hm:0<m) (h63:n+m≤maxLen) (hbytes:(n+m)*bytes≤140737488355328) (hB:B≤w.heap.size) :
  ∃ g cap w' cur',(Builtin.append_ #[t,t] ty #[v,.slice (some ad) m c]).run P w=.ok (.slice (some ⟨g,0,none⟩) (n+m) cap) w'∧Whole w' B e size (n+m) (.slice (some ⟨g,0,none⟩) (n+m) cap) cur' ∧
   (∀ j,j<n*size→cur'[j]?=cur[j]?)∧(∀ (j:Nat) u,news[j]?=some u→cur'[n*size+j]?=some u) ∧
   ((v.ownBlock=some g∧w.heap[g]?=some (.cells cur e (0,0))∧w'.heap[g]?=some (.cells cur' e (0,0))∧cur'.size=cur.size∧(∀ j,n*size+news.length≤j→cur'[j]?=cur[j]?)∧w.grownBy w' (some g))∨(g=w.heap.size∧Below w.heap.size w w')):=by
 subst hsize;subst hby;have hsmall:n+m≤9223372036854775807:=(by simp only [maxLen] at h63;omega);have hbel:∀ o,Below w.heap.size w (w.drew.alloc o):=fun o=>(Below.refl _ w).drew.alloc nR o;rcases hv with ⟨rfl,rfl,rfl⟩ | ⟨g,cap,rfl,hBg,hg,hnc,hcm,hcs⟩
 · have hr:=run_append_nil (P:=P) w t ty e i z ht hi hz ad m c news hl hnews (by omega) (by omega) (by have hb:=hbytes;simp only [Nat.zero_add] at hb;omega);have hge:=grownCap_ge w m 0 e;have hcm:grownCap w m 0 e≤maxLen:=grownCap_le_maxLen w m 0 e (by omega);have he:news.toArray++Builtin.zeroCells z.cells (grownCap w m 0 e - m)=([]++news++(Builtin.zeroCells z.cells (grownCap w m 0 e - m)).toList).toArray:=(by apply Array.ext';simp);have hp:=Zdv (L1:=[]) (news:=news) (L2:=(Builtin.zeroCells z.cells (grownCap w m 0 e - m)).toList) (k:=0) rfl
   have hsz':(news.toArray++Builtin.zeroCells z.cells (grownCap w m 0 e - m)).size=grownCap w m 0 e*i.size:=by
    simp only [Array.size_append,List.size_toArray,size_zeroCells,hzs,hl,←Nat.add_mul]
    congr 1
    omega
   refine⟨w.heap.size,grownCap w m 0 e,_,news.toArray++Builtin.zeroCells z.cells (grownCap w m 0 e - m),by rw [Nat.zero_add];exact hr,.inr ⟨w.heap.size,_,rfl,hB,heap_alloc_new w.drew _,by omega,hcm,hsz'⟩,fun j hj=>by simp at hj,fun j u hu=>?_,.inr ⟨rfl,hbel _⟩⟩;rw [he,Nat.zero_mul];exact hp.2.1 j u hu
 · by_cases hroom:n+m≤cap
   · have hfit:n*i.size+news.length≤cur.size:=(by rw [hl,hcs,←Nat.add_mul];exact Nat.mul_le_mul_right _ hroom);have hr:=run_append_room (P:=P) w t ty e i ht hi g n cap cur hg ad m c news hl hnews h1 hroom hfit;have hL:(cur.toList.take (n*i.size)).length=n*i.size:=(by rw [List.length_take,Array.length_toList];omega);have hp:=Zdv (L1:=cur.toList.take (n*i.size)) (news:=news) (L2:=cur.toList.drop (n*i.size+news.length)) hL
     have hsz':(cur.toList.take (n*i.size)++news++cur.toList.drop (n*i.size+news.length)).toArray.size=cur.size:=by
      simp only [List.size_toArray,List.length_append,List.length_drop,Array.length_toList,hL];omega
     have hh:=setRow_heap w g cur (cur.toList.take (n*i.size)++news++cur.toList.drop (n*i.size+news.length)).toArray e (0,0) hg;refine⟨g,cap,_,_,hr,.inr ⟨g,cap,rfl,hBg,hh,hroom,hcm,hsz'.trans hcs⟩,fun j hj=>?_,hp.2.1,.inl ⟨rfl,hg,hh,hsz',fun j hj=>?_,⟨rfl,rfl,rfl,by simp,fun k _ hk=>setRow_other w g k _ (fun e=>hk (by rw [e]))⟩⟩⟩
     · rw [hp.1 j hj,List.getElem?_take_of_lt hj,Array.getElem?_toList]
     · rw [hp.2.2 j hj,List.getElem?_drop,Array.getElem?_toList]
       congr 1
       omega
   · have hx:n*i.size≤cur.size:=(by rw [hcs];exact Nat.mul_le_mul_right _ hnc);have hL:(cur.toList.take (n*i.size)).length=n*i.size:=(by rw [List.length_take,Array.length_toList];omega)
     have hr:=run_append_grow (P:=P) w t ty e i z ht hi hz ⟨g,0,none⟩ n cap (cur.toList.take (n*i.size)) hL (fun j u hu=>by
      have hj:j<n*i.size:=(by have:=(List.getElem?_eq_some_iff.1 hu).1;omega);rw [ZbQ,Nat.zero_add,cell_of_row w g j cur e (0,0) hg];rw [List.getElem?_take_of_lt hj,Array.getElem?_toList] at hu;exact hu) ad m c news hl hnews (by omega) (by omega) (growslice_fits (by omega) hbytes)
     have hge:=grownCap_ge w (n+m) cap e;have hcm:grownCap w (n+m) cap e≤maxLen:=grownCap_le_maxLen w (n+m) cap e h63;have he:(cur.toList.take (n*i.size)).toArray++news.toArray++Builtin.zeroCells z.cells (grownCap w (n+m) cap e - (n+m))=(cur.toList.take (n*i.size)++news++(Builtin.zeroCells z.cells (grownCap w (n+m) cap e - (n+m))).toList).toArray:=(by apply Array.ext';simp);have hp:=Zdv (L1:=cur.toList.take (n*i.size)) (news:=news) (L2:=(Builtin.zeroCells z.cells (grownCap w (n+m) cap e - (n+m))).toList) hL
     have hsz':((cur.toList.take (n*i.size)).toArray++news.toArray++Builtin.zeroCells z.cells (grownCap w (n+m) cap e - (n+m))).size=grownCap w (n+m) cap e*i.size:=by
      simp only [Array.size_append,List.size_toArray,size_zeroCells,hzs,hl,hL,←Nat.add_mul]
      congr 1
      omega
     refine⟨w.heap.size,_,_,_,hr,.inr ⟨w.heap.size,_,rfl,hB,heap_alloc_new w.drew _,hge,hcm,hsz'⟩,fun j hj=>?_,fun j u hu=>?_,.inr ⟨rfl,hbel _⟩⟩
     · rw [he,hp.1 j hj,List.getElem?_take_of_lt hj,Array.getElem?_toList]
     · rw [he];exact hp.2.1 j u hu
def Grew (w w':World) (B:Nat) (e:TypeId) (size n m:Nat) (v:Value) (cur:Array Value) (news:List Value) (g cap:Nat) (cur':Array Value):Prop :=
 Whole w' B e size (n + m) (.slice (some ⟨g, 0, none⟩) (n + m) cap) cur' ∧
     (∀ j,j<n*size→cur'[j]?=cur[j]?)∧(∀ (j:Nat) u,news[j]?=some u→cur'[n*size+j]?=some u) ∧
     ((v.ownBlock=some g∧w.heap[g]?=some (.cells cur e (0,0))∧w'.heap[g]?=some (.cells cur' e (0,0))∧cur'.size=cur.size∧(∀ j,n*size+news.length≤j→cur'[j]?=cur[j]?)∧w.grownBy w' (some g))∨(g=w.heap.size∧Below w.heap.size w w'))
theorem Zcn {o:Oper} {a:Act} {K:Act→World→Prop} {Q:Exit→Act→World→Prop} (s x:Operand) (t:TypeId)
  (ho:o.op=.call { callee:=.builtin .append,args:=#[s,x],argTypes:=#[t,t] })
  (B:Nat) (e:TypeId) (i:TypeInfo) (z:Value) (size bytes:Nat) (ht:P.underlying t=some (.slice e)) (hi:P.info? e=some i) (hz:i.zero=some z)
  (hsize:i.size=size) (hby:i.bytes=bytes) (hzs:z.cells.size=size) (hsz:0<size) (v:Value) (n:Nat) (cur:Array Value) (hs:a.eval s=v) (hv:Whole w B e size n v cur)
  (ad:Addr) (m c:Nat) (news:List Value) (hx:a.eval x=.slice (some ad) m c) (hl:news.length=m*size) (hnews:∀ j u,news[j]?=some u→w.cell? (ad.add j)=some u) (h1:∀ u ∈ news,u.oneCell'=true)
  (hm:0<m) (h63:n+m≤maxLen) (hbytes:(n+m)*bytes≤140737488355328) (hB:B≤w.heap.size)
  (h:∀ g cap w' cur',Grew w w' B e size n m v cur news g cap cur'→K (a.put o.dst (.slice (some ⟨g,0,none⟩) (n+m) cap)) w'):o.wp P a w K Q:=by
 obtain⟨g,cap,w',cur',hr,h2,h3,h4,h5⟩:=run_append_whole (P:=P) w t o.type B e i z size bytes ht hi hz hsize hby hzs hsz v n cur hv ad m c news hl hnews h1 hm h63 hbytes hB;unfold Oper.wp execOp;simp only [ho,resolve,invoke,builtin,Sem.run_bind,Sem.run_pure,Result.andThen_ok,List.map_toArray,List.map_cons,List.map_nil,hs,hx,hr];exact h g cap w' cur' ⟨h2,h3,h4,h5⟩
theorem wpList_append_whole {ops:Array Oper} {rest:List Oper} {o:Oper} {a:Act} {Q:Exit→Act→World→Prop} (hgd:o.guard=none) (s x:Operand) (t:TypeId)
  (ho:o.op=.call { callee:=.builtin .append,args:=#[s,x],argTypes:=#[t,t] })
  (B:Nat) (e:TypeId) (i:TypeInfo) (z:Value) (size bytes:Nat) (ht:P.underlying t=some (.slice e)) (hi:P.info? e=some i) (hz:i.zero=some z)
  (hsize:i.size=size) (hby:i.bytes=bytes) (hzs:z.cells.size=size) (hsz:0<size) (v:Value) (n:Nat) (cur:Array Value) (hs:a.eval s=v) (hv:Whole w B e size n v cur)
  (ad:Addr) (m c:Nat) (news:List Value) (hx:a.eval x=.slice (some ad) m c) (hl:news.length=m*size) (hnews:∀ j u,news[j]?=some u→w.cell? (ad.add j)=some u) (h1:∀ u ∈ news,u.oneCell'=true)
  (hm:0<m) (h63:n+m≤maxLen) (hbytes:(n+m)*bytes≤140737488355328) (hB:B≤w.heap.size)
  (h:∀ g cap w' cur',Grew w w' B e size n m v cur news g cap cur'→wpList P ops Q rest (a.put o.dst (.slice (some ⟨g,0,none⟩) (n+m) cap)) w'):wpList P ops Q (o :: rest) a w :=
 wpList_plain hgd fun _ hK=>Zcn w s x t ho B e i z size bytes ht hi hz hsize hby hzs hsz v n cur hs hv ad m c news hx hl hnews h1 hm h63 hbytes hB fun g cap w' cur' h2=>hK _ _ (h g cap w' cur' h2)
end
open Go.Deep
def Trip (cur:Array Value) (j:Nat):Prop:=∃ a b t,cur[j*3]?=some (.int .i64 a)∧cur[j*3+1]?=some (.int .i64 b)∧cur[j*3+2]?=some (.string t)∧t.size≤9223372036854775807
def LsH (w:World) (B:Nat) (e:TypeId) (size n:Nat) (E:Array Value→Nat→Prop) (v:Value):Prop:=∃ cur,Whole w B e size n v cur∧∀ j,j<n→E cur j
def RowH (w:World) (B lo N:Nat) (u:Value):Prop:=∃ n,lo≤n∧n≤N∧LsH w B 89 3 n Trip u
def RowAt (w:World) (B lo N:Nat) (cur:Array Value) (j:Nat):Prop:=∃ x,cur[j]?=some x∧RowH w B lo N x
def RowsH (w:World) (B lo N n:Nat) (u:Value):Prop:=LsH w B 42 1 n (RowAt w B lo N) u
def ListH (w:World) (B lo N:Nat) (u:Value):Prop:=∃ n,n≤N∧RowsH w B lo N n u
def ListAt (w:World) (B lo N:Nat) (cur:Array Value) (j:Nat):Prop:=∃ x,cur[j]?=some x∧ListH w B lo N x
def StH (w:World) (B lo N n:Nat) (u:Value):Prop:=LsH w B 73 1 n (ListAt w B lo N) u
def Stp (w w':World) (B:Nat) (R:TypeId→Array Value→Array Value→Prop):Prop:=∀ g cur e,B≤g→w.heap[g]?=some (.cells cur e (0,0))→∃ cur',w'.heap[g]?=some (.cells cur' e (0,0))∧cur'.size=cur.size∧R e cur cur'
def RVv (e:TypeId) (cur cur':Array Value):Prop:=(e=89→∀ j,Trip cur j→Trip cur' j)∧(e≠89→cur'=cur)
def RRr (w w':World) (B lo N lo' N':Nat) (e:TypeId) (cur cur':Array Value):Prop:=(e=42→∀ j,RowAt w B lo N cur j→RowAt w' B lo' N' cur' j)∧(e≠42→cur'=cur)
def RLl (w w':World) (B lo N lo' N':Nat) (e:TypeId) (cur cur':Array Value):Prop:=(e=73→∀ j,ListAt w B lo N cur j→ListAt w' B lo' N' cur' j)∧(e≠73→cur'=cur)
section
variable {w w':World} {B B' lo N lo' N' n size:Nat} {e:TypeId} {E E':Array Value→Nat→Prop} {u v:Value} {R:TypeId→Array Value→Array Value→Prop}
theorem Whole.low {cur:Array Value} (h:Whole w B e size n v cur) (hb:B'≤B):Whole w B' e size n v cur:=by
 rcases h with h | ⟨g,cap,h1,h2,h3⟩
 · exact .inl h
 · exact .inr ⟨g,cap,h1,by omega,h3⟩
theorem LsH.mono (h:LsH w B e size n E v) (hb:B'≤B) (hE:∀ cur j,E cur j→E' cur j):LsH w B' e size n E' v:=by
 obtain⟨cur,h1,h2⟩:=h;exact⟨cur,h1.low hb,fun j hj=>hE cur j (h2 j hj)⟩
theorem RowH.mono (h:RowH w B lo N u) (hb:B'≤B) (hlo:lo'≤lo) (hN:N≤N'):RowH w B' lo' N' u:=by
 obtain⟨n,h1,h2,h3⟩:=h;exact⟨n,by omega,by omega,h3.mono hb (fun _ _ h=>h)⟩
theorem RowAt.mono {cur:Array Value} {j:Nat} (h:RowAt w B lo N cur j) (hb:B'≤B) (hlo:lo'≤lo) (hN:N≤N'):RowAt w B' lo' N' cur j:=by
 obtain⟨x,h1,h2⟩:=h;exact⟨x,h1,h2.mono hb hlo hN⟩
theorem RowsH.mono (h:RowsH w B lo N n u) (hb:B'≤B) (hlo:lo'≤lo) (hN:N≤N'):RowsH w B' lo' N' n u:=LsH.mono h hb (fun _ _ h=>h.mono hb hlo hN)
theorem ListH.mono (h:ListH w B lo N u) (hb:B'≤B) (hlo:lo'≤lo) (hN:N≤N'):ListH w B' lo' N' u:=by
 obtain⟨n,h1,h2⟩:=h;exact⟨n,by omega,h2.mono hb hlo hN⟩
theorem ListAt.mono {cur:Array Value} {j:Nat} (h:ListAt w B lo N cur j) (hb:B'≤B) (hlo:lo'≤lo) (hN:N≤N'):ListAt w B' lo' N' cur j:=by
 obtain⟨x,h1,h2⟩:=h;exact⟨x,h1,h2.mono hb hlo hN⟩
theorem StH.mono (h:StH w B lo N n u) (hb:B'≤B) (hlo:lo'≤lo) (hN:N≤N'):StH w B' lo' N' n u:=LsH.mono h hb (fun _ _ h=>h.mono hb hlo hN)
theorem LsH.stp (h:LsH w B e size n E v) (hs:Stp w w' B R) (hE:∀ cur cur' j,j<n→R e cur cur'→E cur j→E' cur' j):LsH w' B e size n E' v:=by
 obtain⟨cur,h1,h2⟩:=h;rcases h1 with ⟨h3,h4,h5⟩ | ⟨g,cap,h3,h4,h5,h6,h7,h8⟩
 · exact⟨#[],.inl ⟨h3,h4,rfl⟩,fun j hj=>by omega⟩
 · obtain⟨cur',h9,h10,h11⟩:=hs g cur e h4 h5;exact⟨cur',.inr ⟨g,cap,h3,h4,h9,h6,h7,by rw [h10];exact h8⟩,fun j hj=>hE cur cur' j hj h11 (h2 j hj)⟩
theorem RowH.vstp (h:RowH w B lo N u) (hs:Stp w w' B RVv):RowH w' B lo N u:=by
 obtain⟨n,h1,h2,h3⟩:=h;exact⟨n,h1,h2,h3.stp hs (fun cur cur' j _ hr=>hr.1 rfl j)⟩
theorem RowAt.vstp {cur:Array Value} {j:Nat} (h:RowAt w B lo N cur j) (hs:Stp w w' B RVv):RowAt w' B lo N cur j:=by
 obtain⟨x,h1,h2⟩:=h;exact⟨x,h1,h2.vstp hs⟩
theorem RowsH.vstp (h:RowsH w B lo N n u) (hs:Stp w w' B RVv):RowsH w' B lo N n u :=
 LsH.stp h hs (fun cur cur' j _ hr hx=>by rw [hr.2 (by decide)];exact hx.vstp hs)
theorem ListH.vstp (h:ListH w B lo N u) (hs:Stp w w' B RVv):ListH w' B lo N u:=by
 obtain⟨n,h1,h2⟩:=h;exact⟨n,h1,h2.vstp hs⟩
theorem ListAt.vstp {cur:Array Value} {j:Nat} (h:ListAt w B lo N cur j) (hs:Stp w w' B RVv):ListAt w' B lo N cur j:=by
 obtain⟨x,h1,h2⟩:=h;exact⟨x,h1,h2.vstp hs⟩
theorem StH.vstp (h:StH w B lo N n u) (hs:Stp w w' B RVv):StH w' B lo N n u :=
 LsH.stp h hs (fun cur cur' j _ hr hx=>by rw [hr.2 (by decide)];exact hx.vstp hs)
theorem RowH.rstp (h:RowH w B lo N u) (hs:Stp w w' B (RRr w w' B lo N lo' N')):RowH w' B lo N u:=by
 obtain⟨n,h1,h2,h3⟩:=h;exact⟨n,h1,h2,h3.stp hs (fun cur cur' j _ hr hx=>by rw [hr.2 (by decide)];exact hx)⟩
theorem RowsH.rstp (h:RowsH w B lo N n u) (hs:Stp w w' B (RRr w w' B lo N lo' N')):RowsH w' B lo' N' n u :=
 LsH.stp h hs (fun cur cur' j _ hr hx=>hr.1 rfl j hx)
theorem ListH.rstp (h:ListH w B lo N u) (hs:Stp w w' B (RRr w w' B lo N lo' N')) (hN:N≤N'):ListH w' B lo' N' u:=by
 obtain⟨n,h1,h2⟩:=h;exact⟨n,by omega,h2.rstp hs⟩
theorem ListAt.rstp {cur:Array Value} {j:Nat} (h:ListAt w B lo N cur j) (hs:Stp w w' B (RRr w w' B lo N lo' N')) (hN:N≤N'):ListAt w' B lo' N' cur j:=by
 obtain⟨x,h1,h2⟩:=h;exact⟨x,h1,h2.rstp hs hN⟩
theorem StH.rstp (h:StH w B lo N n u) (hs:Stp w w' B (RRr w w' B lo N lo' N')) (hN:N≤N'):StH w' B lo' N' n u :=
 LsH.stp h hs (fun cur cur' j _ hr hx=>by rw [hr.2 (by decide)];exact hx.rstp hs hN)
theorem StH.lstp (h:StH w B lo N n u) (hs:Stp w w' B (RLl w w' B lo N lo' N')):StH w' B lo' N' n u :=
 LsH.stp h hs (fun cur cur' j _ hr hx=>hr.1 rfl j hx)
theorem ZbW (hk:∀ g,B≤g→g<w.heap.size→w'.heap[g]?=w.heap[g]?):Stp w w' B RVv:=fun g cur e hg hh =>
 ⟨cur,(hk g hg (Zac hh)).trans hh,rfl,fun _ _ h=>h,fun _=>rfl⟩
theorem ZbY {n:Nat} (hb:Below n w w') (hn:w.heap.size≤n):Stp w w' B RVv:=ZbW fun g _ h=>hb.block g (by omega)
theorem ZbT {g k:Nat} {cur:Array Value} {t:TypeId} {v:Value} (h:w.heap[g]?=some (.cells cur t (0,0))):∃ cur',(w.setCell ⟨g,k,none⟩ v).heap[g]?=some (.cells cur' t (0,0))∧cur'.size=cur.size∧(k<cur.size→cur'[k]?=some v)∧∀ j,j≠k→cur'[j]?=cur[j]?:=by
 obtain⟨l⟩:=cur;refine⟨(l.set k v).toArray,Zae h,by simp,fun hk=>?_,fun j hj=>?_⟩
 · have hk':k<l.length:=(by simpa using hk);simp [hk']
 · simp [List.getElem?_set_ne (Ne.symm hj)]
theorem ZfV {g k:Nat} {cur:Array Value} {v:Value} (hg:w.heap[g]?=some (.cells cur 42 (0,0))) (hv:RowH w B lo' N' v) (hlo:lo'≤lo) (hN:N≤N'):Stp w (w.setCell ⟨g,k,none⟩ v) B (RRr w (w.setCell ⟨g,k,none⟩ v) B lo N lo' N'):=by
 have hV:∀ {lo N u},RowH w B lo N u→RowH (w.setCell ⟨g,k,none⟩ v) B lo N u:=fun {lo N u} h=>by
  obtain⟨n,h1,h2,cur2,h3,h4⟩:=h;rcases h3 with h3 | ⟨g2,cap,h5,h6,h7,h8⟩
  · exact⟨n,h1,h2,cur2,.inl h3,h4⟩
  · refine⟨n,h1,h2,cur2,.inr ⟨g2,cap,h5,h6,(Below.heap_setCell w ⟨g,k,none⟩ v g2 (fun e=>?_)).trans h7,h8⟩,h4⟩;subst e;rw [hg] at h7;injection h7 with h7;injection h7 with _ h9;exact absurd h9 (by decide)
 intro g2 cur2 e hg2 hh
 by_cases he:g2=g
 · subst he;rw [hg] at hh;injection hh with hh;injection hh with h1 h2;subst h1 h2;obtain⟨cur',h3,h4,h5,h6⟩:=ZbT (k:=k) (v:=v) hg;refine⟨cur',h3,h4,fun _ j hj=>?_,fun h=>absurd rfl h⟩;obtain⟨x,h7,h8⟩:=hj
   by_cases hjk:j=k
   · subst hjk;exact⟨v,h5 (by have:=(Array.getElem?_eq_some_iff.1 h7).1;exact this),hV hv⟩
   · exact⟨x,(h6 j hjk).trans h7,(hV h8).mono nR hlo hN⟩
 · refine⟨cur2,(Below.heap_setCell w ⟨g,k,none⟩ v g2 he).trans hh,rfl,fun _ j hj=>?_,fun _=>rfl⟩;obtain⟨x,h7,h8⟩:=hj;exact⟨x,h7,(hV h8).mono nR hlo hN⟩
theorem ZgP {g k:Nat} {cur:Array Value} {v:Value} (hg:w.heap[g]?=some (.cells cur 73 (0,0))) (hv:ListH w B lo' N' v) (hlo:lo'≤lo) (hN:N≤N'):Stp w (w.setCell ⟨g,k,none⟩ v) B (RLl w (w.setCell ⟨g,k,none⟩ v) B lo N lo' N'):=by
 have hS : ∀ (g2 : Nat) (cur2 : Array Value) (e2 : TypeId), e2 ≠ 73 → w.heap[g2]? = some (.cells cur2 e2 (0, 0)) → (w.setCell ⟨g, k, none⟩ v).heap[g2]? = some (.cells cur2 e2 (0, 0)) := fun g2 cur2 e2 hne h7 => (Below.heap_setCell w ⟨g, k, none⟩ v g2 (fun e => by
     subst e;rw [hg] at h7;injection h7 with h7;injection h7 with _ h9;exact hne h9.symm)).trans h7
 have hV:∀ {lo N u},RowH w B lo N u→RowH (w.setCell ⟨g,k,none⟩ v) B lo N u:=fun {lo N u} h=>by
  obtain⟨n,h1,h2,cur2,h3,h4⟩:=h;rcases h3 with h3 | ⟨g2,cap,h5,h6,h7,h8⟩
  · exact⟨n,h1,h2,cur2,.inl h3,h4⟩
  · exact⟨n,h1,h2,cur2,.inr ⟨g2,cap,h5,h6,hS _ _ _ (by decide) h7,h8⟩,h4⟩
 have hW:∀ {lo N u},ListH w B lo N u→ListH (w.setCell ⟨g,k,none⟩ v) B lo N u:=fun {lo N u} h=>by
  obtain⟨n,h1,cur2,h3,h4⟩:=h
  have h4':∀ j,j<n→RowAt (w.setCell ⟨g,k,none⟩ v) B lo N cur2 j:=fun j hj=>by
   obtain⟨x,h5,h6⟩:=h4 j hj;exact⟨x,h5,hV h6⟩
  rcases h3 with h3 | ⟨g2,cap,h5,h6,h7,h8⟩
  · exact⟨n,h1,cur2,.inl h3,h4'⟩
  · exact⟨n,h1,cur2,.inr ⟨g2,cap,h5,h6,hS _ _ _ (by decide) h7,h8⟩,h4'⟩
 intro g2 cur2 e hg2 hh
 by_cases he:g2=g
 · subst he;rw [hg] at hh;injection hh with hh;injection hh with h1 h2;subst h1 h2;obtain⟨cur',h3,h4,h5,h6⟩:=ZbT (k:=k) (v:=v) hg;refine⟨cur',h3,h4,fun _ j hj=>?_,fun h=>absurd rfl h⟩;obtain⟨x,h7,h8⟩:=hj
   by_cases hjk:j=k
   · subst hjk;exact⟨v,h5 (by have:=(Array.getElem?_eq_some_iff.1 h7).1;exact this),hW hv⟩
   · exact⟨x,(h6 j hjk).trans h7,(hW h8).mono nR hlo hN⟩
 · refine⟨cur2,(Below.heap_setCell w ⟨g,k,none⟩ v g2 he).trans hh,rfl,fun _ j hj=>?_,fun _=>rfl⟩;obtain⟨x,h7,h8⟩:=hj;exact⟨x,h7,(hW h8).mono nR hlo hN⟩
theorem stp_val {g k:Nat} {cur:Array Value} {a b:Int} {t:ByteArray} (hg:w.heap[g]?=some (.cells cur 89 (0,0))) (hk:k*3+3≤cur.size) (ht:t.size≤9223372036854775807):Stp w (((w.setCell ⟨g,k*3,none⟩ (.int .i64 a)).setCell ⟨g,k*3+1,none⟩ (.int .i64 b)).setCell ⟨g,k*3+2,none⟩ (.string t)) B RVv:=by
 intro g2 cur2 e hg2 hh
 by_cases he:g2=g
 · subst he;rw [hg] at hh;injection hh with hh;injection hh with h1 h2;subst h1 h2;obtain⟨c1,h3,h4,h5,h6⟩:=ZbT (k:=k*3) (v:=.int .i64 a) hg;obtain⟨c2,i3,i4,i5,i6⟩:=ZbT (k:=k*3+1) (v:=.int .i64 b) h3;obtain⟨c3,j3,j4,j5,j6⟩:=ZbT (k:=k*3+2) (v:=.string t) i3;refine⟨c3,j3,by omega,fun _ j hj=>?_,fun h=>absurd rfl h⟩;obtain⟨x,y,s,h7,h8,h9,h10⟩:=hj
   by_cases hjk:j=k
   · subst hjk;exact⟨a,b,t,by rw [j6 _ (by omega),i6 _ (by omega)];exact h5 (by omega),by rw [j6 _ (by omega)];exact i5 (by omega),j5 (by omega),ht⟩
   · exact⟨x,y,s,by rw [j6 _ (by omega),i6 _ (by omega),h6 _ (by omega)];exact h7,by rw [j6 _ (by omega),i6 _ (by omega),h6 _ (by omega)];exact h8,by rw [j6 _ (by omega),i6 _ (by omega),h6 _ (by omega)];exact h9,h10⟩
 · exact⟨cur2,(Below.heap_setCell _ ⟨g,k*3+2,none⟩ _ g2 he).trans ((Below.heap_setCell _ ⟨g,k*3+1,none⟩ _ g2 he).trans ((Below.heap_setCell w ⟨g,k*3,none⟩ _ g2 he).trans hh)),rfl,fun _ _ h=>h,fun _=>rfl⟩
theorem grew_row {cur cur':Array Value} {a b:Int} {t:ByteArray} {g cap:Nat} (hG:Grew w w' B 89 3 n 1 v cur [.int .i64 a,.int .i64 b,.string t] g cap cur') (hE:∀ j,j<n→Trip cur j) (ht:t.size≤9223372036854775807) (hlo:lo≤n+1) (hN:n+1≤N):Stp w w' B RVv∧RowH w' B lo N (.slice (some ⟨g,0,none⟩) (n+1) cap):=by
 obtain⟨h1,h2,h3,h4⟩:=hG
 have hnew:∀ j,j<n+1→Trip cur' j:=fun j hj=>by
  by_cases hjn:j<n
  · obtain⟨x,y,s,h7,h8,h9,h10⟩:=hE j hjn;exact⟨x,y,s,(h2 _ (by omega)).trans h7,(h2 _ (by omega)).trans h8,(h2 _ (by omega)).trans h9,h10⟩
  · have:j=n:=(by omega);subst this;exact⟨a,b,t,h3 0 _ rfl,h3 1 _ rfl,h3 2 _ rfl,ht⟩
 refine⟨?_,n+1,by omega,hN,cur',h1,hnew⟩;rcases h4 with ⟨h4,h5,h6,h7,h8,h9⟩ | ⟨h4,h5⟩
 · intro g2 cur2 e hg2 hh
   by_cases he:g2=g
   · subst he;rw [h5] at hh;injection hh with hh;injection hh with e1 e2;subst e1 e2;refine⟨cur',h6,h7,fun _ j hj=>?_,fun h=>absurd rfl h⟩
     by_cases hjn:j<n+1
     · exact hnew j hjn
     · obtain⟨x,y,s,i7,i8,i9,i10⟩:=hj;have hl:n*3+[Value.int .i64 a,.int .i64 b,.string t].length=n*3+3:=rfl;rw [hl] at h8;exact⟨x,y,s,(h8 _ (by omega)).trans i7,(h8 _ (by omega)).trans i8,(h8 _ (by omega)).trans i9,i10⟩
   · exact⟨cur2,(h9.block g2 (Zac hh) (fun e=>he (by injection e))).trans hh,rfl,fun _ _ h=>h,fun _=>rfl⟩
 · exact ZbY h5 nR
theorem grew_list {cur cur':Array Value} {x:Value} {g cap:Nat} (hG:Grew w w' B 42 1 n 1 v cur [x] g cap cur') (hE:∀ j,j<n→RowAt w B lo N cur j) (hx:RowH w B lo' N' x) (hlo:lo'≤lo) (hN:N≤N') (hn:n+1≤N'):Stp w w' B (RRr w w' B lo N lo' N')∧RowsH w' B lo' N' (n+1) (.slice (some ⟨g,0,none⟩) (n+1) cap):=by
 obtain⟨h1,h2,h3,h4⟩:=hG
 have hV:∀ {lo N u},RowH w B lo N u→RowH w' B lo N u:=fun {lo N u} h=>by
  obtain⟨m,i1,i2,cur2,i3,i4⟩:=h;rcases i3 with i3 | ⟨g2,cap,i5,i6,i7,i8⟩
  · exact⟨m,i1,i2,cur2,.inl i3,i4⟩
  · refine⟨m,i1,i2,cur2,.inr ⟨g2,cap,i5,i6,?_,i8⟩,i4⟩;rcases h4 with ⟨h4,h5,h6,h7,h8,h9⟩ | ⟨h4,h5⟩
    · refine(h9.block g2 (Zac i7) (fun e=>?_)).trans i7;injection e with e;subst e;rw [h5] at i7;injection i7 with i7;injection i7 with _ h9;exact absurd h9 (by decide)
    · exact(h5.block g2 (Zac i7)).trans i7
 have hnew:∀ j,j<n+1→RowAt w' B lo' N' cur' j:=fun j hj=>by
  by_cases hjn:j<n
  · obtain⟨y,i1,i2⟩:=hE j hjn;exact⟨y,(h2 _ (by omega)).trans i1,(hV i2).mono nR hlo hN⟩
  · have:j=n:=(by omega);subst this;exact⟨x,by have:=h3 0 _ rfl;simpa using this,hV hx⟩
 refine⟨?_,cur',h1,hnew⟩;intro g2 cur2 e hg2 hh
 have hold:∀ j,RowAt w B lo N cur2 j→RowAt w' B lo' N' cur2 j:=fun j hj=>by
  obtain⟨y,i1,i2⟩:=hj;exact⟨y,i1,(hV i2).mono nR hlo hN⟩
 rcases h4 with ⟨h4,h5,h6,h7,h8,h9⟩ | ⟨h4,h5⟩
 · by_cases he:g2=g
   · subst he;rw [h5] at hh;injection hh with hh;injection hh with e1 e2;subst e1 e2;refine⟨cur',h6,h7,fun _ j hj=>?_,fun h=>absurd rfl h⟩
     by_cases hjn:j<n+1
     · exact hnew j hjn
     · obtain⟨y,i1,i2⟩:=hold j hj;exact⟨y,(h8 _ (by simp;omega)).trans i1,i2⟩
   · exact⟨cur2,(h9.block g2 (Zac hh) (fun e=>he (by injection e))).trans hh,rfl,fun _=>hold,fun _=>rfl⟩
 · exact⟨cur2,(h5.block g2 (Zac hh)).trans hh,rfl,fun _=>hold,fun _=>rfl⟩
theorem grew_state {cur cur':Array Value} {x:Value} {g cap:Nat} (hG:Grew w w' B 73 1 n 1 v cur [x] g cap cur') (hE:∀ j,j<n→ListAt w B lo N cur j) (hx:ListH w B lo N x):StH w' B lo N (n+1) (.slice (some ⟨g,0,none⟩) (n+1) cap):=by
 obtain⟨h1,h2,h3,h4⟩:=hG
 have hB:∀ (g2:Nat) (cur2:Array Value) (e2:TypeId),e2≠73→w.heap[g2]?=some (.cells cur2 e2 (0,0))→w'.heap[g2]?=some (.cells cur2 e2 (0,0)):=fun g2 cur2 e2 hne i7=>by
  rcases h4 with ⟨h4,h5,h6,h7,h8,h9⟩ | ⟨h4,h5⟩
  · refine(h9.block g2 (Zac i7) (fun e=>?_)).trans i7;injection e with e;subst e;rw [h5] at i7;injection i7 with i7;injection i7 with _ h9;exact hne h9.symm
  · exact(h5.block g2 (Zac i7)).trans i7
 have hV:∀ {lo N u},RowH w B lo N u→RowH w' B lo N u:=fun {lo N u} h=>by
  obtain⟨m,i1,i2,cur2,i3,i4⟩:=h;rcases i3 with i3 | ⟨g2,cap,i5,i6,i7,i8⟩
  · exact⟨m,i1,i2,cur2,.inl i3,i4⟩
  · exact⟨m,i1,i2,cur2,.inr ⟨g2,cap,i5,i6,hB _ _ _ (by decide) i7,i8⟩,i4⟩
 have hW:∀ {u},ListH w B lo N u→ListH w' B lo N u:=fun {u} h=>by
  obtain⟨m,i1,cur2,i3,i4⟩:=h
  have i4':∀ j,j<m→RowAt w' B lo N cur2 j:=fun j hj=>by
   obtain⟨x,i5,i6⟩:=i4 j hj;exact⟨x,i5,hV i6⟩
  rcases i3 with i3 | ⟨g2,cap,i5,i6,i7,i8⟩
  · exact⟨m,i1,cur2,.inl i3,i4'⟩
  · exact⟨m,i1,cur2,.inr ⟨g2,cap,i5,i6,hB _ _ _ (by decide) i7,i8⟩,i4'⟩
 refine⟨cur',h1,fun j hj=>?_⟩
 by_cases hjn:j<n
 · obtain⟨y,i1,i2⟩:=hE j hjn;exact⟨y,(h2 _ (by omega)).trans i1,hW i2⟩
 · have:j=n:=(by omega);subst this;exact⟨x,by have:=h3 0 _ rfl;simpa using this,hW hx⟩
theorem LsH.form (h:LsH w B e size n E v):∃ A c,v=.slice A n c∧n≤c∧(0<n→∃ g cur,A=some ⟨g,0,none⟩∧B≤g∧w.heap[g]?=some (.cells cur e (0,0))∧cur.size=c*size∧c≤maxLen∧∀ j,j<n→E cur j):=by
 obtain⟨cur,h1,h2⟩:=h;rcases h1 with ⟨rfl,rfl,_⟩ | ⟨g,cap,rfl,h4,h5,h6,h7,h8⟩
 · exact⟨none,0,rfl,Nat.le_refl _,fun h=>by omega⟩
 · exact⟨_,cap,rfl,h6,fun _=>⟨g,cur,rfl,h4,h5,h8,h7,h2⟩⟩
theorem LsH.reads {α:Type} [Inhabited α] {ed:α→Dat} {by_:Nat} {P:α→Prop} {S:Nat→Prop} (hsz:∀ a,(ed a).size=size) (hby:∀ a,(ed a).bytes=by_) (hn:n*by_≤140737488355328) (hS:∀ b,B≤b→b<w.heap.size→S b) (h:LsH w B e size n E v)
  (hE:∀ g cur j,j<n→w.heap[g]?=some (.cells cur e (0,0))→E cur j→∃ a,P a∧Dat.Held w S (ed a) g (j*size)):∃ (l:List α) (A:Option Addr) (c:Nat),v=.slice A l.length c∧l.length=n∧n≤c∧(∀ a ∈ l,P a)∧Sl w S A (l.map ed):=by
 obtain⟨A,c,rfl,hc,h1⟩:=h.form;rcases Nat.eq_zero_or_pos n with h0 | h0
 · subst h0;exact⟨[],A,c,rfl,rfl,hc,fun a ha=>by simp at ha,Sl.nil_⟩
 · obtain⟨g,cur,rfl,h2,h3,_,_,h4⟩:=h1 h0;obtain⟨f,hf⟩:=choose_lt (fun j hj=>hE g cur j hj h3 (h4 j hj));have hl:((List.range n).map f).length=n:=(by simp);refine⟨(List.range n).map f,_,c,by rw [hl],hl,hc,fun a ha=>?_,by rw [Zaf hby,hl];exact hn,fun _=>⟨g,0,rfl,hS g h2 (Zac h3),Zcl (n:=size) (fun d hd=>by obtain⟨v,_,rfl⟩:=List.mem_map.1 hd;exact hsz v) (fun k hk=>?_)⟩⟩
   · obtain⟨j,hj,rfl⟩:=List.mem_map.1 ha;exact(hf j (List.mem_range.1 hj)).1
   · have hk':k<n:=(by simpa using hk);have e:((((List.range n).map f)).map ed)[k]=ed (f k):=(by simp);rw [e,Nat.zero_add];exact(hf k hk').2
theorem Zav {g j:Nat} {cur:Array Value} (h:w.heap[g]?=some (.cells cur e (0,0))) {x:Value} (hx:cur[j]?=some x):w.cell? ⟨g,j,none⟩=some x:=by
 rw [cell_of_row w g j cur e (0,0) h];exact hx
theorem RowH.reads (h:RowH w B lo N u) (hN:N≤1000000):∃ (r:Row) (A:Option Addr) (c:Nat),u=.slice A r.length c∧r.length≤c∧(lo≤r.length∧r.length≤N)∧RowS w (fun b=>B≤b∧b<w.heap.size) A r:=by
 obtain⟨n,h1,h2,h3⟩:=h;haveI:Inhabited V:=⟨v0⟩
 obtain⟨l,A,c,rfl,h4,h5,_,h6⟩:=h3.reads (α:=V) (ed:=encV) (by_:=32) (P:=fun _=>True) (S:=fun b=>B≤b∧b<w.heap.size) ZdS (fun _=>rfl) (by omega) (fun b h1 h2=>⟨h1,h2⟩) (fun g cur j hj hh ht=>by
  obtain⟨a,b,t,i1,i2,i3,i4⟩:=ht;exact⟨⟨a,b,t⟩,trivial,held_encV.2 ⟨Zav hh i1,Zav hh i2,Zav hh i3,i4⟩⟩)
 subst h4;exact⟨l,A,c,rfl,h5,⟨h1,h2⟩,h6⟩
theorem ListH.reads (h:ListH w B lo N u) (hN:N≤1000000):∃ (l:List Row) (A:Option Addr) (c:Nat),u=.slice A l.length c∧l.length≤c∧(l.length≤N∧∀ r ∈ l,lo≤r.length∧r.length≤N)∧RowsS w (fun b=>B≤b∧b<w.heap.size) A l:=by
 obtain⟨n,h2,h3⟩:=h
 obtain⟨l,A,c,rfl,h4,h5,h7,h6⟩:=LsH.reads (α:=Row) (ed:=ZaT) (by_:=24) (P:=fun r=>lo≤r.length∧r.length≤N) (S:=fun b=>B≤b∧b<w.heap.size) (fun _=>rfl) (fun _=>rfl) (by omega) (fun b h1 h2=>⟨h1,h2⟩) h3 (fun g cur j hj hh ht=>by
  obtain⟨x,i1,i2⟩:=ht;obtain⟨r,A,c,rfl,i3,i4,i5⟩:=i2.reads hN;refine⟨r,i4,held_of_cells _ _ g _ (ZbA i3 i5) (fun k u hu=>?_)⟩;cases k with
  | zero=>simp only [List.getElem?_cons_zero,Option.some.injEq] at hu;subst hu;rw [Nat.mul_one];exact Zav hh i1
  | succ k=>simp at hu)
 subst h4;exact⟨l,A,c,rfl,h5,⟨h2,h7⟩,h6⟩
theorem StH.reads (h:StH w B lo N n u) (hN:N≤1000000) (hn:n≤1000000):∃ (st:St) (A:Option Addr) (c:Nat),u=.slice A st.length c∧st.length≤c∧st.length=n∧(∀ l ∈ st,l.length≤N∧∀ r ∈ l,lo≤r.length∧r.length≤N)∧StS w (fun b=>B≤b∧b<w.heap.size) A st:=by
 obtain⟨l,A,c,rfl,h4,h5,h7,h6⟩:=LsH.reads (α:=List Row) (ed:=Zbe) (by_:=24) (P:=fun l=>l.length≤N∧∀ r ∈ l,lo≤r.length∧r.length≤N) (S:=fun b=>B≤b∧b<w.heap.size) (fun _=>rfl) (fun _=>rfl) (by omega) (fun b h1 h2=>⟨h1,h2⟩) h (fun g cur j hj hh ht=>by
  obtain⟨x,i1,i2⟩:=ht;obtain⟨r,A,c,rfl,i3,i4,i5⟩:=i2.reads hN;refine⟨r,i4,held_of_cells _ _ g _ (Zgg i3 i5) (fun k u hu=>?_)⟩;cases k with
  | zero=>simp only [List.getElem?_cons_zero,Option.some.injEq] at hu;subst hu;rw [Nat.mul_one];exact Zav hh i1
  | succ k=>simp at hu)
 exact⟨l,A,c,rfl,by omega,h4,h7,h6⟩
theorem ZfC:∀ {r:Row} {j:Nat} (hj:j<r.length),(Zao r)[j*3]?=some (.int .i64 r[j].k)∧(Zao r)[j*3+1]?=some (.int .i64 r[j].i)∧(Zao r)[j*3+2]?=some (.string r[j].t)
 | [],j,h=>by simp at h
 | v :: r,0,_=>⟨rfl,rfl,rfl⟩
 | v :: r,j+1,h=>by
  have:=ZfC (r:=r) (j:=j) (by simpa using h);rw [Nat.succ_mul];exact this
theorem RowH.of_owns {r:Row} {A:Option Addr} {c:Nat} (h:w.ownsRow B 89 3 (.slice A r.length c) r.length (Zao r)) (hr:RowOk r) (hlo:lo≤r.length) (hN:r.length≤N):RowH w B lo N (.slice A r.length c):=by
 refine⟨r.length,hlo,hN,?_⟩;rcases h.2 with ⟨e,h0⟩ | ⟨g,cap,cur,e,h4,h5,h6,h7,h8,h9⟩
 · exact⟨#[],.inl ⟨e,h0,rfl⟩,fun j hj=>by omega⟩
 · refine⟨cur,.inr ⟨g,cap,e,h4,h5,h6,h7,h8⟩,fun j hj=>?_⟩
   have hc:∀ k x,(Zao r)[k]?=some x→cur[k]?=some x:=fun k x hx=>by
    have hk:=(List.getElem?_eq_some_iff.1 hx).1;rw [ZcO] at hk;rw [←h9,List.getElem?_take_of_lt hk,Array.getElem?_toList] at hx;exact hx
   have hv:=ZfC hj;exact⟨_,_,_,hc _ _ hv.1,hc _ _ hv.2.1,hc _ _ hv.2.2,hr.2 _ (List.getElem_mem hj)⟩
end
section
variable {w w':World} {B lo N lo' N' n:Nat}
theorem Grew.below {e:TypeId} {size m g cap:Nat} {v:Value} {cur cur':Array Value} {news:List Value} (hG:Grew w w' B e size n m v cur news g cap cur') (hB:B≤w.heap.size):Below B w w':=by
 obtain⟨h1,_,_,h4⟩:=hG;rcases h4 with ⟨_,_,_,_,_,h9⟩ | ⟨_,h5⟩
 · have hg:B≤g:=by
     rcases h1 with ⟨e,_,_⟩ | ⟨g',cap',e,hb,_⟩
     · injection e with e;cases e
     · injection e with e;injection e with e;injection e with e;omega
   exact⟨h9.os,h9.tape,h9.output,h9.size,fun b hb=>h9.block b (by omega) (fun e=>by injection e with e;omega)⟩
 · exact h5.mono hB
theorem Zcq (o:Obj):Stp w (w.alloc o) B RVv:=ZbY ((Below.refl _ w).alloc nR o) nR
theorem RowH.slice {u:Value} (h:RowH w B lo N u):∃ A k c,u=.slice A k c∧k≤c∧lo≤k∧k≤N:=by
 obtain⟨k,h1,h2,h3⟩:=h;obtain⟨A,c,h4,h5,_⟩:=h3.form;exact⟨A,k,c,h4,h5,h1,h2⟩
theorem RowH.one {u:Value} (h:RowH w B lo N u):u.oneCell'=true:=by
 obtain⟨A,k,c,rfl,_⟩:=h.slice;rfl
theorem ListH.one {u:Value} (h:ListH w B lo N u):u.oneCell'=true:=by
 obtain⟨k,h1,h3⟩:=h;obtain⟨A,c,rfl,_⟩:=LsH.form h3;rfl
theorem RowH.nil_ (N:Nat):RowH w B 0 N (.slice none 0 0):=⟨0,Nat.le_refl _,Nat.zero_le _,#[],.inl ⟨rfl,rfl,rfl⟩,fun j hj=>by omega⟩
theorem RowsH.nil_:RowsH w B lo N 0 (.slice none 0 0):=⟨#[],.inl ⟨rfl,rfl,rfl⟩,fun j hj=>by omega⟩
theorem StH.nil_:StH w B lo N 0 (.slice none 0 0):=⟨#[],.inl ⟨rfl,rfl,rfl⟩,fun j hj=>by omega⟩
end
theorem ZdC {o:Oper} {a:Act} {K:Act→World→Prop} {Q:Exit→Act→World→Prop} (s x:Operand) (t:TypeId)
  (ho:o.op=.call { callee:=.builtin .append,args:=#[s,x],argTypes:=#[t,t] }) (ht:Tryz.prog.underlying t=some (.slice 42))
  (w0:World) (B lo N lo' N':Nat) (hlo:lo'≤lo) (hN:N≤N') (A:Option Addr) (n c:Nat) (hR:RowsH w0 B lo N n (.slice A n c)) (hn:n+1≤N') (hN6:N'≤1000000) (x0:Value) (hx0:RowH w0 B lo' N' x0) (hB:B≤w0.heap.size)
  (hs:a.eval s=.slice A n c) (c':Nat) (hx:a.eval x=.slice (some ⟨w0.heap.size,0,none⟩) 1 c')
  (h:∀ g cap w',(∀ k u,StH w0 B lo N k u→StH w' B lo' N' k u)→RowsH w' B lo' N' (n+1) (.slice (some ⟨g,0,none⟩) (n+1) cap)→Below B w0 w'→(∀ (b:Nat) (T:TypeId) (cur:Array Value),T≠42→w0.heap[b]?=some (.cells cur T (0,0))→w'.heap[b]?=some (.cells cur T (0,0)))→w0.heap.size<w'.heap.size→K (a.put o.dst (.slice (some ⟨g,0,none⟩) (n+1) cap)) w') :
  o.wp Tryz.prog a (w0.alloc (.cells #[x0] 42)) K Q:=by
 obtain⟨i0,hi,hz0,hz1,hz2⟩:=info_parts ZfY;have hR':=RowsH.vstp hR (Zcq (w:=w0) (.cells #[x0] 42));obtain⟨cur,h1,h2⟩:=hR';refine Zcn _ s x t ho B 42 i0 _ 1 24 ht hi hz0 hz1 hz2 rfl (by decide) (.slice A n c) n cur hs h1 ⟨w0.heap.size,0,none⟩ 1 c' [x0] hx rfl (World.news_of_block (cs:=#[x0]) (heap_alloc_new w0 _)) (by simp only [List.mem_singleton];rintro u rfl;exact hx0.one) (by omega) (by unfold maxLen;omega) (by omega) (by simp;omega) (fun g cap w' cur' hG=>?_);obtain⟨g1,g2⟩:=grew_list (lo:=lo) (N:=N) (lo':=lo') (N':=N') hG h2 (hx0.vstp (Zcq _)) hlo hN hn;have hbl:=hG.below (by simp;omega);have hba:Below w0.heap.size w0 (w0.alloc (.cells #[x0] 42)):=(Below.refl _ _).alloc nR _;refine h g cap w' (fun k u hst=>(hst.vstp (Zcq _)).rstp g1 hN) g2 ((hba.mono hB).trans hbl) (fun b T cr hT hb=>?_) (by have:=hbl.size;simp at this;omega);have hb1:=(Below.heap_alloc w0 (.cells #[x0] 42) b (Zac hb)).trans hb;obtain⟨_,_,_,h4⟩:=hG;rcases h4 with ⟨_,h5,_,_,_,h9⟩ | ⟨_,h5⟩
 · refine(h9.block b (Zac hb1) (fun e=>?_)).trans hb1;injection e with e;subst e;rw [h5] at hb1;injection hb1 with hb1;injection hb1 with _ e2;exact hT e2.symm
 · exact(h5.block b (Zac hb1)).trans hb1
theorem wpList_append_row {ops:Array Oper} {rest:List Oper} {o:Oper} {a:Act} {Q:Exit→Act→World→Prop} (hgd:o.guard=none) (s x:Operand) (t:TypeId)
  (ho:o.op=.call { callee:=.builtin .append,args:=#[s,x],argTypes:=#[t,t] }) (ht:Tryz.prog.underlying t=some (.slice 42))
  (w0:World) (B lo N lo' N':Nat) (hlo:lo'≤lo) (hN:N≤N') (A:Option Addr) (n c:Nat) (hR:RowsH w0 B lo N n (.slice A n c)) (hn:n+1≤N') (hN6:N'≤1000000) (x0:Value) (hx0:RowH w0 B lo' N' x0) (hB:B≤w0.heap.size)
  (hs:a.eval s=.slice A n c) (c':Nat) (hx:a.eval x=.slice (some ⟨w0.heap.size,0,none⟩) 1 c')
  (h:∀ g cap w',RowsH w' B lo' N' (n+1) (.slice (some ⟨g,0,none⟩) (n+1) cap)→Below B w0 w'→w0.heap.size<w'.heap.size→wpList Tryz.prog ops Q rest (a.put o.dst (.slice (some ⟨g,0,none⟩) (n+1) cap)) w') :
  wpList Tryz.prog ops Q (o :: rest) a (w0.alloc (.cells #[x0] 42)) :=
 wpList_plain hgd fun _ hK=>ZdC s x t ho ht w0 B lo N lo' N' hlo hN A n c hR hn hN6 x0 hx0 hB hs c' hx fun g cap w' _ h2 h3 _ h5=>hK _ _ (h g cap w' h2 h3 h5)
theorem ZbN {ops:Array Oper} {rest:List Oper} {o:Oper} {a:Act} {Q:Exit→Act→World→Prop} (hgd:o.guard=none) (s x:Operand) (t:TypeId)
  (ho:o.op=.call { callee:=.builtin .append,args:=#[s,x],argTypes:=#[t,t] }) (ht:Tryz.prog.underlying t=some (.slice 73))
  (w0:World) (B lo N:Nat) (A:Option Addr) (n c:Nat) (hR:StH w0 B lo N n (.slice A n c)) (hn:n+1≤1000000) (x0:Value) (hx0:ListH w0 B lo N x0) (hB:B≤w0.heap.size)
  (hs:a.eval s=.slice A n c) (c':Nat) (hx:a.eval x=.slice (some ⟨w0.heap.size,0,none⟩) 1 c')
  (h:∀ g cap w',StH w' B lo N (n+1) (.slice (some ⟨g,0,none⟩) (n+1) cap)→Below B w0 w'→w0.heap.size<w'.heap.size→wpList Tryz.prog ops Q rest (a.put o.dst (.slice (some ⟨g,0,none⟩) (n+1) cap)) w') :
  wpList Tryz.prog ops Q (o :: rest) a (w0.alloc (.cells #[x0] 73)):=by
 obtain⟨i0,hi,hz0,hz1,hz2⟩:=info_parts infoRs;have hR':=StH.vstp hR (Zcq (w:=w0) (.cells #[x0] 73));obtain⟨cur,h1,h2⟩:=hR';refine wpList_append_whole _ hgd s x t ho B 73 i0 _ 1 24 ht hi hz0 hz1 hz2 rfl (by decide) (.slice A n c) n cur hs h1 ⟨w0.heap.size,0,none⟩ 1 c' [x0] hx rfl (World.news_of_block (cs:=#[x0]) (heap_alloc_new w0 _)) (by simp only [List.mem_singleton];rintro u rfl;exact hx0.one) (by omega) (by unfold maxLen;omega) (by omega) (by simp;omega) (fun g cap w' cur' hG=>?_);have hbl:=hG.below (by simp;omega);have hba:Below w0.heap.size w0 (w0.alloc (.cells #[x0] 73)):=(Below.refl _ _).alloc nR _;exact h g cap w' (grew_state hG h2 (hx0.vstp (Zcq _))) ((hba.mono hB).trans hbl) (by have:=hbl.size;simp at this;omega)
def CopTPost (n lo N:Nat) (w:World) (e:Ending) (w':World):Prop:=∃ A c,e=.returned (ZbE A n c)∧n≤c∧StH w' w.heap.size lo N n (.slice A n c)∧Below w.heap.size w w'
structure CopJ (w wr:World) (n lo N:Nat) (A:Option Addr) (ca k:Nat) (A1:Option Addr) (c1:Nat):Prop where
 mkl:StH wr (w.heap.size+3) lo N k (.slice A1 k c1)
 hi:w.heap.size+3≤wr.heap.size
 bel:Below w.heap.size w wr
 a0:wr.cell? ⟨w.heap.size,0,none⟩=some (.slice A n ca)
 r0:wr.cell? ⟨w.heap.size+1,0,none⟩=some (.slice none 0 0)
 rf:wr.frozen? ⟨w.heap.size+1,0,none⟩=false
 o0:wr.cell? ⟨w.heap.size+2,0,none⟩=some (.slice A1 k c1)
 fz:wr.frozen? ⟨w.heap.size+2,0,none⟩=false
theorem CopJ.below {w wr wx:World} {n lo N:Nat} {A A1:Option Addr} {ca k c1:Nat} (h:CopJ w wr n lo N A ca k A1 c1) (hb:Below wr.heap.size wr wx):CopJ w wx n lo N A ca k A1 c1:=by
 have hz:=h.hi;exact⟨h.mkl.vstp (ZbY hb nR),Nat.le_trans hz hb.size,h.bel.trans (hb.mono (by omega)),cJ hb h.a0,cJ hb h.r0,(hb.frozen (p:=⟨w.heap.size+1,0,none⟩) (by show w.heap.size+1<_;omega)).trans h.rf,cJ hb h.o0,(hb.frozen (p:=⟨w.heap.size+2,0,none⟩) (by show w.heap.size+2<_;omega)).trans h.fz⟩
theorem CopJ.next {w wr wx:World} {n lo N:Nat} {A A1 A2:Option Addr} {ca k c1 c2:Nat} (h:CopJ w wr n lo N A ca k A1 c1) (hb:Below (w.heap.size+3) wr wx) (hm:StH wx (w.heap.size+3) lo N (k+1) (.slice A2 (k+1) c2)):CopJ w (wx.setCell ⟨w.heap.size+2,0,none⟩ (.slice A2 (k+1) c2)) n lo N A ca (k+1) A2 c2:=by
 have hz:=h.hi;have hne:∀ b,b≠w.heap.size+2→(wx.setCell ⟨w.heap.size+2,0,none⟩ (.slice A2 (k+1) c2)).heap[b]?=wx.heap[b]?:=fun b h=>Below.heap_setCell wx ⟨w.heap.size+2,0,none⟩ _ b h;have hc:∀ b o,b<w.heap.size+2→(wx.setCell ⟨w.heap.size+2,0,none⟩ (.slice A2 (k+1) c2)).cell? ⟨b,o,none⟩=wr.cell? ⟨b,o,none⟩:=fun b o hb'=>(World.cell?_of_block (hne b (by omega))).trans (hb.cell (p:=⟨b,o,none⟩) (by show b<_;omega));have ho:=cJ hb h.o0;have hfr:Fr (fun b=>b=w.heap.size+2) wx (wx.setCell ⟨w.heap.size+2,0,none⟩ (.slice A2 (k+1) c2)):=(Fr.refl _ wx).setCell _ (fun _=>rfl);refine⟨hm.vstp (ZbW fun g hg _=>hne g (by omega)),by have:=hb.size;simp;omega,(h.bel.trans (hb.mono (by omega))).trans (hfr.below (n:=w.heap.size) (by have:=hb.size;omega) (fun b hb' e=>by omega)),(hc _ _ (by omega)).trans h.a0,(hc _ _ (by omega)).trans h.r0,?_,World.cell?_setCell_same _ _ _ ho,?_⟩
 · exact(World.frozen?_of_block (hne (w.heap.size+1) (by omega))).trans ((hb.frozen (p:=⟨w.heap.size+1,0,none⟩) (by show w.heap.size+1<_;omega)).trans h.rf)
 · rw [World.frozen?_setCell];exact(hb.frozen (p:=⟨w.heap.size+2,0,none⟩) (by show w.heap.size+2<_;omega)).trans h.fz
theorem rcopyT_any (A:Option Addr) (ca:Nat) (st:St) (lo N:Nat) (S:Nat→Prop) (w:World) (hst:StS w S A st) (hS:∀ b,S b→b<w.heap.size) (hN:∀ l ∈ st,l.length≤N∧∀ r ∈ l,lo≤r.length∧r.length≤N) (hN6:N≤1000000) (hl6:st.length≤100000) :
  Calls Tryz.prog 46 #[ZbE A st.length ca] w (CopTPost st.length lo N w):=by
 have HN:=hI hN;have HST:=hI hst;clear hst hN;have HB0:=hI ((((Below.refl w.heap.size w).alloc nR (.cells #[.slice A st.length ca] 33)).alloc (by simp) (.cells #[.slice none 0 0] 33)).alloc (by simp;omega) (.cells #[.slice none 0 0] 33))
 have HI0:=hI (show CopJ w (((w.alloc (.cells #[.slice A st.length ca] 33)).alloc (.cells #[.slice none 0 0] 33)).alloc (.cells #[.slice none 0 0] 33)) st.length lo N A ca 0 none 0 from
  ⟨StH.nil_,by simp,HB0.out,(Zai (by simp;omega)).trans ((Zai (by simp)).trans (Zah rfl rfl)),(Zai (by simp)).trans (Zah (by simp) rfl),(Zbh (by simp)).trans (ZaS (by simp)),Zah (by simp) rfl,ZaS (by simp)⟩)
 go_enter Tryz.func46,Tryz.ntmps46
 go_wp2_with fail
 go_loopw [12] (fun i wr=>∃ (k:Nat) (A1:Option Addr) (c1:Nat),k≤st.length∧i=.int .i64 k∧CopJ w wr st.length lo N A ca k A1 c1) (fun i _=>st.length - (intOf i).toNat)
 case atStart=>exact⟨0,none,0,Nat.zero_le _,rfl,HI0.out⟩
 case round =>
  obtain⟨wo,rfl⟩:∃ wo:World,wo=wr:=⟨_,rfl⟩;obtain⟨k,A1,c1,hk,rfl,hci⟩:=hrel;have HCI:=hI hci;have hwz:=hci.hi;clear hci
  by_cases hlt:k<st.length
  · have hSw:∀ b,S b→b<wo.heap.size:=(fun b hb=>by have:=hS b hb;omega);obtain⟨b1,o1,rfl,hb1,A',c',d1,d2,d3⟩:=(HST.out.keep (Same.of_below HCI.out.bel hS)).at_ hlt;have hl1:b1<wo.heap.size:=hSw b1 hb1;have HR:=hI d3;have hrl:=d3.len
    have HNR:=hI (show (st.getD k []).length≤N∧∀ r ∈ st.getD k [],lo≤r.length∧r.length≤N from by
     have e:st.getD k []=st[k]:=(by simp [List.getD,hlt]);rw [e];exact HN.out _ (List.getElem_mem hlt))
    clear d2 d3;generalize st.getD k []=rows at d1 HR hrl HNR
    go_wp2_with fail
    go_loopw [6,18] (fun out i wi=>∃ (j:Nat) (A2:Option Addr) (c2:Nat),j≤rows.length∧i=.int .i64 j∧out=.slice A2 j c2∧RowsH wi wo.heap.size lo N j (.slice A2 j c2)∧Below wo.heap.size wo wi) (fun _ i _=>rows.length - (intOf i).toNat)
    case atStart=>exact⟨0,none,0,Nat.zero_le _,rfl,rfl,RowsH.nil_,Below.refl _ _⟩
    case round =>
     obtain⟨j,A2,c2,hj',rfl,rfl,hmk,hbi⟩:=hrel;have HMK:=hI hmk;have HBI:=hI hbi;have hzi:=hbi.size;clear hmk hbi d1
     by_cases hlj:j<rows.length
     · obtain⟨b3,o3,rfl,hb3,A3,c3,f1,f2,f3⟩:=(HR.out.keep (Same.of_below HBI.out hSw)).at_ hlj;have hl3:b3<wr.heap.size:=(by have:=hSw b3 hb3;omega);have HROW:=hI f3;have hrw:=f3.len
       have HNJ:=hI (show lo≤(rows.getD j []).length∧(rows.getD j []).length≤N from by
        have e:rows.getD j []=rows[j]:=(by simp [List.getD,hlj]);rw [e];exact HNR.out.2 _ (List.getElem_mem hlj))
       have hnl:=HNR.out.1;clear f2 f3;generalize rows.getD j []=row at f1 HROW hrw HNJ
       go_wp2_with fail
       refine(ZcF A3 c3 row S _ HROW.out).mono ?_;rintro e w4 ⟨A4,c4,rfl,h4,hb4⟩;have HBC:=hI hb4;have MKX:=hI (HMK.out.vstp (ZbY hb4 nR));have N4:=hI ((RowH.of_owns h4 HROW.out.ok HNJ.out.1 HNJ.out.2).mono hzi nR nR);have hz4:=hb4.size;clear h4 hb4
       go_wp2_with (at_builtin;refine wpList_append_row rfl (.tmp 22) (.tmp 25) 73 rfl Tryz.underlying73 _ wo.heap.size lo N lo N nR nR _ _ _ MKX.out (by omega) (by omega) _ N4.out (by omega) rfl 1 rfl ?_;intro g6 cap6 w6 hm6 hb6 hlt6;have MK6:=hI hm6;have HB6:=hI hb6;have hz6:=hb6.size;clear hm6 hb6)
       go_roundw
       case rel=>exact⟨j+1,_,_,by omega,by go_num,rfl,MK6.out,HBI.out.trans ((HBC.out.mono (by omega)).trans HB6.out)⟩
       case measure=>simp [intOf];omega
     · have hje:j=rows.length:=(by omega);subst hje;have Q3:=hI (show ListH wr (w.heap.size+3) lo N (.slice A2 rows.length c2) from ⟨_,HNR.out.1,HMK.out.mono hwz nR nR⟩);have HX:=hI (HCI.out.below HBI.out);have o0:=HX.out.o0;have fz:=HX.out.fz;have hw2:w.heap.size+2<wr.heap.size:=by omega
       go_wp2_with (at_builtin;refine ZbN rfl (.tmp 29) (.tmp 31) 31 rfl Tryz.underlying31 _ (w.heap.size+3) lo N _ _ _ HX.out.mkl (by omega) _ Q3.out (by omega) rfl 1 rfl ?_;intro g6 cap6 w6 hm6 hb6 hlt6;have MK6:=hI hm6;have HB6:=hI hb6;have hz6:=hb6.size;clear hm6 hb6;have o6:=cJ HB6.out o0;have fz6:=(HB6.out.frozen (p:=⟨w.heap.size+2,0,none⟩) (by show w.heap.size+2<_;omega)).trans fz;have hw6:w.heap.size+2<w6.heap.size:=by omega)
       go_roundw
       case rel=>exact⟨k+1,_,_,by omega,by go_num,HX.out.next HB6.out MK6.out⟩
       case measure=>simp [intOf];omega
  · have hke:k=st.length:=(by omega);subst hke;have o0:=HCI.out.o0;have r0:=HCI.out.r0;have rf:=HCI.out.rf;have hw2:w.heap.size+2<wo.heap.size:=(by omega);have hw1:w.heap.size+1<wo.heap.size:=by omega
    go_wp2_with fail
    have x0:(wo.setCell ⟨w.heap.size+1,0,none⟩ (.slice A1 st.length c1)).cell? ⟨w.heap.size+1,0,none⟩=some (.slice A1 st.length c1):=World.cell?_setCell_same _ _ _ r0;have hfr:Fr (fun b=>b=w.heap.size+1) wo (wo.setCell ⟨w.heap.size+1,0,none⟩ (.slice A1 st.length c1)):=(Fr.refl _ wo).setCell _ (fun _=>rfl);have hm:=HCI.out.mkl.vstp (ZbW (w':=wo.setCell ⟨w.heap.size+1,0,none⟩ (.slice A1 st.length c1)) fun g hg _=>Below.heap_setCell wo ⟨w.heap.size+1,0,none⟩ _ g (by show g≠w.heap.size+1;omega));have hcc:st.length≤c1:=(by obtain⟨A',c',e,h1,_⟩:=LsH.form hm;injection e with _ _ e;omega);exact bodyPost_ret (v:=ZbE A1 st.length c1) (by simp [results,Tryz.results46,go_sem,x0]) rfl ⟨A1,c1,rfl,hcc,hm.mono (by omega) nR nR,HCI.out.bel.trans (hfr.below (by omega) (fun b hb e=>by omega))⟩
theorem stp_vtrans {w w1 w2:World} {B:Nat} (h:Stp w w1 B RVv) (h':Stp w1 w2 B RVv):Stp w w2 B RVv:=fun g cur e hg hh=>by
 obtain⟨c1,h1,h2,h3⟩:=h g cur e hg hh;obtain⟨c2,h4,h5,h6⟩:=h' g c1 e hg h1;exact⟨c2,h4,by omega,fun he j hj=>h6.1 he j (h3.1 he j hj),fun he=>by rw [h6.2 he,h3.2 he]⟩
abbrev RowN (w:World) (B n:Nat) (v:Value):Prop:=LsH w B 89 3 n Trip v
theorem ZdB {o:Oper} {a:Act} {K:Act→World→Prop} {Q:Exit→Act→World→Prop} (s x:Operand) (t:TypeId)
  (ho:o.op=.call { callee:=.builtin .append,args:=#[s,x],argTypes:=#[t,t] }) (ht:Tryz.prog.underlying t=some (.slice 89))
  (w0:World) (B:Nat) (A:Option Addr) (n c:Nat) (hR:RowN w0 B n (.slice A n c)) (v:V) (hv:v.t.size≤9223372036854775807) (hn:n+1≤1000000) (hB:B≤w0.heap.size)
  (hs:a.eval s=.slice A n c) (c':Nat) (hx:a.eval x=.slice (some ⟨w0.heap.size,0,none⟩) 1 c')
  (h:∀ g cap w',Stp w0 w' B RVv→RowN w' B (n+1) (.slice (some ⟨g,0,none⟩) (n+1) cap)→Below B w0 w'→(∀ (b:Nat) (T:TypeId) (cur:Array Value),T≠89→w0.heap[b]?=some (.cells cur T (0,0))→w'.heap[b]?=some (.cells cur T (0,0)))→w0.heap.size<w'.heap.size→K (a.put o.dst (.slice (some ⟨g,0,none⟩) (n+1) cap)) w') :
  o.wp Tryz.prog a (w0.alloc (.cells #[.int .i64 v.k,.int .i64 v.i,.string v.t] 89)) K Q:=by
 obtain⟨i0,hi,hz0,hz1,hz2⟩:=info_parts ZhF;have hR':RowN (w0.alloc (.cells #[.int .i64 v.k,.int .i64 v.i,.string v.t] 89)) B n (.slice A n c):=hR.stp (Zcq _) (fun _ _ j _ hr=>hr.1 rfl j);obtain⟨cur,h1,h2⟩:=hR';refine Zcn _ s x t ho B 89 i0 _ 3 32 ht hi hz0 hz1 hz2 rfl (by decide) (.slice A n c) n cur hs h1 ⟨w0.heap.size,0,none⟩ 1 c' [.int .i64 v.k,.int .i64 v.i,.string v.t] hx rfl (World.news_of_block (cs:=#[.int .i64 v.k,.int .i64 v.i,.string v.t]) (heap_alloc_new w0 _)) (by simp [Value.oneCell']) (by omega) (by unfold maxLen;omega) (by omega) (by simp;omega) (fun g cap w' cur' hG=>?_);obtain⟨g1,n1,g2,g3,g4⟩:=grew_row (lo:=n+1) (N:=n+1) hG h2 hv nR nR;have hbl:=hG.below (by simp;omega);have hba:Below w0.heap.size w0 (w0.alloc (.cells #[.int .i64 v.k,.int .i64 v.i,.string v.t] 89)):=(Below.refl _ _).alloc nR _;have hn1:n1=n+1:=(by omega);subst hn1;refine h g cap w' (stp_vtrans (Zcq _) g1) g4 ((hba.mono hB).trans hbl) (fun b T cr hT hb=>?_) (by have:=hbl.size;simp at this;omega);have hb1:=(Below.heap_alloc w0 (.cells #[.int .i64 v.k,.int .i64 v.i,.string v.t] 89) b (Zac hb)).trans hb;obtain⟨_,_,_,h4⟩:=hG;rcases h4 with ⟨_,h5,_,_,_,h9⟩ | ⟨_,h5⟩
 · refine(h9.block b (Zac hb1) (fun e=>?_)).trans hb1;injection e with e;subst e;rw [h5] at hb1;injection hb1 with hb1;injection hb1 with _ e2;exact hT e2.symm
 · exact(h5.block b (Zac hb1)).trans hb1
theorem ZeN {v:V} (h:AnyV v):v.t.size≤9223372036854775807:=by have:=ZcT h;omega
def CellsPost (n:Nat) (w:World) (g:Nat) (e:Ending) (w':World):Prop:=∃ A c,e=.returned (.slice A n c)∧RowN w' w.heap.size n (.slice A n c)∧CaseOk w' g∧w.grownBy w' (some g)
theorem cells_any (g n:Nat) (w:World) (hn:n≤1000) (hc:CaseOk w g):Calls Tryz.prog 56 #[.pointer (some ⟨g,0,none⟩),.int .i64 (n:Int)] w (CellsPost n w g):=by
 have hgl:=hc.lt;have HC:=hI hc;clear hc;go_enter Tryz.func56,Tryz.ntmps56
 go_wp2_with fail
 go_loopw [1,5] (fun i out wr=>∃ (j k:Nat) (A:Option Addr) (c:Nat),i=.int .i64 (j:Int)∧out=.slice A k c∧k+j=n∧RowN wr w.heap.size k (.slice A k c)∧CaseOk wr g∧w.grownBy wr (some g)) (fun i _ _=>(intOf i).toNat)
 case atStart=>exact⟨n,0,none,0,rfl,rfl,by omega,⟨#[],.inl ⟨rfl,rfl,rfl⟩,fun j hj=>by omega⟩,HC.out,⟨rfl,rfl,rfl,Nat.le_refl _,fun _ _ _=>rfl⟩⟩
 case round =>
  obtain⟨j,k,A,c,rfl,rfl,hjk,hrow,hc,hgr⟩:=hrel;have HR:=hI hrow;have HC:=hI hc;have HG:=hI hgr;have hsz:=hgr.size;clear hrow hc hgr;rcases Nat.eq_zero_or_pos j with hj | hj
  · subst hj;have hk:k=n:=(by omega);subst hk
    go_wp2_with fail
    go_ret;exact⟨A,c,rfl,HR.out,HC.out,HG.out⟩
  · have hd:(0:Int)<(j:Int):=by omega
    go_wp2_with fail
    refine(ZeO g _ HC.out).mono ?_;rintro e w1 ⟨v,rfl,hv,hc1,hg1⟩;have HV:=hI (ZeN hv);have HR1:=hI (show RowN w1 w.heap.size k (.slice A k c) from HR.out.stp (ZbW fun b hb hl=>hg1.block b hl (fun e=>by injection e with e;omega)) (fun _ _ j _ hr=>hr.1 rfl j));have HC1:=hI hc1;have HG1:=hI (HG.out.trans hg1);have hz1:=hg1.size;clear hv hc1 hg1;obtain⟨vk,vi,vt⟩:=v
    go_wp2_with (at_builtin;refine wpList_plain rfl (fun K hK=>?_);refine ZdB (.tmp 10) (.tmp 13) 42 rfl Tryz.underlying42 _ w.heap.size A k c HR1.out ⟨vk,vi,vt⟩ HV.out (by omega) (by omega) rfl 1 rfl ?_;intro g6 cap6 w6 _ hm6 hb6 _ hlt6;refine hK _ _ ?_;clear hK K;have MK6:=hI hm6;have HB6:=hI hb6;have hz6:=hb6.size;clear hm6 hb6)
    go_roundw
    case rel=>exact⟨j - 1,k+1,_,_,by rw [show ((j - 1:Nat):Int)=(j:Int) - 1 by omega],rfl,by omega,MK6.out,HC1.out.keep (fun b hb=>HB6.out.block b (by omega)),⟨HB6.out.os.trans HG1.out.os,HB6.out.tape.trans HG1.out.tape,HB6.out.output.trans HG1.out.output,by have:=HG1.out.size;omega,fun b hb hne=>(HB6.out.block b hb).trans (HG1.out.block b hb hne)⟩⟩
    case measure=>simp [intOf];omega
end Go.Proofs.YtkpjjfhfbpfjpaaGreat
