import Derived.Test.YtkpjjfhfbpfjpaaKe1b890
set_option linter.unusedVariables false
set_option linter.unusedSimpArgs false
set_option maxRecDepth 100000
set_option maxHeartbeats 8000000
namespace Go.Proofs.Ytkpjjfhfbpfjpaa
open Go.RowKit
theorem ZbI (b o k:Nat):(⟨b,o,none⟩:Addr).add k=⟨b,o+k,none⟩:=by
 unfold Addr.add;split
 · rename_i h;subst h;rfl
 · rfl
def Zar:Row→List Value
 | []=>[]
 | v :: r=>.int .i64 v.k :: .int .i64 v.i :: .string v.t :: Zar r
theorem Zdw:∀ r:Row,(Zar r).length=r.length*3
 | []=>rfl
 | v :: r=>by simp [Zar,Zdw r,Nat.succ_mul]
theorem Zdv:∀ r:Row,∀ u ∈ Zar r,u.oneCell'=true
 | [],u,h=>by simp [Zar] at h
 | v :: r,u,h=>by
  simp only [Zar,List.mem_cons] at h;rcases h with rfl | rfl | rfl | h
  · rfl
  · rfl
  · rfl
  · exact Zdv r u h
theorem ZgI {w:World} {S:Nat→Prop}:∀ (r:Row) (b off:Nat),Dat.HeldAll w S (r.map encV) b off→∀ j u,(Zar r)[j]?=some u→w.cell? ⟨b,off+j,none⟩=some u
 | [],_,_,_,j,u,hu=>by simp [Zar] at hu
 | v :: r,b,off,h,j,u,hu=>by
  simp only [List.map_cons,Dat.HeldAll,ZdQ,ZgM] at h;obtain⟨⟨h1,h2,h3,_⟩,h4⟩:=h
  match j,hu with
  | 0,hu=>simp only [Zar,List.getElem?_cons_zero,Option.some.injEq] at hu;subst hu;exact h1
  | 1,hu=>simp only [Zar,List.getElem?_cons_succ,List.getElem?_cons_zero,Option.some.injEq] at hu;subst hu;exact h2
  | 2,hu=>simp only [Zar,List.getElem?_cons_succ,List.getElem?_cons_zero,Option.some.injEq] at hu;subst hu;exact h3
  | j+3,hu =>
   simp only [Zar,List.getElem?_cons_succ] at hu;have:=ZgI r b (off+3) h4 j u hu;rw [show off+(j+3)=off+3+j by omega];exact this
theorem ZbK {w:World} {S:Nat→Prop}:∀ (r:Row) (b off:Nat),(∀ v ∈ r,v.t.size≤9223372036854775807)→(∀ j u,(Zar r)[j]?=some u→w.cell? ⟨b,off+j,none⟩=some u)→Dat.HeldAll w S (r.map encV) b off
 | [],_,_,_,_=>by simp [Dat.HeldAll]
 | v :: r,b,off,ho,h=>by
  simp only [List.map_cons,Dat.HeldAll,ZdQ,ZgM];refine⟨⟨h 0 _ rfl,h 1 _ rfl,h 2 _ rfl,ho v (by simp)⟩,ZbK r b (off+3) (fun v hv=>ho v (by simp [hv])) (fun j u hu=>?_)⟩;have:=h (j+3) u (by simpa [Zar] using hu);rw [show off+3+j=off+(j+3) by omega];exact this
theorem RowS.vals {w:World} {S:Nat→Prop} {A:Option Addr} {r:Row} (h:RowS w S A r) (hr:0<r.length):∃ b off,A=some ⟨b,off,none⟩∧S b∧∀ j u,(Zar r)[j]?=some u→w.cell? ((⟨b,off,none⟩:Addr).add j)=some u:=by
 obtain⟨b,off,e,hb,hc⟩:=h.2 (by simpa using hr);exact⟨b,off,e,hb,fun j u hu=>by rw [ZbI];exact ZgI r b off hc j u hu⟩
theorem ZcW {w:World} {base c:Nat} {A:Option Addr} {r:Row} (hll:RowOk r) (h:w.ownsRow base 51 3 (.slice A r.length c) r.length (Zar r)):RowS w (fun b=>base≤b∧b<w.heap.size) A r:=by
 refine⟨by have:=hll.1;rw [Zag (n:=32) (fun _=>rfl)];omega,fun hn=>?_⟩;obtain⟨g,e,hb,hl,hc⟩:=Zck h (by simpa using hn);exact⟨g,0,e,⟨hb,hl⟩,ZbK r g 0 hll.2 (fun j u hu=>by rw [Nat.zero_add];exact hc j u hu)⟩
theorem infoV:(Try.prog.info? 51).map (fun i=>(i.zero,i.size,i.bytes))=some (some (.agg #[.int .i64 0,.int .i64 0,.string ⟨#[]⟩]),3,32):=by kernel_rfl
theorem run_append_empty {P:Program} {w:World} (base:Nat) (t ty e:TypeId) (i:TypeInfo) (size:Nat) (ht:P.underlying t=some (.slice e)) (hi:P.info? e=some i)
  (v:Value) (n:Nat) (xs:List Value) (hown:w.ownsRow base e size v n xs) (A:Option Addr) (c:Nat) :
  (Builtin.append_ #[t,t] ty #[v,.slice A 0 c]).run P w=.ok v w:=by
 rcases hown.2 with ⟨rfl,rfl⟩ | ⟨g,cap,cur,rfl,_,_,hnc,_⟩
 · cases A<;>simp [Builtin.append_,run_underlying ht,sizeOf,typeInfo,hi,Builtin.lenOf,Builtin.firstCells,loadCells,loadCellsFrom]
 · cases A<;>simp [Builtin.append_,run_underlying ht,sizeOf,typeInfo,hi,Builtin.lenOf,Builtin.firstCells,hnc,storeCells,loadCells,loadCellsFrom]
theorem Zcj {P:Program} (w:World) {ops:Array Oper} {rest:List Oper} {o:Oper} {a:Act} {Q:Exit→Act→World→Prop} (hgd:o.guard=none) (s x:Operand) (t:TypeId)
  (ho:o.op=.call { callee:=.builtin .append,args:=#[s,x],argTypes:=#[t,t] })
  (base:Nat) (e:TypeId) (i:TypeInfo) (size:Nat) (ht:P.underlying t=some (.slice e)) (hi:P.info? e=some i)
  (v:Value) (n:Nat) (xs:List Value) (hs:a.eval s=v) (hown:w.ownsRow base e size v n xs) (A:Option Addr) (c:Nat) (hx:a.eval x=.slice A 0 c)
  (h:wpList P ops Q rest (a.put o.dst v) w):wpList P ops Q (o :: rest) a w:=by
 refine wpList_plain hgd fun K hK=>?_;have hrun:=run_append_empty (P:=P) (w:=w) base t o.type e i size ht hi v n xs hown A c;unfold Oper.wp;simp [execOp,ho,resolve,invoke,builtin,hs,hx,hrun,Result.andThen];exact hK _ _ h
def NewR (r:Row) (w:World) (e:Ending) (w':World):Prop:=∃ A c,e=.returned (.slice A r.length c)∧w'.ownsRow w.heap.size 51 3 (.slice A r.length c) r.length (Zar r)∧Below w.heap.size w w'
theorem ZaC (A:Option Addr) (ca:Nat) (r:Row) (S:Nat→Prop) (w:World) (h:RowS w S A r) :
  Calls Try.prog 55 #[.slice A r.length ca] w (NewR r w):=by
 have hl:=h.len';have HR:=hI h;clear h;obtain⟨i0,hi,hz0,hz1,hz2⟩:=info_parts infoV;rcases Nat.eq_zero_or_pos r.length with h0 | h0
 · have hr:r=[]:=List.length_eq_zero_iff.1 h0;subst hr;go_enter Try.func55,Try.ntmps55
   go_wp2_with (at_builtin;refine Zcj _ rfl (.const (.slice none 0 0)) (.tmp 3) 27 rfl w.heap.size 51 i0 3 Try.underlying27 hi (.slice none 0 0) 0 [] rfl (World.ownsRow_nil _ _ _ _) A ca rfl ?_)
   go_ret;exact⟨none,0,rfl,World.ownsRow_nil _ _ _ _,Below.refl _ _⟩
 · obtain⟨b,off,rfl,hb,hc⟩:=HR.out.vals h0;have HC:=hI hc;clear hc;go_enter Try.func55,Try.ntmps55
   go_wp2_with (at_builtin;refine Zam _ rfl (.const (.slice none 0 0)) (.tmp 3) 27 rfl w.heap.size 51 i0 _ 3 32 Try.underlying27 hi hz0 hz1 hz2 rfl (by decide) (.slice none 0 0) 0 [] rfl (World.ownsRow_nil _ _ _ _) ⟨b,off,none⟩ r.length ca (Zar r) rfl (Zdw r) HC.out (Zdv r) (by unfold maxLen;omega) (by omega) nR ?_;intro A1 c1 w1 hown1 hg1)
   rw [List.nil_append] at hown1;rw [Nat.zero_add] at hown1;go_ret;exact⟨A1,c1,rfl,hown1,(Below.refl _ _).grown hg1 nR (by simp [Value.ownBlock])⟩
theorem ZdK (A:Option Addr) (ca:Nat) (r:Row) (S:Nat→Prop) (w:World) (h:RowS w S A r) :
  Calls Try.prog 67 #[.slice A r.length ca] w (NewR r w):=by
 have hl:=h.len';have HR:=hI h;clear h;obtain⟨i0,hi,hz0,hz1,hz2⟩:=info_parts infoV;rcases Nat.eq_zero_or_pos r.length with h0 | h0
 · have hr:r=[]:=List.length_eq_zero_iff.1 h0;subst hr;go_enter Try.func67,Try.ntmps67
   go_wp2_with (at_builtin;refine Zcj _ rfl (.const (.slice none 0 0)) (.tmp 3) 27 rfl w.heap.size 51 i0 3 Try.underlying27 hi (.slice none 0 0) 0 [] rfl (World.ownsRow_nil _ _ _ _) A ca rfl ?_)
   go_ret;exact⟨none,0,rfl,World.ownsRow_nil _ _ _ _,Below.refl _ _⟩
 · obtain⟨b,off,rfl,hb,hc⟩:=HR.out.vals h0;have HC:=hI hc;clear hc;go_enter Try.func67,Try.ntmps67
   go_wp2_with (at_builtin;refine Zam _ rfl (.const (.slice none 0 0)) (.tmp 3) 27 rfl w.heap.size 51 i0 _ 3 32 Try.underlying27 hi hz0 hz1 hz2 rfl (by decide) (.slice none 0 0) 0 [] rfl (World.ownsRow_nil _ _ _ _) ⟨b,off,none⟩ r.length ca (Zar r) rfl (Zdw r) HC.out (Zdv r) (by unfold maxLen;omega) (by omega) nR ?_;intro A1 c1 w1 hown1 hg1)
   rw [List.nil_append] at hown1;rw [Nat.zero_add] at hown1;go_ret;exact⟨A1,c1,rfl,hown1,(Below.refl _ _).grown hg1 nR (by simp [Value.ownBlock])⟩
theorem ZaM (A B:Option Addr) (ca cb:Nat) (a b:Row) (S:Nat→Prop) (w:World) (ha:RowS w S A a) (hb:RowS w S B b) (hS:∀ b,S b→b<w.heap.size) :
  Calls Try.prog 77 #[.slice A a.length ca,.slice B b.length cb] w (ZaS (cmpR a b == 0) w):=by
 go_enter Try.func77,Try.ntmps77
 go_wp2_with fail
 refine(Zbc A B ca cb a b S w ha hb hS).mono ?_;rintro e w1 ⟨rfl,hb1⟩;obtain⟨cv,hcv⟩:∃ cv,cmpR a b=cv:=⟨_,rfl⟩;have HF:=hI hcv;rw [hcv];clear hcv
 go_wp2_with fail
 go_ret;exact⟨by rw [HF.out];rfl,hb1⟩
def keyN (k:Int) (r:Row):Nat:=(max 0 (min k r.length)).toNat
def keyF (s:Sch) (t:Int) (r:Row):Row:=if hasN s.tabs.length t then r.take (keyN (s.tabs.getD t.toNat t0).key r) else []
def Sub (A:Option Addr) (r:Row) (w:World) (e:Ending) (w':World):Prop:=∃ A' c,e=.returned (.slice A' r.length c)∧(0<r.length→A'=A)∧Below w.heap.size w w'
theorem RowS.take {w:World} {S:Nat→Prop} {A:Option Addr} {r:Row} (h:RowS w S A r) (k:Nat) {A':Option Addr} (e:0<(r.take k).length→A'=A):RowS w S A' (r.take k):=by
 refine⟨?_,fun hn=>?_⟩
 · have:=h.1;rw [Zag (n:=32) (fun _=>rfl)] at this ⊢;simp only [List.length_take];omega
 · have hn':0<(r.take k).length:=(by simpa using hn);obtain⟨b,off,e1,hb,hc⟩:=h.vals (by simp at hn';omega);refine⟨b,off,(e hn').trans e1,hb,ZbK _ b off (fun v hv=>h.ok.2 v (List.mem_of_mem_take hv)) (fun j u hu=>?_)⟩
   have hv:∀ (r:Row) (k j:Nat) (u:Value),(Zar (r.take k))[j]?=some u→(Zar r)[j]?=some u:=by
    intro r;induction r with
    | nil=>intro k j u hu;simpa using hu
    | cons v r ih =>
     intro k j u hu;cases k with
     | zero=>simp [Zar] at hu
     | succ k =>
      rw [List.take_succ_cons] at hu
      match j,hu with
      | 0,hu=>exact hu
      | 1,hu=>exact hu
      | 2,hu=>exact hu
      | j+3,hu =>
       simp only [Zar,List.getElem?_cons_succ] at hu ⊢;exact ih k j u hu
   have:=hc j u (hv r k j u hu);rw [ZbI] at this;exact this
theorem RowS.key {w:World} {S:Nat→Prop} {A:Option Addr} {r:Row} (h:RowS w S A r) (s:Sch) (t:Int) {A':Option Addr} (e:0<(keyF s t r).length→A'=A):RowS w S A' (keyF s t r):=by
 unfold keyF at e ⊢;split
 · rename_i hh
   rw [if_pos hh] at e;exact h.take _ e
 · exact RowS.nil_
theorem Zba (A0:Option Addr) (c0':Nat) (s:Sch) (t:Int) (A:Option Addr) (ca:Nat) (r:Row) (S:Nat→Prop) (w:World) (hs:TabS w S A0 s.tabs) (hr:RowS w S A r) (hca:r.length≤ca) (hS:∀ b,S b→b<w.heap.size) :
  Calls Try.prog 61 #[sAgg s.version A0 s.tabs.length c0',.int .i64 t,.slice A r.length ca] w (Sub A (keyF s t r) w):=by
 have hsl:=hs.len;have hrl:=hr.len;have HS:=hI hs;have HR:=hI hr;clear hs hr;have HB1:=hI ((Below.refl w.heap.size w).alloc nR (.cells #[.int .i64 s.version,.slice A0 s.tabs.length c0'] 25))
 by_cases hh:hasN s.tabs.length t=true
 · have HKF:=hI (show keyF s t r=r.take (keyN (s.tabs.getD t.toNat t0).key r) by unfold keyF;rw [if_pos hh]);have hh0:0≤t∧t<s.tabs.length:=(by simpa [hasN] using hh);clear hh;obtain⟨tt,rfl⟩:=Int.eq_ofNat_of_zero_le hh0.1;rw [Int.toNat_natCast] at HKF;have htl:tt<s.tabs.length:=(by omega);obtain⟨b2,o2,rfl,hb2,A1,A2,A3,c1,c2,c3,hta⟩:=HS.out.at_ htl;have k1:=hta.key;have hl2:b2<w.heap.size:=hS b2 hb2;clear hta;generalize s.tabs.getD tt t0=tb at k1 HKF;obtain⟨tn,tc,tk,tr,tp⟩:=tb;simp only at k1 HKF;have hd1:decide ((tt:Int)<0)=false:=(by simp);have hd2:decide (s.tabs.length≤tt)=false:=(by simp;omega);have HL:=hI (show keyN tk r≤r.length by unfold keyN;omega);go_enter Try.func61,Try.ntmps61
   go_wp2_with fail
   go_ret;rw [HKF.out];exact⟨A,ca,by rw [List.length_take,Nat.min_eq_left HL.out];rfl,fun h=>rfl,HB1.out⟩
 · have HKF:=hI (show keyF s t r=[] by unfold keyF;rw [if_neg hh])
   have hh':t<0∨(s.tabs.length:Int)≤t:=by
    have:hasN s.tabs.length t=false:=(by simpa using hh);simp [hasN] at this;omega
   clear hh
   by_cases h0:t<0
   · have hd1:decide (t<0)=true:=(by simp [h0]);go_enter Try.func61,Try.ntmps61
     go_wp2_with fail
     go_ret;rw [HKF.out];exact⟨none,0,rfl,fun h=>absurd h (by simp),HB1.out⟩
   · have hd1:decide (t<0)=false:=(by simpa using h0);have hd2:decide ((s.tabs.length:Int)≤t)=true:=(by simp;omega);go_enter Try.func61,Try.ntmps61
     go_wp2_with fail
     go_ret;rw [HKF.out];exact⟨none,0,rfl,fun h=>absurd h (by simp),HB1.out⟩
def TextPost (w:World) (g:Nat) (e:Ending) (w':World):Prop:=∃ t:ByteArray,e=.returned (.string t)∧t.size≤64∧CaseOk w' g∧w.grownBy w' (some g)∧w'.heap.size=w.heap.size
theorem ZgC (t:ByteArray) (x:UInt8):(t++⟨#[x]⟩).size=t.size+1:=by
 rw [ByteArray.size_append];rfl
theorem text_any (g:Nat) (w:World) (hc:CaseOk w g):Calls Try.prog 87 #[.pointer (some ⟨g,0,none⟩)] w (TextPost w g):=by
 go_enter Try.func87,Try.ntmps87
 go_wp2_with fail
 refine(ZaO g 10 w (by omega) hc).mono ?_;rintro e w1 ⟨r,rfl,h0,h1,-,hc1,hg1,hs1⟩;have HC:=hI hc1;have HG:=hI hg1;have HS:=hI hs1;have hr:=h1 (by omega);clear hc hc1 hg1 hs1 h1;have hcase:r=0∨r=1∨r=2∨r=3∨r=4∨r=5∨r=6∨r=7∨r=8∨r=9:=(by omega);rcases hcase with rfl | rfl | rfl | rfl | rfl | rfl | rfl | rfl | rfl | rfl
 iterate 8
  · go_wp2_with fail
    go_ret;exact⟨_,rfl,by decide,HC.out,HG.out,HS.out⟩
 · go_wp2_with fail
   go_loop [3,4] (fun t i=>∃ (k:Nat) (u:ByteArray),k≤64∧i=.int .i64 k∧t=.string u∧u.size=k) (fun _ i=>64 - (intOf i).toNat)
   case atStart=>exact⟨0,_,by omega,rfl,rfl,rfl⟩
   case round =>
    obtain⟨k,u,hk,rfl,rfl,hu⟩:=hrel;have HU:=hI hu;have hns:¬ 9223372036854775807<u.size+1:=(by omega);clear hu
    by_cases hlt:k<64
    · go_wp2_with fail
      go_round
      case rel=>exact⟨k+1,_,by omega,by go_num,rfl,by rw [ZgC,HU.out]⟩
      case measure=>simp [intOf];omega
    · go_wp2_with fail
      go_ret;exact⟨_,rfl,by rw [HU.out];exact hk,HC.out,HG.out,HS.out⟩
 · go_wp2_with fail
   go_loop [3,5] (fun t i=>∃ (k:Nat) (u:ByteArray),k≤64∧i=.int .i64 k∧t=.string u∧u.size=k) (fun _ i=>64 - (intOf i).toNat)
   case atStart=>exact⟨0,_,by omega,rfl,rfl,rfl⟩
   case round =>
    obtain⟨k,u,hk,rfl,rfl,hu⟩:=hrel;have HU:=hI hu;have hns:¬ 9223372036854775807<u.size+1:=(by omega);clear hu
    by_cases hlt:k<64
    · go_wp2_with fail
      go_round
      case rel=>exact⟨k+1,_,by omega,by go_num,rfl,by rw [ZgC,HU.out]⟩
      case measure=>simp [intOf];omega
    · go_wp2_with fail
      go_ret;exact⟨_,rfl,by rw [HU.out];exact hk,HC.out,HG.out,HS.out⟩
def NumPost (w:World) (g:Nat) (e:Ending) (w':World):Prop:=∃ n:Int,e=.returned (.int .i64 n)∧CaseOk w' g∧w.grownBy w' (some g)∧w'.heap.size=w.heap.size
theorem number_any (g:Nat) (w:World) (hc:CaseOk w g):Calls Try.prog 86 #[.pointer (some ⟨g,0,none⟩)] w (NumPost w g):=by
 go_enter Try.func86,Try.ntmps86
 go_wp2_with fail
 refine(ZaO g 12 w (by omega) hc).mono ?_;rintro e w1 ⟨r,rfl,h0,h1,-,hc1,hg1,hs1⟩;have HC:=hI hc1;have HG:=hI hg1;have HS:=hI hs1;have hr:=h1 (by omega);clear hc hc1 hg1 hs1 h1;have hcase:r=0∨r=1∨r=2∨r=3∨r=4∨r=5∨r=6∨r=7∨r=8∨r=9∨r=10∨r=11:=(by omega);rcases hcase with rfl | rfl | rfl | rfl | rfl | rfl | rfl | rfl | rfl | rfl | rfl | rfl
 all_goals
  go_wp2_with fail
  go_ret;exact⟨_,rfl,HC.out,HG.out,HS.out⟩
def Zda (k:Int):Int:=if k=3 then 3 else if k=4 then 4 else 5
def ValPost (P:V→Prop) (w:World) (g:Nat) (e:Ending) (w':World):Prop:=∃ v:V,e=.returned (vAgg v)∧P v∧CaseOk w' g∧w.grownBy w' (some g)
def ZfT (k:Int) (v:V):Prop:=Zan v=true∧v.k=k
theorem grown_set {w w1:World} {g n:Nat} {o:Obj} (hg:(w.alloc o).grownBy w1 (some g)) (hl:w.heap.size≤n) (v:Value) (k:Nat):w.grownBy (w1.setCell ⟨n,k,none⟩ v) (some g) :=
 ⟨hg.os,hg.tape,hg.output,by have:=hg.size;simp at this ⊢;omega,fun b hb hne=>(Below.heap_setCell w1 ⟨n,k,none⟩ v b (by show b≠n;omega)).trans ((hg.block b (by simp;omega) hne).trans (Below.heap_alloc w o b hb))⟩
abbrev zObj:Obj:=.cells #[.int .i64 0,.int .i64 0,.string ⟨#[]⟩] 51 (0,0)
theorem Zab {w:World} {g n k:Nat} {v:Value} (hc:CaseOk w g) (hn:g<n):CaseOk (w.setCell ⟨n,k,none⟩ v) g:=hc.keep (fun b hb=>Below.heap_setCell w ⟨n,k,none⟩ v b (by show b≠n;omega))
theorem Zem {w w1:World} {g n:Nat} {o:Obj} {a b c:Value} (hg:(w.alloc o).grownBy w1 (some g)) (hl:w.heap.size≤n):w.grownBy (((w1.setCell ⟨n,0,none⟩ a).setCell ⟨n,1,none⟩ b).setCell ⟨n,2,none⟩ c) (some g):=by
 have h:=grown_set (n:=n) hg hl a 0;refine⟨h.os,h.tape,h.output,by have:=h.size;simpa using this,fun x hx hne=>?_⟩;rw [Below.heap_setCell _ ⟨n,2,none⟩ c x (by show x≠n;omega),Below.heap_setCell _ ⟨n,1,none⟩ b x (by show x≠n;omega)];exact h.block x hx hne
theorem Zfm {w:World} {g n:Nat} {a b c:Value} (hc:CaseOk w g) (hn:g<n):CaseOk (((w.setCell ⟨n,0,none⟩ a).setCell ⟨n,1,none⟩ b).setCell ⟨n,2,none⟩ c) g:=Zab (Zab (Zab hc hn) hn) hn
section
variable {w:World} {B:Nat} {x0 x1 x2 a b c:Value}
theorem v3_2 (h0:w.cell? ⟨B,0,none⟩=some x0) (h1:w.cell? ⟨B,1,none⟩=some x1) (h2:w.cell? ⟨B,2,none⟩=some x2):(((w.setCell ⟨B,0,none⟩ a).setCell ⟨B,1,none⟩ b).setCell ⟨B,2,none⟩ c).cell? ⟨B,2,none⟩=some c :=
 World.cell?_setCell_same _ _ _ (u:=x2) (by rw [World.cell?_setCell_other _ _ _ _ (by simp),World.cell?_setCell_other _ _ _ _ (by simp)];exact h2)
theorem v3_1 (h0:w.cell? ⟨B,0,none⟩=some x0) (h1:w.cell? ⟨B,1,none⟩=some x1) (h2:w.cell? ⟨B,2,none⟩=some x2):(((w.setCell ⟨B,0,none⟩ a).setCell ⟨B,1,none⟩ b).setCell ⟨B,2,none⟩ c).cell? ⟨B,1,none⟩=some b:=by
 rw [World.cell?_setCell_other _ _ _ _ (by simp)];exact World.cell?_setCell_same _ _ _ (u:=x1) (by rw [World.cell?_setCell_other _ _ _ _ (by simp)];exact h1)
theorem v3_0 (h0:w.cell? ⟨B,0,none⟩=some x0) (h1:w.cell? ⟨B,1,none⟩=some x1) (h2:w.cell? ⟨B,2,none⟩=some x2):(((w.setCell ⟨B,0,none⟩ a).setCell ⟨B,1,none⟩ b).setCell ⟨B,2,none⟩ c).cell? ⟨B,0,none⟩=some a:=by
 rw [World.cell?_setCell_other _ _ _ _ (by simp),World.cell?_setCell_other _ _ _ _ (by simp)];exact World.cell?_setCell_same _ _ _ (u:=x0) h0
end
theorem valid_bool {r:Int} (h:r=0∨r=1):ZfT 3 ⟨3,r,⟨#[]⟩⟩:=by rcases h with rfl | rfl<;>exact⟨by simp [Zan],rfl⟩
theorem valid_int (r:Int):ZfT 4 ⟨4,r,⟨#[]⟩⟩:=⟨by simp [Zan],rfl⟩
theorem valid_text {t:ByteArray} (h:t.size≤64):ZfT 5 ⟨5,0,t⟩:=⟨by simp [Zan];omega,rfl⟩
theorem ZbC (g:Nat) (k:Int) (w:World) (hc:CaseOk w g):Calls Try.prog 44 #[.pointer (some ⟨g,0,none⟩),.int .i64 k] w (ValPost (ZfT (Zda k)) w g):=by
 have hgl:=hc.lt;have HC0:=hI (hc.keep (w':=w.alloc zObj) (fun b hb=>Below.heap_alloc _ _ _ (by omega)));clear hc;have hza:(w.alloc zObj).heap.size=w.heap.size+1:=by simp
 by_cases h3:k=3
 · subst h3;go_enter Try.func44,Try.ntmps44
   go_wp2_with fail
   refine(ZaO g 2 _ (by omega) HC0.out).mono ?_;rintro e w1 ⟨r,rfl,h0,h1,-,hc1,hg1,hs1⟩;have hr:=h1 (by omega);have HR:=hI (show r=0∨r=1 by omega);have HC:=hI hc1;have HG:=hI hg1
   obtain⟨y0,y1,y2⟩:w1.cell? ⟨w.heap.size,0,none⟩=some (.int .i64 0)∧w1.cell? ⟨w.heap.size,1,none⟩=some (.int .i64 0)∧w1.cell? ⟨w.heap.size,2,none⟩=some (.string ⟨#[]⟩):=by
    have hb:=hg1.block w.heap.size (by simp) (by intro e;injection e with e;omega);have h:=hb.trans (heap_alloc_new w zObj);exact⟨cell_of_row _ _ _ _ _ _ h,cell_of_row _ _ _ _ _ _ h,cell_of_row _ _ _ _ _ _ h⟩
   obtain⟨f0,f1,f2⟩:w1.frozen? ⟨w.heap.size,0,none⟩=false∧w1.frozen? ⟨w.heap.size,1,none⟩=false∧w1.frozen? ⟨w.heap.size,2,none⟩=false:=by
    have hb:=hg1.block w.heap.size (by simp) (by intro e;injection e with e;omega);have h:=hb.trans (heap_alloc_new w zObj);simp [World.frozen?,h]
   have hz1:w.heap.size<w1.heap.size:=(by have:=hg1.size;omega);clear hc1 hg1 hs1 h1
   go_wp2_with fail
   have u0:=v3_0 (a:=.int .i64 3) (b:=.int .i64 r) (c:=.string ⟨#[]⟩) y0 y1 y2;have u1:=v3_1 (a:=.int .i64 3) (b:=.int .i64 r) (c:=.string ⟨#[]⟩) y0 y1 y2;have u2:=v3_2 (a:=.int .i64 3) (b:=.int .i64 r) (c:=.string ⟨#[]⟩) y0 y1 y2;exact bodyPost_ret (v:=.agg #[.int .i64 3,.int .i64 r,.string ⟨#[]⟩]) (by simp [results,Try.results44,go_sem,u0,u1,u2]) rfl ⟨⟨3,r,⟨#[]⟩⟩,rfl,valid_bool HR.out,Zfm HC.out hgl,Zem HG.out nR⟩
 · have e3:(k == 3)=false:=beq_eq_false_iff_ne.2 h3
   by_cases h4:k=4
   · subst h4;go_enter Try.func44,Try.ntmps44
     go_wp2_with fail
     refine(number_any g _ HC0.out).mono ?_;rintro e w1 ⟨r,rfl,hc1,hg1,hs1⟩;have HC:=hI hc1;have HG:=hI hg1
     obtain⟨y0,y1,y2⟩:w1.cell? ⟨w.heap.size,0,none⟩=some (.int .i64 0)∧w1.cell? ⟨w.heap.size,1,none⟩=some (.int .i64 0)∧w1.cell? ⟨w.heap.size,2,none⟩=some (.string ⟨#[]⟩):=by
      have hb:=hg1.block w.heap.size (by simp) (by intro e;injection e with e;omega);have h:=hb.trans (heap_alloc_new w zObj);exact⟨cell_of_row _ _ _ _ _ _ h,cell_of_row _ _ _ _ _ _ h,cell_of_row _ _ _ _ _ _ h⟩
     obtain⟨f0,f1,f2⟩:w1.frozen? ⟨w.heap.size,0,none⟩=false∧w1.frozen? ⟨w.heap.size,1,none⟩=false∧w1.frozen? ⟨w.heap.size,2,none⟩=false:=by
      have hb:=hg1.block w.heap.size (by simp) (by intro e;injection e with e;omega);have h:=hb.trans (heap_alloc_new w zObj);simp [World.frozen?,h]
     have hz1:w.heap.size<w1.heap.size:=(by have:=hg1.size;omega);clear hc1 hg1 hs1
     go_wp2_with fail
     have u0:=v3_0 (a:=.int .i64 4) (b:=.int .i64 r) (c:=.string ⟨#[]⟩) y0 y1 y2;have u1:=v3_1 (a:=.int .i64 4) (b:=.int .i64 r) (c:=.string ⟨#[]⟩) y0 y1 y2;have u2:=v3_2 (a:=.int .i64 4) (b:=.int .i64 r) (c:=.string ⟨#[]⟩) y0 y1 y2;exact bodyPost_ret (v:=.agg #[.int .i64 4,.int .i64 r,.string ⟨#[]⟩]) (by simp [results,Try.results44,go_sem,u0,u1,u2]) rfl ⟨⟨4,r,⟨#[]⟩⟩,rfl,valid_int r,Zfm HC.out hgl,Zem HG.out nR⟩
   · have e4:(k == 4)=false:=beq_eq_false_iff_ne.2 h4;have HK:=hI (show Zda k=5 by unfold Zda;rw [if_neg h3,if_neg h4]);go_enter Try.func44,Try.ntmps44
     go_wp2_with fail
     refine(text_any g _ HC0.out).mono ?_;rintro e w1 ⟨t,rfl,ht,hc1,hg1,hs1⟩;have HT:=hI ht;have HC:=hI hc1;have HG:=hI hg1
     obtain⟨y0,y1,y2⟩:w1.cell? ⟨w.heap.size,0,none⟩=some (.int .i64 0)∧w1.cell? ⟨w.heap.size,1,none⟩=some (.int .i64 0)∧w1.cell? ⟨w.heap.size,2,none⟩=some (.string ⟨#[]⟩):=by
      have hb:=hg1.block w.heap.size (by simp) (by intro e;injection e with e;omega);have h:=hb.trans (heap_alloc_new w zObj);exact⟨cell_of_row _ _ _ _ _ _ h,cell_of_row _ _ _ _ _ _ h,cell_of_row _ _ _ _ _ _ h⟩
     obtain⟨f0,f1,f2⟩:w1.frozen? ⟨w.heap.size,0,none⟩=false∧w1.frozen? ⟨w.heap.size,1,none⟩=false∧w1.frozen? ⟨w.heap.size,2,none⟩=false:=by
      have hb:=hg1.block w.heap.size (by simp) (by intro e;injection e with e;omega);have h:=hb.trans (heap_alloc_new w zObj);simp [World.frozen?,h]
     have hz1:w.heap.size<w1.heap.size:=(by have:=hg1.size;omega);clear hc1 hg1 hs1 ht
     go_wp2_with fail
     have u0:=v3_0 (a:=.int .i64 5) (b:=.int .i64 0) (c:=.string t) y0 y1 y2;have u1:=v3_1 (a:=.int .i64 5) (b:=.int .i64 0) (c:=.string t) y0 y1 y2;have u2:=v3_2 (a:=.int .i64 5) (b:=.int .i64 0) (c:=.string t) y0 y1 y2;exact bodyPost_ret (v:=.agg #[.int .i64 5,.int .i64 0,.string t]) (by simp [results,Try.results44,go_sem,u0,u1,u2]) rfl ⟨⟨5,0,t⟩,rfl,by rw [HK.out];exact valid_text HT.out,Zfm HC.out hgl,Zem HG.out nR⟩
end Go.Proofs.Ytkpjjfhfbpfjpaa
