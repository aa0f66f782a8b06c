import Derived.Test.YtkpjjfhfbpfjpaaKe1b890
import Derived.Maps.Own
import Derived.Maps.Views
import Derived.Lib.OthersKept
import Derived.Lib.DecodeN
import Derived.Laws.RangeString
import Derived.Laws.RangeAny
set_option linter.unusedVariables false
set_option linter.unusedSimpArgs false
set_option maxRecDepth 100000
set_option maxHeartbeats 8000000
namespace Go.Proofs.Ytkpjjfhfbpfjpaa
open Go.RowKit
theorem Zbm (b o k:Nat):(⟨b,o,none⟩:Addr).add k=⟨b,o+k,none⟩:=by
 unfold Addr.add;split
 · rename_i h;subst h;rfl
 · rfl
def Zam:Row→List Value
 | []=>[]
 | v :: r=>.int .i64 v.k :: .int .i64 v.i :: .string v.t :: Zam r
theorem Zcz:∀ r:Row,(Zam r).length=r.length*3
 | []=>rfl
 | v :: r=>by simp [Zam,Zcz r,Nat.succ_mul]
theorem Zcy:∀ r:Row,∀ u ∈ Zam r,u.oneCell'=true
 | [],u,h=>by simp [Zam] at h
 | v :: r,u,h=>by
  simp only [Zam,List.mem_cons] at h;rcases h with rfl | rfl | rfl | h
  · rfl
  · rfl
  · rfl
  · exact Zcy r u h
theorem ZeN {w:World} {S:Nat→Prop}:∀ (r:Row) (b off:Nat),Dat.HeldAll w S (r.map encV) b off→∀ j u,(Zam r)[j]?=some u→w.cell? ⟨b,off+j,none⟩=some u
 | [],_,_,_,j,u,hu=>by simp [Zam] at hu
 | v :: r,b,off,h,j,u,hu=>by
  simp only [List.map_cons,Dat.HeldAll,ZcK,ZdI] at h;obtain⟨⟨h1,h2,h3,_⟩,h4⟩:=h
  match j,hu with
  | 0,hu=>simp only [Zam,List.getElem?_cons_zero,Option.some.injEq] at hu;subst hu;exact h1
  | 1,hu=>simp only [Zam,List.getElem?_cons_succ,List.getElem?_cons_zero,Option.some.injEq] at hu;subst hu;exact h2
  | 2,hu=>simp only [Zam,List.getElem?_cons_succ,List.getElem?_cons_zero,Option.some.injEq] at hu;subst hu;exact h3
  | j+3,hu =>
   simp only [Zam,List.getElem?_cons_succ] at hu;have:=ZeN r b (off+3) h4 j u hu;rw [show off+(j+3)=off+3+j by omega];exact this
theorem ZbA {w:World} {S:Nat→Prop}:∀ (r:Row) (b off:Nat),(∀ v ∈ r,v.t.size≤9223372036854775807)→(∀ j u,(Zam r)[j]?=some u→w.cell? ⟨b,off+j,none⟩=some u)→Dat.HeldAll w S (r.map encV) b off
 | [],_,_,_,_=>by simp [Dat.HeldAll]
 | v :: r,b,off,ho,h=>by
  simp only [List.map_cons,Dat.HeldAll,ZcK,ZdI];refine⟨⟨h 0 _ rfl,h 1 _ rfl,h 2 _ rfl,ho v (by simp)⟩,ZbA r b (off+3) (fun v hv=>ho v (by simp [hv])) (fun j u hu=>?_)⟩;have:=h (j+3) u (by simpa [Zam] using hu);rw [show off+3+j=off+(j+3) by omega];exact this
theorem RowS.vals {w:World} {S:Nat→Prop} {A:Option Addr} {r:Row} (h:RowS w S A r) (hr:0<r.length):∃ b off,A=some ⟨b,off,none⟩∧S b∧∀ j u,(Zam r)[j]?=some u→w.cell? ((⟨b,off,none⟩:Addr).add j)=some u:=by
 obtain⟨b,off,e,hb,hc⟩:=h.2 (by simpa using hr);exact⟨b,off,e,hb,fun j u hu=>by rw [Zbm];exact ZeN r b off hc j u hu⟩
theorem ZbZ {w:World} {base c:Nat} {A:Option Addr} {r:Row} (hll:RowOk r) (h:w.ownsRow base 51 3 (.slice A r.length c) r.length (Zam r)):RowS w (fun b=>base≤b∧b<w.heap.size) A r:=by
 refine⟨by have:=hll.1;rw [Zah (n:=32) (fun _=>rfl)];omega,fun hn=>?_⟩;obtain⟨g,e,hb,hl,hc⟩:=Zbz h (by simpa using hn);exact⟨g,0,e,⟨hb,hl⟩,ZbA r g 0 hll.2 (fun j u hu=>by rw [Nat.zero_add];exact hc j u hu)⟩
theorem ZfK:(Try.prog.info? 51).map (fun i=>(i.zero,i.size,i.bytes))=some (some (.agg #[.int .i64 0,.int .i64 0,.string ⟨#[]⟩]),3,32):=by kernel_rfl
theorem run_append_empty {P:Program} {w:World} (base:Nat) (t ty e:TypeId) (i:TypeInfo) (size:Nat) (ht:P.underlying t=some (.slice e)) (hi:P.info? e=some i)
  (v:Value) (n:Nat) (xs:List Value) (hown:w.ownsRow base e size v n xs) (A:Option Addr) (c:Nat) :
  (Builtin.append_ #[t,t] ty #[v,.slice A 0 c]).run P w=.ok v w:=by
 rcases hown.2 with ⟨rfl,rfl⟩ | ⟨g,cap,cur,rfl,_,_,hnc,_⟩
 · cases A<;>simp [Builtin.append_,run_underlying ht,sizeOf,typeInfo,hi,Builtin.lenOf,Builtin.firstCells,loadCells,loadCellsFrom]
 · cases A<;>simp [Builtin.append_,run_underlying ht,sizeOf,typeInfo,hi,Builtin.lenOf,Builtin.firstCells,hnc,storeCells,loadCells,loadCellsFrom]
theorem wpList_append_empty {P:Program} (w:World) {ops:Array Oper} {rest:List Oper} {o:Oper} {a:Act} {Q:Exit→Act→World→Prop} (hgd:o.guard=none) (s x:Operand) (t:TypeId)
  (ho:o.op=.call { callee:=.builtin .append,args:=#[s,x],argTypes:=#[t,t] })
  (base:Nat) (e:TypeId) (i:TypeInfo) (size:Nat) (ht:P.underlying t=some (.slice e)) (hi:P.info? e=some i)
  (v:Value) (n:Nat) (xs:List Value) (hs:a.eval s=v) (hown:w.ownsRow base e size v n xs) (A:Option Addr) (c:Nat) (hx:a.eval x=.slice A 0 c)
  (h:wpList P ops Q rest (a.put o.dst v) w):wpList P ops Q (o :: rest) a w:=by
 refine wpList_plain hgd fun K hK=>?_;have hrun:=run_append_empty (P:=P) (w:=w) base t o.type e i size ht hi v n xs hown A c;unfold Oper.wp;simp [execOp,ho,resolve,invoke,builtin,hs,hx,hrun,Result.andThen];exact hK _ _ h
def NewR (r:Row) (w:World) (e:Ending) (w':World):Prop:=∃ A c,e=.returned (.slice A r.length c)∧w'.ownsRow w.heap.size 51 3 (.slice A r.length c) r.length (Zam r)∧Below w.heap.size w w'
theorem Zbq (A:Option Addr) (ca:Nat) (r:Row) (S:Nat→Prop) (w:World) (h:RowS w S A r) :
  Calls Try.prog 55 #[.slice A r.length ca] w (NewR r w):=by
 have hl:=h.len';have HR:=hI h;clear h;obtain⟨i0,hi,hz0,hz1,hz2⟩:=info_parts ZfK;rcases Nat.eq_zero_or_pos r.length with h0 | h0
 · have hr:r=[]:=List.length_eq_zero_iff.1 h0;subst hr;go_enter Try.func55,Try.ntmps55
   go_wp2_with (at_builtin;refine wpList_append_empty _ rfl (.const (.slice none 0 0)) (.tmp 3) 27 rfl w.heap.size 51 i0 3 Try.underlying27 hi (.slice none 0 0) 0 [] rfl (World.ownsRow_nil _ _ _ _) A ca rfl ?_)
   go_ret;exact⟨none,0,rfl,World.ownsRow_nil _ _ _ _,Below.refl _ _⟩
 · obtain⟨b,off,rfl,hb,hc⟩:=HR.out.vals h0;have HC:=hI hc;clear hc;go_enter Try.func55,Try.ntmps55
   go_wp2_with (at_builtin;refine Zak _ rfl (.const (.slice none 0 0)) (.tmp 3) 27 rfl w.heap.size 51 i0 _ 3 32 Try.underlying27 hi hz0 hz1 hz2 rfl (by decide) (.slice none 0 0) 0 [] rfl (World.ownsRow_nil _ _ _ _) ⟨b,off,none⟩ r.length ca (Zam r) rfl (Zcz r) HC.out (Zcy r) (by unfold maxLen;omega) (by omega) nR ?_;intro A1 c1 w1 hown1 hg1)
   rw [List.nil_append] at hown1;rw [Nat.zero_add] at hown1;go_ret;exact⟨A1,c1,rfl,hown1,(Below.refl _ _).grown hg1 nR (by simp [Value.ownBlock])⟩
theorem Zbp (A B:Option Addr) (ca cb:Nat) (a b:Row) (S:Nat→Prop) (w:World) (ha:RowS w S A a) (hb:RowS w S B b) (hS:∀ b,S b→b<w.heap.size) :
  Calls Try.prog 77 #[.slice A a.length ca,.slice B b.length cb] w (Zaz (cmpR a b == 0) w):=by
 go_enter Try.func77,Try.ntmps77
 go_wp2_with fail
 refine(Zch A B ca cb a b S w ha hb hS).mono ?_;rintro e w1 ⟨rfl,hb1⟩;obtain⟨cv,hcv⟩:∃ cv,cmpR a b=cv:=⟨_,rfl⟩;have HF:=hI hcv;rw [hcv];clear hcv
 go_wp2_with fail
 go_ret;exact⟨by rw [HF.out];rfl,hb1⟩
def keyN (k:Int) (r:Row):Nat:=(max 0 (min k r.length)).toNat
def keyF (s:Sch) (t:Int) (r:Row):Row:=if hasN s.tabs.length t then r.take (keyN (s.tabs.getD t.toNat t0).key r) else []
def Sub (A:Option Addr) (r:Row) (w:World) (e:Ending) (w':World):Prop:=∃ A' c,e=.returned (.slice A' r.length c)∧(0<r.length→A'=A)∧Below w.heap.size w w'
theorem RowS.take {w:World} {S:Nat→Prop} {A:Option Addr} {r:Row} (h:RowS w S A r) (k:Nat) {A':Option Addr} (e:0<(r.take k).length→A'=A):RowS w S A' (r.take k):=by
 refine⟨?_,fun hn=>?_⟩
 · have:=h.1;rw [Zah (n:=32) (fun _=>rfl)] at this ⊢;simp only [List.length_take];omega
 · have hn':0<(r.take k).length:=(by simpa using hn);obtain⟨b,off,e1,hb,hc⟩:=h.vals (by simp at hn';omega);refine⟨b,off,(e hn').trans e1,hb,ZbA _ b off (fun v hv=>h.ok.2 v (List.mem_of_mem_take hv)) (fun j u hu=>?_)⟩
   have hv:∀ (r:Row) (k j:Nat) (u:Value),(Zam (r.take k))[j]?=some u→(Zam r)[j]?=some u:=by
    intro r;induction r with
    | nil=>intro k j u hu;simpa using hu
    | cons v r ih =>
     intro k j u hu;cases k with
     | zero=>simp [Zam] at hu
     | succ k =>
      rw [List.take_succ_cons] at hu
      match j,hu with
      | 0,hu=>exact hu
      | 1,hu=>exact hu
      | 2,hu=>exact hu
      | j+3,hu =>
       simp only [Zam,List.getElem?_cons_succ] at hu ⊢;exact ih k j u hu
   have:=hc j u (hv r k j u hu);rw [Zbm] at this;exact this
theorem RowS.key {w:World} {S:Nat→Prop} {A:Option Addr} {r:Row} (h:RowS w S A r) (s:Sch) (t:Int) {A':Option Addr} (e:0<(keyF s t r).length→A'=A):RowS w S A' (keyF s t r):=by
 unfold keyF at e ⊢;split
 · rename_i hh
   rw [if_pos hh] at e;exact h.take _ e
 · exact RowS.nil_
theorem Zck (A0:Option Addr) (c0':Nat) (s:Sch) (t:Int) (A:Option Addr) (ca:Nat) (r:Row) (S:Nat→Prop) (w:World) (hs:TabS w S A0 s.tabs) (hr:RowS w S A r) (hca:r.length≤ca) (hS:∀ b,S b→b<w.heap.size) :
  Calls Try.prog 61 #[sAgg s.version A0 s.tabs.length c0',.int .i64 t,.slice A r.length ca] w (Sub A (keyF s t r) w):=by
 have hsl:=hs.len;have hrl:=hr.len;have HS:=hI hs;have HR:=hI hr;clear hs hr;have HB1:=hI ((Below.refl w.heap.size w).alloc nR (.cells #[.int .i64 s.version,.slice A0 s.tabs.length c0'] 25))
 by_cases hh:hasN s.tabs.length t=true
 · have HKF:=hI (show keyF s t r=r.take (keyN (s.tabs.getD t.toNat t0).key r) by unfold keyF;rw [if_pos hh]);have hh0:0≤t∧t<s.tabs.length:=(by simpa [hasN] using hh);clear hh;obtain⟨tt,rfl⟩:=Int.eq_ofNat_of_zero_le hh0.1;rw [Int.toNat_natCast] at HKF;have htl:tt<s.tabs.length:=(by omega);obtain⟨b2,o2,rfl,hb2,A1,A2,A3,c1,c2,c3,hta⟩:=HS.out.at_ htl;have k1:=hta.key;have hl2:b2<w.heap.size:=hS b2 hb2;clear hta;generalize s.tabs.getD tt t0=tb at k1 HKF;obtain⟨tn,tc,tk,tr,tp⟩:=tb;simp only at k1 HKF;have hd1:decide ((tt:Int)<0)=false:=(by simp);have hd2:decide (s.tabs.length≤tt)=false:=(by simp;omega);have HL:=hI (show keyN tk r≤r.length by unfold keyN;omega);go_enter Try.func61,Try.ntmps61
   go_wp2_with fail
   go_ret;rw [HKF.out];exact⟨A,ca,by rw [List.length_take,Nat.min_eq_left HL.out];rfl,fun h=>rfl,HB1.out⟩
 · have HKF:=hI (show keyF s t r=[] by unfold keyF;rw [if_neg hh])
   have hh':t<0∨(s.tabs.length:Int)≤t:=by
    have:hasN s.tabs.length t=false:=(by simpa using hh);simp [hasN] at this;omega
   clear hh
   by_cases h0:t<0
   · have hd1:decide (t<0)=true:=(by simp [h0]);go_enter Try.func61,Try.ntmps61
     go_wp2_with fail
     go_ret;rw [HKF.out];exact⟨none,0,rfl,fun h=>absurd h (by simp),HB1.out⟩
   · have hd1:decide (t<0)=false:=(by simpa using h0);have hd2:decide ((s.tabs.length:Int)≤t)=true:=(by simp;omega);go_enter Try.func61,Try.ntmps61
     go_wp2_with fail
     go_ret;rw [HKF.out];exact⟨none,0,rfl,fun h=>absurd h (by simp),HB1.out⟩
def ZdB (m:Int):Bool:=decide (m=1)||decide (m=2)||decide (m=3)
def Zas (m key kind:Int) (i:Nat) (v:V):Bool :=
 Zai v&&(decide (v.k=kind)||(decide (v.k=2)&&decide (m≠1)&&decide (key≤i))||(decide (v.k=1)&&decide (m=3)&&decide (key≤i)))
def ZaP (m key:Int):Nat→List Col→Row→Bool
 | i,c :: cs,v :: r=>Zas m key c.kind i v&&ZaP m key (i+1) cs r
 | _,_,_=>true
def Zbi (s:Sch) (t:Int) (r:Row) (m:Int):Bool :=
 ZdB m&&hasN s.tabs.length t&&decide (r.length=(s.tabs.getD t.toNat t0).cols.length)&&ZaP m (s.tabs.getD t.toNat t0).key 0 (s.tabs.getD t.toNat t0).cols r
theorem ZbP {m key:Int}:∀ (k i:Nat) (cs:List Col) (r:Row),k<r.length→r.length=cs.length→ZaP m key i (cs.drop k) (r.drop k)=(Zas m key (cs.getD k c0).kind i (r.getD k v0)&&ZaP m key (i+1) (cs.drop (k+1)) (r.drop (k+1))):=by
 intro k i cs r h1 h2;rw [List.drop_eq_getElem_cons h1,List.drop_eq_getElem_cons (show k<cs.length by omega)];have e1:r.getD k v0=r[k]:=(by simp [List.getD,h1]);have e2:cs.getD k c0=cs[k]:=(by simp [List.getD,show k<cs.length by omega]);rw [e1,e2];rfl
theorem Zds (A0:Option Addr) (c0':Nat) (s:Sch) (t m:Int) (A:Option Addr) (ca:Nat) (r:Row) (S:Nat→Prop) (w:World) (hs:TabS w S A0 s.tabs) (hr:RowS w S A r) (hS:∀ b,S b→b<w.heap.size) :
  Calls Try.prog 59 #[sAgg s.version A0 s.tabs.length c0',.int .i64 t,.slice A r.length ca,.int .i64 m] w (Zaz (Zbi s t r m) w):=by
 have hsl:=hs.len;have hrl:=hr.len;have HOK:=hI hr.ok;have HS:=hI hs;have HR:=hI hr;clear hs hr;have HB0:=hI ((Below.refl w.heap.size w).alloc nR (.cells #[.int .i64 s.version,.slice A0 s.tabs.length c0'] 25))
 by_cases hm:ZdB m=true
 · have hm':m=1∨m=2∨m=3:=by simpa [ZdB,or_assoc] using hm
   by_cases hh:hasN s.tabs.length t=true
   · have hh0:0≤t∧t<s.tabs.length:=(by simpa [hasN] using hh);have HF:=hI (show Zbi s t r m=(decide (r.length=(s.tabs.getD t.toNat t0).cols.length)&&ZaP m (s.tabs.getD t.toNat t0).key 0 (s.tabs.getD t.toNat t0).cols r) by unfold Zbi;rw [hm,hh];simp);have HH:=hI hh;clear hh hm;obtain⟨tt,rfl⟩:=Int.eq_ofNat_of_zero_le hh0.1;rw [Int.toNat_natCast] at HF;have htl:tt<s.tabs.length:=(by omega);rcases hm' with rfl | rfl | rfl
     · go_enter Try.func59,Try.ntmps59
       go_wp2_with fail
       refine(ZbO _ tt A0 s.tabs.length c0' _ hsl).mono ?_;rintro e w1 ⟨rfl,hb1⟩;rw [HH.out];have HB1:=hI (HB0.out.trans (hb1.mono (by simp)));have cb:w1.cell? ⟨w.heap.size,1,none⟩=some (.slice A0 s.tabs.length c0'):=cQ hb1 (by simp) (by simp [cell_of_row _ _ _ _ _ _ (heap_alloc_new w _)]);have hz1:w.heap.size<w1.heap.size:=(by have:=hb1.size;simp at this;omega);clear hb1;obtain⟨b2,o2,rfl,hb2,A1,A2,A3,c1,c2,c3,hta⟩:=(HS.out.keep (Same.of_below HB1.out hS)).at_ htl;obtain⟨k1,k2,k3,k4,k5,cS,rS,pS,-,-,-,-⟩:=hta;have HCS:=hI cS;have hcl:=cS.len;have hl2:b2<w1.heap.size:=(by have:=hS b2 hb2;omega);clear cS rS pS;generalize s.tabs.getD tt t0=tb at k1 k2 k3 k4 k5 HCS hcl HF;obtain⟨tn,tc,tk,tr,tp⟩:=tb;simp only at k1 k2 k3 k4 k5 HCS hcl HF
       by_cases hrc:r.length=tc.length
       · have hd:((r.length:Int) != tc.length)=false:=(by simp;omega);have HRC:=hI (show decide (r.length=tc.length)=true by simp [hrc])
         go_wp2_with fail
         go_loopw [43] (fun i wr=>∃ k:Nat,k≤r.length∧i=.int .i64 k∧ZaP 1 tk 0 tc r=ZaP 1 tk k (tc.drop k) (r.drop k)∧Below w1.heap.size w1 wr∧wr.cell? ⟨w1.heap.size,1,none⟩=some (.slice A1 tc.length c1)∧wr.cell? ⟨w1.heap.size,2,none⟩=some (.int .i64 tk)∧w1.heap.size<wr.heap.size) (fun i _=>r.length - (intOf i).toNat)
         case atStart=>exact⟨0,Nat.zero_le _,rfl,by simp,(Below.refl _ _).alloc nR _,by simp [cell_of_row _ _ _ _ _ _ (heap_alloc_new w1 _)],by simp [cell_of_row _ _ _ _ _ _ (heap_alloc_new w1 _)],by simp⟩
         case round =>
          obtain⟨k,hk,rfl,hft,hbel,t1,t2,hw1⟩:=hrel;have HT:=hI hft;have HBEL:=hI hbel;clear hft hbel k1 k2 k3 k4 k5 cb;have HBW:=hI (HB1.out.trans (HBEL.out.mono (by omega)))
          by_cases hkl:k<r.length
          · obtain⟨b3,o3,rfl,hb3,d1,d2,d3⟩:=(HR.out.keep (Same.of_below HBW.out hS)).at_ hkl;obtain⟨b4,o4,rfl,hb4,f1,f2⟩:=(HCS.out.keep (fun b hb=>(HBEL.out.block b (by have:=hS b hb;omega)))).at_ (show k<tc.length by omega);have hl3:b3<wr.heap.size:=(by have:=hS b3 hb3;omega);have hl4:b4<wr.heap.size:=(by have:=hS b4 hb4;omega);have hkt:(k:Int)<tc.length:=(by omega);have HSTEP:=hI (ZbP (m:=1) (key:=tk) k k tc r hkl hrc);have HV:=hI (HOK.out.at_ k);generalize r.getD k v0=v at d1 d2 d3 HSTEP HV;generalize tc.getD k c0=cl at f1 f2 HSTEP;obtain⟨vk,vi,vt⟩:=v;obtain⟨cn,ck⟩:=cl;simp only at d1 d2 d3 HSTEP HV f1 f2
            go_wp2_with fail
            refine(Zbn ⟨vk,vi,vt⟩ _ HV.out).mono ?_;rintro e w2 ⟨rfl,hb2'⟩;have hz2:wr.heap.size<w2.heap.size:=(by have:=hb2'.size;simp at this;omega);have HB3:=hI ((HBEL.out.alloc (by omega) _).trans (hb2'.mono (by simp;omega)));have g1:w2.cell? ⟨wr.heap.size,0,none⟩=some (.int .i64 vk):=cQ hb2' (by simp) (by simp [cell_of_row _ _ _ _ _ _ (heap_alloc_new wr _)])
            replace t1:w2.cell? ⟨w1.heap.size,1,none⟩=some (.slice (some ⟨b4,o4,none⟩) tc.length c1):=(hb2'.cell (p:=⟨w1.heap.size,1,none⟩) (by simp;omega)).trans ((World.cell?_of_block (Below.heap_alloc _ _ _ hw1)).trans t1)
            replace t2:w2.cell? ⟨w1.heap.size,2,none⟩=some (.int .i64 tk):=(hb2'.cell (p:=⟨w1.heap.size,2,none⟩) (by simp;omega)).trans ((World.cell?_of_block (Below.heap_alloc _ _ _ hw1)).trans t2)
            replace f2:w2.cell? ⟨b4,o4+k*2+1,none⟩=some (.int .i64 ck):=(hb2'.cell (p:=⟨b4,o4+k*2+1,none⟩) (by simp;omega)).trans ((World.cell?_of_block (Below.heap_alloc _ _ _ hl4)).trans f2)
            clear hb2' d1 d2 d3 f1
            by_cases hval:Zai ⟨vk,vi,vt⟩=true
            · have HVT:=hI hval;rw [hval];clear hval
              by_cases hkc:vk=ck
              · subst hkc
                by_cases h2:vk=2
                · subst h2;have ek:((2:Int) != 2)=false:=(by simp);have HVV:=hI (show Zas 1 tk 2 k ⟨2,vi,vt⟩=true by simp only [Zas,HVT.out];simp)
                  go_wp2_with fail
                  go_quiet (fail)
                  go_wp2_with fail
                  go_roundw
                  case rel=>exact⟨k+1,by omega,by go_num,by rw [HT.out,HSTEP.out,HVV.out];rfl,Zad HB3.out _,t1,t2,by show w1.heap.size<w2.heap.size;omega⟩
                  case measure=>simp [intOf];omega
                · have e2:(vk == 2)=false:=beq_eq_false_iff_ne.2 h2
                  by_cases h1:vk=1
                  · subst h1;have ek:((1:Int) != 1)=false:=(by simp);have HVV:=hI (show Zas 1 tk 1 k ⟨1,vi,vt⟩=true by simp only [Zas,HVT.out];simp)
                    go_wp2_with fail
                    go_quiet (fail)
                    go_wp2_with fail
                    go_roundw
                    case rel=>exact⟨k+1,by omega,by go_num,by rw [HT.out,HSTEP.out,HVV.out];rfl,Zad HB3.out _,t1,t2,by show w1.heap.size<w2.heap.size;omega⟩
                    case measure=>simp [intOf];omega
                  · have e1:(vk == 1)=false:=beq_eq_false_iff_ne.2 h1;have ek:(vk != vk)=false:=(by simp);have HVV:=hI (show Zas 1 tk vk k ⟨vk,vi,vt⟩=true by simp only [Zas,HVT.out];simp)
                    go_wp2_with fail
                    go_quiet (fail)
                    go_wp2_with fail
                    go_roundw
                    case rel=>exact⟨k+1,by omega,by go_num,by rw [HT.out,HSTEP.out,HVV.out];rfl,Zad HB3.out _,t1,t2,by show w1.heap.size<w2.heap.size;omega⟩
                    case measure=>simp [intOf];omega
              · by_cases h2:vk=2
                · subst h2;have ek:((2:Int) != ck)=true:=(by simp [hkc]);have HVV:=hI (show Zas 1 tk ck k ⟨2,vi,vt⟩=false by simp only [Zas,HVT.out];simp [hkc])
                  go_wp2_with fail
                  go_quiet (fail)
                  go_wp2_with fail
                  go_ret;exact⟨by rw [HF.out,HRC.out,HT.out,HSTEP.out,HVV.out];rfl,HB1.out.trans ((Zad HB3.out _).mono (show w.heap.size≤w1.heap.size by omega))⟩
                · have e2:(vk == 2)=false:=beq_eq_false_iff_ne.2 h2
                  by_cases h1:vk=1
                  · subst h1;have ek:((1:Int) != ck)=true:=(by simp [hkc]);have HVV:=hI (show Zas 1 tk ck k ⟨1,vi,vt⟩=false by simp only [Zas,HVT.out];simp [hkc])
                    go_wp2_with fail
                    go_quiet (fail)
                    go_wp2_with fail
                    go_ret;exact⟨by rw [HF.out,HRC.out,HT.out,HSTEP.out,HVV.out];rfl,HB1.out.trans ((Zad HB3.out _).mono (show w.heap.size≤w1.heap.size by omega))⟩
                  · have e1:(vk == 1)=false:=beq_eq_false_iff_ne.2 h1;have ek:(vk != ck)=true:=(by simp [hkc]);have HVV:=hI (show Zas 1 tk ck k ⟨vk,vi,vt⟩=false by simp only [Zas,HVT.out];simp [hkc,h1,h2])
                    go_wp2_with fail
                    go_quiet (fail)
                    go_wp2_with fail
                    go_ret;exact⟨by rw [HF.out,HRC.out,HT.out,HSTEP.out,HVV.out];rfl,HB1.out.trans ((Zad HB3.out _).mono (show w.heap.size≤w1.heap.size by omega))⟩
            · have hvf:Zai ⟨vk,vi,vt⟩=false:=(by simpa using hval);have HVV:=hI (show Zas 1 tk ck k ⟨vk,vi,vt⟩=false by simp [Zas,hvf]);rw [hvf];clear hval hvf
              go_wp2_with fail
              go_ret;exact⟨by rw [HF.out,HRC.out,HT.out,HSTEP.out,HVV.out];rfl,HB1.out.trans (HB3.out.mono (by omega))⟩
          · have HKE:=hI (show k=r.length by omega)
            go_wp2_with fail
            go_ret;exact⟨by rw [HF.out,HRC.out,HT.out,HKE.out,List.drop_length];rw [show ∀ l,ZaP 1 tk r.length l []=true from fun l=>by cases l<;>rfl];rfl,HBW.out⟩
       · have hd:((r.length:Int) != tc.length)=true:=(by simp;omega);have HRC:=hI (show decide (r.length=tc.length)=false by simp [hrc])
         go_wp2_with fail
         go_ret;exact⟨by rw [HF.out,HRC.out];rfl,HB1.out.alloc (by omega) _⟩
     · go_enter Try.func59,Try.ntmps59
       go_wp2_with fail
       refine(ZbO _ tt A0 s.tabs.length c0' _ hsl).mono ?_;rintro e w1 ⟨rfl,hb1⟩;rw [HH.out];have HB1:=hI (HB0.out.trans (hb1.mono (by simp)));have cb:w1.cell? ⟨w.heap.size,1,none⟩=some (.slice A0 s.tabs.length c0'):=cQ hb1 (by simp) (by simp [cell_of_row _ _ _ _ _ _ (heap_alloc_new w _)]);have hz1:w.heap.size<w1.heap.size:=(by have:=hb1.size;simp at this;omega);clear hb1;obtain⟨b2,o2,rfl,hb2,A1,A2,A3,c1,c2,c3,hta⟩:=(HS.out.keep (Same.of_below HB1.out hS)).at_ htl;obtain⟨k1,k2,k3,k4,k5,cS,rS,pS,-,-,-,-⟩:=hta;have HCS:=hI cS;have hcl:=cS.len;have hl2:b2<w1.heap.size:=(by have:=hS b2 hb2;omega);clear cS rS pS;generalize s.tabs.getD tt t0=tb at k1 k2 k3 k4 k5 HCS hcl HF;obtain⟨tn,tc,tk,tr,tp⟩:=tb;simp only at k1 k2 k3 k4 k5 HCS hcl HF
       by_cases hrc:r.length=tc.length
       · have hd:((r.length:Int) != tc.length)=false:=(by simp;omega);have HRC:=hI (show decide (r.length=tc.length)=true by simp [hrc])
         go_wp2_with fail
         go_loopw [43] (fun i wr=>∃ k:Nat,k≤r.length∧i=.int .i64 k∧ZaP 2 tk 0 tc r=ZaP 2 tk k (tc.drop k) (r.drop k)∧Below w1.heap.size w1 wr∧wr.cell? ⟨w1.heap.size,1,none⟩=some (.slice A1 tc.length c1)∧wr.cell? ⟨w1.heap.size,2,none⟩=some (.int .i64 tk)∧w1.heap.size<wr.heap.size) (fun i _=>r.length - (intOf i).toNat)
         case atStart=>exact⟨0,Nat.zero_le _,rfl,by simp,(Below.refl _ _).alloc nR _,by simp [cell_of_row _ _ _ _ _ _ (heap_alloc_new w1 _)],by simp [cell_of_row _ _ _ _ _ _ (heap_alloc_new w1 _)],by simp⟩
         case round =>
          obtain⟨k,hk,rfl,hft,hbel,t1,t2,hw1⟩:=hrel;have HT:=hI hft;have HBEL:=hI hbel;clear hft hbel k1 k2 k3 k4 k5 cb;have HBW:=hI (HB1.out.trans (HBEL.out.mono (by omega)))
          by_cases hkl:k<r.length
          · obtain⟨b3,o3,rfl,hb3,d1,d2,d3⟩:=(HR.out.keep (Same.of_below HBW.out hS)).at_ hkl;obtain⟨b4,o4,rfl,hb4,f1,f2⟩:=(HCS.out.keep (fun b hb=>(HBEL.out.block b (by have:=hS b hb;omega)))).at_ (show k<tc.length by omega);have hl3:b3<wr.heap.size:=(by have:=hS b3 hb3;omega);have hl4:b4<wr.heap.size:=(by have:=hS b4 hb4;omega);have hkt:(k:Int)<tc.length:=(by omega);have HSTEP:=hI (ZbP (m:=2) (key:=tk) k k tc r hkl hrc);have HV:=hI (HOK.out.at_ k);generalize r.getD k v0=v at d1 d2 d3 HSTEP HV;generalize tc.getD k c0=cl at f1 f2 HSTEP;obtain⟨vk,vi,vt⟩:=v;obtain⟨cn,ck⟩:=cl;simp only at d1 d2 d3 HSTEP HV f1 f2
            go_wp2_with fail
            refine(Zbn ⟨vk,vi,vt⟩ _ HV.out).mono ?_;rintro e w2 ⟨rfl,hb2'⟩;have hz2:wr.heap.size<w2.heap.size:=(by have:=hb2'.size;simp at this;omega);have HB3:=hI ((HBEL.out.alloc (by omega) _).trans (hb2'.mono (by simp;omega)));have g1:w2.cell? ⟨wr.heap.size,0,none⟩=some (.int .i64 vk):=cQ hb2' (by simp) (by simp [cell_of_row _ _ _ _ _ _ (heap_alloc_new wr _)])
            replace t1:w2.cell? ⟨w1.heap.size,1,none⟩=some (.slice (some ⟨b4,o4,none⟩) tc.length c1):=(hb2'.cell (p:=⟨w1.heap.size,1,none⟩) (by simp;omega)).trans ((World.cell?_of_block (Below.heap_alloc _ _ _ hw1)).trans t1)
            replace t2:w2.cell? ⟨w1.heap.size,2,none⟩=some (.int .i64 tk):=(hb2'.cell (p:=⟨w1.heap.size,2,none⟩) (by simp;omega)).trans ((World.cell?_of_block (Below.heap_alloc _ _ _ hw1)).trans t2)
            replace f2:w2.cell? ⟨b4,o4+k*2+1,none⟩=some (.int .i64 ck):=(hb2'.cell (p:=⟨b4,o4+k*2+1,none⟩) (by simp;omega)).trans ((World.cell?_of_block (Below.heap_alloc _ _ _ hl4)).trans f2)
            clear hb2' d1 d2 d3 f1
            by_cases hval:Zai ⟨vk,vi,vt⟩=true
            · have HVT:=hI hval;rw [hval];clear hval
              by_cases hkc:vk=ck
              · subst hkc
                by_cases h2:vk=2
                · subst h2;have ek:((2:Int) != 2)=false:=(by simp);have HVV:=hI (show Zas 2 tk 2 k ⟨2,vi,vt⟩=true by simp only [Zas,HVT.out];simp)
                  go_wp2_with fail
                  go_quiet (fail)
                  go_wp2_with fail
                  go_roundw
                  case rel=>exact⟨k+1,by omega,by go_num,by rw [HT.out,HSTEP.out,HVV.out];rfl,Zad HB3.out _,t1,t2,by show w1.heap.size<w2.heap.size;omega⟩
                  case measure=>simp [intOf];omega
                · have e2:(vk == 2)=false:=beq_eq_false_iff_ne.2 h2
                  by_cases h1:vk=1
                  · subst h1;have ek:((1:Int) != 1)=false:=(by simp);have HVV:=hI (show Zas 2 tk 1 k ⟨1,vi,vt⟩=true by simp only [Zas,HVT.out];simp)
                    go_wp2_with fail
                    go_quiet (fail)
                    go_wp2_with fail
                    go_roundw
                    case rel=>exact⟨k+1,by omega,by go_num,by rw [HT.out,HSTEP.out,HVV.out];rfl,Zad HB3.out _,t1,t2,by show w1.heap.size<w2.heap.size;omega⟩
                    case measure=>simp [intOf];omega
                  · have e1:(vk == 1)=false:=beq_eq_false_iff_ne.2 h1;have ek:(vk != vk)=false:=(by simp);have HVV:=hI (show Zas 2 tk vk k ⟨vk,vi,vt⟩=true by simp only [Zas,HVT.out];simp)
                    go_wp2_with fail
                    go_quiet (fail)
                    go_wp2_with fail
                    go_roundw
                    case rel=>exact⟨k+1,by omega,by go_num,by rw [HT.out,HSTEP.out,HVV.out];rfl,Zad HB3.out _,t1,t2,by show w1.heap.size<w2.heap.size;omega⟩
                    case measure=>simp [intOf];omega
              · by_cases h2:vk=2
                · subst h2
                  by_cases hki:tk≤(k:Int)
                  · have ei:decide (tk≤(k:Int))=true:=(by simp [hki]);have ek:((2:Int) != ck)=true:=(by simp [hkc]);have HVV:=hI (show Zas 2 tk ck k ⟨2,vi,vt⟩=true by simp only [Zas,HVT.out];simp [hki])
                    go_wp2_with fail
                    go_quiet (fail)
                    go_wp2_with fail
                    go_roundw
                    case rel=>exact⟨k+1,by omega,by go_num,by rw [HT.out,HSTEP.out,HVV.out];rfl,Zad HB3.out _,t1,t2,by show w1.heap.size<w2.heap.size;omega⟩
                    case measure=>simp [intOf];omega
                  · have ei:decide (tk≤(k:Int))=false:=(by simpa using hki);have ek:((2:Int) != ck)=true:=(by simp [hkc]);have HVV:=hI (show Zas 2 tk ck k ⟨2,vi,vt⟩=false by simp only [Zas,HVT.out];simp [hkc,hki])
                    go_wp2_with fail
                    go_quiet (fail)
                    go_wp2_with fail
                    go_ret;exact⟨by rw [HF.out,HRC.out,HT.out,HSTEP.out,HVV.out];rfl,HB1.out.trans ((Zad HB3.out _).mono (show w.heap.size≤w1.heap.size by omega))⟩
                · have e2:(vk == 2)=false:=beq_eq_false_iff_ne.2 h2
                  by_cases h1:vk=1
                  · subst h1;have ek:((1:Int) != ck)=true:=(by simp [hkc]);have HVV:=hI (show Zas 2 tk ck k ⟨1,vi,vt⟩=false by simp only [Zas,HVT.out];simp [hkc])
                    go_wp2_with fail
                    go_quiet (fail)
                    go_wp2_with fail
                    go_ret;exact⟨by rw [HF.out,HRC.out,HT.out,HSTEP.out,HVV.out];rfl,HB1.out.trans ((Zad HB3.out _).mono (show w.heap.size≤w1.heap.size by omega))⟩
                  · have e1:(vk == 1)=false:=beq_eq_false_iff_ne.2 h1;have ek:(vk != ck)=true:=(by simp [hkc]);have HVV:=hI (show Zas 2 tk ck k ⟨vk,vi,vt⟩=false by simp only [Zas,HVT.out];simp [hkc,h1,h2])
                    go_wp2_with fail
                    go_quiet (fail)
                    go_wp2_with fail
                    go_ret;exact⟨by rw [HF.out,HRC.out,HT.out,HSTEP.out,HVV.out];rfl,HB1.out.trans ((Zad HB3.out _).mono (show w.heap.size≤w1.heap.size by omega))⟩
            · have hvf:Zai ⟨vk,vi,vt⟩=false:=(by simpa using hval);have HVV:=hI (show Zas 2 tk ck k ⟨vk,vi,vt⟩=false by simp [Zas,hvf]);rw [hvf];clear hval hvf
              go_wp2_with fail
              go_ret;exact⟨by rw [HF.out,HRC.out,HT.out,HSTEP.out,HVV.out];rfl,HB1.out.trans (HB3.out.mono (by omega))⟩
          · have HKE:=hI (show k=r.length by omega)
            go_wp2_with fail
            go_ret;exact⟨by rw [HF.out,HRC.out,HT.out,HKE.out,List.drop_length];rw [show ∀ l,ZaP 2 tk r.length l []=true from fun l=>by cases l<;>rfl];rfl,HBW.out⟩
       · have hd:((r.length:Int) != tc.length)=true:=(by simp;omega);have HRC:=hI (show decide (r.length=tc.length)=false by simp [hrc])
         go_wp2_with fail
         go_ret;exact⟨by rw [HF.out,HRC.out];rfl,HB1.out.alloc (by omega) _⟩
     · go_enter Try.func59,Try.ntmps59
       go_wp2_with fail
       refine(ZbO _ tt A0 s.tabs.length c0' _ hsl).mono ?_;rintro e w1 ⟨rfl,hb1⟩;rw [HH.out];have HB1:=hI (HB0.out.trans (hb1.mono (by simp)));have cb:w1.cell? ⟨w.heap.size,1,none⟩=some (.slice A0 s.tabs.length c0'):=cQ hb1 (by simp) (by simp [cell_of_row _ _ _ _ _ _ (heap_alloc_new w _)]);have hz1:w.heap.size<w1.heap.size:=(by have:=hb1.size;simp at this;omega);clear hb1;obtain⟨b2,o2,rfl,hb2,A1,A2,A3,c1,c2,c3,hta⟩:=(HS.out.keep (Same.of_below HB1.out hS)).at_ htl;obtain⟨k1,k2,k3,k4,k5,cS,rS,pS,-,-,-,-⟩:=hta;have HCS:=hI cS;have hcl:=cS.len;have hl2:b2<w1.heap.size:=(by have:=hS b2 hb2;omega);clear cS rS pS;generalize s.tabs.getD tt t0=tb at k1 k2 k3 k4 k5 HCS hcl HF;obtain⟨tn,tc,tk,tr,tp⟩:=tb;simp only at k1 k2 k3 k4 k5 HCS hcl HF
       by_cases hrc:r.length=tc.length
       · have hd:((r.length:Int) != tc.length)=false:=(by simp;omega);have HRC:=hI (show decide (r.length=tc.length)=true by simp [hrc])
         go_wp2_with fail
         go_loopw [43] (fun i wr=>∃ k:Nat,k≤r.length∧i=.int .i64 k∧ZaP 3 tk 0 tc r=ZaP 3 tk k (tc.drop k) (r.drop k)∧Below w1.heap.size w1 wr∧wr.cell? ⟨w1.heap.size,1,none⟩=some (.slice A1 tc.length c1)∧wr.cell? ⟨w1.heap.size,2,none⟩=some (.int .i64 tk)∧w1.heap.size<wr.heap.size) (fun i _=>r.length - (intOf i).toNat)
         case atStart=>exact⟨0,Nat.zero_le _,rfl,by simp,(Below.refl _ _).alloc nR _,by simp [cell_of_row _ _ _ _ _ _ (heap_alloc_new w1 _)],by simp [cell_of_row _ _ _ _ _ _ (heap_alloc_new w1 _)],by simp⟩
         case round =>
          obtain⟨k,hk,rfl,hft,hbel,t1,t2,hw1⟩:=hrel;have HT:=hI hft;have HBEL:=hI hbel;clear hft hbel k1 k2 k3 k4 k5 cb;have HBW:=hI (HB1.out.trans (HBEL.out.mono (by omega)))
          by_cases hkl:k<r.length
          · obtain⟨b3,o3,rfl,hb3,d1,d2,d3⟩:=(HR.out.keep (Same.of_below HBW.out hS)).at_ hkl;obtain⟨b4,o4,rfl,hb4,f1,f2⟩:=(HCS.out.keep (fun b hb=>(HBEL.out.block b (by have:=hS b hb;omega)))).at_ (show k<tc.length by omega);have hl3:b3<wr.heap.size:=(by have:=hS b3 hb3;omega);have hl4:b4<wr.heap.size:=(by have:=hS b4 hb4;omega);have hkt:(k:Int)<tc.length:=(by omega);have HSTEP:=hI (ZbP (m:=3) (key:=tk) k k tc r hkl hrc);have HV:=hI (HOK.out.at_ k);generalize r.getD k v0=v at d1 d2 d3 HSTEP HV;generalize tc.getD k c0=cl at f1 f2 HSTEP;obtain⟨vk,vi,vt⟩:=v;obtain⟨cn,ck⟩:=cl;simp only at d1 d2 d3 HSTEP HV f1 f2
            go_wp2_with fail
            refine(Zbn ⟨vk,vi,vt⟩ _ HV.out).mono ?_;rintro e w2 ⟨rfl,hb2'⟩;have hz2:wr.heap.size<w2.heap.size:=(by have:=hb2'.size;simp at this;omega);have HB3:=hI ((HBEL.out.alloc (by omega) _).trans (hb2'.mono (by simp;omega)));have g1:w2.cell? ⟨wr.heap.size,0,none⟩=some (.int .i64 vk):=cQ hb2' (by simp) (by simp [cell_of_row _ _ _ _ _ _ (heap_alloc_new wr _)])
            replace t1:w2.cell? ⟨w1.heap.size,1,none⟩=some (.slice (some ⟨b4,o4,none⟩) tc.length c1):=(hb2'.cell (p:=⟨w1.heap.size,1,none⟩) (by simp;omega)).trans ((World.cell?_of_block (Below.heap_alloc _ _ _ hw1)).trans t1)
            replace t2:w2.cell? ⟨w1.heap.size,2,none⟩=some (.int .i64 tk):=(hb2'.cell (p:=⟨w1.heap.size,2,none⟩) (by simp;omega)).trans ((World.cell?_of_block (Below.heap_alloc _ _ _ hw1)).trans t2)
            replace f2:w2.cell? ⟨b4,o4+k*2+1,none⟩=some (.int .i64 ck):=(hb2'.cell (p:=⟨b4,o4+k*2+1,none⟩) (by simp;omega)).trans ((World.cell?_of_block (Below.heap_alloc _ _ _ hl4)).trans f2)
            clear hb2' d1 d2 d3 f1
            by_cases hval:Zai ⟨vk,vi,vt⟩=true
            · have HVT:=hI hval;rw [hval];clear hval
              by_cases hkc:vk=ck
              · subst hkc
                by_cases h2:vk=2
                · subst h2;have ek:((2:Int) != 2)=false:=(by simp);have HVV:=hI (show Zas 3 tk 2 k ⟨2,vi,vt⟩=true by simp only [Zas,HVT.out];simp)
                  go_wp2_with fail
                  go_quiet (fail)
                  go_wp2_with fail
                  go_roundw
                  case rel=>exact⟨k+1,by omega,by go_num,by rw [HT.out,HSTEP.out,HVV.out];rfl,Zad HB3.out _,t1,t2,by show w1.heap.size<w2.heap.size;omega⟩
                  case measure=>simp [intOf];omega
                · have e2:(vk == 2)=false:=beq_eq_false_iff_ne.2 h2
                  by_cases h1:vk=1
                  · subst h1;have ek:((1:Int) != 1)=false:=(by simp);have HVV:=hI (show Zas 3 tk 1 k ⟨1,vi,vt⟩=true by simp only [Zas,HVT.out];simp)
                    go_wp2_with fail
                    go_quiet (fail)
                    go_wp2_with fail
                    go_roundw
                    case rel=>exact⟨k+1,by omega,by go_num,by rw [HT.out,HSTEP.out,HVV.out];rfl,Zad HB3.out _,t1,t2,by show w1.heap.size<w2.heap.size;omega⟩
                    case measure=>simp [intOf];omega
                  · have e1:(vk == 1)=false:=beq_eq_false_iff_ne.2 h1;have ek:(vk != vk)=false:=(by simp);have HVV:=hI (show Zas 3 tk vk k ⟨vk,vi,vt⟩=true by simp only [Zas,HVT.out];simp)
                    go_wp2_with fail
                    go_quiet (fail)
                    go_wp2_with fail
                    go_roundw
                    case rel=>exact⟨k+1,by omega,by go_num,by rw [HT.out,HSTEP.out,HVV.out];rfl,Zad HB3.out _,t1,t2,by show w1.heap.size<w2.heap.size;omega⟩
                    case measure=>simp [intOf];omega
              · by_cases h2:vk=2
                · subst h2
                  by_cases hki:tk≤(k:Int)
                  · have ei:decide (tk≤(k:Int))=true:=(by simp [hki]);have ek:((2:Int) != ck)=true:=(by simp [hkc]);have HVV:=hI (show Zas 3 tk ck k ⟨2,vi,vt⟩=true by simp only [Zas,HVT.out];simp [hki])
                    go_wp2_with fail
                    go_quiet (fail)
                    go_wp2_with fail
                    go_roundw
                    case rel=>exact⟨k+1,by omega,by go_num,by rw [HT.out,HSTEP.out,HVV.out];rfl,Zad HB3.out _,t1,t2,by show w1.heap.size<w2.heap.size;omega⟩
                    case measure=>simp [intOf];omega
                  · have ei:decide (tk≤(k:Int))=false:=(by simpa using hki);have ek:((2:Int) != ck)=true:=(by simp [hkc]);have HVV:=hI (show Zas 3 tk ck k ⟨2,vi,vt⟩=false by simp only [Zas,HVT.out];simp [hkc,hki])
                    go_wp2_with fail
                    go_quiet (fail)
                    go_wp2_with fail
                    go_ret;exact⟨by rw [HF.out,HRC.out,HT.out,HSTEP.out,HVV.out];rfl,HB1.out.trans ((Zad HB3.out _).mono (show w.heap.size≤w1.heap.size by omega))⟩
                · have e2:(vk == 2)=false:=beq_eq_false_iff_ne.2 h2
                  by_cases h1:vk=1
                  · subst h1
                    by_cases hki:tk≤(k:Int)
                    · have ei:decide (tk≤(k:Int))=true:=(by simp [hki]);have ek:((1:Int) != ck)=true:=(by simp [hkc]);have HVV:=hI (show Zas 3 tk ck k ⟨1,vi,vt⟩=true by simp only [Zas,HVT.out];simp [hki])
                      go_wp2_with fail
                      go_quiet (fail)
                      go_wp2_with fail
                      go_roundw
                      case rel=>exact⟨k+1,by omega,by go_num,by rw [HT.out,HSTEP.out,HVV.out];rfl,Zad HB3.out _,t1,t2,by show w1.heap.size<w2.heap.size;omega⟩
                      case measure=>simp [intOf];omega
                    · have ei:decide (tk≤(k:Int))=false:=(by simpa using hki);have ek:((1:Int) != ck)=true:=(by simp [hkc]);have HVV:=hI (show Zas 3 tk ck k ⟨1,vi,vt⟩=false by simp only [Zas,HVT.out];simp [hkc,hki])
                      go_wp2_with fail
                      go_quiet (fail)
                      go_wp2_with fail
                      go_ret;exact⟨by rw [HF.out,HRC.out,HT.out,HSTEP.out,HVV.out];rfl,HB1.out.trans ((Zad HB3.out _).mono (show w.heap.size≤w1.heap.size by omega))⟩
                  · have e1:(vk == 1)=false:=beq_eq_false_iff_ne.2 h1;have ek:(vk != ck)=true:=(by simp [hkc]);have HVV:=hI (show Zas 3 tk ck k ⟨vk,vi,vt⟩=false by simp only [Zas,HVT.out];simp [hkc,h1,h2])
                    go_wp2_with fail
                    go_quiet (fail)
                    go_wp2_with fail
                    go_ret;exact⟨by rw [HF.out,HRC.out,HT.out,HSTEP.out,HVV.out];rfl,HB1.out.trans ((Zad HB3.out _).mono (show w.heap.size≤w1.heap.size by omega))⟩
            · have hvf:Zai ⟨vk,vi,vt⟩=false:=(by simpa using hval);have HVV:=hI (show Zas 3 tk ck k ⟨vk,vi,vt⟩=false by simp [Zas,hvf]);rw [hvf];clear hval hvf
              go_wp2_with fail
              go_ret;exact⟨by rw [HF.out,HRC.out,HT.out,HSTEP.out,HVV.out];rfl,HB1.out.trans (HB3.out.mono (by omega))⟩
          · have HKE:=hI (show k=r.length by omega)
            go_wp2_with fail
            go_ret;exact⟨by rw [HF.out,HRC.out,HT.out,HKE.out,List.drop_length];rw [show ∀ l,ZaP 3 tk r.length l []=true from fun l=>by cases l<;>rfl];rfl,HBW.out⟩
       · have hd:((r.length:Int) != tc.length)=true:=(by simp;omega);have HRC:=hI (show decide (r.length=tc.length)=false by simp [hrc])
         go_wp2_with fail
         go_ret;exact⟨by rw [HF.out,HRC.out];rfl,HB1.out.alloc (by omega) _⟩
   · have hh':hasN s.tabs.length t=false:=(by simpa using hh);have HF:=hI (show Zbi s t r m=false by unfold Zbi;rw [hm,hh'];simp);have HH:=hI hh';clear hh hh' hm;rcases hm' with rfl | rfl | rfl
     · go_enter Try.func59,Try.ntmps59
       go_wp2_with fail
       refine(ZbO _ t A0 s.tabs.length c0' _ hsl).mono ?_;rintro e w1 ⟨rfl,hb1⟩;rw [HH.out];have HB1:=hI (HB0.out.trans (hb1.mono (by simp)));clear hb1
       go_wp2_with fail
       go_ret;exact⟨by rw [HF.out];rfl,HB1.out⟩
     · go_enter Try.func59,Try.ntmps59
       go_wp2_with fail
       refine(ZbO _ t A0 s.tabs.length c0' _ hsl).mono ?_;rintro e w1 ⟨rfl,hb1⟩;rw [HH.out];have HB1:=hI (HB0.out.trans (hb1.mono (by simp)));clear hb1
       go_wp2_with fail
       go_ret;exact⟨by rw [HF.out];rfl,HB1.out⟩
     · go_enter Try.func59,Try.ntmps59
       go_wp2_with fail
       refine(ZbO _ t A0 s.tabs.length c0' _ hsl).mono ?_;rintro e w1 ⟨rfl,hb1⟩;rw [HH.out];have HB1:=hI (HB0.out.trans (hb1.mono (by simp)));clear hb1
       go_wp2_with fail
       go_ret;exact⟨by rw [HF.out];rfl,HB1.out⟩
 · have hm':m≠1∧m≠2∧m≠3:=(by simpa [ZdB,and_assoc] using hm);have HF:=hI (show Zbi s t r m=false by unfold Zbi;rw [show ZdB m=false by simpa using hm];simp);have e1:(m != 1)=true:=(by simp [hm'.1]);have e2:(m != 2)=true:=(by simp [hm'.2.1]);have e3:(m != 3)=true:=(by simp [hm'.2.2]);clear hm hm';go_enter Try.func59,Try.ntmps59
   go_wp2_with fail
   go_ret;exact⟨by rw [HF.out];rfl,HB0.out⟩
def inS (l:List ByteArray) (s:ByteArray):Bool:=l.any fun x=>decide (x.data.toList=s.data.toList)
theorem Zfv {l:List ByteArray} {s:ByteArray}:inS l s=true↔s ∈ l:=by
 unfold inS;rw [List.any_eq_true];constructor
 · rintro⟨x,hx,h⟩;have h':x.data.toList=s.data.toList:=(by simpa using h);have:x=s:=(by cases x;cases s;simpa using h');rwa [←this]
 · intro h;exact⟨s,h,by simp⟩
def SetAt (w:World) (B n:Nat) (l:List ByteArray):Prop :=
 ∃ D:DataW Unit,w.ownsMap Try.prog 9 (plainElem Try.prog 4) B n D∧Maps.IsMap D∧∀ s:ByteArray,D.atKey (.string s.data.toList) (.lit (.bool false))=.lit (.bool (inS l s))
theorem SetAt.made (w:World):SetAt (w.alloc (.map #[] 0)) w.heap.size 0 []:=⟨.map [],World.ownsMap_made w _ _ _,⟨[],rfl⟩,fun s=>by simp [DataW.atKey,inS]⟩
theorem SetAt.kept {w w':World} {B n:Nat} {l:List ByteArray} {row:Option Nat} (h:SetAt w B n l) (hg:w.grownBy w' row) (hne:some B≠row):SetAt w' B n l:=by
 obtain⟨D,h1,h2,h3⟩:=h;exact⟨D,h1.kept hg hne,h2,h3⟩
theorem SetAt.alloc {w:World} {B n:Nat} {l:List ByteArray} (h:SetAt w B n l) (o:Obj):SetAt (w.alloc o) B n l:=by
 obtain⟨D,h1,h2,h3⟩:=h;exact⟨D,h1.alloc o,h2,h3⟩
theorem SetAt.below {w w':World} {B n K:Nat} {l:List ByteArray} (h:SetAt w B n l) (hg:Below K w w') (hB:B<K):SetAt w' B n l:=by
 obtain⟨D,⟨es,clock,hb,F,hs,hD⟩,h2,h3⟩:=h;exact⟨D,⟨es,clock,(hg.block B hB).trans hb,F,hs,hD⟩,h2,h3⟩
theorem SetAt.lt {w:World} {B n:Nat} {l:List ByteArray} (h:SetAt w B n l):B<w.heap.size:=by
 obtain⟨D,h1,h2,h3⟩:=h;exact h1.lt
theorem plainElem_bool_inv {H:Type} {P:Program} {e:TypeId} (he:P.underlying e=some .bool) {v:Value} {z:DataW H × List MemPlace} (h:plainElem P e v=some z):∃ a,v=.bool a∧z=(.lit (.bool a),[]):=by
 unfold plainElem at h;rw [he] at h;cases v<;>simp at h
 exact⟨_,rfl,h.symm⟩
theorem SetAt.look {w:World} {B n:Nat} {l:List ByteArray} (h:SetAt w B n l) {s:ByteArray} (hs:s.size≤9223372036854775807):(Instr.lookup 166 (.map (some B)) (.string s) false).run Try.prog w=.ok (.bool (inS l s)) w:=by
 obtain⟨D,h1,h2,h3⟩:=h;have hz:(zeroValue 4).run Try.prog w=.ok (.bool false) w:=(by kernel_rfl);obtain⟨v,ps,hrun,hv⟩:=h1.lookup (Maps.string_keyed Try.underlying9) Try.underlying166 hz (plainElem_bool Try.underlying4 false) (WideMaps.keyOf_string_mk Try.underlying9 (s:=s) (by unfold maxLen;omega));obtain⟨a,rfl,ha⟩:=plainElem_bool_inv Try.underlying4 hv;rw [h3 s] at ha;simp only [Prod.mk.injEq,DataW.lit.injEq,Lit.bool.injEq] at ha;rw [hrun,ha.1]
theorem SetAt.put {w:World} {B n:Nat} {l:List ByteArray} (h:SetAt w B n l) (hn:n≤1000000) {s:ByteArray} (hs:s.size≤9223372036854775807) :
  ∃ w',(Instr.mapUpdate 166 (.map (some B)) (.string s) (.bool true)).run Try.prog w=.ok () w'∧SetAt w' B (n+1) (s :: l)∧w.grownBy w' (some B):=by
 obtain⟨D,h1,h2,h3⟩:=h;obtain⟨w',hrun,ho,hg⟩:=h1.update (Maps.string_keyed Try.underlying9) Try.underlying166 (by unfold maxLen;omega) (WideMaps.keyOf_string_mk Try.underlying9 (s:=s) (by unfold maxLen;omega)) (plainElem_bool Try.underlying4 true);refine⟨w',hrun,⟨_,ho,?_,fun s'=>?_⟩,hg⟩
 · obtain⟨es,rfl⟩:=h2;exact⟨_,rfl⟩
 · by_cases he:s'=s
   · subst he;rw [Maps.atKey_put_same h2 (by simp [WideAt.IsKeyLit]) _ _];simp [inS]
   · rw [Maps.atKey_put_other (by
       intro e;apply he;have e':s'.data.toList=s.data.toList:=(by simpa using e);cases s';cases s;simpa using e') _ _,h3 s']
     have:inS (s :: l) s'=inS l s':=by
      have:decide (s.data.toList=s'.data.toList)=false:=by
       simp only [decide_eq_false_iff_not];intro e;apply he;cases s';cases s;simpa using e.symm
      simp only [inS,List.any_cons,this,Bool.false_or]
     rw [this]
theorem ZaV (w:World) {ops:Array Oper} {rest:List Oper} {o:Oper} {a:Act} {Q:Exit→Act→World→Prop}
  (hg:o.guard=none) (m x v:Operand) (hop:o.op=Op.mapUpdate 166 m x v) (B n:Nat) (l:List ByteArray) (s:ByteArray)
  (hm:a.eval m=.map (some B)) (hx:a.eval x=.string s) (hv:a.eval v=.bool true) (h:SetAt w B n l) (hn:n≤1000000) (hs:s.size≤9223372036854775807)
  (hK:∀ w',SetAt w' B (n+1) (s :: l)→w.grownBy w' (some B)→wpList Try.prog ops Q rest (a.put o.dst undef) w') :
  wpList Try.prog ops Q (o :: rest) a w:=by
 refine wpList_plain hg fun K' hK'=>?_;obtain⟨w',hrun,r1,r2⟩:=h.put hn hs;unfold Oper.wp;simp [execOp,hop,hm,hx,hv,hrun,Result.andThen];exact hK' _ _ (hK w' r1 r2)
def ZaL (t:ByteArray) (i:Nat):Nat:=(t.get! i).toNat
def ZaR (i c:Nat):Bool:=(decide (97≤c)&&decide (c≤122))||(decide (i≠0)&&(decide (c=95)||(decide (48≤c)&&decide (c≤57))))
def ZaQ (t:ByteArray):Bool:=decide (1≤t.size)&&decide (t.size≤32)&&(List.range t.size).all fun i=>ZaR i (ZaL t i)
theorem decode_low {t:ByteArray} {i:Nat} (h:i<t.size) (hb:ZaL t i<128):Utf8.decode t i=(ZaL t i,1):=by
 rw [Lib.decode_at];show Lib.decodeN _ (ZaL t i) _ _ _=_;simp [Lib.decodeN,hb]
theorem decode_high {t:ByteArray} {i:Nat} (hb:128≤ZaL t i):128≤(Utf8.decode t i).1:=by
 rw [Lib.decode_at];show 128≤(Lib.decodeN _ (ZaL t i) _ _ _).1;unfold Lib.decodeN
 repeat' split
 all_goals first | omega | (simp only;omega)
theorem decode_name {t:ByteArray} {i:Nat} (h:i<t.size):ZaR i (ZaL t i)=ZaR i (Utf8.decode t i).1∧(ZaR i (Utf8.decode t i).1=true→(Utf8.decode t i).2=1):=by
 rcases Nat.lt_or_ge (ZaL t i) 128 with hb | hb
 · rw [decode_low h hb];exact⟨rfl,fun _=>rfl⟩
 · have hc:=decode_high hb;have e1:ZaR i (ZaL t i)=false:=(by simp [ZaR];omega);have e2:ZaR i (Utf8.decode t i).1=false:=(by simp [ZaR];omega);rw [e1,e2];exact⟨rfl,fun h=>by cases h⟩
theorem ZcB {t:ByteArray} {i:Nat} (h:i<t.size) (hc:ZaR i (ZaL t i)=false):ZaQ t=false:=by
 unfold ZaQ;rw [Bool.and_eq_false_iff];right;rw [List.all_eq_false];exact⟨i,List.mem_range.2 h,by simp [hc]⟩
theorem ZdX {t:ByteArray} (h1:1≤t.size) (h2:t.size≤32) (hc:∀ i,i<t.size→ZaR i (ZaL t i)=true):ZaQ t=true:=by
 unfold ZaQ;simp only [h1,h2,decide_true,Bool.true_and,List.all_eq_true];exact fun i hi=>hc i (List.mem_range.1 hi)
theorem ZdZ (s:ByteArray) (w:World) (hs:s.size≤9223372036854775807):Calls Try.prog 127 #[.string s] w (Zaz (ZaQ s) w):=by
 by_cases h1:s.size<1
 · have HF:=hI (show ZaQ s=false by simp [ZaQ];omega);go_enter Try.func127,Try.ntmps127
   go_wp2_with fail
   go_ret;exact⟨by rw [HF.out];rfl,Below.refl _ _⟩
 by_cases h2:32<s.size
 · have HF:=hI (show ZaQ s=false by simp [ZaQ];omega);go_enter Try.func127,Try.ntmps127
   go_wp2_with fail
   go_ret;exact⟨by rw [HF.out];rfl,Below.refl _ _⟩
 go_enter Try.func127,Try.ntmps127
 go_wp2_with fail
 go_loopw [] (fun wr=>∃ pos:Nat,pos≤s.size∧(∀ i,i<pos→ZaR i (ZaL s i)=true)∧wr.heap[w.heap.size]?=some (.stringIter s pos)∧Below w.heap.size w wr) (fun wr=>s.size - wr.iterPos w.heap.size)
 case atStart =>
  refine⟨0,Nat.zero_le _,fun i hi=>absurd hi (by omega),?_,?_⟩
  · have:=World.iter_heap w s 0;simpa using this
  · exact(Below.refl _ _).alloc nR _
 case round =>
  obtain⟨pos,hps,hall,hit,hbel⟩:=hrel;have HA:=hI hall;have HI:=hI hit;have HB:=hI hbel;clear hall hbel
  by_cases hp:pos<s.size
  · have hnx:∀ ty,(Instr.next (.pointer (some ⟨w.heap.size,0,none⟩)) true ty).run Try.prog wr=_:=fun ty=>Lib.run_next_any_at wr w.heap.size s pos ty hit hp;have HN:=hI (decode_name hp);have hcl:=decode_le s pos;obtain⟨c,hc⟩:∃ c,(Utf8.decode s pos).1=c:=⟨_,rfl⟩;obtain⟨d,hd⟩:∃ d,(Utf8.decode s pos).2=d:=⟨_,rfl⟩;rw [hc] at hcl HN;rw [hd] at HN;simp only [hc,hd] at hnx;clear hc hd hit;have HB2:=hI (Lib.below_iterAt HB.out (k:=w.heap.size) nR s (pos+d));have HI2:=hI (Lib.iterAt_heap wr w.heap.size s pos (pos+d) HI.out)
    have HM:=hI (show d=1→s.size - (wr.iterAt w.heap.size s (pos+d)).iterPos w.heap.size<s.size - wr.iterPos w.heap.size by
     intro hd1;simp only [World.iterPos,HI2.out,HI.out];omega)
    have HS:=hI (show ZaR pos c=true→∃ p:Nat,p≤s.size∧(∀ i,i<p→ZaR i (ZaL s i)=true)∧(wr.iterAt w.heap.size s (pos+d)).heap[w.heap.size]?=some (.stringIter s p)∧Below w.heap.size w (wr.iterAt w.heap.size s (pos+d)) by
     intro hc;have hd1:=HN.out.2 hc;refine⟨pos+d,by omega,fun i hi=>?_,HI2.out,HB2.out⟩;rcases Nat.lt_or_ge i pos with h | h
     · exact HA.out i h
     · have:i=pos:=(by omega);subst this;exact HN.out.1.trans hc)
    have HFF:=hI (show ZaR pos c=false→ZaQ s=false from fun hc=>ZcB hp (HN.out.1.trans hc))
    by_cases hl:97≤c∧c≤122
    · have HC:=hI (show ZaR pos c=true by simp [ZaR,hl]);have hl1:=hl.1;have hl2:=hl.2;clear hl
      go_wp2_with fail
      go_roundw
      case rel=>exact HS.out HC.out
      case measure=>exact HM.out (HN.out.2 HC.out)
    · by_cases hl1:c<97
      · by_cases h0:pos=0
        · subst h0;have HF:=hI (HFF.out (by simp [ZaR];omega));have HB3:=hI (show Below w.heap.size w (wr.iterAt w.heap.size s d) by have:=HB2.out;rwa [Nat.zero_add] at this)
          go_wp2_with fail
          go_ret;exact⟨by rw [HF.out];rfl,HB3.out⟩
        · have e0:((pos:Int) == 0)=false:=by simp;omega
          by_cases h95:c=95
          · subst h95;have HC:=hI (show ZaR pos 95=true by simp [ZaR];omega)
            go_wp2_with fail
            go_roundw
            case rel=>exact HS.out HC.out
            case measure=>exact HM.out (HN.out.2 HC.out)
          · have e95:((c:Int) != 95)=true:=by simp;omega
            by_cases h48:c<48
            · have e48:decide ((c:Int)<48)=true:=(by simp;omega);have HF:=hI (HFF.out (by simp [ZaR];omega))
              go_wp2_with fail
              go_ret;exact⟨by rw [HF.out];rfl,HB2.out⟩
            · have e48:decide ((c:Int)<48)=false:=by simp;omega
              by_cases h57:57<c
              · have e57:decide ((57:Int)<c)=true:=(by simp;omega);have HF:=hI (HFF.out (by simp [ZaR];omega))
                go_wp2_with fail
                go_ret;exact⟨by rw [HF.out];rfl,HB2.out⟩
              · have e57:decide ((57:Int)<c)=false:=(by simp;omega);have HC:=hI (show ZaR pos c=true by simp [ZaR];omega)
                go_wp2_with fail
                go_roundw
                case rel=>exact HS.out HC.out
                case measure=>exact HM.out (HN.out.2 HC.out)
      · have hl2:122<c:=(by omega);have e97:decide ((97:Int)≤c)=true:=(by simp;omega);have e122:decide ((c:Int)≤122)=false:=by simp;omega
        by_cases h0:pos=0
        · subst h0;have HF:=hI (HFF.out (by simp [ZaR];omega));have HB3:=hI (show Below w.heap.size w (wr.iterAt w.heap.size s d) by have:=HB2.out;rwa [Nat.zero_add] at this)
          go_wp2_with fail
          go_ret;exact⟨by rw [HF.out];rfl,HB3.out⟩
        · have e0:((pos:Int) == 0)=false:=(by simp;omega);have e95:((c:Int) != 95)=true:=(by simp;omega);have e48:decide ((c:Int)<48)=false:=(by simp;omega);have e57:decide ((57:Int)<c)=true:=(by simp;omega);have HF:=hI (HFF.out (by simp [ZaR];omega))
          go_wp2_with fail
          go_ret;exact⟨by rw [HF.out];rfl,HB2.out⟩
  · have HF:=hI (show ZaQ s=true from ZdX (by omega) (by omega) (fun i hi=>HA.out i (by omega)));have hnx:∀ ty,(Instr.next (.pointer (some ⟨w.heap.size,0,none⟩)) true ty).run Try.prog wr=_:=fun ty=>Lib.run_next_end_at wr w.heap.size s pos ty hit hp
    go_wp2_with fail
    go_ret;exact⟨by rw [HF.out];rfl,HB.out⟩
def ZcY (c:Nat):Bool:=(decide (97≤c)&&decide (c≤122))||(decide (48≤c)&&decide (c≤57))||decide (c=95)
theorem nameC_r {i c:Nat} (h:ZaR i c=true):ZcY c=true:=by
 simp only [ZaR,ZcY,Bool.or_eq_true,Bool.and_eq_true,decide_eq_true_eq] at h ⊢;omega
theorem nameC_of_r {i c:Nat} (hi:i≠0) (h:ZcY c=true):ZaR i c=true:=by
 simp only [ZaR,ZcY,Bool.or_eq_true,Bool.and_eq_true,decide_eq_true_eq] at h ⊢;omega
theorem get_byteAt (s:ByteArray) (i:Nat) (h:i<s.size):(s[i]'h).toNat=ZaL s i:=by
 have:s.get! i=s[i]:=by
  unfold ByteArray.get!;show s.data[i]! = _;rw [getElem!_pos s.data i h];rfl
 unfold ZaL;rw [this]
theorem ZeG (s:ByteArray) (w:World) (hs:s.size≤9223372036854775807):Calls Try.prog 133 #[.string s] w (Zaz (ZaQ s) w):=by
 have hix:∀ (j:Nat) (W:World),j<s.size→(Instr.index 9 (.string s) (.int .i64 (j:Int))).run Try.prog W=.ok (.int .u8 (ZaL s j)) W:=fun j W hj=>by
  rw [run_index_string W 9 s .i64 j Try.underlying9,dif_pos ⟨by omega,by omega⟩];simp only [Int.toNat_natCast,get_byteAt s j hj]
 have HIX:=hI hix;clear hix
 by_cases h1:s.size=0
 · have HF:=hI (show ZaQ s=false by unfold ZaQ;rw [show decide (1≤s.size)=false from decide_eq_false (by omega)];simp);have hd1:((s.size:Int) == 0)=true:=(by simp [h1]);clear h1;go_enter Try.func133,Try.ntmps133
   go_wp2_with fail
   go_ret;exact⟨by rw [HF.out];rfl,Below.refl _ _⟩
 have hd1:((s.size:Int) == 0)=false:=beq_false_of_ne (by omega)
 by_cases h2:32<s.size
 · have HF:=hI (show ZaQ s=false by unfold ZaQ;rw [show decide (s.size≤32)=false from decide_eq_false (by omega)];simp);have hd2:decide ((32:Int)<s.size)=true:=decide_eq_true (by omega);go_enter Try.func133,Try.ntmps133
   go_wp2_with fail
   go_ret;exact⟨by rw [HF.out];rfl,Below.refl _ _⟩
 have hd2:decide ((32:Int)<s.size)=false:=decide_eq_false (by omega);have hi0:∀ W:World,(Instr.index 9 (.string s) (.int .i64 0)).run Try.prog W=.ok (.int .u8 (ZaL s 0)) W:=(fun W=>by simpa using HIX.out 0 W (by omega));have HN0:=hI (show ZaR 0 (ZaL s 0)=false→ZaQ s=false from fun h=>ZcB (by omega) h);have H0:=hI (show ∀ j,j=0→ZaL s j=ZaL s 0 from fun j h=>by rw [h]);obtain⟨c0,hc0⟩:∃ c,ZaL s 0=c:=⟨_,rfl⟩;rw [hc0] at hi0 HN0 H0;clear hc0
 by_cases h3:c0<97
 · have hd3:decide ((c0:Int)<97)=true:=decide_eq_true (by omega);have HF:=hI (HN0.out (by simp [ZaR];omega));go_enter Try.func133,Try.ntmps133
   go_wp2_with fail
   go_ret;exact⟨by rw [HF.out];rfl,Below.refl _ _⟩
 have hd3:decide ((c0:Int)<97)=false:=decide_eq_false (by omega)
 by_cases h4:122<c0
 · have hd4:decide ((122:Int)<c0)=true:=decide_eq_true (by omega);have HF:=hI (HN0.out (by simp [ZaR];omega));go_enter Try.func133,Try.ntmps133
   go_wp2_with fail
   go_ret;exact⟨by rw [HF.out];rfl,Below.refl _ _⟩
 have hd4:decide ((122:Int)<c0)=false:=decide_eq_false (by omega);have HC0:=hI (show ZaR 0 c0=true by simp [ZaR];omega);go_enter Try.func133,Try.ntmps133
 go_wp2_with fail
 clear hi0 hd1 hd2 hd3 hd4
 go_loopw [3] (fun i wr=>∃ pos:Nat,pos≤s.size∧i=.int .i64 pos∧(∀ i,i<pos→ZcY (ZaL s i)=true)∧Below w.heap.size w wr) (fun i _=>s.size - (intOf i).toNat)
 case atStart=>exact⟨0,Nat.zero_le _,rfl,fun i hi=>absurd hi (by omega),Below.refl _ _⟩
 case round =>
  obtain⟨pos,hps,rfl,hall,hbel⟩:=hrel;have HA:=hI hall;have HB:=hI hbel;clear hall hbel
  by_cases hp:pos<s.size
  · have hix:=fun W=>HIX.out pos W hp
    have HS:=hI (show ZcY (ZaL s pos)=true→∀ i,i<pos+1→ZcY (ZaL s i)=true from fun hc i hi=>by
     rcases Nat.lt_or_ge i pos with h | h
     · exact HA.out i h
     · have:i=pos:=(by omega);subst this;exact hc)
    have HFF:=hI (show ZcY (ZaL s pos)=false→ZaQ s=false from fun hc=>ZcB hp (by
     cases h9:ZaR pos (ZaL s pos) with
     | false=>rfl
     | true=>rw [nameC_r h9] at hc;cases hc))
    generalize ZaL s pos=c at hix HS HFF;have hpi:(pos:Int)<s.size:=by omega
    by_cases hl1:c<97
    · have e1:decide ((c:Int)<97)=true:=decide_eq_true (by omega)
      by_cases hl2:c<48
      · have e2:decide ((c:Int)<48)=true:=decide_eq_true (by omega);have e3:((c:Int) != 95)=true:=(by simp;omega);have HF:=hI (HFF.out (by simp [ZcY];omega))
        go_wp2_with fail
        go_ret;exact⟨by rw [HF.out];rfl,HB.out⟩
      · have e2:decide ((c:Int)<48)=false:=decide_eq_false (by omega)
        by_cases hl3:57<c
        · have e4:decide ((57:Int)<c)=true:=decide_eq_true (by omega)
          by_cases hl4:c=95
          · subst hl4;have HC:=hI (HS.out rfl)
            go_wp2_with fail
            go_roundw
            case rel=>exact⟨pos+1,by omega,by go_num,HC.out,HB.out⟩
            case measure=>simp [intOf];omega
          · have e3:((c:Int) != 95)=true:=(by simp;omega);have HF:=hI (HFF.out (by simp [ZcY];omega))
            go_wp2_with fail
            go_ret;exact⟨by rw [HF.out];rfl,HB.out⟩
        · have e4:decide ((57:Int)<c)=false:=decide_eq_false (by omega);have HC:=hI (HS.out (by simp [ZcY];omega))
          go_wp2_with fail
          go_roundw
          case rel=>exact⟨pos+1,by omega,by go_num,HC.out,HB.out⟩
          case measure=>simp [intOf];omega
    · have e1:decide ((c:Int)<97)=false:=decide_eq_false (by omega)
      by_cases hl2:122<c
      · have e2:decide ((122:Int)<c)=true:=decide_eq_true (by omega);have e3:decide ((c:Int)<48)=false:=decide_eq_false (by omega);have e4:decide ((57:Int)<c)=true:=decide_eq_true (by omega);have e5:((c:Int) != 95)=true:=(by simp;omega);have HF:=hI (HFF.out (by simp [ZcY];omega))
        go_wp2_with fail
        go_ret;exact⟨by rw [HF.out];rfl,HB.out⟩
      · have e2:decide ((122:Int)<c)=false:=decide_eq_false (by omega);have HC:=hI (HS.out (by simp [ZcY];omega))
        go_wp2_with fail
        go_roundw
        case rel=>exact⟨pos+1,by omega,by go_num,HC.out,HB.out⟩
        case measure=>simp [intOf];omega
  · have hpi:¬ (pos:Int)<s.size:=(by omega)
    have HF:=hI (show ZaQ s=true from ZdX (by omega) (by omega) (fun i hi=>by
     by_cases h0:i=0
     · rw [h0,H0.out 0 rfl];exact HC0.out
     · exact nameC_of_r h0 (HA.out i (by omega))))
    go_wp2_with fail
    go_ret;exact⟨by rw [HF.out];rfl,HB.out⟩
end Go.Proofs.Ytkpjjfhfbpfjpaa
