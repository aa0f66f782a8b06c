import Derived.Test.YtkpjjfhfbpfjpaaK852a9b
import Derived.Test.YtkpjjfhfbpfjpaaK399ef9
set_option linter.unusedVariables false
set_option linter.unusedSimpArgs false
set_option maxRecDepth 100000
namespace Go.Proofs.Ytkpjjfhfbpfjpaa
open Go.RowKit
theorem info3:(Try.prog.info? 3).map (fun i=>(i.zero,i.size,i.bytes))=some (some (.int .i64 0),1,8):=by kernel_rfl
theorem owns_block {w:World} {base:Nat} {e:TypeId} {size:Nat} {v:Value} {n:Nat} {xs:List Value} (h:w.ownsRow base e size v n xs) {g:Nat} (hg:v.ownBlock=some g):base≤g∧∃ cur,w.heap[g]?=some (.cells cur e (0,0)):=by
 rcases h.2 with ⟨rfl,_⟩ | ⟨g',cap,cur,rfl,hb,hh,_⟩
 · simp [Value.ownBlock] at hg
 · have:g'=g:=by simpa [Value.ownBlock] using hg
   subst this
   exact⟨hb,cur,hh⟩
theorem own_base {w:World} {base:Nat} {e:TypeId} {size:Nat} {v:Value} {n:Nat} {xs:List Value} (h:w.ownsRow base e size v n xs) {g:Nat} (hg:v.ownBlock=some g):base≤g:=(owns_block h hg).1
theorem own_cap {w:World} {base:Nat} {e:TypeId} {size:Nat} {A:Option Addr} {n m c:Nat} {xs:List Value} (h:w.ownsRow base e size (.slice A n c) n xs) (hm:m=n):m≤c:=by
 subst hm
 rcases h.2 with ⟨_,hn⟩ | ⟨g,cap,cur,e1,hb,hh,h1,_⟩
 · omega
 · injection e1 with _ _ e3
   omega
abbrev New (w w':World):Nat→Prop:=fun b=>w.heap.size≤b∧b<w'.heap.size
theorem row_cells {w:World} {base:Nat} {e:TypeId} {size n c:Nat} {A:Option Addr} {xs:List Value} (h:w.ownsRow base e size (.slice A n c) n xs) (hn:0<n):∃ g,A=some ⟨g,0,none⟩∧base≤g∧g<w.heap.size∧∀ j u,xs[j]?=some u→w.cell? ⟨g,j,none⟩=some u:=by
 rcases h.2 with ⟨_,hn'⟩ | ⟨g,cap,cur,e1,hb,hh,h1,h2,h3,h4⟩
 · omega
 · injection e1 with e1 _ _
   refine⟨g,e1,hb,lt_of_heap hh,fun j u hu=>?_⟩
   have hq:=(List.getElem?_eq_some_iff.1 hu).1
   rw [h.1] at hq
   rw [←h4,List.getElem?_take_of_lt hq] at hu
   simp only [World.cell?,hh]
   simpa using hu
theorem ints_of_owns {w:World} {base c:Nat} {A:Option Addr} {l:List Int} (hll:l.length≤17592186044416) (h:w.ownsRow base 3 1 (.slice A l.length c) l.length (l.map (Value.int .i64))):IntS w (fun b=>base≤b∧b<w.heap.size) A l:=by
 refine⟨by rw [bytesAll_map (n:=8) (fun _=>rfl)];omega,fun hn=>?_⟩
 obtain⟨g,e,hb,hl,hc⟩:=row_cells h (by simpa using hn)
 refine⟨g,0,e,⟨hb,hl⟩,heldAll_of (n:=1) (fun d hd=>by obtain⟨v,_,rfl⟩:=List.mem_map.1 hd;rfl) (fun k hk=>?_)⟩
 rw [List.getElem_map]
 have hk':k<l.length:=by simpa using hk
 have:=hc k (.int .i64 l[k]) (by simp [hk'])
 simpa [encInt,Dat.Held] using this
theorem news_two (w:World) (o1:Obj) (v:Value) (t:TypeId):∀ j u,([v]:List Value)[j]?=some u→((w.alloc o1).alloc (.cells #[v] t)).cell? ((⟨w.heap.size+1,0,none⟩:Addr).add j)=some u:=by
 have h:=World.news_of_block (cs:=#[v]) (t:=t) (fr:=(0,0)) (heap_alloc_new (w.alloc o1) (.cells #[v] t))
 simpa using h
def hasN (n:Nat) (t:Int):Bool:=decide (0≤t)&&decide (t<n)
set_option maxHeartbeats 400000 in
theorem has_any (v t:Int) (A:Option Addr) (n c:Nat) (w:World) (hn:n≤17592186044416):Calls Try.prog 92 #[sAgg v A n c,.int .i64 t] w (BoolBel (hasN n t) w):=by
 have HB:=Lib.hid ((Below.refl w.heap.size w).alloc (Nat.le_refl _) (.cells #[.int .i64 v,.slice A n c] 25))
 by_cases h0:0≤t
 · have hd0:decide (0≤t)=true:=by simp [h0]
   have HF:=Lib.hid (show hasN n t=decide (t<n) by simp [hasN,h0])
   go_enter Try.func92,Try.ntmps92
   go_wp2_with fail
   go_ret
   exact⟨by rw [HF.out];rfl,HB.out⟩
 · have hd0:decide (0≤t)=false:=by simpa using h0
   have HF:=Lib.hid (show hasN n t=false by simp [hasN];omega)
   go_enter Try.func92,Try.ntmps92
   go_wp2_with fail
   go_ret
   exact⟨by rw [HF.out];rfl,HB.out⟩
def kindsF (s:Sch) (t:Int):List Int:=if hasN s.tabs.length t then (s.tabs.getD t.toNat t0).cols.map (·.kind) else []
def NewI (nd:Prop) (l:List Int) (w:World) (e:Ending) (w':World):Prop:=∃ A c,e=.returned (.slice A l.length c)∧IntS w' (New w w') A l∧l.length≤c∧(l.length=0→nd→A=none)∧Below w.heap.size w w'
set_option maxHeartbeats 1000000 in
theorem kinds_any (A0:Option Addr) (c0':Nat) (s:Sch) (t:Int) (S:Nat→Prop) (w:World) (hs:TabS w S A0 s.tabs) (hS:∀ b,S b→b<w.heap.size) :
  Calls Try.prog 91 #[sAgg s.version A0 s.tabs.length c0',.int .i64 t] w (NewI False (kindsF s t) w):=by
 have hsl:=hs.len
 have HS:=Lib.hid hs
 clear hs
 obtain⟨i0,hi,hz0,hz1,hz2⟩:=info_parts info3
 go_enter Try.func91,Try.ntmps91
 go_wp2_with fail
 refine(has_any _ t A0 s.tabs.length c0' _ hsl).mono ?_
 rintro e w1 ⟨rfl,hb1⟩
 have HB1:=Lib.hid (((Below.refl w.heap.size w).alloc (Nat.le_refl _) (.cells #[.int .i64 s.version,.slice A0 s.tabs.length c0'] 25)).trans (hb1.mono (by simp)))
 have cb:w1.cell? ⟨w.heap.size,1,none⟩=some (.slice A0 s.tabs.length c0'):=(hb1.cell (p:=⟨w.heap.size,1,none⟩) (by simp)).trans (by simp [cell_of_row _ _ _ _ _ _ (heap_alloc_new w _)])
 have hz1':w.heap.size<w1.heap.size:=by have:=hb1.size;simp at this;omega
 clear hb1
 by_cases hh:hasN s.tabs.length t=true
 · have HKF:=Lib.hid (show kindsF s t=(s.tabs.getD t.toNat t0).cols.map (·.kind) by unfold kindsF;rw [if_pos hh])
   have hh0:0≤t∧t<s.tabs.length:=by simpa [hasN] using hh
   obtain⟨tt,rfl⟩:=Int.eq_ofNat_of_zero_le hh0.1
   rw [Int.toNat_natCast] at HKF
   have htl:tt<s.tabs.length:=by omega
   rw [hh]
   clear hh
   obtain⟨b2,o2,rfl,hb2,A1,A2,A3,c1,c2,c3,hta⟩:=(HS.out.keep (Same.of_below HB1.out hS)).at_ htl
   have k1:=hta.cols
   have HCS':=Lib.hid hta.cS
   have hcl:=hta.cS.len
   have hl2:b2<w1.heap.size:=by have:=hS b2 hb2;omega
   clear hta
   generalize s.tabs.getD tt t0=tb at k1 HCS' hcl HKF
   have hmk:∀ w:World,(Instr.makeSlice 40 (.int .i64 0) (.int .i64 (tb.cols.length:Int))).run Try.prog w=.ok (.slice (some ⟨w.heap.size,0,none⟩) 0 tb.cols.length) (w.alloc (.cells (madeCells (Value.int .i64 0).cells (tb.cols.length*1)) 3)):=fun w=>by
    have hr:=run_make (P:=Try.prog) w 40 3 i0 _ Try.underlying40 hi hz0 .i64 .i64 0 tb.cols.length (by omega) (by omega) (by rw [hz2];omega) (by omega)
    rw [hz1] at hr
    simpa using hr
   go_wp2_with fail
   clear hmk
   go_loopw [5,27] (fun v i wr=>∃ (k c:Nat) (A:Option Addr),k≤tb.cols.length∧i=.int .i64 k∧v=.slice A k c∧wr.ownsRow w.heap.size 3 1 (.slice A k c) k (((tb.cols.map (·.kind)).take k).map (Value.int .i64))∧(k=0→False→A=none)∧Below w.heap.size w wr) (fun _ i _=>tb.cols.length - (intOf i).toNat)
   case atStart=>exact⟨0,_,_,Nat.zero_le _,rfl,rfl,World.ownsRow_made _ _ _ (by omega) (by unfold maxLen;omega) (by simp [size_madeCells]),fun _ h=>h.elim,HB1.out.alloc (by omega) _⟩
   case round =>
    obtain⟨k,c,A,hk,rfl,rfl,hown,hnil,hbel⟩:=hrel
    have HOWN:=Lib.hid hown
    have HBEL:=Lib.hid hbel
    have HNIL:=Lib.hid hnil
    have hsz:=hbel.size
    clear hown hbel hnil
    by_cases hkl:k<tb.cols.length
    · obtain⟨b3,o3,rfl,hb3,c3,c4⟩:=(HCS'.out.keep (fun b hb=>(HBEL.out.block b (hS b hb)).trans (HB1.out.block b (hS b hb)).symm)).at_ hkl
      have HT:=Lib.hid (show (tb.cols.map (·.kind)).take (k+1)=(tb.cols.map (·.kind)).take k++[(tb.cols.getD k c0).kind] by rw [List.take_succ_eq_append_getElem (by simpa using hkl)];simp [List.getD,hkl])
      generalize tb.cols.getD k c0=cl at c3 c4 HT
      obtain⟨cn,ck⟩:=cl
      simp only at c3 c4 HT
      go_wp2_with (at_builtin;refine wpList_append_slice _ rfl (.tmp 31) (.tmp 34) 40 rfl w.heap.size 3 i0 _ 1 8 Try.underlying40 hi hz0 hz1 hz2 rfl (by decide) (.slice A k c) k (((tb.cols.map (·.kind)).take k).map (Value.int .i64)) rfl ((HOWN.out.alloc _).alloc _) ⟨wr.heap.size+1,0,none⟩ 1 1 [.int .i64 ck] rfl rfl (news_two wr _ _ _) (by simp [Value.oneCell']) (by unfold maxLen;omega) (by omega) (by simp;omega) ?_;intro A1 c1 w7 hown7 hg7)
      have HOWN7:=Lib.hid hown7
      have HG7:=Lib.hid hg7
      clear hown7 hg7
      go_roundw
      case rel =>
       refine⟨k+1,c1,A1,by omega,by go_num,rfl,?_,fun h=>absurd h (by omega),?_⟩
       · rw [HT.out,List.map_append];exact HOWN7.out
       · exact((HBEL.out.alloc hsz _).alloc (by simp;omega) _).grown HG7.out (by simp;omega) (fun b hb=>own_base HOWN.out hb)
      case measure=>simp [intOf];omega
    · have HKE:=Lib.hid (show k=tb.cols.length by omega)
      go_wp2_with fail
      go_ret
      have hown:=HOWN.out
      rw [HKE.out,List.take_of_length_le (by simp)] at hown
      rw [HKF.out]
      refine⟨A,c,by rw [HKE.out,List.length_map];rfl,ints_of_owns (by simpa using hcl) (by simpa using hown),own_cap hown (by simp),?_,HBEL.out⟩
      intro hz hnd
      exact HNIL.out (by rw [HKE.out];simpa using hz) hnd
 · have HKF:=Lib.hid (show kindsF s t=[] by unfold kindsF;rw [if_neg hh])
   have hh':hasN s.tabs.length t=false:=by simpa using hh
   rw [hh']
   clear hh hh'
   go_wp2_with fail
   go_ret
   rw [HKF.out]
   exact⟨none,0,rfl,IntS.nil_,by simp,fun _ _=>rfl,HB1.out⟩
set_option maxHeartbeats 1000000 in
theorem rkinds_any (A0:Option Addr) (c0':Nat) (s:Sch) (t:Int) (S:Nat→Prop) (w:World) (hs:TabS w S A0 s.tabs) (hS:∀ b,S b→b<w.heap.size) :
  Calls Try.prog 47 #[sAgg s.version A0 s.tabs.length c0',.int .i64 t] w (NewI True (kindsF s t) w):=by
 have hsl:=hs.len
 have HS:=Lib.hid hs
 clear hs
 obtain⟨i0,hi,hz0,hz1,hz2⟩:=info_parts info3
 have HB1:=Lib.hid ((Below.refl w.heap.size w).alloc (Nat.le_refl _) (.cells #[.int .i64 s.version,.slice A0 s.tabs.length c0'] 25))
 by_cases hh:hasN s.tabs.length t=true
 · have HKF:=Lib.hid (show kindsF s t=(s.tabs.getD t.toNat t0).cols.map (·.kind) by unfold kindsF;rw [if_pos hh])
   have hh0:0≤t∧t<s.tabs.length:=by simpa [hasN] using hh
   clear hh
   obtain⟨tt,rfl⟩:=Int.eq_ofNat_of_zero_le hh0.1
   rw [Int.toNat_natCast] at HKF
   have htl:tt<s.tabs.length:=by omega
   obtain⟨b2,o2,rfl,hb2,A1,A2,A3,c1,c2,c3,hta⟩:=HS.out.at_ htl
   have k1:=hta.cols
   have HCS':=Lib.hid hta.cS
   have hcl:=hta.cS.len
   have hl2:b2<w.heap.size:=hS b2 hb2
   clear hta
   generalize s.tabs.getD tt t0=tb at k1 HCS' hcl HKF
   have hd1:decide ((tt:Int)<0)=false:=by simp
   have hd2:decide (s.tabs.length≤tt)=false:=by simp;omega
   go_enter Try.func47,Try.ntmps47
   go_wp2_with fail
   go_loopw [5,24] (fun v i wr=>∃ (k c:Nat) (A:Option Addr),k≤tb.cols.length∧i=.int .i64 k∧v=.slice A k c∧wr.ownsRow w.heap.size 3 1 (.slice A k c) k (((tb.cols.map (·.kind)).take k).map (Value.int .i64))∧(k=0→True→A=none)∧Below w.heap.size w wr) (fun _ i _=>tb.cols.length - (intOf i).toNat)
   case atStart=>exact⟨0,_,_,Nat.zero_le _,rfl,rfl,World.ownsRow_nil _ _ _ _,fun _ _=>rfl,HB1.out⟩
   case round =>
    obtain⟨k,c,A,hk,rfl,rfl,hown,hnil,hbel⟩:=hrel
    have HOWN:=Lib.hid hown
    have HBEL:=Lib.hid hbel
    have HNIL:=Lib.hid hnil
    have hsz:=hbel.size
    clear hown hbel hnil
    by_cases hkl:k<tb.cols.length
    · obtain⟨b3,o3,rfl,hb3,c3,c4⟩:=(HCS'.out.keep (Same.of_below HBEL.out hS)).at_ hkl
      have HT:=Lib.hid (show (tb.cols.map (·.kind)).take (k+1)=(tb.cols.map (·.kind)).take k++[(tb.cols.getD k c0).kind] by rw [List.take_succ_eq_append_getElem (by simpa using hkl)];simp [List.getD,hkl])
      generalize tb.cols.getD k c0=cl at c3 c4 HT
      obtain⟨cn,ck⟩:=cl
      simp only at c3 c4 HT
      go_wp2_with (at_builtin;refine wpList_append_slice _ rfl (.tmp 28) (.tmp 31) 40 rfl w.heap.size 3 i0 _ 1 8 Try.underlying40 hi hz0 hz1 hz2 rfl (by decide) (.slice A k c) k (((tb.cols.map (·.kind)).take k).map (Value.int .i64)) rfl ((HOWN.out.alloc _).alloc _) ⟨wr.heap.size+1,0,none⟩ 1 1 [.int .i64 ck] rfl rfl (news_two wr _ _ _) (by simp [Value.oneCell']) (by unfold maxLen;omega) (by omega) (by simp;omega) ?_;intro A1 c1 w7 hown7 hg7)
      have HOWN7:=Lib.hid hown7
      have HG7:=Lib.hid hg7
      clear hown7 hg7
      go_roundw
      case rel =>
       refine⟨k+1,c1,A1,by omega,by go_num,rfl,?_,fun h=>absurd h (by omega),?_⟩
       · rw [HT.out,List.map_append];exact HOWN7.out
       · exact((HBEL.out.alloc hsz _).alloc (by simp;omega) _).grown HG7.out (by simp;omega) (fun b hb=>own_base HOWN.out hb)
      case measure=>simp [intOf];omega
    · have HKE:=Lib.hid (show k=tb.cols.length by omega)
      go_wp2_with fail
      go_ret
      have hown:=HOWN.out
      rw [HKE.out,List.take_of_length_le (by simp)] at hown
      rw [HKF.out]
      refine⟨A,c,by rw [HKE.out,List.length_map];rfl,ints_of_owns (by simpa using hcl) (by simpa using hown),own_cap hown (by simp),?_,HBEL.out⟩
      intro hz hnd
      exact HNIL.out (by rw [HKE.out];simpa using hz) hnd
 · have HKF:=Lib.hid (show kindsF s t=[] by unfold kindsF;rw [if_neg hh])
   have hh':t<0∨(s.tabs.length:Int)≤t:=by
    have:hasN s.tabs.length t=false:=by simpa using hh
    simp [hasN] at this
    omega
   clear hh
   by_cases h0:t<0
   · have hd1:decide (t<0)=true:=by simp [h0]
     go_enter Try.func47,Try.ntmps47
     go_wp2_with fail
     go_ret
     rw [HKF.out]
     exact⟨none,0,rfl,IntS.nil_,by simp,fun _ _=>rfl,HB1.out⟩
   · have hd1:decide (t<0)=false:=by simpa using h0
     have hd2:decide ((s.tabs.length:Int)≤t)=true:=by simp;omega
     go_enter Try.func47,Try.ntmps47
     go_wp2_with fail
     go_ret
     rw [HKF.out]
     exact⟨none,0,rfl,IntS.nil_,by simp,fun _ _=>rfl,HB1.out⟩
end Go.Proofs.Ytkpjjfhfbpfjpaa

namespace Go.Proofs.Ytkpjjfhfbpfjpaa
open Go.RowKit
theorem add_none (b o k:Nat):(⟨b,o,none⟩:Addr).add k=⟨b,o+k,none⟩:=by
 unfold Addr.add
 split
 · rename_i h;subst h;rfl
 · rfl
def rowVals:Row→List Value
 | []=>[]
 | v :: r=>.int .i64 v.k :: .int .i64 v.i :: .string v.t :: rowVals r
theorem rowVals_len:∀ r:Row,(rowVals r).length=r.length*3
 | []=>rfl
 | v :: r=>by simp [rowVals,rowVals_len r,Nat.succ_mul]
theorem rowVals_one:∀ r:Row,∀ u ∈ rowVals r,u.oneCell'=true
 | [],u,h=>by simp [rowVals] at h
 | v :: r,u,h=>by
  simp only [rowVals,List.mem_cons] at h
  rcases h with rfl | rfl | rfl | h
  · rfl
  · rfl
  · rfl
  · exact rowVals_one r u h
theorem held_vals {w:World} {S:Nat→Prop}:∀ (r:Row) (b off:Nat),Dat.HeldAll w S (r.map encV) b off→∀ j u,(rowVals r)[j]?=some u→w.cell? ⟨b,off+j,none⟩=some u
 | [],_,_,_,j,u,hu=>by simp [rowVals] at hu
 | v :: r,b,off,h,j,u,hu=>by
  simp only [List.map_cons,Dat.HeldAll,held_encV,encV_size] at h
  obtain⟨⟨h1,h2,h3,_⟩,h4⟩:=h
  match j,hu with
  | 0,hu=>simp only [rowVals,List.getElem?_cons_zero,Option.some.injEq] at hu;subst hu;exact h1
  | 1,hu=>simp only [rowVals,List.getElem?_cons_succ,List.getElem?_cons_zero,Option.some.injEq] at hu;subst hu;exact h2
  | 2,hu=>simp only [rowVals,List.getElem?_cons_succ,List.getElem?_cons_zero,Option.some.injEq] at hu;subst hu;exact h3
  | j+3,hu =>
   simp only [rowVals,List.getElem?_cons_succ] at hu
   have:=held_vals r b (off+3) h4 j u hu
   rw [show off+(j+3)=off+3+j by omega]
   exact this
theorem held_of_vals {w:World} {S:Nat→Prop}:∀ (r:Row) (b off:Nat),(∀ v ∈ r,v.t.size≤9223372036854775807)→(∀ j u,(rowVals r)[j]?=some u→w.cell? ⟨b,off+j,none⟩=some u)→Dat.HeldAll w S (r.map encV) b off
 | [],_,_,_,_=>by simp [Dat.HeldAll]
 | v :: r,b,off,ho,h=>by
  simp only [List.map_cons,Dat.HeldAll,held_encV,encV_size]
  refine⟨⟨h 0 _ rfl,h 1 _ rfl,h 2 _ rfl,ho v (by simp)⟩,held_of_vals r b (off+3) (fun v hv=>ho v (by simp [hv])) (fun j u hu=>?_)⟩
  have:=h (j+3) u (by simpa [rowVals] using hu)
  rw [show off+3+j=off+(j+3) by omega]
  exact this
theorem RowS.vals {w:World} {S:Nat→Prop} {A:Option Addr} {r:Row} (h:RowS w S A r) (hr:0<r.length):∃ b off,A=some ⟨b,off,none⟩∧S b∧∀ j u,(rowVals r)[j]?=some u→w.cell? ((⟨b,off,none⟩:Addr).add j)=some u:=by
 obtain⟨b,off,e,hb,hc⟩:=h.2 (by simpa using hr)
 exact⟨b,off,e,hb,fun j u hu=>by rw [add_none];exact held_vals r b off hc j u hu⟩
theorem rows_of_owns {w:World} {base c:Nat} {A:Option Addr} {r:Row} (hll:RowOk r) (h:w.ownsRow base 51 3 (.slice A r.length c) r.length (rowVals r)):RowS w (fun b=>base≤b∧b<w.heap.size) A r:=by
 refine⟨by have:=hll.1;rw [bytesAll_map (n:=32) (fun _=>rfl)];omega,fun hn=>?_⟩
 obtain⟨g,e,hb,hl,hc⟩:=row_cells h (by simpa using hn)
 exact⟨g,0,e,⟨hb,hl⟩,held_of_vals r g 0 hll.2 (fun j u hu=>by rw [Nat.zero_add];exact hc j u hu)⟩
theorem infoV:(Try.prog.info? 51).map (fun i=>(i.zero,i.size,i.bytes))=some (some (.agg #[.int .i64 0,.int .i64 0,.string ⟨#[]⟩]),3,32):=by kernel_rfl
theorem run_append_empty {P:Program} {w:World} (base:Nat) (t ty e:TypeId) (i:TypeInfo) (size:Nat) (ht:P.underlying t=some (.slice e)) (hi:P.info? e=some i)
  (v:Value) (n:Nat) (xs:List Value) (hown:w.ownsRow base e size v n xs) (A:Option Addr) (c:Nat) :
  (Builtin.append_ #[t,t] ty #[v,.slice A 0 c]).run P w=.ok v w:=by
 rcases hown.2 with ⟨rfl,rfl⟩ | ⟨g,cap,cur,rfl,_,_,hnc,_⟩
 · cases A<;>simp [Builtin.append_,run_underlying ht,sizeOf,typeInfo,hi,Builtin.lenOf,Builtin.firstCells,loadCells,loadCellsFrom]
 · cases A<;>simp [Builtin.append_,run_underlying ht,sizeOf,typeInfo,hi,Builtin.lenOf,Builtin.firstCells,hnc,storeCells,loadCells,loadCellsFrom]
theorem wpList_append_empty {P:Program} (w:World) {ops:Array Oper} {rest:List Oper} {o:Oper} {a:Act} {Q:Exit→Act→World→Prop} (hgd:o.guard=none) (s x:Operand) (t:TypeId)
  (ho:o.op=.call { callee:=.builtin .append,args:=#[s,x],argTypes:=#[t,t] })
  (base:Nat) (e:TypeId) (i:TypeInfo) (size:Nat) (ht:P.underlying t=some (.slice e)) (hi:P.info? e=some i)
  (v:Value) (n:Nat) (xs:List Value) (hs:a.eval s=v) (hown:w.ownsRow base e size v n xs) (A:Option Addr) (c:Nat) (hx:a.eval x=.slice A 0 c)
  (h:wpList P ops Q rest (a.put o.dst v) w):wpList P ops Q (o :: rest) a w:=by
 refine wpList_plain hgd fun K hK=>?_
 have hrun:=run_append_empty (P:=P) (w:=w) base t o.type e i size ht hi v n xs hown A c
 unfold Oper.wp
 simp [execOp,ho,resolve,invoke,builtin,hs,hx,hrun,Result.andThen]
 exact hK _ _ h
def NewR (r:Row) (w:World) (e:Ending) (w':World):Prop:=∃ A c,e=.returned (.slice A r.length c)∧w'.ownsRow w.heap.size 51 3 (.slice A r.length c) r.length (rowVals r)∧Below w.heap.size w w'
set_option maxHeartbeats 400000 in
theorem clone_any (A:Option Addr) (ca:Nat) (r:Row) (S:Nat→Prop) (w:World) (h:RowS w S A r) :
  Calls Try.prog 55 #[.slice A r.length ca] w (NewR r w):=by
 have hl:=h.len'
 have HR:=Lib.hid h
 clear h
 obtain⟨i0,hi,hz0,hz1,hz2⟩:=info_parts infoV
 rcases Nat.eq_zero_or_pos r.length with h0 | h0
 · have hr:r=[]:=List.length_eq_zero_iff.1 h0
   subst hr
   go_enter Try.func55,Try.ntmps55
   go_wp2_with (at_builtin;refine wpList_append_empty _ rfl (.const (.slice none 0 0)) (.tmp 3) 27 rfl w.heap.size 51 i0 3 Try.underlying27 hi (.slice none 0 0) 0 [] rfl (World.ownsRow_nil _ _ _ _) A ca rfl ?_)
   go_ret
   exact⟨none,0,rfl,World.ownsRow_nil _ _ _ _,Below.refl _ _⟩
 · obtain⟨b,off,rfl,hb,hc⟩:=HR.out.vals h0
   have HC:=Lib.hid hc
   clear hc
   go_enter Try.func55,Try.ntmps55
   go_wp2_with (at_builtin;refine wpList_append_slice _ rfl (.const (.slice none 0 0)) (.tmp 3) 27 rfl w.heap.size 51 i0 _ 3 32 Try.underlying27 hi hz0 hz1 hz2 rfl (by decide) (.slice none 0 0) 0 [] rfl (World.ownsRow_nil _ _ _ _) ⟨b,off,none⟩ r.length ca (rowVals r) rfl (rowVals_len r) HC.out (rowVals_one r) (by unfold maxLen;omega) (by omega) (Nat.le_refl _) ?_;intro A1 c1 w1 hown1 hg1)
   rw [List.nil_append] at hown1
   rw [Nat.zero_add] at hown1
   go_ret
   exact⟨A1,c1,rfl,hown1,(Below.refl _ _).grown hg1 (Nat.le_refl _) (by simp [Value.ownBlock])⟩
set_option maxHeartbeats 400000 in
theorem rcopy_any (A:Option Addr) (ca:Nat) (r:Row) (S:Nat→Prop) (w:World) (h:RowS w S A r) :
  Calls Try.prog 67 #[.slice A r.length ca] w (NewR r w):=by
 have hl:=h.len'
 have HR:=Lib.hid h
 clear h
 obtain⟨i0,hi,hz0,hz1,hz2⟩:=info_parts infoV
 rcases Nat.eq_zero_or_pos r.length with h0 | h0
 · have hr:r=[]:=List.length_eq_zero_iff.1 h0
   subst hr
   go_enter Try.func67,Try.ntmps67
   go_wp2_with (at_builtin;refine wpList_append_empty _ rfl (.const (.slice none 0 0)) (.tmp 3) 27 rfl w.heap.size 51 i0 3 Try.underlying27 hi (.slice none 0 0) 0 [] rfl (World.ownsRow_nil _ _ _ _) A ca rfl ?_)
   go_ret
   exact⟨none,0,rfl,World.ownsRow_nil _ _ _ _,Below.refl _ _⟩
 · obtain⟨b,off,rfl,hb,hc⟩:=HR.out.vals h0
   have HC:=Lib.hid hc
   clear hc
   go_enter Try.func67,Try.ntmps67
   go_wp2_with (at_builtin;refine wpList_append_slice _ rfl (.const (.slice none 0 0)) (.tmp 3) 27 rfl w.heap.size 51 i0 _ 3 32 Try.underlying27 hi hz0 hz1 hz2 rfl (by decide) (.slice none 0 0) 0 [] rfl (World.ownsRow_nil _ _ _ _) ⟨b,off,none⟩ r.length ca (rowVals r) rfl (rowVals_len r) HC.out (rowVals_one r) (by unfold maxLen;omega) (by omega) (Nat.le_refl _) ?_;intro A1 c1 w1 hown1 hg1)
   rw [List.nil_append] at hown1
   rw [Nat.zero_add] at hown1
   go_ret
   exact⟨A1,c1,rfl,hown1,(Below.refl _ _).grown hg1 (Nat.le_refl _) (by simp [Value.ownBlock])⟩
set_option maxHeartbeats 400000 in
theorem equal_any (A B:Option Addr) (ca cb:Nat) (a b:Row) (S:Nat→Prop) (w:World) (ha:RowS w S A a) (hb:RowS w S B b) (hS:∀ b,S b→b<w.heap.size) :
  Calls Try.prog 77 #[.slice A a.length ca,.slice B b.length cb] w (BoolBel (cmpR a b == 0) w):=by
 go_enter Try.func77,Try.ntmps77
 go_wp2_with fail
 refine(compareRows_any A B ca cb a b S w ha hb hS).mono ?_
 rintro e w1 ⟨rfl,hb1⟩
 obtain⟨cv,hcv⟩:∃ cv,cmpR a b=cv:=⟨_,rfl⟩
 have HF:=Lib.hid hcv
 rw [hcv]
 clear hcv
 go_wp2_with fail
 go_ret
 exact⟨by rw [HF.out];rfl,hb1⟩
def keyN (k:Int) (r:Row):Nat:=(max 0 (min k r.length)).toNat
def keyF (s:Sch) (t:Int) (r:Row):Row:=if hasN s.tabs.length t then r.take (keyN (s.tabs.getD t.toNat t0).key r) else []
def Sub (A:Option Addr) (r:Row) (w:World) (e:Ending) (w':World):Prop:=∃ A' c,e=.returned (.slice A' r.length c)∧(0<r.length→A'=A)∧Below w.heap.size w w'
theorem RowS.take {w:World} {S:Nat→Prop} {A:Option Addr} {r:Row} (h:RowS w S A r) (k:Nat) {A':Option Addr} (e:0<(r.take k).length→A'=A):RowS w S A' (r.take k):=by
 refine⟨?_,fun hn=>?_⟩
 · have:=h.1
   rw [bytesAll_map (n:=32) (fun _=>rfl)] at this ⊢
   simp only [List.length_take]
   omega
 · have hn':0<(r.take k).length:=by simpa using hn
   obtain⟨b,off,e1,hb,hc⟩:=h.vals (by simp at hn';omega)
   refine⟨b,off,(e hn').trans e1,hb,held_of_vals _ b off (fun v hv=>h.ok.2 v (List.mem_of_mem_take hv)) (fun j u hu=>?_)⟩
   have hv:∀ (r:Row) (k j:Nat) (u:Value),(rowVals (r.take k))[j]?=some u→(rowVals r)[j]?=some u:=by
    intro r
    induction r with
    | nil=>intro k j u hu;simpa using hu
    | cons v r ih =>
     intro k j u hu
     cases k with
     | zero=>simp [rowVals] at hu
     | succ k =>
      rw [List.take_succ_cons] at hu
      match j,hu with
      | 0,hu=>exact hu
      | 1,hu=>exact hu
      | 2,hu=>exact hu
      | j+3,hu =>
       simp only [rowVals,List.getElem?_cons_succ] at hu ⊢
       exact ih k j u hu
   have:=hc j u (hv r k j u hu)
   rw [add_none] at this
   exact this
theorem RowS.key {w:World} {S:Nat→Prop} {A:Option Addr} {r:Row} (h:RowS w S A r) (s:Sch) (t:Int) {A':Option Addr} (e:0<(keyF s t r).length→A'=A):RowS w S A' (keyF s t r):=by
 unfold keyF at e ⊢
 split
 · rename_i hh
   rw [if_pos hh] at e
   exact h.take _ e
 · exact RowS.nil_
set_option maxHeartbeats 600000 in
theorem prefix_any (A0:Option Addr) (c0':Nat) (s:Sch) (t:Int) (A:Option Addr) (ca:Nat) (r:Row) (S:Nat→Prop) (w:World) (hs:TabS w S A0 s.tabs) (hr:RowS w S A r) (hca:r.length≤ca) (hS:∀ b,S b→b<w.heap.size) :
  Calls Try.prog 61 #[sAgg s.version A0 s.tabs.length c0',.int .i64 t,.slice A r.length ca] w (Sub A (keyF s t r) w):=by
 have hsl:=hs.len
 have hrl:=hr.len
 have HS:=Lib.hid hs
 have HR:=Lib.hid hr
 clear hs hr
 have HB1:=Lib.hid ((Below.refl w.heap.size w).alloc (Nat.le_refl _) (.cells #[.int .i64 s.version,.slice A0 s.tabs.length c0'] 25))
 by_cases hh:hasN s.tabs.length t=true
 · have HKF:=Lib.hid (show keyF s t r=r.take (keyN (s.tabs.getD t.toNat t0).key r) by unfold keyF;rw [if_pos hh])
   have hh0:0≤t∧t<s.tabs.length:=by simpa [hasN] using hh
   clear hh
   obtain⟨tt,rfl⟩:=Int.eq_ofNat_of_zero_le hh0.1
   rw [Int.toNat_natCast] at HKF
   have htl:tt<s.tabs.length:=by omega
   obtain⟨b2,o2,rfl,hb2,A1,A2,A3,c1,c2,c3,hta⟩:=HS.out.at_ htl
   have k1:=hta.key
   have hl2:b2<w.heap.size:=hS b2 hb2
   clear hta
   generalize s.tabs.getD tt t0=tb at k1 HKF
   obtain⟨tn,tc,tk,tr,tp⟩:=tb
   simp only at k1 HKF
   have hd1:decide ((tt:Int)<0)=false:=by simp
   have hd2:decide (s.tabs.length≤tt)=false:=by simp;omega
   have HL:=Lib.hid (show keyN tk r≤r.length by unfold keyN;omega)
   go_enter Try.func61,Try.ntmps61
   go_wp2_with fail
   go_ret
   rw [HKF.out]
   exact⟨A,ca,by rw [List.length_take,Nat.min_eq_left HL.out];rfl,fun h=>rfl,HB1.out⟩
 · have HKF:=Lib.hid (show keyF s t r=[] by unfold keyF;rw [if_neg hh])
   have hh':t<0∨(s.tabs.length:Int)≤t:=by
    have:hasN s.tabs.length t=false:=by simpa using hh
    simp [hasN] at this
    omega
   clear hh
   by_cases h0:t<0
   · have hd1:decide (t<0)=true:=by simp [h0]
     go_enter Try.func61,Try.ntmps61
     go_wp2_with fail
     go_ret
     rw [HKF.out]
     exact⟨none,0,rfl,fun h=>absurd h (by simp),HB1.out⟩
   · have hd1:decide (t<0)=false:=by simpa using h0
     have hd2:decide ((s.tabs.length:Int)≤t)=true:=by simp;omega
     go_enter Try.func61,Try.ntmps61
     go_wp2_with fail
     go_ret
     rw [HKF.out]
     exact⟨none,0,rfl,fun h=>absurd h (by simp),HB1.out⟩
end Go.Proofs.Ytkpjjfhfbpfjpaa

namespace Go.Proofs.Ytkpjjfhfbpfjpaa
open Go.RowKit
def TextPost (w:World) (g:Nat) (e:Ending) (w':World):Prop:=∃ t:ByteArray,e=.returned (.string t)∧t.size≤64∧CaseOk w' g∧w.grownBy w' (some g)∧w'.heap.size=w.heap.size
theorem push_size (t:ByteArray) (x:UInt8):(t++⟨#[x]⟩).size=t.size+1:=by
 rw [ByteArray.size_append];rfl
set_option maxHeartbeats 2000000 in
theorem text_any (g:Nat) (w:World) (hc:CaseOk w g):Calls Try.prog 87 #[.pointer (some ⟨g,0,none⟩)] w (TextPost w g):=by
 go_enter Try.func87,Try.ntmps87
 go_wp2_with fail
 refine(int_any g 10 w (by omega) hc).mono ?_
 rintro e w1 ⟨r,rfl,h0,h1,-,hc1,hg1,hs1⟩
 have HC:=Lib.hid hc1
 have HG:=Lib.hid hg1
 have HS:=Lib.hid hs1
 have hr:=h1 (by omega)
 clear hc hc1 hg1 hs1 h1
 have hcase:r=0∨r=1∨r=2∨r=3∨r=4∨r=5∨r=6∨r=7∨r=8∨r=9:=by omega
 rcases hcase with rfl | rfl | rfl | rfl | rfl | rfl | rfl | rfl | rfl | rfl
 iterate 8
  · go_wp2_with fail
    go_ret
    exact⟨_,rfl,by decide,HC.out,HG.out,HS.out⟩
 · go_wp2_with fail
   go_loop [3,4] (fun t i=>∃ (k:Nat) (u:ByteArray),k≤64∧i=.int .i64 k∧t=.string u∧u.size=k) (fun _ i=>64 - (intOf i).toNat)
   case atStart=>exact⟨0,_,by omega,rfl,rfl,rfl⟩
   case round =>
    obtain⟨k,u,hk,rfl,rfl,hu⟩:=hrel
    have HU:=Lib.hid hu
    have hns:¬ 9223372036854775807<u.size+1:=by omega
    clear hu
    by_cases hlt:k<64
    · go_wp2_with fail
      go_round
      case rel=>exact⟨k+1,_,by omega,by go_num,rfl,by rw [push_size,HU.out]⟩
      case measure=>simp [intOf];omega
    · go_wp2_with fail
      go_ret
      exact⟨_,rfl,by rw [HU.out];exact hk,HC.out,HG.out,HS.out⟩
 · go_wp2_with fail
   go_loop [3,5] (fun t i=>∃ (k:Nat) (u:ByteArray),k≤64∧i=.int .i64 k∧t=.string u∧u.size=k) (fun _ i=>64 - (intOf i).toNat)
   case atStart=>exact⟨0,_,by omega,rfl,rfl,rfl⟩
   case round =>
    obtain⟨k,u,hk,rfl,rfl,hu⟩:=hrel
    have HU:=Lib.hid hu
    have hns:¬ 9223372036854775807<u.size+1:=by omega
    clear hu
    by_cases hlt:k<64
    · go_wp2_with fail
      go_round
      case rel=>exact⟨k+1,_,by omega,by go_num,rfl,by rw [push_size,HU.out]⟩
      case measure=>simp [intOf];omega
    · go_wp2_with fail
      go_ret
      exact⟨_,rfl,by rw [HU.out];exact hk,HC.out,HG.out,HS.out⟩
def NumPost (w:World) (g:Nat) (e:Ending) (w':World):Prop:=∃ n:Int,e=.returned (.int .i64 n)∧CaseOk w' g∧w.grownBy w' (some g)∧w'.heap.size=w.heap.size
set_option maxHeartbeats 2000000 in
theorem number_any (g:Nat) (w:World) (hc:CaseOk w g):Calls Try.prog 86 #[.pointer (some ⟨g,0,none⟩)] w (NumPost w g):=by
 go_enter Try.func86,Try.ntmps86
 go_wp2_with fail
 refine(int_any g 12 w (by omega) hc).mono ?_
 rintro e w1 ⟨r,rfl,h0,h1,-,hc1,hg1,hs1⟩
 have HC:=Lib.hid hc1
 have HG:=Lib.hid hg1
 have HS:=Lib.hid hs1
 have hr:=h1 (by omega)
 clear hc hc1 hg1 hs1 h1
 have hcase:r=0∨r=1∨r=2∨r=3∨r=4∨r=5∨r=6∨r=7∨r=8∨r=9∨r=10∨r=11:=by omega
 rcases hcase with rfl | rfl | rfl | rfl | rfl | rfl | rfl | rfl | rfl | rfl | rfl | rfl
 all_goals
  go_wp2_with fail
  go_ret
  exact⟨_,rfl,HC.out,HG.out,HS.out⟩
def kindOf (k:Int):Int:=if k=3 then 3 else if k=4 then 4 else 5
def ValPost (P:V→Prop) (w:World) (g:Nat) (e:Ending) (w':World):Prop:=∃ v:V,e=.returned (vAgg v)∧P v∧CaseOk w' g∧w.grownBy w' (some g)
def OfKind (k:Int) (v:V):Prop:=validV v=true∧v.k=k
theorem grown_set {w w1:World} {g n:Nat} {o:Obj} (hg:(w.alloc o).grownBy w1 (some g)) (hl:w.heap.size≤n) (v:Value) (k:Nat):w.grownBy (w1.setCell ⟨n,k,none⟩ v) (some g) :=
 ⟨hg.os,hg.tape,hg.output,by have:=hg.size;simp at this ⊢;omega,fun b hb hne=>(Below.heap_setCell w1 ⟨n,k,none⟩ v b (by show b≠n;omega)).trans ((hg.block b (by simp;omega) hne).trans (Below.heap_alloc w o b hb))⟩
end Go.Proofs.Ytkpjjfhfbpfjpaa

namespace Go.Proofs.Ytkpjjfhfbpfjpaa
open Go.RowKit
abbrev zObj:Obj:=.cells #[.int .i64 0,.int .i64 0,.string ⟨#[]⟩] 51 (0,0)
theorem case_set {w:World} {g n k:Nat} {v:Value} (hc:CaseOk w g) (hn:g<n):CaseOk (w.setCell ⟨n,k,none⟩ v) g:=hc.keep (fun b hb=>Below.heap_setCell w ⟨n,k,none⟩ v b (by show b≠n;omega))
theorem grown_set3 {w w1:World} {g n:Nat} {o:Obj} {a b c:Value} (hg:(w.alloc o).grownBy w1 (some g)) (hl:w.heap.size≤n):w.grownBy (((w1.setCell ⟨n,0,none⟩ a).setCell ⟨n,1,none⟩ b).setCell ⟨n,2,none⟩ c) (some g):=by
 have h:=grown_set (n:=n) hg hl a 0
 refine⟨h.os,h.tape,h.output,by have:=h.size;simpa using this,fun x hx hne=>?_⟩
 rw [Below.heap_setCell _ ⟨n,2,none⟩ c x (by show x≠n;omega),Below.heap_setCell _ ⟨n,1,none⟩ b x (by show x≠n;omega)]
 exact h.block x hx hne
theorem case_set3 {w:World} {g n:Nat} {a b c:Value} (hc:CaseOk w g) (hn:g<n):CaseOk (((w.setCell ⟨n,0,none⟩ a).setCell ⟨n,1,none⟩ b).setCell ⟨n,2,none⟩ c) g:=case_set (case_set (case_set hc hn) hn) hn
section
variable {w:World} {B:Nat} {x0 x1 x2 a b c:Value}
theorem v3_2 (h0:w.cell? ⟨B,0,none⟩=some x0) (h1:w.cell? ⟨B,1,none⟩=some x1) (h2:w.cell? ⟨B,2,none⟩=some x2):(((w.setCell ⟨B,0,none⟩ a).setCell ⟨B,1,none⟩ b).setCell ⟨B,2,none⟩ c).cell? ⟨B,2,none⟩=some c :=
 World.cell?_setCell_same _ _ _ (u:=x2) (by rw [World.cell?_setCell_other _ _ _ _ (by simp),World.cell?_setCell_other _ _ _ _ (by simp)];exact h2)
theorem v3_1 (h0:w.cell? ⟨B,0,none⟩=some x0) (h1:w.cell? ⟨B,1,none⟩=some x1) (h2:w.cell? ⟨B,2,none⟩=some x2):(((w.setCell ⟨B,0,none⟩ a).setCell ⟨B,1,none⟩ b).setCell ⟨B,2,none⟩ c).cell? ⟨B,1,none⟩=some b:=by
 rw [World.cell?_setCell_other _ _ _ _ (by simp)]
 exact World.cell?_setCell_same _ _ _ (u:=x1) (by rw [World.cell?_setCell_other _ _ _ _ (by simp)];exact h1)
theorem v3_0 (h0:w.cell? ⟨B,0,none⟩=some x0) (h1:w.cell? ⟨B,1,none⟩=some x1) (h2:w.cell? ⟨B,2,none⟩=some x2):(((w.setCell ⟨B,0,none⟩ a).setCell ⟨B,1,none⟩ b).setCell ⟨B,2,none⟩ c).cell? ⟨B,0,none⟩=some a:=by
 rw [World.cell?_setCell_other _ _ _ _ (by simp),World.cell?_setCell_other _ _ _ _ (by simp)]
 exact World.cell?_setCell_same _ _ _ (u:=x0) h0
end
theorem valid_bool {r:Int} (h:r=0∨r=1):OfKind 3 ⟨3,r,⟨#[]⟩⟩:=by rcases h with rfl | rfl<;>exact⟨by simp [validV],rfl⟩
theorem valid_int (r:Int):OfKind 4 ⟨4,r,⟨#[]⟩⟩:=⟨by simp [validV],rfl⟩
theorem valid_text {t:ByteArray} (h:t.size≤64):OfKind 5 ⟨5,0,t⟩:=⟨by simp [validV];omega,rfl⟩
set_option maxHeartbeats 2000000 in
theorem value_any (g:Nat) (k:Int) (w:World) (hc:CaseOk w g):Calls Try.prog 44 #[.pointer (some ⟨g,0,none⟩),.int .i64 k] w (ValPost (OfKind (kindOf k)) w g):=by
 have hgl:=hc.lt
 have HC0:=Lib.hid (hc.keep (w':=w.alloc zObj) (fun b hb=>Below.heap_alloc _ _ _ (by omega)))
 clear hc
 have hza:(w.alloc zObj).heap.size=w.heap.size+1:=by simp
 by_cases h3:k=3
 · subst h3
   go_enter Try.func44,Try.ntmps44
   go_wp2_with fail
   refine(int_any g 2 _ (by omega) HC0.out).mono ?_
   rintro e w1 ⟨r,rfl,h0,h1,-,hc1,hg1,hs1⟩
   have hr:=h1 (by omega)
   have HR:=Lib.hid (show r=0∨r=1 by omega)
   have HC:=Lib.hid hc1
   have HG:=Lib.hid hg1
   obtain⟨y0,y1,y2⟩:w1.cell? ⟨w.heap.size,0,none⟩=some (.int .i64 0)∧w1.cell? ⟨w.heap.size,1,none⟩=some (.int .i64 0)∧w1.cell? ⟨w.heap.size,2,none⟩=some (.string ⟨#[]⟩):=by
    have hb:=hg1.block w.heap.size (by simp) (by intro e;injection e with e;omega)
    have h:=hb.trans (heap_alloc_new w zObj)
    exact⟨cell_of_row _ _ _ _ _ _ h,cell_of_row _ _ _ _ _ _ h,cell_of_row _ _ _ _ _ _ h⟩
   obtain⟨f0,f1,f2⟩:w1.frozen? ⟨w.heap.size,0,none⟩=false∧w1.frozen? ⟨w.heap.size,1,none⟩=false∧w1.frozen? ⟨w.heap.size,2,none⟩=false:=by
    have hb:=hg1.block w.heap.size (by simp) (by intro e;injection e with e;omega)
    have h:=hb.trans (heap_alloc_new w zObj)
    simp [World.frozen?,h]
   have hz1:w.heap.size<w1.heap.size:=by have:=hg1.size;omega
   clear hc1 hg1 hs1 h1
   go_wp2_with fail
   have u0:=v3_0 (a:=.int .i64 3) (b:=.int .i64 r) (c:=.string ⟨#[]⟩) y0 y1 y2
   have u1:=v3_1 (a:=.int .i64 3) (b:=.int .i64 r) (c:=.string ⟨#[]⟩) y0 y1 y2
   have u2:=v3_2 (a:=.int .i64 3) (b:=.int .i64 r) (c:=.string ⟨#[]⟩) y0 y1 y2
   exact bodyPost_ret (v:=.agg #[.int .i64 3,.int .i64 r,.string ⟨#[]⟩]) (by simp [results,Try.results44,go_sem,u0,u1,u2]) rfl ⟨⟨3,r,⟨#[]⟩⟩,rfl,valid_bool HR.out,case_set3 HC.out hgl,grown_set3 HG.out (Nat.le_refl _)⟩
 · have e3:(k == 3)=false:=beq_eq_false_iff_ne.2 h3
   by_cases h4:k=4
   · subst h4
     go_enter Try.func44,Try.ntmps44
     go_wp2_with fail
     refine(number_any g _ HC0.out).mono ?_
     rintro e w1 ⟨r,rfl,hc1,hg1,hs1⟩
     have HC:=Lib.hid hc1
     have HG:=Lib.hid hg1
     obtain⟨y0,y1,y2⟩:w1.cell? ⟨w.heap.size,0,none⟩=some (.int .i64 0)∧w1.cell? ⟨w.heap.size,1,none⟩=some (.int .i64 0)∧w1.cell? ⟨w.heap.size,2,none⟩=some (.string ⟨#[]⟩):=by
      have hb:=hg1.block w.heap.size (by simp) (by intro e;injection e with e;omega)
      have h:=hb.trans (heap_alloc_new w zObj)
      exact⟨cell_of_row _ _ _ _ _ _ h,cell_of_row _ _ _ _ _ _ h,cell_of_row _ _ _ _ _ _ h⟩
     obtain⟨f0,f1,f2⟩:w1.frozen? ⟨w.heap.size,0,none⟩=false∧w1.frozen? ⟨w.heap.size,1,none⟩=false∧w1.frozen? ⟨w.heap.size,2,none⟩=false:=by
      have hb:=hg1.block w.heap.size (by simp) (by intro e;injection e with e;omega)
      have h:=hb.trans (heap_alloc_new w zObj)
      simp [World.frozen?,h]
     have hz1:w.heap.size<w1.heap.size:=by have:=hg1.size;omega
     clear hc1 hg1 hs1
     go_wp2_with fail
     have u0:=v3_0 (a:=.int .i64 4) (b:=.int .i64 r) (c:=.string ⟨#[]⟩) y0 y1 y2
     have u1:=v3_1 (a:=.int .i64 4) (b:=.int .i64 r) (c:=.string ⟨#[]⟩) y0 y1 y2
     have u2:=v3_2 (a:=.int .i64 4) (b:=.int .i64 r) (c:=.string ⟨#[]⟩) y0 y1 y2
     exact bodyPost_ret (v:=.agg #[.int .i64 4,.int .i64 r,.string ⟨#[]⟩]) (by simp [results,Try.results44,go_sem,u0,u1,u2]) rfl ⟨⟨4,r,⟨#[]⟩⟩,rfl,valid_int r,case_set3 HC.out hgl,grown_set3 HG.out (Nat.le_refl _)⟩
   · have e4:(k == 4)=false:=beq_eq_false_iff_ne.2 h4
     have HK:=Lib.hid (show kindOf k=5 by unfold kindOf;rw [if_neg h3,if_neg h4])
     go_enter Try.func44,Try.ntmps44
     go_wp2_with fail
     refine(text_any g _ HC0.out).mono ?_
     rintro e w1 ⟨t,rfl,ht,hc1,hg1,hs1⟩
     have HT:=Lib.hid ht
     have HC:=Lib.hid hc1
     have HG:=Lib.hid hg1
     obtain⟨y0,y1,y2⟩:w1.cell? ⟨w.heap.size,0,none⟩=some (.int .i64 0)∧w1.cell? ⟨w.heap.size,1,none⟩=some (.int .i64 0)∧w1.cell? ⟨w.heap.size,2,none⟩=some (.string ⟨#[]⟩):=by
      have hb:=hg1.block w.heap.size (by simp) (by intro e;injection e with e;omega)
      have h:=hb.trans (heap_alloc_new w zObj)
      exact⟨cell_of_row _ _ _ _ _ _ h,cell_of_row _ _ _ _ _ _ h,cell_of_row _ _ _ _ _ _ h⟩
     obtain⟨f0,f1,f2⟩:w1.frozen? ⟨w.heap.size,0,none⟩=false∧w1.frozen? ⟨w.heap.size,1,none⟩=false∧w1.frozen? ⟨w.heap.size,2,none⟩=false:=by
      have hb:=hg1.block w.heap.size (by simp) (by intro e;injection e with e;omega)
      have h:=hb.trans (heap_alloc_new w zObj)
      simp [World.frozen?,h]
     have hz1:w.heap.size<w1.heap.size:=by have:=hg1.size;omega
     clear hc1 hg1 hs1 ht
     go_wp2_with fail
     have u0:=v3_0 (a:=.int .i64 5) (b:=.int .i64 0) (c:=.string t) y0 y1 y2
     have u1:=v3_1 (a:=.int .i64 5) (b:=.int .i64 0) (c:=.string t) y0 y1 y2
     have u2:=v3_2 (a:=.int .i64 5) (b:=.int .i64 0) (c:=.string t) y0 y1 y2
     exact bodyPost_ret (v:=.agg #[.int .i64 5,.int .i64 0,.string t]) (by simp [results,Try.results44,go_sem,u0,u1,u2]) rfl ⟨⟨5,0,t⟩,rfl,by rw [HK.out];exact valid_text HT.out,case_set3 HC.out hgl,grown_set3 HG.out (Nat.le_refl _)⟩
def AnyV (v:V):Prop:=validV v=true
theorem any_small {r:Int} (h0:0≤r) (h:1+r<3):AnyV ⟨1+r,0,⟨#[]⟩⟩:=by
 have:r=0∨r=1:=by omega
 rcases this with rfl | rfl<;>simp [AnyV,validV]
set_option maxHeartbeats 2000000 in
theorem anyV_any (g:Nat) (w:World) (hc:CaseOk w g):Calls Try.prog 69 #[.pointer (some ⟨g,0,none⟩)] w (ValPost AnyV w g):=by
 have hgl:=hc.lt
 have HC0:=Lib.hid (hc.keep (w':=w.alloc zObj) (fun b hb=>Below.heap_alloc _ _ _ (by omega)))
 clear hc
 have hza:(w.alloc zObj).heap.size=w.heap.size+1:=by simp
 go_enter Try.func69,Try.ntmps69
 go_wp2_with fail
 refine(int_any g 5 _ (by omega) HC0.out).mono ?_
 rintro e w0 ⟨r,rfl,h0,h1,-,hc0,hg0,hs0⟩
 have hr:=h1 (by omega)
 have HCA:=Lib.hid hc0
 have HGA:=Lib.hid hg0
 clear hc0 hg0 hs0 h1
 have hra:IntKind.i64.wrap (1+r)=1+r:=IntWalk.i64_in _ (by omega)
 by_cases h3:1+r<3
 · have hg1:=HGA.out
   have HC:=HCA
   have HG:=HGA
   have HR:=Lib.hid (any_small h0 h3)
   obtain⟨y0,y1,y2⟩:w0.cell? ⟨w.heap.size,0,none⟩=some (.int .i64 0)∧w0.cell? ⟨w.heap.size,1,none⟩=some (.int .i64 0)∧w0.cell? ⟨w.heap.size,2,none⟩=some (.string ⟨#[]⟩):=by
    have hb:=hg1.block w.heap.size (by simp) (by intro e;injection e with e;omega)
    have h:=hb.trans (heap_alloc_new w zObj)
    exact⟨cell_of_row _ _ _ _ _ _ h,cell_of_row _ _ _ _ _ _ h,cell_of_row _ _ _ _ _ _ h⟩
   obtain⟨f0,f1,f2⟩:w0.frozen? ⟨w.heap.size,0,none⟩=false∧w0.frozen? ⟨w.heap.size,1,none⟩=false∧w0.frozen? ⟨w.heap.size,2,none⟩=false:=by
    have hb:=hg1.block w.heap.size (by simp) (by intro e;injection e with e;omega)
    have h:=hb.trans (heap_alloc_new w zObj)
    simp [World.frozen?,h]
   have hz1:w.heap.size<w0.heap.size:=by have:=hg1.size;omega
   clear hg1
   go_wp2_with fail
   have u0:=v3_0 (a:=.int .i64 (1+r)) (b:=.int .i64 0) (c:=.string ⟨#[]⟩) y0 y1 y2
   have u1:=v3_1 (a:=.int .i64 (1+r)) (b:=.int .i64 0) (c:=.string ⟨#[]⟩) y0 y1 y2
   have u2:=v3_2 (a:=.int .i64 (1+r)) (b:=.int .i64 0) (c:=.string ⟨#[]⟩) y0 y1 y2
   exact bodyPost_ret (v:=.agg #[.int .i64 (1+r),.int .i64 0,.string ⟨#[]⟩]) (by simp [results,Try.results69,go_sem,u0,u1,u2]) rfl ⟨⟨1+r,0,⟨#[]⟩⟩,rfl,HR.out,case_set3 HC.out hgl,grown_set3 HG.out (Nat.le_refl _)⟩
 · go_wp2_with fail
   refine(value_any g (1+r) _ HCA.out).mono ?_
   rintro e w1 ⟨⟨vk,vi,vt⟩,rfl,hv,hc1,hg1'⟩
   have hg1:=HGA.out.trans hg1'
   have HV:=Lib.hid hv
   have HC:=Lib.hid hc1
   have HG:=Lib.hid hg1
   obtain⟨y0,y1,y2⟩:w1.cell? ⟨w.heap.size,0,none⟩=some (.int .i64 0)∧w1.cell? ⟨w.heap.size,1,none⟩=some (.int .i64 0)∧w1.cell? ⟨w.heap.size,2,none⟩=some (.string ⟨#[]⟩):=by
    have hb:=hg1.block w.heap.size (by simp) (by intro e;injection e with e;omega)
    have h:=hb.trans (heap_alloc_new w zObj)
    exact⟨cell_of_row _ _ _ _ _ _ h,cell_of_row _ _ _ _ _ _ h,cell_of_row _ _ _ _ _ _ h⟩
   obtain⟨f0,f1,f2⟩:w1.frozen? ⟨w.heap.size,0,none⟩=false∧w1.frozen? ⟨w.heap.size,1,none⟩=false∧w1.frozen? ⟨w.heap.size,2,none⟩=false:=by
    have hb:=hg1.block w.heap.size (by simp) (by intro e;injection e with e;omega)
    have h:=hb.trans (heap_alloc_new w zObj)
    simp [World.frozen?,h]
   have hz1:w.heap.size<w1.heap.size:=by have:=hg1.size;omega
   clear hc1 hg1 hg1' hv
   go_wp2_with fail
   have u0:=v3_0 (a:=.int .i64 vk) (b:=.int .i64 vi) (c:=.string vt) y0 y1 y2
   have u1:=v3_1 (a:=.int .i64 vk) (b:=.int .i64 vi) (c:=.string vt) y0 y1 y2
   have u2:=v3_2 (a:=.int .i64 vk) (b:=.int .i64 vi) (c:=.string vt) y0 y1 y2
   exact bodyPost_ret (v:=.agg #[.int .i64 vk,.int .i64 vi,.string vt]) (by simp [results,Try.results69,go_sem,u0,u1,u2]) rfl ⟨⟨vk,vi,vt⟩,rfl,HV.out.1,case_set3 HC.out hgl,grown_set3 HG.out (Nat.le_refl _)⟩
end Go.Proofs.Ytkpjjfhfbpfjpaa

