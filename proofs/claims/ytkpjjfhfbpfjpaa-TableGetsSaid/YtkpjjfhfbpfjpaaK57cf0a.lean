import Derived.Test.YtkpjjfhfbpfjpaaK6f1ba9
import Derived.Test.YtkpjjfhfbpfjpaaK109c91
import Derived.Test.YtkpjjfhfbpfjpaaK32f246
import Derived.Test.YtkpjjfhfbpfjpaaK948fd6
import Derived.Test.YtkpjjfhfbpfjpaaK9c4ebf
import Derived.Test.YtkpjjfhfbpfjpaaKc4064c
import Derived.Test.YtkpjjfhfbpfjpaaK1188ff
set_option linter.unusedVariables false
set_option linter.unusedSimpArgs false
set_option maxRecDepth 100000
namespace Go.Proofs.Ytkpjjfhfbpfjpaa
open Go.RowKit
set_option maxHeartbeats 2000000 in
theorem get_out (A0:Option Addr) (c0':Nat) (s:Sch) (A:Option Addr) (ca:Nat) (st:St) (t:Int) (AK:Option Addr) (ck:Nat) (key:Row) (S:Nat→Prop) (w:World) (hsl:s.tabs.length≤17592186044416) (hstl:st.length≤5864062014805) (hin:inT s st t=false) :
  Calls Try.prog 70 #[sAgg s.version A0 s.tabs.length c0',stAgg A st.length ca,.int .i64 t,.slice AK key.length ck] w (GetPost S none w):=by
 have HB0:=Lib.hid (((Below.refl w.heap.size w).alloc (Nat.le_refl _) (.cells #[.int .i64 s.version,.slice A0 s.tabs.length c0'] 25)).alloc (by simp) (.cells #[.slice A st.length ca] 56))
 have hor:=not_in hin
 clear hin
 by_cases h0:t<0
 · have hd1:decide (t<0)=true:=decide_eq_true h0
   clear hor
   go_enter Try.func70,Try.ntmps70
   go_wp2_with fail
   go_ret2
   exact⟨HB0.out,rfl⟩
 · have hd1:decide (t<0)=false:=decide_eq_false h0
   by_cases h1:(s.tabs.length:Int)≤t
   · have hd2:decide ((s.tabs.length:Int)≤t)=true:=decide_eq_true h1
     clear hor
     go_enter Try.func70,Try.ntmps70
     go_wp2_with fail
     go_ret2
     exact⟨HB0.out,rfl⟩
   · have hd2:decide ((s.tabs.length:Int)≤t)=false:=decide_eq_false h1
     have h3:(st.length:Int)≤t:=by omega
     have hd3:decide ((st.length:Int)≤t)=true:=decide_eq_true h3
     clear hor
     go_enter Try.func70,Try.ntmps70
     go_wp2_with fail
     go_ret2
     exact⟨HB0.out,rfl⟩
theorem get_any (A0:Option Addr) (c0':Nat) (s:Sch) (A:Option Addr) (ca:Nat) (st:St) (t:Int) (AK:Option Addr) (ck:Nat) (key:Row) (S:Nat→Prop) (w:World) (hs:TabS w S A0 s.tabs) (hst:StS w S A st) (hk:RowS w S AK key) (hS:∀ b,S b→b<w.heap.size) :
  Calls Try.prog 70 #[sAgg s.version A0 s.tabs.length c0',stAgg A st.length ca,.int .i64 t,.slice AK key.length ck] w (GetPost S (getS s st t key) w):=by
 unfold getS
 by_cases hin:inT s st t=true
 · rw [if_pos hin]
   obtain⟨k,rfl,hk1,hk2⟩:=is_in hin
   exact get_in A0 c0' s A ca st k AK ck key S w hs hst hk hS hk1 hk2
 · rw [if_neg hin]
   exact get_out A0 c0' s A ca st t AK ck key S w hs.len hst.len (by simpa using hin)
def countW (st:St):Int:=IntKind.i64.wrap (countF st)
theorem wrap_i64 (x:Int):IntKind.i64.wrap x=if 9223372036854775808≤x % 18446744073709551616 then x % 18446744073709551616 - 18446744073709551616 else x % 18446744073709551616:=by
 simp [IntKind.wrap,IntKind.signed,IntKind.bits]
theorem wrap_add (a b:Int):IntKind.i64.wrap (IntKind.i64.wrap a+b)=IntKind.i64.wrap (a+b):=by
 simp only [wrap_i64]
 split<;>split<;>split<;>omega
set_option maxHeartbeats 1000000 in
theorem countw_any (A:Option Addr) (ca:Nat) (st:St) (S:Nat→Prop) (w:World) (h:StS w S A st) (hS:∀ b,S b→b<w.heap.size) :
  Calls Try.prog 21 #[stAgg A st.length ca] w (IntBel (countW st) w):=by
 have hl:=h.len
 have HI:=Lib.hid h
 have HTK:=Lib.hid (countF_take st)
 clear h
 have HB0:=Lib.hid ((Below.refl w.heap.size w).alloc (Nat.le_refl _) (.cells #[.slice A st.length ca] 56))
 go_enter Try.func21,Try.ntmps21
 go_wp2_with fail
 go_loopw [3,9] (fun n i wr=>∃ k:Nat,k≤st.length∧i=.int .i64 k∧n=.int .i64 (countW (st.take k))∧wr=(w.alloc (.cells #[.slice A st.length ca] 56))) (fun _ i _=>st.length - (intOf i).toNat)
 case atStart=>exact⟨0,Nat.zero_le _,rfl,rfl,rfl⟩
 case round =>
  obtain⟨k,hk,rfl,rfl,rfl⟩:=hrel
  by_cases hkl:k<st.length
  · obtain⟨b1,o1,rfl,hb1,A',c',d1,d2,d3⟩:=HI.out.at_ hkl
    have hl1:b1<w.heap.size:=hS b1 hb1
    have HSTEP:=Lib.hid (show countW (st.take (k+1))=IntKind.i64.wrap (countW (st.take k)+(st.getD k []).length) by unfold countW;rw [wrap_add,HTK.out k hkl];push_cast;rfl)
    clear d2 d3
    generalize (st.getD k []).length=m at d1 HSTEP
    generalize countW (st.take k)=x at HSTEP
    go_wp2_with fail
    go_roundw
    case rel=>exact⟨k+1,by omega,by go_num,by rw [HSTEP.out,IntWalk.i64_left],trivial⟩
    case measure=>simp [intOf];omega
  · have HF:=Lib.hid (show countW st=countW (st.take k) by rw [List.take_of_length_le (by omega)])
    go_wp2_with fail
    go_ret
    exact⟨by rw [HF.out];rfl,HB0.out⟩
set_option maxHeartbeats 1000000 in
theorem rcountw_any (A:Option Addr) (ca:Nat) (st:St) (S:Nat→Prop) (w:World) (h:StS w S A st) (hS:∀ b,S b→b<w.heap.size) :
  Calls Try.prog 30 #[stAgg A st.length ca] w (IntBel (countW st) w):=by
 have hl:=h.len
 have HI:=Lib.hid h
 have HTK:=Lib.hid (countF_take st)
 clear h
 have HB0:=Lib.hid ((Below.refl w.heap.size w).alloc (Nat.le_refl _) (.cells #[.slice A st.length ca] 56))
 go_enter Try.func30,Try.ntmps30
 go_wp2_with fail
 go_loopw [3,9] (fun n i wr=>∃ k:Nat,k≤st.length∧i=.int .i64 k∧n=.int .i64 (countW (st.take k))∧wr=(w.alloc (.cells #[.slice A st.length ca] 56))) (fun _ i _=>st.length - (intOf i).toNat)
 case atStart=>exact⟨0,Nat.zero_le _,rfl,rfl,rfl⟩
 case round =>
  obtain⟨k,hk,rfl,rfl,rfl⟩:=hrel
  by_cases hkl:k<st.length
  · obtain⟨b1,o1,rfl,hb1,A',c',d1,d2,d3⟩:=HI.out.at_ hkl
    have hl1:b1<w.heap.size:=hS b1 hb1
    have HSTEP:=Lib.hid (show countW (st.take (k+1))=IntKind.i64.wrap (countW (st.take k)+(st.getD k []).length) by unfold countW;rw [wrap_add,HTK.out k hkl];push_cast;rfl)
    clear d2 d3
    generalize (st.getD k []).length=m at d1 HSTEP
    generalize countW (st.take k)=x at HSTEP
    go_wp2_with fail
    go_roundw
    case rel=>exact⟨k+1,by omega,by go_num,by rw [HSTEP.out,IntWalk.i64_left],trivial⟩
    case measure=>simp [intOf];omega
  · have HF:=Lib.hid (show countW st=countW (st.take k) by rw [List.take_of_length_le (by omega)])
    go_wp2_with fail
    go_ret
    exact⟨by rw [HF.out];rfl,HB0.out⟩
end Go.Proofs.Ytkpjjfhfbpfjpaa

namespace Go.Proofs.Ytkpjjfhfbpfjpaa
open Go.RowKit
set_option maxHeartbeats 2000000 in
theorem tget_any (A0:Option Addr) (c0':Nat) (s:Sch) (A:Option Addr) (ca:Nat) (st:St) (t:Int) (AK:Option Addr) (ck:Nat) (key:Row) (S:Nat→Prop) (w:World) (hs:TabS w S A0 s.tabs) (hst:StS w S A st) (hk:RowS w S AK key) (hS:∀ b,S b→b<w.heap.size) :
  Calls Try.prog 34 #[sAgg s.version A0 s.tabs.length c0',stAgg A st.length ca,.int .i64 t,.slice AK key.length ck] w (GetN (getS s st t key) w):=by
 have hsl:=hs.len
 have hstl:=hst.len
 have HS:=Lib.hid hs
 have HST:=Lib.hid hst
 have HK:=Lib.hid hk
 clear hs hst hk
 have HB0:=Lib.hid (((Below.refl w.heap.size w).alloc (Nat.le_refl _) (.cells #[.int .i64 s.version,.slice A0 s.tabs.length c0'] 25)).alloc (by simp) (.cells #[.slice A st.length ca] 56))
 have HSM:=Lib.hid (Same.of_below HB0.out hS)
 obtain⟨o,ho⟩:∃ o,getS s st t key=o:=⟨_,rfl⟩
 have HO:=Lib.hid ho
 clear ho
 go_enter Try.func34,Try.ntmps34
 go_wp2_with fail
 refine(get_any A0 c0' s A ca st t AK ck key S _ (HS.out.keep HSM.out) (HST.out.keep HSM.out) (HK.out.keep HSM.out) (fun b hb=>by have:=hS b hb;simp;omega)).mono ?_
 rintro e w1 ⟨hb1,hm⟩
 have HB1:=Lib.hid (HB0.out.trans (hb1.mono (by simp;omega)))
 clear hb1
 rw [HO.out] at hm ⊢
 cases o with
 | none =>
  obtain rfl:=hm
  go_wp2_with fail
  refine(show Calls _ _ _ _ _ from clone_any none 0 [] (fun _=>False) w1 RowS.nil_).mono ?_
  rintro e w2 hN
  obtain⟨A3,c3,rfl,h3,hb3⟩:=NewR.low (w:=w) hN HB1.out
  have H3:=Lib.hid h3
  have HB3:=Lib.hid hb3
  clear hN h3 hb3
  go_wp2_with fail
  go_ret2
  rw [HO.out]
  exact⟨A3,c3,rfl,H3.out,HB3.out⟩
 | some r =>
  obtain⟨A2,c2,rfl,hc2,hr2⟩:=hm
  have HR2:=Lib.hid hr2
  clear hr2
  go_wp2_with fail
  refine(clone_any A2 c2 r S _ HR2.out).mono ?_
  rintro e w2 hN
  obtain⟨A3,c3,rfl,h3,hb3⟩:=NewR.low (w:=w) hN HB1.out
  have H3:=Lib.hid h3
  have HB3:=Lib.hid hb3
  clear hN h3 hb3
  go_wp2_with fail
  go_ret2
  rw [HO.out]
  exact⟨A3,c3,rfl,H3.out,HB3.out⟩
end Go.Proofs.Ytkpjjfhfbpfjpaa

namespace Go.Proofs.Ytkpjjfhfbpfjpaa
open Go.RowKit
theorem IsRow.below {k:IntKind} {w w':World} {a:Option Addr} {len cap:Nat} {zs:List Int} (h:IsRow k w a len cap zs) (hb:Below w.heap.size w w'):IsRow k w' a len cap zs:=by
 rcases h with h | ⟨x,h1,h2,h3,h4,h5,h6⟩
 · exact .inl h
 · exact .inr ⟨x,h1,h2,h3,h4,fun i hi=>(World.cell?_of_block (hb.block _ (World.block_lt_of_cell? w _ (h5 i hi)))).trans (h5 i hi),h6⟩
theorem grown_of_below {w w':World} {r:Option Nat} (h:Below w.heap.size w w'):w.grownBy w' r:=⟨h.os,h.tape,h.output,h.size,fun b hb _=>h.block b hb⟩
theorem below_of_grown {w w':World} {n g:Nat} (h:w.grownBy w' (some g)) (hn:n≤g) (hw:n≤w.heap.size):Below n w w':=⟨h.os,h.tape,h.output,h.size,fun b hb=>h.block b (by omega) (fun e=>by injection e with e;omega)⟩
theorem keyKF_len {s:Sch} (h:GenS s) {t:Int}:(keyKF s t).length≤4:=by
 have hk:(kindsF s t).length≤4:=by
  by_cases hh:hasN s.tabs.length t=true
  · unfold hasN at hh
    simp only [Bool.and_eq_true,decide_eq_true_eq] at hh
    obtain⟨k,rfl⟩:=Int.eq_ofNat_of_zero_le hh.1
    exact(h.kinds (by omega)).2
  · unfold kindsF
    rw [if_neg hh]
    simp
 unfold keyKF
 rw [List.length_take]
 omega
theorem st_bounds {s:Sch} {m:Int} {st:St} (h:GenS s) (hs:StOk s m st) (h4:∀ j,(st.getD j []).length≤4):∀ l ∈ st,l.length≤4∧∀ r ∈ l,1≤r.length∧r.length≤4:=fun l hl=>by
 obtain⟨t,ht,rfl⟩:=List.getElem_of_mem hl
 have e:st.getD t []=st[t]:=by simp [List.getD,ht]
 have hts:t<s.tabs.length:=by rw [←hs.1];exact ht
 refine⟨by have:=h4 t;rw [e] at this;exact this,fun r hr=>?_⟩
 have h1:=(hs.2 t ht).1 r (by rw [e];exact hr)
 have h2:=fits_len h1
 rw [Int.toNat_natCast] at h2
 have h3:=h.wide t hts
 have h5:=h.kinds hts
 have h6:=h5.2
 rw [h5.1,List.length_map] at h6
 omega
theorem getS_ok {w:World} {S:Nat→Prop} {A:Option Addr} {s:Sch} {st:St} {t:Int} {key:Row} (h:StS w S A st):RowOk ((getS s st t key).getD []):=by
 have hn:RowOk []:=⟨by simp,fun v hv=>by simp at hv⟩
 unfold getS
 split
 · rename_i hh
   obtain⟨k,rfl,_,hk⟩:=is_in hh
   obtain⟨b,o,_,_,A',c,_,_,h2⟩:=h.at_ hk
   cases hf:findK s k key (st.getD (k:Int).toNat []) with
   | none=>exact hn
   | some r =>
    have hr:=List.mem_of_find?_eq_some hf
    rw [Int.toNat_natCast] at hr
    obtain⟨i,hi,rfl⟩:=List.getElem_of_mem hr
    obtain⟨_,_,_,_,_,_,_,_,h3⟩:=h2.at_ hi
    rw [getD_lt hi] at h3
    exact h3.ok
 · exact hn
set_option maxHeartbeats 8000000 in
theorem gets_walk (a:Option Addr) (len cap0:Nat) (zs:List Int) (AR:Option Addr) (cr:Nat) (raw:St) (t:Int) (AK:Option Addr) (ck:Nat) (key:Row) (w:World) (hrow:IsRow .u8 w a len cap0 zs) (hraw:StS w (Lt w) AR raw) (hkey:RowS w (Lt w) AK key) :
  Calls Try.prog 7 #[.slice a len cap0,stAgg AR raw.length cr,.int .i64 t,.slice AK key.length ck] w (BoolBel true w):=by
 have HRAW:=Lib.hid hraw
 have HKEY:=Lib.hid hkey
 have HB0:=Lib.hid ((Below.refl w.heap.size w).alloc (Nat.le_refl _) (.cells #[.slice AR raw.length cr] 56))
 have HROW:=Lib.hid (hrow.below HB0.out)
 have RB0:=Lib.hid (heap_alloc_new w (.cells #[.slice AR raw.length cr] 56))
 clear hrow hraw hkey
 go_enter Try.func7,Try.ntmps7
 go_wp2_with fail
 refine(new_any a len cap0 zs 160 _ (by omega) HROW.out).mono ?_
 rintro e w1 ⟨g,rfl,hg0,hc1,hb1⟩
 have hgl1:=hc1.lt
 have HC1:=Lib.hid hc1
 have hg0':w.heap.size<g:=by have:=hg0;simp at this;omega
 have HB1:=Lib.hid (HB0.out.trans (hb1.mono (by simp)))
 have RB:=Lib.hid ((hb1.block w.heap.size (by simp)).trans RB0.out)
 have hz1:=hb1.size
 clear hc1 hb1
 go_wp2_with fail
 refine(schema_any g _ HC1.out).mono ?_
 rintro e w2 ⟨s,A0,c0',rfl,hgs,hcap,hts,hc2,hg2⟩
 have hz2:=hg2.size
 have hsl:=hgs.len
 have HGS:=Lib.hid hgs
 have HTS:=Lib.hid (hts.more (S':=Rng g w2) (fun b hb=>⟨by have:=hb.1;omega,hb.2⟩))
 have HC2:=Lib.hid hc2
 have RB:=Lib.hid ((hg2.block w.heap.size (by omega) (fun e=>by injection e with e;omega)).trans RB.out)
 have HB2:=Lib.hid (below_grown HB1.out hg2 (by omega) (by omega))
 clear hgs hts hc2 hg2 HC1 HB1
 obtain⟨W2,hW2⟩:∃ W2,w2.alloc (.cells #[.int .i64 s.version,.slice A0 s.tabs.length c0'] 25)=W2:=⟨_,rfl⟩
 obtain⟨sb,hsb⟩:∃ sb,w2.heap.size=sb:=⟨_,rfl⟩
 have hbW2:Below w2.heap.size w2 W2:=by rw [←hW2];exact(Below.refl _ _).alloc (Nat.le_refl _) _
 have SB:=Lib.hid (show W2.heap[sb]?=some (.cells #[.int .i64 s.version,.slice A0 s.tabs.length c0'] 25 (0,0)) by rw [←hW2,←hsb];exact heap_alloc_new w2 _)
 have HTS:=Lib.hid ((HTS.out.keep (Same.of_below hbW2 (fun b hb=>hb.2))).more (rng_more hbW2.size))
 have HC2:=Lib.hid (HC2.out.keep (fun b hb=>hbW2.block b (by omega)))
 have HB2:=Lib.hid (HB2.out.trans (hbW2.mono (by omega)))
 have RB:=Lib.hid ((hbW2.block w.heap.size (by omega)).trans RB.out)
 have hzW2:W2.heap.size=sb+1:=by rw [←hW2,←hsb];simp
 have hgs2:g<sb:=by omega
 have s0:W2.cell? ⟨sb,0,none⟩=some (.int .i64 s.version):=cells_of_block SB.out 0 _ rfl
 have s1:W2.cell? ⟨sb,1,none⟩=some (.slice A0 s.tabs.length c0'):=cells_of_block SB.out 1 _ rfl
 go_wp2_with fail
 skip
 clear hW2 hbW2 hsb
 refine(state_any g A0 c0' s 3 (Rng g W2) _ HTS.out (fun b hb=>⟨hb.2,by have:=hb.1;omega⟩) HGS.out rfl HC2.out).mono ?_
 rintro e w4 ⟨gt,st,rfl,hso,hs4,hgt,hstc,hc4,hg4⟩
 have hz4:=hg4.size
 have HBD:=Lib.hid (st_bounds HGS.out hso hs4)
 have HSTC:=Lib.hid (hstc.slice (S':=Rng g w4) (by have h8:=hso.1;omega) (fun b hb=>by rcases hb with hb | hb;{ exact⟨hb.1,by have:=hb.2;omega⟩ };exact⟨by have:=hb.1;omega,hb.2⟩) ⟨by omega,hstc.lt⟩)
 have HTS:=Lib.hid ((HTS.out.keep (rng_grown hg4)).more (rng_more hg4.size))
 have SB:=Lib.hid ((hg4.block sb (by omega) (fun e=>by injection e with e;omega)).trans SB.out)
 have RB:=Lib.hid ((hg4.block w.heap.size (by omega) (fun e=>by injection e with e;omega)).trans RB.out)
 have HC4:=Lib.hid hc4
 have HB4:=Lib.hid (below_grown HB2.out hg4 (by omega) (by omega))
 have hstl:st.length≤4:=by have h8:=hso.1;omega
 clear hso hs4 hstc hc4 hg4 HC2 HB2 s0 s1 hgt
 obtain⟨W4,hW4⟩:∃ W4,w4.alloc (.cells #[.slice (some ⟨gt,0,none⟩) st.length st.length] 56)=W4:=⟨_,rfl⟩
 obtain⟨tb,htb⟩:∃ tb,w4.heap.size=tb:=⟨_,rfl⟩
 have hbW4:Below w4.heap.size w4 W4:=by rw [←hW4];exact(Below.refl _ _).alloc (Nat.le_refl _) _
 have TB:=Lib.hid (show W4.heap[tb]?=some (.cells #[.slice (some ⟨gt,0,none⟩) st.length st.length] 56 (0,0)) by rw [←hW4,←htb];exact heap_alloc_new w4 _)
 have SB:=Lib.hid ((hbW4.block sb (by omega)).trans SB.out)
 have RB:=Lib.hid ((hbW4.block w.heap.size (by omega)).trans RB.out)
 have HTS:=Lib.hid ((HTS.out.keep (Same.of_below hbW4 (fun b hb=>hb.2))).more (rng_more hbW4.size))
 have HSTC:=Lib.hid ((HSTC.out.keep (Same.of_below hbW4 (fun b hb=>hb.2))).more (rng_more hbW4.size))
 have HC4:=Lib.hid (HC4.out.keep (fun b hb=>hbW4.block b (by omega)))
 have HB4:=Lib.hid (HB4.out.trans (hbW4.mono (by omega)))
 have hzW4:W4.heap.size=tb+1:=by rw [←hW4,←htb];simp
 have hst':sb<tb:=by omega
 have u0:W4.cell? ⟨tb,0,none⟩=some (.slice (some ⟨gt,0,none⟩) st.length st.length):=cells_of_block TB.out 0 _ rfl
 have u1:W4.cell? ⟨w.heap.size,0,none⟩=some (.slice AR raw.length cr):=cells_of_block RB.out 0 _ rfl
 clear hbW4
 go_wp2_with fail
 try rw [htb]
 try rw [hW4]
 clear htb hW4
 refine hideQ (fun c a d v w h=>by cases d<;>exact h) (fun Q' HQ HP=>?_)
 refine regionT_until (fun w'=>w'.cell? ⟨tb,0,none⟩=some (.slice (some ⟨gt,0,none⟩) st.length st.length)∧w'.cell? ⟨w.heap.size,0,none⟩=some (.slice AR raw.length cr)) 8 8 (bA 8 0) (by kernel_rfl) (by kernel_rfl) (by kernel_rfl) ?_
 refine tk 0 31 (bA 8 1) _ rfl (by kernel_rfl) (by kernel_rfl) HP.out (by rfl) (fun w' hSw=>by (try dsimp only at hSw);go_simp;(try with_reducible rfl)) ⟨u0,u1⟩ ?_
 simp only [psA,psB,psC]
 refine tk 1 32 (bA 8 3) _ rfl (by kernel_rfl) (by kernel_rfl) HP.out (by rfl) (fun w' hSw=>by (try dsimp only at hSw);go_simp;(try with_reducible rfl)) ⟨u0,u1⟩ ?_
 simp only [psA,psB,psC]
 refine tk 2 33 (bA 8 7) _ rfl (by kernel_rfl) (by kernel_rfl) HP.out (by rfl) (fun w' hSw=>by (try dsimp only at hSw);go_simp;(try with_reducible rfl)) ⟨u0,u1⟩ ?_
 simp only [psA,psB,psC]
 refine tk 4 35 (bA 8 23) _ rfl (by kernel_rfl) (by kernel_rfl) HP.out (by rfl) (fun w' hSw=>by (try dsimp only at hSw);go_simp;(try with_reducible rfl)) ⟨u0,u1⟩ ?_
 simp only [psA,psB,psC]
 refine tk 7 38 (bA 8 151) _ rfl (by kernel_rfl) (by kernel_rfl) HP.out (by rfl) (fun w' hSw=>by (try dsimp only at hSw);go_simp;(try with_reducible rfl)) ⟨u0,u1⟩ ?_
 simp only [psA,psB,psC]
 refine anyT_one (i:=3) (o:=⟨some 34,_,_,_,_,_⟩) (L':=(bA 8 159)) rfl (by kernel_rfl) (by kernel_rfl) (fun K hK=>?_)
 have HK:=Lib.hid hK
 clear hK
 go_simp
 refine(spoilState_any g (some ⟨gt,0,none⟩) st.length st 4 (Rng g W4) W4.drew (HSTC.out.keep (w':=W4.drew) (fun _ _=>rfl)) (fun b hb=>hb.2) HBD.out (by omega) (by omega) (by omega) (HC4.out.keep (fun _ _=>rfl))).mono ?_
 rintro e w5 ⟨x,XA,xc,rfl,hxcap,hxl,hxb,hxs,hc5,hg5⟩
 have hg5':W4.grownBy w5 (some g):=⟨hg5.os,hg5.tape,hg5.output,hg5.size,hg5.block⟩
 have hz5:W4.heap.size≤w5.heap.size:=hg5.size
 have HXS:=Lib.hid (show StS w5 (fun b=>W4.heap.size≤b∧b<w5.heap.size) XA x from hxs)
 have HC5:=Lib.hid hc5
 have HG5:=Lib.hid hg5'
 have u0:=hg5'.cell u0 (by intro e;injection e with e;have e':tb=g:=e;omega)
 have u1:=hg5'.cell u1 (by intro e;injection e with e;have e':w.heap.size=g:=e;omega)
 clear hxs hc5 hg5 hg5' hxcap hxl hxb
 refine HK.out _ _ (fun _=>⟨u0,u1⟩) ?_
 clear HK K
 try simp only [Act.put,psA,psB,psC]
 refine anyT_one (i:=5) (o:=⟨some 36,_,_,_,_,_⟩) (L':=(bA 8 191)) rfl (by kernel_rfl) (by kernel_rfl) (fun K hK=>?_)
 have HK:=Lib.hid hK
 clear hK
 go_simp
 obtain⟨W5,hW5⟩:∃ W5,w5.alloc (.cells #[.slice (some ⟨gt,0,none⟩) st.length st.length,.slice XA x.length xc,.slice AR raw.length cr] 56)=W5:=⟨_,rfl⟩
 have hb5:Below w5.heap.size w5 W5:=by rw [←hW5];exact(Below.refl _ _).alloc (Nat.le_refl _) _
 have hz5W:W5.heap.size=w5.heap.size+1:=by rw [←hW5];simp
 have AB:=Lib.hid (show W5.heap[w5.heap.size]?=some (.cells #[.slice (some ⟨gt,0,none⟩) st.length st.length,.slice XA x.length xc,.slice AR raw.length cr] 56 (0,0)) by rw [←hW5];exact heap_alloc_new w5 _)
 have HB5:=Lib.hid ((below_grown HB4.out HG5.out (by omega) (by omega)).trans (hb5.mono (by omega)))
 have hs5:Same (Rng g W4) W4 W5:=fun b hb=>(hb5.block b (by have:=hb.2;omega)).trans (HG5.out.block b hb.2 (fun e=>by injection e with e;have:=hb.1;omega))
 have HTS:=Lib.hid ((HTS.out.keep hs5).more (S':=Rng g W5) (fun b hb=>⟨hb.1,by have:=hb.2;omega⟩))
 have HST5:=Lib.hid ((HSTC.out.keep hs5).more (S':=fun b=>b<W5.heap.size∧b≠g) (fun b hb=>⟨by have:=hb.2;omega,by have:=hb.1;omega⟩))
 have HXS5:=Lib.hid ((HXS.out.keep (w':=W5) (fun b hb=>hb5.block b hb.2)).more (S':=fun b=>b<W5.heap.size∧b≠g) (fun b hb=>⟨by have:=hb.2;omega,by have:=hb.1;omega⟩))
 have HRW5:=Lib.hid ((HRAW.out.keep (w':=W5) (fun b hb=>HB5.out.block b hb)).more (S':=fun b=>b<W5.heap.size∧b≠g) (fun b hb=>by have h9:b<w.heap.size:=hb;exact⟨by omega,by omega⟩))
 have HAX:=Lib.hid (show W4.heap.size≤w5.heap.size from hz5)
 have SB5:=Lib.hid ((hb5.block sb (by omega)).trans ((HG5.out.block sb (by omega) (fun e=>by injection e with e;omega)).trans SB.out))
 have TB5:=Lib.hid ((hb5.block tb (by omega)).trans ((HG5.out.block tb (by omega) (fun e=>by injection e with e;omega)).trans TB.out))
 have HC5:=Lib.hid (HC5.out.keep (fun b hb=>hb5.block b (by omega)))
 have u0:=(hb5.cell (p:=⟨tb,0,none⟩) (by show tb<w5.heap.size;omega)).trans u0
 have u1:=(hb5.cell (p:=⟨w.heap.size,0,none⟩) (by show w.heap.size<w5.heap.size;omega)).trans u1
 rw [hW5]
 clear hW5 hb5 hs5 HSTC HXS
 refine HK.out _ _ (fun _=>⟨u0,u1⟩) ?_
 clear HK K
 try simp only [Act.put,psA,psB,psC]
 refine tk 6 37 (bA 8 255) _ rfl (by kernel_rfl) (by kernel_rfl) HP.out (by rfl) (fun w' hSw=>by (try dsimp only at hSw);go_simp;(try with_reducible rfl)) ⟨u0,u1⟩ ?_
 simp only [psA,psB,psC]
 refine anyU_done (by kernel_rfl) ?_
 rw [HQ.out]
 clear HQ HP Q'
 obtain⟨ab,hab⟩:∃ ab,w5.heap.size=ab:=⟨_,rfl⟩
 rw [hab]
 have hzW5:ab<W5.heap.size:=by omega
 have HX:=Lib.hid (show ∀ k,k<3→∃ (x:St) (A:Option Addr) (c:Nat),W5.cell? ⟨ab,k,none⟩=some (.slice A x.length c)∧StS W5 (fun b=>b<W5.heap.size∧b≠g) A x from fun k hk=>by
  have hcs:=cells_of_block AB.out
  rw [hab] at hcs
  match k,hk with
  | 0,_=>exact⟨st,_,_,hcs 0 _ rfl,HST5.out⟩
  | 1,_=>exact⟨x,_,_,hcs 1 _ rfl,HXS5.out⟩
  | 2,_=>exact⟨raw,_,_,hcs 2 _ rfl,HRW5.out⟩)
 have HST0:=HST5
 have hga:g<ab:=by omega
 have htl5:tb<W5.heap.size:=by omega
 have hsl5:sb<W5.heap.size:=by omega
 clear AB HXS5 HRW5 HAX hab u0 u1
 have hkw:∀ W',W5.grownBy W' (some g)→RowS W' (fun b=>b<W'.heap.size) AK key:=fun W' h9=>(HKEY.out.keep (w':=W') (fun b hb=>(h9.block b (by have h8:b<w.heap.size:=hb;omega) (fun e=>by injection e with e;have h8:b<w.heap.size:=hb;omega)).trans (HB5.out.block b hb))).more (fun b hb=>by have h8:b<w.heap.size:=hb;have:=h9.size;show b<W'.heap.size;omega)
 go_wp2_with fail
 go_loopw [38] (fun i wr=>∃ k:Nat,k≤3∧i=.int .i64 k∧W5.grownBy wr (some g)∧CaseOk wr g) (fun i _=>3 - (intOf i).toNat)
 case atStart=>exact⟨0,by omega,rfl,World.grownBy.refl _ _,HC5.out⟩
 case round =>
  obtain⟨wo,rfl⟩:∃ wo:World,wo=wr:=⟨_,rfl⟩
  obtain⟨k,hk,rfl,hgo,hco⟩:=hrel
  have HGO:=Lib.hid hgo
  have HCO:=Lib.hid hco
  have hzo:=hgo.size
  clear hgo hco
  by_cases hk3:k<3
  · obtain⟨x,XA,xc,hxc,hxs⟩:=HX.out k hk3
    have HXS:=Lib.hid hxs
    have a0:=HGO.out.cell hxc (by intro e;injection e with e;have e':ab=g:=e;omega)
    have hlo:ab<wo.heap.size:=by omega
    have hki:(k:Int)<3:=by omega
    clear hxc hxs
    go_wp2_with fail
    obtain⟨xb,hxb⟩:∃ xb,wo.heap.size=xb:=⟨_,rfl⟩
    obtain⟨W6,hW6⟩:∃ W6,wo.alloc (.cells #[.slice XA x.length xc] 56)=W6:=⟨_,rfl⟩
    have XB:=Lib.hid (show W6.heap[xb]?=some (.cells #[.slice XA x.length xc] 56 (0,0)) by rw [←hW6,←hxb];exact heap_alloc_new wo _)
    have HG6:=Lib.hid (show W5.grownBy W6 (some g) by rw [←hW6];exact HGO.out.trans (World.grownBy_alloc wo _ _))
    have HC6:=Lib.hid (show CaseOk W6 g by rw [←hW6];exact HCO.out.keep (fun b hb=>Below.heap_alloc _ _ _ (by omega)))
    have hz6:W6.heap.size=xb+1:=by rw [←hW6,←hxb];simp
    have u0:W6.cell? ⟨xb,0,none⟩=some (.slice XA x.length xc):=cells_of_block XB.out 0 _ rfl
    rw [hW6]
    clear hW6 a0 hlo
    refine hideQ (fun c a d v w h=>by cases d<;>exact h) (fun Q' HQ HP=>?_)
    refine regionT_until (fun w'=>w'.cell? ⟨xb,0,none⟩=some (.slice XA x.length xc)) 5 5 (bA 5 0) (by kernel_rfl) (by kernel_rfl) (by kernel_rfl) ?_
    refine tk 0 42 (bA 5 1) _ rfl (by kernel_rfl) (by kernel_rfl) HP.out (by rfl) (fun w' hSw=>by (try dsimp only at hSw);go_simp;(try with_reducible rfl)) u0 ?_
    simp only [psA,psB,psC]
    refine tk 2 44 (bA 5 5) _ rfl (by kernel_rfl) (by kernel_rfl) HP.out (by rfl) (fun w' hSw=>by (try dsimp only at hSw);go_simp;(try with_reducible rfl)) u0 ?_
    simp only [psA,psB,psC]
    refine anyT_one (i:=1) (o:=⟨some 43,_,_,_,_,_⟩) (L':=(bA 5 7)) rfl (by kernel_rfl) (by kernel_rfl) (fun K hK=>?_)
    have HK:=Lib.hid hK
    clear hK
    go_simp
    refine(countw_any XA xc x _ W6.drew ((HXS.out.keep (w':=W6.drew) (fun b hb=>(HG6.out.block b hb.1 (fun e=>by injection e with e;exact hb.2 e))))) (fun b hb=>by have h9:=hb.1;show b<W6.heap.size;omega)).mono ?_
    rintro e w7 ⟨rfl,hb70⟩
    have hb7:Below W6.heap.size W6 w7:=(Below.refl _ W6).drew.trans hb70
    have hz7:=hb7.size
    clear hb70
    have u0:=(hb7.cell (p:=⟨xb,0,none⟩) (by show xb<W6.heap.size;omega)).trans u0
    refine HK.out _ _ (fun _=>u0) ?_
    clear HK K
    try simp only [Act.put,psA,psB,psC]
    refine anyT_one (i:=3) (o:=⟨some 45,_,_,_,_,_⟩) (L':=(bA 5 15)) rfl (by kernel_rfl) (by kernel_rfl) (fun K hK=>?_)
    have HK:=Lib.hid hK
    clear hK
    go_simp
    refine(rcountw_any XA xc x _ w7 (((HXS.out.keep (w':=W6) (fun b hb=>(HG6.out.block b hb.1 (fun e=>by injection e with e;exact hb.2 e))))).keep (w':=w7) (fun b hb=>hb7.block b (by have h9:=hb.1;omega))) (fun b hb=>by have h9:=hb.1;omega)).mono ?_
    rintro e w8 ⟨rfl,hb80⟩
    have hb8:Below W6.heap.size W6 w8:=hb7.trans (hb80.mono hz7)
    clear hb80
    have u0:=(hb8.cell (p:=⟨xb,0,none⟩) (by show xb<W6.heap.size;omega)).trans (show W6.cell? ⟨xb,0,none⟩=some (.slice XA x.length xc) from cells_of_block XB.out 0 _ rfl)
    refine HK.out _ _ (fun _=>u0) ?_
    clear HK K
    try simp only [Act.put,psA,psB,psC]
    refine anyT_take (i:=4) (oi:=⟨some 46,_,_,_,_,_⟩) (v:=.bool false) (L':=(bA 5 31)) rfl rfl (by kernel_rfl) (by kernel_rfl) (by kernel_rfl) (by kernel_rfl) (by kernel_rfl) HP.out (Or.inl ⟨by rfl,?_⟩) u0 ?_
    · intro w' hSw
      go_simp
      (try simp)
    simp only [psA,psB,psC]
    refine anyU_done (by kernel_rfl) ?_
    rw [HQ.out]
    clear HQ HP Q'
    have HG8:=Lib.hid (HG6.out.trans (grown_of_below hb8))
    have HC8:=Lib.hid (HC6.out.keep (fun b hb=>hb8.block b (by omega)))
    have XB:=Lib.hid ((hb8.block xb (by omega)).trans XB.out)
    have hz8:=hb8.size
    have hxl8:xb<w8.heap.size:=by omega
    have hgx:g<xb:=by omega
    have hx5:W5.heap.size≤xb:=by omega
    clear hb8 u0 HGO HCO hzo hxb HG6 HC6
    go_wp2_with fail
    go_loopw [14] (fun i wi=>∃ j:Nat,j≤4∧i=.int .i64 j∧w8.grownBy wi (some g)∧CaseOk wi g) (fun i _=>4 - (intOf i).toNat)
    case atStart=>exact⟨0,by omega,rfl,World.grownBy.refl _ _,HC8.out⟩
    case round =>
     obtain⟨wi,rfl⟩:∃ wi:World,wi=wr:=⟨_,rfl⟩
     obtain⟨j,hj,rfl,hgi,hci⟩:=hrel
     have HGI:=Lib.hid hgi
     have HCI:=Lib.hid hci
     have hzi:=hgi.size
     clear hgi hci
     by_cases hj4:j<4
     · have hji:(j:Int)<4:=by omega
       have q0:wi.cell? ⟨sb,0,none⟩=some (.int .i64 s.version):=(HG8.out.trans HGI.out).cell (show W5.cell? ⟨sb,0,none⟩=some (.int .i64 s.version) from cells_of_block SB5.out 0 _ rfl) (by intro e;injection e with e;have e':sb=g:=e;omega)
       have q1:wi.cell? ⟨sb,1,none⟩=some (.slice A0 s.tabs.length c0'):=(HG8.out.trans HGI.out).cell (show W5.cell? ⟨sb,1,none⟩=some (.slice A0 s.tabs.length c0') from cells_of_block SB5.out 1 _ rfl) (by intro e;injection e with e;have e':sb=g:=e;omega)
       have q2:wi.cell? ⟨tb,0,none⟩=some (.slice (some ⟨gt,0,none⟩) st.length st.length):=(HG8.out.trans HGI.out).cell (show W5.cell? ⟨tb,0,none⟩=some (.slice (some ⟨gt,0,none⟩) st.length st.length) from cells_of_block TB5.out 0 _ rfl) (by intro e;injection e with e;have e':tb=g:=e;omega)
       have q3:wi.cell? ⟨xb,0,none⟩=some (.slice XA x.length xc):=HGI.out.cell (show w8.cell? ⟨xb,0,none⟩=some (.slice XA x.length xc) from cells_of_block XB.out 0 _ rfl) (by intro e;injection e with e;have e':xb=g:=e;omega)
       go_wp2_with fail
       refine(rkeyKinds_any A0 c0' s (j:Int) (Rng g W5) wi (HTS.out.keep (fun b hb=>((HG8.out.trans HGI.out).block b hb.2 (fun e=>by injection e with e;have:=hb.1;omega)))) (fun b hb=>by have:=hb.2;omega)).mono ?_
       rintro e wk ⟨KA,kc,rfl,hks,hkc,-,hbk⟩
       have HKS:=Lib.hid hks
       have HGK:=Lib.hid (HGI.out.trans (grown_of_below hbk))
       have HCK:=Lib.hid (HCI.out.keep (fun b hb=>hbk.block b (by omega)))
       have hzk:=hbk.size
       clear hks hkc hbk q0 q1 q2 q3
       go_wp2_with fail
       refine(row_any g KA kc (keyKF s (j:Int)) 9 1 (New wi wk) wk HKS.out (fun b hb=>⟨hb.2,by have h9:wi.heap.size≤b:=hb.1;omega⟩) (by have:=keyKF_len HGS.out (t:=(j:Int));omega) HCK.out).mono ?_
       rintro e wq ⟨r0,RA,rc,rfl,hgen,hrow,hcq,hgq⟩
       have HROW1:=Lib.hid (new_row hrow (rowGen_ok hgen (by have:=keyKF_len HGS.out (t:=(j:Int));omega)) (Nat.le_refl _))
       have HGQ:=Lib.hid (HGK.out.trans hgq)
       have HCQ:=Lib.hid hcq
       have hzq:=hgq.size
       clear hrow hgen hcq hgq
       have q0:wq.cell? ⟨sb,0,none⟩=some (.int .i64 s.version):=(HG8.out.trans HGQ.out).cell (show W5.cell? ⟨sb,0,none⟩=some (.int .i64 s.version) from cells_of_block SB5.out 0 _ rfl) (by intro e;injection e with e;have e':sb=g:=e;omega)
       have q1:wq.cell? ⟨sb,1,none⟩=some (.slice A0 s.tabs.length c0'):=(HG8.out.trans HGQ.out).cell (show W5.cell? ⟨sb,1,none⟩=some (.slice A0 s.tabs.length c0') from cells_of_block SB5.out 1 _ rfl) (by intro e;injection e with e;have e':sb=g:=e;omega)
       have q2:wq.cell? ⟨tb,0,none⟩=some (.slice (some ⟨gt,0,none⟩) st.length st.length):=(HG8.out.trans HGQ.out).cell (show W5.cell? ⟨tb,0,none⟩=some (.slice (some ⟨gt,0,none⟩) st.length st.length) from cells_of_block TB5.out 0 _ rfl) (by intro e;injection e with e;have e':tb=g:=e;omega)
       have q3:wq.cell? ⟨xb,0,none⟩=some (.slice XA x.length xc):=HGQ.out.cell (show w8.cell? ⟨xb,0,none⟩=some (.slice XA x.length xc) from cells_of_block XB.out 0 _ rfl) (by intro e;injection e with e;have e':xb=g:=e;omega)
       by_cases hjl:j<st.length
       · obtain⟨b1,o1,hAT,hb1,TA,tc,d1,d2,d3⟩:=(HST0.out.keep (fun b hb=>((HG8.out.trans HGQ.out).block b hb.1 (fun e=>by injection e with e;exact hb.2 e)))).at_ hjl
         injection hAT with hAT
         injection hAT with e1 e2
         subst e1 e2
         have HRS:=Lib.hid d3
         have hlg:gt<wq.heap.size:=by have:=hb1.1;omega
         have hjli:(j:Int)<(st.length:Int):=by omega
         have hd1:decide (j<st.length)=true:=decide_eq_true hjl
         rw [Nat.zero_add] at d1
         clear d2 d3
         generalize st.getD j []=rows at d1 HRS
         by_cases hr0:rows.length=0
         · have hd2:decide (0<rows.length)=false:=decide_eq_false (by omega)
           have hd3:¬ (0:Int)<(rows.length:Int):=by omega
           clear hr0
           go_wp2_with fail
           have HT1:=Lib.hid ((HTS.out.keep (w':=wq) (fun b hb=>((HG8.out.trans HGQ.out).block b hb.2 (fun e=>by injection e with e;have:=hb.1;omega)))).more (S':=fun b=>b<wq.heap.size) (fun b hb=>by have:=hb.2;show b<wq.heap.size;omega))
           have HX1:=Lib.hid ((HXS.out.keep (w':=wq) (fun b hb=>((HG8.out.trans HGQ.out).block b hb.1 (fun e=>by injection e with e;exact hb.2 e)))).more (S':=fun b=>b<wq.heap.size) (fun b hb=>by have:=hb.1;show b<wq.heap.size;omega))
           have HK1:=Lib.hid (show RowS wq (fun b=>b<wq.heap.size) RA r0 from RowS.more HROW1.out.2 (fun b hb=>by first | exact hb | exact hb.2 | (have h9:=hb.2;omega)))
           obtain⟨go,hgo⟩:∃ go,getS s x (j:Int) r0=go:=⟨_,rfl⟩
           have HOK:=Lib.hid (show RowOk (go.getD []) by rw [←hgo];exact getS_ok HX1.out)
           have HT2:=Lib.hid (tget_any A0 c0' s XA xc x (j:Int) RA rc r0 (fun b=>b<wq.heap.size) wq HT1.out HX1.out HK1.out (fun b hb=>hb))
           have HR2:=Lib.hid (fun (W':World) (hb:Below wq.heap.size wq W')=>rget_any A0 c0' s XA xc x (j:Int) RA rc r0 (fun b=>b<wq.heap.size) W' (HT1.out.keep (fun b h=>hb.block b h)) (HX1.out.keep (fun b h=>hb.block b h)) (HK1.out.keep (fun b h=>hb.block b h)) (fun b h=>Nat.lt_of_lt_of_le h hb.size))
           rw [hgo] at HT2 HR2
           clear hgo
           refine HT2.out.mono ?_
           rintro e wE ⟨EA,ec,rfl,hre,hbe⟩
           have HRE:=Lib.hid (new_row hre HOK.out (Nat.le_refl _)).2
           have HBE:=Lib.hid hbe
           have hzE:=hbe.size
           have q0:=(hbe.cell (p:=⟨sb,0,none⟩) (by show sb<wq.heap.size;omega)).trans q0
           have q1:=(hbe.cell (p:=⟨sb,1,none⟩) (by show sb<wq.heap.size;omega)).trans q1
           have q2:=(hbe.cell (p:=⟨tb,0,none⟩) (by show tb<wq.heap.size;omega)).trans q2
           have q3:=(hbe.cell (p:=⟨xb,0,none⟩) (by show xb<wq.heap.size;omega)).trans q3
           clear hre hbe
           obtain⟨gl,hgl⟩:∃ gl,go.getD []=gl:=⟨_,rfl⟩
           obtain⟨gb,hgb⟩:∃ gb,go.isSome=gb:=⟨_,rfl⟩
           have HR3:=Lib.hid (HR2.out wE HBE.out)
           unfold GetN at HR3
           rw [hgl,hgb] at HR3
           rw [hgl] at HRE HOK ⊢
           rw [hgb]
           clear hgl hgb
           go_wp2_with fail
           refine HR3.out.mono ?_
           rintro e wF ⟨FA,fc,rfl,hrf,hbf⟩
           have HRF:=Lib.hid (new_row hrf HOK.out (Nat.le_refl _)).2
           have HBF:=Lib.hid (HBE.out.trans (hbf.mono hzE))
           have HREF:=Lib.hid ((show RowS wE (fun b=>wq.heap.size≤b∧b<wE.heap.size) EA gl from HRE.out).keep (w':=wF) (fun b hb=>hbf.block b hb.2))
           have hzF:=hbf.size
           have q0:=(hbf.cell (p:=⟨sb,0,none⟩) (by show sb<wE.heap.size;omega)).trans q0
           have q1:=(hbf.cell (p:=⟨sb,1,none⟩) (by show sb<wE.heap.size;omega)).trans q1
           have q2:=(hbf.cell (p:=⟨tb,0,none⟩) (by show tb<wE.heap.size;omega)).trans q2
           have q3:=(hbf.cell (p:=⟨xb,0,none⟩) (by show xb<wE.heap.size;omega)).trans q3
           clear hrf hbf
           have hqb:(gb != gb)=false:=by simp
           go_wp2_with fail
           refine(rcompareRows_any EA FA ec fc gl gl (fun b=>b<wF.heap.size) wF (HREF.out.more (fun b hb=>by have h9:=hb.2;show b<wF.heap.size;omega)) (HRF.out.more (fun b hb=>hb.2)) (fun b hb=>hb)).mono ?_
           rintro e wG ⟨rfl,hbg⟩
           rw [show cmpR gl gl=0 from cmpR_is.self gl]
           have HB2x:=Lib.hid (HBF.out.trans (hbg.mono (by omega)))
           have hzG:=HB2x.out.size
           clear hbg
           go_wp2_with fail
           go_roundw
           case rel=>exact⟨j+1,by omega,by go_num,HGQ.out.trans (grown_of_below HB2x.out),HCQ.out.keep (fun b hb=>HB2x.out.block b (by omega))⟩
           case measure=>simp [intOf];omega
         · have hd2:decide (0<rows.length)=true:=decide_eq_true (by omega)
           have hd3:(0:Int)<(rows.length:Int):=by omega
           go_wp2_with fail
           refine(bool_any g 2 _ (by omega) (by omega) HCQ.out).mono ?_
           rintro e wb ⟨bb,rfl,hcb,hgb,hsb⟩
           have HGB:=Lib.hid (HGQ.out.trans hgb)
           have HCB:=Lib.hid hcb
           have HRB:=Lib.hid ((show RowS wq (fun b=>wk.heap.size≤b∧b<wq.heap.size) RA r0 from HROW1.out.2).keep (w':=wb) (fun b hb=>hgb.block b hb.2 (fun e=>by injection e with e;have:=hb.1;omega)))
           have HRSB:=Lib.hid (HRS.out.keep (w':=wb) (fun b hb=>hgb.block b (by have:=hb.1;omega) (fun e=>by injection e with e;exact hb.2 e)))
           have hzb:wb.heap.size=wq.heap.size:=hsb
           have d1:=hgb.cell d1 (by intro e;injection e with e;exact hb1.2 e)
           clear hcb hgb hsb q0 q1 q2 q3 HRS
           have q0:wb.cell? ⟨sb,0,none⟩=some (.int .i64 s.version):=(HG8.out.trans HGB.out).cell (show W5.cell? ⟨sb,0,none⟩=some (.int .i64 s.version) from cells_of_block SB5.out 0 _ rfl) (by intro e;injection e with e;have e':sb=g:=e;omega)
           have q1:wb.cell? ⟨sb,1,none⟩=some (.slice A0 s.tabs.length c0'):=(HG8.out.trans HGB.out).cell (show W5.cell? ⟨sb,1,none⟩=some (.slice A0 s.tabs.length c0') from cells_of_block SB5.out 1 _ rfl) (by intro e;injection e with e;have e':sb=g:=e;omega)
           have q2:wb.cell? ⟨tb,0,none⟩=some (.slice (some ⟨gt,0,none⟩) st.length st.length):=(HG8.out.trans HGB.out).cell (show W5.cell? ⟨tb,0,none⟩=some (.slice (some ⟨gt,0,none⟩) st.length st.length) from cells_of_block TB5.out 0 _ rfl) (by intro e;injection e with e;have e':tb=g:=e;omega)
           have q3:wb.cell? ⟨xb,0,none⟩=some (.slice XA x.length xc):=HGB.out.cell (show w8.cell? ⟨xb,0,none⟩=some (.slice XA x.length xc) from cells_of_block XB.out 0 _ rfl) (by intro e;injection e with e;have e':xb=g:=e;omega)
           cases bb
           · go_wp2_with fail
             have HT1:=Lib.hid ((HTS.out.keep (w':=wb) (fun b hb=>((HG8.out.trans HGB.out).block b hb.2 (fun e=>by injection e with e;have:=hb.1;omega)))).more (S':=fun b=>b<wb.heap.size) (fun b hb=>by have:=hb.2;show b<wb.heap.size;omega))
             have HX1:=Lib.hid ((HXS.out.keep (w':=wb) (fun b hb=>((HG8.out.trans HGB.out).block b hb.1 (fun e=>by injection e with e;exact hb.2 e)))).more (S':=fun b=>b<wb.heap.size) (fun b hb=>by have:=hb.1;show b<wb.heap.size;omega))
             have HK1:=Lib.hid (show RowS wb (fun b=>b<wb.heap.size) RA r0 from RowS.more HRB.out (fun b hb=>by first | exact hb | exact hb.2 | (have h9:=hb.2;omega)))
             obtain⟨go,hgo⟩:∃ go,getS s x (j:Int) r0=go:=⟨_,rfl⟩
             have HOK:=Lib.hid (show RowOk (go.getD []) by rw [←hgo];exact getS_ok HX1.out)
             have HT2:=Lib.hid (tget_any A0 c0' s XA xc x (j:Int) RA rc r0 (fun b=>b<wb.heap.size) wb HT1.out HX1.out HK1.out (fun b hb=>hb))
             have HR2:=Lib.hid (fun (W':World) (hb:Below wb.heap.size wb W')=>rget_any A0 c0' s XA xc x (j:Int) RA rc r0 (fun b=>b<wb.heap.size) W' (HT1.out.keep (fun b h=>hb.block b h)) (HX1.out.keep (fun b h=>hb.block b h)) (HK1.out.keep (fun b h=>hb.block b h)) (fun b h=>Nat.lt_of_lt_of_le h hb.size))
             rw [hgo] at HT2 HR2
             clear hgo
             refine HT2.out.mono ?_
             rintro e wE ⟨EA,ec,rfl,hre,hbe⟩
             have HRE:=Lib.hid (new_row hre HOK.out (Nat.le_refl _)).2
             have HBE:=Lib.hid hbe
             have hzE:=hbe.size
             have q0:=(hbe.cell (p:=⟨sb,0,none⟩) (by show sb<wb.heap.size;omega)).trans q0
             have q1:=(hbe.cell (p:=⟨sb,1,none⟩) (by show sb<wb.heap.size;omega)).trans q1
             have q2:=(hbe.cell (p:=⟨tb,0,none⟩) (by show tb<wb.heap.size;omega)).trans q2
             have q3:=(hbe.cell (p:=⟨xb,0,none⟩) (by show xb<wb.heap.size;omega)).trans q3
             clear hre hbe
             obtain⟨gl,hgl⟩:∃ gl,go.getD []=gl:=⟨_,rfl⟩
             obtain⟨gb,hgb⟩:∃ gb,go.isSome=gb:=⟨_,rfl⟩
             have HR3:=Lib.hid (HR2.out wE HBE.out)
             unfold GetN at HR3
             rw [hgl,hgb] at HR3
             rw [hgl] at HRE HOK ⊢
             rw [hgb]
             clear hgl hgb
             go_wp2_with fail
             refine HR3.out.mono ?_
             rintro e wF ⟨FA,fc,rfl,hrf,hbf⟩
             have HRF:=Lib.hid (new_row hrf HOK.out (Nat.le_refl _)).2
             have HBF:=Lib.hid (HBE.out.trans (hbf.mono hzE))
             have HREF:=Lib.hid ((show RowS wE (fun b=>wb.heap.size≤b∧b<wE.heap.size) EA gl from HRE.out).keep (w':=wF) (fun b hb=>hbf.block b hb.2))
             have hzF:=hbf.size
             have q0:=(hbf.cell (p:=⟨sb,0,none⟩) (by show sb<wE.heap.size;omega)).trans q0
             have q1:=(hbf.cell (p:=⟨sb,1,none⟩) (by show sb<wE.heap.size;omega)).trans q1
             have q2:=(hbf.cell (p:=⟨tb,0,none⟩) (by show tb<wE.heap.size;omega)).trans q2
             have q3:=(hbf.cell (p:=⟨xb,0,none⟩) (by show xb<wE.heap.size;omega)).trans q3
             clear hrf hbf
             have hqb:(gb != gb)=false:=by simp
             go_wp2_with fail
             refine(rcompareRows_any EA FA ec fc gl gl (fun b=>b<wF.heap.size) wF (HREF.out.more (fun b hb=>by have h9:=hb.2;show b<wF.heap.size;omega)) (HRF.out.more (fun b hb=>hb.2)) (fun b hb=>hb)).mono ?_
             rintro e wG ⟨rfl,hbg⟩
             rw [show cmpR gl gl=0 from cmpR_is.self gl]
             have HB2x:=Lib.hid (HBF.out.trans (hbg.mono (by omega)))
             have hzG:=HB2x.out.size
             clear hbg
             go_wp2_with fail
             go_roundw
             case rel=>exact⟨j+1,by omega,by go_num,HGB.out.trans (grown_of_below HB2x.out),HCB.out.keep (fun b hb=>HB2x.out.block b (by omega))⟩
             case measure=>simp [intOf];omega
           · obtain⟨rr,rs,rfl⟩:∃ rr rs,rows=rr :: rs:=by
               cases rows with
               | nil=>simp at hr0
               | cons a b=>exact⟨a,b,rfl⟩
             obtain⟨b2,o2,hTA,hb2,A2,c2,f1,f2,f3⟩:=HRSB.out.at_ (k:=0) (by simp)
             subst hTA
             simp only [Nat.add_zero,List.getD_cons_zero] at f1 f2 f3
             have HRR:=Lib.hid f3
             have hf2:=f2
             have hlb2:b2<wb.heap.size:=by have:=hb2.1;omega
             have hlg':gt<wb.heap.size:=by omega
             clear f2 f3
             have hd5:0<(rr :: rs).length:=by simp
             generalize (rr :: rs).length=rl at d1 hd2 hd3 hd5
             go_wp2_with fail
             refine hideQ (fun c a d v w h=>by cases d<;>exact h) (fun Q' HQ HP=>?_)
             refine regionT_until (fun w'=>w'.cell? ⟨sb,0,none⟩=some (.int .i64 s.version)∧w'.cell? ⟨sb,1,none⟩=some (.slice A0 s.tabs.length c0')∧w'.cell? ⟨tb,0,none⟩=some (.slice (some ⟨gt,0,none⟩) st.length st.length)∧w'.cell? ⟨gt,j,none⟩=some (.slice (some ⟨b2,o2,none⟩) rl tc)∧w'.cell? ⟨b2,o2,none⟩=some (.slice A2 rr.length c2)) 11 11 (bA 11 0) (by kernel_rfl) (by kernel_rfl) (by kernel_rfl) ?_
             refine tk 0 74 (bA 11 1) _ rfl (by kernel_rfl) (by kernel_rfl) HP.out (by rfl) (fun w' hSw=>by (try dsimp only at hSw);go_simp;(try with_reducible rfl)) ⟨q0,q1,q2,d1,f1⟩ ?_
             simp only [psA,psB,psC]
             refine tk 1 75 (bA 11 3) _ rfl (by kernel_rfl) (by kernel_rfl) HP.out (by rfl) (fun w' hSw=>by (try dsimp only at hSw);go_simp;(try with_reducible rfl)) ⟨q0,q1,q2,d1,f1⟩ ?_
             simp only [psA,psB,psC]
             refine tk 2 76 (bA 11 7) _ rfl (by kernel_rfl) (by kernel_rfl) HP.out (by rfl) (fun w' hSw=>by (try dsimp only at hSw);go_simp;(try with_reducible rfl)) ⟨q0,q1,q2,d1,f1⟩ ?_
             simp only [psA,psB,psC]
             refine tk 3 77 (bA 11 15) _ rfl (by kernel_rfl) (by kernel_rfl) HP.out (by rfl) (fun w' hSw=>by (try dsimp only at hSw);go_simp;(try with_reducible rfl)) ⟨q0,q1,q2,d1,f1⟩ ?_
             simp only [psA,psB,psC]
             refine tk 4 78 (bA 11 31) _ rfl (by kernel_rfl) (by kernel_rfl) HP.out (by rfl) (fun w' hSw=>by (try dsimp only at hSw);go_simp;(try with_reducible rfl)) ⟨q0,q1,q2,d1,f1⟩ ?_
             simp only [psA,psB,psC]
             refine tk 5 79 (bA 11 63) _ rfl (by kernel_rfl) (by kernel_rfl) HP.out (by rfl) (fun w' hSw=>by (try dsimp only at hSw);go_simp;(try with_reducible rfl)) ⟨q0,q1,q2,d1,f1⟩ ?_
             simp only [psA,psB,psC]
             refine tk 6 80 (bA 11 127) _ rfl (by kernel_rfl) (by kernel_rfl) HP.out (by rfl) (fun w' hSw=>by (try dsimp only at hSw);go_simp;(try with_reducible rfl)) ⟨q0,q1,q2,d1,f1⟩ ?_
             simp only [psA,psB,psC]
             refine tk 7 81 (bA 11 255) _ rfl (by kernel_rfl) (by kernel_rfl) HP.out (by rfl) (fun w' hSw=>by (try dsimp only at hSw);go_simp;(try with_reducible rfl)) ⟨q0,q1,q2,d1,f1⟩ ?_
             simp only [psA,psB,psC]
             refine tk 8 82 (bA 11 511) _ rfl (by kernel_rfl) (by kernel_rfl) HP.out (by rfl) (fun w' hSw=>by (try dsimp only at hSw);go_simp;(try with_reducible rfl)) ⟨q0,q1,q2,d1,f1⟩ ?_
             simp only [psA,psB,psC]
             refine anyT_one (i:=9) (o:=⟨some 83,_,_,_,_,_⟩) (L':=(bA 11 1023)) rfl (by kernel_rfl) (by kernel_rfl) (fun K hK=>?_)
             have HK:=Lib.hid hK
             clear hK
             go_simp
             refine(rkey_any A0 c0' s (j:Int) A2 c2 rr (fun b=>b<wb.heap.size) wb.drew (((HTS.out.keep (w':=wb.drew) (fun b hb=>((HG8.out.trans HGB.out).block b hb.2 (fun e=>by injection e with e;have:=hb.1;omega))))).more (fun b hb=>by have:=hb.2;show b<wb.heap.size;omega)) ((HRR.out.keep (w':=wb.drew) (fun _ _=>rfl)).more (fun b hb=>by have:=hb.1;show b<wb.heap.size;omega)) hf2 (fun b hb=>hb)).mono ?_
             rintro e wc ⟨KB,kd,rfl,hkey,hbc0⟩
             have hbc:Below wb.heap.size wb wc:=(Below.refl _ wb).drew.trans hbc0
             have HKB:=Lib.hid (new_row hkey (rowOk_key (s:=s) (t:=(j:Int)) HRR.out.ok) (Nat.le_refl _)).2
             clear hbc0 hkey
             have q0:=(hbc.cell (p:=⟨sb,0,none⟩) (by show sb<wb.heap.size;omega)).trans q0
             have q1:=(hbc.cell (p:=⟨sb,1,none⟩) (by show sb<wb.heap.size;omega)).trans q1
             have q2:=(hbc.cell (p:=⟨tb,0,none⟩) (by show tb<wb.heap.size;omega)).trans q2
             have d1:=(hbc.cell (p:=⟨gt,j,none⟩) (by show gt<wb.heap.size;omega)).trans d1
             have f1:=(hbc.cell (p:=⟨b2,o2,none⟩) (by show b2<wb.heap.size;omega)).trans f1
             refine HK.out _ _ (fun _=>⟨q0,q1,q2,d1,f1⟩) ?_
             clear HK K
             try simp only [Act.put,psA,psB,psC]
             refine tk 10 15 (bA 11 2047) _ rfl (by kernel_rfl) (by kernel_rfl) HP.out (by rfl) (fun w' hSw=>by (try dsimp only at hSw);go_simp;(try with_reducible rfl)) ⟨q0,q1,q2,d1,f1⟩ ?_
             simp only [psA,psB,psC]
             refine anyU_done (by kernel_rfl) ?_
             rw [HQ.out]
             clear HQ HP Q'
             have HGC:=Lib.hid (HGB.out.trans (grown_of_below hbc))
             have HCC:=Lib.hid (HCB.out.keep (fun b hb=>hbc.block b (by omega)))
             have hzc:=hbc.size
             clear hbc q0 q1 q2 q3 d1 f1
             have q0:wc.cell? ⟨sb,0,none⟩=some (.int .i64 s.version):=(HG8.out.trans HGC.out).cell (show W5.cell? ⟨sb,0,none⟩=some (.int .i64 s.version) from cells_of_block SB5.out 0 _ rfl) (by intro e;injection e with e;have e':sb=g:=e;omega)
             have q1:wc.cell? ⟨sb,1,none⟩=some (.slice A0 s.tabs.length c0'):=(HG8.out.trans HGC.out).cell (show W5.cell? ⟨sb,1,none⟩=some (.slice A0 s.tabs.length c0') from cells_of_block SB5.out 1 _ rfl) (by intro e;injection e with e;have e':sb=g:=e;omega)
             have q2:wc.cell? ⟨tb,0,none⟩=some (.slice (some ⟨gt,0,none⟩) st.length st.length):=(HG8.out.trans HGC.out).cell (show W5.cell? ⟨tb,0,none⟩=some (.slice (some ⟨gt,0,none⟩) st.length st.length) from cells_of_block TB5.out 0 _ rfl) (by intro e;injection e with e;have e':tb=g:=e;omega)
             have q3:wc.cell? ⟨xb,0,none⟩=some (.slice XA x.length xc):=HGC.out.cell (show w8.cell? ⟨xb,0,none⟩=some (.slice XA x.length xc) from cells_of_block XB.out 0 _ rfl) (by intro e;injection e with e;have e':xb=g:=e;omega)
             go_wp2_with fail
             have HT1:=Lib.hid ((HTS.out.keep (w':=wc) (fun b hb=>((HG8.out.trans HGC.out).block b hb.2 (fun e=>by injection e with e;have:=hb.1;omega)))).more (S':=fun b=>b<wc.heap.size) (fun b hb=>by have:=hb.2;show b<wc.heap.size;omega))
             have HX1:=Lib.hid ((HXS.out.keep (w':=wc) (fun b hb=>((HG8.out.trans HGC.out).block b hb.1 (fun e=>by injection e with e;exact hb.2 e)))).more (S':=fun b=>b<wc.heap.size) (fun b hb=>by have:=hb.1;show b<wc.heap.size;omega))
             have HK1:=Lib.hid (show RowS wc (fun b=>b<wc.heap.size) KB (keyF s (j:Int) rr) from RowS.more HKB.out (fun b hb=>by first | exact hb | exact hb.2 | (have h9:=hb.2;omega)))
             obtain⟨go,hgo⟩:∃ go,getS s x (j:Int) (keyF s (j:Int) rr)=go:=⟨_,rfl⟩
             have HOK:=Lib.hid (show RowOk (go.getD []) by rw [←hgo];exact getS_ok HX1.out)
             have HT2:=Lib.hid (tget_any A0 c0' s XA xc x (j:Int) KB kd (keyF s (j:Int) rr) (fun b=>b<wc.heap.size) wc HT1.out HX1.out HK1.out (fun b hb=>hb))
             have HR2:=Lib.hid (fun (W':World) (hb:Below wc.heap.size wc W')=>rget_any A0 c0' s XA xc x (j:Int) KB kd (keyF s (j:Int) rr) (fun b=>b<wc.heap.size) W' (HT1.out.keep (fun b h=>hb.block b h)) (HX1.out.keep (fun b h=>hb.block b h)) (HK1.out.keep (fun b h=>hb.block b h)) (fun b h=>Nat.lt_of_lt_of_le h hb.size))
             rw [hgo] at HT2 HR2
             clear hgo
             refine HT2.out.mono ?_
             rintro e wE ⟨EA,ec,rfl,hre,hbe⟩
             have HRE:=Lib.hid (new_row hre HOK.out (Nat.le_refl _)).2
             have HBE:=Lib.hid hbe
             have hzE:=hbe.size
             have q0:=(hbe.cell (p:=⟨sb,0,none⟩) (by show sb<wc.heap.size;omega)).trans q0
             have q1:=(hbe.cell (p:=⟨sb,1,none⟩) (by show sb<wc.heap.size;omega)).trans q1
             have q2:=(hbe.cell (p:=⟨tb,0,none⟩) (by show tb<wc.heap.size;omega)).trans q2
             have q3:=(hbe.cell (p:=⟨xb,0,none⟩) (by show xb<wc.heap.size;omega)).trans q3
             clear hre hbe
             obtain⟨gl,hgl⟩:∃ gl,go.getD []=gl:=⟨_,rfl⟩
             obtain⟨gb,hgb⟩:∃ gb,go.isSome=gb:=⟨_,rfl⟩
             have HR3:=Lib.hid (HR2.out wE HBE.out)
             unfold GetN at HR3
             rw [hgl,hgb] at HR3
             rw [hgl] at HRE HOK ⊢
             rw [hgb]
             clear hgl hgb
             go_wp2_with fail
             refine HR3.out.mono ?_
             rintro e wF ⟨FA,fc,rfl,hrf,hbf⟩
             have HRF:=Lib.hid (new_row hrf HOK.out (Nat.le_refl _)).2
             have HBF:=Lib.hid (HBE.out.trans (hbf.mono hzE))
             have HREF:=Lib.hid ((show RowS wE (fun b=>wc.heap.size≤b∧b<wE.heap.size) EA gl from HRE.out).keep (w':=wF) (fun b hb=>hbf.block b hb.2))
             have hzF:=hbf.size
             have q0:=(hbf.cell (p:=⟨sb,0,none⟩) (by show sb<wE.heap.size;omega)).trans q0
             have q1:=(hbf.cell (p:=⟨sb,1,none⟩) (by show sb<wE.heap.size;omega)).trans q1
             have q2:=(hbf.cell (p:=⟨tb,0,none⟩) (by show tb<wE.heap.size;omega)).trans q2
             have q3:=(hbf.cell (p:=⟨xb,0,none⟩) (by show xb<wE.heap.size;omega)).trans q3
             clear hrf hbf
             have hqb:(gb != gb)=false:=by simp
             go_wp2_with fail
             refine(rcompareRows_any EA FA ec fc gl gl (fun b=>b<wF.heap.size) wF (HREF.out.more (fun b hb=>by have h9:=hb.2;show b<wF.heap.size;omega)) (HRF.out.more (fun b hb=>hb.2)) (fun b hb=>hb)).mono ?_
             rintro e wG ⟨rfl,hbg⟩
             rw [show cmpR gl gl=0 from cmpR_is.self gl]
             have HB2x:=Lib.hid (HBF.out.trans (hbg.mono (by omega)))
             have hzG:=HB2x.out.size
             clear hbg
             go_wp2_with fail
             go_roundw
             case rel=>exact⟨j+1,by omega,by go_num,HGC.out.trans (grown_of_below HB2x.out),HCC.out.keep (fun b hb=>HB2x.out.block b (by omega))⟩
             case measure=>simp [intOf];omega
       · have hd1:decide (j<st.length)=false:=decide_eq_false hjl
         have hjli:¬ (j:Int)<(st.length:Int):=by omega
         go_wp2_with fail
         have HT1:=Lib.hid ((HTS.out.keep (w':=wq) (fun b hb=>((HG8.out.trans HGQ.out).block b hb.2 (fun e=>by injection e with e;have:=hb.1;omega)))).more (S':=fun b=>b<wq.heap.size) (fun b hb=>by have:=hb.2;show b<wq.heap.size;omega))
         have HX1:=Lib.hid ((HXS.out.keep (w':=wq) (fun b hb=>((HG8.out.trans HGQ.out).block b hb.1 (fun e=>by injection e with e;exact hb.2 e)))).more (S':=fun b=>b<wq.heap.size) (fun b hb=>by have:=hb.1;show b<wq.heap.size;omega))
         have HK1:=Lib.hid (show RowS wq (fun b=>b<wq.heap.size) RA r0 from RowS.more HROW1.out.2 (fun b hb=>by first | exact hb | exact hb.2 | (have h9:=hb.2;omega)))
         obtain⟨go,hgo⟩:∃ go,getS s x (j:Int) r0=go:=⟨_,rfl⟩
         have HOK:=Lib.hid (show RowOk (go.getD []) by rw [←hgo];exact getS_ok HX1.out)
         have HT2:=Lib.hid (tget_any A0 c0' s XA xc x (j:Int) RA rc r0 (fun b=>b<wq.heap.size) wq HT1.out HX1.out HK1.out (fun b hb=>hb))
         have HR2:=Lib.hid (fun (W':World) (hb:Below wq.heap.size wq W')=>rget_any A0 c0' s XA xc x (j:Int) RA rc r0 (fun b=>b<wq.heap.size) W' (HT1.out.keep (fun b h=>hb.block b h)) (HX1.out.keep (fun b h=>hb.block b h)) (HK1.out.keep (fun b h=>hb.block b h)) (fun b h=>Nat.lt_of_lt_of_le h hb.size))
         rw [hgo] at HT2 HR2
         clear hgo
         refine HT2.out.mono ?_
         rintro e wE ⟨EA,ec,rfl,hre,hbe⟩
         have HRE:=Lib.hid (new_row hre HOK.out (Nat.le_refl _)).2
         have HBE:=Lib.hid hbe
         have hzE:=hbe.size
         have q0:=(hbe.cell (p:=⟨sb,0,none⟩) (by show sb<wq.heap.size;omega)).trans q0
         have q1:=(hbe.cell (p:=⟨sb,1,none⟩) (by show sb<wq.heap.size;omega)).trans q1
         have q2:=(hbe.cell (p:=⟨tb,0,none⟩) (by show tb<wq.heap.size;omega)).trans q2
         have q3:=(hbe.cell (p:=⟨xb,0,none⟩) (by show xb<wq.heap.size;omega)).trans q3
         clear hre hbe
         obtain⟨gl,hgl⟩:∃ gl,go.getD []=gl:=⟨_,rfl⟩
         obtain⟨gb,hgb⟩:∃ gb,go.isSome=gb:=⟨_,rfl⟩
         have HR3:=Lib.hid (HR2.out wE HBE.out)
         unfold GetN at HR3
         rw [hgl,hgb] at HR3
         rw [hgl] at HRE HOK ⊢
         rw [hgb]
         clear hgl hgb
         go_wp2_with fail
         refine HR3.out.mono ?_
         rintro e wF ⟨FA,fc,rfl,hrf,hbf⟩
         have HRF:=Lib.hid (new_row hrf HOK.out (Nat.le_refl _)).2
         have HBF:=Lib.hid (HBE.out.trans (hbf.mono hzE))
         have HREF:=Lib.hid ((show RowS wE (fun b=>wq.heap.size≤b∧b<wE.heap.size) EA gl from HRE.out).keep (w':=wF) (fun b hb=>hbf.block b hb.2))
         have hzF:=hbf.size
         have q0:=(hbf.cell (p:=⟨sb,0,none⟩) (by show sb<wE.heap.size;omega)).trans q0
         have q1:=(hbf.cell (p:=⟨sb,1,none⟩) (by show sb<wE.heap.size;omega)).trans q1
         have q2:=(hbf.cell (p:=⟨tb,0,none⟩) (by show tb<wE.heap.size;omega)).trans q2
         have q3:=(hbf.cell (p:=⟨xb,0,none⟩) (by show xb<wE.heap.size;omega)).trans q3
         clear hrf hbf
         have hqb:(gb != gb)=false:=by simp
         go_wp2_with fail
         refine(rcompareRows_any EA FA ec fc gl gl (fun b=>b<wF.heap.size) wF (HREF.out.more (fun b hb=>by have h9:=hb.2;show b<wF.heap.size;omega)) (HRF.out.more (fun b hb=>hb.2)) (fun b hb=>hb)).mono ?_
         rintro e wG ⟨rfl,hbg⟩
         rw [show cmpR gl gl=0 from cmpR_is.self gl]
         have HB2x:=Lib.hid (HBF.out.trans (hbg.mono (by omega)))
         have hzG:=HB2x.out.size
         clear hbg
         go_wp2_with fail
         go_roundw
         case rel=>exact⟨j+1,by omega,by go_num,HGQ.out.trans (grown_of_below HB2x.out),HCQ.out.keep (fun b hb=>HB2x.out.block b (by omega))⟩
         case measure=>simp [intOf];omega
     · have hj4e:j=4:=by omega
       subst hj4e
       have q0:wi.cell? ⟨sb,0,none⟩=some (.int .i64 s.version):=(HG8.out.trans HGI.out).cell (show W5.cell? ⟨sb,0,none⟩=some (.int .i64 s.version) from cells_of_block SB5.out 0 _ rfl) (by intro e;injection e with e;have e':sb=g:=e;omega)
       have q1:wi.cell? ⟨sb,1,none⟩=some (.slice A0 s.tabs.length c0'):=(HG8.out.trans HGI.out).cell (show W5.cell? ⟨sb,1,none⟩=some (.slice A0 s.tabs.length c0') from cells_of_block SB5.out 1 _ rfl) (by intro e;injection e with e;have e':sb=g:=e;omega)
       have q2:wi.cell? ⟨tb,0,none⟩=some (.slice (some ⟨gt,0,none⟩) st.length st.length):=(HG8.out.trans HGI.out).cell (show W5.cell? ⟨tb,0,none⟩=some (.slice (some ⟨gt,0,none⟩) st.length st.length) from cells_of_block TB5.out 0 _ rfl) (by intro e;injection e with e;have e':tb=g:=e;omega)
       have q3:wi.cell? ⟨xb,0,none⟩=some (.slice XA x.length xc):=HGI.out.cell (show w8.cell? ⟨xb,0,none⟩=some (.slice XA x.length xc) from cells_of_block XB.out 0 _ rfl) (by intro e;injection e with e;have e':xb=g:=e;omega)
       go_wp2_with fail
       have HT1:=Lib.hid ((HTS.out.keep (w':=wi) (fun b hb=>((HG8.out.trans HGI.out).block b hb.2 (fun e=>by injection e with e;have:=hb.1;omega)))).more (S':=fun b=>b<wi.heap.size) (fun b hb=>by have:=hb.2;show b<wi.heap.size;omega))
       have HX1:=Lib.hid ((HXS.out.keep (w':=wi) (fun b hb=>((HG8.out.trans HGI.out).block b hb.1 (fun e=>by injection e with e;exact hb.2 e)))).more (S':=fun b=>b<wi.heap.size) (fun b hb=>by have:=hb.1;show b<wi.heap.size;omega))
       have HK1:=Lib.hid (show RowS wi (fun b=>b<wi.heap.size) AK key from RowS.more (hkw wi (HG8.out.trans HGI.out)) (fun b hb=>by first | exact hb | exact hb.2 | (have h9:=hb.2;omega)))
       obtain⟨go,hgo⟩:∃ go,getS s x t key=go:=⟨_,rfl⟩
       have HOK:=Lib.hid (show RowOk (go.getD []) by rw [←hgo];exact getS_ok HX1.out)
       have HT2:=Lib.hid (tget_any A0 c0' s XA xc x t AK ck key (fun b=>b<wi.heap.size) wi HT1.out HX1.out HK1.out (fun b hb=>hb))
       have HR2:=Lib.hid (fun (W':World) (hb:Below wi.heap.size wi W')=>rget_any A0 c0' s XA xc x t AK ck key (fun b=>b<wi.heap.size) W' (HT1.out.keep (fun b h=>hb.block b h)) (HX1.out.keep (fun b h=>hb.block b h)) (HK1.out.keep (fun b h=>hb.block b h)) (fun b h=>Nat.lt_of_lt_of_le h hb.size))
       rw [hgo] at HT2 HR2
       clear hgo
       refine HT2.out.mono ?_
       rintro e wE ⟨EA,ec,rfl,hre,hbe⟩
       have HRE:=Lib.hid (new_row hre HOK.out (Nat.le_refl _)).2
       have HBE:=Lib.hid hbe
       have hzE:=hbe.size
       have q0:=(hbe.cell (p:=⟨sb,0,none⟩) (by show sb<wi.heap.size;omega)).trans q0
       have q1:=(hbe.cell (p:=⟨sb,1,none⟩) (by show sb<wi.heap.size;omega)).trans q1
       have q2:=(hbe.cell (p:=⟨tb,0,none⟩) (by show tb<wi.heap.size;omega)).trans q2
       have q3:=(hbe.cell (p:=⟨xb,0,none⟩) (by show xb<wi.heap.size;omega)).trans q3
       clear hre hbe
       obtain⟨gl,hgl⟩:∃ gl,go.getD []=gl:=⟨_,rfl⟩
       obtain⟨gb,hgb⟩:∃ gb,go.isSome=gb:=⟨_,rfl⟩
       have HR3:=Lib.hid (HR2.out wE HBE.out)
       unfold GetN at HR3
       rw [hgl,hgb] at HR3
       rw [hgl] at HRE HOK ⊢
       rw [hgb]
       clear hgl hgb
       go_wp2_with fail
       refine HR3.out.mono ?_
       rintro e wF ⟨FA,fc,rfl,hrf,hbf⟩
       have HRF:=Lib.hid (new_row hrf HOK.out (Nat.le_refl _)).2
       have HBF:=Lib.hid (HBE.out.trans (hbf.mono hzE))
       have HREF:=Lib.hid ((show RowS wE (fun b=>wi.heap.size≤b∧b<wE.heap.size) EA gl from HRE.out).keep (w':=wF) (fun b hb=>hbf.block b hb.2))
       have hzF:=hbf.size
       have q0:=(hbf.cell (p:=⟨sb,0,none⟩) (by show sb<wE.heap.size;omega)).trans q0
       have q1:=(hbf.cell (p:=⟨sb,1,none⟩) (by show sb<wE.heap.size;omega)).trans q1
       have q2:=(hbf.cell (p:=⟨tb,0,none⟩) (by show tb<wE.heap.size;omega)).trans q2
       have q3:=(hbf.cell (p:=⟨xb,0,none⟩) (by show xb<wE.heap.size;omega)).trans q3
       clear hrf hbf
       have hqb:(gb != gb)=false:=by simp
       go_wp2_with fail
       refine(rcompareRows_any EA FA ec fc gl gl (fun b=>b<wF.heap.size) wF (HREF.out.more (fun b hb=>by have h9:=hb.2;show b<wF.heap.size;omega)) (HRF.out.more (fun b hb=>hb.2)) (fun b hb=>hb)).mono ?_
       rintro e wG ⟨rfl,hbg⟩
       rw [show cmpR gl gl=0 from cmpR_is.self gl]
       have HB2x:=Lib.hid (HBF.out.trans (hbg.mono (by omega)))
       have hzG:=HB2x.out.size
       clear hbg
       go_wp2_with fail
       go_roundw
       case rel=>exact⟨k+1,by omega,by go_num,HG8.out.trans (HGI.out.trans (grown_of_below HB2x.out)),HCI.out.keep (fun b hb=>HB2x.out.block b (by omega))⟩
       case measure=>simp [intOf];omega
  · have hke:k=3:=by omega
    subst hke
    go_wp2_with fail
    refine(begun8_any wo).mono ?_
    rintro e wB ⟨rfl,hbB⟩
    have HBB:=Lib.hid (HB5.out.trans ((below_of_grown HGO.out (by omega) (by omega)).trans (hbB.mono (by omega))))
    clear hbB
    go_wp2_with fail
    go_ret
    exact⟨rfl,HBB.out⟩
end Go.Proofs.Ytkpjjfhfbpfjpaa

