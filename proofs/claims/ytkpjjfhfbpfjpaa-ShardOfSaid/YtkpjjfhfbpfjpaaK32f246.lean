import Derived.Test.YtkpjjfhfbpfjpaaK25401f
set_option linter.unusedVariables false
set_option linter.unusedSimpArgs false
set_option maxRecDepth 100000
set_option maxHeartbeats 8000000
namespace Go.Proofs.Ytkpjjfhfbpfjpaa
open Go.RowKit
theorem rkeyKinds_any (A0:Option Addr) (c0':Nat) (s:Sch) (t:Int) (S:Nat→Prop) (w:World) (hs:TabS w S A0 s.tabs) (hS:∀ b,S b→b<w.heap.size) :
  Calls Try.prog 31 #[sAgg s.version A0 s.tabs.length c0',.int .i64 t] w (NewI False (ZbE s t) w):=by
 have hsl:=hs.len;have HS:=hI hs;clear hs;have HB1:=hI ((Below.refl w.heap.size w).alloc nR (.cells #[.int .i64 s.version,.slice A0 s.tabs.length c0'] 25));go_enter Try.func31,Try.ntmps31
 go_wp2_with fail
 refine(ZcS A0 c0' s t S _ (HS.out.keep (Same.of_below HB1.out hS)) (fun b hb=>by have:=hS b hb;simp;omega)).mono ?_;rintro e w1 ⟨A4,c4,rfl,h4,hc4,hn4,hb4⟩;have H4:=hI h4;have HC4:=hI hc4;have hz4:=hb4.size;have HB4:=hI (HB1.out.trans (hb4.mono (by simp)));have y1:w1.cell? ⟨w.heap.size,1,none⟩=some (.slice A0 s.tabs.length c0'):=cQ hb4 (by simp) (by simp [cell_of_row _ _ _ _ _ _ (heap_alloc_new w _)]);have hz1:w.heap.size<w1.heap.size:=(by simp at hz4;omega);clear h4 hc4 hb4;have hnil:∀ (a:Option Addr) (n c:Nat) (w:World),(binOp .eql 40 (.slice a n c) (.slice none 0 0)).run Try.prog w=.ok (.bool a.isNone) w:=fun a n c w=>Lib.run_eql_slice_nil w _ _ a n c 0 0 Try.underlying40
 by_cases h0:(ZaF s t).length=0
 · obtain rfl:=hn4 h0 trivial;have HF:=hI (show ZbE s t=[] by unfold ZbE;rw [List.eq_nil_of_length_eq_zero h0];simp);rw [h0];clear h0 hn4 hz4
   go_wp2_with fail
   go_ret;rw [HF.out];exact⟨none,0,rfl,IntS.nil_,Nat.le_refl _,fun _ h=>h.elim,HB4.out⟩
 · have hh:hasN s.tabs.length t=true:=by
     by_cases hh:hasN s.tabs.length t=true
     · exact hh
     · exact absurd (by unfold ZaF;rw [if_neg hh];rfl) h0
   have hh0:0≤t∧t<s.tabs.length:=(by simpa [hasN] using hh);obtain⟨b4,o4,e4,hb4,-⟩:=H4.out.at_ (show 0<(ZaF s t).length by omega);subst e4;have HK:=hI (show ZbE s t=(ZaF s t).take (max 0 (min (s.tabs.getD t.toNat t0).key (ZaF s t).length)).toNat from rfl);have hlk:=H4.out.len;clear hh hn4 hz4 hb4;generalize ZaF s t=l at *;obtain⟨tt,rfl⟩:=Int.eq_ofNat_of_zero_le hh0.1;rw [Int.toNat_natCast] at HK;have htl:tt<s.tabs.length:=(by omega);obtain⟨b2,o2,rfl,hb2,A1,A2,A3,c1,c2,c3,hta⟩:=(HS.out.keep (Same.of_below HB4.out hS)).at_ htl;have k1:=hta.key;have hl2:b2<w.heap.size:=hS b2 hb2;clear hta;generalize s.tabs.getD tt t0=tb at k1 HK;obtain⟨tn,tc,tk,tr,tp⟩:=tb;simp only at k1 HK;have HL:=hI (show (max 0 (min tk l.length)).toNat≤l.length by omega);have hlc:l.length≤c4:=HC4.out
   go_wp2_with fail
   go_ret;rw [HK.out];refine⟨_,c4,by rw [List.length_take,Nat.min_eq_left HL.out];rfl,?_,by rw [List.length_take];omega,fun _ h=>h.elim,HB4.out⟩;exact(H4.out.more (fun b hb=>⟨by have:=hb.1;simp at this;omega,hb.2⟩)).take _
end Go.Proofs.Ytkpjjfhfbpfjpaa
