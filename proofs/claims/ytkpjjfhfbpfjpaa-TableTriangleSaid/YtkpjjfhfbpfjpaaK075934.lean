import Derived.Test.YtkpjjfhfbpfjpaaKef29f4
import Derived.Lib.SliceRun
set_option linter.unusedVariables false
set_option linter.unusedSimpArgs false
set_option maxRecDepth 100000
set_option maxHeartbeats 8000000
namespace Go.Proofs.Ytkpjjfhfbpfjpaa
open Go.RowKit
theorem ownsRow_low {w:World} {base base' size n:Nat} {e:TypeId} {v:Value} {xs:List Value} (h:w.ownsRow base e size v n xs) (hb:base'≤base):w.ownsRow base' e size v n xs:=by
 refine⟨h.1,?_⟩;rcases h.2 with h0 | ⟨g,cap,cur,h1,h2,h3⟩
 · exact .inl h0
 · exact .inr ⟨g,cap,cur,h1,by omega,h3⟩
theorem NewR.low {r:Row} {w wa:World} {e:Ending} {w':World} (h:NewR r wa e w') (hb:Below w.heap.size w wa):NewR r w e w':=by
 obtain⟨A,c,h1,h2,h3⟩:=h;exact⟨A,c,h1,ownsRow_low h2 hb.size,hb.trans (h3.mono hb.size)⟩
theorem Zhp (A0:Option Addr) (c0':Nat) (s:Sch) (t:Int) (A:Option Addr) (ca:Nat) (r:Row) (S:Nat→Prop) (w:World) (hs:TabS w S A0 s.tabs) (hr:RowS w S A r) (hca:r.length≤ca) (hS:∀ b,S b→b<w.heap.size) :
  Calls Try.prog 33 #[sAgg s.version A0 s.tabs.length c0',.int .i64 t,.slice A r.length ca] w (NewR (keyF s t r) w):=by
 have hsl:=hs.len;have hrl:=hr.len;have HS:=hI hs;have HR:=hI hr;clear hs hr;have HB1:=hI ((Below.refl w.heap.size w).alloc nR (.cells #[.int .i64 s.version,.slice A0 s.tabs.length c0'] 25))
 by_cases hh:hasN s.tabs.length t=true
 · have HKF:=hI (show keyF s t r=r.take (keyN (s.tabs.getD t.toNat t0).key r) by unfold keyF;rw [if_pos hh]);have hh0:0≤t∧t<s.tabs.length:=(by simpa [hasN] using hh);clear hh;obtain⟨tt,rfl⟩:=Int.eq_ofNat_of_zero_le hh0.1;rw [Int.toNat_natCast] at HKF;have htl:tt<s.tabs.length:=(by omega);obtain⟨b2,o2,rfl,hb2,A1,A2,A3,c1,c2,c3,hta⟩:=HS.out.at_ htl;have k1:=hta.key;have hl2:b2<w.heap.size:=hS b2 hb2;clear hta;generalize s.tabs.getD tt t0=tb at k1 HKF;obtain⟨tn,tc,tk,tr,tp⟩:=tb;simp only at k1 HKF;have hd1:decide ((tt:Int)<0)=false:=(by simp);have hd2:decide (s.tabs.length≤tt)=false:=(by simp;omega);have HL:=hI (show keyN tk r≤r.length by unfold keyN;omega);have hCY:=ZdK A ca (r.take (keyN tk r)) S (w.alloc (.cells #[.int .i64 s.version,.slice (some ⟨b2,o2,none⟩) s.tabs.length c0'] 25)) ((HR.out.take (keyN tk r) (fun _=>rfl)).keep (fun b hb=>Below.heap_alloc _ _ _ (hS b hb)));rw [List.length_take,Nat.min_eq_left HL.out] at hCY;have HCY:=hI hCY;clear hCY;go_enter Try.func33,Try.ntmps33
   go_wp2_with fail
   refine(show Calls _ _ _ _ _ from HCY.out).mono ?_;intro e w1 hN;have hN':=(show NewR (r.take (keyN tk r)) _ e w1 from hN).low HB1.out;obtain⟨A4,c4,rfl,h4,hb4⟩:=hN';have H4:=hI h4;have HB4:=hI hb4;clear hN h4 hb4;obtain⟨m4,hm4⟩:∃ m,(r.take (keyN tk r)).length=m:=⟨_,rfl⟩;rw [hm4];have HM4:=hI hm4;clear hm4
   go_wp2_with fail
   go_ret;rw [HKF.out];exact⟨A4,c4,by rw [HM4.out];rfl,H4.out,HB4.out⟩
 · have HKF:=hI (show keyF s t r=[] by unfold keyF;rw [if_neg hh])
   have hh':t<0∨(s.tabs.length:Int)≤t:=by
    have:hasN s.tabs.length t=false:=(by simpa using hh);simp [hasN] at this;omega
   clear hh
   by_cases h0:t<0
   · have hd1:decide (t<0)=true:=(by simp [h0]);go_enter Try.func33,Try.ntmps33
     go_wp2_with fail
     go_ret;rw [HKF.out];exact⟨none,0,rfl,World.ownsRow_nil _ _ _ _,HB1.out⟩
   · have hd1:decide (t<0)=false:=(by simpa using h0);have hd2:decide ((s.tabs.length:Int)≤t)=true:=(by simp;omega);go_enter Try.func33,Try.ntmps33
     go_wp2_with fail
     go_ret;rw [HKF.out];exact⟨none,0,rfl,World.ownsRow_nil _ _ _ _,HB1.out⟩
end Go.Proofs.Ytkpjjfhfbpfjpaa
