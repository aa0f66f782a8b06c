import Derived.Test.YtkpjjfhfbpfjpaaGreatK185549
set_option linter.unusedVariables false
set_option linter.unusedSimpArgs false
set_option maxRecDepth 100000
set_option maxHeartbeats 8000000
namespace Go.Proofs.YtkpjjfhfbpfjpaaGreat
open Go.RowKit
def Zcn (st:St):Int:=IntKind.i64.wrap (Zal st)
theorem wrap_i64 (x:Int):IntKind.i64.wrap x=if 9223372036854775808≤x % 18446744073709551616 then x % 18446744073709551616 - 18446744073709551616 else x % 18446744073709551616:=by
 simp [IntKind.wrap,IntKind.signed,IntKind.bits]
theorem Zhh (a b:Int):IntKind.i64.wrap (IntKind.i64.wrap a+b)=IntKind.i64.wrap (a+b):=by
 simp only [wrap_i64];split<;>split<;>split<;>omega
theorem wrap_nat {n:Nat} (h:n<9223372036854775808):IntKind.i64.wrap (n:Int)=n:=by
 rw [wrap_i64];split<;>omega
theorem countw_any (A:Option Addr) (ca:Nat) (st:St) (S:Nat→Prop) (w:World) (h:StS w S A st) (hS:∀ b,S b→b<w.heap.size) :
  Calls Tryz.prog 49 #[Zbn A st.length ca] w (ZbM (Zcn st) w):=by
 have hl:=h.len;have HI:=hI h;have HTK:=hI (ZcX st);clear h;have HB0:=hI ((Below.refl w.heap.size w).alloc (Nat.le_refl _) (.cells #[.slice A st.length ca] 33));go_enter Tryz.func49,Tryz.ntmps49
 go_wp2_with fail
 go_loopw [3,9] (fun n i wr=>∃ k:Nat,k≤st.length∧i=.int .i64 k∧n=.int .i64 (Zcn (st.take k))∧wr=(w.alloc (.cells #[.slice A st.length ca] 33))) (fun _ i _=>st.length - (intOf i).toNat)
 case atStart=>exact⟨0,Nat.zero_le _,rfl,rfl,rfl⟩
 case round =>
  obtain⟨k,hk,rfl,rfl,rfl⟩:=hrel
  by_cases hkl:k<st.length
  · obtain⟨b1,o1,rfl,hb1,A',c',d1,d2,d3⟩:=HI.out.at_ hkl;have hl1:b1<w.heap.size:=hS b1 hb1;have HSTEP:=hI (show Zcn (st.take (k+1))=IntKind.i64.wrap (Zcn (st.take k)+(st.getD k []).length) by unfold Zcn;rw [Zhh,HTK.out k hkl];push_cast;rfl);clear d2 d3;generalize (st.getD k []).length=m at d1 HSTEP;generalize Zcn (st.take k)=x at HSTEP
    go_wp2_with fail
    go_roundw
    case rel=>exact⟨k+1,by omega,by go_num,by rw [HSTEP.out,IntWalk.i64_left],trivial⟩
    case measure=>simp [intOf];omega
  · have HF:=hI (show Zcn st=Zcn (st.take k) by rw [List.take_of_length_le (by omega)])
    go_wp2_with fail
    go_ret;exact⟨by rw [HF.out];rfl,HB0.out⟩
theorem rcountw_any (A:Option Addr) (ca:Nat) (st:St) (S:Nat→Prop) (w:World) (h:StS w S A st) (hS:∀ b,S b→b<w.heap.size) :
  Calls Tryz.prog 57 #[Zbn A st.length ca] w (ZbM (Zcn st) w):=by
 have hl:=h.len;have HI:=hI h;have HTK:=hI (ZcX st);clear h;have HB0:=hI ((Below.refl w.heap.size w).alloc (Nat.le_refl _) (.cells #[.slice A st.length ca] 33));go_enter Tryz.func57,Tryz.ntmps57
 go_wp2_with fail
 go_loopw [3,9] (fun n i wr=>∃ k:Nat,k≤st.length∧i=.int .i64 k∧n=.int .i64 (Zcn (st.take k))∧wr=(w.alloc (.cells #[.slice A st.length ca] 33))) (fun _ i _=>st.length - (intOf i).toNat)
 case atStart=>exact⟨0,Nat.zero_le _,rfl,rfl,rfl⟩
 case round =>
  obtain⟨k,hk,rfl,rfl,rfl⟩:=hrel
  by_cases hkl:k<st.length
  · obtain⟨b1,o1,rfl,hb1,A',c',d1,d2,d3⟩:=HI.out.at_ hkl;have hl1:b1<w.heap.size:=hS b1 hb1;have HSTEP:=hI (show Zcn (st.take (k+1))=IntKind.i64.wrap (Zcn (st.take k)+(st.getD k []).length) by unfold Zcn;rw [Zhh,HTK.out k hkl];push_cast;rfl);clear d2 d3;generalize (st.getD k []).length=m at d1 HSTEP;generalize Zcn (st.take k)=x at HSTEP
    go_wp2_with fail
    go_roundw
    case rel=>exact⟨k+1,by omega,by go_num,by rw [HSTEP.out,IntWalk.i64_left],trivial⟩
    case measure=>simp [intOf];omega
  · have HF:=hI (show Zcn st=Zcn (st.take k) by rw [List.take_of_length_le (by omega)])
    go_wp2_with fail
    go_ret;exact⟨by rw [HF.out];rfl,HB0.out⟩
end Go.Proofs.YtkpjjfhfbpfjpaaGreat

