import Derived.Test.YtkpjjfhfbpfjpaaGreatKe1b890
set_option linter.unusedVariables false
set_option linter.unusedSimpArgs false
set_option maxRecDepth 100000
set_option maxHeartbeats 8000000
namespace Go.Proofs.YtkpjjfhfbpfjpaaGreat
open Go.RowKit
theorem indexInt_any (A:Option Addr) (c:Nat) (l:List Int) (v:Int) (S:Nat→Prop) (w:World) (hl:IntS w S A l) (hS:∀ b,S b→b<w.heap.size) (hlen:l.length≤1000) :
  Calls Tryz.prog 89 #[.slice A l.length c,.int .i64 v] w (fun e w'=>(∃ r:Int,e=.returned (.int .i64 r)∧-1≤r∧r<1000∧decide (0≤r)=decide (v ∈ l))∧Below w.heap.size w w'):=by
 have HL:=hI hl;clear hl;go_enter Tryz.func89,Tryz.ntmps89
 go_wp2_with fail
 go_loopw [8] (fun i wr=>∃ k:Nat,k≤l.length∧i=.int .i64 k∧Hid (∀ j,j<k→l.getD j 0≠v)∧Below w.heap.size w wr) (fun i _=>l.length - (intOf i).toNat)
 case atStart=>exact⟨0,Nat.zero_le _,rfl,hI (fun j h=>absurd h (by omega)),Below.refl _ _⟩
 case round =>
  obtain⟨k,hk,rfl,HNO,hbr⟩:=hrel;have HBR:=hI hbr;have hsz:=hbr.size;clear hbr
  by_cases hkl:k<l.length
  · have hdk:decide (k<l.length)=true:=(by simp [hkl]);have hk0:(0:Int)≤(k:Int):=(by omega);have hki:(k:Int)<(l.length:Int):=(by omega);obtain⟨b,o,rfl,hb,h0⟩:=IntS.at_ (show IntS wr S A l from Sl.keep HL.out (Same.of_below HBR.out hS)) hkl;have hbl:b<wr.heap.size:=(by have:=hS b hb;omega);have HSU:=hI (show ∀ j,j<k+1→j=k∨j<k from fun j hj=>by omega);obtain⟨x,hx⟩:∃ x,l.getD k 0=x:=⟨_,rfl⟩;have HX:=hI hx;have HME:=hI (show x ∈ l by rw [←hx,show l.getD k 0=l[k] by simp [List.getD,hkl]];exact List.getElem_mem hkl);rw [hx] at h0;clear hx
    by_cases hvx:v=x
    · subst hvx;have hdv:(v == v)=true:=by simp
      go_wp2_with fail
      go_ret;exact⟨⟨k,rfl,by omega,by omega,by rw [decide_eq_true HME.out,decide_eq_true (by omega)]⟩,HBR.out⟩
    · have hdv:(v == x)=false:=(by simp [hvx]);have HVX:=hI hvx;clear hvx
      go_wp2_with fail
      go_roundw
      case rel=>exact⟨k+1,by omega,by go_num,hI (fun j hj=>by
       rcases HSU.out j hj with rfl | h
       · rw [HX.out];exact fun e=>HVX.out e.symm
       · exact HNO.out j h),HBR.out⟩
      case measure=>(simp [intOf];omega)
  · have hdk:decide (k<l.length)=false:=(by simp;omega)
    have HNM:=hI (show ¬ v ∈ l from fun h=>by
     obtain⟨j,hj,e⟩:=List.getElem_of_mem h;exact HNO.out j (by omega) (by rw [show l.getD j 0=l[j] by simp [List.getD,hj]];exact e))
    go_wp2_with fail
    go_ret;exact⟨⟨-1,rfl,by omega,by omega,by rw [decide_eq_false HNM.out];rfl⟩,HBR.out⟩
theorem Zdm (A:Option Addr) (c:Nat) (l:List Int) (v:Int) (S:Nat→Prop) (w:World) (hl:IntS w S A l) (hS:∀ b,S b→b<w.heap.size) (hlen:l.length≤1000) :
  Calls Tryz.prog 39 #[.slice A l.length c,.int .i64 v] w (ZaQ (decide (v ∈ l)) w):=by
 have HL:=hI hl;clear hl;have hll:l.length≤17592186044416:=(by omega);go_enter Tryz.func39,Tryz.ntmps39
 go_wp2_with fail
 refine(indexInt_any A c l v S w HL.out hS hlen).mono ?_;rintro e w1 ⟨⟨r,rfl,r1,r2,r3⟩,hb⟩;have HR:=hI r3;have HB:=hI hb;clear r3 hb
 go_wp2_with fail
 exact bodyPost_ret (v:=.bool (decide (0≤r))) (by simp [results,Tryz.results39,go_sem]) rfl ⟨by rw [HR.out],HB.out⟩
end Go.Proofs.YtkpjjfhfbpfjpaaGreat
