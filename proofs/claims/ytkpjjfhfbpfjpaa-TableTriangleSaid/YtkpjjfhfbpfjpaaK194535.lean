import Derived.Test.YtkpjjfhfbpfjpaaKefeab0
set_option linter.unusedVariables false
set_option linter.unusedSimpArgs false
set_option maxRecDepth 100000
set_option maxHeartbeats 8000000
namespace Go.Proofs.Ytkpjjfhfbpfjpaa
open Go.RowKit
structure Chg where
 table:Int
 old:Row
 new:Row
abbrev St:=List (List Row)
abbrev chg0:Chg:=⟨0,[],[]⟩
def ZaJ (r:Row):Dat:=.slice (r.map encV)
def ZbA (l:List Row):Dat:=.slice (l.map ZaJ)
def Zal (c:Chg):Dat:=.agg [.lit (.int .i64 c.table),ZaJ c.old,ZaJ c.new]
theorem ZaL (c:Chg):(Zal c).size=3:=rfl
def RowsS (w:World) (S:Nat→Prop) (A:Option Addr) (l:List Row):Prop:=Sl w S A (l.map ZaJ)
def StS (w:World) (S:Nat→Prop) (A:Option Addr) (l:St):Prop:=Sl w S A (l.map ZbA)
def ChgS (w:World) (S:Nat→Prop) (A:Option Addr) (l:List Chg):Prop:=Sl w S A (l.map Zal)
section
variable {w w':World} {S S':Nat→Prop} {A:Option Addr}
theorem RowsS.keep {l:List Row} (h:RowsS w S A l) (hk:Same S w w'):RowsS w' S A l:=Sl.keep h hk
theorem RowsS.more {l:List Row} (h:RowsS w S A l) (hS:∀ b,S b→S' b):RowsS w S' A l:=Sl.more h hS
theorem RowsS.nil_:RowsS w S A []:=Sl.nil_
theorem RowsS.len {l:List Row} (h:RowsS w S A l):l.length≤5864062014805:=by have:=h.1;rw [Zag (n:=24) (fun _=>rfl)] at this;omega
theorem RowsS.at_ {l:List Row} (h:RowsS w S A l) {k:Nat} (hk:k<l.length):∃ b off,A=some ⟨b,off,none⟩∧S b∧∃ A' c,w.cell? ⟨b,off+k,none⟩=some (.slice A' (l.getD k []).length c)∧(l.getD k []).length≤c∧RowS w S A' (l.getD k []):=by
 obtain⟨b,off,e,hb,h1⟩:=Sl.at_ (n:=1) (fun _=>rfl) [] h hk;rw [Nat.mul_one] at h1;simp only [ZaJ,Dat.Held,List.length_map] at h1;obtain⟨A',c,h2,h3,h4,h5⟩:=h1;exact⟨b,off,e,hb,A',c,h2,h3,⟨by simpa using h4,by simpa using h5⟩⟩
theorem StS.keep {l:St} (h:StS w S A l) (hk:Same S w w'):StS w' S A l:=Sl.keep h hk
theorem StS.more {l:St} (h:StS w S A l) (hS:∀ b,S b→S' b):StS w S' A l:=Sl.more h hS
theorem StS.nil_:StS w S A []:=Sl.nil_
theorem StS.len {l:St} (h:StS w S A l):l.length≤5864062014805:=by have:=h.1;rw [Zag (n:=24) (fun _=>rfl)] at this;omega
theorem StS.at_ {l:St} (h:StS w S A l) {k:Nat} (hk:k<l.length):∃ b off,A=some ⟨b,off,none⟩∧S b∧∃ A' c,w.cell? ⟨b,off+k,none⟩=some (.slice A' (l.getD k []).length c)∧(l.getD k []).length≤c∧RowsS w S A' (l.getD k []):=by
 obtain⟨b,off,e,hb,h1⟩:=Sl.at_ (n:=1) (fun _=>rfl) [] h hk;rw [Nat.mul_one] at h1;simp only [ZbA,Dat.Held,List.length_map] at h1;obtain⟨A',c,h2,h3,h4,h5⟩:=h1;exact⟨b,off,e,hb,A',c,h2,h3,⟨by simpa using h4,by simpa using h5⟩⟩
theorem ChgS.keep {l:List Chg} (h:ChgS w S A l) (hk:Same S w w'):ChgS w' S A l:=Sl.keep h hk
theorem ChgS.more {l:List Chg} (h:ChgS w S A l) (hS:∀ b,S b→S' b):ChgS w S' A l:=Sl.more h hS
theorem ChgS.nil_:ChgS w S A []:=Sl.nil_
theorem ChgS.len {l:List Chg} (h:ChgS w S A l):l.length≤2513169434916:=by have:=h.1;rw [Zag (n:=56) (fun _=>rfl)] at this;omega
theorem ChgS.at_ {l:List Chg} (h:ChgS w S A l) {k:Nat} (hk:k<l.length):∃ b off,A=some ⟨b,off,none⟩∧S b∧w.cell? ⟨b,off+k*3,none⟩=some (.int .i64 (l.getD k chg0).table)∧∃ A1 c1 A2 c2,w.cell? ⟨b,off+k*3+1,none⟩=some (.slice A1 (l.getD k chg0).old.length c1)∧(l.getD k chg0).old.length≤c1∧RowS w S A1 (l.getD k chg0).old∧w.cell? ⟨b,off+k*3+2,none⟩=some (.slice A2 (l.getD k chg0).new.length c2)∧(l.getD k chg0).new.length≤c2∧RowS w S A2 (l.getD k chg0).new:=by
 obtain⟨b,off,e,hb,h1⟩:=Sl.at_ ZaL chg0 h hk;simp only [Zal,ZaJ,Dat.Held,Dat.HeldAll,Dat.size,and_true,List.length_map,Zbb] at h1;obtain⟨h1,⟨A1,c1,a1,a2,a3,a4⟩,A2,c2,b1,b2,b3,b4⟩:=h1;exact⟨b,off,e,hb,h1,A1,c1,A2,c2,a1,a2,⟨by simpa using a3,by simpa using a4⟩,b1,b2,⟨by simpa using b3,by simpa using b4⟩⟩
end
abbrev Zay (A:Option Addr) (n c:Nat):Value:=.agg #[.slice A n c]
abbrev Zfl (t:Int) (A:Option Addr) (n c:Nat) (B:Option Addr) (m d:Nat):Value:=.agg #[.int .i64 t,.slice A n c,.slice B m d]
def Zak:St→Nat
 | []=>0
 | l :: r=>l.length+Zak r
theorem countF_take (st:St) (k:Nat) (h:k<st.length):Zak (st.take (k+1))=Zak (st.take k)+(st.getD k []).length:=by
 induction st generalizing k with
 | nil=>simp at h
 | cons l r ih =>
  cases k with
  | zero=>simp [Zak]
  | succ k =>
   have:=ih k (by simpa using h);simp only [List.take_succ_cons,Zak,List.getD_cons_succ];omega
theorem countF_take_le (st:St) (k:Nat):Zak (st.take k)≤Zak st:=by
 induction st generalizing k with
 | nil=>simp
 | cons l r ih =>
  cases k with
  | zero=>simp [Zak]
  | succ k=>have:=ih k;simp only [List.take_succ_cons,Zak];omega
theorem ZcC (A:Option Addr) (ca:Nat) (st:St) (S:Nat→Prop) (w:World) (h:StS w S A st) (hS:∀ b,S b→b<w.heap.size) (hc:Zak st≤4611686018427387904) :
  Calls Try.prog 21 #[Zay A st.length ca] w (ZbV (Zak st) w):=by
 have hl:=h.len;have HI:=hI h;have HTK:=hI (countF_take st);have HLE:=hI (countF_take_le st);clear h;have HB0:=hI ((Below.refl w.heap.size w).alloc nR (.cells #[.slice A st.length ca] 56));go_enter Try.func21,Try.ntmps21
 go_wp2_with fail
 go_loopw [3,9] (fun n i wr=>∃ k:Nat,k≤st.length∧i=.int .i64 k∧n=.int .i64 (Zak (st.take k))∧wr=(w.alloc (.cells #[.slice A st.length ca] 56))) (fun _ i _=>st.length - (intOf i).toNat)
 case atStart=>exact⟨0,Nat.zero_le _,rfl,rfl,rfl⟩
 case round =>
  obtain⟨k,hk,rfl,rfl,rfl⟩:=hrel;have hle:=HLE.out k
  by_cases hkl:k<st.length
  · obtain⟨b1,o1,rfl,hb1,A',c',d1,d2,d3⟩:=HI.out.at_ hkl;have hl1:b1<w.heap.size:=hS b1 hb1;have HSTEP:=hI (HTK.out k hkl);have hle2:=HLE.out (k+1);rw [HSTEP.out] at hle2;clear d2 d3;generalize (st.getD k []).length=m at d1 HSTEP hle2
    go_wp2_with fail
    go_roundw
    case rel=>exact⟨k+1,by omega,by go_num,by rw [HSTEP.out];go_num,trivial⟩
    case measure=>simp [intOf];omega
  · have HF:=hI (show Zak st=Zak (st.take k) by rw [List.take_of_length_le (by omega)])
    go_wp2_with fail
    go_ret;exact⟨by rw [HF.out];rfl,HB0.out⟩
end Go.Proofs.Ytkpjjfhfbpfjpaa
