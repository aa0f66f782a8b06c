import Derived.Test.YtkpjjfhfbpfjpaaKefeab0
set_option linter.unusedVariables false
set_option linter.unusedSimpArgs false
set_option maxRecDepth 100000
set_option maxHeartbeats 8000000
namespace Go.Proofs.Ytkpjjfhfbpfjpaa
open Go.RowKit
structure Chg where
 table:Int
 old:Row
 new:Row
abbrev St:=List (List Row)
abbrev chg0:Chg:=⟨0,[],[]⟩
def ZaQ (r:Row):Dat:=.slice (r.map encV)
def ZbD (l:List Row):Dat:=.slice (l.map ZaQ)
def ZaC (c:Chg):Dat:=.agg [.lit (.int .i64 c.table),ZaQ c.old,ZaQ c.new]
theorem Zbk (c:Chg):(ZaC c).size=3:=rfl
def RowsS (w:World) (S:Nat→Prop) (A:Option Addr) (l:List Row):Prop:=Sl w S A (l.map ZaQ)
def StS (w:World) (S:Nat→Prop) (A:Option Addr) (l:St):Prop:=Sl w S A (l.map ZbD)
def ChgS (w:World) (S:Nat→Prop) (A:Option Addr) (l:List Chg):Prop:=Sl w S A (l.map ZaC)
section
variable {w w':World} {S S':Nat→Prop} {A:Option Addr}
theorem RowsS.keep {l:List Row} (h:RowsS w S A l) (hk:Same S w w'):RowsS w' S A l:=Sl.keep h hk
theorem RowsS.len {l:List Row} (h:RowsS w S A l):l.length≤5864062014805:=by have:=h.1;rw [Zag (n:=24) (fun _=>rfl)] at this;omega
theorem RowsS.at_ {l:List Row} (h:RowsS w S A l) {k:Nat} (hk:k<l.length):∃ b off,A=some ⟨b,off,none⟩∧S b∧∃ A' c,w.cell? ⟨b,off+k,none⟩=some (.slice A' (l.getD k []).length c)∧(l.getD k []).length≤c∧RowS w S A' (l.getD k []):=by
 obtain⟨b,off,e,hb,h1⟩:=Sl.at_ (n:=1) (fun _=>rfl) [] h hk;rw [Nat.mul_one] at h1;simp only [ZaQ,Dat.Held,List.length_map] at h1;obtain⟨A',c,h2,h3,h4,h5⟩:=h1;exact⟨b,off,e,hb,A',c,h2,h3,⟨by simpa using h4,by simpa using h5⟩⟩
theorem StS.at_ {l:St} (h:StS w S A l) {k:Nat} (hk:k<l.length):∃ b off,A=some ⟨b,off,none⟩∧S b∧∃ A' c,w.cell? ⟨b,off+k,none⟩=some (.slice A' (l.getD k []).length c)∧(l.getD k []).length≤c∧RowsS w S A' (l.getD k []):=by
 obtain⟨b,off,e,hb,h1⟩:=Sl.at_ (n:=1) (fun _=>rfl) [] h hk;rw [Nat.mul_one] at h1;simp only [ZbD,Dat.Held,List.length_map] at h1;obtain⟨A',c,h2,h3,h4,h5⟩:=h1;exact⟨b,off,e,hb,A',c,h2,h3,⟨by simpa using h4,by simpa using h5⟩⟩
theorem ChgS.keep {l:List Chg} (h:ChgS w S A l) (hk:Same S w w'):ChgS w' S A l:=Sl.keep h hk
theorem ChgS.nil_:ChgS w S A []:=Sl.nil_
theorem ChgS.len {l:List Chg} (h:ChgS w S A l):l.length≤2513169434916:=by have:=h.1;rw [Zag (n:=56) (fun _=>rfl)] at this;omega
theorem ChgS.at_ {l:List Chg} (h:ChgS w S A l) {k:Nat} (hk:k<l.length):∃ b off,A=some ⟨b,off,none⟩∧S b∧w.cell? ⟨b,off+k*3,none⟩=some (.int .i64 (l.getD k chg0).table)∧∃ A1 c1 A2 c2,w.cell? ⟨b,off+k*3+1,none⟩=some (.slice A1 (l.getD k chg0).old.length c1)∧(l.getD k chg0).old.length≤c1∧RowS w S A1 (l.getD k chg0).old∧w.cell? ⟨b,off+k*3+2,none⟩=some (.slice A2 (l.getD k chg0).new.length c2)∧(l.getD k chg0).new.length≤c2∧RowS w S A2 (l.getD k chg0).new:=by
 obtain⟨b,off,e,hb,h1⟩:=Sl.at_ Zbk chg0 h hk;simp only [ZaC,ZaQ,Dat.Held,Dat.HeldAll,Dat.size,and_true,List.length_map,ZaK] at h1;obtain⟨h1,⟨A1,c1,a1,a2,a3,a4⟩,A2,c2,b1,b2,b3,b4⟩:=h1;exact⟨b,off,e,hb,h1,A1,c1,A2,c2,a1,a2,⟨by simpa using a3,by simpa using a4⟩,b1,b2,⟨by simpa using b3,by simpa using b4⟩⟩
end
abbrev ZeK (A:Option Addr) (n c:Nat):Value:=.agg #[.slice A n c]
abbrev ZfF (t:Int) (A:Option Addr) (n c:Nat) (B:Option Addr) (m d:Nat):Value:=.agg #[.int .i64 t,.slice A n c,.slice B m d]
end Go.Proofs.Ytkpjjfhfbpfjpaa
