import Derived.Test.YtkpjjfhfbpfjpaaKda88f1
set_option linter.unusedVariables false
set_option linter.unusedSimpArgs false
set_option maxRecDepth 100000
set_option maxHeartbeats 8000000
namespace Go.Proofs.Ytkpjjfhfbpfjpaa
open Go.RowKit
structure Chg where
 table:Int
 old:Row
 new:Row
abbrev St:=List (List Row)
abbrev chg0:Chg:=⟨0,[],[]⟩
def Zeg (r:Row):Dat:=.slice (r.map encV)
def ZaC (c:Chg):Dat:=.agg [.lit (.int .i64 c.table),Zeg c.old,Zeg c.new]
theorem Zbj (c:Chg):(ZaC c).size=3:=rfl
def ChgS (w:World) (S:Nat→Prop) (A:Option Addr) (l:List Chg):Prop:=Sl w S A (l.map ZaC)
section
variable {w w':World} {S S':Nat→Prop} {A:Option Addr}
theorem ChgS.keep {l:List Chg} (h:ChgS w S A l) (hk:Same S w w'):ChgS w' S A l:=Sl.keep h hk
theorem ChgS.nil_:ChgS w S A []:=Sl.nil_
theorem ChgS.len {l:List Chg} (h:ChgS w S A l):l.length≤2513169434916:=by have:=h.1;rw [Zah (n:=56) (fun _=>rfl)] at this;omega
theorem ChgS.at_ {l:List Chg} (h:ChgS w S A l) {k:Nat} (hk:k<l.length):∃ b off,A=some ⟨b,off,none⟩∧S b∧w.cell? ⟨b,off+k*3,none⟩=some (.int .i64 (l.getD k chg0).table)∧∃ A1 c1 A2 c2,w.cell? ⟨b,off+k*3+1,none⟩=some (.slice A1 (l.getD k chg0).old.length c1)∧(l.getD k chg0).old.length≤c1∧RowS w S A1 (l.getD k chg0).old∧w.cell? ⟨b,off+k*3+2,none⟩=some (.slice A2 (l.getD k chg0).new.length c2)∧(l.getD k chg0).new.length≤c2∧RowS w S A2 (l.getD k chg0).new:=by
 obtain⟨b,off,e,hb,h1⟩:=Sl.at_ Zbj chg0 h hk;simp only [ZaC,Zeg,Dat.Held,Dat.HeldAll,Dat.size,and_true,List.length_map,Zau] at h1;obtain⟨h1,⟨A1,c1,a1,a2,a3,a4⟩,A2,c2,b1,b2,b3,b4⟩:=h1;exact⟨b,off,e,hb,h1,A1,c1,A2,c2,a1,a2,⟨by simpa using a3,by simpa using a4⟩,b1,b2,⟨by simpa using b3,by simpa using b4⟩⟩
end
abbrev Zfz (t:Int) (A:Option Addr) (n c:Nat) (B:Option Addr) (m d:Nat):Value:=.agg #[.int .i64 t,.slice A n c,.slice B m d]
end Go.Proofs.Ytkpjjfhfbpfjpaa
