import Derived.Test.YtjadnfodboepeaaGreatK46
import Derived.Test.YtjadnfodboepeaaGreatKbt
set_option linter.all false
set_option maxRecDepth 100000
set_option maxHeartbeats 8000000
namespace Go.Proofs.YtjadnfodboepeaaGreat
open Go.RowKit
variable {w:World} {n:Nat} {A:Option Addr} {S:Nat->Prop}
section
variable {w:World} {B0 n c gl cp cq:Nat} {A P Q:Option Addr} {l:List Chg} {ch:Chg}
theorem ChgS.take {S:Nat->Prop} (h:ChgS w S A l) {k:Nat} (E:k<=l):ChgS w S A (l.take k):=by
 obtain⟨vs,K,H⟩:=Sl.vals h;have L:=h.1;rw [Ze (n:=56) (fun _=>rfl)] at L;refine Qb (by rw [Ze (n:=56) (fun _=>rfl),qG];omega) (ZbQ Zab K k E).1 (fun z=>?_);rw [qg,qG] at z;obtain⟨b,F,e,I,M⟩:=H (by rw [qg];omega);exact⟨b,F,e,I,CellsAt.left (y:=vs.drop (k*3)) (by rw [List.take_append_drop];exact M)⟩
end
section
variable {w w':World} {base n c:Nat} {A:Option Addr} {L:List NetE} {S:Nat->Prop}
end
section
variable {α:Type} {enc:α->Dat} {w w':World} {base size n c gl i:Nat} {e:TypeId} {D S0 X:Nat->Prop} {L:List α} {row:List Value}
structure RowO (w:World) (base:Nat) (e:TypeId) (size gl c i:Nat) (enc:α->Dat) (D:Nat->Prop) (L:List α) (row:List Value):Prop where
 own:∃ v0 v2,v0.length=i*size/\w.ownsRow base e size (.slice (some ⟨gl,0,none⟩) L.length c) L.length (v0++(row++v2))/\Dat.Va w D ((L.take i).map enc) v0/\Dat.Va w D ((L.drop (i+1)).map enc) v2
 lt:i<L
 len:row.length=size
 dat:∀ b,D b->b<w/\b≠gl
end
theorem encTab_plain (t:Tab):(ZP t).Plain:=by simp [ZP,Dat.Plain,Dat.Pa,Value.oneCell']
theorem encCol_plain (t:Col):(Zbh t).Plain:=by simp [Zbh,Dat.Plain,Dat.Pa,Value.oneCell']
theorem encRfr_plain (t:Rfr):(ZbJ t).Plain:=by simp [ZbJ,Dat.Plain,Dat.Pa,Value.oneCell']
theorem vals_rfr {r:Rfr} (z:r.cols.length<=n) (h:IntS w S A r.cols):Dat.Vs w S (ZbJ r) [.slice A r.cols n,.int .i64 r.tx]:=by
 simp only [ZbJ,Dat.Vs,Dat.Va,ZC,ZA,qg];exact⟨[.slice A r.cols n],_,rfl,⟨A,n,rfl,z,h⟩,[.int .i64 r.tx],[],rfl,⟨rfl,trivial⟩,rfl⟩
section
variable {w:World} {B1 gC n c j:Nat} {D:Nat->Prop} {cols:List Col}
end
abbrev rowT (F:ByteArray) (z:Option Addr) (n1 c1:Nat) (key:Int) (H:Option Addr) (n2 c2:Nat) (E:Option Addr) (K I:Nat):List Value:=[.string F,.slice z n1 c1,.int .i64 key,.slice H n2 c2,.slice E K I]
structure SsI (w wr:World) (g:Nat) (S:Nat->Prop) (v:Int) (gT cT i B1:Nat) (D:Nat->Prop) (L:List Tab) (row:List Value):Prop where
 sb:wr.heap[w.heap.size]?=some (.cells #[.int .i64 v,.slice (some ⟨gT,0,none⟩) L.length cT] 25 (0,0))
 rb:wr.heap[w.heap.size+1]?=some (.cells #[.int .i64 0,.slice none 0 0] 25 (0,0))
 ro:RowO wr (w+2) 104 5 gT cT i ZP D L row
 dl:∀ b,D b->(S b\/w.heap.size+2<=b)/\b<B1
 b1:gT<B1/\B1<=wr/\w.heap.size+2<=B1
 cs:CaseOk wr g
 gr:w.grownBy wr (some g)
 gl:g<w
 hS:∀ b,S b->b<w/\b≠g
section
variable {w wr wx W:World} {g n c gT cT i B1:Nat} {S D:Nat->Prop} {v:Int} {A:Option Addr} {L:List Tab} {row:List Value}
end
structure SsO (w wr:World) (g:Nat) (S:Nat->Prop) (v:Int) (gT cT i B1:Nat) (D:Nat->Prop) (L:List Tab) (nm:ByteArray) (A1:Option Addr) (n1 c1:Nat) (key:Int) (A2:Option Addr) (c2:Nat) (refs:List Rfr) (A3:Option Addr) (c3:Nat) (chks:List Pred):Prop where
 si:SsI w wr g S v gT cT i B1 D L (rowT nm A1 n1 c1 key A2 refs.length c2 A3 chks.length c3)
 nz:nm.size<=9223372036854775807
 rf:refs.length<=c2/\RfrS wr D A2 refs
 ck:chks.length<=c3/\PredS wr D A3 chks
section
variable {w wr wx:World} {g gT cT i B1 BB n1 c1 c2 c3:Nat} {S D:Nat->Prop} {v key:Int} {L:List Tab} {nm:ByteArray} {A1 A2 A3:Option Addr} {refs:List Rfr} {chks:List Pred}
variable {cols:List Col} (h:SsO w wr g S v gT cT i B1 D L nm A1 cols.length c1 key A2 c2 refs A3 c3 chks) (hk:cols.length<=c1) (hc:ColS wr (fun b=>D b\/(B1<=b/\b<wr)) A1 cols)
include h hk hc
omit hk hc in
end
section
variable {w wr:World} {g n c:Nat} {S:Nat->Prop} {v:Int} {A:Option Addr} {L:List Tab}
end
end Go.Proofs.YtjadnfodboepeaaGreat
