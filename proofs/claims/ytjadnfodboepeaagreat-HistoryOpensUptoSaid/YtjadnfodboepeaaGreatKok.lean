import Derived.Test.YtjadnfodboepeaaGreatK6u
import Derived.Deep.Strs
set_option linter.all false
set_option maxRecDepth 100000
set_option maxHeartbeats 8000000
namespace Go.Proofs.YtjadnfodboepeaaGreat
open Tryz
open Go.RowKit Go.ChangeShapes Go.Deep
abbrev Lt (z:World):Nat->Prop:=fun b=>b<z
section
variable {H:Type} {enc:TypeId × Value->H} {W:World} {fuel:Nat} {cs:List Value} {x:DataW H × List MemPlace}
theorem ZhB {a:Addr} {v:Value} (h:W.cell? a=some v):∃ b E,a=⟨b,E,none⟩/\b<W:=by
 have F:=World.block_lt_of_cell? W _ h
 have z:a.spot=none:=by
  unfold World.cell? at h;split at h
  .by_cases z:a.spot.isSome
   .simp [z] at h
   simpa using z
  cases h
 obtain⟨b,E,H⟩:=a;simp only at z F;subst z;exact⟨b,E,rfl,F⟩
theorem Zca {P:Program} {e:TypeId}:∀ {F:List (DataW H)} {d:DataW H},d ∈ F->∀ n ∈ d.weights P e,n ∈ DataW.weightsAll P e F
 | [],_,h,_,_=>by cases h
 | a :: r,d,h,n,E=>by
  unfold DataW.weightsAll;rcases Qs.1 h with z | z
  .subst z;exact qH.2 (.inl E)
  exact qH.2 (.inr (Zca z n E))
theorem raw_slice {α:Type} [Inhabited α] (ed:α->Dat) {T z:TypeId} {n by_:Nat} (N:prog.underlying T=some (.slice z)) (aB:prog.cellsOf z=n) (aE:0<n) (am:prog.bytesOf z=by_) (M:∀ a,(ed a).size=n) (aw:∀ a,(ed a).bytes=by_)
 (aq:∀ (ay:Nat) (ae:List Value) (y:DataW H × List MemPlace),DataW.trod enc prog W 0 (fun _=>true) true ay z ae=some y->(∀ k ∈ y.1.weights prog z,k<=reachBytes)->∃ a,Dat.Vs W (Lt W) (ed a) ae)
 (h:DataW.trod enc prog W 0 (fun _=>true) true fuel T cs=some x) (Z:∀ k ∈ x.1.weights prog T,k<=reachBytes) :
 ∃ A cap l,cs=[.slice A (l:List α).length cap]/\l.length<=cap/\Sl W (Lt W) A (l.map ed):=by
 rcases open_slice N h with ⟨O,_⟩ | ⟨a,len,cap,m,f,D,aI,O,_,ax,aH,U,rfl,aA⟩
 .exact⟨none,0,[],O,yb,Qd⟩
 simp only [if_true] at U;subst U
 have ak:len*by_<=140737488355328:=by
  have E:=Z ((len+(m - len))*by_) (by
   simp only [DataW.weights,N];refine Qs.2 (.inl ?_);simp only [qg,List.length_range,am])
  have R:len*by_<=(len+(m - len))*by_:=Nat.mul_le_mul_right _ ya;unfold reachBytes at E;omega
 have ap:∀ i,i<len->∃ v:α,∃ vs,Dat.Vs W (Lt W) (ed v) vs/\∀ j u,vs[j]?=some u->W.cell? ((a.add (i*n)).add j)=some u:=by
  intro i az;obtain⟨ac,E,R⟩:=aA i ya;rw [aB] at E
  obtain⟨v,I⟩:=aq _ _ _ R (fun k K=>Z k (by
   simp only [DataW.weights,N];exact Qs.2 (.inr (qH.2 (.inl (Zca (qO.2 ⟨i,List.mem_range.2 az,rfl⟩) k K))))))
  refine⟨v,ac,I,fun j u F=>?_⟩;obtain⟨aG,_,L⟩:=World.cells?_some E;have ah:j<ac:=(qR.1 F).1;have ar:j<n:=(by rw [Dat.Vs.len _ _ I,M] at ah;exact ah);have:=L j ar;rw [this];simpa using F
 obtain⟨f,aa⟩:=choose_lt (α:=α) ap;refine⟨some a,m,(List.range len).map f,by rw [qg,List.length_range];exact O,by simpa using ax,by rw [Ze (n:=by_) aw,qg,List.length_range];exact ak,fun au=>?_⟩;have aj:0<len:=(by simpa using au);obtain⟨af,av,ai⟩:=aa 0 aj;have:0<af.length:=(by rw [Dat.Vs.len _ _ av,M];exact aE);have ao:=ai 0 af[0] yb;obtain⟨b,ab,aC,aD⟩:=ZhB ao;have aF:a=⟨b,ab,none⟩:=(by simpa [Addr.add] using aC);subst aF;refine⟨b,ab,rfl,aD,ZaZ (n:=n) (fun d hd=>by obtain⟨v,_,rfl⟩:=qO.1 hd;exact M v) (fun k K=>?_)⟩;have an:k<len:=(by simpa using K);have e:((((List.range len).map f)).map ed)[k]=ed (f k):=yb;rw [e];obtain⟨vs,I,L⟩:=aa k an;refine held_of_cells _ vs _ _ I (fun j u F=>?_);have:=L j u F;rw [add_none,add_none] at this;exact this
instance:Inhabited V:=⟨v0⟩
instance:Inhabited Chg:=⟨chg0⟩
theorem ZjU (h:DataW.trod enc prog W 0 (fun _=>true) true fuel 108 cs=some x):∃ v:V,Dat.Vs W (Lt W) (encV v) cs:=by
 obtain⟨I,Z,U,n,rfl,H,N,M,L⟩:=trod_struct3 underlying108 h;rw [show prog.cellsOf 108=3 by kernel_rfl] at H
 match cs,H with
 | [c0,c1,c2],_ =>
  have aa:DataW.trod enc prog W 0 (fun _=>true) true n 3 [c0]=some I:=N;have R:DataW.trod enc prog W 0 (fun _=>true) true n 2 [c1]=some Z:=M;have K:DataW.trod enc prog W 0 (fun _=>true) true n 9 [c2]=some U:=L;obtain⟨a,z,_,_⟩:=DataW.trod_int underlying3 aa;obtain⟨b,E,_,_⟩:=DataW.trod_int underlying2 R;obtain⟨t,F,_,O⟩:=DataW.trod_string underlying9 K;injection z with z;injection E with E;injection F with F;subst z E F;refine⟨⟨a,b,t⟩,?_⟩;unfold maxLen at O;simp only [encV,Dat.Vs,Dat.Va,ZC,ZA];exact⟨[.int .i64 a],_,rfl,⟨rfl,trivial⟩,[.int .i64 b],_,rfl,⟨rfl,trivial⟩,[.string t],[],rfl,⟨rfl,ya⟩,rfl⟩
theorem raw_row (h:DataW.trod enc prog W 0 (fun _=>true) true fuel 116 cs=some x) (z:∀ k ∈ x.1.weights prog 116,k<=reachBytes):∃ A cap r,cs=[.slice A (r:Row).length cap]/\r.length<=cap/\RowS W (Lt W) A r :=
 raw_slice (n:=3) (by_:=32) encV underlying116 ye yf ye ZfY (fun _=>rfl) (fun _ _ _ h _=>ZjU h) h z
end
end Go.Proofs.YtjadnfodboepeaaGreat
