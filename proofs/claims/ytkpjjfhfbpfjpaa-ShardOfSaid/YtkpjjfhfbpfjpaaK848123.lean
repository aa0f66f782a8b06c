import Derived.Test.YtkpjjfhfbpfjpaaK660fb2
import Derived.Deep.Slices
import Derived.Deep.Strs
import Derived.ChangeSame
import Derived.SizedLaws
set_option linter.unusedVariables false
set_option linter.unusedSimpArgs false
set_option maxRecDepth 100000
set_option maxHeartbeats 8000000
namespace Go.Proofs.Ytkpjjfhfbpfjpaa
open Go.RowKit Go.ChangeShapes Go.Deep
abbrev Lt (W:World):Nat→Prop:=fun b=>b<W.heap.size
section
variable {H:Type} {enc:TypeId × Value→H} {W:World} {fuel:Nat} {cs:List Value} {x:DataW H × List MemPlace}
theorem ZeA {a:Addr} {v:Value} (h:W.cell? a=some v):∃ b off,a=⟨b,off,none⟩∧b<W.heap.size:=by
 have hb:=World.block_lt_of_cell? W _ h
 have hs:a.spot=none:=by
  unfold World.cell? at h;split at h
  · by_cases hs:a.spot.isSome
    · simp [hs] at h
    · simpa using hs
  · cases h
 obtain⟨b,off,sp⟩:=a;simp only at hs hb;subst hs;exact⟨b,off,rfl,hb⟩
theorem ZbD {P:Program} {e:TypeId}:∀ {ds:List (DataW H)} {d:DataW H},d ∈ ds→∀ n ∈ d.weights P e,n ∈ DataW.weightsAll P e ds
 | [],_,h,_,_=>by cases h
 | a :: r,d,h,n,hn=>by
  unfold DataW.weightsAll;rcases List.mem_cons.1 h with h' | h'
  · subst h';exact List.mem_append.2 (.inl hn)
  · exact List.mem_append.2 (.inr (ZbD h' n hn))
theorem raw_slice {α:Type} [Inhabited α] (ed:α→Dat) {T E:TypeId} {n by_:Nat} (hu:Try.prog.underlying T=some (.slice E)) (hn:Try.prog.cellsOf E=n) (hn0:0<n) (hb:Try.prog.bytesOf E=by_) (hsz:∀ a,(ed a).size=n) (hby:∀ a,(ed a).bytes=by_)
  (each:∀ (fuel:Nat) (cs:List Value) (x:DataW H × List MemPlace),DataW.trod enc Try.prog W 0 (fun _=>true) true fuel E cs=some x→(∀ k ∈ x.1.weights Try.prog E,k≤reachBytes)→∃ a,Dat.Vals W (Lt W) (ed a) cs)
  (h:DataW.trod enc Try.prog W 0 (fun _=>true) true fuel T cs=some x) (hw:∀ k ∈ x.1.weights Try.prog T,k≤reachBytes) :
  ∃ A cap l,cs=[.slice A (l:List α).length cap]∧l.length≤cap∧Sl W (Lt W) A (l.map ed):=by
 rcases open_slice hu h with ⟨hcs,_⟩ | ⟨a,len,cap,m,f,D,Pl,hcs,_,hl,hm,hmm,rfl,hx⟩
 · exact⟨none,0,[],hcs,by simp,Sl.nil_⟩
 · simp only [if_true] at hmm;subst hmm
   have hwl:len*by_≤140737488355328:=by
    have h1:=hw ((len+(m - len))*by_) (by
     simp only [DataW.weights,hu];refine List.mem_cons.2 (.inl ?_);simp only [List.length_map,List.length_range,hb])
    have h2:len*by_≤(len+(m - len))*by_:=Nat.mul_le_mul_right _ (by omega);unfold reachBytes at h1;omega
   have each':∀ i,i<len→∃ v:α,∃ vs,Dat.Vals W (Lt W) (ed v) vs∧∀ j u,vs[j]?=some u→W.cell? ((a.add (i*n)).add j)=some u:=by
    intro i hi;obtain⟨cs',h1,h2⟩:=hx i (by omega);rw [hn] at h1
    obtain⟨v,hv⟩:=each _ _ _ h2 (fun k hk=>hw k (by
     simp only [DataW.weights,hu];exact List.mem_cons.2 (.inr (List.mem_append.2 (.inl (ZbD (List.mem_map.2 ⟨i,List.mem_range.2 hi,rfl⟩) k hk))))))
    refine⟨v,cs',hv,fun j u hu'=>?_⟩;obtain⟨hlen,_,hc⟩:=World.cells?_some h1;have hj:j<cs'.length:=(List.getElem?_eq_some_iff.1 hu').1;have hjn:j<n:=(by rw [Dat.Vals.len _ _ hv,hsz] at hj;exact hj);have:=hc j hjn;rw [this];simpa using hu'
   obtain⟨f,hf⟩:=choose_lt (α:=α) each';refine⟨some a,m,(List.range len).map f,by rw [List.length_map,List.length_range];exact hcs,by simpa using hl,by rw [Zah (n:=by_) hby,List.length_map,List.length_range];exact hwl,fun hn'=>?_⟩;have hl0:0<len:=(by simpa using hn');obtain⟨vs0,hv0,hc0⟩:=hf 0 hl0;have hvl:0<vs0.length:=(by rw [Dat.Vals.len _ _ hv0,hsz];exact hn0);have hcell:=hc0 0 vs0[0] (by simp);obtain⟨b,off,ha,hb'⟩:=ZeA hcell;have ha':a=⟨b,off,none⟩:=(by simpa [Addr.add] using ha);subst ha';refine⟨b,off,rfl,hb',ZbJ (n:=n) (fun d hd=>by obtain⟨v,_,rfl⟩:=List.mem_map.1 hd;exact hsz v) (fun k hk=>?_)⟩;have hk':k<len:=(by simpa using hk);have e:((((List.range len).map f)).map ed)[k]=ed (f k):=(by simp);rw [e];obtain⟨vs,hv,hc⟩:=hf k hk';refine held_of_cells _ vs _ _ hv (fun j u hu'=>?_);have:=hc j u hu';rw [Zbm,Zbm] at this;exact this
instance:Inhabited V:=⟨v0⟩
instance:Inhabited Chg:=⟨chg0⟩
theorem Zfn (h:DataW.trod enc Try.prog W 0 (fun _=>true) true fuel 51 cs=some x):∃ v:V,Dat.Vals W (Lt W) (encV v) cs:=by
 obtain⟨y0,y1,y2,n,rfl,hl,h0,h1,h2⟩:=trod_struct3 Try.underlying51 h;rw [show Try.prog.cellsOf 51=3 by kernel_rfl] at hl
 match cs,hl with
 | [c0,c1,c2],_ =>
  have h0':DataW.trod enc Try.prog W 0 (fun _=>true) true n 3 [c0]=some y0:=h0;have h1':DataW.trod enc Try.prog W 0 (fun _=>true) true n 2 [c1]=some y1:=h1;have h2':DataW.trod enc Try.prog W 0 (fun _=>true) true n 9 [c2]=some y2:=h2;obtain⟨a,e0,_,_⟩:=DataW.trod_int Try.underlying3 h0';obtain⟨b,e1,_,_⟩:=DataW.trod_int Try.underlying2 h1';obtain⟨t,e2,_,ht⟩:=DataW.trod_string Try.underlying9 h2';injection e0 with e0;injection e1 with e1;injection e2 with e2;subst e0 e1 e2;refine⟨⟨a,b,t⟩,?_⟩;unfold maxLen at ht;simp only [encV,Dat.Vals,Dat.ValsAll,Zau,Zaq];exact⟨[.int .i64 a],_,rfl,⟨rfl,trivial⟩,[.int .i64 b],_,rfl,⟨rfl,trivial⟩,[.string t],[],rfl,⟨rfl,by omega⟩,rfl⟩
theorem raw_row (h:DataW.trod enc Try.prog W 0 (fun _=>true) true fuel 27 cs=some x) (hw:∀ k ∈ x.1.weights Try.prog 27,k≤reachBytes):∃ A cap r,cs=[.slice A (r:Row).length cap]∧r.length≤cap∧RowS W (Lt W) A r :=
 raw_slice (n:=3) (by_:=32) encV Try.underlying27 (by kernel_rfl) (by decide) (by kernel_rfl) ZdI (fun _=>rfl) (fun fuel cs x h _=>Zfn h) h hw
end
end Go.Proofs.Ytkpjjfhfbpfjpaa
