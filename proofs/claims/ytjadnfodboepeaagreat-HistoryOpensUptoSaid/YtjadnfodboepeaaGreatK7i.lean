import Derived.Test.YtjadnfodboepeaaGreatKok
import Derived.Test.YtjadnfodboepeaaGreatKyh
set_option linter.all false
set_option maxRecDepth 100000
set_option maxHeartbeats 8000000
namespace Go.Proofs.YtjadnfodboepeaaGreat
open Tryz
open Go.RowKit Go.ChangeShapes Go.WideShapes Go.Deep
variable {n:Nat}
theorem ZeL {f g:Nat->Nat}:∀ n,(∀ i,i<n->f i<=g i)->((List.range n).map f).sum<=((List.range n).map g).sum
 | 0,_=>by simp
 | n+1,h=>by
  rw [List.range_succ,qm,qm,List.sum_append,List.sum_append];have z:=ZeL n (fun i E=>h i ya);have F:=h n ya;simp only [qL,Qn,List.sum_cons,List.sum_nil];omega
theorem ZiV {α:Type}:∀ l:List α,(l.map fun _=>(0:Nat)).sum=0
 | []=>rfl
 | _ :: r=>by simp only [qL,List.sum_cons,ZiV r]
theorem choose_lt2 {α:Type} [Inhabited α] {P:Nat->α->Prop} (h:∀ i,i<n->∃ a,P i a):∃ f:Nat->α,∀ i,i<n->P i (f i):=choose_lt h
section
variable {H:Type} {enc:TypeId × Value->H} {W:World} {fuel:Nat} {cs:List Value} {x:DataW H × List MemPlace}
theorem Zem {α:Type} [Inhabited α] (ed:α->Dat) (K:α->Nat) {z:DataW H->Nat} (aq:∀ a b,(a.map z).sum<=z (.slice a b)) {T I:TypeId} {n by_:Nat} (Z:prog.underlying T=some (.slice I)) (aG:prog.cellsOf I=n) (aJ:0<n) (au:prog.bytesOf I=by_) (R:∀ a,(ed a).size=n) (aC:∀ a,(ed a).bytes=by_)
 (ay:∀ (aE:Nat) (ai:List Value) (y:DataW H × List MemPlace),SizeOf.sizeOf y.1<SizeOf.sizeOf x.1->DataW.trod enc prog W 0 (fun _=>true) true aE I ai=some y->(∀ k ∈ y.1.weights prog I,k<=reachBytes)->∃ a,Dat.Vs W (Lt W) (ed a) ai/\K a<=z y.1)
 (h:DataW.trod enc prog W 0 (fun _=>true) true fuel T cs=some x) (ae:∀ k ∈ x.1.weights prog T,k<=reachBytes) :
 ∃ A cap l,cs=[.slice A (l:List α).length cap]/\l.length<=cap/\Sl W (Lt W) A (l.map ed)/\(l.map K).sum<=z x.1:=by
 rcases open_slice Z h with ⟨aa,_⟩ | ⟨a,len,cap,m,f,D,aO,aa,_,aD,aM,ac,rfl,aF⟩
 .exact⟨none,0,[],aa,yb,Qd,yb⟩
 simp only [if_true] at ac;subst ac
 have ar:len*by_<=140737488355328:=by
  have E:=ae ((len+(m - len))*by_) (by
   simp only [DataW.weights,Z];refine Qs.2 (.inl ?_);simp only [qg,List.length_range,au])
  have F:len*by_<=(len+(m - len))*by_:=Nat.mul_le_mul_right _ ya;unfold reachBytes at E;omega
 have ax:∀ i,i<len->∃ v:α,(∃ vs,Dat.Vs W (Lt W) (ed v) vs/\∀ j u,vs[j]?=some u->W.cell? ((a.add (i*n)).add j)=some u)/\K v<=z (D i):=by
  intro i ab;obtain⟨ah,E,F⟩:=aF i ya;rw [aG] at E;have am:D i ∈ (List.range len).map D:=qO.2 ⟨i,List.mem_range.2 ab,rfl⟩
  obtain⟨v,M,an⟩:=ay _ _ _ (by
   have aN:=List.sizeOf_lt_of_mem am;simp only [DataW.slice.sizeOf_spec];omega) F (fun k N=>ae k (by
   simp only [DataW.weights,Z];exact Qs.2 (.inr (qH.2 (.inl (Zca am k N))))))
  refine⟨v,⟨ah,M,fun j u L=>?_⟩,an⟩;obtain⟨aL,_,O⟩:=World.cells?_some E;have ak:j<ah:=(qR.1 L).1;have az:j<n:=(by rw [Dat.Vs.len _ _ M,R] at ak;exact ak);have:=O j az;rw [this];simpa using L
 obtain⟨f,U⟩:=choose_lt2 (α:=α) ax;refine⟨some a,m,(List.range len).map f,by rw [qg,List.length_range];exact aa,by simpa using aD,⟨by rw [Ze (n:=by_) aC,qg,List.length_range];exact ar,fun aA=>?_⟩,?_⟩
 .have ap:0<len:=(by simpa using aA);obtain⟨⟨aj,aB,ao⟩,_⟩:=U 0 ap;have:0<aj.length:=(by rw [Dat.Vs.len _ _ aB,R];exact aJ);have aw:=ao 0 aj[0] yb;obtain⟨b,af,aH,aI⟩:=ZhB aw;have aK:a=⟨b,af,none⟩:=(by simpa [Addr.add] using aH);subst aK;refine⟨b,af,rfl,aI,ZaZ (n:=n) (fun d hd=>by obtain⟨v,_,rfl⟩:=qO.1 hd;exact R v) (fun k N=>?_)⟩;have av:k<len:=(by simpa using N);have e:((((List.range len).map f)).map ed)[k]=ed (f k):=yb;rw [e];obtain⟨⟨vs,M,O⟩,_⟩:=U k av;refine held_of_cells _ vs _ _ M (fun j u L=>?_);have:=O j u L;rw [add_none,add_none] at this;exact this
 rw [List.map_map];have E:=ZeL (f:=K ∘ f) (g:=z ∘ D) len (fun i ab=>(U i ab).2);have F:=aq ((List.range len).map D) ((List.range (m - len)).map fun j=>D (len+j));rw [List.map_map] at F;exact qD E F
theorem Zck {α:Type} [Inhabited α] (ed:α->Dat) {T z:TypeId} {n by_:Nat} (U:prog.underlying T=some (.slice z)) (ac:prog.cellsOf z=n) (R:0<n) (ab:prog.bytesOf z=by_) (ae:∀ a,(ed a).size=n) (M:∀ a,(ed a).bytes=by_)
 (L:∀ (Z:Nat) (I:List Value) (y:DataW H × List MemPlace),SizeOf.sizeOf y.1<SizeOf.sizeOf x.1->DataW.trod enc prog W 0 (fun _=>true) true Z z I=some y->(∀ k ∈ y.1.weights prog z,k<=reachBytes)->∃ a,Dat.Vs W (Lt W) (ed a) I)
 (h:DataW.trod enc prog W 0 (fun _=>true) true fuel T cs=some x) (K:∀ k ∈ x.1.weights prog T,k<=reachBytes) :
 ∃ A cap l,cs=[.slice A (l:List α).length cap]/\l.length<=cap/\Sl W (Lt W) A (l.map ed):=by
 obtain⟨A,cap,l,F,E,aa,_⟩:=Zem ed (fun _=>0) (z:=fun _=>0) (fun a b=>by rw [ZiV];exact qp _) U ac R ab ae M (fun f c y N F E=>by obtain⟨a,O⟩:=L f c y N F E;exact⟨a,O,qp _⟩) h K;exact⟨A,cap,l,F,E,aa⟩
theorem Zbs {T:TypeId} {H:Array Field} (F:prog.underlying T=some (.struct H)) (h:DataW.trod enc prog W 0 (fun _=>true) true fuel T cs=some x) (I:∀ k ∈ x.1.weights prog T,k<=reachBytes) :
 ∃ n,cs.length=prog.cellsOf T/\∀ (i:Nat) (f:Field),H[i]?=some f->∃ y,DataW.trod enc prog W 0 (fun _=>true) true n f.type ((cs.drop f.offset).take (prog.cellsOf f.type))=some y/\(∀ k ∈ y.1.weights prog f.type,k<=reachBytes)/\SizeOf.sizeOf y.1<SizeOf.sizeOf x.1:=by
 obtain⟨xs,n,_,rfl,M,N,L⟩:=DataW.trod_struct F h;refine⟨n,M,fun i f E=>?_⟩;have z:i<xs:=(by rw [N];exact(Array.getElem?_eq_some_iff.1 E).1);refine⟨xs[i],by rw [L i f E];exact List.getElem?_eq_getElem z,fun k K=>I k ?_,?_⟩
 .simp only [DataW.weights,F];exact DataW.weights_mem_each (j:=i) (t:=f.type) (by simp [E]) (by simp [z]) k K
 have O:=List.sizeOf_lt_of_mem (qO.2 ⟨xs[i],qJ z,rfl⟩:xs[i].1 ∈ xs.map (·.1));simp only [DataW.agg.sizeOf_spec];omega
instance:Inhabited Col:=⟨c0⟩
instance:Inhabited Rfr:=⟨r0⟩
instance:Inhabited Pred:=⟨p0⟩
instance:Inhabited Tab:=⟨t0⟩
theorem raw_col (h:DataW.trod enc prog W 0 (fun _=>true) true fuel 98 cs=some x) (K:∀ k ∈ x.1.weights prog 98,k<=reachBytes):∃ c:Col,Dat.Vs W (Lt W) (Zbh c) cs:=by
 obtain⟨n,H,F⟩:=Zbs underlying98 h K;rw [show prog.cellsOf 98=2 by kernel_rfl] at H
 match cs,H with
 | [c0,c1],_ =>
  obtain⟨I,M,_,_⟩:=F 0 _ rfl;obtain⟨R,L,_,_⟩:=F 1 _ rfl;have U:DataW.trod enc prog W 0 (fun _=>true) true n 9 [c0]=some I:=M;have O:DataW.trod enc prog W 0 (fun _=>true) true n 3 [c1]=some R:=L;obtain⟨t,z,_,N⟩:=DataW.trod_string underlying9 U;obtain⟨a,E,_,_⟩:=DataW.trod_int underlying3 O;injection z with z;injection E with E;subst z E;unfold maxLen at N;refine⟨⟨t,a⟩,?_⟩;simp only [Zbh,Dat.Vs,Dat.Va,ZC,ZA];exact⟨[.string t],_,rfl,⟨rfl,ya⟩,[.int .i64 a],[],rfl,⟨rfl,trivial⟩,rfl⟩
theorem raw_ints (h:DataW.trod enc prog W 0 (fun _=>true) true fuel 65 cs=some x) (z:∀ k ∈ x.1.weights prog 65,k<=reachBytes):∃ A cap l,cs=[.slice A (l:List Int).length cap]/\l.length<=cap/\IntS W (Lt W) A l :=
 Zck (n:=1) (by_:=8) ZaT underlying65 ye yf ye (fun _=>rfl) (fun _=>rfl) (fun _ _ y _ h _=>by
  obtain⟨a,e,_,_⟩:=DataW.trod_int underlying3 h;exact⟨a,by rw [e];unfold ZaT Dat.Vs;exact⟨rfl,trivial⟩⟩) h z
theorem raw_rfr (h:DataW.trod enc prog W 0 (fun _=>true) true fuel 106 cs=some x) (K:∀ k ∈ x.1.weights prog 106,k<=reachBytes):∃ r:Rfr,Dat.Vs W (Lt W) (ZbJ r) cs:=by
 obtain⟨n,H,F⟩:=Zbs underlying106 h K;rw [show prog.cellsOf 106=2 by kernel_rfl] at H
 match cs,H with
 | [c0,c1],_ =>
  obtain⟨I,N,M,_⟩:=F 0 _ rfl;obtain⟨U,L,_,_⟩:=F 1 _ rfl;have aa:DataW.trod enc prog W 0 (fun _=>true) true n 65 [c0]=some I:=N;have O:DataW.trod enc prog W 0 (fun _=>true) true n 3 [c1]=some U:=L;obtain⟨A,c,l,z,Z,R⟩:=raw_ints aa M;obtain⟨a,E,_,_⟩:=DataW.trod_int underlying3 O;injection z with z;injection E with E;subst z E;refine⟨⟨l,a⟩,?_⟩;simp only [ZbJ,Dat.Vs,Dat.Va,ZC];exact⟨[.slice A l c],_,rfl,⟨A,c,yb,by simpa using Z,R⟩,[.int .i64 a],[],rfl,⟨rfl,trivial⟩,rfl⟩
theorem ZjV (h:DataW.trod enc prog W 0 (fun _=>true) true fuel 110 cs=some x) (M:∀ k ∈ x.1.weights prog 110,k<=reachBytes):∃ o:Opd,Dat.Vs W (Lt W) (ZaL o) cs:=by
 obtain⟨n,H,E⟩:=Zbs underlying110 h M;rw [show prog.cellsOf 110=5 by kernel_rfl] at H
 match cs,H with
 | [c0,c1,c2,I,K],_ =>
  obtain⟨L,Z,_,_⟩:=E 0 _ rfl;obtain⟨ab,U,_,_⟩:=E 1 _ rfl;obtain⟨ac,R,_,_⟩:=E 2 _ rfl;have ae:DataW.trod enc prog W 0 (fun _=>true) true n 3 [c0]=some L:=Z;have aa:DataW.trod enc prog W 0 (fun _=>true) true n 3 [c1]=some ab:=U;have N:DataW.trod enc prog W 0 (fun _=>true) true n 108 [c2,I,K]=some ac:=R;obtain⟨a,z,_,_⟩:=DataW.trod_int underlying3 ae;obtain⟨b,F,_,_⟩:=DataW.trod_int underlying3 aa;obtain⟨v,O⟩:=ZjU N;injection z with z;injection F with F;subst z F;refine⟨⟨a,b,v⟩,?_⟩;unfold ZaL Dat.Vs Dat.Va;refine⟨[.int .i64 a],_,rfl,by unfold Dat.Vs;exact⟨rfl,trivial⟩,?_⟩;unfold Dat.Va;refine⟨[.int .i64 b],_,rfl,by unfold Dat.Vs;exact⟨rfl,trivial⟩,?_⟩;unfold Dat.Va;refine⟨[c2,I,K],[],rfl,O,?_⟩;unfold Dat.Va;rfl
theorem ZhL:∀ (z:Nat) {K:Nat} {cs:List Value} {x:DataW H × List MemPlace},SizeOf.sizeOf x.1<=z->DataW.trod enc prog W 0 (fun _=>true) true K 102 cs=some x->(∀ k ∈ x.1.weights prog 102,k<=reachBytes)->∃ A cap l,cs=[.slice A (l:List Pred).length cap]/\l.length<=cap/\PredS W (Lt W) A l
 | z,K,cs,x,aL,h,I =>
 Zck (n:=13) (by_:=136) encPred underlying102 ye yf ye ZbW ZL (fun K cs y aK h I=>by
  obtain⟨n,Z,E⟩:=Zbs underlying112 h I;rw [show prog.cellsOf 112=13 by kernel_rfl] at Z
  match cs,Z with
  | [c0,c1,c2,ab,af,ac,ae,U,N,O,aa,R,ah],_ =>
   obtain⟨aE,an,_,_⟩:=E 0 _ rfl;obtain⟨ap,aw,_,_⟩:=E 1 _ rfl;obtain⟨aH,aj,aq,_⟩:=E 2 _ rfl;obtain⟨au,az,ao,_⟩:=E 3 _ rfl;obtain⟨aD,av,am,aJ⟩:=E 4 _ rfl;have aI:DataW.trod enc prog W 0 (fun _=>true) true n 3 [c0]=some aE:=an;have aA:DataW.trod enc prog W 0 (fun _=>true) true n 3 [c1]=some ap:=aw;have ay:DataW.trod enc prog W 0 (fun _=>true) true n 110 [c2,ab,af,ac,ae]=some aH:=aj;have aB:DataW.trod enc prog W 0 (fun _=>true) true n 110 [U,N,O,aa,R]=some au:=az;have ai:DataW.trod enc prog W 0 (fun _=>true) true n 102 [ah]=some aD:=av;obtain⟨a,F,_,_⟩:=DataW.trod_int underlying3 aI;obtain⟨b,L,_,_⟩:=DataW.trod_int underlying3 aA;obtain⟨aG,aF⟩:=ZjV ay aq;obtain⟨ak,ar⟩:=ZjV aB ao;obtain⟨A,c,l,M,ax,aC⟩:=ZhL (z - 1) ya ai am;injection F with F;injection L with L;injection M with M;subst F L M;refine⟨.mk a b aG ak l,?_⟩;unfold encPred Dat.Vs Dat.Va;refine⟨[.int .i64 a],_,rfl,by unfold Dat.Vs;exact⟨rfl,trivial⟩,?_⟩;unfold Dat.Va;refine⟨[.int .i64 b],_,rfl,by unfold Dat.Vs;exact⟨rfl,trivial⟩,?_⟩;unfold Dat.Va;refine⟨[c2,ab,af,ac,ae],_,rfl,aF,?_⟩;unfold Dat.Va;refine⟨[U,N,O,aa,R],_,rfl,ar,?_⟩;unfold Dat.Va;refine⟨[.slice A l c],[],rfl,?_,?_⟩
   .unfold Dat.Vs;rw [ZbV];exact⟨A,c,yb,by simpa using ax,aC⟩
   unfold Dat.Va;rfl) h I
 termination_by z=>z
 decreasing_by omega
theorem raw_tab (h:DataW.trod enc prog W 0 (fun _=>true) true fuel 104 cs=some x) (z:∀ k ∈ x.1.weights prog 104,k<=reachBytes):∃ t:Tab,Dat.Vs W (Lt W) (ZP t) cs:=by
 obtain⟨n,ab,E⟩:=Zbs underlying104 h z;rw [show prog.cellsOf 104=5 by kernel_rfl] at ab
 match cs,ab with
 | [c0,c1,c2,ay,aH],_ =>
  obtain⟨aF,ak,_,_⟩:=E 0 _ rfl;obtain⟨ao,au,az,_⟩:=E 1 _ rfl;obtain⟨aI,ai,_,_⟩:=E 2 _ rfl;obtain⟨ap,aA,an,_⟩:=E 3 _ rfl;obtain⟨aE,aq,aj,_⟩:=E 4 _ rfl;have aJ:DataW.trod enc prog W 0 (fun _=>true) true n 9 [c0]=some aF:=ak;have aB:DataW.trod enc prog W 0 (fun _=>true) true n 100 [c1]=some ao:=au;have aw:DataW.trod enc prog W 0 (fun _=>true) true n 3 [c2]=some aI:=ai;have aC:DataW.trod enc prog W 0 (fun _=>true) true n 101 [ay]=some ap:=aA;have ah:DataW.trod enc prog W 0 (fun _=>true) true n 102 [aH]=some aE:=aq;obtain⟨t,F,_,am⟩:=DataW.trod_string underlying9 aJ;obtain⟨N,M,ae,I,ar,aD⟩:=Zck (n:=2) (by_:=24) Zbh underlying100 ye yf ye ZdF (fun _=>rfl) (fun _ _ y _ h z=>raw_col h z) aB az;obtain⟨a,H,_,_⟩:=DataW.trod_int underlying3 aw;obtain⟨ac,O,U,K,av,aG⟩:=Zck (n:=2) (by_:=32) ZbJ underlying101 ye yf ye ZdE (fun _=>rfl) (fun _ _ y _ h z=>raw_rfr h z) aC an;obtain⟨Z,R,aa,L,ax,af⟩:=ZhL _ nR ah aj;injection F with F;injection I with I;injection H with H;injection K with K;injection L with L;subst F I H K L;unfold maxLen at am;refine⟨⟨t,ae,a,U,aa⟩,?_⟩;simp only [ZP,Dat.Vs,Dat.Va,ZC,ZA];exact⟨[.string t],_,rfl,⟨rfl,ya⟩,[.slice N ae M],_,rfl,⟨N,M,yb,by simpa using ar,aD⟩,[.int .i64 a],_,rfl,⟨rfl,trivial⟩,[.slice ac U O],_,rfl,⟨ac,O,yb,by simpa using av,aG⟩,[.slice Z aa R],[],rfl,⟨Z,R,yb,by simpa using ax,af⟩,rfl⟩
theorem raw_schema {base:Nat} {v:Value} (ae:Value.okWide prog W .any base 25 v) (h:∃ L,DataW.trod enc prog W 0 (fun _=>true) true L 25 v.cells.toList=some x) (F:∀ k ∈ x.1.weights prog 25,k<=reachBytes):∃ (s:Sch) (A:Option Addr) (c:Nat),v=sAgg s.vv A s.tt c/\TabS W (Lt W) A s.tt:=by
 obtain⟨I,rfl,K⟩:=okWide_struct underlying25 ae;obtain⟨L,z⟩:=h;obtain⟨n,_,z⟩:=Zbs underlying25 z F;rw [show prog.cellsOf 25=2 by kernel_rfl] at K
 obtain⟨c0,c1,rfl⟩:∃ c0 c1,I=#[c0,c1]:=by
  obtain⟨l⟩:=I
  match l,K with
  | [c0,c1],_=>exact⟨c0,c1,rfl⟩
 obtain⟨ac,N,_,_⟩:=z 0 _ rfl;obtain⟨O,U,Z,_⟩:=z 1 _ rfl;have ah:DataW.trod enc prog W 0 (fun _=>true) true n 3 [c0]=some ac:=N;have aa:DataW.trod enc prog W 0 (fun _=>true) true n 23 [c1]=some O:=U;obtain⟨a,E,_,_⟩:=DataW.trod_int underlying3 ah;obtain⟨R,M,af,H,ai,ab⟩:=Zck (n:=5) (by_:=96) ZP underlying23 ye yf ye ZbI (fun _=>rfl) (fun _ _ y _ h F=>raw_tab h F) aa Z;injection E with E;injection H with H;subst E H;exact⟨⟨a,af⟩,R,M,rfl,ab⟩
theorem ZgQ:∀ st:St,Zi st=(st.map List.length).sum
 | []=>rfl
 | l :: r=>by simp only [Zi,qL,List.sum_cons,ZgQ r]
theorem ZiW {α:Type}:∀ l:List α,(l.map fun _=>1).sum=l.length
 | []=>rfl
 | _ :: r=>by simp only [qL,List.sum_cons,ZiW r,qK];omega
theorem raw_rows2 {z:DataW H->Nat} (N:∀ a b,(a.map z).sum<=z (.slice a b)) (O:∀ d,1<=z d) (h:DataW.trod enc prog W 0 (fun _=>true) true fuel 145 cs=some x) (E:∀ k ∈ x.1.weights prog 145,k<=reachBytes):∃ A cap l,cs=[.slice A (l:List Row).length cap]/\l.length<=cap/\RowsS W (Lt W) A l/\l.length<=z x.1:=by
 obtain⟨A,c,l,L,R,M,F⟩:=Zem (n:=1) (by_:=24) Zy (fun _=>1) N underlying145 ye yf ye (fun _=>rfl) (fun _=>rfl) (fun _ _ y _ h E=>by
  obtain⟨A,c,r,e,K,I⟩:=raw_row h E;exact⟨r,by rw [e];exact Zah K I,O _⟩) h E
 rw [ZiW] at F;exact⟨A,c,l,L,R,M,F⟩
theorem raw_lists2 {z:DataW H->Nat} (I:∀ a b,(a.map z).sum<=z (.slice a b)) (O:∀ d,1<=z d) (h:DataW.trod enc prog W 0 (fun _=>true) true fuel 26 cs=some x) (E:∀ k ∈ x.1.weights prog 26,k<=reachBytes):∃ A cap l,cs=[.slice A (l:St).length cap]/\l.length<=cap/\StS W (Lt W) A l/\Zi l<=z x.1:=by
 obtain⟨A,c,l,M,R,N,F⟩:=Zem (n:=1) (by_:=24) Zx List.length I underlying26 ye yf ye (fun _=>rfl) (fun _=>rfl) (fun _ _ y _ h E=>by
  obtain⟨A,c,r,e,L,K,U⟩:=raw_rows2 I O h E;exact⟨r,by rw [e];exact Zhv L K,U⟩) h E
 rw [<-ZgQ] at F;exact⟨A,c,l,M,R,N,F⟩
theorem raw_state2 (z:DataW H->Nat) (M:∀ a b,(a.map z).sum<=z (.slice a b)) (Z:∀ a,(a.map z).sum<=z (.agg a)) (U:∀ d,1<=z d) {base:Nat} {v:Value} (ae:Value.okWide prog W .any base 28 v) (h:∃ K,DataW.trod enc prog W 0 (fun _=>true) true K 28 v.cells.toList=some x) (aa:∀ k ∈ x.1.weights prog 28,k<=reachBytes):∃ A c l,v=ZaM A (l:St).length c/\l.length<=c/\StS W (Lt W) A l/\Zi l<=z x.1:=by
 obtain⟨F,rfl,I⟩:=okWide_struct underlying28 ae;obtain⟨K,ab⟩:=h;obtain⟨E,n,rfl,ai,N⟩:=trod_struct1 underlying28 ab;rw [show prog.cellsOf 28=1 by kernel_rfl] at I
 obtain⟨c0,rfl⟩:∃ c0,F=#[c0]:=by
  obtain⟨l⟩:=F
  match l,I with
  | [c0],_=>exact⟨c0,rfl⟩
 have ah:DataW.trod enc prog W 0 (fun _=>true) true n 26 [c0]=some E:=N
 obtain⟨A,c,l,e,af,ac,R⟩:=raw_lists2 M U ah (fun k O=>aa k (by
  simp only [DataW.weights,underlying28];show k ∈ DataW.weightsEach prog [26] [E.1];simp only [DataW.weightsEach,qH];exact .inl O))
 injection e with e;subst e;have L:=Z [E.1];simp only [qL,Qn,List.sum_cons,List.sum_nil,Nat.add_zero] at L;exact⟨A,c,l,rfl,af,ac,qD R L⟩
end
end Go.Proofs.YtjadnfodboepeaaGreat
