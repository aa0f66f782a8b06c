import Derived.Test.YtjadnfodboepeaaGreatK6a
import Derived.Laws.CopyOwn
set_option linter.all false
set_option maxRecDepth 100000
set_option maxHeartbeats 8000000
namespace Go.Proofs.YtjadnfodboepeaaGreat
open Tryz
open Go Go.RowKit
variable {w:World} {n k m i:Nat} {A:Option Addr} {S:Nat->Prop} {a:Int} {l p:List Int} {x xA xB:Value} {g:TypeId} {s:Sch} {h:ByteArray} {P:Program} {M:V} {Q:Act}
theorem run_copy_rowK (w:World) (M W ac:TypeId) (F o:Nat) (N:Nat) (a:Addr) (ab:Nat) {z:Array Value} {t:TypeId} (cs:List Value) (H:Nat)
 (aa:P.underlying M=some (.slice g)) (L:(P.info? g).map (·.size)=some n)
 (O:w.heap[F]?=some (.cells z t (0,0))) (ah:H=Nat.min m k) (af:cs.length=H*n)
 (ai:∀ j v,cs[j]?=some v->w.cell? (a.add j)=some v) (Z:o+cs.length<=z.size) (U:∀ v ∈ cs,v.oneCell'=true) :
 (Builtin.copy_ #[M,W] ac #[.slice (some ⟨F,o,none⟩) k N,.slice (some a) m ab]).run P w =
  .ok (goInt H) (w.setRow F (z.toList.take o++cs++z.toList.drop (o+cs.length)).toArray):=by
 have I:=run_loadCells_list (P:=P) w a cs ai;have R:=run_storeCells_at P F o t cs 0 z w O (by simpa using Z) U;rw [af] at I;cases E:P.info? g with
 | none=>simp [E] at L
 | some i =>
  have ae:i.size=n:=(by simpa [E] using L);simp [Builtin.copy_,run_underlying aa,Builtin.lenOf,Builtin.firstCells,sizeOf,typeInfo,E,ae,<-ah,I,R]
theorem wpList_copy_k {N:Array Oper} {rest:List Oper} {o:Oper} {a:Exit->Act->World->Prop} (U:o.guard=none) (d s:Operand) (I M:TypeId)
 (ac:o.op=.call { callee:=.builtin .copy,args:=#[d,s],argTypes:=#[I,M] })  (k:Nat) (ah:P.underlying I=some (.slice g)) (ab:(P.info? g).map (·.size)=some k)
 (E F K:Nat) (ad:Addr) (H O:Nat) (hd:Q.eval d=.slice (some ⟨E,0,none⟩) F K) (R:Q.eval s=.slice (some ad) H O)
 (z:List Value) {t:TypeId} (L:w.heap[E]?=some (.cells z.toArray t (0,0))) (cs:List Value) (m:Nat) (aj:m=Nat.min H F) (ai:cs.length=m*k)
 (ak:∀ j v,cs[j]?=some v->w.cell? (ad.add j)=some v) (ae:cs.length<=z) (Z:∀ v ∈ cs,v.oneCell'=true)
 (h:∀ w',w'.heap[E]?=some (.cells (cs++z.drop cs).toArray t (0,0))->Fr (fun b=>b=E) w w'->wpList P N a rest (Q.put o.dst (goInt m)) w'):wpList P N a (o :: rest) Q w:=by
 refine wpList_plain U fun am aa=>?_;have af:=run_copy_rowK (P:=P) w I M o.type E 0 K ad O cs m ah ab L aj ai ak (by simpa using ae) Z;unfold Oper.wp;simp only [execOp,ac,resolve,invoke,builtin,hd,R];simp [hd,R,af,Result.andThen];refine aa _ _ (h _ ?_ ?_)
 .have:=setRow_heap w E z.toArray (cs++z.drop cs).toArray t _ L;simpa using this
 exact⟨rfl,rfl,rfl,by simp [World.setRow],fun b an W=>setRow_other w E b _ W⟩
theorem Zlr {key:Int}:∀ {cs:List Col} {r:Row} {i:Nat},ZI a key i cs r=true->r.length=cs.length->∀ j,j<cs.length->Zcd a key (cs.getD j c0).kind (i+j) (r.getD j v0)=true
 | [],r,i,_,_,j,z=>by simp at z
 | c :: cs,[],i,_,h,j,_=>by simp at h
 | c :: cs,v :: r,i,E,h,j,z=>by
  simp only [ZI,qE] at E;cases j with
  | zero=>simpa using E.1
  | succ j =>
   have:=Zlr E.2 (by simpa using h) j (by simpa using z);rw [show i+1+j=i+(j+1) by omega] at this;simpa using this
theorem keyF_in (z:n<s.tt) (r:Row):keyF s n r=r.take (keyN (s.tt.getD n t0).key r):=by
 unfold keyF hasN;rw [qr yd,qu]
section
variable {w wr wx wl wp:World} {B0 gt cap g:Nat} {S:Nat->Prop} {s:Sch} {A0:Option Addr} {c0':Nat} {cur cur':St} {l:List Chg} {A A':Option Addr} {c c':Nat}
end
section
variable {wr W W':World} {g xb:Nat} {X:List Value} {A:Option Addr} {c:Nat} {r:Row}
end
theorem IsRow.belowK {k:IntKind} {w w':World} {a:Option Addr} {len cap:Nat} {E:List Int} (h:IsRow k w a len cap E) (M:Below w w w'):IsRow k w' a len cap E:=by
 rcases h with h | ⟨x,L,I,N,K,z,H⟩
 .exact .inl h
 exact .inr ⟨x,L,I,N,K,fun i F=>(ql (M.block _ (World.block_lt_of_cell? w _ (z i F)))).trans (z i F),H⟩
structure Kp (g:Nat) (w w':World):Prop where
 sz:w.heap.size<=w'
 blk:∀ b,b<w.heap.size->b≠g->w'.heap[b]?=w.heap[b]?
abbrev LtG (w:World) (g:Nat):Nat->Prop:=fun b=>b<w/\b≠g
def Bx (w:World) (g b:Nat) (vs:Array Value) (t:TypeId):Prop:=w.heap[b]?=some (.cells vs t (0,0))/\b≠g
section
variable {g:Nat} {w w':World} {A:Option Addr}
theorem Kp.below (h:Below w w w'):Kp g w w':=⟨h.size,fun b z _=>h.block b z⟩
theorem Kp.grown (h:w.grownBy w' (some g)):Kp g w w':=⟨h.size,fun b E z=>h.block b E (fun e=>by injection e with e;exact z e)⟩
theorem Kp.lt (k:Kp g w w'):∀ b,LtG w g b->LtG w' g b:=fun b z=>⟨ym k.sz z.1,z.2⟩
theorem Kp.sl {l:List Dat} (k:Kp g w w') (h:Sl w (LtG w g) A l):Sl w' (LtG w' g) A l:=qZ (qU h (fun b z=>k.blk b z.1 z.2)) k.lt
theorem Kp.tab {l:List Tab} (k:Kp g w w') (h:TabS w (LtG w g) A l):TabS w' (LtG w' g) A l:=k.sl h
theorem Kp.st {l:St} (k:Kp g w w') (h:StS w (LtG w g) A l):StS w' (LtG w' g) A l:=k.sl h
theorem Kp.row {l:Row} (k:Kp g w w') (h:RowS w (LtG w g) A l):RowS w' (LtG w' g) A l:=k.sl h
theorem Kp.bx {b:Nat} {vs:Array Value} {t:TypeId} (k:Kp g w w') (h:Bx w g b vs t):Bx w' g b vs t:=⟨(k.blk b (Zb h.1) h.2).trans h.1,h.2⟩
theorem Bx.lt {b:Nat} {vs:Array Value} {t:TypeId} (h:Bx w g b vs t):b<w:=Zb h.1
theorem Bx.at_ {b:Nat} {vs:Array Value} {t:TypeId} (h:Bx w g b vs t) (j:Nat) (u:Value) (z:vs.toList[j]?=some u):w.cell? ⟨b,j,none⟩=some u:=by
 have:=Za h.1 j u z;rwa [qx] at this
end
def Zfs (n:Nat):List Value:=List.replicate n (bv 0)
theorem ZeO (m:Nat) (O:m<=n) (L:n<=100000000) (w:World) :
 (Instr.makeSlice 22 (.int .i64 (m:Int)) (.int .i64 (n:Int))).run prog w=.ok (.slice (some ⟨w,0,none⟩) m n) (w.alloc (.cells (Zfs n).toArray 5)):=by
 obtain⟨z,K,H,I,E⟩:=qA ZcN;have F:=run_make (P:=prog) w 22 5 z _ underlying22 K H .i64 .i64 m n ya ya (by rw [E];omega) ya;rw [F,I];simp only [qu]
 congr 3
 apply Array.ext
 .simp [size_madeCells,Zfs]
 intro i N M;simp [madeCells,Zfs,Value.cells,Nat.mod_one]
theorem grown_any {more:Nat} (H:BY w m (some ⟨n,0,none⟩) k l) (af:m<=w) (ai:l.length<=1000) (O:0<l.length) (aj:more<=100000) :
 Calls prog 235 #[.slice (some ⟨n,0,none⟩) l.length k,.int .i64 (more:Int)] w (PutP w l w):=by
 replace H:=hI H
 have U:∀ w:World,(Instr.makeSlice 22 (.int .i64 (l:Int)) (.int .i64 ((l:Int)+(more:Int)))).run prog w=.ok (.slice (some ⟨w,0,none⟩) l.length (l.length+more)) (w.alloc (.cells (Zfs (l.length+more)).toArray 5)):=fun w=>by
  have L:=ZeO l (n:=l.length+more) ya ya w;rw [Int.natCast_add] at L;exact L
 go_enter func235,ntmps235;go_upto_region 2 with fail
 clear U;obtain⟨N,I,z,R⟩:=al w (.cells (Zfs (l.length+more)).toArray 5);have z:=z.out;have W:=hI (H.below z);replace z:=hI z;rw [I];clear I
 have ab:∀ j v,(l.map bv)[j]?=some v->N.cell? ((⟨n,0,none⟩:Addr).add j)=some v:=fun j v F=>by
  obtain⟨ah,e,_,_,aa⟩:=Zad W O;injection e with e;injection e with e;subst e;have:=aa j v F;rw [add_none];simpa using this
 go_wp2_with (refine wpList_copy_k (o:=⟨some 15,_,_,_,_,_⟩) rfl (.tmp 13) (.tmp 14) 22 22 rfl 1 underlying22 ye w.heap.size l.length (l.length+more) ⟨n,0,none⟩ l.length k rfl rfl (Zfs (l.length+more)) R (l.map bv) l.length yb yb ab (by simp [Zfs]) (fun v F=>by obtain⟨c,_,rfl⟩:=qO.1 F;rfl) ?_;intro ac K M;have Z:=hI K;have E:=hI M;clear K M)
 go_ret;refine⟨some ⟨w,0,none⟩,l.length+more,rfl,⟨yb,.inr ⟨w.heap.size,l.length+more,_,rfl,qp _,Z,ya,yh,by simp [Zfs],yb⟩⟩,z.trans ?_⟩;exact⟨E.os,E.tape,E.output,E.size,fun b ae=>E.block b (yl z.size) ya⟩
theorem BY.low {w:World} {base base' c:Nat} {A:Option Addr} {bs:List Int} (h:BY w base A c bs) (K:base'<=base):BY w base' A c bs:=by
 refine⟨h.1,?_⟩;rcases h.2 with F | ⟨g,cap,z,E,I,H⟩
 .exact .inl F
 exact .inr ⟨g,cap,z,E,ya,H⟩
def rowB (r:Row):List Int:=lebF r.length++r.flatMap valB
theorem ZiT (t:ByteArray):(t=⟨#[]⟩)=(t.toList=[]):=by
 apply propext;constructor
 .rintro rfl;rw [ByteArray.toList_eq]
 intro h;cases t
 rw [ByteArray.toList_eq] at h;simpa using h
theorem Zbr (h:Zp M=true):M.t.size<=64:=by
 have z:∀ t:ByteArray,t.toList.isEmpty=true->t.size=0:=fun t H=>by
  have E:t.toList=[]:=List.isEmpty_iff.1 H;have F:=(ZiT t).mpr E;rw [F];rfl
 unfold Zp at h;split at h
 .simp only [qE] at h;rw [z _ h.2];omega
 split at h
 .simp only [qE] at h;rw [z _ h.2];omega
 split at h
 .rw [z _ h];omega
 split at h
 .simp only [qE,qT] at h;omega
 cases h
theorem ZfT {r:Row} (h:n<r):(r.take (n+1)).flatMap valB=(r.take n).flatMap valB++valB (r.getD n v0):=by
 have e:r.getD n v0=r[n]:=gD h;rw [qj h,List.flatMap_append,e];simp
theorem ZdZ {r:Row} (F:∀ v ∈ r,Zp v=true):∀ k,((r.take k).flatMap valB).length<=k*75:=by
 intro k;induction k with
 | zero=>simp
 | succ k E =>
  rcases qv k r.length with z | z
  .rw [ZfT z,qi];have e:r.getD k v0=r[k]:=gD z;have:=valB_len (M:=r.getD k v0) (Zbr (F _ (by rw [e];exact qJ z)));omega
  rw [qs ya];rw [qs ya] at E;omega
def RowP (T:List Int) (w:World) (e:Ending) (w':World):Prop:=∃ A c,e=.returned (.tuple #[.slice A T c,.int .i64 0])/\BY w' w A c T/\Below w w w'
theorem appendRow_any {key:Row} (ay:BY w m (some ⟨n,0,none⟩) k l) (bc:m<=w) (aX:l.length<=1000) (aM:0<l.length)
 (ah:RowS w S A key) (aF:∀ b,S b->b<w) (ax:∀ v ∈ key,Zp v=true) (bb:key.length<=12) :
 Calls prog 203 #[.slice (some ⟨n,0,none⟩) l.length k,.slice A key i] w (RowP (l++rowB key) w):=by
 replace ay:=hI ay;replace ah:=hI ah;have aG:=hI ax;have aT:=hI (ZdZ ax);have:decide ((12:Int)<(key:Int))=false:=qe ya;clear ax;go_enter func203,ntmps203
 go_wp2
 go_loopw [6,17] (fun base c wr=>∃ aS q:Nat,aS<=key/\base=.int .i64 (q:Int)/\q<=1+aS*80/\c=.int .i64 aS/\Below w w wr) (fun _ c _=>key.length - (intOf c).toNat)
 case atStart=>exact⟨0,1,qk _,rfl,ya,rfl,qa _ _⟩
 obtain⟨aS,q,aN,rfl,be,rfl,aq⟩:=hrel;have U:=hI aq;have ai:=aq.size;clear aq
 by_cases I:aS<key
 .have aP:(0:Int)<=(aS:Int):=ya;have aL:(aS:Int)<key:=ya;have M:=aG (key.getD aS v0) (by have e:key.getD aS v0=key[aS]:=gD I;rw [e];exact qJ I);obtain⟨aJ,aU,rfl,ab,c1,c2,O⟩:=(ah.keep (qS U aF)).at_ I;have R:=Zbr M;replace M:=hI M;generalize key.getD aS v0=x at c1 c2 O M R;obtain⟨L,K,E⟩:=x;simp only at c1 c2 O R;go_upto_region 7 with fail
  obtain⟨z,N,F,H⟩:=al wr (.cells #[.int .i64 L,.int .i64 K,.string E] 108);have F:=F.out;have aQ:z.heap.size<=wr+1/\wr.heap.size+1<=z:=(by rw [<-N];simp);have an:yr z wr 0 (.int .i64 L):=Za H 0 _ rfl;have az:yr z wr 1 (.int .i64 K):=Za H 1 _ rfl;have am:yr z wr 2 (.string E):=Za H 2 _ rfl;have aa:=hI (U.trans (F.mono ai));rw [N];clear N F c1 c2 O U
  go_wp2_with fail
  refine(ZdL ⟨L,K,E⟩ (by show E.size<=_;omega)).mono ?_;rintro e w2 ⟨rfl,W⟩;rw [M];have:yr w2 wr 2 (.string E):=c9J W am;have af:=hI (aa.trans (W.mono ya));clear W an az am aa H
  go_wp2
  go_roundw
  case rel=>exact⟨aS+1,q+(11+E.size),ya,by go_num,ya,by go_num,af⟩
  (simp [intOf];omega)
 have ar:aS=key.length:=ya;have ak:=hI (BY.below ay (U.mono nR))
 go_wp2_with fail
 refine(grown_any ak ya aX aM ya).mono ?_;rintro e aI ⟨aO,c1,rfl,aB,ab⟩;have ak:=hI (aB.low ai);have aa:=hI (U.trans (ab.mono ai));have aW:=ab.size;clear aB ab U
 go_wp2_with fail
 refine(ZbC ya ak ya ya).mono ?_;rintro e w2 ⟨aZ,c2,rfl,aj,W⟩;replace aj:=hI aj;have af:=hI (aa.trans W);have bf:=Zz (n:=key) ya;clear W aa ak
 go_wp2
 go_loopw [9,40] (fun o c wr=>∃ (aS:Nat) (A:Option Addr) (k:Nat) (T:List Int),aS<=key/\o=.slice A T k/\c=.int .i64 aS/\T=l++lebF key.length++(key.take aS).flatMap valB/\BY wr w A k T/\Below w w wr) (fun _ c _=>key.length - (intOf c).toNat)
 case atStart=>exact⟨0,aZ,c2,l++lebF key,qk _,yb,rfl,yb,aj,af⟩
 clear aj af aW ai;obtain⟨aS,aw,O,T,aN,rfl,rfl,Z,ac,aA⟩:=hrel;replace ac:=hI ac;have ae:=hI aA;have aK:=aA.size;have:T.length<=3000:=(by rw [Z,qi,qi];have:=aT aS;omega);replace Z:=hI Z;clear aA
 by_cases I:aS<key
 .have aP:(0:Int)<=(aS:Int):=ya;have aL:(aS:Int)<key:=ya;have M:=aG (key.getD aS v0) (by have e:key.getD aS v0=key[aS]:=gD I;rw [e];exact qJ I);obtain⟨aJ,aU,rfl,ab,au,ao,ap⟩:=(ah.keep (qS ae aF)).at_ I;have R:=Zbr M;have aD:=hI (show l++lebF key.length++(key.take (aS+1)).flatMap valB=T++valB (key.getD aS v0) by rw [ZfT I,Z];simp);clear M;generalize key.getD aS v0=x at au ao ap aD R;obtain⟨L,K,E⟩:=x;simp only at au ao ap R;go_upto_region 15 with fail
  obtain⟨z,N,F,H⟩:=al wr (.cells #[.int .i64 L,.int .i64 K,.string E] 108);have F:=F.out;have aQ:z.heap.size<=wr+1/\wr.heap.size+1<=z:=(by rw [<-N];simp);have an:yr z wr 0 (.int .i64 L):=Za H 0 _ rfl;have az:yr z wr 1 (.int .i64 K):=Za H 1 _ rfl;have am:yr z wr 2 (.string E):=Za H 2 _ rfl;have aE:=hI (ac.below F);have aH:=hI (ae.trans (F.mono aK));rw [N];clear N F au ao ap ae ac
  go_wp2_with fail
  refine(ZeT ⟨L,K,E⟩ aE ya ya R).mono ?_;rintro e bg ⟨aR,aY,rfl,av,aC⟩;replace av:=hI av;have aV:=hI (aH.trans aC);clear aC aE aH an az am H
  go_wp2
  go_roundw
  case rel=>exact⟨aS+1,aR,aY,T++valB ⟨L,K,E⟩,ya,yb,by go_num,aD.symm,av,aV⟩
  (simp [intOf];omega)
 have ar:aS=key.length:=ya;have ba:=hI (show l++rowB key=T by rw [Z,ar,qM];unfold rowB;rw [qB]);clear ar
 go_wp2_with fail
 rw [ba];exact qw (v:=.tuple #[.slice aw T O,.int .i64 0]) (by simp [results,results203,go_sem]) rfl ⟨aw,O,rfl,ac,ae⟩
theorem wpList_copy_nil {z:Array Oper} {rest:List Oper} {o:Oper} {a:Exit->Act->World->Prop} (F:o.guard=none) (d s:Operand)
 (H:o.op=.call { callee:=.builtin .copy,args:=#[d,s],argTypes:=#[22,22] })
 (g m:Nat) (hd:Q.eval d=.slice (some ⟨g,0,none⟩) 0 m) (E:Q.eval s=.slice none 0 0)
 (h:wpList prog z a rest (Q.put o.dst (goInt 0)) w):wpList prog z a (o :: rest) Q w:=by
 obtain⟨O,M,U,L,N⟩:=qA ZcN;refine wpList_plain F fun R K=>?_
 have I:(Builtin.copy_ #[22,22] o.type #[.slice (some ⟨g,0,none⟩) 0 m,.slice none 0 0]).run prog w=.ok (goInt 0) w:=by
  simp [Builtin.copy_,run_underlying underlying22,Builtin.lenOf,Builtin.firstCells,sizeOf,typeInfo,M,L,storeCells,loadCells,loadCellsFrom]
 unfold Oper.wp;simp only [execOp,H,resolve,invoke,builtin,hd,E];simp [hd,E,I,Result.andThen];exact K _ _ h
theorem ZfN {more:Nat} (z:more<=100000000) :
 Calls prog 235 #[.slice none 0 0,.int .i64 (more:Int)] w (PutP w [] w):=by
 have E:∀ w:World,(Instr.makeSlice 22 (.int .i64 0) (.int .i64 (more:Int))).run prog w=.ok (.slice (some ⟨w,0,none⟩) 0 more) (w.alloc (.cells (Zfs more).toArray 5)):=fun w=>ZeO 0 ya z w;go_enter func235,ntmps235;go_upto_region 2 with fail
 clear E
 go_wp2_with (refine wpList_copy_nil (o:=⟨some 15,_,_,_,_,_⟩) rfl (.tmp 13) (.tmp 14) rfl w.heap.size more rfl rfl ?_)
 go_ret;exact⟨some ⟨w,0,none⟩,more,rfl,⟨rfl,.inr ⟨w.heap.size,more,_,rfl,qp _,qb w _,qk _,yh,by simp [Zfs],rfl⟩⟩,(qa _ w).alloc nR _⟩
theorem appUint_any (n:Nat) (w:World) (N:n<18446744073709551616) :
 Calls prog 227 #[.slice none 0 0,.int .u64 (n:Int)] w (PutP w (lebF n) w):=by
 go_enter func227,ntmps227
 go_wp2_with fail
 refine(ZfN (more:=10) (w:=w) ya).mono ?_;rintro e K ⟨L,c1,rfl,E,F⟩;replace E:=hI E;have O:=hI F;have R:=F.size;clear F
 go_wp2_with fail
 refine(ZbC (n:=w) (A:=L) (k:=c1) (l:=[]) (m:=n) (w:=K) N E R yb).mono ?_;rintro e w2 ⟨M,c2,rfl,z,H⟩;rw [qP] at z;replace z:=hI z;have I:=hI (O.trans H);clear H
 go_wp2
 go_ret;exact⟨M,c2,yb,z,I⟩
theorem Zgl (t:ByteArray) (w:World) (Z:t.size<=10000000) :
 Calls prog 198 #[.slice none 0 0,.string t] w (PutP w (lebF t.size++txtB t) w):=by
 have R:(10:Int)+(t.size:Int)=((10+t.size:Nat):Int):=ya;obtain⟨M,O⟩:=yp (10+t.size);rw [O] at R;go_enter func198,ntmps198
 go_wp2_with fail
 refine(ZfN ya).mono ?_;rintro e K ⟨L,c1,rfl,E,F⟩;replace E:=hI E;have U:=hI F;have W:=F.size;clear F
 go_wp2_with fail
 refine(ZfF E W yb ya).mono ?_;rintro e w2 ⟨N,c2,rfl,z,H⟩;rw [qP] at z;replace z:=hI z;have I:=hI (U.trans H);clear H
 go_wp2
 go_ret;exact⟨N,c2,yb,z,I⟩
theorem appRow_nil {key:Row}  
 (ai:RowS w S A key) (aE:∀ b,S b->b<w) (aw:∀ v ∈ key,Zp v=true) (aY:key.length<=12) :
 Calls prog 203 #[.slice none 0 0,.slice A key n] w (RowP (rowB key) w):=by
 replace ai:=hI ai;have aF:=hI aw;have aS:=hI (ZdZ aw);have:decide ((12:Int)<(key:Int))=false:=qe ya;clear aw;go_enter func203,ntmps203
 go_wp2
 go_loopw [6,17] (fun m i wr=>∃ k q:Nat,k<=key/\m=.int .i64 (q:Int)/\q<=1+k*80/\i=.int .i64 k/\Below w w wr) (fun _ i _=>key.length - (intOf i).toNat)
 case atStart=>exact⟨0,1,qk _,rfl,ya,rfl,qa _ _⟩
 obtain⟨k,q,aL,rfl,aZ,rfl,ap⟩:=hrel;have aa:=hI ap;have aj:=ap.size;clear ap
 by_cases I:k<key
 .have aN:(0:Int)<=(k:Int):=ya;have aK:(k:Int)<key:=ya;have M:=aF (key.getD k v0) (by have e:key.getD k v0=key[k]:=gD I;rw [e];exact qJ I);obtain⟨aI,aR,rfl,ac,c1,c2,O⟩:=(ai.keep (qS aa aE)).at_ I;have R:=Zbr M;replace M:=hI M;generalize key.getD k v0=x at c1 c2 O M R;obtain⟨L,K,E⟩:=x;simp only at c1 c2 O R;go_upto_region 7 with fail
  obtain⟨z,N,F,H⟩:=al wr (.cells #[.int .i64 L,.int .i64 K,.string E] 108);have F:=F.out;have aO:z.heap.size<=wr+1/\wr.heap.size+1<=z:=(by rw [<-N];simp);have am:yr z wr 0 (.int .i64 L):=Za H 0 _ rfl;have ax:yr z wr 1 (.int .i64 K):=Za H 1 _ rfl;have ak:yr z wr 2 (.string E):=Za H 2 _ rfl;have ab:=hI (aa.trans (F.mono aj));rw [N];clear N F c1 c2 O aa
  go_wp2_with fail
  refine(ZdL ⟨L,K,E⟩ (by show E.size<=_;omega)).mono ?_;rintro e w2 ⟨rfl,U⟩;rw [M];have:yr w2 wr 2 (.string E):=c9J U ak;have ah:=hI (ab.trans (U.mono ya));clear U am ax ak ab H
  go_wp2
  go_roundw
  case rel=>exact⟨k+1,q+(11+E.size),ya,by go_num,ya,by go_num,ah⟩
  (simp [intOf];omega)
 have aq:k=key.length:=by omega
 go_wp2_with fail
 refine(ZfN ya).mono ?_;rintro e aH ⟨aM,c1,rfl,az,ac⟩;have aB:=hI (az.low aj);have ab:=hI (aa.trans (ac.mono aj));have aU:=ac.size;clear az ac aa
 go_wp2_with fail
 refine(ZbC ya aB ya yb).mono ?_;rintro e w2 ⟨aW,c2,rfl,Z,U⟩;rw [qP] at Z;replace Z:=hI Z;have ah:=hI (ab.trans U);have ba:=Zz (n:=key) ya;clear U ab aB
 go_wp2
 go_loopw [9,40] (fun o i wr=>∃ (k:Nat) (A:Option Addr) (c:Nat) (T:List Int),k<=key/\o=.slice A T c/\i=.int .i64 k/\T=lebF key.length++(key.take k).flatMap valB/\BY wr w A c T/\Below w w wr) (fun _ i _=>key.length - (intOf i).toNat)
 case atStart=>exact⟨0,aW,c2,lebF key,qk _,yb,rfl,yb,Z,ah⟩
 clear Z ah aU aj;obtain⟨k,av,O,T,aL,rfl,rfl,W,ae,ay⟩:=hrel;replace ae:=hI ae;have af:=hI ay;have aJ:=ay.size;have:T.length<=3000:=(by rw [W,qi];have:=aS k;omega);replace W:=hI W;clear ay
 by_cases I:k<key
 .have aN:(0:Int)<=(k:Int):=ya;have aK:(k:Int)<key:=ya;have M:=aF (key.getD k v0) (by have e:key.getD k v0=key[k]:=gD I;rw [e];exact qJ I);obtain⟨aI,aR,rfl,ac,ar,an,ao⟩:=(ai.keep (qS af aE)).at_ I;have R:=Zbr M;have aC:=hI (show lebF key.length++(key.take (k+1)).flatMap valB=T++valB (key.getD k v0) by rw [ZfT I,W];simp);clear M;generalize key.getD k v0=x at ar an ao aC R;obtain⟨L,K,E⟩:=x;simp only at ar an ao R;go_upto_region 15 with fail
  obtain⟨z,N,F,H⟩:=al wr (.cells #[.int .i64 L,.int .i64 K,.string E] 108);have F:=F.out;have aO:z.heap.size<=wr+1/\wr.heap.size+1<=z:=(by rw [<-N];simp);have am:yr z wr 0 (.int .i64 L):=Za H 0 _ rfl;have ax:yr z wr 1 (.int .i64 K):=Za H 1 _ rfl;have ak:yr z wr 2 (.string E):=Za H 2 _ rfl;have aD:=hI (ae.below F);have aG:=hI (af.trans (F.mono aJ));rw [N];clear N F ar an ao af ae
  go_wp2_with fail
  refine(ZeT ⟨L,K,E⟩ aD ya ya R).mono ?_;rintro e bb ⟨aP,aV,rfl,au,aA⟩;replace au:=hI au;have aT:=hI (aG.trans aA);clear aA aD aG am ax ak H
  go_wp2
  go_roundw
  case rel=>exact⟨k+1,aP,aV,T++valB ⟨L,K,E⟩,ya,yb,by go_num,aC.symm,au,aT⟩
  (simp [intOf];omega)
 have aq:k=key.length:=ya;have aX:=hI (show rowB key=T by rw [W,aq,qM];rfl);clear aq
 go_wp2_with fail
 rw [aX];exact qw (v:=.tuple #[.slice av T O,.int .i64 0]) (by simp [results,results203,go_sem]) rfl ⟨av,O,rfl,ae,af⟩
theorem cod_or128:∀ m:Fin 256,bits .or .u8 ((m.1:Nat):Int) 128=((m.1 % 128+128:Nat):Int):=by decide
theorem leb_more (n:Nat):bits .or .u8 ((n:Int) % 256) 128=((n % 128+128:Nat):Int):=by
 have z:=cod_or128 ⟨n % 256,ya⟩;simp only at z;have e:((n % 256:Nat):Int)=(n:Int) % 256:=ya;rw [<-e,z]
 congr 2
 omega
theorem ZdV (n:Nat):(n<128/\lebF n=[(n:Int)])\/(128<=n/\lebF n=((n % 128+128:Nat):Int) :: lebF (n / 128)):=by
 rw [lebF]
 by_cases h:n<128
 .exact .inl ⟨h,by rw [qr h]⟩
 exact .inr ⟨ya,by rw [qo h,leb_more]⟩
theorem ZdB (n:Nat):0<(lebF n).length:=by rcases ZdV n with ⟨_,h⟩ | ⟨_,h⟩<;>rw [h]<;>simp
theorem Zkn (E:n<18446744073709551616) (z:k<=9):n % 128 ^ k+(n / 128 ^ k % 128)*128 ^ k=n % 128 ^ (k+1):=by
 rw [Nat.pow_succ,Nat.mod_mul,Nat.mul_comm]
theorem leb_next (n i:Nat):n / 128 ^ i / 128=n / 128 ^ (i+1):=by rw [Nat.div_div_eq_div_mul,Nat.pow_succ]
theorem leb_last (h:n / 128 ^ k<128):n % 128 ^ (k+1)=n:=by
 refine Nat.mod_eq_of_lt ?_;rw [Nat.pow_succ];have:=Nat.div_lt_iff_lt_mul (show 0<128 ^ k from Nat.pow_pos ya) |>.1 h;rw [Nat.mul_comm];exact this
theorem ZjZ (i:Nat):128 ^ i=2 ^ (7*i):=by rw [Nat.pow_mul]
theorem leb_or (I:n<18446744073709551616) (H:k<=9):bits .or .u64 ((n % 128 ^ k:Nat):Int) (((n / 128 ^ k % 128)*128 ^ k:Nat):Int)=((n % 128 ^ (k+1):Nat):Int):=by
 have F:n % 128 ^ k<128 ^ k:=Nat.mod_lt _ (Nat.pow_pos ya);have z:=Zkn I H;have:n % 128 ^ (k+1)<=n:=Nat.mod_le _ _;rw [u64_or_nat _ _ ya ya,<-z]
 congr 1
 have E:n % 128 ^ k ||| (n / 128 ^ k % 128)*128 ^ k=(n / 128 ^ k % 128)*128 ^ k+n % 128 ^ k:=by
  rw [Nat.or_comm,ZjZ,Nat.mul_comm,Nat.two_pow_add_eq_or_of_lt (by rw [<-ZjZ];exact F)]
 rw [E,Nat.add_comm]
theorem zag_zig (U:-9223372036854775808<=a) (R:a<9223372036854775808):zigF a=(if 0<=a then (2*a).toNat else (-2*a - 1).toNat):=by
 unfold zigF zigI;have K:∀ n b:Nat,n<18446744073709551616->b<18446744073709551616->bits .xor .u64 (n:Int) (b:Int)=((n ^^^ b:Nat):Int):=fun n b M O=>u64_xor_nat n b M O
 by_cases h:0<=a
 .rw [qr h];have z:a / 9223372036854775808=0:=ya;have F:IntKind.u64.wrap (a / 9223372036854775808)=((0:Nat):Int):=(by rw [z];rfl)
  have E:IntKind.u64.wrap (wrap64 (a*2))=(((2*a).toNat:Nat):Int):=by
   rw [IntKind.wrap_u64];unfold wrap64;omega
  rw [F,E,K _ _ ya ya,Nat.xor_zero];exact qu _
 rw [qo h];have z:a / 9223372036854775808=-1:=ya;have F:IntKind.u64.wrap (a / 9223372036854775808)=((18446744073709551615:Nat):Int):=(by rw [z,IntKind.wrap_u64];rfl)
 have E:IntKind.u64.wrap (wrap64 (a*2))=(((18446744073709551616+2*a).toNat:Nat):Int):=by
  rw [IntKind.wrap_u64];unfold wrap64;omega
 rw [F,E,K _ _ ya ya]
 have N:(18446744073709551616+2*a).toNat ^^^ 18446744073709551615=18446744073709551615 - (18446744073709551616+2*a).toNat:=by
  have H:(18446744073709551616+2*a).toNat<2 ^ 64:=ya;generalize (18446744073709551616+2*a).toNat=m at H;have I:=BitVec.toNat_not (x:=BitVec.ofNat 64 m);have L:(~~~ (BitVec.ofNat 64 m))=BitVec.ofNat 64 m ^^^ BitVec.allOnes 64:=(by rw [BitVec.xor_allOnes]);rw [L,BitVec.toNat_xor,BitVec.toNat_ofNat,Nat.mod_eq_of_lt H,BitVec.toNat_allOnes] at I;exact I
 rw [N];omega
theorem ZhS {rest:List Int} (h:l.drop n=lebF k++rest):∃ b:Nat,l[n]?=some (b:Int)/\n<l/\b<256/\((k<128/\b=k/\l.drop (n+1)=rest)\/(128<=k/\b=k % 128+128/\l.drop (n+1)=lebF (k / 128)++rest)):=by
 have z:n<l:=by
  rcases qv n l.length with z | z
  .exact z
  rw [Qu z] at h;have:=ZdB k;have E:=congrArg List.length h;simp at E;omega
 rw [qq z] at h;rcases ZdV k with ⟨F,e⟩ | ⟨F,e⟩
 .rw [e,List.singleton_append] at h;injection h with H E;exact⟨k,by rw [List.getElem?_eq_getElem z,H],z,ya,.inl ⟨F,rfl,E⟩⟩
 rw [e,List.cons_append] at h;injection h with H E;exact⟨k % 128+128,by rw [List.getElem?_eq_getElem z,H],z,ya,.inr ⟨F,rfl,E⟩⟩
theorem Zjk {rest:List Int} (h:l.drop n=lebF k++rest):l.drop (n+(lebF k).length)=rest/\n+(lebF k).length<=l:=by
 have z:=congrArg List.length h;rw [List.length_drop,qi] at z;have:=ZdB k;refine⟨?_,ya⟩;rw [<-List.drop_drop,h,List.drop_left]
def encB (n:Int):Dat:=.lit (bv n)
abbrev BtS (w:World) (S:Nat->Prop) (A:Option Addr) (bs:List Int):Prop:=Sl w S A (bs.map encB)
section
variable {w w':World} {S S':Nat->Prop} {A:Option Addr} {bs:List Int}
theorem BtS.len (h:BtS w S A bs):bs.length<=17592186044416:=by
 have:=h.1;rw [Ze (n:=8) (fun _=>rfl)] at this;omega
theorem BtS.at_ (h:BtS w S A bs) {k:Nat} (E:k<bs):∃ b o,A=some ⟨b,o,none⟩/\S b/\w.cell? ⟨b,o+k,none⟩=some (bv (bs.getD k 0)):=by
 obtain⟨b,o,e,F,H⟩:=h.2 (by rw [qg];omega);refine⟨b,o,e,F,?_⟩;have z:=Zbu (n:=1) (fun d hd=>by obtain⟨v,_,rfl⟩:=qO.1 hd;rfl) H k (by rw [qg];exact E);rw [List.getElem_map] at z;have I:bs.getD k 0=bs[k]:=gD E;rw [I];unfold encB Dat.Held at z;simpa using z.1
theorem BtS.nil_:BtS w S A []:=⟨by simp [Dat.bytesAll],fun h=>by simp at h⟩
end
theorem Zd {cs:Array Value} (h:w.heap[n]?=some (.cells cs g (0,0))) :w.frozen? ⟨n,k,none⟩=false:=by simp [World.frozen?,h]
def DecB (w:World) (d:Nat) (A:Option Addr) (n c:Nat) (k:Nat):Prop:=w.heap[d]?=some (.cells #[.slice A n c,.int .i64 (k:Int)] 325 (0,0))
section
variable {w w':World} {d n c k:Nat} {A:Option Addr}
theorem DecB.c0 (h:DecB w d A n c k):yr w d 0 (.slice A n c):=Za h 0 _ rfl
theorem DecB.c1 (h:DecB w d A n c k):yr w d 1 (.int .i64 (k:Int)):=Za h 1 _ rfl
theorem DecB.lt (h:DecB w d A n c k):d<w:=Zb h
end
theorem Zgi (z:m<=n) :
 Calls prog 252 #[.slice A n k,.int .i64 (m:Int)] w fun e w'=>e=.returned (.pointer (some ⟨w,0,none⟩))/\DecB w' w A n k m/\Below w w w':=by
 have:decide ((m:Int)<0)=false:=qe ya;go_enter func252,ntmps252
 go_wp2
 go_ret;exact⟨rfl,qb w _,(qa _ w).alloc nR _⟩
def DecN (d:Nat) (A:Option Addr) (n c k:Nat) (v:Value) (w:World) (e:Ending) (w':World):Prop:=e=.returned v/\DecB w' d A n c k/\Fr (fun b=>b=d) w w'
theorem DecB.step {w:World} {d n c k:Nat} {A:Option Addr} (h:DecB w d A n c k) {q:Nat} {x:Int} {k':Nat} (z:x=(k':Int)):DecB ((w.drewN q).setCell ⟨d,1,none⟩ (.int .i64 x)) d A n c k'/\Fr (fun b=>b=d) w ((w.drewN q).setCell ⟨d,1,none⟩ (.int .i64 x)):=by
 subst z;refine⟨?_,((Qa _ w).drewN q).setCell _ (fun _=>rfl)⟩;exact Zc (vs:=[.slice A n c,.int .i64 (k:Int)]) (w:=w.drewN q) h
theorem next_any (d:Nat) (A:Option Addr) (bs:List Int) (c k:Nat) (x:Int) (S:Nat->Prop) (w:World) (hd:DecB w d A bs c k) (E:BtS w S A bs) (z:bs[k]?=some x) :
 Calls prog 268 #[.pointer (some ⟨d,0,none⟩)] w (DecN d A bs c (k+1) (bv x) w):=by
 have L:=E.len;have H:=(qR.1 z).1;obtain⟨b,o,rfl,_,cb⟩:=E.at_ H;rw [show bs.getD k 0=x by simp [List.getD,z]] at cb;have K:=hI hd;have c0:=hd.c0;have c1:=hd.c1;have:w.frozen? ⟨d,1,none⟩=false:=Zd hd;have:(0:Int)<=(k:Int):=ya;have:(k:Int)<(bs:Int):=ya;have:((k:Int) == (bs:Int))=false:=yd;clear hd E z;go_enter func268,ntmps268
 go_wp2
 go_quiet (fail)
 go_wp2
 go_quiet (fail)
 go_wp2
 go_ret;obtain⟨I,F⟩:=K.step (q:=_) (x:=(k:Int)+1) (k':=k+1) ya;exact⟨rfl,I,F⟩
theorem Fr.bts {w w':World} {X S:Nat->Prop} {A:Option Addr} {bs:List Int} (h:Fr X w w') (z:BtS w S A bs) (E:∀ b,S b->b<w/\¬ X b):BtS w' S A bs:=qU z (h.same E)
theorem cod_and127:∀ m:Fin 256,bits .and .u8 ((m.1:Nat):Int) 127=((m.1 % 128:Nat):Int):=by decide
theorem leb_put (F:n<18446744073709551616) (z:k<=9) (L:m<256) (K:i=n % 128 ^ k) (N:m % 128=n / 128 ^ k % 128) :
 bits .or .u64 (i:Int) (IntKind.u64.wrap (IntKind.u64.wrap (bits .and .u8 (m:Int) 127)*2 ^ (7*k)))=((n % 128 ^ (k+1):Nat):Int):=by
 have E:=cod_and127 ⟨m,L⟩;simp only at E;rw [E,N,IntKind.wrap_u64,IntKind.wrap_u64];have I:(((n / 128 ^ k % 128:Nat):Int) % 18446744073709551616)=((n / 128 ^ k % 128:Nat):Int):=ya;rw [I];have M:((n / 128 ^ k % 128:Nat):Int)*2 ^ (7*k)=(((n / 128 ^ k % 128)*128 ^ k:Nat):Int):=(by rw [ZjZ];push_cast;rfl);rw [M];have O:=Zkn (n:=n) (k:=k) F z;have:n % 128 ^ (k+1)<=n:=Nat.mod_le _ _;have H:((((n / 128 ^ k % 128)*128 ^ k:Nat):Int) % 18446744073709551616)=(((n / 128 ^ k % 128)*128 ^ k:Nat):Int):=ya;rw [H,K];exact leb_or F z
theorem Zfh (c:Nat) (rest:List Int) (hd:DecB w n A l k m) (ab:BtS w S A l) (aw:∀ b,S b->b<w/\b≠n) (au:c<18446744073709551616) (Z:l.drop m=lebF c++rest) :
 Calls prog 255 #[.pointer (some ⟨n,0,none⟩)] w (DecN n A l k (m+(lebF c).length) (.int .u64 (c:Int)) w):=by
 replace hd:=hI hd;replace ab:=hI ab;replace Z:=hI Z;go_enter func255,ntmps255
 go_wp2
 go_loopw [3,6] (fun s i wr=>∃ q k' a:Nat,q<=9/\a=c % 128 ^ q/\s=.int .u64 (a:Int)/\i=.int .i64 (q:Int)/\(0<q->0<c / 128 ^ q)/\k'+(lebF (c / 128 ^ q)).length=m+(lebF c).length/\l.drop k'=lebF (c / 128 ^ q)++rest/\DecB wr n A l k k'/\Fr (fun b=>b=n) w wr) (fun _ i _=>10 - (intOf i).toNat)
 case atStart=>exact⟨0,m,0,ya,by simp [Nat.mod_one],rfl,rfl,fun h=>ya,yb,by simpa using Z.out,hd,Qa _ _⟩
 obtain⟨q,k',a,K,ai,rfl,rfl,R,z,E,U,O⟩:=hrel;replace U:=hI U;have ao:=hI O;obtain⟨x,ar,aB,av,M⟩:=ZhS E;have ax:=hI (O.bts ab aw);have:decide ((q:Int)<10)=true:=qt ya;clear O E
 go_wp2_with fail
 refine(next_any n A l k k' x S wr U ax ar).mono ?_;rintro e aA ⟨rfl,L,ae⟩;replace L:=hI L;have aj:=hI (ao.trans ae (fun b _ h=>h));clear ae;obtain⟨d,F⟩:=yp (c / 128 ^ q);have ac:=hI (leb_put au K av ai (by rw [F];rw [F] at M;omega))
 have W:=hI (show c % 128 ^ (q+1)=c\/128<=d from by
  rw [<-F];rcases M with ⟨h,_⟩ | ⟨h,_⟩
  .exact .inl (leb_last h)
  exact .inr h)
 have aq:q=9->d<=1:=(fun e=>by rw [<-F,e];omega);have H:=hI (leb_next c q);rw [F] at R z M H;replace z:=hI z;clear F ai;go_upto_region 7 with fail
 rw [ac];obtain⟨a1,N⟩:=yp (c % 128 ^ (q+1));have am:=hI N;rw [N] at W ⊢;clear N ac;rcases M with ⟨an,rfl,E⟩ | ⟨an,rfl,E⟩
 .have:decide ((128:Int)<=(x:Int))=false:=qe ya;have ay:=hI (show a1=c by rcases W.out with h | h;exact h;omega)
  have aa:=hI (show k'+1=m+(lebF c).length by
   have I:=z.out;rcases ZdV x with ⟨_,e⟩ | ⟨h,_⟩
   .rw [e] at I;simpa using I
   omega)
  have ap:(((x:Int) == 0)=true/\decide (0<q)=false/\decide ((1:Int)<(x:Int))=false)\/(((x:Int) == 0)=false/\decide ((1:Int)<(x:Int))=true/\((q:Int) == 9)=false)\/(((x:Int) == 0)=false/\decide ((1:Int)<(x:Int))=false):=by
   rcases Nat.lt_trichotomy x 1 with h | h | h
   .exact .inl ⟨yd,qe (by rcases qF q with K | K;{ omega };{ have:=R K;omega }),qe ya⟩
   .exact .inr (.inr ⟨yd,qe ya⟩)
   exact .inr (.inl ⟨yd,qt ya,yd⟩)
  clear z W H R aq;rcases ap with ⟨ah,af,az⟩ | ⟨ah,af,az⟩ | ⟨ah,af⟩
  all_goals
   go_wp2
   go_ret;rw [ay,<-aa];exact⟨rfl,L,aj⟩
 have:q<=8:=ya;have ak:=hI E
 have aa:=hI (show k'+1+(lebF (d / 128)).length=m+(lebF c).length by
  have I:=z.out;rcases ZdV d with ⟨h,_⟩ | ⟨_,e⟩
  .omega
  rw [e] at I;simp only [qK] at I;omega)
 clear E z
 go_wp2
 go_roundw
 case rel=>exact⟨q+1,k'+1,a1,ya,am.symm,rfl,by go_num,fun _=>by rw [<-H];omega,by rw [<-H];exact aa,by rw [<-H];exact ak,L,aj⟩
 (simp [intOf];omega)
theorem uint1_idle (E I z:Addr) (w:World) :
 CallsD prog 254 #[.pointer (some E),.pointer (some I),.pointer (some z)] .returning w fun e L w'=>e=.returned (.tuple #[])/\L=.returning/\w'=w:=by
 refine callsD_of_wpS func254 rfl fun H cs K=>?_
 have F:∀ w:World,(Instr.typeAssert Value.nilIface 20 37 true).run prog w=.ok (.tuple #[.int .i64 0,.bool false]) w:=fun w=>by
  simp [Instr.typeAssert]
 apply wpS_seq;apply wpS_region;simp [F,wpOpsS,go_sem,recoverD,K,ntmps254,Exit.thenS];apply wpS_seq;apply wpS_region;simp [wpOpsS,go_sem,Exit.thenS];refine wpS_cond (t:=false) (by simp [Act.eval,Array.replicate]) ?_;simp only [Bool.false_eq_true,if_false];refine wpS_of_wp (wp_skip ?_);cases H
 simp_all [bodyPostS,results,results254]
theorem res3 {t0 F:TypeId} (I:w.heap[n]?=some (.cells #[x] t0 (0,0))) (V1:w.heap[n+1]?=some (.cells #[xA] g (0,0))) (V2:w.heap[n+2]?=some (.cells #[xB] F (0,0))) (c y E:Value) :
 ∃ w',(((w.setCell ⟨n,0,none⟩ c).setCell ⟨n+1,0,none⟩ y).setCell ⟨n+1+1,0,none⟩ E).drew=w'/\w'.cell? ⟨n,0,none⟩=some c/\w'.cell? ⟨n+1,0,none⟩=some y/\w'.cell? ⟨n+1+1,0,none⟩=some E/\Below n w w':=by
 refine⟨_,rfl,?_,?_,?_,?_⟩
 .have z:=Zc (k:=0) (v:=c) (vs:=[x]) I;exact Za ((qc _ _ _ _ (by show n≠n+1+1;omega)).trans ((qc _ _ _ _ (by show n≠n+1;omega)).trans z)) 0 _ rfl
 .have z:=Zc (k:=0) (v:=y) (vs:=[xA]) ((qc w ⟨n,0,none⟩ c (n+1) (by show n+1≠n;omega)).trans V1);exact Za ((qc _ _ _ _ (by show n+1≠n+1+1;omega)).trans z) 0 _ rfl
 .have z:=Zc (k:=0) (v:=E) (vs:=[xB]) ((qc (w.setCell ⟨n,0,none⟩ c) ⟨n+1,0,none⟩ y (n+1+1) (by show n+1+1≠n+1;omega)).trans ((qc w ⟨n,0,none⟩ c (n+1+1) (by show n+1+1≠n;omega)).trans V2));exact Za z 0 _ rfl
 exact((((qa n w).setCell (p:=⟨n,0,none⟩) nR _).setCell (p:=⟨n+1,0,none⟩) (by show n<=n+1;omega) _).setCell (p:=⟨n+1+1,0,none⟩) (by show n<=n+1+1;omega) _).drew
theorem Uint_any (c k n:Nat) (rest:List Int) (ac:BtS w S A l) (aA:∀ b,S b->b<w) (aR:n<18446744073709551616) (aj:l.drop k=lebF n++rest) :
 Calls prog 217 #[.slice A l c,.int .i64 (k:Int)] w fun e w'=>e=.returned (.tuple #[.int .u64 (n:Int),.int .i64 ((k+(lebF n).length:Nat):Int),.int .i64 0])/\Below w w w':=by
 replace ac:=hI ac;have aL:=hI aj;obtain⟨_,_,aV,_⟩:=ZhS aj;clear aj;obtain⟨ak,ae⟩:=yp (k+(lebF n).length);have aJ:=hI ae;rw [ae];clear ae;obtain⟨z,I⟩:=yp (((w.alloc (.cells #[.int .u64 0] 299)).alloc (.cells #[.int .i64 0] 3)).alloc (.cells #[.int .i64 0] 37));obtain⟨g,H⟩:=yp w.heap.size;have U:=hI (show Below w w z by rw [<-I];exact(((qa _ w).alloc nR _).alloc yb _).alloc yd _);have aF:z<=g+3/\g+3<=z:=(by rw [<-I,<-H];simp);have av:=hI (show z.heap[g]?=some (.cells #[.int .u64 0] 299 (0,0)) by rw [<-I,<-H];exact(qd _ _ _ yd).trans ((qd _ _ _ yb).trans (qb w _)));have aB:=hI (show z.heap[g+1]?=some (.cells #[.int .i64 0] 3 (0,0)) by rw [<-I,<-H];exact(qd _ _ _ yb).trans (by simpa using qb (w.alloc (.cells #[.int .u64 0] 299)) (.cells #[.int .i64 0] 3)));have aC:=hI (show z.heap[g+2]?=some (.cells #[.int .i64 0] 37 (0,0)) by rw [<-I,<-H];simpa using qb ((w.alloc (.cells #[.int .u64 0] 299)).alloc (.cells #[.int .i64 0] 3)) (.cells #[.int .i64 0] 37));have Z:∀ b,S b->b<g:=(fun b F=>by rw [<-H];exact aA b F);have ai:Below g w z:=(by rw [<-H];exact U);have U:=hI ai;have az:=hI (show BtS z S A l from qU ac (qS ai Z));clear ai
 go_enter_defers func217,ntmps217
 go_wp2_with fail
 try rw [I]
 try rw [H]
 clear I;have aN:=hI H.symm;clear H aA ac;refine(Zgi ya).mono ?_;rintro e am ⟨rfl,N,K⟩;obtain⟨d,hd⟩:=yp z.heap.size;rw [hd] at N K aF;rw [hd];replace N:=hI N;have ar:=hI (show BtS am S A l from qU az (qS K (fun b F=>yl (Z b F))));have aw:=hI (U.trans (K.mono ya));have O:=hI ((K.block g ya).trans av);have ah:=hI ((K.block (g+1) ya).trans aB);have af:=hI ((K.block (g+2) ya).trans aC);clear hd K av aB aC U az
 go_wp2_with fail
 refine(Zfh n rest N ar (fun b F=>⟨ym (Z b F) (Zb O),yl (Z b F)⟩) aR aL).mono ?_;rintro e w2 ⟨rfl,L,R⟩;rw [aJ] at L;replace L:=hI L;have ab:=hI ((R.block g (Zb O) ya).trans O);have au:=hI ((R.block (g+1) (Zb ah) ya).trans ah);have ao:=hI ((R.block (g+2) (Zb af) ya).trans af);have ax:=hI (aw.trans (R.below (n:=g) (yl (Zb O)) (fun b F=>ya)));have aQ:yr w2 g 0 (.int .u64 0):=Za ab 0 _ rfl;have aS:w2.frozen? ⟨g,0,none⟩=false:=Zd ab;clear R O ah af aw N ar;go_upto_region 4 with fail
 obtain⟨E,M⟩:=yp (w2.setCell ⟨g,0,none⟩ (.int .u64 (n:Int)));have W:=hI (show E.heap[g]?=some (.cells #[.int .u64 (n:Int)] 299 (0,0)) by rw [<-M];exact Zc (vs:=[.int .u64 0]) ab);have aa:∀ b,b≠g->E.heap[b]?=w2.heap[b]?:=(fun b F=>by rw [<-M];exact qc _ _ _ _ F);have V1:=hI ((aa (g+1) ya).trans au);have V2:=hI ((aa (g+2) ya).trans ao);have an:=hI (show DecB E d A l c ak from (aa d ya).trans L);have aq:=hI (show Below g w E by rw [<-M];exact ax.setCell nR _);rw [M];clear M aa ab au ao L ax aQ aS;have v0:yr E g 0 (.int .u64 (n:Int)):=Za W 0 _ rfl;have aK:yr E (g+1) 0 (.int .i64 0):=Za V1 0 _ rfl;have aP:yr E (g+2) 0 (.int .i64 0):=Za V2 0 _ rfl;have aI:E.frozen? ⟨g,0,none⟩=false:=Zd W;have aM:E.frozen? ⟨g+1,0,none⟩=false:=Zd V1;have aG:E.frozen? ⟨g+2,0,none⟩=false:=Zd V2;have aH:=an.c1
 go_region
 obtain⟨aD,ap,t0,aO,aE,ay⟩:=res3 W V1 V2 (.int .u64 (n:Int)) (.int .i64 (ak:Int)) (.int .i64 0);have aT:=hI (aq.trans ay);rw [ap];clear ap ay v0 aK aP aI aM aG aH W V1 V2 aq an
 go_wp2_with fail
 refine leaves_cons (f:=254) (args:=#[.pointer (some ⟨g,0,none⟩),.pointer (some ⟨g+1,0,none⟩),.pointer (some ⟨g+1+1,0,none⟩)]) yb (by simp [go_sem]) ?_;refine(uint1_idle ⟨g,0,none⟩ ⟨g+1,0,none⟩ ⟨g+1+1,0,none⟩ aD).mono ?_;rintro e aW aX ⟨rfl,rfl,rfl⟩;simp [Leaves,settle,results,results217,go_sem,t0,aO,aE];have aU:=aT.out;rwa [aN.out] at aU
theorem drop_txt {rest:List Int} (h:l.drop n=lebF k++(p++rest)):l.drop (n+(lebF k).length)=p++rest/\n+(lebF k).length+p.length<=l:=by
 obtain⟨z,F⟩:=Zjk h;refine⟨z,?_⟩;have E:=congrArg List.length z;rw [List.length_drop,qi] at E;omega
theorem Zjw {cap:Nat} {rest:List Int} (M:BtS w S (some ⟨n,k,none⟩) l) (t:l.drop m=txtB h++rest):(convert 22 9 (.slice (some ⟨n,k+m,none⟩) h.size cap)).run prog w=.ok (.string h) w:=by
 have E:=run_convert_bytes_back (P:=prog) w 22 9 5 ⟨n,k+m,none⟩ cap h.data.toList ye ye ye (fun j H=>by
  have L:j<(txtB h).length:=(by rw [txtB,qg];exact H)
  have z:l[m+j]?=(txtB h)[j]?:=by
   rw [<-List.getElem?_drop,t,List.getElem?_append_left L]
  have N:(txtB h)[j]?=some ((h.data.toList[j].toNat:Nat):Int):=(by rw [txtB,List.getElem?_map,List.getElem?_eq_getElem H];rfl);rw [N] at z;obtain⟨b',o',e,_,I⟩:=M.at_ (qR.1 z).1;injection e with e;injection e with K F;subst K F;rw [show l.getD (m+j) 0=((h.data.toList[j].toNat:Nat):Int) by simp [List.getD,z]] at I;rw [add_none];rw [show k+m+j=k+(m+j) by omega];exact I)
 have e:h.data.toList.length=h.size:=(by rw [Array.length_toList];rfl);rw [e] at E;have F:(⟨h.data.toList.toArray⟩:ByteArray)=h:=(by cases h;simp);rw [F] at E;exact E
theorem Zih (t:ByteArray) (rest:List Int) (hd:DecB w n A l k m) (ac:BtS w S A l) (ai:∀ b,S b->b<w/\b≠n) (aw:t.size<=i) (ax:i<=1000000000) (H:l.drop m=lebF t.size++(txtB t++rest)) (au:l.length<=k) :
 Calls prog 253 #[.pointer (some ⟨n,0,none⟩),.int .i64 (i:Int)] w (DecN n A l k (m+(lebF t.size).length+t.size) (.string t) w):=by
 obtain⟨aa,ae⟩:=drop_txt H;rw [Zdb] at ae;replace hd:=hI hd;have Z:=hI ac;replace H:=hI H;have ar:=ac.len;clear ac;obtain⟨z,O⟩:=yp (m+(lebF t.size).length);rw [O] at aa ae ⊢;replace O:=hI O;go_enter func253,ntmps253
 go_wp2_with fail
 refine(Zfh t.size _ hd Z ai ya H).mono ?_;rintro e E ⟨rfl,M,ab⟩;have L:BtS E S A l:=ab.bts Z ai;rw [O] at M;have am:=hI M;have aj:=hI ab;have av:=hI L;have c0:=M.c0;have c1:=M.c1
 obtain⟨b,o,rfl⟩:∃ b o,A=some ⟨b,o,none⟩:=by
  obtain⟨_,_,U,_⟩:=ZhS H;obtain⟨b,o,e,_⟩:=L.at_ U;exact⟨b,o,e⟩
 obtain⟨K,ay,N⟩:∃ K,(if k=z then some (⟨b,o,none⟩:Addr) else some ⟨b,o+z,none⟩)=some K/\∀ q cap,(convert 22 9 (.slice (some K) t.size cap)).run prog (E.drewN q)=.ok (.string t) (E.drewN q):=by
  by_cases ak:k=z
  .refine⟨⟨b,o,none⟩,by rw [qr ak],fun q cap=>?_⟩;have aq:t.size=0:=ya;have U:=Zjw (w:=E.drewN q) (S:=S) (n:=b) (k:=o) (m:=0) (cap:=cap) (l:=l) (rest:=l) (h:=t) (qU L (fun _ _=>rfl)) (by rw [List.drop_zero];rw [show txtB t=[] from qN (by rw [Zdb];exact aq),qP]);exact U
  exact⟨⟨b,o+z,none⟩,by rw [qo ak],fun q cap=>Zjw (w:=E.drewN q) (S:=S) (rest:=rest) (qU L (fun _ _=>rfl)) aa⟩
 have:IntKind.i64.wrap (t.size:Int)=(t.size:Int):=(by rw [IntKind.wrap_i64];omega);have:IntKind.i64.wrap ((z:Int)+(t.size:Int))=(z:Int)+(t.size:Int):=(by rw [IntKind.wrap_i64];omega);have:((z:Int)+(t.size:Int)).toNat=z+t.size:=ya;have:(0:Int)<=(z:Int)+(t.size:Int):=ya;have:IntKind.u64.wrap (i:Int)=(i:Int):=(by rw [IntKind.wrap_u64];omega);have F:IntKind.u64.wrap ((l:Int) - (z:Int))=(l:Int) - (z:Int):=(by rw [IntKind.wrap_u64];omega);have:decide (i<t.size)=false:=qe ya;have:decide ((l:Int) - (z:Int)<(t.size:Int))=false:=qe ya;clear M ab hd Z H L aa
 go_wp2_with fail
 have:(0:Int)<=(z:Int):=ya;have:(z:Int)<=(z:Int)+(t.size:Int):=ya;have:(z:Int)+(t.size:Int)<=(k:Int):=by omega
 go_quiet (fail)
 go_wp2_with fail
 obtain⟨w2,F⟩:=yp (E.drewN nq);have R:=hI (show DecB w2 n (some ⟨b,o,none⟩) l.length k z by rw [<-F];exact am);have ap:=hI (show Fr (fun b=>b=n) w w2 by rw [<-F];exact aj.drewN nq);have c0:=R.c0;have c1:=R.c1;have:w2.frozen? ⟨n,1,none⟩=false:=Zd R;have N:∀ cap,(convert 22 9 (.slice (some K) t.size cap)).run prog w2.drew=.ok (.string t) w2.drew:=(fun cap=>by rw [<-F];exact N (nq+1) cap);rw [F];clear F am aj;refine uS (fun w'=>w'.cell? ⟨n,0,none⟩=some (.slice (some ⟨b,o,none⟩) l.length k)/\w'.cell? ⟨n,1,none⟩=some (.int .i64 (z:Int))/\(∀ cap,(convert 22 9 (.slice (some K) t.size cap)).run prog w'=.ok (.string t) w')) 17 18 fun Q' af W=>?_;refine uR [0,15] W ⟨c0,c1,N⟩ ?_;refine uV 15 (.slice (some K) t.size (k - z)) W ?_ ⟨c0,c1,N⟩ ?_
 .intro w' an;go_simp
  (try with_reducible rfl)
 simp only [psA,psB,psC];refine uV 16 (.string t) W ?_ ⟨c0,c1,N⟩ ?_
 .intro w' an;obtain⟨_,_,U⟩:=an;go_simp
  (try with_reducible rfl)
 simp only [psA,psB,psC];refine uQ 17 fun ao ah=>?_;go_simp;refine ah _ _ nD ?_;clear ah ao;refine uE af ?_;clear af W Q'
 go_wp2
 go_ret;exact⟨rfl,Zc (vs:=[.slice (some ⟨b,o,none⟩) l.length k,.int .i64 (z:Int)]) (k:=1) R,(ap.setCell _ (fun _=>rfl)).drew⟩
theorem text1_idle (E I z:Addr) (w:World) :
 CallsD prog 251 #[.pointer (some E),.pointer (some I),.pointer (some z)] .returning w fun e L w'=>e=.returned (.tuple #[])/\L=.returning/\w'=w:=by
 refine callsD_of_wpS func251 rfl fun H cs K=>?_
 have F:∀ w:World,(Instr.typeAssert Value.nilIface 20 37 true).run prog w=.ok (.tuple #[.int .i64 0,.bool false]) w:=fun w=>by
  simp [Instr.typeAssert]
 apply wpS_seq;apply wpS_region;simp [F,wpOpsS,go_sem,recoverD,K,ntmps251,Exit.thenS];apply wpS_seq;apply wpS_region;simp [wpOpsS,go_sem,Exit.thenS];refine wpS_cond (t:=false) (by simp [Act.eval,Array.replicate]) ?_;simp only [Bool.false_eq_true,if_false];refine wpS_of_wp (wp_skip ?_);cases H
 simp_all [bodyPostS,results,results251]
theorem ZjG (c k R:Nat) (t:ByteArray) (rest:List Int) (ae:BtS w S A l) (aB:∀ b,S b->b<w) (aT:t.size<=R) (aV:R<=1000000000) (ak:l.drop k=lebF t.size++(txtB t++rest)) (aM:l.length<=c) :
 Calls prog 215 #[.slice A l c,.int .i64 (k:Int),.int .i64 (R:Int)] w fun e w'=>e=.returned (.tuple #[.string t,.int .i64 ((k+(lebF t.size).length+t.size:Nat):Int),.int .i64 0])/\Below w w w':=by
 replace ae:=hI ae;have aN:=hI ak;obtain⟨_,_,aY,_⟩:=ZhS ak;clear ak;obtain⟨am,af⟩:=yp (k+(lebF t.size).length+t.size);have aK:=hI af;rw [af];clear af;have:decide ((R:Int)<0)=false:=qe ya;obtain⟨z,I⟩:=yp (((w.alloc (.cells #[.string ⟨#[]⟩] 9)).alloc (.cells #[.int .i64 0] 3)).alloc (.cells #[.int .i64 0] 37));obtain⟨g,H⟩:=yp w.heap.size;have W:=hI (show Below w w z by rw [<-I];exact(((qa _ w).alloc nR _).alloc yb _).alloc yd _);have aG:z<=g+3/\g+3<=z:=(by rw [<-I,<-H];simp);have aw:=hI (show z.heap[g]?=some (.cells #[.string ⟨#[]⟩] 9 (0,0)) by rw [<-I,<-H];exact(qd _ _ _ yd).trans ((qd _ _ _ yb).trans (qb w _)));have aC:=hI (show z.heap[g+1]?=some (.cells #[.int .i64 0] 3 (0,0)) by rw [<-I,<-H];exact(qd _ _ _ yb).trans (by simpa using qb (w.alloc (.cells #[.string ⟨#[]⟩] 9)) (.cells #[.int .i64 0] 3)));have aD:=hI (show z.heap[g+2]?=some (.cells #[.int .i64 0] 37 (0,0)) by rw [<-I,<-H];simpa using qb ((w.alloc (.cells #[.string ⟨#[]⟩] 9)).alloc (.cells #[.int .i64 0] 3)) (.cells #[.int .i64 0] 37));have aa:∀ b,S b->b<g:=(fun b F=>by rw [<-H];exact aB b F);have aj:Below g w z:=(by rw [<-H];exact W);have W:=hI aj;have aA:=hI (show BtS z S A l from qU ae (qS aj aa));clear aj
 go_enter_defers func215,ntmps215
 go_wp2_with fail
 try rw [I]
 try rw [H]
 clear I;have aP:=hI H.symm;clear H aB ae;refine(Zgi ya).mono ?_;rintro e an ⟨rfl,N,K⟩;obtain⟨d,hd⟩:=yp z.heap.size;rw [hd] at N K aG;rw [hd];replace N:=hI N;have au:=hI (show BtS an S A l from qU aA (qS K (fun b F=>yl (aa b F))));have ax:=hI (W.trans (K.mono ya));have O:=hI ((K.block g ya).trans aw);have ai:=hI ((K.block (g+1) ya).trans aC);have ah:=hI ((K.block (g+2) ya).trans aD);clear hd K aw aC aD W aA
 go_wp2_with fail
 refine(Zih t rest N au (fun b F=>⟨ym (aa b F) (Zb O),yl (aa b F)⟩) aT aV aN aM).mono ?_;rintro e w2 ⟨rfl,L,U⟩;rw [aK] at L;replace L:=hI L;have ac:=hI ((U.block g (Zb O) ya).trans O);have av:=hI ((U.block (g+1) (Zb ai) ya).trans ai);have ap:=hI ((U.block (g+2) (Zb ah) ya).trans ah);have ay:=hI (ax.trans (U.below (n:=g) (yl (Zb O)) (fun b F=>ya)));have aS:yr w2 g 0 (.string ⟨#[]⟩):=Za ac 0 _ rfl;have aU:w2.frozen? ⟨g,0,none⟩=false:=Zd ac;clear U O ai ah ax N au;go_upto_region 6 with fail
 obtain⟨E,M⟩:=yp (w2.setCell ⟨g,0,none⟩ (.string t));have Z:=hI (show E.heap[g]?=some (.cells #[.string t] 9 (0,0)) by rw [<-M];exact Zc (vs:=[.string ⟨#[]⟩]) ac);have ab:∀ b,b≠g->E.heap[b]?=w2.heap[b]?:=(fun b F=>by rw [<-M];exact qc _ _ _ _ F);have V1:=hI ((ab (g+1) ya).trans av);have V2:=hI ((ab (g+2) ya).trans ap);have ao:=hI (show DecB E d A l c am from (ab d ya).trans L);have ar:=hI (show Below g w E by rw [<-M];exact ay.setCell nR _);rw [M];clear M ab ac av ap L ay aS aU;have v0:yr E g 0 (.string t):=Za Z 0 _ rfl;have aL:yr E (g+1) 0 (.int .i64 0):=Za V1 0 _ rfl;have aR:yr E (g+2) 0 (.int .i64 0):=Za V2 0 _ rfl;have aJ:E.frozen? ⟨g,0,none⟩=false:=Zd Z;have aO:E.frozen? ⟨g+1,0,none⟩=false:=Zd V1;have aH:E.frozen? ⟨g+2,0,none⟩=false:=Zd V2;have aI:=ao.c1
 go_region
 obtain⟨aE,aq,t0,aQ,aF,az⟩:=res3 Z V1 V2 (.string t) (.int .i64 (am:Int)) (.int .i64 0);have aW:=hI (ar.trans az);rw [aq];clear aq az v0 aL aR aJ aO aH aI Z V1 V2 ar ao
 go_wp2_with fail
 refine leaves_cons (f:=251) (args:=#[.pointer (some ⟨g,0,none⟩),.pointer (some ⟨g+1,0,none⟩),.pointer (some ⟨g+1+1,0,none⟩)]) yb (by simp [go_sem]) ?_;refine(text1_idle ⟨g,0,none⟩ ⟨g+1,0,none⟩ ⟨g+1+1,0,none⟩ aE).mono ?_;rintro e aZ ba ⟨rfl,rfl,rfl⟩;simp [Leaves,settle,results,results215,go_sem,t0,aQ,aF];have aX:=aW.out;rwa [aP.out] at aX
end Go.Proofs.YtjadnfodboepeaaGreat
