import Derived.Test.YtjadnfodboepeaaGreatKdw
import Derived.Test.YtjadnfodboepeaaGreatKat
import Derived.Lib.SmallJoins
set_option linter.all false
set_option maxRecDepth 100000
set_option maxHeartbeats 8000000
namespace Go.Proofs.YtjadnfodboepeaaGreat
open Tryz
open Go Go.RowKit
variable {w:World} {n k m:Nat} {A:Option Addr} {S:Nat->Prop} {x xA:Value} {J:List (List Int)}
attribute [local go_sem] Oper.semAt_some
theorem Zef (w:World) (t:ByteArray) (K:t.size<=1000000000):BtS (Lib.bytesWorld w 5 t) (fun b=>b=w.heap.size) (some ⟨w,0,none⟩) (txtB t)/\Below w w (Lib.bytesWorld w 5 t)/\w.heap.size<(Lib.bytesWorld w 5 t).heap.size:=by
 refine⟨⟨?_,fun I=>⟨w.heap.size,0,rfl,rfl,ZaZ (n:=1) (fun d hd=>by obtain⟨v,_,rfl⟩:=qO.1 hd;rfl) (fun k E=>?_)⟩⟩,Joins.below_bytesWorld _ w _ t nR,by rw [Lib.bytesWorld_size];omega⟩
 .rw [Ze (n:=8) (fun _=>rfl),Zdb];omega
 have z:k<t.data.toList:=(by simpa [txtB] using E);have F:=Lib.bytesWorld_cell w 5 t k (by rw [Array.length_toList] at z;exact z);rw [List.getElem_map];unfold encB Dat.Held;refine⟨?_,trivial⟩;rw [Nat.mul_one,qx,F];have:k<t.data.size:=(by rw [Array.length_toList] at z;exact z);have H:t.data.toList.getD k 0=t.data.toList[k]:=(by rw [List.getD_eq_getElem?_getD,List.getElem?_eq_getElem z];rfl);rw [H];simp [txtB]
theorem frames_in (z:Fence) (n:Nat) (E:z.fn 163) (F:z.round=none) (A:Option Addr) (len c:Nat) (w:World) :
 CallsIn z n prog 163 #[.slice A len c] w fun e w'=>e=.returned (.func (.func 214) #[] #[.pointer (some ⟨w,0,none⟩)])/\w'=w.alloc (.cells #[.slice A len c] 22):=by
 refine callsIn_of_wp func163 rfl E ?_ F;simp only [ntmps163,List.size_toArray,qK,Qp,Nat.reduceAdd,Nat.reduceSub,Array.replicate_succ,Array.replicate_zero,List.push_toArray,List.append_toArray,qP,List.cons_append]
 gi_wp2
 go_ret;exact⟨rfl,rfl⟩
def Zr (z:List (List Int)):List Int:=z.flatMap ZbT
theorem ZfS (E:n<J):(Zr J).drop (Zr (J.take n)).length=lebF (J.getD n []).length++(J.getD n []++Zr (J.drop (n+1)))/\(Zr (J.take (n+1))).length=(Zr (J.take n)).length+(lebF (J.getD n []).length).length+(J.getD n []).length:=by
 have e:J.getD n []=J[n]:=(by simp [List.getD,E]);constructor
 .have F:Zr J=Zr (J.take n)++(ZbT J[n]++Zr (J.drop (n+1))):=by
   unfold Zr
   conv=>lhs;rw [<-List.take_append_drop n J,qq E,List.flatMap_append,List.flatMap_cons]
  rw [F,List.drop_left,e];unfold ZbT;rw [qB]
 unfold Zr;rw [qj E,List.flatMap_append,qi,e];simp [ZbT];omega
theorem frames_ge (F:n<J):(Zr (J.take n)).length<(Zr J).length:=by
 have h:=(ZfS F).1;have E:=congrArg List.length h;rw [List.length_drop,qi] at E;have:=ZdB (J.getD n []).length;omega
theorem frames_le (z:List (List Int)) (k:Nat):(Zr (z.take k)).length<=(Zr z).length:=by
 conv=>rhs;rw [<-List.take_append_drop k z]
 unfold Zr;rw [List.flatMap_append,qi];omega
theorem frames1_in (n:Nat) (l y:Nat) (A:Option Addr) (c:Nat) (z:List (List Int)) (J:Nat->World->Prop) (ai:Nat->Prop) (aN:1<=n)
 (aD:∀ k w,J k w->w.heap[y]?=some (.cells #[.slice A (Zr z).length c] 22 (0,0))/\BtS w ai A (Zr z)/\∀ b,ai b->b<w.heap.size)
 (aJ:∀ k w I,J k w->Below w.heap.size w I->J k I)
 (aB:∀ r ∈ z,r.length<=1000000/\Zbn r) (az:(Zr z).length<=c)
 (aA:∀ k R w rb cap (e:Nat),k<z.length->J k R->Below R.heap.size R w->R.heap.size<=rb->rb<w.heap.size->BtS w (fun b=>b=rb) (some ⟨rb,0,none⟩) (z.getD k [])->(z.getD k []).length<=cap ->
  YieldAt Fence.wide (n - 1) prog l #[.slice (some ⟨rb,0,none⟩) (z.getD k []).length cap,.int .i64 (e:Int)] w fun e I=>e=.returned (.bool true)/\J (k+1) I)
  (ax:J 0 w) :
 CallsIn Fence.wide n prog 214 #[.func (.yield l) #[] #[],.pointer (some ⟨y,0,none⟩)] w fun e I=>(∃ v,e=.returned v)/\J z.length I:=by
 refine callsIn_of_wp func214 rfl trivial ?_ rfl;simp only [ntmps214,List.size_toArray,qK,Qp,Nat.reduceAdd,Nat.reduceSub,Array.replicate_succ,Array.replicate_zero,List.push_toArray,List.append_toArray,qP,List.cons_append]
 gi_wp2
 gi_loopw [3] (fun i wr=>∃ k:Nat,k<=z.length/\i=.int .i64 ((Zr (z.take k)).length:Int)/\J k wr) (fun i _=>((Zr z).length:Int).toNat - (intOf i).toNat)
 case atStart=>exact⟨0,qk _,by simp [Zr],ax⟩
 obtain⟨k,aK,rfl,N⟩:=hrel;obtain⟨M,aj,aG⟩:=aD k wr N;have aF:yr wr y 0 (.slice A (Zr z).length c):=Za M 0 _ rfl;replace N:=hI N;have ap:=hI aj;have aI:=aj.len;clear M aj;rcases qv k z.length with K | aH
 .have ay:=frames_ge K;obtain⟨ah,L⟩:=ZfS K;obtain⟨aE,Z⟩:=aB (z.getD k []) (by rw [show z.getD k []=z[k] by simp [List.getD,K]];exact qJ K);obtain⟨at_,an⟩:=yp ((Zr (z.take k)).length);obtain⟨am,ae⟩:=yp ((Zr (z.take (k+1))).length);rw [an] at ay ah L ⊢;rw [ae] at L;have aw:=hI ae;have H:(baOf (z.getD k [])).size=(z.getD k []).length:=Zcq _;have O:=hI (ZjG c at_ 1048576 (baOf (z.getD k [])) (Zr (z.drop (k+1))) ap.out aG (by rw [H];omega) ya (by rw [Zdh Z,H];exact ah) az);have ao:=hI (Zdh Z);have ab:=hI (fun w rb cap=>aA k wr w rb cap am K N.out);rw [H] at O;obtain⟨rec,ar⟩:=yp (z.getD k []);rw [ar] at O ao ab H aE L;rw [<-L] at O
  have:at_<am/\am<=(Zr z).length:=by
   have aP:=ZdB rec.length;have aL:=frames_le z (k+1);omega
  clear an ae ah Z ar L
  gi_wp2
  refine⟨trivial,callsIn_wide.2 (O.out.mono ?_)⟩;rintro e F ⟨rfl,ak⟩;have U:(convert 9 22 (.string (baOf rec))).run prog F=.ok (.slice (some ⟨F.heap.size,0,none⟩) (baOf rec).size (grownCap F (baOf rec).size 0 5)) (Lib.bytesWorld F 5 (baOf rec)):=Lib.run_convert_string_bytes F 9 22 5 (u:=.string) (baOf rec) ye ye ye;obtain⟨W,ac,aa⟩:=Zef F (baOf rec) (by rw [H];omega);rw [ao] at W;have au:=grownCap_ge F rec.length 0 5;rw [H] at U;obtain⟨aC,aq⟩:=yp (Lib.bytesWorld F 5 (baOf rec));rw [aq] at U W ac aa;obtain⟨fn,tmps,assign,body,M,av⟩:=ab.out aC F.heap.size (grownCap F rec.length 0 5) (ak.trans (ac.mono ak.size)) ak.size aa W au;generalize grownCap F rec.length 0 5=aM at U M;clear aq au W ac aa ab O ap aF
  gi_wp2
  refine av.mono ?_;rintro e aO ⟨rfl,af⟩;replace af:=hI af;clear av M U
  gi_wp2
  go_roundw
  case rel=>exact⟨k+1,ya,by rw [aw],af.out⟩
  (simp [intOf];omega)
 obtain rfl:k=z.length:=ya;rw [qM]
 gi_wp2
 go_end0
 exact⟨⟨_,rfl⟩,N.out⟩
end Go.Proofs.YtjadnfodboepeaaGreat
namespace Go.Proofs.YtjadnfodboepeaaGreat
open Tryz
open Go Go.RowKit
variable {w:World} {n k m:Nat} {A:Option Addr} {S:Nat->Prop} {x xA:Value} {J:List (List Int)}
attribute [local go_sem] Oper.semAt_some
theorem load1_idle (n:Nat) (z F:Addr) (w:World) :
 CallsDIn Fence.wide n prog 162 #[.pointer (some z),.pointer (some F)] .returning w fun e I w'=>e=.returned (.tuple #[])/\I=.returning/\w'=w:=by
 refine callsDIn_of_wpSIn func162 rfl trivial fun E cs H=>?_;apply wpSIn_seq;apply wpSIn_region;simp [wpOpsSIn,go_sem,recoverD,H,ntmps162,Exit.thenS];apply wpSIn_seq;apply wpSIn_region;simp [wpOpsSIn,go_sem,Exit.thenS];refine wpSIn_cond (t:=false) (by simp [Act.eval,Array.replicate]) ?_;simp only [Bool.false_eq_true,if_false];refine wpSIn_of_wpIn rfl (wpIn_skip ?_);cases E
 simp_all [bodyPostS,results,results162]
structure LdJ (w0:World) (j d i x0 y B:Nat) (A:Option Addr) (c:Nat) (bs:List Int) (Sb:Nat->Prop) (rs:List (List Int)) (k:Nat) (W:World):Prop where
 jr:∃ V1 V2 S,JrnM W j d i V1 V2 S (rs.take k) k/\(∀ b,S b->B<=b)/\(∀ b,V1.ownBlock=some b->B<=b)/\∀ b,V2.ownBlock=some b->B<=b
 fr:Fr (fun b=>b=j) w0 W
 lo:w0.heap.size<=B
 hi:B<=W
 box:W.heap[x0]?=some (.cells #[.pointer (some ⟨j,0,none⟩)] 132 (0,0))
 by_:W.heap[y]?=some (.cells #[.slice A bs c] 22 (0,0))
 r1:W.heap[x0+1]?=some (.cells #[.int .i64 0] 3 (0,0))
 r2:W.heap[x0+2]?=some (.cells #[.bool false] 4 (0,0))
 bt:BtS W Sb A bs
 sb:∀ b,Sb b->b<w0/\b≠j
 xw:w0<=x0/\x0+2<B/\w0<=y/\y<B
 jw:j<w0
section
variable {w0 W W':World} {j d i x0 y B c k:Nat} {A:Option Addr} {bs:List Int} {Sb:Nat->Prop} {rs:List (List Int)}
theorem LdJ.keep (h:LdJ w0 j d i x0 y B A c bs Sb rs k W) (I:W.heap.size<=W') (U:W'.os=W.os) (ae:W'.tape=W.tape) (O:W'.output=W.output) (E:∀ (b:Nat) (cs:Array Value) (t:TypeId) (fr:Nat × Nat),W.heap[b]?=some (Obj.cells cs t fr)->W'.heap[b]?=W.heap[b]?) (L:∀ b,b<w0.heap.size->W'.heap[b]?=W.heap[b]?) (aa:∀ b,B<=b->b<W->W'.heap[b]?=W.heap[b]?):LdJ w0 j d i x0 y B A c bs Sb rs k W':=by
 obtain⟨V1,V2,S,F,K,ac,Z⟩:=h.jr
 have ab:∀ b,JrnX j V1 V2 b->W'.heap[b]?=W.heap[b]?:=fun b z=>by
  obtain⟨vals,R,_⟩:=F.own1;obtain⟨es,_,N⟩:=F.own2;rcases z with rfl | e | e
  .exact E _ _ _ _ F.blk
  .obtain⟨_,M,H⟩:=Zae R e;exact E _ _ _ _ H
  obtain⟨_,M,H⟩:=Zae N e;exact E _ _ _ _ H
 refine⟨⟨V1,V2,S,F.keep I (fun b z=>by
  rcases z with z | z
  .exact ab b z
  exact aa b (K b z) (F.slt b z)),K,ac,Z⟩,⟨U.trans h.fr.os,ae.trans h.fr.tape,O.trans h.fr.output,qD h.fr.size I,fun b z af=>(L b z).trans (h.fr.block b z af)⟩,h.lo,qD h.hi I,(E _ _ _ _ h.box).trans h.box,(E _ _ _ _ h.by_).trans h.by_,(E _ _ _ _ h.r1).trans h.r1,(E _ _ _ _ h.r2).trans h.r2,qU h.bt (fun b z=>L b (h.sb b z).1),h.sb,h.xw,h.jw⟩
theorem LdJ.below (h:LdJ w0 j d i x0 y B A c bs Sb rs k W) (z:Below W W W'):LdJ w0 j d i x0 y B A c bs Sb rs k W' :=
 h.keep z.size z.os z.tape z.output (fun b cs t fr E=>z.block b (Zb E)) (fun b H=>z.block b (yl h.fr.size)) (fun b _ F=>z.block b F)
theorem LdJ.putObj {l:Nat} {r o':Obj} (h:LdJ w0 j d i x0 y B A c bs Sb rs k W) (F:W.heap[l]?=some r) (I:∀ cs t fr,r≠.cells cs t fr) (M:w0<=l) (K:l<B):LdJ w0 j d i x0 y B A c bs Sb rs k (W.putObj l o'):=by
 have z:=grownBy_putObj' W l o';refine h.keep z.size z.os z.tape z.output (fun b cs t fr E=>z.block b (Zb E) (fun e=>?_)) (fun b L=>z.block b (yl h.fr.size) (fun e=>?_)) (fun b N H=>z.block b H (fun e=>?_))
 .injection e with e;subst e;rw [F] at E;injection E with E;exact I _ _ _ E
 .injection e with e;omega
 injection e with e;omega
theorem LdJ.more {V1 V2 I H:Value} {S S':Nat->Prop} (h:LdJ w0 j d i x0 y B A c bs Sb rs k W) (an:JrnM W j d i V1 V2 S (rs.take k) k) (Z:∀ b,S b->B<=b) (ae:∀ b,V1.ownBlock=some b->B<=b) (ab:∀ b,V2.ownBlock=some b->B<=b) (R:k<rs)
 (F:JrnM W' j d i I H S' (rs.take k++[rs.getD k []]) (k+1)) (K:Fr (JrnX j V1 V2) W W') (ah:∀ b,JrnX j I H b->JrnX j V1 V2 b\/W.heap.size<=b) (af:∀ b,S' b->S b\/B<=b):LdJ w0 j d i x0 y B A c bs Sb rs (k+1) W':=by
 have aa:rs.take k++[rs.getD k []]=rs.take (k+1):=by
  rw [qj R];simp [List.getD,R]
 rw [aa] at F;have ac:=h.hi;have ai:=h.lo;have ao:=h.jw;obtain⟨ap,am,ak,aq⟩:=h.xw
 have N:∀ b,JrnX j V1 V2 b->b=j\/B<=b:=fun b z=>by
  rcases z with rfl | e | e
  .exact .inl rfl
  .exact .inr (ae b e)
  exact .inr (ab b e)
 have E:∀ b,b<B->b≠j->W'.heap[b]?=W.heap[b]?:=fun b z ar=>K.block b ya (fun M=>by rcases N b M with e | e<;>omega)
 have O:∀ b,I.ownBlock=some b\/H.ownBlock=some b->B<=b:=fun b z=>by
  have aj:b≠j:=fun e=>by
   rcases z with z | z
   .exact F.n1 (by rw [<-e,z])
   exact F.n2 (by rw [<-e,z])
  rcases ah b (.inr z) with U | U
  .rcases N b U with L | L
   .exact absurd L aj
   exact L
  omega
 exact⟨⟨I,H,S',F,fun b z=>(af b z).elim (Z b) id,fun b z=>O b (.inl z),fun b z=>O b (.inr z)⟩,h.fr.trans K (fun b z M=>by rcases N b M with e | e<;>omega),ai,qD ac K.size,(E _ ya ya).trans h.box,(E _ ya ya).trans h.by_,(E _ ya ya).trans h.r1,(E _ ya ya).trans h.r2,qU h.bt (fun b z=>E b (yl ((h.sb b z).1)) (h.sb b z).2),h.sb,h.xw,h.jw⟩
theorem LdJ.notX {V1 V2:Value} {S:Nat->Prop} {b:Nat} (h:LdJ w0 j d i x0 y B A c bs Sb rs k W) {F:List (List Int)} {ne:Nat} (I:JrnM W j d i V1 V2 S F ne) (H:∀ b,V1.ownBlock=some b->B<=b) (E:∀ b,V2.ownBlock=some b->B<=b) (L:w0<=b) (M:b<B):¬ JrnX j V1 V2 b:=fun z=>by
 have K:=h.jw;rcases z with z | z | z
 .omega
 .have:=H b z;omega
 have:=E b z;omega
end
end Go.Proofs.YtjadnfodboepeaaGreat
namespace Go.Proofs.YtjadnfodboepeaaGreat
open Tryz
open Go Go.RowKit
variable {w:World} {n k m:Nat} {A:Option Addr} {S:Nat->Prop} {x xA:Value} {J:List (List Int)}
attribute [local go_sem] Oper.semAt_some
theorem heap_alloc_new' {o:Obj} (h:n=w.heap.size):(w.alloc o).heap[n]?=some o:=by rw [h];exact qb w o
theorem load_any (c:Nat) (aN:JrnM w n k m (.slice none 0 0) (.slice none 0 0) (fun _=>False) [] 0) (bJ:BtS w S A (Zr J)) (bj:∀ b,S b->b<w.heap.size/\b≠n) (b1:(Zr J).length<=c) (bI:∀ r ∈ J,r.length<=1000000/\Zbn r) (ds:J.length<=1000) :
 Calls prog 104 #[.pointer (some ⟨n,0,none⟩),.slice A (Zr J).length c] w fun e w'=>e=.returned (.tuple #[.int .i64 ((Zr J).length:Int),.bool false])/\∃ V1 V2 i,JrnM w' n k m V1 V2 i J J.length/\Fr (fun b=>b=n) w w'/\(∀ b,JrnX n V1 V2 b->b=n\/w.heap.size<=b)/\∀ b,i b->w.heap.size<=b:=by
 obtain⟨c7,ac,da,cM,cS⟩:=qA info3;obtain⟨ae,cV,cQ,df,cL⟩:=qA Zkp;replace aN:=hI aN;replace bJ:=hI bJ;replace bj:=hI bj;replace bI:=hI bI;obtain⟨len,bz⟩:=yp ((Zr J).length);have ck:=hI bz;rw [bz] at b1 ⊢;clear bz;refine(callsIn_wide (n:=3)).1 ?_;refine callsIn_of_wp_marks func104 rfl trivial ?_ rfl;simp only [ntmps104,List.size_toArray,qK,Qp,Nat.reduceAdd,Nat.reduceSub,Array.replicate_succ,Array.replicate_zero,List.push_toArray,List.append_toArray,qP,List.cons_append]
 gi_wp2_with (refine⟨trivial,?_⟩;gi_at_call 163;refine(frames_in _ _ trivial rfl A len c _).mono ?_;rintro e cY ⟨rfl,rfl⟩)
 obtain⟨ab,ap⟩:=yp (((((w.alloc (.cells #[.pointer (some ⟨n,0,none⟩)] 132)).alloc (.cells #[.int .i64 0] 3)).alloc (.cells #[.bool false] 4)).alloc (.cells #[.slice A len c] 22)));have cE:ab.heap.size=w.heap.size+4:=(by rw [<-ap];simp);have cy:ab.heap[w.heap.size+0]?=some (.cells #[.pointer (some ⟨n,0,none⟩)] 132 (0,0)):=(by rw [<-ap];exact(heap_alloc_old _ _ (by simp<;>omega)).trans ((heap_alloc_old _ _ (by simp<;>omega)).trans ((heap_alloc_old _ _ (by simp)).trans (qb _ _))));have cF:ab.heap[w.heap.size+1]?=some (.cells #[.int .i64 0] 3 (0,0)):=(by rw [<-ap];exact(heap_alloc_old _ _ (by simp<;>omega)).trans ((heap_alloc_old _ _ (by simp)).trans (heap_alloc_new' (by simp))));have cx:ab.heap[w.heap.size+2]?=some (.cells #[.bool false] 4 (0,0)):=(by rw [<-ap];exact(heap_alloc_old _ _ (by simp)).trans (heap_alloc_new' (by simp)));have cK:ab.heap[w.heap.size+3]?=some (.cells #[.slice A len c] 22 (0,0)):=(by rw [<-ap];exact heap_alloc_new' (by simp));have ai:Below w.heap.size w ab:=(by rw [<-ap];exact((((qa _ w).alloc nR _).alloc (by simp) _).alloc (by simp;omega) _).alloc (by simp;omega) _)
 have bB:∀ r,LdJ w n k m w.heap.size (w.heap.size+3) (w.heap.size+6) A c (Zr J) S J 0 ((ab.alloc (.deferred (some []))).alloc (.loop r)):=fun r=>by
  have bY:Below w.heap.size w ((ab.alloc (.deferred (some []))).alloc (.loop r)):=(ai.alloc ai.size _).alloc (by simp;omega) _;have E:∀ (j:Nat) (o:Obj),j<4->ab.heap[w.heap.size+j]?=some o->((ab.alloc (.deferred (some []))).alloc (.loop r)).heap[w.heap.size+j]?=some o:=fun j o ce h=>(heap_alloc_old _ _ (by simp;omega)).trans ((heap_alloc_old _ _ (by omega)).trans h);have M:=aN.out.lt;exact⟨⟨_,_,_,aN.out.below bY,fun b z=>z.elim,fun b z=>by simp [Value.ownBlock] at z,fun b z=>by simp [Value.ownBlock] at z⟩,qW bY,by omega,by simp [cE],E 0 _ (by omega) cy,by rw [ck];exact E 3 _ (by omega) cK,E 1 _ (by omega) cF,E 2 _ (by omega) cx,qU bJ.out (qS bY (fun b z=>(bj.out b z).1)),bj.out,by omega,M⟩
 rw [ap];replace bB:=hI bB;have cf:=hI cE;clear ap cy cF cx cK ai;refine range_whole (J:=fun K=>LdJ w n k m w.heap.size (w.heap.size+3) (w.heap.size+6) A c (Zr J) S J J.length K) rfl (by omega) (gf:=214) (lb:=#[.pointer (some ⟨w.heap.size+3,0,none⟩)]) rfl trivial (enters_of func214 (by kernel_rfl) rfl) ?_ ?_
 .intro r bp cd cw cu bW cJ ca;have ah:=cf.out;rw [ah];refine(frames1_in (3 - 1) (w.heap.size+4+1) (w.heap.size+3) A c J (fun j K=>LdJ w n k m w.heap.size (w.heap.size+3) (w.heap.size+6) A c (Zr J) S J j K/\K.heap[w.heap.size+4+1]?=some (.loop r)/\K.heap[w.heap.size+4]?=some (.deferred (some []))) S (by omega) (fun j K h=>⟨h.1.by_,h.1.bt,fun b z=>?_⟩) (fun j K dp h z=>⟨h.1.below z,(z.block _ (Zb h.2.1)).trans h.2.1,(z.block _ (Zb h.2.2)).trans h.2.2⟩) bI.out (by rw [ck];exact b1) ?_ ⟨bB.out r,?_,?_⟩).mono ?_
  .have R:=(h.1.sb b z).1;have aj:=h.1.fr.size;omega
  .intro j c3 K rb cap e ce ac ai dj cm bk cI;have M:=(ac.1.below ai);have W:=(ai.block _ (Zb ac.2.1)).trans ac.2.1;have U:=(ai.block _ (Zb ac.2.2)).trans ac.2.2;refine(yield_round (r:=r) (J:=fun aD=>LdJ w n k m w.heap.size (w.heap.size+3) (w.heap.size+6) A c (Zr J) S J (j+1) aD/\aD.heap[w.heap.size+4]?=some (.deferred (some []))) bp W cd cw (by rw [bW];rfl) ?_).mono ?_
   .replace M:=hI M;have au:=hI W;replace U:=hI U;replace bk:=hI bk;have b2:=hI (show w.heap.size+6<=c3.heap.size from ac.1.hi);obtain⟨V1,V2,i,bD,b5,ci,cz⟩:=ac.1.jr;have db:=hI bD.xlt;have L:=hI (And.intro b5 (And.intro ci cz));have aK:=hI (bD.below ai);obtain⟨aC,aX⟩:=yp ((J.getD j []).length);rw [aX] at cI ⊢;replace aX:=hI aX;clear ac W ah ai bD b5 ci cz;have cr:(r.params.zip #[Value.slice (some ⟨rb,0,none⟩) aC cap,Value.int .i64 (e:Int)]).foldl (fun tmps (t,a)=>tmps.setIfInBounds t a) r.tmps=(r.tmps.setIfInBounds 11 (Value.slice (some ⟨rb,0,none⟩) aC cap)).setIfInBounds 12 (Value.int .i64 (e:Int)):=(by rw [bW];simp);generalize bU:({ r with state:=.busy }:Loop)=q;rw [cr,cu];clear cr;simp only [psA,psB,psC];rw [cJ,ca];clear bp cd cw cu bW cJ ca bU;have W:=au.out
    gi_wp2
    refine⟨W,?_⟩;obtain⟨cR,ch⟩:=yp ((K.putObj (w.heap.size+4+1) (.loop q)));have aI:=grownBy_putObj' K (w.heap.size+4+1) (.loop q);have aQ:=M.out.putObj (o':=.loop q) W (fun _ _ _ e=>by cases e) (by omega) (by omega);have aE:(K.putObj (w.heap.size+4+1) (.loop q)).heap[w.heap.size+4+1]?=some (.loop q):=World.putObj_heap_same (Zb W);have aH:=(aI.block _ (Zb U.out) (fun e=>by injection e with e;omega)).trans U.out;have aO:BtS (K.putObj (w.heap.size+4+1) (.loop q)) (fun b=>b=rb) (some ⟨rb,0,none⟩) (J.getD j []):=qU bk.out (fun b z=>aI.block b (by subst z;exact cm) (fun e=>by injection e with e;have:=b2.out;omega));have bH:rb<(K.putObj (w.heap.size+4+1) (.loop q)).heap.size:=(by simpa using cm)
    have aM:JrnM (K.putObj (w.heap.size+4+1) (.loop q)) n k m V1 V2 i (J.take j) j:=aK.out.keep aI.size (fun b z=>aI.block b (z.elim (aK.out.xlt b) (aK.out.slt b)) (fun e=>by
     injection e with e;rcases z with z | z
     .exact LdJ.notX M.out aK.out L.out.2.1 L.out.2.2 (by omega) (by omega) z
     have:=L.out.1 b z;omega))
    rw [ch] at aQ aE aH aO bH aM ⊢;replace aM:=hI aM;replace aQ:=hI aQ;replace aE:=hI aE;replace aH:=hI aH;replace aO:=hI aO;clear aI ch M U bk au W aK
    gi_wp2
    obtain⟨Z,b9,am,-⟩:=dr cR;have am:=am.out;have ak:=hI (aQ.out.below am);have cA:=hI ((am.block _ (Zb aE.out)).trans aE.out);have U:=hI ((am.block _ (Zb aH.out)).trans aH.out);have c6:=hI (show BtS Z (fun b=>b=rb) (some ⟨rb,0,none⟩) (J.getD j []) from qU aO.out (fun b z=>am.block b (by subst z;exact bH)));have cN:rb<Z.heap.size:=qC bH am.size;have ax:=aM.out.below am;have cj:(J.take j).length=j:=(by rw [qG];omega);obtain⟨av,aU⟩:=yp (J.take j);rw [aU] at ax cj
    obtain⟨bC,bT,rfl⟩:∃ A c,V1=.slice A av.length c:=by
     obtain⟨vals,R,_⟩:=ax.own1;rw [qg] at R;exact ZcJ R
    obtain⟨bl,bm,rfl⟩:∃ A c,V2=.slice A j c:=by
     obtain⟨es,_,R⟩:=ax.own2;exact ZcJ R
    have N:=hI ax;replace aU:=hI aU;have:av.length<=1000:=(by omega);have aA:=ax.cell2;have bg:Z.frozen? ⟨n,2,none⟩=false:=Zd ax.blk;have bf:yr Z w.heap.size 0 (.pointer (some ⟨n,0,none⟩)):=Za ak.out.box 0 _ rfl;have bV:=Zb ak.out.box;clear am ax cj aQ aE aH aO aM;refine Zkr (by rintro⟨_,_,h⟩;cases h.1) (fun c a k v w h=>h) (fun Q' aL aZ au=>?_);refine ZdO (fun w'=>w'.cell? ⟨n,2,none⟩=some (.slice bC av.length bT)/\w'.frozen? ⟨n,2,none⟩=false/\w'.cell? ⟨w.heap.size,0,none⟩=some (.pointer (some ⟨n,0,none⟩))) 10 11 (bA 11 0) (by kernel_rfl) (by kernel_rfl) (by kernel_rfl) (by kernel_rfl) au.out ?_;rw [b9];clear b9;refine uR [0,6] aZ.out ⟨aA,bg,bf⟩ ?_;refine uQ 6 fun I H=>?_;go_simp;have l2:(Z.alloc (.cells #[.slice (some ⟨rb,0,none⟩) aC cap] 22)).cell? ⟨n,2,none⟩=_:=(Zh N.out.lt).trans aA;have bb:(Z.alloc (.cells #[.slice (some ⟨rb,0,none⟩) aC cap] 22)).frozen? ⟨n,2,none⟩=_:=(ZK N.out.lt).trans bg;have bc:(Z.alloc (.cells #[.slice (some ⟨rb,0,none⟩) aC cap] 22)).cell? ⟨w.heap.size,0,none⟩=_:=(Zh bV).trans bf;refine H.out _ _ (fun _=>⟨l2,bb,bc⟩) ?_;clear H I
    try simp only [Act.put,psA,psB,psC]
    refine uQ 7 fun I aW=>?_;obtain⟨vals,aF,bi,c5⟩:=N.out.own1;rw [qg] at aF;replace aF:=hI aF;replace bi:=hI bi;refine step_append_lies _ (by rfl) (.tmp 17) (.tmp 19) 190 (by rfl) 0 22 ae _ 1 24 underlying190 cV cQ df cL rfl (by decide) (.slice bC av.length bT) av.length vals (by rfl) (Zo aF.out (fun g az=>qd _ _ _ (ZN aF.out az))) ⟨Z.heap.size,0,none⟩ 1 1 [.slice (some ⟨rb,0,none⟩) aC cap] (by rfl) (by rfl) (World.news_of_block (cs:=#[.slice (some ⟨rb,0,none⟩) aC cap]) (t:=22) (fr:=(0,0)) (qb Z _)) (by simp [Value.oneCell']) (by omega) (by unfold maxLen;omega) (by omega) (qk _) (Z.heap.size+1) (by simp) ?_;intro cD b8 bn ba aV bt dh;replace ba:=hI ba;have aP:=hI ((qY Z _ _).trans aV);replace bt:=hI bt;have ae:yr bn n 2 (.slice bC av.length bT):=(ql (aP.out.block n N.out.lt N.out.n1)).trans aA;have ar:bn.frozen? ⟨n,2,none⟩=false:=Zd ((aP.out.block n N.out.lt N.out.n1).trans N.out.blk);have aq:yr bn w.heap.size 0 (.pointer (some ⟨n,0,none⟩)):=(ql (aP.out.block _ bV (fun e=>by have ao:=L.out.2.1 w.heap.size e.symm;omega))).trans bf;clear c5 aV;refine aW _ _ (fun _=>⟨ae,ar,aq⟩) ?_;clear aW I
    try simp only [Act.put,psA,psB,psC]
    refine uQ 8 fun I H=>?_;go_simp;refine H.out _ _ (fun _=>⟨ae,ar,aq⟩) ?_;clear H I
    try simp only [Act.put,psA,psB,psC]
    refine uQ 9 fun I H=>?_;go_simp;refine H.out _ _ (fun _=>⟨ae,ar,aq⟩) ?_;clear H I
    try simp only [Act.put,psA,psB,psC]
    refine uQ 10 fun I H=>?_;go_simp;refine H.out _ _ nD ?_;clear H I;refine uE aL ?_;clear au aL aZ Q'
    obtain⟨aJ,aG,bS⟩:=N.out.putR (rec:=J.getD j []) (rb:=rb) (cb:=cap) rfl bi.out rfl aP.out (bt.out.imp id (fun e=>by rw [e];simp)) (by rw [aX];exact ba.out) c6.out (by rw [aX];exact cI) cN (fun q bU aS=>by
     subst aS;have dk:=db.out q bU;omega)
    obtain⟨c4,cc⟩:=yp (bn.setCell ⟨n,2,none⟩ (.slice (some ⟨cD,0,none⟩) (av.length+1) b8));rw [cc] at aJ aG ⊢;replace aJ:=hI aJ;have b6:=hI aG;replace bS:=hI bS;have bP:=hI ((aG.block _ (Zb cA.out) (fun E=>LdJ.notX ak.out N.out L.out.2.1 L.out.2.2 (by omega) (by omega) E)).trans cA.out);have bK:=hI ((aG.block _ (Zb U.out) (fun E=>LdJ.notX ak.out N.out L.out.2.1 L.out.2.2 (by omega) (by omega) E)).trans U.out);have aY:=(aG.block _ bV (fun E=>LdJ.notX ak.out N.out L.out.2.1 L.out.2.2 (by omega) (by omega) E)).trans ak.out.box;replace aY:=hI aY;clear aG cc aP ba bt ae ar aq aA bg bf l2 bb bc bi aF
    gi_wp2
    obtain⟨an,cq,aw,-⟩:=dr c4;have aw:=aw.out;have aa:=hI (aJ.out.below aw);have cG:=hI ((aw.block _ (Zb bP.out)).trans bP.out);have b3:=hI ((aw.block _ (Zb bK.out)).trans bK.out);have bE:=(aw.block _ (Zb aY.out)).trans aY.out;have b7:=Zb bE;have cC:=hI (b6.out.trans (qW (X:=fun _=>False) aw) (fun b _ h=>h.elim));have bX:=aa.out.cell3;have f3:an.frozen? ⟨n,3,none⟩=false:=Zd aa.out.blk;have bO:yr an w.heap.size 0 (.pointer (some ⟨n,0,none⟩)):=Za bE 0 _ rfl;clear aw bE aJ bP bK aY b6;refine Zkr (by rintro⟨_,_,h⟩;cases h.1) (fun c a k v w h=>h) (fun Q' aL aZ au=>?_);refine ZdO (fun w'=>w'.cell? ⟨n,3,none⟩=some (.slice bl j bm)/\w'.frozen? ⟨n,3,none⟩=false/\w'.cell? ⟨w.heap.size,0,none⟩=some (.pointer (some ⟨n,0,none⟩))) 10 11 (bA 11 0) (by kernel_rfl) (by kernel_rfl) (by kernel_rfl) (by kernel_rfl) au.out ?_;rw [cq];clear cq;refine uR [0,6] aZ.out ⟨bX,f3,bO⟩ ?_;refine uQ 6 fun I H=>?_;go_simp;have l2:(an.alloc (.cells #[.int .i64 (e:Int)] 3)).cell? ⟨n,3,none⟩=_:=(Zh aa.out.lt).trans bX;have bb:(an.alloc (.cells #[.int .i64 (e:Int)] 3)).frozen? ⟨n,3,none⟩=_:=(ZK aa.out.lt).trans f3;have bc:(an.alloc (.cells #[.int .i64 (e:Int)] 3)).cell? ⟨w.heap.size,0,none⟩=_:=(Zh b7).trans bO;refine H.out _ _ (fun _=>⟨l2,bb,bc⟩) ?_;clear H I
    try simp only [Act.put,psA,psB,psC]
    refine uQ 7 fun I aW=>?_;obtain⟨es,bR,bo⟩:=aa.out.own2;replace bo:=hI bo;replace bR:=hI bR;refine step_append_lies _ (by rfl) (.tmp 27) (.tmp 29) 65 (by rfl) 0 3 c7 _ 1 8 underlying65 ac da cM cS rfl (by decide) (.slice bl j bm) j (es.map (Value.int .i64)) (by rfl) (Zo bo.out (fun g az=>qd _ _ _ (ZN bo.out az))) ⟨an.heap.size,0,none⟩ 1 1 [.int .i64 (e:Int)] (by rfl) (by rfl) (World.news_of_block (cs:=#[.int .i64 (e:Int)]) (t:=3) (fr:=(0,0)) (qb an _)) (by simp [Value.oneCell']) (by omega) (by unfold maxLen;omega) (by omega) (qk _) (an.heap.size+1) (by simp) ?_;intro bL b0 bu bQ aV bG dh;replace bQ:=hI bQ;have br:=hI ((qY an _ _).trans aV);replace bG:=hI bG;have ae:yr bu n 3 (.slice bl j bm):=(ql (br.out.block n aa.out.lt aa.out.n2)).trans bX;have ar:bu.frozen? ⟨n,3,none⟩=false:=Zd ((br.out.block n aa.out.lt aa.out.n2).trans aa.out.blk);have aq:yr bu w.heap.size 0 (.pointer (some ⟨n,0,none⟩)):=(ql (br.out.block _ b7 (fun e=>by have ao:=L.out.2.2 w.heap.size e.symm;omega))).trans bO;clear aV;refine aW _ _ (fun _=>⟨ae,ar,aq⟩) ?_;clear aW I
    try simp only [Act.put,psA,psB,psC]
    refine uQ 8 fun I H=>?_;go_simp;refine H.out _ _ (fun _=>⟨ae,ar,aq⟩) ?_;clear H I
    try simp only [Act.put,psA,psB,psC]
    refine uQ 9 fun I H=>?_;go_simp;refine H.out _ _ (fun _=>⟨ae,ar,aq⟩) ?_;clear H I
    try simp only [Act.put,psA,psB,psC]
    refine uQ 10 fun I H=>?_;go_simp;refine H.out _ _ nD ?_;clear H I;refine uE aL ?_;clear au aL aZ Q'
    obtain⟨co,bq,cW⟩:=aa.out.putE (V:=.slice (some ⟨bL,0,none⟩) (j+1) b0) (es:=es++[(e:Int)]) br.out (by rw [qi,bR];rfl) (by rw [qm];exact bQ.out) (fun g az=>by
     have aS:bL=g:=(by simpa [Value.ownBlock] using az);subst aS;exact bG.out.imp id (fun e=>by rw [e];simp))
    obtain⟨dm,dc⟩:=yp (bu.setCell ⟨n,3,none⟩ (.slice (some ⟨bL,0,none⟩) (j+1) b0));rw [dc] at co bq ⊢;have bw:=bS.out
    have cn:∀ b,w.heap.size<=b->b<w.heap.size+6->¬ JrnX n (.slice (some ⟨cD,0,none⟩) (av.length+1) b8) (.slice bl j bm) b:=fun b R aj E=>by
     rcases bw b E with ao | ao
     .exact LdJ.notX ak.out N.out L.out.2.1 L.out.2.2 R aj ao
     have:=ak.out.hi;omega
    have cZ:=(bq.block _ (Zb cG.out) (cn _ (by omega) (by omega))).trans cG.out;have cX:=(bq.block _ (Zb b3.out) (cn _ (by omega) (by omega))).trans b3.out
    have cT:=ak.out.more (by rw [aU];exact N.out) L.out.1 L.out.2.1 L.out.2.2 ce (by rw [aU];exact co) (cC.out.trans bq (fun b z E=>(bw b E).elim id (fun ao=>by omega))) (fun b z=>by
     rcases cW b z with ao | ao
     .rcases bw b ao with cp | cp
      .exact .inl cp
      exact .inr (by omega)
     exact .inr (by have:=cC.out.size;omega)) (fun b (z:i b\/b=rb)=>z.imp id (fun ao=>by have:=b2.out;omega))
    exact⟨rfl,cZ,cT,cX⟩
   rintro aS dg ⟨rfl,aD,⟨R,aj⟩,be,rfl⟩;have az:=grownBy_putObj' aD (w.heap.size+4+1) (.loop r);exact⟨rfl,R.putObj be (fun _ _ _ e=>by cases e) (by omega) (by omega),World.putObj_heap_same (Zb be),(az.block _ (Zb aj) (fun e=>by injection e with e;omega)).trans aj⟩
  .exact heap_alloc_new' (by simp [ah])
  .exact(heap_alloc_old _ _ (by simp [ah])).trans (heap_alloc_new' (by simp [ah]))
  rintro aS dg ⟨c8,R,aj,be⟩;exact⟨c8,aj,be,R⟩
 intro K r M W U;obtain⟨af,bN⟩:=yp (K.putObj (ab.heap.size+1) (.loop { state:=.exhausted,pending:=r.pending,fn:=r.fn,tmps:=r.tmps,params:=r.params,assign:=r.assign,body:=r.body,defers:=r.defers }));have ah:=cf.out;have ay:=M.putObj (o':=.loop { state:=.exhausted,pending:=r.pending,fn:=r.fn,tmps:=r.tmps,params:=r.params,assign:=r.assign,body:=r.body,defers:=r.defers }) W (fun _ _ _ e=>by cases e) (by omega) (by omega)
 have bM:af.heap[w.heap.size+4]?=some (.deferred (some [])):=by
  rw [<-bN,<-ah];exact((grownBy_putObj' K _ _).block _ (Zb U) (fun e=>by injection e with e;omega)).trans U
 rw [bN] at ay ⊢;rw [ah];have aT:=hI ay;replace bM:=hI bM;have:yr af (w.heap.size+1) 0 (.int .i64 0):=Za ay.r1 0 _ rfl;have:yr af (w.heap.size+1+1) 0 (.bool false):=Za ay.r2 0 _ rfl;have:af.frozen? ⟨w.heap.size+1,0,none⟩=false:=Zd ay.r1;have bg:af.frozen? ⟨w.heap.size+1+1,0,none⟩=false:=Zd ay.r2;clear M W U bN ah ay
 gi_wp2
 obtain⟨O,aR⟩:=yp ((af.setCell ⟨w.heap.size+1,0,none⟩ (.int .i64 (len:Int))).setCell ⟨w.heap.size+1+1,0,none⟩ (.bool false));have cO:∀ b,b≠w.heap.size+1->b≠w.heap.size+2->O.heap[b]?=af.heap[b]?:=(fun b R aj=>by rw [<-aR];exact(qc _ _ _ _ aj).trans (qc _ _ _ _ R));have dd:Fr (fun b=>b=w.heap.size+1\/b=w.heap.size+2) af O:=(by rw [<-aR];exact((Qa _ af).setCell _ (fun _=>.inl rfl)).setCell _ (fun _=>.inr rfl));have cg:O.heap[w.heap.size+1]?=some (.cells [.int .i64 (len:Int)].toArray 3 (0,0)):=(by rw [<-aR];exact(qc _ _ _ _ (by simp)).trans (Zc (vs:=[.int .i64 0]) (k:=0) aT.out.r1));have bZ:O.heap[w.heap.size+1+1]?=some (.cells [.bool false].toArray 4 (0,0)):=(by rw [<-aR];exact Zc (vs:=[.bool false]) (k:=0) ((qc _ _ _ _ (by simp)).trans aT.out.r2));rw [aR];have de:O.heap[w.heap.size+4]?=some (.deferred (some [])):=(cO _ (by omega) (by omega)).trans bM.out;refine⟨by simp,.inl ⟨_,_,rfl,run_takeDeferred de,?_⟩⟩;refine⟨by simp,.inr ⟨fun _=>by omega,_,_,162,#[.pointer (some ⟨w.heap.size+1,0,none⟩),.pointer (some ⟨w.heap.size+1+1,0,none⟩)],rfl,by simp [invoke,go_sem],fun _ _=>trivial,?_⟩⟩;refine(load1_idle _ _ _ _).mono ?_;rintro e dq cY ⟨rfl,rfl,rfl⟩;have cP:(O.putObj (w.heap.size+4) (.deferred none)).heap.size=O.heap.size:=(by simp);have cU:=grownBy_putObj' O (w.heap.size+4) (.deferred none);have bh:Fr (fun b=>b=w.heap.size+4) O (O.putObj (w.heap.size+4) (.deferred none)):=Qc cU (fun b _ e=>by injection e with e);have b4:yr (O.putObj (w.heap.size+4) (.deferred none)) (w.heap.size+1) 0 (.int .i64 (len:Int)):=Za ((bh.block _ (Zb cg) (by omega)).trans cg) 0 _ rfl;have aA:yr (O.putObj (w.heap.size+4) (.deferred none)) (w.heap.size+1+1) 0 (.bool false):=Za ((bh.block _ (Zb bZ) (by omega)).trans bZ) 0 _ rfl;obtain⟨aD,c9⟩:=yp (O.putObj (w.heap.size+4) (.deferred none));rw [c9] at cP bh b4 aA ⊢;simp only [LeavesInM,LeavesIn,settle];obtain⟨V1,V2,i,M,cH,cv,ct⟩:=aT.out.jr;have bp:=aT.out.fr;have dl:=aT.out.hi;have bF:Fr (fun b=>b=w.heap.size+1\/b=w.heap.size+2\/b=w.heap.size+4) af aD:=(dd.mono (fun b _ h=>h.elim .inl (fun h=>.inr (.inl h)))).trans bh (fun b _ h=>.inr (.inr h));have di:=aN.out.lt;rw [qM] at M;refine⟨_,by simp [results,results104,go_sem,b4,aA],rfl,V1,V2,i,M.keep bF.size (fun b z=>bF.block b (z.elim (M.xlt b) (M.slt b)) (fun E=>?_)),bp.trans bF (fun b z E=>by rcases E with E | E | E<;>omega),fun b z=>?_,fun b z=>by have:=cH b z;omega⟩
 .rcases z with (z | z | z) | z
  .rcases E with E | E | E<;>omega
  .have:=cv b z;rcases E with E | E | E<;>omega
  .have:=ct b z;rcases E with E | E | E<;>omega
  have:=cH b z;rcases E with E | E | E<;>omega
 rcases z with z | z | z
 .exact .inl z
 .have:=cv b z;exact .inr (by omega)
 have:=ct b z;exact .inr (by omega)
end Go.Proofs.YtjadnfodboepeaaGreat
namespace Go.Proofs.YtjadnfodboepeaaGreat
open Tryz
open Go Go.RowKit
variable {w:World} {n k m:Nat} {A:Option Addr} {S:Nat->Prop} {x xA:Value} {J:List (List Int)}
abbrev BysS (w:World) (S:Nat->Prop) (A:Option Addr) (l:List (List Int)):Prop:=Sl w S A (l.map ZcV)
section
variable {w w':World} {S S':Nat->Prop} {A:Option Addr} {l:List (List Int)}
theorem BysS.at_ (h:BysS w S A l) {k:Nat} (F:k<l):∃ b z,A=some ⟨b,z,none⟩/\S b/\∃ A' c,yr w b (z+k) (.slice A' (l.getD k []).length c)/\(l.getD k []).length<=c/\BtS w S A' (l.getD k []):=by
 obtain⟨b,z,e,M,E⟩:=Qf (n:=1) (fun _=>rfl) [] h F;rw [Nat.mul_one] at E;simp only [ZcV,Dat.Held,qg] at E;obtain⟨A',c,H,L,I,K⟩:=E;exact⟨b,z,e,M,A',c,H,L,⟨by simpa using I,by simpa using K⟩⟩
theorem JrnM.recs_ {j d i ne:Nat} {V1 V2:Value} {z:List (List Int)} (h:JrnM w j d i V1 V2 S z ne) (K:z.length<=1000000000):∃ A c,V1=.slice A z c/\z.length<=c/\BysS w (fun b=>S b\/V1.ownBlock=some b) A z:=by
 obtain⟨A,c,e⟩:∃ A c,V1=.slice A z c:=by
  obtain⟨vals,E,_⟩:=h.own1;rw [qg] at E;exact ZcJ E
 subst e;obtain⟨E,F,H⟩:=h.own1.slice (S':=fun b=>S b\/(Value.slice A z c).ownBlock=some b) (by rw [Ze (n:=24) (fun _=>rfl)];omega) (fun b I=>.inl I) (fun g _ _ e=>.inr e);exact⟨A,c,rfl,F,H⟩
end
theorem jlen_any {ne:Nat} (h:JrnM w n k m x xA S J ne) (E:J.length<=1000000) :
 Calls prog 113 #[.pointer (some ⟨n,0,none⟩)] w fun e w'=>e=.returned (.int .i64 (J:Int))/\w'=w:=by
 obtain⟨A,c,rfl,_,_⟩:=h.recs_ ya;have c2:=h.cell2;clear h;go_enter func113,ntmps113
 go_wp2
 go_ret;simp
theorem jclone_any (c:Nat) (h:BysS w S A J) (aQ:∀ b,S b->b<w) (aZ:J.length<=1000000) (W:∀ r ∈ J,r.length<=1000000) (bc:J.length<=c) :
 Calls prog 167 #[.slice A J c] w fun e w'=>∃ A' ae,e=.returned (.slice A' J ae)/\Mk w' w (fun _=>False) 22 1 (.slice A' J ae) (J.map ZcV)/\Below w w w':=by
 obtain⟨an,ak,aB,aI,aL⟩:=qA ZcN;obtain⟨au,ac,aw,af,ai⟩:=qA Zkp;replace h:=hI h;replace W:=hI W;go_enter func167,ntmps167
 go_wp2
 go_loopw [3,8] (fun aF i aj=>∃ (k:Nat) (L:Option Addr) (c1:Nat),k<=J/\i=.int .i64 k/\aF=.slice L k c1/\Mk aj w (fun _=>False) 22 1 (.slice L k c1) ((J.take k).map ZcV)/\Below w w aj) (fun _ i _=>J.length - (intOf i).toNat)
 case atStart=>exact⟨0,none,0,qk _,rfl,rfl,Qe (fun b ah=>ah.elim) nR _ _,qa _ _⟩
 obtain⟨k,L,c1,aU,rfl,rfl,z,R⟩:=hrel;replace z:=hI z;have M:=hI R;have aX:=R.size;clear R
 by_cases H:k<J
 .obtain⟨aS,aY,rfl,bb,ba,c2,aH,ax,I⟩:=BysS.at_ (qU h (qS M aQ)) H;have aq:=W (J.getD k []) (by rw [show J.getD k []=J[k] by simp [List.getD,H]];exact qJ H);have ab:=hI (show J.take (k+1)=J.take k++[J.getD k []] from ZaI H);replace I:=hI I;generalize J.getD k []=r at aH ax I ab aq;rcases qF r.length with K | K
  .obtain rfl:r=[]:=qN K;clear K aq
   go_wp2_with (first | (at_builtin;refine Zam rfl (.const (.slice none 0 0)) (.tmp 13) 22 rfl underlying22 ak 0 rfl c2 rfl ?_) | (at_builtin;refine Zl rfl (.tmp 12) (.tmp 15) 190 rfl 24 underlying190 ac aw af ai rfl yf z rfl #[.slice none 0 0] (ZeA (A:=none) (n:=0) (l:=[]) nR Qd) (by simp [ZcV,Dat.Plain]) rfl 1 rfl ya ya ?_;intro ay aC aD E F aA;have Z:=hI E;have O:=hI F;clear E F))
   go_roundw
   case rel=>exact⟨k+1,_,_,ya,by go_num,rfl,by rw [ab,qm];exact Z,M.trans O⟩
   simp [intOf];omega
  obtain⟨b,ao,e,ah,ar⟩:=I.vals K;subst e;have aE:=hI (show ∀ j u,(r.map bv)[j]?=some u->wr.cell? ((⟨b,ao,none⟩:Addr).add j)=some u from fun j u aN=>by rw [add_none];exact ar j u aN);clear ar
  go_wp2_with (first | (at_builtin;refine wpList_append_own _ rfl (.const (.slice none 0 0)) (.tmp 13) 22 rfl wr.heap.size 5 an _ 1 1 underlying22 ak aB aI aL rfl yf (.slice none 0 0) 0 [] rfl (qV _ _ _ _) ⟨b,ao,none⟩ r.length c2 (r.map bv) rfl yb aE (Zgh r) yh ya yb ?_;intro aW aT U am aJ;rw [qP,qx] at U;obtain⟨aP,ap,rfl,aa⟩:=Qm (T:=r) U rfl rfl;have aO:=hI aa;have N:=(qa wr wr).grown am yb (fun k e=>by simp [Value.ownBlock] at e);have az:=hI N;have aV:=N.size;have aM:=hI (z.below N);have aR:r.length<=ap:=Zas aa rfl;clear U am aJ aa N) | (at_builtin;refine Zl rfl (.tmp 12) (.tmp 15) 190 rfl 24 underlying190 ac aw af ai rfl yf aM rfl #[.slice aP r ap] (Dat.Vs.more (fun q aG=>.inr ⟨ya,aG.2,fun e=>yl ((z.base_le e.symm).2)⟩) _ _ (ZeA aR (BY.bts aO ya))) (by simp [ZcV,Dat.Plain]) rfl 1 rfl ya ya ?_;intro ay aC aD E F aA;have Z:=hI E;have O:=hI F;clear E F))
  go_roundw
  case rel=>exact⟨k+1,_,_,ya,by go_num,rfl,by rw [ab,qm];exact Z,M.trans ((az.mono ya).trans O)⟩
  simp [intOf];omega
 have aK:k=J.length:=ya;subst aK
 go_wp2
 go_ret;have av:=z.out;rw [qM] at av;exact⟨L,c1,rfl,av,M⟩
theorem ZeW {ne:Nat} (h:JrnM w n k m x xA S J ne) (O:J.length<=1000000) (L:∀ r ∈ J,r.length<=1000000) :
 Calls prog 108 #[.pointer (some ⟨n,0,none⟩)] w fun e w'=>∃ A' K,e=.returned (.slice A' J K)/\J.length<=K/\BysS w' (fun b=>w<=b/\b<w') A' J/\Below w w w':=by
 obtain⟨A,c,rfl,U,M⟩:=h.recs_ ya;have c2:=h.cell2;have I:=hI (jclone_any c M (fun b E=>E.elim (h.slt b) (fun e=>h.xlt b (.inr (.inl e)))) O L U);clear h M L;go_enter func108,ntmps108
 go_wp2_with fail
 refine I.mono ?_;rintro e w2 ⟨N,c2,rfl,F,H⟩;replace F:=hI F;replace H:=hI H;clear I
 go_wp2
 go_ret;obtain⟨-,W,R⟩:=F.slice (by rw [Ze (n:=24) (fun _=>rfl)];omega);exact⟨N,c2,rfl,W,qZ R (fun b E=>E.elim (fun h=>h.elim) id),H⟩
theorem jopen_any {room:Nat} {V:Nat->Value} {ai:Nat->Int} {F:List (List Int)} (h:DskM w n room V ai J) (ax:k<8) (R:J.getD k []=Zr F) (au:(Zr F).length<=100000000) (W:∀ r ∈ F,r.length<=1000000/\Zbn r) (ay:F.length<=1000) :
 Calls prog 49 #[.pointer (some ⟨n,0,none⟩),.int .i64 (k:Int)] w fun e w'=>∃ j V1 V2 S,e=.returned (.tuple #[.pointer (some ⟨j,0,none⟩),.int .i64 0])/\JrnM w' j n k V1 V2 S F F/\Below w w w'/\(∀ b,JrnX j V1 V2 b->w<=b)/\∀ b,S b->w<=b:=by
 have I:=dread_any k ax h (by rw [R];omega);rw [R] at I;replace I:=hI I;replace W:=hI W;obtain⟨len,E⟩:=yp ((Zr F).length);rw [E] at I au;replace E:=hI E;clear h R;go_enter func49,ntmps49
 go_wp2_with fail
 refine I.mono ?_;rintro e K ⟨ap,c1,rfl,L,ab⟩
 have an:len<=c1\/(len=0):=by
  rcases qF len with ae | ae
  .exact .inr ae
  refine .inl ?_;rcases L.2 with ⟨af,aa⟩ | ⟨g,cap,aC,af,_⟩
  .rw [E] at aa;omega
  injection af with az aB aE;subst az;have:=Zas L rfl;rw [E] at this;exact this
 have ar:len<=c1:=ya;have av:=hI (BY.bts L (by rw [E];omega));have aw:=hI ab;have aq:=ab.size;clear L ab I an
 go_wp2_with fail
 obtain⟨w2,N,H,-⟩:=al K (.cells #[.pointer (some ⟨n,0,none⟩),.int .i64 (k:Int),.slice none 0 0,.slice none 0 0,.bool false] 192);have H:=H.out;have am:w2.heap[K.heap.size]?=some (.cells (jrnL n k (.slice none 0 0) (.slice none 0 0)).toArray 192 (0,0)):=(by rw [<-N];exact qb K _);rw [N];have ah:JrnM w2 K n k (.slice none 0 0) (.slice none 0 0) (fun _=>False) [] 0:=⟨am,Qg (fun b z=>z.elim),⟨[],rfl,qV _ _ _ _⟩,fun b z=>z.elim,fun z=>z⟩;have M:=hI (load_any c1 ah (qU av (fun b z=>H.block b z.2)) (fun b z=>⟨yl H.size,ya⟩) (by rw [E];exact ar) W ay);rw [E] at M;have ao:=hI H;have aD:=H.size;clear N am H ah
 go_wp2_with fail
 refine M.mono ?_;rintro e aA ⟨rfl,V1,V2,S,U,O,ak,aj⟩;replace U:=hI U;replace O:=hI O;have ac:=hI (And.intro ak aj);clear ak aj M
 go_wp2
 go_ret2;refine⟨_,V1,V2,S,yb,U,(aw.trans (ao.mono aq)).trans ((O.below (n:=w) ya (fun b z e=>ya))),fun b z=>?_,fun b z=>?_⟩
 .rcases ac.1 b z with aa | aa<;>omega
 have:=ac.2 b z;omega
end Go.Proofs.YtjadnfodboepeaaGreat
