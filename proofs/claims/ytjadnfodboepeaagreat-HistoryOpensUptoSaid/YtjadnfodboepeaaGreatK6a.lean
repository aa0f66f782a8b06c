import Derived.Test.YtjadnfodboepeaaGreatKdk
import Derived.Test.YtjadnfodboepeaaGreatKi2
set_option linter.all false
set_option maxRecDepth 100000
set_option maxHeartbeats 8000000
namespace Go.Proofs.YtjadnfodboepeaaGreat
open Tryz
open Go.RowKit
variable {w:World} {n k m:Nat} {A:Option Addr} {S:Nat->Prop} {a:Int} {l:List Int} {s:Sch} {h:ByteArray} {M:V} {Q:Act}
theorem Fr.frozenF {X:Nat->Prop} {w w':World} (h:Fr X w w') {b o:Nat} (E:b<w) (z:¬ X b):w'.frozen? ⟨b,o,none⟩=w.frozen? ⟨b,o,none⟩:=World.frozen?_of_block (h.block b E z)
theorem ZhG {key:Int} {r:Row} (h:ZjH key a l r) (I:l.length<=1000000):RowOk r:=by
 refine⟨by rw [h.1];omega,fun v H=>?_⟩;obtain⟨i,F,rfl⟩:=List.getElem_of_mem H;have z:=h.2 i (by rw [<-h.1];exact F);rw [ZfO F] at z;unfold Zcd at z;simp only [qE] at z;have:=ZeJ z.1;omega
theorem ZfB {r:Row} (h:RowOk r):RowOk (keyF s a r):=by
 unfold keyF;split
 .exact⟨by rw [qG];have:=h.1;omega,fun v z=>h.2 v (List.mem_of_mem_take z)⟩
 exact⟨yb,fun v z=>by simp at z⟩
structure StI (w wr:World) (g:Nat) (S:Nat->Prop) (s:Sch) (A0:Option Addr) (c0':Nat) (m:Int) (cur:St):Prop where
 stc:StC wr (fun b=>S b\/(w.heap.size+4<=b/\b<wr)) (w+2) cur
 ok:StOk s m cur
 b0:wr.cell? ⟨w,0,none⟩=some (.int .i64 s.vv)
 b1:wr.cell? ⟨w,1,none⟩=some (.slice A0 s.tt c0')
 r0:wr.cell? ⟨w+1,0,none⟩=some (.slice none 0 0)
 rf:wr.frozen? ⟨w+1,0,none⟩=false
 t0:wr.cell? ⟨w+3,0,none⟩=some (.slice (some ⟨w+2,0,none⟩) s.tt.length s.tt.length)
 tf:wr.frozen? ⟨w+3,0,none⟩=false
 case:CaseOk wr g
 gr:w.grownBy wr (some g)
 sz:w.heap.size+4<=wr
section
variable {w wr wx wp:World} {g:Nat} {S:Nat->Prop} {s:Sch} {A0:Option Addr} {c0':Nat} {m:Int} {cur cur':St}
theorem StI.keep (h:StI w wr g S s A0 c0' m cur) (E:Fr (fun b=>b=g) wr wx) (I:CaseOk wx g) (M:g<w) (H:∀ b,S b->b<w/\b≠g):StI w wx g S s A0 c0' m cur:=by
 have N:=h.sz;have L:=E.size;refine⟨(h.stc.fr E (fun b z K=>⟨fun F=>?_,ya⟩)).more (fun b z=>z.imp id (fun z=>⟨z.1,yl z.2⟩)) (fun b z=>?_),h.ok,(E.cell ya ya).trans h.b0,(E.cell ya ya).trans h.b1,(E.cell ya ya).trans h.r0,(E.frozenF ya ya).trans h.rf,(E.cell ya ya).trans h.t0,(E.frozenF ya ya).trans h.tf,I,h.gr.trans E.grown,ya⟩
 .rcases F with F | F
  .exact(H b F).2 z
  omega
 rcases z with z | z
 .have:=H b z;omega
 exact⟨z.2,yl z.1⟩
theorem StI.put (h:StI w wr g S s A0 c0' m cur) (ai:g<w) (O:∀ b,S b->b<w/\b≠g) (F:Below wr wr wx) (R:StC wp (fun b=>(S b\/(w.heap.size+4<=b/\b<wx))\/New wx wp b) (w+2) cur') (I:Fr (fun b=>b=w.heap.size+2) wx wp) (ab:StOk s m cur') :
 StI w (wp.setCell ⟨w+3,0,none⟩ (.slice (some ⟨w+2,0,none⟩) s.tt.length s.tt.length)) g S s A0 c0' m cur':=by
 have af:=h.sz;have ah:=F.size;have ae:=I.size;have K:∀ b,b≠w.heap.size+3->(wp.setCell ⟨w+3,0,none⟩ (.slice (some ⟨w+2,0,none⟩) s.tt.length s.tt.length)).heap[b]?=wp.heap[b]?:=fun b F=>qc wp ⟨w+3,0,none⟩ _ b F;have M:∀ b,b<wr.heap.size->b≠w.heap.size+2->wp.heap[b]?=wr.heap[b]?:=fun b E L=>(I.block b ya L).trans (F.block b E);have H:∀ b,b<wr.heap.size->b≠w.heap.size+2->b≠w.heap.size+3->(wp.setCell ⟨w+3,0,none⟩ (.slice (some ⟨w+2,0,none⟩) s.tt.length s.tt.length)).heap[b]?=wr.heap[b]?:=fun b E L Z=>(K b Z).trans (M b E L)
 have U:∀ b,((S b\/(w.heap.size+4<=b/\b<wx))\/New wx wp b)->S b\/(w.heap.size+4<=b/\b<wp):=fun b z=>by
  rcases z with (z | z) | z
  .exact .inl z
  .exact .inr ⟨z.1,yl z.2⟩
  exact .inr ⟨by have:wx<=b:=z.1;omega,z.2⟩
 have N:∀ b,(S b\/(w.heap.size+4<=b/\b<wp))->b<wp/\b≠w.heap.size+2:=fun b z=>by
  rcases z with z | z
  .have:=O b z;omega
  exact⟨z.2,yl z.1⟩
 have W:=R.more (S':=fun b=>S b\/(w.heap.size+4<=b/\b<wp)) U N;refine⟨(W.keep yb (fun b z=>K b ?_) (K (w+2) ya)).more (fun b z=>z.imp id (fun z=>⟨z.1,by have:=z.2;simpa using this⟩)) (fun b z=>?_),ab,?_,?_,?_,?_,?_,?_,?_,?_,yd⟩
 .rcases z with z | z
  .have:=O b z;omega
  have:=z.1;omega
 .have:=N b (by simpa using z);simpa using this
 .exact(ql (H (w.heap.size) ya ya ya)).trans h.b0
 .exact(ql (H (w.heap.size) ya ya ya)).trans h.b1
 .exact(ql (H (w+1) ya ya ya)).trans h.r0
 .exact(World.frozen?_of_block (H (w+1) ya ya ya)).trans h.rf
 .exact Qr _ _ _ ((ql (M (w+3) ya ya)).trans h.t0)
 .rw [World.frozen?_setCell];exact(World.frozen?_of_block (M (w+3) ya ya)).trans h.tf
 .exact h.case.keep (fun b z=>H b ya ya ya)
 have E:=h.gr;refine⟨?_,?_,?_,yd,fun b ac aa=>(H b ya ya ya).trans (E.block b ac aa)⟩
 .exact I.os.trans (F.os.trans E.os)
 .exact I.tape.trans (F.tape.trans E.tape)
 exact I.output.trans (F.output.trans E.output)
end
def CntOk (z:St) (t E:Nat):Prop:=(∀ j,(z.getD j []).length<=4)/\(z.getD t []).length+E<=4/\∀ j,t<j->z.getD j []=[]
theorem CntOk.put {z:St} {t H:Nat} {P:List Row} (h:CntOk z t (H+1)) (K:t<z) (L:P.length<=(z.getD t []).length+1):CntOk (z.set t P) t H:=by
 have F:(z.set t P).getD t []=P:=(by simp [List.getD,K]);have I:∀ j,j≠t->(z.set t P).getD j []=z.getD j []:=(fun j E=>by simp [List.getD,List.getElem?_set_ne (Ne.symm E)]);refine⟨fun j=>?_,?_,fun j E=>?_⟩
 .by_cases E:j=t
  .rw [E,F];have:=h.2.1;omega
  rw [I j E];exact h.1 j
 .rw [F];have:=h.2.1;omega
 rw [I j ya];exact h.2.2 j E
theorem Zjn (j:Nat) :(List.replicate j ([]:List Row)).getD n []=[]:=by
 by_cases h:n<j<;>simp [List.getD,h]
def StatePost (s:Sch) (m:Int) (S:Nat->Prop) (w:World) (g:Nat) (e:Ending) (w':World):Prop:=∃ (z:Nat) (st:St),e=.returned (ZaM (some ⟨z,0,none⟩) st.length st.length)/\StOk s m st/\(∀ j,(st.getD j []).length<=4)/\w<=z/\StC w' (fun b=>S b\/(z<b/\b<w')) z st/\CaseOk w' g/\w.grownBy w' (some g)
theorem state_any (I:Nat) (aG:TabS w S A s.tt) (bJ:∀ b,S b->b<w/\b≠n) (az:GenS s) (aH:Zao a=true) (aw:CaseOk w n) :
 Calls prog 11 #[.pointer (some ⟨n,0,none⟩),sAgg s.vv A s.tt I,.int .i64 a] w (StatePost s a S w n):=by
 have aE:=aw.lt;have bR:=az.len;replace aG:=hI aG;have M:=hI bJ;replace az:=hI az;replace aw:=hI aw;replace aH:=hI aH;have bz:∀ w:World,(Instr.makeSlice 26 (.int .i64 (s.tt:Int)) (.int .i64 (s.tt:Int))).run prog w=.ok (.slice (some ⟨w,0,none⟩) s.tt.length s.tt.length) (w.alloc (.cells (Zk s.tt).toArray 145)):=fun w=>ZaQ s.tt ya w;go_enter func11,ntmps11
 go_wp2_with fail
 clear bz;rw [show w.heap.size+1+1+1=w.heap.size+3 from rfl,show w.heap.size+1+1=w.heap.size+2 from rfl];obtain⟨bn,aM⟩:=yp ((((w.alloc (.cells #[.int .i64 s.vv,.slice A s.tt I] 25)).alloc (.cells #[.slice none 0 0] 28)).alloc (.cells (Zk s.tt).toArray 145)).alloc (.cells #[.slice (some ⟨w+2,0,none⟩) s.tt.length s.tt.length] 28))
 have bH:=hI (show StI w bn n S s A I a (List.replicate s.tt []) from by
  subst aM;have z:Below w w ((((w.alloc (.cells #[.int .i64 s.vv,.slice A s.tt I] 25)).alloc (.cells #[.slice none 0 0] 28)).alloc (.cells (Zk s.tt).toArray 145)).alloc (.cells #[.slice (some ⟨w+2,0,none⟩) s.tt.length s.tt.length] 28)):=((((qa w w).alloc nR _).alloc yb _).alloc yd _).alloc yd _
  have br:(((((w.alloc (.cells #[.int .i64 s.vv,.slice A s.tt I] 25)).alloc (.cells #[.slice none 0 0] 28)).alloc (.cells (Zk s.tt).toArray 145)).alloc (.cells #[.slice (some ⟨w+2,0,none⟩) s.tt.length s.tt.length] 28))).heap[w.heap.size+2]?=some (.cells (Zk s.tt).toArray 145 (0,0)):=by
   refine(qd _ _ _ yb).trans ?_;have:=qb ((w.alloc (.cells #[.int .i64 s.vv,.slice A s.tt I] 25)).alloc (.cells #[.slice none 0 0] 28)) (.cells (Zk s.tt).toArray 145);simpa using this
  exact⟨(StC.made br).more (fun _ h=>h.elim) (fun b ac=>by
   rcases ac with ac | ac
   .have:=M b ac;simp;omega
   exact⟨ac.2,yl ac.1⟩),stOk_nil _ rfl,(Zh (by simp<;>omega)).trans ((Zh (by simp<;>omega)).trans ((Zh yb).trans (Zm rfl rfl))),(Zh (by simp<;>omega)).trans ((Zh (by simp<;>omega)).trans ((Zh yb).trans (Zm rfl rfl))),(Zh (by simp<;>omega)).trans ((Zh yb).trans (Zm yb rfl)),(ZK (by simp<;>omega)).trans ((ZK yb).trans (ZaC yb)),Zm yb rfl,ZaC yb,aw.keep (fun b ac=>z.block b ya),(qW (X:=fun b=>b=n) z).grown,yb⟩)
 rw [aM];clear aM aw
 go_loopw [19] (fun i wr=>∃ (t:Nat) (K:St),t<=s.tt/\i=.int .i64 t/\StI w wr n S s A I a K/\(∀ j,(K.getD j []).length<=4)/\∀ j,t<=j->K.getD j []=[]) (fun i _=>s.tt.length - (intOf i).toNat)
 case atStart=>exact⟨0,_,qk _,rfl,bH,fun j=>by rw [Zjn];simp,fun j _=>Zjn _⟩
 obtain⟨t,K,bL,rfl,af,ay,ax⟩:=hrel;have E:=hI af;replace ay:=hI ay;replace ax:=hI ax;have aR:=af.sz;clear af
 by_cases an:t<s.tt
 .go_wp2_with fail
  refine(Zal (n:=n) (a:=5) ya E.case).mono ?_;rintro e bW ⟨r,rfl,r0,bi,-,bm,bj,bw⟩;have bU:=bi ya;obtain⟨R,rfl⟩:=qn r0;have aS:=hI (E.keep (Zcc bj) bm aE M);clear bm bj bw bi
  go_wp2
  go_loopw [9] (fun i wr=>∃ (R:Nat) (K:St),R<=4/\i=.int .i64 R/\StI w wr n S s A I a K/\CntOk K t R) (fun i _=>(intOf i).toNat)
  case atStart=>exact⟨R,K,ya,rfl,aS,ay,by rw [ax t nR];simp;omega,fun j bp=>ax j ya⟩
  clear E aS ay ax aR;obtain⟨R,K,b1,rfl,af,ai⟩:=hrel;have E:=hI af;replace ai:=hI ai;have aR:=af.sz;clear af;rcases qF R with be | be
  .subst be
   go_wp2
   go_roundw
   case rel=>exact⟨t+1,K,ya,by go_num,E,ai.1,fun j bp=>ai.2.2 j ya⟩
   (simp [intOf];try omega)
  obtain⟨n1,rfl⟩:∃ n1,R=n1+1:=⟨R - 1,ya⟩;have aX:∀ b,S b->b<w:=fun b z=>(M b z).1;have aT:Same S w wr:=fun b z=>E.gr.block b (aX b z) (fun e=>(M b z).2 (by injection e));have aF:=hI (aG.keep aT);have aB:∀ b,S b->b<wr:=(fun b z=>yl (aX b z));obtain⟨N,am,rfl,bk,bM,b0,bO,c1,c2,bT,bc⟩:=aF.at_ an;have aZ:N<wr:=aB N bk;have aD:w.heap.size<wr:=ya;have aU:¬ w.heap.size=n:=ya;have bE:¬ N=n:=(M N bk).2;have ah:=E.b0;have aa:=E.b1;have Z:=bc.key;have aK:(Zav s t).length<=1000000:=(yl ((az.kinds an).2));have ba:=hI (fun (r:Row) (h:ZjH (s.tt.getD t t0).key a (Zav s t) r)=>rowGen_fits az aH an h);clear bc aT;generalize (s.tt.getD t t0).key=aY at Z ba
  go_wp2
  refine uS (fun w'=>w'.cell? ⟨w,0,none⟩=some (.int .i64 s.vv)/\w'.cell? ⟨w,1,none⟩=some (.slice (some ⟨N,am,none⟩) s.tt.length I)/\w'.cell? ⟨N,am+t*5+2,none⟩=some (.int .i64 aY)) 13 13 fun Q' au ap=>?_;refine uR [0,3,4,7] ap ⟨ah,aa,Z⟩ ?_;refine uQ 3 fun U H=>?_;go_simp;refine(Zel (some ⟨N,am,none⟩) I s t S (w:=wr.drew) (aF.keep (fun _ _=>rfl)) aB).mono ?_;rintro e ab ⟨bG,bI,rfl,aL,bQ,-,av⟩;have F:Below wr wr ab:=(qa _ wr).drew.trans av;have bS:=F.size;replace aL:=hI aL;clear av;have p0:=c9Q F aD ah;have aC:=c9Q F aD aa;have ar:=c9Q F aZ Z;refine H _ _ (fun _=>⟨p0,aC,ar⟩) ?_;clear H U
  try simp only [Act.put,psA,psB,psC]
  refine uQ 11 fun U H=>?_;go_simp;refine(row_any (n:=n) (A:=bG) (k:=bI) (l:=Zav s t) (key:=aY) (a:=a) (S:=New wr.drew ab) (w:=ab) aL (fun b z=>⟨z.2,by have bl:wr<=b:=z.1;omega⟩) aK (E.case.keep (fun b z=>F.block b ya))).mono ?_;rintro e L ⟨row,bb,aW,rfl,aq,bh,bf,aQ⟩;replace aq:=hI aq;have aI:=hI (ZaR bh (ZhG aq aK) nR);have aj:=hI (show Fr (fun b=>b=n) wr L from (qW F).trans (Zcc aQ) (fun _ _ e=>e));have W:=hI (E.keep aj bf aE M);clear bh bf;have ak:=(aj.cell (b:=w) aD aU).trans ah;have ao:=(aj.cell (b:=w) aD aU).trans aa;have aA:=(aj.cell (b:=N) aZ bE).trans Z;clear aQ;refine H _ _ (fun _=>⟨ak,ao,aA⟩) ?_;clear H U
  try simp only [Act.put,psA,psB,psC]
  refine uR [12,1] ap ⟨ak,ao,aA⟩ ?_;refine uE au ?_;clear au ap Q';have aP:=hI (aF.keep (aj.same (fun b z=>⟨aB b z,(M b z).2⟩)));have bP:=W.sz;clear p0 aC ar ah aa Z aA;have ah:=ak;have aa:=ao;have Z:=W.t0;clear ak ao;have:wr.heap.size<=L:=aj.size
  go_wp2
  refine uS (fun w'=>w'.cell? ⟨w,0,none⟩=some (.int .i64 s.vv)/\w'.cell? ⟨w,1,none⟩=some (.slice (some ⟨N,am,none⟩) s.tt.length I)/\w'.cell? ⟨w+3,0,none⟩=some (.slice (some ⟨w+2,0,none⟩) s.tt.length s.tt.length)) 9 10 fun Q' au ap=>?_;refine uR [0,6,7,1] ap ⟨ah,aa,Z⟩ ?_;refine uQ 6 fun U H=>?_;go_simp;refine(Zfm (A:=some ⟨N,am,none⟩) I s (a:=t) (B:=bb) (n:=aW) (r:=row) (S:=fun b=>b<L) (w:=L.drew) ((aP.keep (w':=L.drew) (fun _ _=>rfl)).more (fun b z=>by have:=aB b z;show b<L;omega)) ((aI.2.keep (w':=L.drew) (fun _ _=>rfl)).more (fun b z=>z.2)) aI.1 (fun b z=>z)).mono ?_;rintro e ab ⟨bF,bD,rfl,bg,av⟩;have F:Below L L ab:=(qa _ L).drew.trans av;have bZ:=F.size;have bC:=hI (ZaR bg (ZfB (s:=s) (a:=t) (ZhG aq aK)) (show L.heap.size<=_ from qp _));clear bg av;have p0:=c9K F ah;have aC:=c9K F aa;have ar:=c9K F Z;refine H _ _ (fun _=>⟨p0,aC,ar⟩) ?_;clear H U
  try simp only [Act.put,psA,psB,psC]
  refine uQ 8 fun U H=>?_;go_simp;have bK:=hI (W.stc.below F);have bB:=W.ok.1;have aN:=rput_any (A:=some ⟨N,am,none⟩) I s (w+2) s.tt.length K (n:=t) (B:=bF) bD (key:=keyF s t row) (A':=bb) aW (E:=row) (S:=fun b=>S b\/(w.heap.size+4<=b/\b<ab)) (w:=ab) ((aP.keep (qS F (fun b z=>yl (aB b z)))).more (fun b z=>.inl z)) (bK.more (fun b z=>z.imp id (fun z=>⟨z.1,yl z.2⟩)) (fun b z=>by rcases z with z | z;{ have:=M b z;omega };exact⟨z.2,yl z.1⟩)) (bC.2.more (fun b z=>.inr ⟨by have bl:L<=b:=z.1;omega,z.2⟩)) ((aI.2.keep (qS F (fun b z=>z.2))).more (fun b z=>.inr ⟨by have bl:_<=b:=z.1;omega,yl z.2⟩)) an ya (yl (ai.1 t)) ya;rw [bB] at aN;refine aN.mono ?_;rintro e bN ⟨rfl,aJ,ae⟩;replace aJ:=hI aJ;replace ae:=hI ae;clear aN;have ak:=(ae.cell (b:=w) ya ya).trans p0;have ao:=(ae.cell (b:=w) ya ya).trans aC;have aA:=(ae.cell (b:=w.heap.size+3) ya ya).trans ar;refine H _ _ (fun _=>⟨ak,ao,aA⟩) ?_;clear H U
  try simp only [Act.put,psA,psB,psC]
  refine uQ 9 fun U H=>?_;have bV:=(ae.frozenF (b:=w.heap.size+3) (o:=0) ya ya).trans ((F.frozen (p:=⟨w+3,0,none⟩) (by show _<_;simp;omega)).trans W.tf);go_simp;refine H _ _ nD ?_;clear H U;refine uE au ?_;clear au ap Q';have aV:=put_ok W.ok (n:=t) (by rw [W.ok.1];exact an) (key:=keyF s t row) (row:=row) (fun _=>rfl) (fun _=>ba row aq);have bt:=hI (W.put aE M F aJ ae aV.1)
  go_wp2
  go_roundw
  case rel=>exact⟨n1,_,ya,by go_num,bt,ai.put (by rw [W.ok.1];exact an) (by rw [aV.2];exact putL_len _ _ _)⟩
  (simp [intOf];try omega)
 have r0:=E.r0;have bY:=E.rf;have bX:=E.t0
 go_wp2_with fail
 have bq:yr (wr.setCell ⟨w+1,0,none⟩ (.slice (some ⟨w+2,0,none⟩) s.tt.length s.tt.length)) (w+1) 0 (.slice (some ⟨w+2,0,none⟩) s.tt.length s.tt.length):=Qr _ _ _ r0;have aO:∀ b,b≠w.heap.size+1->(wr.setCell ⟨w+1,0,none⟩ (.slice (some ⟨w+2,0,none⟩) s.tt.length s.tt.length)).heap[b]?=wr.heap[b]?:=fun b z=>qc wr ⟨w+1,0,none⟩ _ b z;have bo:=E.ok.1
 have bu:=(E.stc.keep (w':=wr.setCell ⟨w+1,0,none⟩ (.slice (some ⟨w+2,0,none⟩) s.tt.length s.tt.length)) yb (fun b z=>aO b (by rcases z with z | z;{ have:=M b z;omega };have:=z.1;omega)) (aO (w+2) ya)).more (S':=fun b=>S b\/(w.heap.size+2<b/\b<(wr.setCell ⟨w+1,0,none⟩ (.slice (some ⟨w+2,0,none⟩) s.tt.length s.tt.length)).heap.size)) (fun b z=>z.imp id (fun z=>⟨yl z.1,by have:=z.2;simpa using this⟩)) (fun b z=>by
  rcases z with z | z
  .have:=M b z;simp;omega
  exact⟨z.2,yl z.1⟩)
 exact qw (v:=ZaM (some ⟨w+2,0,none⟩) s.tt.length s.tt.length) (by simp [results,results11,go_sem,bq]) rfl ⟨w.heap.size+2,K,by rw [bo],E.ok,ay,ya,bu,Zf E.case ya,Zg E.gr ya⟩
abbrev bv (n:Int):Value:=.int .u8 n
abbrev BY (w:World) (base:Nat) (A:Option Addr) (c:Nat) (bs:List Int):Prop:=w.ownsRow base 5 1 (.slice A bs c) bs (bs.map bv)
theorem ZcN:(prog.info? 5).map (fun i=>(i.zero,i.size,i.bytes))=some (some (.int .u8 0),1,1):=by kernel_rfl
theorem BY.below {w w':World} {base c:Nat} {A:Option Addr} {bs:List Int} (h:BY w base A c bs) (z:Below w w w'):BY w' base A c bs :=
 Zo h (fun q E=>z.block q (ZN h E))
theorem Zan {H:Array Oper} {rest:List Oper} {o:Oper} {w0:Exit->Act->World->Prop} (L:o.guard=none) (s x:Operand)
 (U:o.op=.call { callee:=.builtin .append,args:=#[s,x],argTypes:=#[22,22] })
      (K:BY w n A k l) (O:n<=w) (aa:Q.eval s=.slice A l k)
 (E:Int)  (ac:Q.eval x=.slice (some ⟨w,0,none⟩) 1 m) (ai:l.length<=1000000000000)
 (h:∀ g cap w',BY w' n (some ⟨g,0,none⟩) cap (l++[E])->Below n w w'->w.grownBy w' (Value.slice A l k).ownBlock->wpList prog H w0 rest (Q.put o.dst (.slice (some ⟨g,0,none⟩) (l.length+1) cap)) w') :
 wpList prog H w0 (o :: rest) Q (w.alloc (.cells #[bv E] 5)):=by
 obtain⟨i,ab,R,N,W⟩:=qA ZcN;have F:Below w w (w.alloc (.cells #[bv E] 5)):=(qa _ _).alloc nR _;have Z:=K.below F
 refine wpList_append_lies _ L s x 22 U n 5 i _ 1 1 underlying22 ab R N W rfl yf (.slice A l k) l.length (l.map bv) aa Z ⟨w,0,none⟩ 1 m [bv E] ac rfl
  (World.news_of_block (qb w (.cells #[bv E] 5))) (fun u I=>by simp at I;subst I;rfl) ya yh ya yd (w+1) (Qt _ _) ?_
 intro g cap w' M z ah ae;refine h g cap w' (by show w'.ownsRow n _ 1 (.slice _ (l++[E]).length cap) (l++[E]).length ((l++[E]).map bv);rw [qi,qm];exact M) ?_ ((qY w _ _).trans z);refine(F.mono O).trans ⟨z.os,z.tape,z.output,z.size,fun b af=>z.block b yd (fun e=>?_)⟩;have:=Zs K e.symm;omega
def PutP (base:Nat) (T:List Int) (w:World) (e:Ending) (w':World):Prop:=∃ A c,e=.returned (.slice A T c)/\BY w' base A c T/\Below base w w'
theorem BY.of_owns {w:World} {base n:Nat} {v:Value} {xs:List Value} {T:List Int} (h:w.ownsRow base 5 1 v n xs) (H:n=T.length) (F:xs=T.map bv):∃ A c,v=.slice A T c/\BY w base A c T:=by
 subst H F;rcases h.2 with ⟨rfl,E⟩ | ⟨g,cap,I,rfl,_⟩
 .have z:T=[]:=qN E;subst z;exact⟨none,0,rfl,h⟩
 exact⟨_,_,rfl,h⟩
abbrev Qm:=@BY.of_owns
def lebF (n:Nat):List Int:=if n<128 then [(n:Int)] else bits .or .u8 ((n:Int) % 256) 128 :: lebF (n / 128)
termination_by n
decreasing_by omega
theorem Zjl:∀ (k n:Nat),n<128 ^ (k+1)->(lebF n).length<=k+1
 | 0,n,h=>by rw [lebF,qr ya];simp
 | k+1,n,h=>by
  rw [lebF];split
  .simp
  have z:=Zjl k (n / 128) (Nat.div_lt_of_lt_mul (by rw [Nat.pow_succ,Nat.mul_comm] at h;exact h));simp only [qK];omega
theorem Zz (h:n<18446744073709551616):(lebF n).length<=10:=Zjl 9 n ya
theorem ZbC (K:m<18446744073709551616) (E:BY w n A k l) (ah:n<=w) (af:l.length<=100000000) :
 Calls prog 241 #[.slice A l k,.int .u64 (m:Int)] w (PutP n (l++lebF m) w):=by
 have U:=hI E;clear E;obtain⟨T,z⟩:=yp (l++lebF m);have ac:T.length<=100000010:=(by rw [<-z,qi];have:=Zz K;omega);have aa:=hI z;rw [z];clear z;go_enter func241,ntmps241
 go_wp2
 go_loopw [0,1] (fun b v wr=>∃ (A:Option Addr) (k:Nat) (l:List Int) (m:Nat),b=.slice A l k/\v=.int .u64 (m:Int)/\m<18446744073709551616/\l++lebF m=T/\BY wr n A k l/\Below n w wr) (fun _ v _=>(intOf v).toNat)
 case atStart=>exact⟨A,k,l,m,rfl,rfl,K,aa,U,qa _ _⟩
 clear U af aa K;obtain⟨A,k,l,m,rfl,rfl,K,z,E,L⟩:=hrel;replace E:=hI E;have Z:=hI L;have ai:=L.size;have:l.length<=100000010:=(by rw [<-z,qi] at ac;omega);replace z:=hI z;clear L;rcases qv m 128 with W | W
 .have hd:decide ((128:Int)<=(m:Int))=false:=qe ya
  go_wp2_with (at_builtin;refine Zan rfl (.tmp 15) (.tmp 18) rfl E ya rfl _ rfl ya ?_;intro O N ae H I F;have R:=hI H;have M:=hI I;have ab:=hI F;clear H I F)
  have e:T=l++[(m:Int)]:=(by rw [<-z,lebF,qr W]);subst e;go_ret;exact⟨some ⟨O,0,none⟩,N,yb,R,Z.trans (M)⟩
 have hd:decide ((128:Int)<=(m:Int))=true:=qt ya
 go_wp2_with (at_builtin;refine Zan rfl (.tmp 7) (.tmp 11) rfl E ya rfl _ rfl ya ?_;intro O N ae H I F;have R:=hI H;have M:=hI I;have ab:=hI F;clear H I F)
 go_roundw
 case rel=>exact⟨some ⟨O,0,none⟩,N,l++[bits .or .u8 ((m:Int) % 256) 128],m / 128,yb,yb,ya,by rw [<-z,qB,List.singleton_append];congr 1;rw [lebF.eq_def m,qo ya],R,Z.trans M⟩
 (simp [intOf];omega)
def zigI (n:Int):Int:=bits .xor .u64 (IntKind.u64.wrap (wrap64 (n*2))) (IntKind.u64.wrap (n / 9223372036854775808))
def zigF (n:Int):Nat:=(zigI n).toNat
theorem Zht (n:Int):0<=zigI n/\zigI n<18446744073709551616:=by
 have h:=wf_bits .xor .u64 (IntKind.u64.wrap (wrap64 (n*2))) (IntKind.u64.wrap (n / 9223372036854775808));have z:(Lit.int .u64 (zigI n)).wf=true:=h;simp [Lit.wf,IntKind.min,IntKind.max,IntKind.signed,IntKind.bits] at z;omega
theorem putInt_any (F:BY w n A k l) (K:n<=w) (L:l.length<=100000000) :
 Calls prog 265 #[.slice A l k,.int .i64 a] w (PutP n (l++lebF (zigF a)) w):=by
 replace F:=hI F;have N:=Zht a;have M:=hI (show bits .xor .u64 (IntKind.u64.wrap (wrap64 (a*2))) (IntKind.u64.wrap (a / 9223372036854775808))=((zigF a:Nat):Int) by show zigI a=_;unfold zigF;omega);have H:zigF a<18446744073709551616:=(by unfold zigF;omega);clear N;go_enter func265,ntmps265
 go_wp2_with fail
 rw [M];refine(ZbC H F K L).mono ?_;rintro e O ⟨I,c1,rfl,z,E⟩;replace z:=hI z;replace E:=hI E
 go_wp2
 go_ret;exact⟨I,c1,yb,z,E⟩
def txtB (t:ByteArray):List Int:=t.data.toList.map fun b=>(b.toNat:Int)
theorem Zdb (t:ByteArray):(txtB t).length=t.size:=by
 rw [txtB,qg,Array.length_toList];rfl
theorem txtB_cells (t:ByteArray):(txtB t).map bv=Go.Lib.strCells t:=by
 rw [txtB,List.map_map];rfl
theorem ZfF (z:BY w n A k l) (U:n<=w) (af:l.length<=100000000) (ao:h.size<=100000000) :
 Calls prog 234 #[.slice A l k,.string h] w (PutP n (l++lebF h.size++txtB h) w):=by
 have W:=hI z;clear z;obtain⟨i,aj,ab,O,ac⟩:=qA ZcN;go_enter func234,ntmps234
 go_wp2_with fail
 refine(ZbC ya W U af).mono ?_;rintro e an ⟨ar,c1,rfl,E,I⟩;replace E:=hI E;have ai:=hI I;have av:=I.size;clear I;have ak:(l++lebF h.size).length<=100000010:=(by rw [qi];have:=Zz (n:=h.size) ya;omega);have R:=hI (txtB_cells h);have am:=hI (Zdb h);obtain⟨K,H⟩:=yp (l++lebF h.size);rw [H] at E ak;have N:=hI H;rw [H];clear H
 go_wp2_with (at_builtin;refine Go.Lib.wpList_append_own_string _ rfl (.tmp 9) (.tmp 10) 22 9 rfl n 5 i underlying22 underlying9 aj ab O ac _ K.length _ rfl E h rfl yh ya ya ?_;intro au aq M L ah;have ae:=hI M;have F:=hI L;clear M L ah)
 obtain⟨aa,Z,rfl,z⟩:=Qm (T:=K++txtB h) ae (by rw [qi,am]) (by rw [qm,R]);replace z:=hI z;go_ret;exact⟨aa,Z,by rw [N];rfl,by rw [N];exact z,ai.trans ⟨F.os,F.tape,F.output,F.size,fun b ap=>F.block b ya (fun e=>yl (Zs E e.symm))⟩⟩
def valB (v:V):List Int:=IntKind.u8.wrap v.k :: (if v.k=3 then [IntKind.u8.wrap v.i] else if v.k=4 then lebF (zigF v.i) else if v.k=5 then lebF v.t.size++txtB v.t else [])
theorem valB_len (F:M.t.size<=64):(valB M).length<=75:=by
 unfold valB;have z:=Zz (n:=zigF M.i) (by have:=Zht M.i;unfold zigF;omega);have E:=Zz (n:=M.t.size) ya;simp only [qK];split
 .simp
 split
 .omega
 split
 .rw [qi,Zdb];omega
 simp
theorem ZeT (v:V) (K:BY w n A k l) (aA:n<=w) (aE:l.length<=90000000) (ay:v.t.size<=64) :
 Calls prog 242 #[.slice A l k,vAgg v] w (PutP n (l++valB v) w):=by
 replace K:=hI K;obtain⟨c,i,t⟩:=v;simp only at ay K ⊢;go_enter func242,ntmps242;have N:=hI (show valB ⟨c,i,t⟩=c % 256 :: (if c=3 then [i % 256] else if c=4 then lebF (zigF i) else if c=5 then lebF t.size++txtB t else []) by unfold valB;simp [IntKind.wrap,IntKind.bits,IntKind.signed]);go_upto_region 1 with fail
 obtain⟨W,aa,L,ae⟩:=al w (.cells #[.int .i64 c,.int .i64 i,.string t] 108);have L:=L.out;have:W.heap.size<=w+1/\w.heap.size+1<=W:=(by rw [<-aa];simp);have ao:=hI (K.below L);have aq:=hI (L.mono aA);have aw:yr W w 0 (.int .i64 c):=Za ae 0 _ rfl;rw [aa];have az:=K;clear aa L K;go_upto_region 2 with (at_builtin;refine Zan rfl (.tmp 5) (.tmp 9) rfl ao ya rfl _ rfl ya ?_;intro R O I ap av am;have M:=hI ap;have an:=hI av;have ak:=hI am;clear ap av am)
 have ai:=hI ((ak.block w ya (fun e=>yl (ZN az e.symm))).trans ae);have aw:yr I w 0 (.int .i64 c):=Za ai 0 _ rfl;have:yr I w 1 (.int .i64 i):=Za ai 1 _ rfl;have:yr I w 2 (.string t):=Za ai 2 _ rfl;obtain⟨F,H⟩:=yp (l++[c % 256]);have ar:l.length+1=F.length:=(by rw [<-H];simp);have:F.length<=90000001:=ya;rw [H] at M;rw [ar];replace H:=hI H;have U:=hI (aq.trans an);have aj:n<=I:=(yl ak.size);clear ar ao aq an ae
 by_cases ah:c=3
 .subst ah
  go_wp2_with (at_builtin;refine Zan rfl (.tmp 15) (.tmp 19) rfl M ya rfl _ rfl ya ?_;intro aB aD au z E aF;have ax:=hI z;have aC:=hI E;clear z E)
  go_wp2
  go_ret;have e:l++valB ⟨3,i,t⟩=F++[i % 256]:=(by rw [N,<-H];simp);rw [e];exact⟨some ⟨aB,0,none⟩,aD,yb,ax,U.trans aC⟩
 have:(c == 3)=false:=by simpa using ah
 by_cases ab:c=4
 .subst ab
  go_wp2_with fail
  refine(putInt_any M aj ya).mono ?_;rintro e au ⟨af,Z,rfl,z,E⟩;replace z:=hI z;replace E:=hI E
  go_wp2
  go_ret;have e:l++valB ⟨4,i,t⟩=F++lebF (zigF i):=(by rw [N,<-H];simp);rw [e];exact⟨af,Z,yb,z,U.trans E⟩
 have:(c == 4)=false:=by simpa using ab
 by_cases ac:c=5
 .subst ac
  go_wp2_with fail
  refine(ZfF M aj ya ya).mono ?_;rintro e au ⟨af,Z,rfl,z,E⟩;replace z:=hI z;replace E:=hI E
  go_wp2
  go_ret;have e:l++valB ⟨5,i,t⟩=F++lebF t.size++txtB t:=(by rw [N,<-H];simp);rw [e];exact⟨af,Z,yb,z,U.trans E⟩
 have:(c == 5)=false:=by simpa using ac
 go_wp2
 go_ret;have e:l++valB ⟨c,i,t⟩=F:=(by rw [N,qo ah,qo ab,qo ac,<-H]);rw [e];exact⟨some ⟨R,0,none⟩,O,rfl,M,U⟩
section
variable {s:Sch} {m:Int}
def prtS (s:Sch) (q:Nat->Row->Bool) (st:St):St:=(List.range st).map fun t=>(st.getD t []).filter fun r=>q t (keyF s t r)
theorem Zde (q:Nat->Row->Bool) (st:St):(prtS s q st).length=st.length:=by simp [prtS]
theorem Ziy (q:Nat->Row->Bool) {st:St} {t:Nat} (h:t<st):(prtS s q st).getD t []=(st.getD t []).filter fun r=>q t (keyF s t r):=by
 simp only [prtS,List.getD,List.getElem?_map,List.getElem?_range h,Option.map_some,Option.getD_some]
theorem Zix (q:Nat->Row->Bool) {st:St} (h:StOk s m st):StOk s m (prtS s q st):=by
 refine⟨(Zde q st).trans h.1,fun t z=>?_⟩;rw [Zde] at z;rw [Ziy q z];obtain⟨E,F⟩:=h.2 t z;exact⟨fun r H=>E r (List.mem_filter.1 H).1,asc_pw.2 ((asc_pw.1 F).filter _)⟩
theorem sum_filter_le {l:List Row} {f:Row->Bool}:(l.filter f).length<=l:=qI _ _
theorem Zfb {f:Nat->List Row}:∀ (n:Nat) (st:St),(∀ t,t<n->(f t).length<=(st.getD t []).length)->n<=st->Zi ((List.range n).map f)<=Zi (st.take n)
 | 0,st,_,_=>by simp [Zi]
 | n+1,st,h,H=>by
  have z:=Zfb n st (fun t F=>h t ya) ya
  have E:∀ x:List Row,∀ l:St,Zi (l++[x])=Zi l+x.length:=by
   intro x l;induction l with
   | nil=>simp [Zi]
   | cons y l z=>simp only [List.cons_append,Zi,z];omega
  rw [List.range_succ,qm,qL,Qn,E,Zbb _ _ ya];have:=h n ya;omega
theorem Zen (q:Nat->Row->Bool) {st:St}:Zi (prtS s q st)<=Zi st:=by
 have h:=Zfb (f:=fun t=>(st.getD t []).filter fun r=>q t (keyF s t r)) st st (fun t _=>sum_filter_le) nR;rwa [qM] at h
end
section
variable {P:Program} (w:World)
end
def Zbi (st:St):Int:=IntKind.i64.wrap (Zi st)
theorem wrap_i64 (x:Int):IntKind.i64.wrap x=if 9223372036854775808<=x % 18446744073709551616 then x % 18446744073709551616 - 18446744073709551616 else x % 18446744073709551616:=by
 simp [IntKind.wrap,IntKind.signed,IntKind.bits]
theorem wrap_add (a b:Int):IntKind.i64.wrap (IntKind.i64.wrap a+b)=IntKind.i64.wrap (a+b):=by
 simp only [wrap_i64];split<;>split<;>split<;>omega
theorem rcountw_any (E:Nat) {st:St} (h:StS w S A st) (N:∀ b,S b->b<w) :
 Calls prog 59 #[ZaM A st E] w (Zaz (Zbi st) w):=by
 have Z:=h.len;replace h:=hI h;have L:=hI (Zbb st);have M:=hI ((qa w w).alloc nR (.cells #[.slice A st E] 28));go_enter func59,ntmps59
 go_wp2
 go_loopw [3,9] (fun n i wr=>∃ k:Nat,k<=st/\i=.int .i64 k/\n=.int .i64 (Zbi (st.take k))/\wr=(w.alloc (.cells #[.slice A st E] 28))) (fun _ i _=>st.length - (intOf i).toNat)
 case atStart=>exact⟨0,qk _,rfl,rfl,rfl⟩
 obtain⟨k,W,rfl,rfl,rfl⟩:=hrel
 by_cases H:k<st
 .obtain⟨F,ab,rfl,R,A',aa,O,I,K⟩:=h.at_ H;have:F<w:=N F R;have z:=hI (show Zbi (st.take (k+1))=IntKind.i64.wrap (Zbi (st.take k)+(st.getD k []).length) by unfold Zbi;rw [wrap_add,L k H];push_cast;rfl);clear I K;generalize (st.getD k []).length=m at O z;generalize Zbi (st.take k)=x at z
  go_wp2
  go_roundw
  case rel=>exact⟨k+1,ya,by go_num,by rw [z,IntWalk.i64_left],trivial⟩
  simp [intOf];omega
 have U:=hI (show Zbi st=Zbi (st.take k) by rw [qs ya])
 go_wp2
 go_ret;exact⟨by rw [U];rfl,M⟩
def ZaN (l:List ByteArray) (k:Nat):List ByteArray:=(l.take k).reverse
theorem Zgw {l:List ByteArray} (h:n<l):ZaN l (n+1)=l[n] :: ZaN l n:=by
 unfold ZaN;rw [qj h];simp
theorem Zjb {l:List ByteArray} (h:k<n) (z:k<l):inS (ZaN l n) l[k]=true:=by
 rw [Zkq];unfold ZaN;rw [List.mem_reverse,List.mem_take_iff_getElem];exact⟨k,ya,rfl⟩
theorem ZhE {l:List ByteArray} (s:∀ j (E:j<l.length),j<n->l[j]≠h):inS (ZaN l n) h=false:=by
 cases z:inS (ZaN l n) h with
 | false=>rfl
 | true =>
  rw [Zkq] at z;unfold ZaN at z;rw [List.mem_reverse,List.mem_take_iff_getElem] at z;obtain⟨j,E,e⟩:=z;exact absurd e (s j ya ya)
def Zdj (z:List ByteArray) (t:Tab):Bool:=Zat t.name&&!inS z t.name&&decide (1<=t.key)&&decide (t.key<=t.cols)&&ZD [] t.cols
abbrev Zff (l:List Tab):List ByteArray:=l.map (·.name)
abbrev Zgr (l:List Col):List ByteArray:=l.map (·.name)
theorem ZgZ {l:List Tab} (h:n<l):(Zff l)[n]'(by simpa using h)=(l.getD n t0).name:=by simp [List.getD,h]
theorem Zhm {l:List Col} (h:n<l):(Zgr l)[n]'(by simpa using h)=(l.getD n c0).name:=by simp [List.getD,h]
theorem named_step (l:List Tab) (k:Nat) (h:k<l):Zt (ZaN (Zff l) k) (l.drop k)=(Zdj (ZaN (Zff l) k) (l.getD k t0)&&Zt (ZaN (Zff l) (k+1)) (l.drop (k+1))):=by
 rw [Zdr _ _ _ h,Zgw (by simpa using h),ZgZ h];rfl
theorem cols_step (l:List Col) (k:Nat) (h:k<l):ZD (ZaN (Zgr l) k) (l.drop k)=(Zat (l.getD k c0).name&&!inS (ZaN (Zgr l) k) (l.getD k c0).name&&ZX (l.getD k c0).kind&&ZD (ZaN (Zgr l) (k+1)) (l.drop (k+1))):=by
 rw [Zed _ _ _ h,Zgw (by simpa using h),Zhm h]
theorem rtable_any (aM:Nat) (s:Sch) (aq:TabS w S A s.tt) (ay:∀ b,S b->b<w) (bj:n<s.tt) :
 Calls prog 178 #[sAgg s.vv A s.tt aM,.int .i64 (n:Int)] w (ZH (Zdj (ZaN (Zff s.tt) n) (s.tt.getD n t0)) w):=by
 obtain⟨bN,I⟩:=s;simp only at aq bj ⊢;have b8:=aq.len;have bO:=hI aq;obtain⟨aH,bk,rfl,bP,bc,b2,bI,c1,c2,bM,aB⟩:=aq.at_ bj;obtain⟨aW,aK,aP,aU,aQ,aX,bL,bR,-,-,-,aI⟩:=aB;have bw:=aX.len;have aE:=hI aX;have:aH<w:=ay aH bP
 have ap:=hI (show ∀ j,j<n->(I.getD j t0).name=(I.getD n t0).name->inS (ZaN (Zff I) n) (I.getD n t0).name=true from fun j R e=>by
  rw [<-e,<-ZgZ ya];exact Zjb R yd)
 have av:=hI (show (∀ j,j<n->(I.getD j t0).name≠(I.getD n t0).name)->inS (ZaN (Zff I) n) (I.getD n t0).name=false from fun h=>ZhE fun j R aA e=>by
  rw [ZgZ ya] at e;exact h j aA e)
 clear aq aX bL bR;generalize I.getD n t0=bK at aW aK aP aU aQ aE aI bw ap av ⊢;generalize ZaN (Zff I) n=aa at ap av ⊢;obtain⟨F,z,E,L,K⟩:=bK;simp only at aW aK aP aU aQ aE aI bw ap av;have:(n:Int)<I:=ya;have bl:=hI (((qa w w).alloc nR (.cells #[.int .i64 bN,.slice (some ⟨aH,bk,none⟩) I.length aM] 25)).alloc yb (.cells #[.string F,.slice bc z c1,.int .i64 E,.slice b2 L c2,.slice bI K bM] 104));go_enter func178,ntmps178
 go_wp2_with fail
 refine(ZhM aI).mono ?_;rintro e ab ⟨rfl,ae⟩;have:w.heap.size+1<ab:=(by have:=ae.size;simp at this;omega);have bp:yr ab w 1 (.slice (some ⟨aH,bk,none⟩) I.length aM):=c9K ae yb;have bf:yr ab (w+1) 0 (.string F):=c9Q ae yb yb;have W:yr ab (w+1) 1 (.slice bc z c1):=c9Q ae yb yb;have:yr ab (w+1) 2 (.int .i64 E):=c9Q ae yb yb;have ar:=hI (bl.trans (ae.mono yd));clear ae aW aK aP aU aQ bl
 by_cases N:Zat F=true
 .have au:=hI N;rw [N];clear N
  by_cases bm:z.length=0
  .have bn:((z:Int) == 0)=true:=(by simp [bm])
   have M:=hI (show Zdj aa ⟨F,z,E,L,K⟩=false by
    unfold Zdj
    by_cases h:1<=E
    .rw [show decide (E<=((⟨F,z,E,L,K⟩:Tab).cols.length:Int))=false from qe (by simp only;omega)];simp
    rw [show decide (1<=(⟨F,z,E,L,K⟩:Tab).key)=false from qe (by simp only;omega)];simp)
   clear bm
   go_wp2
   go_ret;exact⟨by rw [M];rfl,ar⟩
  have bn:((z:Int) == 0)=false:=beq_false_of_ne ya
  by_cases bq:E<1
  .have M:=hI (show Zdj aa ⟨F,z,E,L,K⟩=false by
    unfold Zdj;rw [show decide (1<=(⟨F,z,E,L,K⟩:Tab).key)=false from qe (by simp only;omega)];simp)
   go_wp2
   go_ret;exact⟨by rw [M];rfl,ar⟩
  have bS:decide (E<1)=false:=qe bq
  by_cases bg:(z:Int)<E
  .have M:=hI (show Zdj aa ⟨F,z,E,L,K⟩=false by
    unfold Zdj;rw [show decide (E<=((⟨F,z,E,L,K⟩:Tab).cols.length:Int))=false from qe (by simp only;omega)];simp)
   go_wp2
   go_ret;exact⟨by rw [M];rfl,ar⟩
  have bE:decide ((z:Int)<E)=false:=qe bg
  have aO:=hI (show Zdj aa ⟨F,z,E,L,K⟩=(!inS aa F&&ZD [] z) by
   unfold Zdj;rw [show Zat (⟨F,z,E,L,K⟩:Tab).name=true from au.out,show decide (E<=((⟨F,z,E,L,K⟩:Tab).cols.length:Int))=true from qt (by simp only;omega),show decide (1<=(⟨F,z,E,L,K⟩:Tab).key)=true from qt (by simp only;omega)];simp)
  clear au
  go_wp2_with fail
  clear bn bS bE bq bg
  go_loopw [6] (fun i wr=>∃ j:Nat,j<=n/\i=.int .i64 j/\(∀ q,q<j->(I.getD q t0).name≠F)/\Below ab ab wr) (fun i _=>n - (intOf i).toNat)
  case atStart=>exact⟨0,qk _,rfl,fun q ai=>absurd ai ya,qa _ _⟩
  obtain⟨j,aA,rfl,aw,H⟩:=hrel;replace aw:=hI aw;have bX:=hI H;have ba:=hI (ar.trans (H.mono ya));have cf:=H.size;have bp:=c9J H bp;have bf:=c9J H bf;have W:=c9J H W;clear H
  by_cases R:j<n
  .have bV:(j:Int)<n:=ya;have:(j:Int)<I:=ya;obtain⟨cj,ck,aJ,co,b5,ch,cg,b6,cd,cn,aB⟩:=(bO.keep (qS ba ay)).at_ (k:=j) ya;injection aJ with aJ;injection aJ with aT aY;subst aT aY;have b3:=aB.name;clear aB;have am:=hI (ap j R)
   have ao:=hI (show (I.getD j t0).name≠F->∀ q,q<j+1->(I.getD q t0).name≠F from fun h q ai=>by
    rcases qv q j with ax | ax
    .exact aw q ax
    obtain rfl:q=j:=ya;exact h)
   generalize (I.getD j t0).name=br at b3 am ao
   by_cases O:br=F
   .subst O;have M:=hI (show Zdj aa ⟨br,z,E,L,K⟩=false by rw [aO,am rfl];rfl)
    go_wp2
    go_quiet (fail)
    go_wp2
    go_ret;exact⟨by rw [M];rfl,below_drewN ba _⟩
   have bC:=ZbY O;have aj:=hI (ao O);clear O
   go_wp2
   go_quiet (fail)
   go_wp2
   go_roundw
   case rel=>exact⟨j+1,ya,by go_num,aj,below_drewN bX _⟩
   simp [intOf];omega
  have bV:¬ (j:Int)<n:=ya
  have aC:=hI (show Zdj aa ⟨F,z,E,L,K⟩=ZD [] z by
   rw [aO,av fun q ai=>aw.out q ya];rfl)
  clear aO av ap aw
  go_wp2_with fail
  obtain⟨ca,bD⟩:=yp wr;subst bD
  go_loopw [54] (fun i bU=>∃ j:Nat,j<=z/\i=.int .i64 j/\ZD [] z=ZD (ZaN (Zgr z) j) (z.drop j)/\Below wr wr bU) (fun i _=>z.length - (intOf i).toNat)
  case atStart=>exact⟨0,qk _,rfl,by simp [ZaN],qa _ _⟩
  obtain⟨q,ai,rfl,U,H⟩:=hrel;replace U:=hI U;have bQ:=hI H;have bb:=hI (ba.trans (H.mono ya));have b7:=H.size;have W:=c9J H W;clear H
  by_cases aV:q<z
  .have b1:(q:Int)<z:=ya;have bt:=hI (aE.keep (qS bb ay));obtain⟨bh,b4,rfl,bZ,ak,aF⟩:=bt.at_ aV;have aL:=bt.txt aV;have:bh<w:=ay bh bZ;have ah:=hI (cols_step z q aV)
   have aG:=hI (show ∀ j,j<q->(z.getD j c0).name=(z.getD q c0).name->inS (ZaN (Zgr z) q) (z.getD q c0).name=true from fun j R e=>by
    rw [<-e,<-Zhm ya];exact Zjb R yd)
   have az:=hI (show (∀ j,j<q->(z.getD j c0).name≠(z.getD q c0).name)->inS (ZaN (Zgr z) q) (z.getD q c0).name=false from fun h=>ZhE fun j R aA e=>by
    rw [Zhm ya] at e;exact h j aA e)
   generalize ZaN (Zgr z) q=bu at ah aG az U;generalize z.getD q c0=b0 at ak aF aL ah aG az;obtain⟨Z,aN⟩:=b0;simp only at ak aF aL ah aG az
   go_wp2_with fail
   refine(ZhM aL).mono ?_;rintro e cp ⟨rfl,af⟩;have bY:=hI (bQ.trans (af.mono ya));have aZ:=hI (bb.trans (af.mono ya));have b9:=af.size;have W:=c9J af W;have aF:=c9J af aF;have ak:=c9J af ak;clear af
   by_cases N:Zat Z=true
   .have au:=hI N;rw [N];clear N
    go_wp2_with fail
    refine(ZeR).mono ?_;rintro e bi ⟨rfl,rfl⟩
    by_cases an:ZX aN=true
    .have bz:=hI (show ZD bu (z.drop q)=(!inS bu Z&&ZD (ZaN (Zgr z) (q+1)) (z.drop (q+1))) by rw [ah,au,an];simp);rw [an];clear an ah au
     go_wp2
     go_loopw [8] (fun i bH=>∃ p:Nat,p<=q/\i=.int .i64 p/\(∀ j,j<p->(z.getD j c0).name≠Z)/\Below bi bi bH) (fun i _=>q - (intOf i).toNat)
     case atStart=>exact⟨0,qk _,rfl,fun q ai=>absurd ai ya,qa _ _⟩
     obtain⟨p,ci,rfl,aD,H⟩:=hrel;replace aD:=hI aD;have bJ:=hI H;have bo:=hI (aZ.trans (H.mono ya));have bB:=hI (bY.trans (H.mono ya));have W:=c9J H W;have ak:=c9J H ak;clear H
     by_cases bW:p<q
     .have bT:(p:Int)<q:=ya;have:(p:Int)<z:=ya;obtain⟨ce,cc,aR,cm,bF,n1⟩:=(aE.keep (qS bo ay)).at_ (k:=p) ya;injection aR with aR;injection aR with aT aY;subst aT aY;have am:=hI (aG p bW)
      have ao:=hI (show (z.getD p c0).name≠Z->∀ q,q<p+1->(z.getD q c0).name≠Z from fun h q ai=>by
       rcases qv q p with ax | ax
       .exact aD q ax
       obtain rfl:q=p:=ya;exact h)
      clear n1;generalize (z.getD p c0).name=bG at bF am ao
      by_cases O:bG=Z
      .subst O;have M:=hI (show ZD [] z=false by rw [U,bz,am rfl];rfl)
       go_wp2
       go_quiet (fail)
       go_wp2
       go_ret;exact⟨by rw [aC,M];rfl,below_drewN bo _⟩
      have bC:=ZbY O;have aj:=hI (ao O);clear O
      go_wp2
      go_quiet (fail)
      go_wp2
      go_roundw
      case rel=>exact⟨p+1,ya,by go_num,aj,below_drewN bJ _⟩
      simp [intOf];omega
     have bT:¬ (p:Int)<q:=ya
     have aj:=hI (show ZD [] z=ZD (ZaN (Zgr z) (q+1)) (z.drop (q+1)) by
      rw [U,bz,az fun j R=>aD.out j ya];rfl)
     go_wp2
     go_roundw
     case rel=>exact⟨q+1,ya,by go_num,aj,bB⟩
     simp [intOf];omega
    have aS:ZX aN=false:=(by simpa using an);have M:=hI (show ZD [] z=false by rw [U,ah,aS];simp);rw [aS];clear an aS
    go_wp2
    go_ret;exact⟨by rw [aC,M];rfl,aZ⟩
   have ac:Zat Z=false:=(by simpa using N);have M:=hI (show ZD [] z=false by rw [U,ah,ac];simp);rw [ac];clear N ac
   go_wp2
   go_ret;exact⟨by rw [aC,M];rfl,aZ⟩
  have b1:¬ (q:Int)<z:=ya;have aj:=hI (show ZD [] z=true by rw [U,Qu ya];rfl)
  go_wp2
  go_ret;exact⟨by rw [aC,aj];rfl,bb⟩
 have ac:Zat F=false:=(by simpa using N)
 have M:=hI (show Zdj aa ⟨F,z,E,L,K⟩=false by
  unfold Zdj;rw [show Zat (⟨F,z,E,L,K⟩:Tab).name=false from ac];rfl)
 rw [ac];clear N ac
 go_wp2
 go_ret;exact⟨by rw [M];rfl,ar⟩
end Go.Proofs.YtjadnfodboepeaaGreat
