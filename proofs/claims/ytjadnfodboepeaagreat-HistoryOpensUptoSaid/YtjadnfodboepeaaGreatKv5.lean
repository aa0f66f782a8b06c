import Derived.Test.YtjadnfodboepeaaGreatKyb
set_option linter.all false
set_option maxRecDepth 100000
set_option maxHeartbeats 8000000
namespace Go.Proofs.YtjadnfodboepeaaGreat
open Tryz
open Go.RowKit
variable {w w':World} {n k m i:Nat} {A B:Option Addr} {S:Nat->Prop} {l p:List Int} {x:Value} {C:Chg} {J:List (List Int)}
def dskL (room:Nat) (V:Nat->Value) (z:Nat->Int):List Value:=[.int .i64 room,V 0,.int .i64 (z 0),V 1,.int .i64 (z 1),V 2,.int .i64 (z 2),V 3,.int .i64 (z 3),V 4,.int .i64 (z 4),V 5,.int .i64 (z 5),V 6,.int .i64 (z 6),V 7,.int .i64 (z 7),.bool false,.int .i64 0]
def updF {α:Type} (f:Nat->α) (i:Nat) (v:α):Nat->α:=fun k=>if k=i then v else f k
structure DskM (w:World) (d room:Nat) (V:Nat->Value) (N:Nat->Int) (fs:List (List Int)):Prop where
 blk:w.heap[d]?=some (.cells (dskL room V N).toArray 124 (0,0))
 len:fs.length=8
 own:∀ i,i<8->w.ownsRow 0 5 1 (V i) (fs.getD i []).length ((fs.getD i []).map bv)
 inj:∀ i k g,i<8->k<8->(V i).ownBlock=some g->(V k).ownBlock=some g->i=k
def Zby (z:List (List Int)):Nat:=(z.map List.length).sum
section
variable {w w':World} {d room:Nat} {V:Nat->Value} {N:Nat->Int} {fs:List (List Int)}
theorem DskM.lt (h:DskM w d room V N fs):d<w:=Zb h.blk
theorem DskM.room_ (h:DskM w d room V N fs):yr w d 0 (.int .i64 room):=Za h.blk 0 _ rfl
theorem DskM.off_ (h:DskM w d room V N fs):yr w d 17 (.bool false):=Za h.blk 17 _ rfl
theorem DskM.plan (h:DskM w d room V N fs):yr w d 18 (.int .i64 0):=Za h.blk 18 _ rfl
theorem dskL_file {i:Nat} (z:i<8):(dskL room V N)[1+i*2]?=some (V i):=by
 match i,z with
 | 0,_ | 1,_ | 2,_ | 3,_ | 4,_ | 5,_ | 6,_ | 7,_=>rfl
theorem DskM.file (h:DskM w d room V N fs) {i:Nat} (z:i<8):w.cell? ⟨d,1+i*2,none⟩=some (V i):=by
 have:=Za h.blk (1+i*2) (V i) (dskL_file z);rwa [qx] at this
theorem dskL_sync {i:Nat} (z:i<8):(dskL room V N)[1+i*2+1]?=some (.int .i64 (N i)):=by
 match i,z with
 | 0,_ | 1,_ | 2,_ | 3,_ | 4,_ | 5,_ | 6,_ | 7,_=>rfl
theorem DskM.sync (h:DskM w d room V N fs) {i:Nat} (z:i<8):w.cell? ⟨d,1+i*2+1,none⟩=some (.int .i64 (N i)):=by
 have:=Za h.blk (1+i*2+1) (.int .i64 (N i)) (dskL_sync z);rwa [qx] at this
theorem DskM.form (h:DskM w d room V N fs) {i:Nat} (E:i<8):∃ A c,V i=.slice A (fs.getD i []).length c/\w.ownsRow 0 5 1 (.slice A (fs.getD i []).length c) (fs.getD i []).length ((fs.getD i []).map bv):=by
 obtain⟨A,c,e,z⟩:=Qm (h.own i E) rfl rfl;exact⟨A,c,e,z⟩
theorem DskM.ne (h:DskM w d room V N fs) {i:Nat} (E:i<8):(V i).ownBlock≠some d:=fun e=>by
 obtain⟨_,F,z⟩:=Zae (h.own i E) e;rw [h.blk] at z;injection z with z;injection z with _ z;exact absurd z yf
def DskX (d:Nat) (V:Nat->Value):Nat->Prop:=fun b=>b=d\/∃ i,i<8/\(V i).ownBlock=some b
theorem DskM.keep (h:DskM w d room V N fs) (E:∀ b,DskX d V b->w'.heap[b]?=w.heap[b]?):DskM w' d room V N fs :=
 ⟨(E d (.inl rfl)).trans h.blk,h.len,fun i z=>Zo (h.own i z) (fun g F=>E g (.inr ⟨i,z,F⟩)),h.inj⟩
theorem DskM.xlt (h:DskM w d room V N fs):∀ b,DskX d V b->b<w:=fun b E=>by
 rcases E with rfl | ⟨i,z,e⟩
 .exact h.lt
 exact ZN (h.own i z) e
theorem DskM.below (h:DskM w d room V N fs) (E:Below w w w'):DskM w' d room V N fs:=h.keep (fun b z=>E.block b (h.xlt b z))
end
theorem getD_sum_take (z:List (List Int)) (E:n<z):((z.take (n+1)).map List.length).sum=((z.take n).map List.length).sum+(z.getD n []).length:=by
 rw [qj E,qm,List.sum_append];simp [List.getD,E]
theorem Zfw (z:List (List Int)) (k:Nat):((z.take k).map List.length).sum<=Zby z:=by
 unfold Zby
 conv=>rhs;rw [<-List.take_append_drop k z,qm,List.sum_append]
 omega
theorem Zia:∀ (z:List (List Int)) (i:Nat),(z.getD i []).length<=Zby z
 | [],i=>by simp
 | l :: r,0=>by simp [Zby]
 | l :: r,i+1=>by have:=Zia r i;simp only [Zby,qL,List.sum_cons] at this ⊢;simp only [List.getD_cons_succ];omega
theorem ZeB {room:Nat} {V:Nat->Value} {E:Nat->Int} (F:k<8) (h:DskM w n room V E J) :
 Calls prog 160 #[.pointer (some ⟨n,0,none⟩),.int .i64 (k:Int)] w fun e w'=>e=.returned (.int .i64 0)/\w'=w:=by
 have H:=h.off_;have:decide ((k:Int)<0)=false:=qe ya;have:decide ((8:Int)<=(k:Int))=false:=qe ya;go_enter func160,ntmps160
 go_wp2
 go_ret;exact⟨rfl,rfl⟩
theorem used_any {room:Nat} {V:Nat->Value} {M:Nat->Int} (h:DskM w n room V M J) (U:Zby J<=1000000000000) :
 Calls prog 236 #[.pointer (some ⟨n,0,none⟩)] w fun e w'=>e=.returned (.int .i64 (Zby J:Nat))/\w'=w:=by
 have I:=hI h;have R:=h.len;clear h;go_enter func236,ntmps236
 go_wp2
 go_loopw [3,5] (fun s i wr=>∃ k:Nat,k<=8/\s=.int .i64 ((((J.take k).map List.length).sum:Nat):Int)/\i=.int .i64 k/\wr=w) (fun _ i _=>8 - (intOf i).toNat)
 case atStart=>exact⟨0,ya,yb,rfl,rfl⟩
 obtain⟨k,O,rfl,rfl,rfl⟩:=hrel;have L:=Zfw J k;rcases qv k 8 with F | F
 .have:(0:Int)<=(k:Int):=ya;have:(k:Int)<8:=ya;have K:=I.file F;obtain⟨A,c,e,_⟩:=I.form F;rw [e] at K;have E:=hI (getD_sum_take J (n:=k) ya);have H:=Zfw J (k+1);rw [E] at H;clear e;generalize ((J.take k).map List.length).sum=q at L H E;generalize (J.getD k []).length=m at K H E
  go_wp2
  go_roundw
  case rel=>exact⟨k+1,ya,by rw [E];go_num,by go_num,by trivial⟩
  (simp [intOf];omega)
 obtain rfl:k=8:=ya;have N:=hI (show ((J.take 8).map List.length).sum=Zby J by rw [qs ya];rfl)
 go_wp2
 go_ret;exact⟨by rw [N];rfl,by trivial⟩
section
variable {w w7:World} {d room:Nat} {V:Nat->Value} {N:Nat->Int} {fs:List (List Int)}
theorem dskL_set (i:Nat) (z:i<8) (v:Value):(dskL room V N).set (1+i*2) v=dskL room (updF V i v) N:=by
 match i,z with
 | 0,_ | 1,_ | 2,_ | 3,_ | 4,_ | 5,_ | 6,_ | 7,_=>rfl
theorem dskL_setN (i:Nat) (z:i<8) (n:Int):(dskL room V N).set (1+i*2+1) (.int .i64 n)=dskL room V (updF N i n):=by
 match i,z with
 | 0,_ | 1,_ | 2,_ | 3,_ | 4,_ | 5,_ | 6,_ | 7,_=>rfl
theorem DskM.put (h:DskM w d room V N fs) {i:Nat} (K:i<8) {v':Value} {bs':List Int} (W:w.grownBy w7 (V i).ownBlock) (aa:w7.ownsRow 0 5 1 v' bs' (bs'.map bv)) (M:∀ g,v'.ownBlock=some g->(V i).ownBlock=some g\/w.heap.size<=g) :
 DskM (w7.setCell ⟨d,1+i*2,none⟩ v') d room (updF V i v') N (fs.set i bs')/\Fr (fun q=>q=d\/(V i).ownBlock=some q) w (w7.setCell ⟨d,1+i*2,none⟩ v')/\∀ q,DskX d (updF V i v') q->DskX d V q\/w.heap.size<=q:=by
 have ab:w7.heap[d]?=some (.cells (dskL room V N).toArray 124 (0,0)):=(W.block d h.lt (fun e=>h.ne K e.symm)).trans h.blk
 have ac:v'.ownBlock≠some d:=fun e=>by
  rcases M d e with z | z
  .exact h.ne K z
  have:=h.lt;omega
 have Z:∀ q,q≠d->(w7.setCell ⟨d,1+i*2,none⟩ v').heap[q]?=w7.heap[q]?:=fun q O=>qc _ _ _ _ O;refine⟨⟨?_,by rw [List.length_set];exact h.len,fun k F=>?_,fun a k g U F H I=>?_⟩,?_,fun q O=>?_⟩
 .have z:=Zc (v:=v') (k:=1+i*2) ab;rwa [dskL_set i K] at z
 .by_cases E:k=i
  .subst E;have e:(fs.set k bs').getD k []=bs':=(by simp [List.getD,h.len,F]);rw [e];simp only [updF,if_true];exact Zo aa (fun g L=>Z g (fun e=>ac (by rw [L,e])))
  have e:(fs.set i bs').getD k []=fs.getD k []:=(by simp only [List.getD,List.getElem?_set];rw [qo (fun e=>E e.symm)]);rw [e];simp only [updF,qo E];refine Zo (h.own k F) (fun g L=>(Z g (fun e=>h.ne F (by rw [L,e]))).trans (W.block g (ZN (h.own k F) L) (fun e=>E (h.inj k i g F K L e.symm))))
 .simp only [updF] at H I
  by_cases R:a=i
  .by_cases E:k=i
   .omega
   rw [qr R] at H;rw [qo E] at I;rcases M g H with z | z
   .have:=h.inj k i g F K I z;omega
   have:=ZN (h.own k F) I;omega
  by_cases E:k=i
  .rw [qo R] at H;rw [qr E] at I;rcases M g I with z | z
   .have:=h.inj a i g U K H z;omega
   have:=ZN (h.own a U) H;omega
  rw [qo R] at H;rw [qo E] at I;exact h.inj a k g U F H I
 .exact(Qc (X:=fun q=>q=d\/(V i).ownBlock=some q) W (fun b _ e=>.inr e.symm)).setCell _ (fun _=>.inl rfl)
 rcases O with rfl | ⟨k,F,e⟩
 .exact .inl (.inl rfl)
 simp only [updF] at e
 by_cases E:k=i
 .rw [qr E] at e;rcases M q e with z | z
  .exact .inl (.inr ⟨i,K,z⟩)
  exact .inr z
 rw [qo E] at e;exact .inl (.inr ⟨k,F,e⟩)
theorem DskM.putN (h:DskM w d room V N fs) {i:Nat} (E:i<8) (n:Int):DskM (w.setCell ⟨d,1+i*2+1,none⟩ (.int .i64 n)) d room V (updF N i n) fs/\Fr (fun q=>q=d) w (w.setCell ⟨d,1+i*2+1,none⟩ (.int .i64 n)):=by
 refine⟨⟨?_,h.len,fun k z=>Zo (h.own k z) (fun g F=>qc _ _ _ _ (fun e=>h.ne z (by rw [F,e]))),h.inj⟩,(Qa _ w).setCell _ (fun _=>rfl)⟩;have H:=Zc (v:=.int .i64 n) (k:=1+i*2+1) h.blk;rwa [dskL_setN i E] at H
end
theorem BtS.vals {w:World} {S:Nat->Prop} {A:Option Addr} {bs:List Int} (h:BtS w S A bs) (I:0<bs.length):∃ b o,A=some ⟨b,o,none⟩/\S b/\CellsAt w b o (bs.map bv):=by
 obtain⟨b,o,e,K,_⟩:=h.at_ I;refine⟨b,o,e,K,fun j u E=>?_⟩;rw [List.getElem?_map] at E;obtain⟨x,F,rfl⟩:=Option.map_eq_some_iff.1 E;obtain⟨b',o',z,_,L⟩:=h.at_ (qR.1 F).1;rw [e] at z;injection z with z;injection z with H M;subst H M;rw [L];simp [List.getD,F]
theorem Zgh (l:List Int):∀ u ∈ l.map bv,u.oneCell'=true:=by
 intro u z;obtain⟨x,_,rfl⟩:=qO.1 z;rfl
theorem cloneB_any (z:BtS w S A l) (aj:∀ b,S b->b<w) :
 Calls prog 161 #[.slice A l n] w (PutP w l w):=by
 have am:=z.len;obtain⟨L,N,U,ab,ae⟩:=qA ZcN;have ap:=fun (w:World) (a:Option Addr) (I c:Nat)=>Lib.run_eql_slice_nil (P:=prog) w 22 5 a I c 0 0 underlying22;cases A with
 | none =>
  have E:l=[]:=by
   cases l with
   | nil=>rfl
   | cons c r=>obtain⟨b,H,e,_⟩:=z.at_ (k:=0) yb;cases e
  subst E;clear z;go_enter func161,ntmps161
  go_wp2
  go_ret;exact⟨none,0,rfl,qV _ _ _ _,qa _ _⟩
 | some ad =>
  have F:Below w w (w.alloc (.cells #[] 5)):=(qa _ _).alloc nR _;have K:=hI (show (w.alloc (.cells #[] 5)).ownsRow w.heap.size 5 1 (.slice (some ⟨w,0,none⟩) 0 0) 0 [] from ⟨rfl,.inr ⟨w.heap.size,0,#[],rfl,qp _,qb w _,qp _,yh,rfl,rfl⟩⟩);replace F:=hI F;rcases qF l.length with E | E
  .have af:l=[]:=List.length_eq_zero_iff.1 E;subst af;clear z;go_enter func161,ntmps161
   go_wp2_with (at_builtin;refine Zam rfl (.tmp 5) (.tmp 6) 22 rfl underlying22 N 0 rfl n rfl ?_)
   go_ret;exact⟨some ⟨w,0,none⟩,0,rfl,K,F⟩
  obtain⟨b,H,e,W,O⟩:=z.vals E;injection e with e;subst e;have R:=aj b W
  have Z:=hI (show ∀ j u,(l.map bv)[j]?=some u->(w.alloc (.cells #[] 5)).cell? ((⟨b,H,none⟩:Addr).add j)=some u from fun j u ah=>by
   rw [add_none];exact(F.cell (p:=⟨b,H+j,none⟩) R).trans (O j u ah))
  clear O z;go_enter func161,ntmps161
  go_wp2_with (at_builtin;refine wpList_append_own _ rfl (.tmp 5) (.tmp 6) 22 rfl w.heap.size 5 L _ 1 1 underlying22 N U ab ae rfl yf (.slice (some ⟨w,0,none⟩) 0 0) 0 [] rfl K ⟨b,H,none⟩ l.length n (l.map bv) rfl yb Z (Zgh l) yh ya yb ?_;intro an ak M ac ao)
  go_ret;rw [qP,qx] at M;obtain⟨aa,c1,rfl,ai⟩:=Qm (T:=l) M rfl rfl;exact⟨aa,c1,rfl,ai,F.grown ac yb (fun k e=>by simp [Value.ownBlock] at e;omega)⟩
theorem Zjv {room:Nat} (E:room<=16777216) :
 Calls prog 13 #[.int .i64 (room:Int)] w fun e w'=>e=.returned (.tuple #[.pointer (some ⟨w,0,none⟩),.int .i64 0])/\DskM w' w room (fun _=>.slice none 0 0) (fun _=>0) (List.replicate 8 [])/\Below w w w'/\w'.heap.size=w.heap.size+1:=by
 have:decide ((room:Int)<0)=false:=qe ya;have:decide ((16777216:Int)<(room:Int))=false:=qe ya;go_enter func13,ntmps13
 go_wp2
 go_ret2
 exact⟨rfl,⟨qb w _,rfl,fun i z=>by
  have e:(List.replicate 8 ([]:List Int)).getD i []=[]:=by
   match i,z with
   | 0,_ | 1,_ | 2,_ | 3,_ | 4,_ | 5,_ | 6,_ | 7,_=>rfl
  rw [e];exact qV _ _ _ _,fun i k g _ _ e=>by simp [Value.ownBlock] at e⟩,(qa _ w).alloc nR _,yb⟩
theorem DskM.bts {w:World} {d room:Nat} {V:Nat->Value} {O:Nat->Int} {z:List (List Int)} (h:DskM w d room V O z) {i:Nat} (F:i<8) {A:Option Addr} {n c:Nat} (H:V i=.slice A n c) (aa:(z.getD i []).length<=1000000000000):BtS w (DskX d V) A (z.getD i []):=by
 have E:=h.own i F;rw [H] at E;obtain⟨A',ab,e,N⟩:=Qm E rfl rfl;injection e with L W M;subst L W M;refine⟨by rw [Ze (n:=8) (fun _=>rfl)];omega,fun R=>?_⟩;obtain⟨g,e,ac,Z,U⟩:=Zad N (by simpa using R);refine⟨g,0,e,.inr ⟨i,F,by rw [H,e];rfl⟩,ZaZ (n:=1) (fun d hd=>by obtain⟨v,_,rfl⟩:=qO.1 hd;rfl) (fun k I=>?_)⟩;rw [List.getElem_map];have K:k<(z.getD i []).length:=(by simpa using I);have:=U k (bv (z.getD i [])[k]) (by simp [List.getElem?_map,K]);unfold encB Dat.Held;exact⟨by simpa using this,trivial⟩
theorem dread_any {room:Nat} {V:Nat->Value} {K:Nat->Int} (i:Nat) (E:i<8) (h:DskM w n room V K J) (M:(J.getD i []).length<=1000000000000) :
 Calls prog 103 #[.pointer (some ⟨n,0,none⟩),.int .i64 (i:Int)] w fun e w'=>∃ A c,e=.returned (.tuple #[.slice A (J.getD i []).length c,.int .i64 0])/\BY w' w A c (J.getD i [])/\Below w w w':=by
 have O:=hI h;have c1:=h.file E;obtain⟨A,c,e,_⟩:=h.form E;have I:=hI (h.bts E e M);have R:=h.xlt;rw [e] at c1;have:(0:Int)<=(i:Int):=ya;have:(i:Int)<8:=ya;clear h e;generalize J.getD i []=bs at c1 I;go_enter func103,ntmps103
 go_wp2_with fail
 refine(ZeB E O).mono ?_;rintro e L ⟨rfl,rfl⟩
 go_wp2_with fail
 refine(cloneB_any I R).mono ?_;rintro e w2 ⟨N,c2,rfl,F,H⟩;replace F:=hI F;replace H:=hI H
 go_wp2
 go_ret2;exact⟨N,c2,yb,F,H⟩
def DskP (d room:Nat) (V:Nat->Value) (F:List (List Int)) (w w':World):Prop:=∃ z E,DskM w' d room z E F/\Fr (DskX d V) w w'/\∀ q,DskX d z q->DskX d V q\/w.heap.size<=q
theorem dappend1_any {room:Nat} {V:Nat->Value} {aN:Nat->Int} (y:Nat) (R:y<8) (h:DskM w n room V aN J) (U:w.heap[k]?=some (.cells #[.pointer (some ⟨n,1+y*2,none⟩)] 248 (0,0))) (O:w.heap[m]?=some (.cells #[.slice A l i] 22 (0,0))) (aD:BtS w S A l) (ba:∀ q,S q->q<w) (ay:0<l.length) (aA:(J.getD y []).length+l.length<=1000000000000) :
 Calls prog 263 #[.pointer (some ⟨k,0,none⟩),.pointer (some ⟨m,0,none⟩)] w fun e w'=>e=.returned (.tuple #[])/\DskP n room V (J.set y (J.getD y []++l)) w w':=by
 obtain⟨aT,aO,aF,aR,aV⟩:=qA ZcN;have ar:=hI h;obtain⟨d,c,an,F⟩:=h.form R;have c1:=h.file R;have az:(V y).ownBlock=(Value.slice d (J.getD y []).length c).ownBlock:=(by rw [an]);have Z:=hI az;rw [an] at c1;have f1:w.frozen? ⟨n,1+y*2,none⟩=false:=Zd h.blk;have ap:yr w k 0 (.pointer (some ⟨n,1+y*2,none⟩)):=Za U 0 _ rfl;have aC:yr w m 0 (.slice A l i):=Za O 0 _ rfl;have aE:=Zb U;have aK:=Zb O;have aB:=h.lt;obtain⟨bs,ab⟩:=yp (J.getD y []);rw [ab] at c1 F aA ⊢;rw [ab] at Z;obtain⟨cb,ah⟩:=yp bs.length;have aU:=hI ah;rw [ah] at c1 F aA Z;have aL:=hI F
 have M:=hI (show some k≠(Value.slice d cb c).ownBlock/\some m≠(Value.slice d cb c).ownBlock/\some n≠(Value.slice d cb c).ownBlock from ⟨fun e=>by
  obtain⟨_,ax,z⟩:=Zae F e.symm;rw [U] at z;injection z with z;injection z with _ z;exact absurd z yf,fun e=>by
  obtain⟨_,ax,z⟩:=Zae F e.symm;rw [O] at z;injection z with z;injection z with _ z;exact absurd z yf,fun e=>by
  obtain⟨_,ax,z⟩:=Zae F e.symm;rw [h.blk] at z;injection z with z;injection z with _ z;exact absurd z yf⟩)
 obtain⟨N,W,aX,aZ,aq⟩:=aD.vals ay;subst aX;have aJ:=hI (show ∀ j u,(l.map bv)[j]?=some u->w.drew.cell? ((⟨N,W,none⟩:Addr).add j)=some u from fun j u aW=>by rw [add_none];exact aq j u aW);clear h U O an az F aq aD ah ab;go_enter func263,ntmps263;refine uS (fun w'=>w'.cell? ⟨k,0,none⟩=some (.pointer (some ⟨n,1+y*2,none⟩))/\w'.cell? ⟨m,0,none⟩=some (.slice (some ⟨N,W,none⟩) l.length i)/\w'.cell? ⟨n,1+y*2,none⟩=some (.slice d cb c)/\w'.frozen? ⟨n,1+y*2,none⟩=false) 9 10 fun Q' au ao=>?_;refine uR [0,6] ao ⟨ap,aC,c1,f1⟩ ?_;refine uQ 6 fun I av=>?_;refine step_append_lies _ yg (.tmp 6) (.tmp 7) 22 yg 0 5 aT _ 1 1 underlying22 aO aF aR aV rfl yf (.slice d cb c) cb (bs.map bv) yg (by exact aL) ⟨N,W,none⟩ l.length i (l.map bv) yg yb aJ (Zgh l) ay yh ya (qk _) w.heap.size rfl ?_;intro aw aP K aj E am bb;replace aj:=hI aj;replace E:=hI E;replace am:=hI am;have ae:yr K k 0 (.pointer (some ⟨n,1+y*2,none⟩)):=(ql (E.block k aE M.1)).trans ap;have aa:yr K m 0 (.slice (some ⟨N,W,none⟩) l.length i):=(ql (E.block m aK M.2.1)).trans aC;have ai:yr K n (1+y*2) (.slice d cb c):=(ql (E.block n aB M.2.2)).trans c1;have ac:K.frozen? ⟨n,1+y*2,none⟩=false:=Zd ((E.block n aB M.2.2).trans ar.blk);refine av _ _ (fun _=>⟨ae,aa,ai,ac⟩) ?_;clear av I
 try simp only [Act.put,psA,psB,psC]
 refine uQ 7 fun I L=>?_;go_simp;refine L _ _ (fun _=>⟨ae,aa,ai,ac⟩) ?_;clear L I
 try simp only [Act.put,psA,psB,psC]
 refine uR [8,1] ao ⟨ae,aa,ai,ac⟩ ?_;refine uQ 9 fun I L=>?_;go_simp;refine L _ _ nD ?_;clear L I;refine uE au ?_;clear au ao Q';have aG:w.grownBy K (Value.slice d cb c).ownBlock:=⟨E.os,E.tape,E.output,E.size,E.block⟩
 obtain⟨aQ,aY,aS⟩:=ar.put R (v':=.slice (some ⟨aw,0,none⟩) (cb+l.length) aP) (bs':=bs++l) (by rw [Z];exact aG) (by rw [qi,qm,aU];exact aj) (fun g aH=>by
  have aI:aw=g:=(by simpa [Value.ownBlock] using aH);subst aI;rcases am.out with ak | ak
  .exact .inl (Z.trans ak)
  exact .inr (by rw [ak];exact qp _))
 go_end0
 exact⟨rfl,_,_,aQ,aY.mono (fun q _ aM=>aM.imp id (fun e=>⟨y,R,e⟩)),aS⟩
def baOf (l:List Int):ByteArray:=⟨(l.map fun x=>UInt8.ofNat x.toNat).toArray⟩
def Zbn (l:List Int):Prop:=∀ x ∈ l,0<=x/\x<256
theorem Zcq (l:List Int):(baOf l).size=l.length:=by show (baOf l).data.size=_;simp [baOf]
theorem Zdh (h:Zbn l):txtB (baOf l)=l:=by
 unfold txtB baOf;simp only [List.toList_toArray,List.map_map];refine(List.map_congr_left (fun x z=>?_)).trans (List.map_id l);have:=h x z;simp only [Function.comp,id];rw [UInt8.toNat_ofNat'];omega
theorem Zhl (K:BtS w S A l) (h:Zbn l):(convert 22 9 (.slice A l n)).run prog w=.ok (.string (baOf l)) w:=by
 rcases qF l.length with F | F
 .have I:l=[]:=List.length_eq_zero_iff.1 F;subst I;have e:(baOf []:ByteArray)=ByteArray.empty:=rfl;rw [e];cases A with
  | none=>exact run_convert_bytes_nil w 22 5 ye ye _ _ _ ye
  | some ad =>
   have E:=run_convert_bytes_back (P:=prog) w 22 9 5 ad n [] ye ye ye (fun j z=>absurd z yb);exact E
 obtain⟨b,o,rfl,_,L⟩:=K.vals F
 have E:=run_convert_bytes_back (P:=prog) w 22 9 5 ⟨b,o,none⟩ n (l.map fun x=>UInt8.ofNat x.toNat) ye ye ye (fun j z=>by
  rw [qg] at z;have H:=L j (bv l[j]) (by simp [z]);rw [add_none,H];have:=h l[j] (qJ z);rw [List.getElem_map,UInt8.toNat_ofNat']
  congr 2
  omega)
 rw [qg] at E;exact E
structure WrM (w:World) (g base:Nat) (A:Option Addr) (c:Nat) (bs:List Int):Prop where
 blk:w.heap[g]?=some (.cells #[.slice A bs c] 270 (0,0))
 own:BY w base A c bs
 lo:base<=g
section
variable {w w':World} {g base c:Nat} {A:Option Addr} {bs:List Int}
theorem WrM.lt (h:WrM w g base A c bs):g<w:=Zb h.blk
theorem WrM.ne (h:WrM w g base A c bs):some g≠(Value.slice A bs c).ownBlock:=fun e=>by
 obtain⟨_,E,z⟩:=Zae h.own e.symm;rw [h.blk] at z;injection z with z;injection z with _ z;exact absurd z yf
theorem WrM.below (h:WrM w g base A c bs) (z:Below w w w'):WrM w' g base A c bs:=⟨(z.block g h.lt).trans h.blk,h.own.below z,h.lo⟩
theorem WrM.push {F:World} {z E n:Nat} {x:List Int} (h:WrM w g base A c bs) (M:F.ownsRow base 5 1 (.slice (some ⟨z,0,none⟩) n E) n (bs.map bv++x.map bv)) (O:n=bs.length+x.length) (K:w.grownBy F (Value.slice A bs c).ownBlock) (N:(Value.slice A bs c).ownBlock=some z\/z=w.heap.size) :
 WrM (F.setCell ⟨g,0,none⟩ (.slice (some ⟨z,0,none⟩) n E)) g base (some ⟨z,0,none⟩) E (bs++x)/\Fr (fun b=>b=g\/(Value.slice A bs c).ownBlock=some b) w (F.setCell ⟨g,0,none⟩ (.slice (some ⟨z,0,none⟩) n E)):=by
 subst O
 have:z≠g:=fun e=>by
  subst e;rcases N with H | H
  .exact h.ne H.symm
  have:=h.lt;omega
 have L:∀ q,q≠g->(F.setCell ⟨g,0,none⟩ (.slice (some ⟨z,0,none⟩) (bs.length+x.length) E)).heap[q]?=F.heap[q]?:=fun q I=>qc _ _ _ _ I;refine⟨⟨?_,?_,h.lo⟩,?_⟩
 .have H:=Zc (vs:=[.slice A bs c]) (k:=0) (v:=.slice (some ⟨z,0,none⟩) (bs.length+x.length) E) ((K.block g h.lt h.ne).trans h.blk);rw [qi];exact H
 .show World.ownsRow _ base 5 1 _ _ _;rw [qi,qm]
  exact Zo M (fun q I=>L q (by
   have:z=q:=(by simpa [Value.ownBlock] using I);omega))
 exact(Qc (X:=fun b=>b=g\/(Value.slice A bs c).ownBlock=some b) K (fun b _ e=>.inr e.symm)).setCell _ (fun _=>.inl rfl)
end
def KpT (w w':World):Prop:=∀ (x:Nat) (cs:Array Value) (t:TypeId),w.heap[x]?=some (.cells cs t (0,0))->t≠5->t≠270->w'.heap[x]?=some (.cells cs t (0,0))
theorem KpT.trans {w w' F:World} (h:KpT w w') (H:KpT w' F):KpT w F:=fun x cs t I E z=>H x cs t (h x cs t I E z) E z
theorem KpT.below (h:Below w w w'):KpT w w':=fun x cs t z _ _=>(h.block x (Zb z)).trans z
def WrP (g base:Nat) (T:List Int) (w:World) (e:Ending) (w':World):Prop:=e=.returned (.tuple #[])/\∃ A c,WrM w' g base A c T/\Below base w w'/\KpT w w'
theorem WrM.done {w w2 w':World} {g base c I:Nat} {A K:Option Addr} {bs T:List Int} (h:WrM w g base A c bs) (F:Below w w w2) (N:WrM w' g base K I T) (H:Fr (fun b=>b=g\/(Value.slice A bs c).ownBlock=some b) w2 w'):WrP g base T w (.returned (.tuple #[])) w':=by
 have L:base<=w:=(ym h.lt h.lo);refine⟨rfl,K,I,N,(F.mono L).trans (H.below (yl F.size) (fun b U=>?_)),fun x cs t z O M=>?_⟩
 .rintro(e | e)
  .have:=h.lo;omega
  have:=Zs h.own e;omega
 refine(H.block x (ym (Zb z) F.size) ?_).trans ((F.block x (Zb z)).trans z);rintro(e | e)
 .subst e;rw [h.blk] at z;injection z with z;injection z with _ z;exact M z.symm
 obtain⟨_,R,E⟩:=Zae h.own e;rw [z] at E;injection E with E;injection E with _ E;exact O E
theorem Zaa (h:WrM w n k A m l) (aD:l.length<=100000000) (aM:i<9223372036854775808) :
 Calls prog 187 #[.pointer (some ⟨n,0,none⟩),.int .i64 (i:Int)] w (WrP n k (l++(lebF i)) w):=by
 obtain⟨aB,aI,aw,az,aC⟩:=qA ZcN;have N:=hI h;have R:yr w n 0 (.slice A l m):=Za h.blk 0 _ rfl;have an:w.frozen? ⟨n,0,none⟩=false:=Zd h.blk;have ac:0<(lebF i).length:=ZdB i;have aA:=Zz (n:=i) ya;have:IntKind.u64.wrap (i:Int)=(i:Int):=(by rw [IntKind.wrap_u64];omega);obtain⟨TT,M⟩:=yp (lebF i);rw [M] at ac aA ⊢;replace M:=hI M;obtain⟨g,H⟩:=yp l.length;rw [H] at R aD;replace H:=hI H;clear h;go_enter func187,ntmps187;refine uS (fun w'=>w'.cell? ⟨n,0,none⟩=some (.slice A g m)/\w'.frozen? ⟨n,0,none⟩=false) 11 12 fun Q' af ao=>?_;obtain⟨I,L,aq,aJ⟩:=dr w;have ak:=hI (show WrM I n k A m l by rw [<-L];exact⟨N.blk,N.own,N.lo⟩);have ai:I.cell? ⟨n,0,none⟩=some (.slice A g m):=(by rw [<-L];exact R);have ap:I.frozen? ⟨n,0,none⟩=false:=(by rw [<-L];exact an);rw [L];clear L R an;refine uR [0,7] ao ⟨ai,ap⟩ ?_;refine uQ 7 fun E z=>?_;go_simp;refine((show Calls prog 227 #[.slice none 0 0,.int .u64 (i:Int)] I (PutP I TT I) from by have aG:=appUint_any i I ya;rwa [M.out] at aG)).mono ?_;rintro e w2 ⟨aN,c2,rfl,Z,O⟩;replace Z:=hI Z;have F:=hI (ak.below O);have ay:=hI (aq.trans (O.mono ya));have am:yr w2 n 0 (.slice A g m):=(ql (O.block n ak.lt)).trans ai;have au:w2.frozen? ⟨n,0,none⟩=false:=Zd F.blk;clear O;refine z _ _ (fun _=>⟨am,au⟩) ?_;clear z E
 try simp only [Act.put,psA,psB,psC]
 refine uQ 8 fun E aj=>?_;obtain⟨ax,aH,_,_,ar⟩:=Zad (Z) ac;subst aH;refine step_append_lies _ yg (.tmp 8) (.tmp 11) 22 yg k 5 aB _ 1 1 underlying22 aI aw az aC rfl yf (.slice A g m) g (l.map bv) yg (by rw [<-H];exact F.own) ⟨ax,0,none⟩ TT.length c2 (TT.map bv) yg yb (fun j u aE=>by rw [add_none,qx];exact ar j u aE) (Zgh _) ac yh ya (ym F.lo F.lt) w2.heap.size rfl ?_;intro aL aK ah ab K ae aO;replace ab:=hI ab;replace K:=hI K;replace ae:=hI ae;have aa:some n≠(Value.slice A g m).ownBlock:=(by rw [<-H];exact F.ne);have U:yr ah n 0 (.slice A g m):=(ql (K.block n F.lt aa)).trans am;have W:ah.frozen? ⟨n,0,none⟩=false:=Zd ((K.block n F.lt aa).trans F.blk);clear aa;refine aj _ _ (fun _=>⟨U,W⟩) ?_;clear aj E
 try simp only [Act.put,psA,psB,psC]
 refine uQ 9 fun E z=>?_;go_simp;refine z _ _ (fun _=>⟨U,W⟩) ?_;clear z E
 try simp only [Act.put,psA,psB,psC]
 refine uQ 10 fun E z=>?_;go_simp;refine z _ _ (fun _=>⟨U,W⟩) ?_;clear z E
 try simp only [Act.put,psA,psB,psC]
 refine uQ 11 fun E z=>?_;go_simp;refine z _ _ nD ?_;clear z E;refine uE af ?_;clear af ao Q';obtain⟨av,aF⟩:=F.push (x:=TT) ab (by rw [H]) (by rw [H];exact K) (by rw [H];exact ae)
 go_end0
 exact N.done ay av aF
theorem Zhu (h:WrM w n k A m l) (aR:l.length<=100000000) (aC:BtS w S B p) (Z:Zbn p) (aB:∀ q,S q->q<w) (aN:∀ q,S q->q<k) (aW:p.length<=1000000) :
 Calls prog 189 #[.pointer (some ⟨n,0,none⟩),.slice B p i] w (WrP n k (l++(lebF p.length++p)) w):=by
 obtain⟨aP,aL,aJ,aM,aQ⟩:=qA ZcN;have U:=hI h;have aa:yr w n 0 (.slice A l m):=Za h.blk 0 _ rfl;have aD:w.frozen? ⟨n,0,none⟩=false:=Zd h.blk;have an:0<(lebF p.length++p).length:=(by rw [qi];have:=ZdB p;omega);have aO:(lebF p.length++p).length<=2000000:=(by rw [qi];have:=Zz (n:=p) ya;omega);replace Z:=hI Z;have ax:=aC;clear aC;obtain⟨TT,R⟩:=yp (lebF p.length++p);rw [R] at an aO ⊢;replace R:=hI R;obtain⟨g,I⟩:=yp l.length;rw [I] at aa aR;replace I:=hI I;clear h;go_enter func189,ntmps189;refine uS (fun w'=>w'.cell? ⟨n,0,none⟩=some (.slice A g m)/\w'.frozen? ⟨n,0,none⟩=false/\BtS w' S B p) 11 12 fun Q' ar ae=>?_;obtain⟨K,N,aF,aX⟩:=dr w;have ay:=hI (show WrM K n k A m l by rw [<-N];exact⟨U.blk,U.own,U.lo⟩);have af:K.cell? ⟨n,0,none⟩=some (.slice A g m):=(by rw [<-N];exact aa);have aq:K.frozen? ⟨n,0,none⟩=false:=(by rw [<-N];exact aD);have ak:BtS K S B p:=(by rw [<-N];exact qU ax (fun _ _=>rfl));rw [N];clear N aa aD ax;refine uR [0,6] ae ⟨af,aq,ak⟩ ?_;refine uV 6 (.string (baOf p)) ae ?_ ⟨af,aq,ak⟩ ?_
 .intro w' aV;have az:=Zhl (n:=i) aV.2.2 Z;go_simp
  (try with_reducible rfl)
 simp only [psA,psB,psC];refine uQ 7 fun H E=>?_;go_simp;refine((show Calls prog 198 #[.slice none 0 0,.string (baOf p)] K (PutP K TT K) from by have az:=Zgl (baOf p) K (by rw [Zcq];omega);rwa [Zcq,Zdh Z.out,R.out] at az)).mono ?_;rintro e w2 ⟨ba,c2,rfl,ai,O⟩;replace ai:=hI ai;have F:=hI (ay.below O);have au:=hI (aF.trans (O.mono ya));have aA:yr w2 n 0 (.slice A g m):=(ql (O.block n ay.lt)).trans af;have aH:w2.frozen? ⟨n,0,none⟩=false:=Zd F.blk;have aw:BtS w2 S B p:=qU ak (qS O (fun q W=>yl (aB q W)));clear O;refine E _ _ (fun _=>⟨aA,aH,aw⟩) ?_;clear E H
 try simp only [Act.put,psA,psB,psC]
 refine uQ 8 fun H av=>?_;obtain⟨aK,aU,_,_,aG⟩:=Zad (ai) an;subst aU;refine step_append_lies _ yg (.tmp 8) (.tmp 11) 22 yg k 5 aP _ 1 1 underlying22 aL aJ aM aQ rfl yf (.slice A g m) g (l.map bv) yg (by rw [<-I];exact F.own) ⟨aK,0,none⟩ TT.length c2 (TT.map bv) yg yb (fun j u aS=>by rw [add_none,qx];exact aG j u aS) (Zgh _) an yh ya (ym F.lo F.lt) w2.heap.size rfl ?_;intro aZ aY ac am L ao bb;replace am:=hI am;replace L:=hI L;replace ao:=hI ao;have aj:some n≠(Value.slice A g m).ownBlock:=(by rw [<-I];exact F.ne);have ab:yr ac n 0 (.slice A g m):=(ql (L.block n F.lt aj)).trans aA;have ah:ac.frozen? ⟨n,0,none⟩=false:=Zd ((L.block n F.lt aj).trans F.blk);have ap:BtS ac S B p:=qU aw (fun q W=>L.block q (ym (aB q W) au.size) (fun e=>by rw [<-I] at e;have:=Zs F.own e.symm;have:=aN q W;omega));clear aj;refine av _ _ (fun _=>⟨ab,ah,ap⟩) ?_;clear av H
 try simp only [Act.put,psA,psB,psC]
 refine uQ 9 fun H E=>?_;go_simp;refine E _ _ (fun _=>⟨ab,ah,ap⟩) ?_;clear E H
 try simp only [Act.put,psA,psB,psC]
 refine uQ 10 fun H E=>?_;go_simp;refine E _ _ (fun _=>⟨ab,ah,ap⟩) ?_;clear E H
 try simp only [Act.put,psA,psB,psC]
 refine uQ 11 fun H E=>?_;go_simp;refine E _ _ nD ?_;clear E H;refine uE ar ?_;clear ar ae Q';obtain⟨aI,aT⟩:=F.push (x:=TT) am (by rw [I]) (by rw [I];exact L) (by rw [I];exact ao)
 go_end0
 exact U.done au aI aT
theorem Zfg {r:Row} (h:WrM w n k A m l) (aE:l.length<=100000000) (W:RowS w S B r) (aw:∀ b,S b->b<w) (M:∀ v ∈ r,Zp v=true) (ap:r.length<=12) :
 Calls prog 190 #[.pointer (some ⟨n,0,none⟩),.slice B r i] w (WrP n k (l++rowB r) w):=by
 obtain⟨an,aA,ae,aj,ao⟩:=qA ZcN;have O:=hI h;have am:=hI W;have az:=hI M;have N:0<(rowB r).length:=(by unfold rowB;rw [qi];have:=ZdB r;omega)
 have ak:(rowB r).length<=1000:=by
  unfold rowB;rw [qi];have aC:=Zz (n:=r) ya;have ab:=ZdZ M r;rw [qM] at ab;omega
 obtain⟨TT,F⟩:=yp (rowB r);rw [F] at N ak ⊢;replace F:=hI F;clear h W M;go_enter func190,ntmps190
 go_wp2_with fail
 refine(appRow_nil am aw az ap).mono ?_;rw [F];rintro e w2 ⟨aF,c2,rfl,K,H⟩;replace K:=hI K;have z:=hI (O.below H);replace H:=hI H;have ax:yr w2 n 0 (.slice A l m):=Za z.blk 0 _ rfl;obtain⟨af,ay,_,_,I⟩:=Zad K N;subst ay;replace I:=hI I;have ai:k<=w2:=(ym z.lo z.lt)
 go_wp2_with (at_builtin;refine wpList_append_lies _ rfl (.tmp 15) (.tmp 16) 22 rfl k 5 an _ 1 1 underlying22 aA ae aj ao rfl yf (.slice A l m) l.length (l.map bv) rfl z.own ⟨af,0,none⟩ TT.length c2 (TT.map bv) rfl yb (fun j u aq=>by rw [add_none,qx];exact I j u aq) (Zgh _) N yh ya ai w2.heap.size rfl ?_;intro aD aB R Z E aa aG;have ar:=hI Z;have ah:=hI E;have av:=hI aa;have:yr R n 0 (.slice A l m):=(ql (E.block n z.lt z.ne)).trans ax;have:R.frozen? ⟨n,0,none⟩=false:=Zd ((E.block n z.lt z.ne).trans z.blk);clear Z E aa)
 obtain⟨ac,au⟩:=z.push (x:=TT) ar rfl ah av
 go_end0
 exact O.done H ac au
theorem Zdf {α β:Type} {f:α->List β} :∀ {l:List α},(∀ x ∈ l,(f x).length<=n)->(l.flatMap f).length<=l.length*n
 | [],_=>by simp
 | x :: r,h=>by
  have E:=h x yb;have F:=Zdf (l:=r) (fun y z=>h y (by simp [z]));simp only [List.flatMap_cons,qi,qK,Nat.succ_mul];omega
theorem nums_len (z:∀ x ∈ l,0<=x/\x<1000000000000) (k:Nat):((l.take k).flatMap fun x=>lebF x.toNat).length<=l.length*10:=by
 have F:=Zdf (l:=l.take k) (f:=fun x=>lebF x.toNat) (n:=10) (fun x E=>Zz (yl (z x (List.mem_of_mem_take E))));have:(l.take k).length*10<=l.length*10:=Nat.mul_le_mul_right _ yd;omega
theorem wnumbers_any (h:WrM w n k A m l) (aC:l.length<=1000000) (O:IntS w S B p) (ar:∀ b,S b->b<w/\b<k) (I:∀ x ∈ p,0<=x/\x<1000000000000) (aE:p.length<=1000) :
 Calls prog 188 #[.pointer (some ⟨n,0,none⟩),.slice B p i] w (WrP n k (l++(lebF p.length++p.flatMap fun x=>lebF x.toNat)) w):=by
 replace O:=hI O;replace I:=hI I;replace h:=hI h;have az:=Zz (n:=p) ya;go_enter func188,ntmps188
 go_wp2_with fail
 refine(Zaa h ya ya).mono ?_;rintro e aw ⟨rfl,aj,c1,N,R,L⟩;replace N:=hI N;replace R:=hI R;replace L:=hI L
 go_wp2
 go_loopw [12] (fun ac wr=>∃ (g:Nat) (A:Option Addr) (m:Nat),g<=p/\ac=.int .i64 g/\WrM wr n k A m (l++(lebF p.length++(p.take g).flatMap fun x=>lebF x.toNat))/\Below k w wr/\KpT w wr) (fun ac _=>p.length - (intOf ac).toNat)
 case atStart=>exact⟨0,aj,c1,qk _,rfl,by simpa using N.out,R,L⟩
 obtain⟨g,ae,c2,aA,rfl,z,F,H⟩:=hrel;replace H:=hI H;replace z:=hI z;replace F:=hI F;rcases qv g p.length with E | av
 .have:(0:Int)<=(g:Int):=ya;have:(g:Int)<(p:Int):=ya;obtain⟨ax,aB,rfl,aF,ak⟩:=(O.keep (fun b ai=>F.block b (ar b ai).2)).at_ E;have U:=I (p.getD g 0) (by rw [show p.getD g 0=p[g] by simp [List.getD,E]];exact qJ E)
  have W:=hI (show (p.take (g+1)).flatMap (fun x=>lebF x.toNat)=(p.take g).flatMap (fun x=>lebF x.toNat)++lebF (p.getD g 0).toNat by
   rw [qj E,List.flatMap_append,show p.getD g 0=p[g] by simp [List.getD,E]];simp)
  obtain⟨x,aa⟩:=qn U.1;have an:x<9223372036854775808:=(yl U.2);rw [aa] at ak W;rw [qu] at W;have aD:=nums_len I g;obtain⟨Z,K⟩:=yp (l++(lebF p.length++(p.take g).flatMap fun x=>lebF x.toNat));have:Z.length<=2000000:=(by rw [<-K];simp only [qi];omega);have aq:=hI K;rw [K] at z;clear U aa K
  go_wp2_with fail
  refine(Zaa z ya an).mono ?_;rintro e ay ⟨rfl,ap,ao,M,af,ab⟩;have au:=hI (H.trans ab);clear ab;replace M:=hI M;have ah:=hI (F.trans af);clear af
  go_wp2
  go_roundw
  case rel=>exact⟨g+1,ap,ao,ya,by go_num,by rw [W,<-qB (lebF p),<-qB l,aq];exact M,ah,au⟩
  (simp [intOf];omega)
 obtain rfl:g=p.length:=ya;have:decide ((p:Int)<(p:Int))=false:=qe ya;have:decide (p.length<p)=false:=yb;rw [qM] at z
 go_wp2
 go_end0
 exact⟨rfl,ae,c2,z,F,H⟩
structure Ent where
 co:Int
 wn:Int
 sd:List Int
 cx:List Chg
 note:List Int
def ent0:Ent:=⟨0,0,[],[],[]⟩
def encE (e:Ent):Dat:=.agg [.lit (.int .i64 e.co),.lit (.int .i64 e.wn),.slice (e.sd.map ZaT),.slice (e.cx.map ZF),.slice (e.note.map encB)]
theorem ZfZ (e:Ent):(encE e).size=5:=rfl
theorem Zez (e:Ent):(encE e).Plain:=by simp [encE,Dat.Plain,Dat.Pa,Value.oneCell']
structure EntV (w:World) (S:Nat->Prop) (e:Ent) (A1:Option Addr) (c1:Nat) (A2:Option Addr) (c2:Nat) (A3:Option Addr) (c3:Nat):Prop where
 l1:e.sd.length<=c1
 s1:IntS w S A1 e.sd
 l2:e.cx.length<=c2
 s2:ChgS w S A2 e.cx
 l3:e.note.length<=c3
 s3:BtS w S A3 e.note
abbrev EntsS (w:World) (S:Nat->Prop) (A:Option Addr) (l:List Ent):Prop:=Sl w S A (l.map encE)
abbrev Zdl (e:Ent) (E:Option Addr) (c1:Nat) (z:Option Addr) (c2:Nat) (F:Option Addr) (H:Nat):List Value:=[.int .i64 e.co,.int .i64 e.wn,.slice E e.sd c1,.slice z e.cx c2,.slice F e.note H]
section
variable {w w':World} {S S':Nat->Prop} {e:Ent} {A1 A2 A3:Option Addr} {c1 c2 c3:Nat}
theorem EntV.keep (h:EntV w S e A1 c1 A2 c2 A3 c3) (z:Same S w w'):EntV w' S e A1 c1 A2 c2 A3 c3:=⟨h.l1,qU h.s1 z,h.l2,qU h.s2 z,h.l3,qU h.s3 z⟩
theorem EntV.more (h:EntV w S e A1 c1 A2 c2 A3 c3) (z:∀ b,S b->S' b):EntV w S' e A1 c1 A2 c2 A3 c3:=⟨h.l1,qZ h.s1 z,h.l2,qZ h.s2 z,h.l3,qZ h.s3 z⟩
theorem EntV.vals (h:EntV w S e A1 c1 A2 c2 A3 c3):Dat.Vs w S (encE e) (Zdl e A1 c1 A2 c2 A3 c3):=by
 unfold encE Dat.Vs Dat.Va;refine⟨[_],_,rfl,by unfold Dat.Vs;exact⟨rfl,trivial⟩,?_⟩;unfold Dat.Va;refine⟨[_],_,rfl,by unfold Dat.Vs;exact⟨rfl,trivial⟩,?_⟩;unfold Dat.Va;refine⟨[_],_,rfl,by unfold Dat.Vs;exact⟨A1,c1,yb,by simpa using h.l1,h.s1⟩,?_⟩;unfold Dat.Va;refine⟨[_],_,rfl,by unfold Dat.Vs;exact⟨A2,c2,yb,by simpa using h.l2,h.s2⟩,?_⟩;unfold Dat.Va;refine⟨[_],_,rfl,by unfold Dat.Vs;exact⟨A3,c3,yb,by simpa using h.l3,h.s3⟩,by unfold Dat.Va;rfl⟩
theorem EntsS.at_ {A:Option Addr} {l:List Ent} (h:EntsS w S A l) {k:Nat} (R:k<l):∃ b o E c1 I c2 H F,A=some ⟨b,o,none⟩/\S b/\EntV w S (l.getD k ent0) E c1 I c2 H F/\yr w b (o+k*5) (.int .i64 (l.getD k ent0).co)/\yr w b (o+k*5+1) (.int .i64 (l.getD k ent0).wn)/\yr w b (o+k*5+2) (.slice E (l.getD k ent0).sd.length c1)/\yr w b (o+k*5+3) (.slice I (l.getD k ent0).cx.length c2)/\w.cell? ⟨b,o+k*5+4,none⟩=some (.slice H (l.getD k ent0).note.length F):=by
 obtain⟨b,o,aj,af,ak⟩:=h.2 (by rw [qg];omega);have z:=Zbu (n:=5) (fun d hd=>by obtain⟨v,_,rfl⟩:=qO.1 hd;rfl) ak k (by rw [qg];exact R);rw [List.getElem_map] at z;rw [show l[k]=l.getD k ent0 by simp [List.getD,R]] at z;generalize l.getD k ent0=e at z;unfold encE Dat.Held at z;unfold Dat.Ha at z;obtain⟨U,z⟩:=z;unfold Dat.Ha at z;obtain⟨Z,z⟩:=z;unfold Dat.Ha at z;obtain⟨W,z⟩:=z;unfold Dat.Ha at z;obtain⟨L,z⟩:=z;unfold Dat.Ha at z;obtain⟨M,_⟩:=z;unfold Dat.Held at U Z W L M;obtain⟨E,c1,aa,O,ai⟩:=W;obtain⟨I,c2,N,ac,ae⟩:=L;obtain⟨H,F,K,ab,ah⟩:=M;rw [qg] at aa O N ac K ab;exact⟨b,o,E,c1,I,c2,H,F,aj,af,⟨O,ai,ac,ae,ab,ah⟩,U.1,Z.1,aa,N,K⟩
abbrev Qh:=@EntsS.at_
end
theorem Zeu (h:n<128):lebF n=[(n:Int)]:=by rw [lebF,qr h]
def Zeq (l:List Int):List Int:=lebF l.length++l.flatMap fun x=>lebF x.toNat
def ZgX (b:List Int):List Int:=lebF b.length++b
def Zet (c:Chg):Nat:=(if c.old.length=0 then 0 else 1)+(if c.new.length=0 then 0 else 2)
def chgB (c:Chg):List Int:=lebF c.tx.toNat++lebF (Zet c)++(if c.old.length=0 then [] else rowB c.old)++(if c.new.length=0 then [] else rowB c.new)
def ZkJ (e:Ent) (i n:Int) (m:Nat):List Int:=[2]++lebF e.co.toNat++lebF e.wn.toNat++Zeq e.sd++ZgX (if i=e.wn % n then e.note else [])++lebF m
def ZbL (e:Ent) (i n:Int) (l:List Chg):List Int:=ZkJ e i n l.length++l.flatMap chgB
def ChgB (c:Chg):Prop:=0<=c.tx/\c.tx<1000000/\(∀ v ∈ c.old,Zp v=true)/\(∀ v ∈ c.new,Zp v=true)/\c.old.length<=12/\c.new.length<=12
theorem Zfl {r:Row} (z:∀ v ∈ r,Zp v=true) (H:r.length<=12):(rowB r).length<=910:=by
 unfold rowB;rw [qi];have F:=Zz (n:=r) ya;have E:=ZdZ z r;rw [qM] at E;omega
theorem chgB_len (h:ChgB C):(chgB C).length<=2000:=by
 obtain⟨K,I,H,E,F,z⟩:=h;unfold chgB;simp only [qi];have a1:=Zz (n:=C.tx.toNat) ya;have a2:=Zz (n:=Zet C) (by unfold Zet;split<;>split<;>omega);have a3:=Zfl H F;have a4:=Zfl E z
 have:(if C.old.length=0 then ([]:List Int) else rowB C.old).length<=910:=by
  split
  .simp
  exact a3
 have:(if C.new.length=0 then ([]:List Int) else rowB C.new).length<=910:=by
  split
  .simp
  exact a4
 omega
structure EntB (e:Ent):Prop where
 co:0<=e.co/\e.co<1000000000000
 wn:0<=e.wn/\e.wn<1000000000000
 sd:∀ x ∈ e.sd,0<=x/\x<1000000000000
 few:e.sd.length<=1000
 note:Zbn e.note
 short:e.note.length<=1000000
theorem gate1_any {H:Bool} {f:Nat} (a:Value) (E:World->Prop) (F:yr w n 18 (.int .i64 0)) (K:∀ w,(callFunc f #[a]).run prog w=.ok (.enter f #[a]) w) (h:Calls prog f #[a] w fun e w'=>e=.returned (.tuple #[])/\E w') :
 Calls prog 164 #[.pointer (some ⟨n,0,none⟩),.bool H,.func (.func f) #[] #[a]] w fun e w'=>e=.returned (.int .i64 0)/\E w':=by
 go_enter func164,ntmps164
 go_wp2_with fail
 refine h.mono ?_;rintro e I ⟨rfl,z⟩;replace z:=hI z;clear h F
 go_wp2
 go_ret;exact⟨rfl,z⟩
theorem gate2_any {H:Bool} {f:Nat} (a:Value) (E:World->Prop) (F:yr w n 18 (.int .i64 0)) (K:∀ w,(callFunc f #[a,x]).run prog w=.ok (.enter f #[a,x]) w) (h:Calls prog f #[a,x] w fun e w'=>e=.returned (.tuple #[])/\E w') :
 Calls prog 164 #[.pointer (some ⟨n,0,none⟩),.bool H,.func (.func f) #[] #[a,x]] w fun e w'=>e=.returned (.int .i64 0)/\E w':=by
 go_enter func164,ntmps164
 go_wp2_with fail
 refine h.mono ?_;rintro e I ⟨rfl,z⟩;replace z:=hI z;clear h F
 go_wp2
 go_ret;exact⟨rfl,z⟩
theorem dappend_any {room:Nat} {V:Nat->Value} {R:Nat->Int} (ax:k<8) (h:DskM w n room V R J) (az:BtS w S A l) (aj:∀ q,S q->q<w) (aH:0<l.length) (aN:Zby J+l.length<=room) (aR:room<=16777216) :
 Calls prog 228 #[.pointer (some ⟨n,0,none⟩),.int .i64 (k:Int),.slice A l m] w fun e w'=>e=.returned (.int .i64 0)/\DskP n room V (J.set k (J.getD k []++l)) w w':=by
 have aL:(J.getD k []).length<=Zby J:=Zia J k;have aS:=h.lt;obtain⟨y,N⟩:=yp w.heap.size;obtain⟨O,W,H,-⟩:=al w (.cells #[.slice A l m] 22);have H:=H.out;have aI:=hI (show O.heap[y]?=some (.cells #[.slice A l m] 22 (0,0)) by rw [<-W,<-N];exact qb w _);have aE:O<=y+1/\y+1<=O:=(by rw [<-W,<-N];simp);have av:=hI (h.below H);have aD:=hI (show BtS O S A l from qU az (qS H aj));replace H:=hI H;have aA:∀ q,S q->q<y:=(fun q I=>yl (aj q I));clear h az;have:(0:Int)<=(k:Int):=ya;have:(k:Int)<8:=ya;go_enter func228,ntmps228
 go_wp2_with fail
 try rw [W]
 try rw [N]
 replace N:=hI N;clear W aj;refine(ZeB ax av).mono ?_;rintro e aB ⟨rfl,rfl⟩
 go_wp2_with fail
 obtain⟨F,K⟩:=yp aB.drew;have Z:=hI (show DskM F n room V R J by rw [<-K];exact av.keep (fun _ _=>rfl));have ah:=hI (show F.heap[y]?=some (.cells #[.slice A l m] 22 (0,0)) by rw [<-K];exact aI);have ap:=hI (show BtS F S A l by rw [<-K];exact qU aD (fun _ _=>rfl));have an:=hI (show Below w w F by rw [<-K];exact H.drew);have:F<=y+1/\y+1<=F:=(by rw [<-K];exact aE);have aO:IntKind.i64.wrap ((room:Int) - (Zby J:Int))=(room:Int) - (Zby J:Int):=(by rw [IntKind.wrap_i64];omega);have aF:decide ((room:Int) - (Zby J:Int)<(l:Int))=false:=qe ya;obtain⟨aQ,U⟩:=yp (Zby J);rw [U] at aN aL aF aO;replace U:=hI U;refine uS (fun w'=>w'.cell? ⟨y,0,none⟩=some (.slice A l m)/\w'.cell? ⟨n,0,none⟩=some (.int .i64 room)/\w'=F) 10 10 fun Q' ao ak=>?_;rw [K];clear K;have aa:yr F y 0 (.slice A l m):=Za ah 0 _ rfl;have r0:=Z.room_;refine uR [0,7] ak ⟨aa,r0,rfl⟩ ?_;refine uQ 7 fun aC aw=>?_;go_simp;refine(used_any Z (by rw [U];omega)).mono ?_;rintro e w2 ⟨rfl,rfl⟩;rw [U];refine aw _ _ (fun _=>⟨aa,r0,rfl⟩) ?_;clear aw aC
 try simp only [Act.put,psA,psB,psC]
 refine uR [8,2] ak ⟨aa,r0,rfl⟩ ?_;refine uE ao ?_;clear ao ak Q';go_upto_region 7 with fail
 clear aa r0;obtain⟨x,ai⟩:=yp w2.heap.size;obtain⟨M,ab,L,-⟩:=al w2 (.cells #[.pointer (some ⟨n,1+k*2,none⟩)] 248);have L:=L.out;have aK:=hI (show M.heap[x]?=some (.cells #[.pointer (some ⟨n,1+k*2,none⟩)] 248 (0,0)) by rw [<-ab,<-ai];exact qb w2 _);have au:=hI ((L.block y ya).trans ah);have ar:=hI (Z.below L);have aG:=hI (show BtS M S A l from qU ap (qS L (fun q I=>yl (aA q I))));have am:=hI (an.trans (L.mono (yl N.out)));have p0:=ar.plan;have:y<M:=Zb au;rw [ai,ab];clear ab ai L Z ap an ah
 have aq:∀ (a l:Value) (w:World),(callFunc 263 #[a,l]).run prog w=.ok (.enter 263 #[a,l]) w:=fun a l w=>by
  go_simp
 go_wp2_with fail
 refine(gate2_any (.pointer (some ⟨x,0,none⟩)) (fun w'=>DskP n room V (J.set k (J.getD k []++l)) M w') p0 (aq _ _) (dappend1_any k ax ar aK au aG (fun q I=>yl (aA q I)) aH ya)).mono ?_;rintro e aP ⟨rfl,aJ,aM,ac,af,ae⟩;replace ac:=hI ac;replace af:=hI af;replace ae:=hI ae;clear aq p0
 go_wp2
 go_ret;refine⟨rfl,aJ,aM,ac,(qW am).trans af (fun _ _ h=>h),fun q I=>?_⟩;rcases ae.out q I with ay | ay
 .exact .inl ay
 exact .inr (yl am.size)
end Go.Proofs.YtjadnfodboepeaaGreat
