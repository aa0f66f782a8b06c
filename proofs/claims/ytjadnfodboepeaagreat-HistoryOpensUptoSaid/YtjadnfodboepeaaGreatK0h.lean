import Derived.Test.YtjadnfodboepeaaGreatKzn
import Derived.Test.YtjadnfodboepeaaGreatK5v
import Derived.Test.YtjadnfodboepeaaGreatKok
set_option linter.all false
set_option maxRecDepth 100000
set_option maxHeartbeats 8000000
namespace Go.Proofs.YtjadnfodboepeaaGreat
open Tryz
open Go Go.RowKit
variable {w:World} {A B:Option Addr} {S:Nat->Prop} {a:Int} {s:Sch}
def begH (n:Nat):List Obj:=[
 .cells #[.string tB,.int .i64 4] 98 (0,0),
 .cells #[.string tA,.slice (some ⟨n,0,none⟩) 1 1,.int .i64 1,.slice none 0 0,.slice none 0 0] 104 (0,0),
 .cells #[.int .i64 0,.slice (some ⟨n+1,0,none⟩) 1 1] 25 (0,0),
 .cells #[.slice none 0 0] 145 (0,0),
 .cells #[.slice (some ⟨n+1+1+1,0,none⟩) 1 1] 28 (0,0)]
theorem ZkM:cmtE (ZjN sH 2 [] stH stH) 2 1 oneH [oneH,[]] [120]=entH:=by
 unfold cmtE;rw [Zlh];rfl
theorem ZiK:cmtR entH 2 [oneH,[]] 0=[2,1,1,2,0,1,0,1,0,2,1,4,14]:=Zkc
theorem ZiJ:cmtR entH 2 [oneH,[]] 1=[2,1,1,2,0,1,1,120,0]:=Zkb
theorem need_H:Zhc (cmtR entH 2 [oneH,[]]) (shT 2 1 [oneH,[]] 2)=42:=by
 rw [Zlh];unfold Zhc;simp only [qL,Qn,List.sum_cons,List.sum_nil];rw [show (0:Int).toNat=0 from rfl,show (1:Int).toNat=1 from rfl,ZiK,ZiJ];rfl
theorem fs_H (i:Nat) (z:i<2):(fsP (List.replicate 8 []) (cmtR entH 2 [oneH,[]]) (shT 2 1 [oneH,[]] 2)).getD i []=Zr (Zcu sH 2 [entH] i):=by
 rw [Zla ya,Zlh];obtain rfl | rfl:i=0\/i=1:=by omega
 .rw [qr yf,ZkR,ZiK];unfold Zr;rw [List.flatMap_cons,List.flatMap_nil,Qq];rfl
 rw [qr yf,ZkQ,ZiJ];unfold Zr;rw [List.flatMap_cons,List.flatMap_nil,Qq];rfl
theorem app1_H:Zak (schF pcF sH) sH 1 st1H []=(0,st1H):=by rw [Zbe];kernel_rfl
theorem ZkC:Zv (schF pcF sH) sH 1 stH=0:=by rw [Zbe];kernel_rfl
theorem ZkU:StOk sH 1 stH:=StOk.of_check ZkC
theorem begun25_any:Calls prog 20 #[] w (ZH true w):=by
 go_enter func20,ntmps20
 go_wp2_with fail
 change Calls prog _ _ ((begH w).foldl World.alloc w) _;obtain⟨F,au⟩:=yp ((begH w).foldl World.alloc w);obtain⟨aA,aQ⟩:=ZcZ (begH w) w;have K:∀ k (K:k<5),F.heap[w.heap.size+k]?=(begH w)[k]?:=(fun k K=>by rw [<-au];exact Zgm _ _ _ K);rw [au] at aA aQ;rw [au];obtain⟨z,aI⟩:=yp w.heap.size;have:w<=z/\z<=w:=ya;have:z+5<=F/\F<=z+5:=(by have ac:F.heap.size=w.heap.size+5:=aQ;omega);rw [aI] at K;rw [aI];clear aQ au aI;have b7:=hI (show TabS F (fun b=>b<F) (some ⟨z+1,0,none⟩) sH.tt from tab_block (K 1 ya) rfl yf ya yf (colS_block (K 0 ya) ya));have ck:=hI (show StS F (fun b=>b<F) (some ⟨z+1+1+1,0,none⟩) stH from st_block (A:=none) (c:=0) (K 3 ya) ya yf (show RowsS F _ none [] from Qd));have bO:=hI (show F.heap[z+1+1]?=some (.cells #[.int .i64 0,.slice (some ⟨z+1,0,none⟩) 1 1] 25 (0,0)) from K 2 ya);have bM:=hI (show F.heap[z+1+1+1+1]?=some (.cells #[.slice (some ⟨z+1+1+1,0,none⟩) 1 1] 28 (0,0)) from K 4 ya);have bT:=hI aA;clear K aA;refine(show Calls _ _ _ _ _ from Zjv (room:=4000) ya (w:=F)).mono ?_;rintro e L ⟨rfl,aM,aV,cc⟩;obtain⟨d,hd⟩:=yp F.heap.size;have:F<=d/\d<=F:=ya;have:F.heap.size<L/\L<=d+1:=ya;rw [hd] at aM;rw [hd];have am:=hI aM;have aO:=hI aV;have aX:=hI (show Same (fun b=>b<F) F L from fun b E=>aV.block b E);clear aM aV cc hd;have bm:=hI (show TabS L (fun b=>b<F) (some ⟨z+1,0,none⟩) sH.tt from qU b7 aX);have bq:=hI (show StS L (fun b=>b<F) (some ⟨z+1+1+1,0,none⟩) stH from qU ck aX);have aU:=hI ((aO.block (z+1+1) ya).trans bO);have bE:=hI ((aO.block (z+1+1+1+1) ya).trans bM);have aB:yr L (z+1+1) 0 (.int .i64 0):=Za aU 0 _ rfl;have aP:yr L (z+1+1) 1 (.slice (some ⟨z+1,0,none⟩) 1 1):=Za aU 1 _ rfl;have ay:yr L (z+1+1+1+1) 0 (.slice (some ⟨z+1+1+1,0,none⟩) 1 1):=Za bE 0 _ rfl
 go_wp2_with fail
 refine(show Calls _ _ _ _ _ from ZiB (n:=d) (room:=4000) (k:=2) (s:=sH) (A:=some ⟨z+1,0,none⟩) 1 (B:=some ⟨z+1+1+1,0,none⟩) 1 (st:=stH) (o:=stH) (I:=[]) (S:=fun b=>b<F) (w:=L) bm bq (fun b E=>ya) am ya ya Zbe ZkU yf (Zke Zbe ZkC) (fun i aq=>by
  obtain rfl | rfl:i=0\/i=1:=by omega
  .rfl
  rfl)).mono ?_
 rintro e w2 ⟨h,a,rfl,bf,br,aG⟩;have b8:=hI bf;have av:=hI br;have aF:=hI aG;have cu:=aG.size;clear bf br aG aB aP ay;obtain⟨g,N⟩:=yp w2.heap.size;obtain⟨I,O⟩:=yp (((w2.alloc (.cells #[.int .i64 4,.int .i64 7,.string ⟨#[]⟩] 108)).alloc (.cells #[.int .i64 0,.slice none 0 0,.slice (some ⟨g,0,none⟩) 1 1] 148)).alloc (.cells #[.int .u8 120] 5 (1,2)));have aH:=Joins.run_convert_bytes_const_at (P:=prog) ((w2.alloc (.cells #[.int .i64 4,.int .i64 7,.string ⟨#[]⟩] 108)).alloc (.cells #[.int .i64 0,.slice none 0 0,.slice (some ⟨w2,0,none⟩) 1 1] 148)) 22 5 #[.int .u8 120] 1 1 (w2.heap.size+1+1) yb ye ye;have bK:=hI (show I.heap[g]?=some (.cells #[.int .i64 4,.int .i64 7,.string ⟨#[]⟩] 108 (0,0)) by rw [<-O,<-N];exact(qd _ _ _ (by simp<;>omega)).trans ((qd _ _ _ yb).trans (qb w2 _)));have bZ:=hI (show I.heap[g+1]?=some (.cells #[.int .i64 0,.slice none 0 0,.slice (some ⟨g,0,none⟩) 1 1] 148 (0,0)) by rw [<-O,<-N];exact(qd _ _ _ yb).trans (heap_alloc_new' yb));have ce:=hI (show I.heap[g+1+1]?=some (.cells #[.int .u8 120] 5 (1,2)) by rw [<-O,<-N];exact heap_alloc_new' yb);have ap:=hI (show Below w2 w2 I by rw [<-O];exact(((qa _ w2).alloc nR _).alloc yb _).alloc (by simp<;>omega) _);have:g+3<=I/\I<=g+3:=(by rw [<-O,<-N];simp);have:w2<=g/\g<=w2:=ya;have b0:=hI N;have b2:=hI (show ((w2.alloc (.cells #[.int .i64 4,.int .i64 7,.string ⟨#[]⟩] 108)).alloc (.cells #[.int .i64 0,.slice none 0 0,.slice (some ⟨w2,0,none⟩) 1 1] 148)).alloc (.cells #[.int .u8 120] 5 (1,2))=I by rw [N];exact O);clear O N
 go_wp2_with fail
 have bL:(#[(.int .u8 120:Value)]).size=1:=rfl
 first | rw [b2,b0] | skip
 clear aH bL;have cd:=hI (b8.below ap nR);have bQ:=hI ((am.below aF).below (ap.mono ya):DskM I d 4000 (fun _=>.slice none 0 0) (fun _=>0) (List.replicate 8 []));have bp:ChgS I (fun b=>g<=b/\b<I) (some ⟨g+1,0,none⟩) oneH:=chgS_block bZ ya (rowS_block bK ya)
 have bj:BtS I (fun b=>g<=b/\b<I) (some ⟨g+1+1,0,none⟩) [120]:=Qb (vs:=[.int .u8 120]) (by rw [Ze (n:=8) (fun _=>rfl)];simp) (Zw (by unfold encB Dat.Vs;exact⟨rfl,trivial⟩)) (fun _=>⟨g+1+1,0,rfl,ya,fun j u b5=>by
  rw [qx,Joins.cell_of_block ce.out];simpa using b5⟩)
 have aK:=commit_ok h d 4000 2 1 sH (ZjN sH 2 [] stH stH) a (fun _=>.slice none 0 0) (fun _=>0) (List.replicate 8 []) (some ⟨g+1,0,none⟩) 1 oneH (some ⟨g+1+1,0,none⟩) 1 [120] st1H oneH [oneH,[]] (fun b=>g<=b/\b<I) I
  ⟨cd,bQ,fun b E H=>ym (av b (.inr (.inl E))) (am.xlt b H),fun k K b E H=>by have:=av b (.inr (.inr ⟨k,K,E⟩));have:=am.xlt b H;omega⟩
  bp bj (fun b E=>E.2) ya ya ya yf yf yf Zbe yf yf (by rw [Zbe];exact Zlf) (by rw [Zbe];exact ZfI) yf ZkO rfl (fun _ _ c ah=>by rw [ZfI] at ah;exact Zai ZkD c ah) (by rw [Zbe,ZfI];decide)
  (by rw [ZkM];exact⟨yf,yf,yf,yf,Zgg ye,yf⟩)
  (fun i aq=>by
   obtain rfl | rfl:i=0\/i=1:=by omega
   .exact⟨yf,Zai ⟨yf,yf,yb,Zai ye,yf,yf⟩⟩
   exact⟨yf,fun c ah=>absurd ah qX⟩)
  (fun i aq=>by
   rw [ZkM];obtain rfl | rfl:i=0\/i=1:=by omega
   .rw [ZiK];exact⟨Zgg ye,yf,yf⟩
   rw [ZiJ];exact⟨Zgg ye,yf,yf⟩)
  (by rw [ZkM,need_H];decide) ya (fun k K=>by
   obtain rfl | rfl:k=0\/k=1:=by omega
   .decide
   decide)
 rw [ZkM] at aK;refine(show Calls _ _ _ _ _ from aK).mono ?_;clear aK bp bj;rintro e M ⟨rfl,ct,cv,cw,aZ,aj,ch⟩;have bb:(((ZjN sH 2 [] stH stH).base:Int)+((ZjN sH 2 [] stH stH).es.length:Nat)+1)=1:=rfl;rw [bb];clear bb;have bY:=hI aZ;have b1:=hI aj;have cz:=aj.size
 have an:=hI (show Same (fun b=>b<F) L M from fun b E=>by
  rw [aj.block b ya (fun H=>by
   rcases H with H | H | ⟨i,aq,H⟩
   .have:=av b (.inl H);omega
   .omega
   cases H),ap.block b ya,aF.block b ya])
 clear aZ aj ch;have cg:=hI (show TabS M (fun b=>b<F) (some ⟨z+1,0,none⟩) sH.tt from qU bm an);have bG:=hI (show StS M (fun b=>b<F) (some ⟨z+1+1+1,0,none⟩) stH from qU bq an);have bB:=hI ((an (z+1+1) ya).trans aU);have b6:=hI ((an (z+1+1+1+1) ya).trans bE);have aB:yr M (z+1+1) 0 (.int .i64 0):=Za bB 0 _ rfl;have aP:yr M (z+1+1) 1 (.slice (some ⟨z+1,0,none⟩) 1 1):=Za bB 1 _ rfl;have ay:yr M (z+1+1+1+1) 0 (.slice (some ⟨z+1+1+1,0,none⟩) 1 1):=Za b6 0 _ rfl
 go_wp2_with fail
 refine(show Calls _ _ _ _ _ from ZiB (n:=d) (room:=4000) (k:=2) (s:=sH) (A:=some ⟨z+1,0,none⟩) 1 (B:=some ⟨z+1+1+1,0,none⟩) 1 (st:=stH) (o:=st1H) (I:=[entH]) (S:=fun b=>b<F) (w:=M) cg bG (fun b E=>ya) bY.dsk ya ya Zbe ZkU yf opn_H fs_H).mono ?_;rintro e bC ⟨k,a5,rfl,bc,bo,aS⟩;have Z:=hI bc;have cr:=hI bo;have ca:=hI aS;have cq:=aS.size;clear bc bo aS aB aP ay
 go_wp2_with fail
 have aR:=ZgS k (n:=2) (k:=1) (m:=a5.cJ) (i:=a5.cE) (A:=some ⟨a5.gJ,a5.oJ,none⟩) (B:=a5.AE) (s:=sH) (A':=a5.As) (j:=a5.cs) (b:=0) (x:=.slice a5.Af 1 a5.cf) (xA:=.slice a5.AN 9 a5.cN) (D:=a5.Ag) (c:=a5.cg) (st:=st1H) (S:=a5.D) (w:=bC) Z.blk Z.tab Z.fin (fun b E=>(Z.dx b E).1) (ZU (s:=sH)) yf yf ya (by rw [Zbe];kernel_rfl);rw [app1_H] at aR;refine(show Calls _ _ _ _ _ from aR).mono ?_;clear aR;rintro e ai ⟨aT,aJ,rfl,bg,ba,aL⟩;have co:=hI bg;have bU:=hI ba;have aD:=hI aL;have cp:=aL.size;clear bg ba aL;simp only [show st1H.length=1 from rfl];obtain⟨U,aa,bt,bl,aN,bi⟩:=ag ai (.cells #[.slice aT 1 aJ] 28);have:ai<=aa/\aa<=ai:=ya;have bV:=Zb bi;have bJ:=hI bt;have bF:=hI bl;clear bt bl
 go_wp2_with fail
 rw [bJ,bF];have cf:=hI (aD.trans (aN.mono aD.size));have R:=hI (Z.below cf nR);have be:yr U k 7 (.slice a5.AE [entH].length a5.cE):=Za R.blk 7 _ rfl;have bu:yr U k 8 (.slice a5.AN 9 a5.cN):=Za R.blk 8 _ rfl;have bn:=(R.ent.slice (S':=fun b=>b<U) (by rw [Ze (n:=88) (fun _=>rfl)];show 1*88<=_;omega) (fun b E=>(R.dx b E).1) (fun g cy bX _=>bX)).2.2;have aC:=note_any (n:=k) 1 (I:=[entH]) (List.replicate 9 ent0) (A:=a5.AE) (k:=a5.cE) a5.AN a5.cN (S:=fun b=>b<U) (w:=U) ya be bu bn yf (qZ R.nts (fun b E=>(R.dx b E).1)) yf (fun b E=>E);rw [show ZjL [entH] (List.replicate 9 ent0) 1=(⟨1,1,[0,1],[],[120]⟩,true) by kernel_rfl] at aC;refine(show Calls _ _ _ _ _ from aC).mono ?_;clear aC bn be bu;rintro e ar ⟨bI,c1,ci,c2,af,ak,rfl,bk,az⟩;have bR:=hI bk;have ao:=hI az;have cn:=az.size;clear bk az;obtain⟨bh,aw,aW,bD,ab,bz⟩:=ag ar (.cells #[.int .i64 1,.int .i64 1,.slice bI 2 c1,.slice ci 0 c2,.slice af 1 ak] 67);have:ar<=aw/\aw<=ar:=ya;have cj:=Zb bz;have bH:=hI aW;have bP:=hI bD;clear aW bD;have bW:=hI ((ab.block aa ya).trans ((ao.block aa bV).trans bi));simp only [Zdl,qK,Qp];go_upto_region 15 with fail
 rw [bH,bP];have b3:=hI ((aN.trans (ao.mono ya)).trans (ab.mono ya));have bS:yr bh aa 0 (.slice aT 1 aJ):=Za bW 0 _ rfl
 go_wp2_with fail
 have ax:=rcountw_any (A:=aT) aJ (st:=st1H) (S:=New bC ai) (w:=bh) (qU bU (fun b E=>b3.block b E.2)) (fun b E=>by have ac:=E.2;omega);rw [show Zbi st1H=1 by kernel_rfl] at ax;refine(show Calls _ _ _ _ _ from ax).mono ?_;clear ax bS;rintro e W ⟨rfl,aE⟩;have ae:=hI aE;have cx:=aE.size;clear aE;have bN:=hI ((ae.block aw cj).trans bz);have b9:yr W aw 4 (.slice af 1 ak):=Za bN 4 _ rfl;have aY:BtS W (fun b=>U<=b/\b<ar) af [120]:=qU bR.s3 (fun b E=>(ae.block b (by have ac:=E.2;omega)).trans (ab.block b E.2))
 have aH:(convert 22 9 (.slice af 1 ak)).run prog W=.ok (.string ⟨#[120]⟩) W:=by
  have ac:=Zhl (n:=ak) aY (Zgg ye);rw [show baOf [120]=⟨#[120]⟩ by kernel_rfl] at ac;exact ac
 go_wp2_with fail
 have bw:=hI (R.below ((ao.trans (ab.mono ya)).trans (ae.mono ya)) nR);refine(show Calls _ _ _ _ _ from Zcn (n:=k) (a:=0) (A:=a5.AE) (k:=1) (m:=a5.cE) (w:=W) (Za bw.blk 4 _ rfl) (Za bw.blk 7 _ rfl) yf).mono ?_;rintro e cm ⟨rfl,q,rfl⟩;clear b9 aH aY
 go_wp2
 go_ret
 have b4:Below w I M:=b1.below ya (fun b E H=>by
  rcases H with H | H | ⟨i,aq,H⟩
  .have:=av b (.inl H);omega
  .omega
  cases H)
 refine⟨rfl,((((((((((bT.trans (aO.mono ya)).trans (aF.mono ya)).trans (ap.mono ya)).trans b4).trans (ca.mono ya)).trans (aD.mono ya)).trans (aN.mono ya)).trans (ao.mono ya)).trans (ab.mono ya)).trans (ae.mono ya)).trans ?_⟩;exact below_drewN (qa _ W) q
def ZfC (s:Sch) (n:Int) (st:St):Int:=if 1<=n/\n<=4 then Zv (schF pcF s) s 1 st else 1
def RNewP (z:Int) (w:World) (e:Ending) (w':World):Prop:=Below w w w'/\((z≠0/\e=.returned (.tuple #[.pointer none,.int .i64 z]))\/(z=0/\∃ g,e=.returned (.tuple #[.pointer (some ⟨g,0,none⟩),.int .i64 0])))
theorem Zha (F:Nat) (s:Sch) (n:Int) (H:Nat) {st:St} (am:TabS w S A s.tt) (ai:StS w S B st) (U:∀ b,S b->b<w) :
 Calls prog 15 #[sAgg s.vv A s.tt F,.int .i64 n,ZaM B st H] w (RNewP (ZfC s n st) w):=by
 have M:Below w w ((w.alloc (.cells #[.int .i64 s.vv,.slice A s.tt F] 25)).alloc (.cells #[.slice B st H] 28)):=((qa _ w).alloc nR _).alloc yb _;replace M:=hI M
 by_cases aZ:n<1
 .have N:=hI (show ZfC s n st=1 by unfold ZfC;rw [qo ya]);go_enter func15,ntmps15
  go_wp2
  refine qw (v:=.tuple #[.pointer none,.int .i64 1]) (by simp [results,results15,go_sem]) rfl ⟨M,.inl ⟨by rw [N];decide,by rw [N]⟩⟩
 by_cases aY:4<n
 .have N:=hI (show ZfC s n st=1 by unfold ZfC;rw [qo ya]);go_enter func15,ntmps15
  go_wp2
  refine qw (v:=.tuple #[.pointer none,.int .i64 1]) (by simp [results,results15,go_sem]) rfl ⟨M,.inl ⟨by rw [N];decide,by rw [N]⟩⟩
 have N:=hI (show ZfC s n st=Zv (schF pcF s) s 1 st by unfold ZfC;rw [qr ya]);obtain⟨aq,Z⟩:=yp (Zv (schF pcF s) s 1 st);obtain⟨K,I⟩:=s;simp only at am Z M N ⊢;rw [Z] at N;rw [N];obtain⟨w0,O⟩:=yp ((w.alloc (.cells #[.int .i64 K,.slice A I F] 25)).alloc (.cells #[.slice B st H] 28));obtain⟨x,R⟩:=yp w.heap.size;have ay:=hI (show w0.heap[x]?=some (.cells #[.int .i64 K,.slice A I F] 25 (0,0)) by rw [<-O,<-R];exact(qd _ _ _ yb).trans (qb w _));have aE:=hI (show w0.heap[x+1]?=some (.cells #[.slice B st H] 28 (0,0)) by rw [<-O,<-R];exact heap_alloc_new' yb);have:x+2<=w0/\w0<=x+2:=(by rw [<-O,<-R];simp);rw [O] at M;replace O:=hI O;have:w<=x/\x<=w:=ya;replace R:=hI R;have aI:=hI (show Same S w w0 from qS M U);replace am:=hI am;replace ai:=hI ai;replace U:=hI U;replace Z:=hI Z;go_enter func15,ntmps15;have v0:yr w0 x 0 (.int .i64 K):=Za ay 0 _ rfl;have aQ:yr w0 x 1 (.slice A I F):=Za ay 1 _ rfl;have aU:yr w0 (x+1) 0 (.slice B st H):=Za aE 0 _ rfl;go_upto_region 3 with fail
 rw [O,R];go_upto_region 4 with (go_at_call 53;refine(rchk_any F ⟨K,I⟩ H (qU am aI) (qU ai aI) (fun b ar=>yl (U b ar))).mono ?_;rintro e aN ⟨rfl,aK⟩;rw [Z];have ae:=hI aK;clear aK)
 clear v0 aQ aU
 by_cases aB:aq=0
 .subst aB;have bb:=ae.size;have aH:=hI ((ae.block x ya).trans ay);have aV:=hI ((ae.block (x+1) ya).trans aE);have aP:=hI (M.trans (ae.mono ya));go_upto_region 6 with fail
  obtain⟨ao,aJ,aa,-⟩:=dr aN;have aX:=aa.size;have aM:=hI (aP.trans (aa.mono ya));have aw:yr ao x 0 (.int .i64 K):=c9Q aa (show x<_ by omega) (Za aH 0 _ rfl);have az:yr ao x 1 (.slice A I F):=c9Q aa (show x<_ by omega) (Za aH 1 _ rfl);have av:yr ao (x+1) 0 (.slice B st H):=c9Q aa (show x+1<_ by omega) (Za aV 0 _ rfl);refine uS (fun w'=>w'.cell? ⟨x,0,none⟩=some (.int .i64 K)/\w'.cell? ⟨x,1,none⟩=some (.slice A I F)/\w'.cell? ⟨x+1,0,none⟩=some (.slice B st H)) 7 9 fun Q' aG aD=>?_;rw [aJ];clear aJ;refine uR [0,3] aD ⟨aw,az,av⟩ ?_;refine uQ 3 fun L z=>?_;go_simp;refine(rcopySt_any H (qU ai (qS aM U)) (fun b ar=>yl (U b ar))).mono ?_;rintro e W ⟨aS,aW,rfl,aR,aC⟩;have an:=hI aC;have bc:=aC.size;clear aC aR;have ax:yr W x 0 (.int .i64 K):=c9Q an (show x<_ by omega) aw;have ap:yr W x 1 (.slice A I F):=c9Q an (show x<_ by omega) az;have aA:yr W (x+1) 0 (.slice B st H):=c9Q an (show x+1<_ by omega) av;clear aw az av;refine z _ _ (fun _=>⟨ax,ap,aA⟩) ?_;clear z L
  try simp only [Act.put,psA,psB,psC]
  refine uQ 4 fun L z=>?_;go_simp;obtain⟨ac,aL,ab,-⟩:=al W (.cells #[.slice aS st aW] 28)
  try rw [aL]
  have ba:=ab.size;clear aL;have aj:yr ac x 0 (.int .i64 K):=c9Q ab (show x<_ by omega) ax;have ak:yr ac x 1 (.slice A I F):=c9Q ab (show x<_ by omega) ap;have ah:yr ac (x+1) 0 (.slice B st H):=c9Q ab (show x+1<_ by omega) aA;clear ax ap aA;refine z _ _ (fun _=>⟨aj,ak,ah⟩) ?_;clear z L
  try simp only [Act.put,psA,psB,psC]
  refine uR [5,1] aD ⟨aj,ak,ah⟩ ?_;refine uQ 6 fun L z=>?_;go_simp;obtain⟨au,aF,af,-⟩:=al ac (.cells #[.int .i64 K,.slice A I F,.int .i64 n,.slice (some ⟨W,0,none⟩) 1 1,.slice none 0 0,.int .i64 0] 142)
  try rw [aF]
  have p0:yr au x 0 (.int .i64 K):=c9Q af (show x<_ by omega) aj;have aT:yr au x 1 (.slice A I F):=c9Q af (show x<_ by omega) ak;have aO:yr au (x+1) 0 (.slice B st H):=c9Q af (show x+1<_ by omega) ah;clear aF aj ak ah;refine z _ _ (fun _=>⟨p0,aT,aO⟩) ?_;clear z L
  try simp only [Act.put,psA,psB,psC]
  refine uQ 7 fun L z=>?_;go_simp;refine z _ _ (fun h=>absurd h yf) ?_;clear z L
  try simp only [Act.put,psA,psB,psC]
  refine uQ 8 fun L z=>?_;go_simp;refine z _ _ (fun h=>absurd h yf) ?_;clear z L
  try simp only [Act.put,psA,psB,psC]
  refine uE aG ?_;clear aG aD Q'
  go_wp2
  refine qw (v:=.tuple #[.pointer (some ⟨ac,0,none⟩),.int .i64 0]) (by simp [results,results15,go_sem]) rfl ⟨?_,.inr ⟨rfl,_,rfl⟩⟩;exact((aM.trans (an.mono ya)).trans (ab.mono ya)).trans (af.mono ya)
 have:(aq == 0)=false:=qf.2 aB
 go_wp2
 refine qw (v:=.tuple #[.pointer none,.int .i64 aq]) (by simp [results,results15,go_sem]) rfl ⟨M.trans (ae.mono ya),.inl ⟨aB,rfl⟩⟩
structure OIn where
 s:Sch
 A:Option Addr
 c:Nat
 n:Int
 B:Option Addr
 cb:Nat
 st:St
abbrev oVals (x:OIn):List Value:=[.int .i64 x.s.vv,.slice x.A x.s.tt x.c,.int .i64 x.n,.slice x.B x.st x.cb]
structure OInOk (w:World) (g:Nat) (x:OIn):Prop where
 tab:TabS w (LtG w g) x.A x.s.tt
 sta:StS w (LtG w g) x.B x.st
 cnt:Zi x.st<=4611686018427387904
theorem check_sch {st:St} (h:Zv a s 1 st=0):a=0/\Zi st<=512:=by
 unfold Zv ZbD at h
 by_cases z:a=0
 .subst z;refine⟨rfl,?_⟩;simp [Zao] at h;omega
 rw [qr z,qr z] at h;exact absurd h z
theorem sch_eight (h:schF pcF s=0):s.tt.length<=8:=by
 unfold schF at h
 by_cases z:8<s.tt.length
 .rw [qr z] at h;exact absurd h yf
 omega
theorem app_none {st:St} (h:Zv a s 1 st=0):Zak a s 1 st []=(0,st):=by
 unfold Zak;rw [qo (by rw [h];simp)];rfl
theorem opens_walk (a:Option Addr) (len ca:Nat) (c3:List Int) (M:Sch) (au:Option Addr) (aA:Nat) (bB:Int) (aj:Option Addr) (av:Nat) (ah:St) (w:World) (da:IsRow .u8 w a len ca c3) (cI:TabS w (Lt w) au M.tt) (cN:StS w (Lt w) aj ah) (dj:Zi ah<=4611686018427387904) :
 Calls prog 3 #[.slice a len ca,sAgg M.vv au M.tt aA,.int .i64 bB,ZaM aj ah av] w (ZH true w):=by
 have cy:=hI dj;have cT:=hI cN;have cF:=hI cI;have bV:=hI (((qa w w).alloc nR (.cells #[.int .i64 M.vv,.slice au M.tt aA] 25)).alloc yb (.cells #[.slice aj ah av] 28));have ck:=hI (da.belowK bV);clear da cN cI dj;go_enter func3,ntmps3
 go_wp2_with fail
 obtain⟨bU,bw⟩:=yp ((w.alloc (.cells #[.int .i64 M.vv,.slice au M.tt aA] 25)).alloc (.cells #[.slice aj ah av] 28));obtain⟨ac,bF⟩:=yp w.heap.size;have cO:bU.heap[ac]?=some (.cells #[.int .i64 M.vv,.slice au M.tt aA] 25 (0,0)):=(by rw [<-bw,<-bF];exact(qd _ _ _ yb).trans (qb w _));have dh:bU.heap[ac+1]?=some (.cells #[.slice aj ah av] 28 (0,0)):=(by rw [<-bw,<-bF];exact heap_alloc_new' yb);have dv:bU<=ac+2/\ac+2<=bU:=(by rw [<-bw,<-bF];simp);have:ac<=w/\w<=ac:=ya;rw [bw] at bV ck;rw [bw]
 try rw [bF]
 clear bw bF;refine(new_any (A:=a) (len:=len) (cap:=ca) (l:=c3) (n:=120) ya ck).mono ?_;rintro e bl ⟨g,rfl,dC,cQ,bh⟩;have b6:w<=g:=ya;have aa:=hI cQ;have R:=hI (bV.trans (bh.mono ya));have dg:=bh.size;have U:=hI (show Bx bl g (ac+1) #[.slice aj ah av] 28 from ⟨(bh.block _ ya).trans dh,ya⟩);have K:=hI (show Bx bl g ac #[.int .i64 M.vv,.slice au M.tt aA] 25 from ⟨(bh.block _ ya).trans cO,ya⟩);have ai:=hI (show StS bl (LtG bl g) aj ah from (cT.keep (fun b z=>R.block b z)).more (fun b z=>by have F:b<w:=z;exact⟨ya,ya⟩));have aq:=hI (show TabS bl (LtG bl g) au M.tt from (cF.keep (fun b z=>R.block b z)).more (fun b z=>by have F:b<w:=z;exact⟨ya,ya⟩));clear cQ bh dC dh cO bV ck cT cF dv
 go_wp2_with fail
 refine(schema_any (n:=g) aa).mono ?_;rintro e w2 ⟨s,ak,an,rfl,cc,ds,c9,cR,cu⟩;have dY:=cc.len;have dH:=hI cc;have c4:=hI (show TabS w2 (LtG w2 g) ak s.tt from c9.more (fun b z=>⟨z.2,ym aa.lt z.1⟩));have bu:=Kp.grown (g:=g) cu;have U:=hI (bu.bx U);have K:=hI (bu.bx K);have ai:=hI (bu.st ai);have aq:=hI (bu.tab aq);have R:=hI (ZdG R cu b6 R.size);have:bl.heap.size<=w2:=bu.sz;clear bu;have am:=c4;have aa:=hI cR;clear c4 cc c9 cR cu ds;obtain⟨bj,ci,bo,-⟩:=al w2 (.cells #[.int .i64 s.vv,.slice ak s.tt an] 25);have bo:=bo.out;obtain⟨aE,cn⟩:=yp w2.heap.size;have cS:=hI (show Bx bj g aE #[.int .i64 s.vv,.slice ak s.tt an] 25 from ⟨by rw [<-ci,<-cn];exact qb w2 _,yl aa.lt⟩);have bm:=Kp.below (g:=g) bo;have U:=hI (bm.bx U);have K:=hI (bm.bx K);have ai:=hI (bm.st ai);have aq:=hI (bm.tab aq);have am:=hI (bm.tab am);have R:=hI (R.trans (bo.mono R.size));have aa:=hI (aa.keep (fun b ce=>bo.block b (yl aa.lt)));have:w2.heap.size<=bj:=bm.sz;clear bm;have af:=cS;clear cS bo;have dy:yr bj aE 0 (.int .i64 s.vv):=af.at_ 0 _ rfl;have dQ:yr bj aE 1 (.slice ak s.tt an):=af.at_ 1 _ rfl;have sl:aE<bj:=af.lt
 go_wp2_with fail
 try rw [ci]
 try rw [cn]
 clear ci cn;clear dy dQ sl;refine(state_any (n:=g) (A:=ak) an (s:=s) (a:=1) (S:=LtG bj g) am (fun b z=>z) dH rfl aa).mono ?_;rintro e bn ⟨az,st,rfl,bY,c6,dI,ch,de,b0⟩;have d9:=hI bY;have:st.length<=4:=(by have dN:=bY.1;omega);have cJ:Zi st<=16:=(by have F:=Zik st 4 c6;omega);have cd:=hI cJ;have di:=hI (show StS bn (LtG bn g) (some ⟨az,0,none⟩) st from ch.slice (by have dN:=bY.1;omega) (fun b z=>by have F:=aa.lt;have d8:=b0.size;rcases z with z | z;{ exact⟨yl z.1,z.2⟩ };exact⟨z.2,yl z.1⟩) ⟨ch.lt,yl aa.lt⟩);have bf:=Kp.grown (g:=g) b0;have U:=hI (bf.bx U);have K:=hI (bf.bx K);have ai:=hI (bf.st ai);have aq:=hI (bf.tab aq);have am:=hI (bf.tab am);have af:=hI (bf.bx af);have R:=hI (ZdG R b0 b6 R.size);have:bj.heap.size<=bn:=bf.sz;clear bf;have aM:=di;have aa:=hI de;clear di bY c6 ch de b0 dI cJ;obtain⟨bS,b4,bz,-⟩:=al bn (.cells #[.slice (some ⟨az,0,none⟩) st.length st.length] 28);have bz:=bz.out;obtain⟨bG,b9⟩:=yp bn.heap.size;have dd:=hI (show Bx bS g bG #[.slice (some ⟨az,0,none⟩) st.length st.length] 28 from ⟨by rw [<-b4,<-b9];exact qb bn _,yl aa.lt⟩);have aX:=Kp.below (g:=g) bz;have U:=hI (aX.bx U);have K:=hI (aX.bx K);have ai:=hI (aX.st ai);have aq:=hI (aX.tab aq);have am:=hI (aX.tab am);have af:=hI (aX.bx af);have aM:=hI (aX.st aM);have R:=hI (R.trans (bz.mono R.size));have aa:=hI (aa.keep (fun b ce=>bz.block b (yl aa.lt)));have:bn.heap.size<=bS:=aX.sz;clear aX;have aZ:=dd;clear dd bz;go_upto_region 4 with fail
 try rw [b4]
 try rw [b9]
 clear b4 b9;obtain⟨ab,cV,bt,-⟩:=dr bS;have bt:=bt.out;have aT:=Kp.below (g:=g) bt;have U:=hI (aT.bx U);have K:=hI (aT.bx K);have ai:=hI (aT.st ai);have aq:=hI (aT.tab aq);have am:=hI (aT.tab am);have af:=hI (aT.bx af);have aM:=hI (aT.st aM);have aZ:=hI (aT.bx aZ);have R:=hI (R.trans (bt.mono R.size));have aa:=hI (aa.keep (fun b ce=>bt.block b (yl aa.lt)));have:bS.heap.size<=ab:=aT.sz;clear aT;clear bt;have aP:yr ab aE 0 (.int .i64 s.vv):=af.at_ 0 _ rfl;have aW:yr ab aE 1 (.slice ak s.tt an):=af.at_ 1 _ rfl;have aN:yr ab bG 0 (.slice (some ⟨az,0,none⟩) st.length st.length):=aZ.at_ 0 _ rfl;have aU:yr ab ac 0 (.int .i64 M.vv):=K.at_ 0 _ rfl;have aQ:yr ab ac 1 (.slice au M.tt aA):=K.at_ 1 _ rfl;have aR:yr ab (ac+1) 0 (.slice aj ah av):=U.at_ 0 _ rfl;refine uS (fun w'=>w'.cell? ⟨aE,0,none⟩=some (.int .i64 s.vv)/\w'.cell? ⟨aE,1,none⟩=some (.slice ak s.tt an)/\w'.cell? ⟨bG,0,none⟩=some (.slice (some ⟨az,0,none⟩) st.length st.length)/\w'.cell? ⟨ac,0,none⟩=some (.int .i64 M.vv)/\w'.cell? ⟨ac,1,none⟩=some (.slice au M.tt aA)/\w'.cell? ⟨ac+1,0,none⟩=some (.slice aj ah av)) 26 26 fun Q' cA b1=>?_;rw [cV];clear cV;refine uR [0,2,4,1,6,17,25,1] b1 ⟨aP,aW,aN,aU,aQ,aR⟩ ?_;refine uQ 2 fun cq bI=>?_;go_simp;refine(Zal (n:=g) (a:=4) (w:=ab) ya aa).mono ?_;rintro e aG ⟨r,rfl,r0,db,-,cH,cj,-⟩;have d5:=db ya;clear aP aW aN aU aQ aR;have aS:=Kp.grown (g:=g) cj;have U:=hI (aS.bx U);have K:=hI (aS.bx K);have ai:=hI (aS.st ai);have aq:=hI (aS.tab aq);have am:=hI (aS.tab am);have af:=hI (aS.bx af);have aM:=hI (aS.st aM);have aZ:=hI (aS.bx aZ);have R:=hI (ZdG R cj b6 R.size);have:ab.heap.size<=aG:=aS.sz;clear aS;have aa:=hI cH;clear cH cj db;have aP:yr aG aE 0 (.int .i64 s.vv):=af.at_ 0 _ rfl;have aW:yr aG aE 1 (.slice ak s.tt an):=af.at_ 1 _ rfl;have aN:yr aG bG 0 (.slice (some ⟨az,0,none⟩) st.length st.length):=aZ.at_ 0 _ rfl;have aU:yr aG ac 0 (.int .i64 M.vv):=K.at_ 0 _ rfl;have aQ:yr aG ac 1 (.slice au M.tt aA):=K.at_ 1 _ rfl;have aR:yr aG (ac+1) 0 (.slice aj ah av):=U.at_ 0 _ rfl;refine bI _ _ (fun _=>⟨aP,aW,aN,aU,aQ,aR⟩) ?_;clear bI cq
 try simp only [Act.put,psA,psB,psC]
 obtain⟨n,cw⟩:∃ n:Nat,1+r=(n:Int):=⟨(1+r).toNat,ya⟩;have:1<=n/\n<=4:=ya;have cM:IntKind.i64.wrap (n:Int)=n:=(by rw [IntKind.wrap_i64];omega);refine uR [3,1,5,1] b1 ⟨aP,aW,aN,aU,aQ,aR⟩ ?_;refine uQ 23 fun cq df=>?_
 try rw [cw]
 try rw [cM]
 have bI:=hI df;clear df;go_simp
 try rw [cw]
 try rw [cM]
 obtain⟨E,bc,cY,c7,bq,cW⟩:=ag aG (.cells #[.int .i64 s.vv,.slice ak s.tt an,.int .i64 (n:Int),.slice (some ⟨az,0,none⟩) st.length st.length,.int .i64 s.vv,.slice ak s.tt an,.int .i64 bB,.slice (some ⟨az,0,none⟩) st.length st.length,.int .i64 s.vv,.slice ak s.tt an,.int .i64 2,.slice aj ah av,.int .i64 M.vv,.slice au M.tt aA,.int .i64 2,.slice aj ah av,.int .i64 M.vv,.slice au M.tt aA,.int .i64 bB,.slice (some ⟨az,0,none⟩) st.length st.length,.int .i64 s.vv,.slice ak s.tt an,.int .i64 5,.slice aj ah av] 34);have bq:=bq.out;have:aG<=bc/\bc<=aG:=ya;rw [cY,c7];clear cY c7 cw;clear aP aW aN aU aQ aR;have aV:=Kp.below (g:=g) bq;have U:=hI (aV.bx U);have K:=hI (aV.bx K);have ai:=hI (aV.st ai);have aq:=hI (aV.tab aq);have am:=hI (aV.tab am);have af:=hI (aV.bx af);have aM:=hI (aV.st aM);have aZ:=hI (aV.bx aZ);have R:=hI (R.trans (bq.mono R.size));have aa:=hI (aa.keep (fun b ce=>bq.block b (yl aa.lt)));have:aG.heap.size<=E:=aV.sz;clear aV;clear bq;have aP:yr E aE 0 (.int .i64 s.vv):=af.at_ 0 _ rfl;have aW:yr E aE 1 (.slice ak s.tt an):=af.at_ 1 _ rfl;have aN:yr E bG 0 (.slice (some ⟨az,0,none⟩) st.length st.length):=aZ.at_ 0 _ rfl;have aU:yr E ac 0 (.int .i64 M.vv):=K.at_ 0 _ rfl;have aQ:yr E ac 1 (.slice au M.tt aA):=K.at_ 1 _ rfl;have aR:yr E (ac+1) 0 (.slice aj ah av):=U.at_ 0 _ rfl;refine bI _ _ (fun _=>⟨aP,aW,aN,aU,aQ,aR⟩) ?_;clear bI cq
 try simp only [Act.put,psA,psB,psC]
 refine uR [24,1] b1 ⟨aP,aW,aN,aU,aQ,aR⟩ ?_;refine uE cA ?_;clear cA b1 Q';clear aP aW aN aU aQ aR;obtain⟨bK,bW⟩:∃ bK:List OIn,bK=[⟨s,ak,an,(n:Int),(some ⟨az,0,none⟩),st.length,st⟩,⟨s,ak,an,bB,(some ⟨az,0,none⟩),st.length,st⟩,⟨s,ak,an,2,aj,av,ah⟩,⟨M,au,aA,2,aj,av,ah⟩,⟨M,au,aA,bB,(some ⟨az,0,none⟩),st.length,st⟩,⟨s,ak,an,5,aj,av,ah⟩]:=⟨_,rfl⟩;have d6:=hI (show bK.length=6 by rw [bW];rfl)
 have dG:=hI (show ∀ x ∈ bK,OInOk E g x from fun x bp=>by
  rw [bW] at bp;simp only [Qs,qX,or_false] at bp;rcases bp with rfl | rfl | rfl | rfl | rfl | rfl
  .exact⟨am,aM,by have:=cd.out;show Zi st<=_;omega⟩
  .exact⟨am,aM,by have:=cd.out;show Zi st<=_;omega⟩
  .exact⟨am,ai,cy⟩
  .exact⟨aq,ai,cy⟩
  .exact⟨aq,aM,by have:=cd.out;show Zi st<=_;omega⟩
  exact⟨am,ai,cy⟩)
 have dx:=hI (show ∀ k,k<6->∃ x,bK[k]?=some x/\(∀ j u,(oVals x)[j]?=some u->yr E bc (0+(k*4+j)) u) from fun k dw=>by
  have dB:=Za cW;rw [bW]
  match k,dw with
  | 0, _ | 1, _ | 2, _ | 3, _ | 4, _ | 5, _ => exact ⟨_, rfl, fun j u dP => dB _ u (by
   match j,dP with
   | 0,h | 1,h | 2,h | 3,h=>exact h
   | j+4,h=>exact absurd h yb)⟩)
 clear bW;have dW:=R.size;have bX:bc<E:=Zb cW
 go_wp2
 go_loopw [54] (fun i wr=>∃ q:Nat,q<=6/\i=.int .i64 q/\Below E E wr) (fun i _=>6 - (intOf i).toNat)
 case atStart=>exact⟨0,qk _,rfl,qa _ _⟩
 obtain⟨ae,rfl⟩:∃ ae:World,ae=wr:=⟨_,rfl⟩;obtain⟨q,d7,rfl,b5⟩:=hrel;have be:=hI b5;have dL:=b5.size;clear b5;rcases qv q 6 with du | dT
 .obtain⟨x,bp,bC⟩:=dx q du;obtain⟨I,A',aB,aC,O,ar,H⟩:=x;have bP:=dG _ (List.mem_of_getElem? bp);have aJ:ae.cell? ⟨bc,q*4,none⟩=some (.int .i64 I.vv):=(by have F:=bC 0 _ rfl;rw [qx,Nat.add_zero] at F;exact c9Q be bX F);have aI:ae.cell? ⟨bc,q*4+1,none⟩=some (.slice A' I.tt aB):=(by have F:=bC 1 _ rfl;rw [qx] at F;exact c9Q be bX F);have aK:ae.cell? ⟨bc,q*4+2,none⟩=some (.int .i64 aC):=(by have F:=bC 2 _ rfl;rw [qx] at F;exact c9Q be bX F);have ax:ae.cell? ⟨bc,q*4+3,none⟩=some (.slice O H ar):=(by have F:=bC 3 _ rfl;rw [qx] at F;exact c9Q be bX F);have W:=hI (show TabS ae (fun b=>b<E) A' I.tt from qZ (qU bP.tab (fun b z=>be.block b z.1)) (fun b z=>z.1));have N:=hI (show StS ae (fun b=>b<E) O H from qZ (qU bP.sta (fun b z=>be.block b z.1)) (fun b z=>z.1));have cx:=hI bP.cnt;clear bp bC bP;simp only at W N cx;have:(q:Int)<6:=ya;obtain⟨aY,bL⟩:=yp (ae.alloc (.cells #[.int .i64 I.vv,.slice A' I.tt aB,.int .i64 aC,.slice O H ar] 34));obtain⟨L,b8⟩:=yp ae.heap.size;have cD:=hI (show aY.heap[L]?=some (.cells #[.int .i64 I.vv,.slice A' I.tt aB,.int .i64 aC,.slice O H ar] 34 (0,0)) by rw [<-bL,<-b8];exact qb ae _);have dS:=hI (be.trans ((show Below ae ae aY by rw [<-bL];exact(qa _ ae).alloc nR _).mono dL));have:ae<=L/\L<=ae:=ya;have dD:=Zb cD;have cE:=hI (show Same (fun b=>b<E) ae aY by rw [<-bL];exact fun b z=>((qa _ ae).alloc nR _).block b (by have F:b<E:=z;omega));have dM:=hI bL;have dO:=hI b8;clear bL b8;go_upto_region 7 with fail
  rw [dM,dO];clear aJ aI aK ax;have W:=hI (show TabS aY (fun b=>b<E) A' I.tt from qU W cE);have N:=hI (show StS aY (fun b=>b<E) O H from qU N cE)
  go_wp2_with fail
  refine(show Calls _ _ _ _ _ from Zjv (room:=16777216) ya (w:=aY)).mono ?_;rintro e ab ⟨rfl,co,bh,dg⟩;obtain⟨d,hd⟩:=yp aY.heap.size;have:aY<=d/\d<=aY:=ya;have:d<ab/\ab<=d+1:=ya;rw [hd] at co;rw [hd];have dF:=hI co;have bQ:=hI bh;clear co bh dg hd;have W:=hI (show TabS ab (fun b=>b<E) A' I.tt from qU W (fun b z=>bQ.block b (by have F:b<E:=z;omega)));have N:=hI (show StS ab (fun b=>b<E) O H from qU N (fun b z=>bQ.block b (by have F:b<E:=z;omega)));have aw:=hI (dS.trans (bQ.mono ya));have aO:=hI ((bQ.block L dD).trans cD);have aJ:yr ab L 0 (.int .i64 I.vv):=Za aO 0 _ rfl;have aI:yr ab L 1 (.slice A' I.tt aB):=Za aO 1 _ rfl;have aK:yr ab L 2 (.int .i64 aC):=Za aO 2 _ rfl;have ax:yr ab L 3 (.slice O H ar):=Za aO 3 _ rfl
  go_wp2_with fail
  by_cases dk:aC<1\/4<aC
  .have bT:=hI (show ZfC I aC H=1 by unfold ZfC;rw [qo ya]);refine(show Calls _ _ _ _ _ from open_err1 (n:=d) I A' aB (a:=aC) O ar H (w:=ab) dk).mono ?_;rintro e Z ⟨rfl,aH⟩;clear aJ aI aK ax;have K:=hI aH;have cX:=aH.size;clear aH;have ao:=hI ((K.block L (Zb aO)).trans aO);have ay:=hI (aw.trans (K.mono aw.size));have W:=hI (show TabS Z (fun b=>b<E) A' I.tt from qU W (fun b z=>K.block b (by have F:b<E:=z;have:=aw.size;omega)));have N:=hI (show StS Z (fun b=>b<E) O H from qU N (fun b z=>K.block b (by have F:b<E:=z;have:=aw.size;omega)));have aJ:yr Z L 0 (.int .i64 I.vv):=Za ao 0 _ rfl;have aI:yr Z L 1 (.slice A' I.tt aB):=Za ao 1 _ rfl;have aK:yr Z L 2 (.int .i64 aC):=Za ao 2 _ rfl;have ax:yr Z L 3 (.slice O H ar):=Za ao 3 _ rfl
   go_wp2_with fail
   have aF:=Zha (A:=A') aB I aC (B:=O) ar (st:=H) (S:=fun b=>b<E) (w:=Z) W N (fun b z=>by have F:b<E:=z;have:=ay.size;omega);rw [bT] at aF;refine(show Calls _ _ _ _ _ from aF).mono ?_;clear aF;clear aJ aI aK ax;rintro e bJ ⟨aL,(⟨-,rfl⟩ | ⟨F,-⟩)⟩;rotate_left
   .exact absurd F yf
   have ba:=hI aL;have c5:=aL.size;clear aL;have bg:=hI (ay.trans (ba.mono ay.size))
   go_wp2
   go_roundw
   case rel=>exact⟨q+1,ya,by go_num,bg⟩
   simp [intOf];omega
  obtain⟨aD,rfl⟩:∃ aD:Nat,aC=aD:=⟨aC.toNat,ya⟩;have dl:1<=aD/\aD<=4:=ya;obtain⟨bb,bk⟩:=yp (Zv (schF pcF I) I 1 H);have bT:=hI (show ZfC I (aD:Int) H=bb by unfold ZfC;rw [qr ya];exact bk);clear dk
  by_cases bM:bb=0
  .subst bM;have cK:=check_sch bk;have cg:=hI bk;have bD:=hI cK;clear bk cK
   refine(show Calls _ _ _ _ _ from ZiB (n:=d) (room:=16777216) (k:=aD) (s:=I) (A:=A') aB (B:=O) ar (st:=H) (o:=H) (I:=[]) (S:=fun b=>b<E) (w:=ab) W N (fun b z=>by have F:b<E:=z;have:=aw.size;omega) dF dl.1 dl.2 bD.1 (StOk.of_check cg) bD.2 (Zke bD.1 cg) (fun i d2=>by
    have F:i=0\/i=1\/i=2\/i=3:=ya;rcases F with rfl | rfl | rfl | rfl<;>rfl)).mono ?_
   rintro e Z ⟨h,ap,rfl,cU,dt,aH⟩;have bi:=hI cU;clear cU dt;clear aJ aI aK ax;have K:=hI aH;have cX:=aH.size;clear aH;have ao:=hI ((K.block L (Zb aO)).trans aO);have ay:=hI (aw.trans (K.mono aw.size));have W:=hI (show TabS Z (fun b=>b<E) A' I.tt from qU W (fun b z=>K.block b (by have F:b<E:=z;have:=aw.size;omega)));have N:=hI (show StS Z (fun b=>b<E) O H from qU N (fun b z=>K.block b (by have F:b<E:=z;have:=aw.size;omega)));have aJ:yr Z L 0 (.int .i64 I.vv):=Za ao 0 _ rfl;have aI:yr Z L 1 (.slice A' I.tt aB):=Za ao 1 _ rfl;have aK:yr Z L 2 (.int .i64 (aD:Int)):=Za ao 2 _ rfl;have ax:yr Z L 3 (.slice O H ar):=Za ao 3 _ rfl
   go_wp2_with fail
   have aF:=Zha (A:=A') aB I (aD:Int) (B:=O) ar (st:=H) (S:=fun b=>b<E) (w:=Z) W N (fun b z=>by have F:b<E:=z;have:=ay.size;omega);rw [bT] at aF;refine(show Calls _ _ _ _ _ from aF).mono ?_;clear aF;clear aJ aI aK ax;rintro e bJ ⟨aL,(⟨F,-⟩ | ⟨-,d0,rfl⟩)⟩
   .exact absurd rfl F
   have ba:=hI aL;have c5:=aL.size;clear aL;have dm:=hI ((ba.block L (Zb ao)).trans ao);have bg:=hI (ay.trans (ba.mono ay.size));have W:=hI (show TabS bJ (fun b=>b<E) A' I.tt from qU W (fun b z=>ba.block b (by have F:b<E:=z;have:=ay.size;omega)));have N:=hI (show StS bJ (fun b=>b<E) O H from qU N (fun b z=>ba.block b (by have F:b<E:=z;have:=ay.size;omega)));have bi:=hI (bi.below ba nR)
   go_wp2_with fail
   have cr:=ZgS h (n:=aD) (k:=0) (m:=ap.cJ) (i:=ap.cE) (A:=some ⟨ap.gJ,ap.oJ,none⟩) (B:=ap.AE) (s:=I) (A':=ap.As) (j:=ap.cs) (b:=0) (x:=.slice ap.Af H ap.cf) (xA:=.slice ap.AN 9 ap.cN) (D:=ap.Ag) (c:=ap.cg) (st:=H) (S:=ap.D) (w:=bJ) bi.blk bi.tab bi.fin (fun b z=>(bi.dx b z).1) (ZU (s:=I)) cx (yl (sch_eight bD.1)) ya (by rw [bD.1];rfl);rw [app_none cg.out] at cr;refine(show Calls _ _ _ _ _ from cr).mono ?_;clear cr;rintro e bN ⟨cv,cf,rfl,dE,cG,ct⟩;have dA:=hI cG;clear cG dE;have bH:=hI ct;have dq:=ct.size;clear ct;have dc:=hI ((bH.block L (Zb dm)).trans dm);have bO:=hI (bg.trans (bH.mono bg.size));have W:=hI (show TabS bN (fun b=>b<E) A' I.tt from qU W (fun b z=>bH.block b (by have F:b<E:=z;have:=bg.size;omega)));have N:=hI (show StS bN (fun b=>b<E) O H from qU N (fun b z=>bH.block b (by have F:b<E:=z;have:=bg.size;omega)));obtain⟨wb,bR,cP,c8,bE,cZ⟩:=ag bN (.cells #[.slice cv H cf] 28);have bE:=bE.out;have dT:bN<=bR/\bR<=bN:=ya;have br:=hI bE;have d3:=bE.size;clear bE;have cz:=hI ((br.block L (Zb dc)).trans dc);have bZ:=hI (bO.trans (br.mono bO.size));have W:=hI (show TabS wb (fun b=>b<E) A' I.tt from qU W (fun b z=>br.block b (by have F:b<E:=z;have:=bO.size;omega)));have N:=hI (show StS wb (fun b=>b<E) O H from qU N (fun b z=>br.block b (by have F:b<E:=z;have:=bO.size;omega)));have dz:=hI cP;have dp:=hI c8;clear cP c8;dsimp only;go_upto_region 16 with fail
   rw [dz,dp];have b2:=hI (bi.below (bH.trans (br.mono dq)) nR)
   go_wp2_with fail
   refine(show Calls _ _ _ _ _ from hbase_any (n:=h) (a:=0) (w:=wb) (Za b2.blk 4 _ rfl)).mono ?_;rintro e w' ⟨rfl,rfl⟩
   go_wp2_with fail
   refine(show Calls _ _ _ _ _ from Zcn (n:=h) (a:=0) (A:=ap.AE) (k:=0) (m:=ap.cE) (w:=w') (Za b2.blk 4 _ rfl) (Za b2.blk 7 _ rfl) yf).mono ?_;rintro e d1 ⟨rfl,j,rfl⟩;obtain⟨wc,cp⟩:=yp (w'.drewN j);have b3:Below w' w' wc:=(by rw [<-cp];exact below_drewN (qa _ w') j);rw [cp];clear cp;have U:=hI b3;have d4:=b3.size;clear b3;have dU:=hI ((U.block L (Zb cz)).trans cz);have b7:=hI (bZ.trans (U.mono bZ.size));have W:=hI (show TabS wc (fun b=>b<E) A' I.tt from qU W (fun b z=>U.block b (by have F:b<E:=z;have:=bZ.size;omega)));have N:=hI (show StS wc (fun b=>b<E) O H from qU N (fun b z=>U.block b (by have F:b<E:=z;have:=bZ.size;omega)));have dJ:=hI ((U.block bR (Zb cZ)).trans cZ);have ax:yr wc L 3 (.slice O H ar):=Za dU 3 _ rfl;have dV:yr wc bR 0 (.slice cv H cf):=Za dJ 0 _ rfl
   go_wp2_with fail
   have cm:=rsame_any (A:=cv) (B:=O) cf ar (o:=H) (oA:=H) (S:=fun b=>b<wc) (w:=wc) (qZ (qU dA (fun b z=>(U.block b (by have F:=z.2;omega)).trans (br.block b z.2))) (fun b z=>by have F:=z.2;omega)) (qZ N (fun b z=>by have F:b<E:=z;have:=b7.size;show b<_;omega)) (fun b z=>z);rw [qt (rfl:H=H)] at cm;refine(show Calls _ _ _ _ _ from cm).mono ?_;clear cm ax dV;rintro e dX ⟨rfl,cL⟩;have dK:=hI (b7.trans (cL.mono b7.size));clear cL
   go_wp2
   go_roundw
   case rel=>exact⟨q+1,ya,by go_num,dK⟩
   simp [intOf];omega
  have:(bb == 0)=false:=qf.2 bM;have:decide (bb=0)=false:=qe bM;refine(show Calls _ _ _ _ _ from open_err2 (n:=d) I (A:=A') aB (a:=aD) (B:=O) ar (st:=H) (S:=fun b=>b<E) (w:=ab) ya ya W N (fun b z=>by have F:b<E:=z;have:=aw.size;omega) cx (by rw [bk];exact bM)).mono ?_;rintro e Z ⟨rfl,aH⟩;rw [bk];clear bk;clear aJ aI aK ax;have K:=hI aH;have cX:=aH.size;clear aH;have ao:=hI ((K.block L (Zb aO)).trans aO);have ay:=hI (aw.trans (K.mono aw.size));have W:=hI (show TabS Z (fun b=>b<E) A' I.tt from qU W (fun b z=>K.block b (by have F:b<E:=z;have:=aw.size;omega)));have N:=hI (show StS Z (fun b=>b<E) O H from qU N (fun b z=>K.block b (by have F:b<E:=z;have:=aw.size;omega)));have aJ:yr Z L 0 (.int .i64 I.vv):=Za ao 0 _ rfl;have aI:yr Z L 1 (.slice A' I.tt aB):=Za ao 1 _ rfl;have aK:yr Z L 2 (.int .i64 (aD:Int)):=Za ao 2 _ rfl;have ax:yr Z L 3 (.slice O H ar):=Za ao 3 _ rfl
  go_wp2_with fail
  have aF:=Zha (A:=A') aB I (aD:Int) (B:=O) ar (st:=H) (S:=fun b=>b<E) (w:=Z) W N (fun b z=>by have F:b<E:=z;have:=ay.size;omega);rw [bT] at aF;refine(show Calls _ _ _ _ _ from aF).mono ?_;clear aF;clear aJ aI aK ax;rintro e bJ ⟨aL,(⟨-,rfl⟩ | ⟨F,-⟩)⟩;rotate_left
  .exact absurd F bM
  have ba:=hI aL;have c5:=aL.size;clear aL;have bg:=hI (ay.trans (ba.mono ay.size));have:(bb != bb)=false:=yb;have:decide (bb=bb)=true:=qt rfl
  go_wp2
  go_roundw
  case rel=>exact⟨q+1,ya,by go_num,bg⟩
  simp [intOf];omega
 obtain rfl:q=6:=by omega
 go_wp2_with fail
 refine(show Calls _ _ _ _ _ from begun25_any (w:=ae)).mono ?_;rintro e dZ ⟨rfl,cC⟩;have dR:=hI cC;clear cC
 go_wp2
 go_ret;exact⟨rfl,(R.trans (be.mono ya)).trans (dR.mono ya)⟩
end Go.Proofs.YtjadnfodboepeaaGreat
