import Derived.Test.YtjadnfodboepeaaGreatK5w
set_option linter.all false
set_option maxRecDepth 100000
set_option maxHeartbeats 8000000
namespace Go.Proofs.YtjadnfodboepeaaGreat
open Tryz
open Go.RowKit
variable {w w' v:World} {n k m:Nat} {A B A':Option Addr} {S:Nat->Prop} {a t:Int} {l:List Int} {x xA xB:Value} {g:TypeId} {h:ByteArray} {X Y XA:List Value} {N:Tab} {Z:List Pred}
theorem column_any:Calls prog 41 #[.string h,.int .i64 a] w (fun e w'=>e=.returned (.agg #[.string h,.int .i64 a])/\w'=w.alloc (.cells #[.string h,.int .i64 a] 98)):=by
 go_enter func41,ntmps41
 go_wp2
 exact qw (v:=.agg #[.string h,.int .i64 a]) (by simp [results,results41,go_sem]) rfl ⟨rfl,rfl⟩
theorem vals_col {c:Col} (h:c.name.size<=9223372036854775807):Dat.Vs w S (Zbh c) [.string c.name,.int .i64 c.kind]:=by
 simp only [Zbh,Dat.Vs,Dat.Va,ZC,ZA];exact⟨[.string c.name],_,rfl,⟨rfl,h⟩,[.int .i64 c.kind],[],rfl,⟨rfl,trivial⟩,rfl⟩
def Zgb:List Col->List Value
 | []=>[]
 | c :: l=>.string c.name :: .int .i64 c.kind :: Zgb l
theorem Zhw:∀ {l:List Col},(∀ c ∈ l,c.name.size<=9223372036854775807)->Dat.Va w S (l.map Zbh) (Zgb l)
 | [],_=>by simp [Dat.Va,Zgb]
 | c :: l,h=>by
  simp only [qL,Dat.Va];exact⟨[.string c.name,.int .i64 c.kind],Zgb l,rfl,vals_col (h c yb),Zhw (fun x z=>h x (by simp [z]))⟩
theorem Zdg {l:List Col} (h:w.heap[n]?=some (.cells (Zgb l).toArray g (0,0))) (E:S n) (z:∀ c ∈ l,c.name.size<=9223372036854775807) (F:l.length<=100):ColS w S (some ⟨n,0,none⟩) l :=
 Qb (by rw [Ze (n:=24) (fun _=>rfl)];omega) (Zhw z) (fun _=>⟨n,0,rfl,E,by have:=Za h;simpa using this⟩)
theorem Zdc {c1 c2:Nat} (z:N.name.size<=9223372036854775807) (I:N.cols.length<=c1) (M:ColS w S A N.cols) (R:N.refs.length<=c2) (L:RfrS w S B N.refs) (K:N.checks.length<=n) (O:PredS w S A' N.checks) :
 Dat.Vs w S (ZP N) [.string N.name,.slice A N.cols c1,.int .i64 N.key,.slice B N.refs c2,.slice A' N.checks n]:=by
 simp only [ZP,Dat.Vs,Dat.Va,ZC,ZA,qg];exact⟨[.string N.name],_,rfl,⟨rfl,z⟩,[.slice A N.cols c1],_,rfl,⟨A,c1,rfl,I,M⟩,[.int .i64 N.key],_,rfl,⟨rfl,trivial⟩,[.slice B N.refs c2],_,rfl,⟨B,c2,rfl,R,L⟩,[.slice A' N.checks n],[],rfl,⟨A',n,rfl,K,O⟩,rfl⟩
theorem Zhz (h:Dat.Vs w S (ZP N) X):∃ z F E c1 c2 H,X=[.string N.name,.slice z N.cols c1,.int .i64 N.key,.slice F N.refs c2,.slice E N.checks H]/\N.name.size<=9223372036854775807/\N.cols.length<=c1/\ColS w S z N.cols/\N.refs.length<=c2/\RfrS w S F N.refs/\N.checks.length<=H/\PredS w S E N.checks:=by
 simp only [ZP,Dat.Vs,Dat.Va,ZC,ZA,qg] at h;obtain⟨a1,U,rfl,⟨rfl,t⟩,a2,Z,rfl,⟨z,c1,rfl,I,M⟩,a3,ab,rfl,⟨rfl,-⟩,a4,aa,rfl,⟨F,c2,rfl,R,L⟩,a5,W,rfl,⟨E,H,rfl,K,O⟩,rfl⟩:=h;exact⟨z,F,E,c1,c2,H,rfl,t,I,M,R,L,K,O⟩
abbrev SD (w wr:World) (g z:Nat):Nat->Prop:=fun b=>w<b/\b<wr/\b≠z/\b≠z+1/\b≠g
structure SchI (w wr:World) (g TB n:Nat) (v id:Int) (b1 b2 b3:Bool) (chk:List Pred):Prop where
 tb:∃ vs:List Value,wr.heap[TB]?=some (.cells vs.toArray 104 (0,0))/\Dat.Va wr (SD w wr g TB) ((ZS id (rf0 b1 1 0) (rf0 b2 0 0) (rf0 b3 0 1) chk).map ZP) vs
 sb:wr.heap[TB+1]?=some (.cells #[.int .i64 v,.slice (some ⟨TB,0,none⟩) n 4] 25 (0,0))
 rb:wr.heap[w.heap.size]?=some (.cells #[.int .i64 0,.slice none 0 0] 25 (0,0))
 case:CaseOk wr g
 gr:w.grownBy wr (some g)
 lo:w.heap.size<TB
 gl:g<w
section
variable {w wr wx:World} {g TB n:Nat} {v id:Int} {b1 b2 b3:Bool} {chk:List Pred}
theorem SchI.keep (h:SchI w wr g TB n v id b1 b2 b3 chk) (E:wr.grownBy wx (some g)) (O:CaseOk wx g):SchI w wx g TB n v id b1 b2 b3 chk:=by
 obtain⟨vs,H,L⟩:=h.tb;have K:=h.lo;have N:=h.gl;have U:=E.size;have z:∀ b,b<wr.heap.size->b≠g->wx.heap[b]?=wr.heap[b]?:=fun b z I=>E.block b z (fun e=>I (by injection e));have M:=Zb H;have l2:=Zb h.sb;have R:=Zb h.rb;exact⟨⟨vs,(z _ M ya).trans H,Dat.Va.more (fun b z=>⟨z.1,yl z.2.1,z.2.2⟩) _ _ (Dat.Va.keep (fun b F=>z b F.2.1 F.2.2.2.2) _ _ L)⟩,(z _ l2 ya).trans h.sb,(z _ R ya).trans h.rb,O,h.gr.trans E,K,N⟩
theorem SchI.below (h:SchI w wr g TB n v id b1 b2 b3 chk) (z:Below wr wr wx):SchI w wx g TB n v id b1 b2 b3 chk :=
 h.keep (qW (X:=fun b=>b=g) z).grown (h.case.keep (fun b E=>z.block b (yl h.case.lt)))
end
def Zku (v z:Int) (E n:Nat):List Obj:=[
 .cells #[.string nId,.int .i64 4] 98 (0,0),
 .cells #[.string Zkh,.int .i64 4] 98 (0,0),
 .cells #[.string nId,.int .i64 4,.string Zkh,.int .i64 4] 98 (0,0),
 .cells #[.string nId,.int .i64 z] 98 (0,0),
 .cells #[.string nProject,.int .i64 4] 98 (0,0),
 .cells #[.string nTitle,.int .i64 5] 98 (0,0),
 .cells #[.string nDone,.int .i64 3] 98 (0,0),
 .cells #[.string nId,.int .i64 z,.string nProject,.int .i64 4,.string nTitle,.int .i64 5,.string nDone,.int .i64 3] 98 (0,0),
 .cells #[.string nProject,.int .i64 4] 98 (0,0),
 .cells #[.string ZiF,.int .i64 4] 98 (0,0),
 .cells #[.string nProject,.int .i64 4,.string ZiF,.int .i64 4] 98 (0,0),
 .cells #[.string nTask,.int .i64 z] 98 (0,0),
 .cells #[.string nTask,.int .i64 z] 98 (0,0),
 .cells #[.string nProjects,.slice (some ⟨n+2,0,none⟩) 2 2,.int .i64 1,.slice none 0 0,.slice none 0 0,.string nTasks,.slice (some ⟨n+7,0,none⟩) 4 4,.int .i64 1,.slice none 0 0,.slice none 0 0,.string nMembers,.slice (some ⟨n+10,0,none⟩) 2 2,.int .i64 2,.slice none 0 0,.slice none 0 0,.string nArchived,.slice (some ⟨n+12,0,none⟩) 1 1,.int .i64 1,.slice none 0 0,.slice none 0 0] 104 (0,0),
 .cells #[.int .i64 v,.slice (some ⟨n+13,0,none⟩) E 4] 25 (0,0)]
theorem ZgY {cols:List Col} {key:Int} {N R':List Rfr} (vs:Dat.Vs w S (ZP ⟨h,cols,key,N,Z⟩) X) (O:R'.length<=n) (I:RfrS w S A R'):Dat.Vs w S (ZP ⟨h,cols,key,R',Z⟩) (X.set 3 (.slice A R' n)):=by
 obtain⟨R,W,U,c1,c2,aa,rfl,L,F,K,ab,E,H,M⟩:=Zhz vs;exact Zdc (N:=⟨h,cols,key,R',Z⟩) L F K O I H M
theorem tab_chks {cols:List Col} {key:Int} {E:List Rfr} {ck':List Pred} (vs:Dat.Vs w S (ZP ⟨h,cols,key,E,Z⟩) X) (M:ck'.length<=n) (I:PredS w S A ck'):Dat.Vs w S (ZP ⟨h,cols,key,E,ck'⟩) (X.set 4 (.slice A ck' n)):=by
 obtain⟨R,O,U,c1,c2,aa,rfl,L,F,K,N,H,W,ab⟩:=Zhz vs;exact Zdc (N:=⟨h,cols,key,E,ck'⟩) L F K N H M I
theorem ZdY {L I H:List Rfr} (h:Dat.Va w S ((ZS a L I H Z).map ZP) X):∃ v0 F E z,X=v0++(F++(E++z))/\v0.length=5/\F.length=5/\E.length=5/\z.length=5/\Dat.Vs w S (ZP ⟨nProjects,ZfR,1,[],[]⟩) v0/\Dat.Vs w S (ZP ⟨nTasks,ZcP a,1,L,Z⟩) F/\Dat.Vs w S (ZP ⟨nMembers,Zds,2,I,[]⟩) E/\Dat.Vs w S (ZP ⟨nArchived,ZcO a,1,H,[]⟩) z:=by
 simp only [ZS,qL,Qn,Dat.Va] at h;obtain⟨v0,x,rfl,N,F,y,rfl,M,E,U,rfl,K,z,u,rfl,O,rfl⟩:=h;exact⟨v0,F,E,z,yb,Dat.Vs.len _ _ N,Dat.Vs.len _ _ M,Dat.Vs.len _ _ K,Dat.Vs.len _ _ O,N,M,K,O⟩
theorem Zfp {K I H:List Rfr} {v0:List Value} (O:Dat.Vs w S (ZP ⟨nProjects,ZfR,1,[],[]⟩) v0) (N:Dat.Vs w S (ZP ⟨nTasks,ZcP a,1,K,Z⟩) X) (M:Dat.Vs w S (ZP ⟨nMembers,Zds,2,I,[]⟩) Y) (R:Dat.Vs w S (ZP ⟨nArchived,ZcO a,1,H,[]⟩) XA):Dat.Va w S ((ZS a K I H Z).map ZP) (v0++(X++(Y++XA))):=by
 simp only [ZS,qL,Qn,Dat.Va];exact⟨v0,_,rfl,O,X,_,rfl,N,Y,_,rfl,M,XA,[],yb,R,rfl⟩
theorem SchI.set {w wr:World} {g E n k:Nat} {v id:Int} {K M N R O H:Bool} {L I:List Pred} {x:Value} (h:SchI w wr g E n v id K M N L) (aa:∀ vs,Dat.Va wr (SD w wr g E) ((ZS id (rf0 K 1 0) (rf0 M 0 0) (rf0 N 0 1) L).map ZP) vs->Dat.Va wr (SD w wr g E) ((ZS id (rf0 R 1 0) (rf0 O 0 0) (rf0 H 0 1) I).map ZP) (vs.set k x)) :
 SchI w (wr.setCell ⟨E,k,none⟩ x) g E n v id R O H I:=by
 obtain⟨vs,ab,Z⟩:=h.tb;have W:=h.lo;have U:=h.gl;have F:∀ b,b≠E->(wr.setCell ⟨E,k,none⟩ x).heap[b]?=wr.heap[b]?:=fun b z=>qc wr ⟨E,k,none⟩ x b z;refine⟨⟨vs.set k x,Zc ab,Dat.Va.more (fun b z=>⟨z.1,by have:=z.2.1;simpa using this,z.2.2⟩) _ _ (Dat.Va.keep (fun b z=>F b z.2.2.1) _ _ (aa vs Z))⟩,(F _ ya).trans h.sb,(F _ ya).trans h.rb,h.case.keep (fun b z=>F b ya),?_,W,U⟩;exact Zg h.gr ya
theorem SchI.ref1 {w wr:World} {g z n c:Nat} {v id:Int} {K L:Bool} {E:List Pred} {A:Option Addr} (h:SchI w wr g z n v id false K L E) (aa:1<=c) (R:RfrS wr (SD w wr g z) A [⟨[1],0⟩]):SchI w (wr.setCell ⟨z,8,none⟩ (.slice A 1 c)) g z n v id true K L E :=
 h.set (fun vs N=>by
  obtain⟨v0,I,H,F,rfl,M,ab,l2,ac,W,U,O,Z⟩:=ZdY N;have e:(v0++(I++(H++F))).set 8 (.slice A 1 c)=v0++(I.set 3 (.slice A 1 c)++(H++F)):=(by rw [List.set_append,qo ya,List.set_append,qr ya,M]);rw [e];exact Zfp W (ZgY (R':=[⟨[1],0⟩]) U aa R) O Z)
theorem SchI.chk1 {w wr:World} {g z n c:Nat} {v id:Int} {E K L:Bool} {N:List Pred} {p:Pred} {A:Option Addr} (h:SchI w wr g z n v id E K L N) (ab:1<=c) (U:PredS wr (SD w wr g z) A [p]):SchI w (wr.setCell ⟨z,9,none⟩ (.slice A 1 c)) g z n v id E K L [p] :=
 h.set (fun vs O=>by
  obtain⟨v0,I,H,F,rfl,M,ac,l2,ae,Z,W,R,aa⟩:=ZdY O;have e:(v0++(I++(H++F))).set 9 (.slice A 1 c)=v0++(I.set 4 (.slice A 1 c)++(H++F)):=(by rw [List.set_append,qo ya,List.set_append,qr ya,M]);rw [e];exact Zfp Z (tab_chks (ck':=[p]) W ab U) R aa)
theorem SchI.ref2 {w wr:World} {g z n c:Nat} {v id:Int} {E L:Bool} {F:List Pred} {A:Option Addr} (h:SchI w wr g z n v id E false L F) (ab:1<=c) (U:RfrS wr (SD w wr g z) A [⟨[0],0⟩]):SchI w (wr.setCell ⟨z,13,none⟩ (.slice A 1 c)) g z n v id E true L F :=
 h.set (fun vs N=>by
  obtain⟨v0,K,I,H,rfl,M,R,l2,ac,Z,W,O,aa⟩:=ZdY N;have e:(v0++(K++(I++H))).set 13 (.slice A 1 c)=v0++(K++(I.set 3 (.slice A 1 c)++H)):=(by rw [List.set_append,qo ya,List.set_append,qo ya,List.set_append,qr ya,M,R]);rw [e];exact Zfp Z W (ZgY (R':=[⟨[0],0⟩]) O ab U) aa)
theorem SchI.ref3 {w wr:World} {g z n c:Nat} {v id:Int} {E L:Bool} {F:List Pred} {A:Option Addr} (h:SchI w wr g z n v id E L false F) (ab:1<=c) (U:RfrS wr (SD w wr g z) A [⟨[0],1⟩]):SchI w (wr.setCell ⟨z,18,none⟩ (.slice A 1 c)) g z n v id E L true F :=
 h.set (fun vs N=>by
  obtain⟨v0,K,I,H,rfl,M,R,l2,ac,Z,W,O,aa⟩:=ZdY N;have e:(v0++(K++(I++H))).set 18 (.slice A 1 c)=v0++(K++(I++H.set 3 (.slice A 1 c))):=(by rw [List.set_append,qo ya,List.set_append,qo ya,List.set_append,qo ya,M,R,l2]);rw [e];exact Zfp Z W O (ZgY (R':=[⟨[0],1⟩]) aa ab U))
theorem Ziu {wr:World} (K:w.heap.size<wr) (I:k+1<wr) (L:n<w) :
 RfrS ((wr.alloc (.cells #[.int .i64 a] 3)).alloc (.cells #[.slice (some ⟨wr,0,none⟩) 1 1,.int .i64 t] 106)) (SD w ((wr.alloc (.cells #[.int .i64 a] 3)).alloc (.cells #[.slice (some ⟨wr,0,none⟩) 1 1,.int .i64 t] 106)) n k) (some ⟨wr+1,0,none⟩) [⟨[a],t⟩]:=by
 have F:=(qd (wr.alloc (.cells #[.int .i64 a] 3)) (.cells #[.slice (some ⟨wr,0,none⟩) 1 1,.int .i64 t] 106) wr.heap.size yb).trans (qb wr (.cells #[.int .i64 a] 3));have E:=qb (wr.alloc (.cells #[.int .i64 a] 3)) (.cells #[.slice (some ⟨wr,0,none⟩) 1 1,.int .i64 t] 106);rw [Qt] at E
 have H:IntS ((wr.alloc (.cells #[.int .i64 a] 3)).alloc (.cells #[.slice (some ⟨wr,0,none⟩) 1 1,.int .i64 t] 106)) (SD w ((wr.alloc (.cells #[.int .i64 a] 3)).alloc (.cells #[.slice (some ⟨wr,0,none⟩) 1 1,.int .i64 t] 106)) n k) (some ⟨wr,0,none⟩) [a] :=
  Qb (by rw [Ze (n:=8) (fun _=>rfl)];simp) (Zw (show Dat.Vs _ _ (ZaT a) [.int .i64 a] by simp [ZaT,Dat.Vs])) (fun _=>⟨wr.heap.size,0,rfl,⟨ya,yd,ya,ya,ya⟩,Za F⟩)
 refine Qb (by rw [Ze (n:=32) (fun _=>rfl)];simp) (Zw (X:=[.slice (some ⟨wr,0,none⟩) 1 1,.int .i64 t]) ?_) (fun _=>⟨wr.heap.size+1,0,rfl,⟨ya,yb,ya,ya,ya⟩,Za E⟩);simp only [ZbJ,Dat.Vs,Dat.Va,ZC];exact⟨[.slice (some ⟨wr,0,none⟩) 1 1],_,rfl,⟨_,1,rfl,yb,H⟩,[.int .i64 t],[],rfl,⟨rfl,trivial⟩,rfl⟩
theorem SchI.tabS {w wr:World} {g z n:Nat} {v id:Int} {E H K:Bool} {F:List Pred} (h:SchI w wr g z n v id E H K F) (U:n<=4):TabS wr (fun b=>w<b/\b<wr/\b≠z+1) (some ⟨z,0,none⟩) ((ZS id (rf0 E 1 0) (rf0 H 0 0) (rf0 K 0 1) F).take n):=by
 obtain⟨vs,L,N⟩:=h.tb;have R:=(ZbQ (n:=5) ZbI N n U).1;have M:=h.lo;refine Qb (by rw [Ze (n:=96) (fun _=>rfl),qG];have:(ZS id (rf0 E 1 0) (rf0 H 0 0) (rf0 K 0 1) F).length=4:=rfl;omega) (Dat.Va.more (fun b I=>⟨I.1,I.2.1,I.2.2.2.1⟩) _ _ R) (fun _=>⟨z,0,rfl,⟨M,Zb L,ya⟩,fun j u O=>?_⟩);have:=Za L j u (by simpa using getElem?_of_take O);exact this
theorem schI_start (af:w'.heap.size=w.heap.size+1) (ac:n<w) (M:(Zku a t k w').foldl World.alloc w'=v) (I:CaseOk w' n) (U:w.grownBy w' (some n)) (aa:w'.heap[w.heap.size]?=some (.cells #[.int .i64 0,.slice none 0 0] 25 (0,0))) :
 SchI w v n (w'+13) k a t false false false []/\v.heap.size=w'.heap.size+15:=by
 obtain⟨L,N⟩:=ZcZ (Zku a t k w') w';have H:∀ E (H:E<15),v.heap[w'.heap.size+E]?=(Zku a t k w')[E]?:=(fun E H=>by rw [<-M];exact Zgm _ _ _ H);rw [M] at L N;have R:v.heap.size=w'.heap.size+15:=N;have K:∀ E,E<13->SD w v n (w'+13) (w'.heap.size+E):=fun E h=>⟨ya,ya,ya,ya,ya⟩;have n1:∀ l:List Col,(∀ c ∈ l,c.name.size<=100)->∀ c ∈ l,c.name.size<=9223372036854775807:=(fun l h c I=>yl (h c I));have O:ColS v (SD w v n (w'+13)) (some ⟨w'+2,0,none⟩) ZfR:=Zdg (l:=ZfR) (H 2 ya) (K 2 ya) (n1 _ yf) yf;have ab:ColS v (SD w v n (w'+13)) (some ⟨w'+7,0,none⟩) (ZcP t):=Zdg (l:=ZcP t) (H 7 ya) (K 7 ya) (n1 _ (by intro c I;simp only [ZcP,Qs,qX,or_false] at I;rcases I with rfl | rfl | rfl | rfl<;>first | (show nId.size<=100;decide) | (show nProject.size<=100;decide) | (show nTitle.size<=100;decide) | (show nDone.size<=100;decide))) (by show 4<=100;omega);have W:ColS v (SD w v n (w'+13)) (some ⟨w'+10,0,none⟩) Zds:=Zdg (l:=Zds) (H 10 ya) (K 10 ya) (n1 _ yf) yf;have Z:ColS v (SD w v n (w'+13)) (some ⟨w'+12,0,none⟩) (ZcO t):=Zdg (l:=ZcO t) (H 12 ya) (K 12 ya) (n1 _ (by intro c I;simp only [ZcO,Qs,qX,or_false] at I;rcases I with rfl;show nTask.size<=100;decide)) (by show 1<=100;omega);refine⟨⟨⟨_,H 13 ya,?_⟩,H 14 ya,?_,?_,?_,ya,ac⟩,R⟩
 .show Dat.Va v (SD w v n (w'+13)) _ ([.string nProjects,.slice (some ⟨w'+2,0,none⟩) 2 2,.int .i64 1,.slice none 0 0,.slice none 0 0]++([.string nTasks,.slice (some ⟨w'+7,0,none⟩) 4 4,.int .i64 1,.slice none 0 0,.slice none 0 0]++([.string nMembers,.slice (some ⟨w'+10,0,none⟩) 2 2,.int .i64 2,.slice none 0 0,.slice none 0 0]++([.string nArchived,.slice (some ⟨w'+12,0,none⟩) 1 1,.int .i64 1,.slice none 0 0,.slice none 0 0]++[]))));simp only [ZS,qL,Qn,Dat.Va]
  exact⟨_,_,rfl,Zdc (N:=⟨nProjects,ZfR,1,[],[]⟩) (by show nProjects.size<=_;decide) nR O nR Qd nR Qd,
   _,_,rfl,Zdc (N:=⟨nTasks,ZcP t,1,[],[]⟩) (by show nTasks.size<=_;decide) nR ab nR Qd nR Qd,
   _,_,rfl,Zdc (N:=⟨nMembers,Zds,2,[],[]⟩) (by show nMembers.size<=_;decide) nR W nR Qd nR Qd,
   _,_,rfl,Zdc (N:=⟨nArchived,ZcO t,1,[],[]⟩) (by show nArchived.size<=_;decide) nR Z nR Qd nR Qd,rfl⟩
 .exact(L.block _ ya).trans aa
 .exact I.keep (fun b ae=>L.block b ya)
 exact U.trans (qW (X:=fun b=>b=n) L).grown
theorem SchI.cell {w wr:World} {g z n k:Nat} {v id:Int} {F K L:Bool} {H:List Pred} (h:SchI w wr g z n v id F K L H) (M:k<20):(∃ x,yr wr z k x)/\wr.frozen? ⟨z,k,none⟩=false:=by
 obtain⟨vs,E,I⟩:=h.tb;have:vs.length=20:=(by rw [Dat.Va.len _ _ I,ZcE (n:=5) ZbI];rfl);refine⟨⟨vs[k],?_⟩,by simp [World.frozen?,E]⟩;have:=Za E k vs[k] yb;rw [qx] at this;exact this
theorem ZhW (h:IntS w S (some ⟨n,k,none⟩) l) (z:m<l):S n/\w.cell? ⟨n,k+m,none⟩=some (.int .i64 (l.getD m 0)):=by
 obtain⟨b',o',e,H,F⟩:=h.at_ z;injection e with e;injection e with E I;subst E I;exact⟨H,F⟩
theorem Zew:∀ {l:List Int} {k:Nat},ZG l=true->k<l->ZX (l.getD k 0)=true
 | [],k,_,z=>by simp at z
 | x :: l,k,h,z=>by
  simp only [ZG,qE] at h;cases k with
  | zero=>exact h.1
  | succ k=>simpa using Zew (l:=l) (k:=k) h.2 (by simpa using z)
def ND:Nat->Nat
 | 0=>1
 | d+1=>1+3*ND d
def Zei (cols params:List Int) (d:Nat) (w:World) (g:Nat) (e:Ending) (w':World):Prop :=
 ∃ (op cmp:Int) (l r:Opd) (args:List Pred) (A:Option Addr) (c:Nat),e=.returned (pAgg op cmp l r A args c)/\GenP cols params (ND d) (d+1) (.mk op cmp l r args)/\PredS w' (fun b=>w<b/\b<w') A args/\args.length<=c/\l.value.t.size<=64/\r.value.t.size<=64/\CaseOk w' g/\w.grownBy w' (some g)
abbrev zP:Obj:=.cells #[.int .i64 0,.int .i64 0,.int .i64 0,.int .i64 0,.int .i64 0,.int .i64 0,.string ⟨#[]⟩,.int .i64 0,.int .i64 0,.int .i64 0,.int .i64 0,.string ⟨#[]⟩,.slice none 0 0] 112 (0,0)
theorem Ziw {N I W L R K O E H F a0 a1 a2 a3 a4 a5 a6 a7 a8 a9 a10 a11 a12:Value} (h:w.heap[n]?=some (.cells #[x,xA,xB,N,I,W,L,R,K,O,E,H,F] g (0,0))):(((((((((((((w.setCell ⟨n,0,none⟩ a0).setCell ⟨n,1,none⟩ a1).setCell ⟨n,2,none⟩ a2).setCell ⟨n,3,none⟩ a3).setCell ⟨n,4,none⟩ a4).setCell ⟨n,5,none⟩ a5).setCell ⟨n,6,none⟩ a6).setCell ⟨n,7,none⟩ a7).setCell ⟨n,8,none⟩ a8).setCell ⟨n,9,none⟩ a9).setCell ⟨n,10,none⟩ a10).setCell ⟨n,11,none⟩ a11).setCell ⟨n,12,none⟩ a12).heap[n]?=some (.cells #[a0,a1,a2,a3,a4,a5,a6,a7,a8,a9,a10,a11,a12] g (0,0)):=by
 have aa:w.heap[n]?=some (.cells [x,xA,xB,N,I,W,L,R,K,O,E,H,F].toArray g (0,0)):=h;have Z:=Zc (k:=12) (v:=a12) (Zc (k:=11) (v:=a11) (Zc (k:=10) (v:=a10) (Zc (k:=9) (v:=a9) (Zc (k:=8) (v:=a8) (Zc (k:=7) (v:=a7) (Zc (k:=6) (v:=a6) (Zc (k:=5) (v:=a5) (Zc (k:=4) (v:=a4) (Zc (k:=3) (v:=a3) (Zc (k:=2) (v:=a2) (Zc (k:=1) (v:=a1) (Zc (k:=0) (v:=a0) (aa)))))))))))));simpa using Z
theorem put5r {K F M H W R U N O E a7 a8 a9 a10 a11:Value} (h:w.heap[n]?=some (.cells #[x,xA,xB,K,F,M,H,W,R,U,N,O,E] g (0,0))):(((((w.setCell ⟨n,7,none⟩ a7).setCell ⟨n,8,none⟩ a8).setCell ⟨n,9,none⟩ a9).setCell ⟨n,10,none⟩ a10).setCell ⟨n,11,none⟩ a11).heap[n]?=some (.cells #[x,xA,xB,K,F,M,H,a7,a8,a9,a10,a11,E] g (0,0)):=by
 have aa:w.heap[n]?=some (.cells [x,xA,xB,K,F,M,H,W,R,U,N,O,E].toArray g (0,0)):=h;have Z:=Zc (k:=11) (v:=a11) (Zc (k:=10) (v:=a10) (Zc (k:=9) (v:=a9) (Zc (k:=8) (v:=a8) (Zc (k:=7) (v:=a7) aa))));simpa using Z
theorem put5l {R N W O M I L E H F a2 a3 a4 a5 a6:Value} (h:w.heap[n]?=some (.cells #[x,xA,xB,R,N,W,O,M,I,L,E,H,F] g (0,0))):(((((w.setCell ⟨n,2,none⟩ a2).setCell ⟨n,3,none⟩ a3).setCell ⟨n,4,none⟩ a4).setCell ⟨n,5,none⟩ a5).setCell ⟨n,6,none⟩ a6).heap[n]?=some (.cells #[x,xA,a2,a3,a4,a5,a6,M,I,L,E,H,F] g (0,0)):=by
 have aa:w.heap[n]?=some (.cells [x,xA,xB,R,N,W,O,M,I,L,E,H,F].toArray g (0,0)):=h;have Z:=Zc (k:=6) (v:=a6) (Zc (k:=5) (v:=a5) (Zc (k:=4) (v:=a4) (Zc (k:=3) (v:=a3) (Zc (k:=2) (v:=a2) aa))));simpa using Z
theorem ZY {N I W L R K O E H F:Value} (h:w.heap[n]?=some (.cells #[x,xA,xB,N,I,W,L,R,K,O,E,H,F] g (0,0))):w.cell? ⟨n,0,none⟩=some x/\w.frozen? ⟨n,0,none⟩=false/\w.cell? ⟨n,1,none⟩=some xA/\w.frozen? ⟨n,1,none⟩=false/\w.cell? ⟨n,2,none⟩=some xB/\w.frozen? ⟨n,2,none⟩=false/\w.cell? ⟨n,3,none⟩=some N/\w.frozen? ⟨n,3,none⟩=false/\w.cell? ⟨n,4,none⟩=some I/\w.frozen? ⟨n,4,none⟩=false/\w.cell? ⟨n,5,none⟩=some W/\w.frozen? ⟨n,5,none⟩=false/\w.cell? ⟨n,6,none⟩=some L/\w.frozen? ⟨n,6,none⟩=false/\w.cell? ⟨n,7,none⟩=some R/\w.frozen? ⟨n,7,none⟩=false/\w.cell? ⟨n,8,none⟩=some K/\w.frozen? ⟨n,8,none⟩=false/\w.cell? ⟨n,9,none⟩=some O/\w.frozen? ⟨n,9,none⟩=false/\w.cell? ⟨n,10,none⟩=some E/\w.frozen? ⟨n,10,none⟩=false/\w.cell? ⟨n,11,none⟩=some H/\w.frozen? ⟨n,11,none⟩=false/\w.cell? ⟨n,12,none⟩=some F/\w.frozen? ⟨n,12,none⟩=false:=by
 refine⟨?_,?_,?_,?_,?_,?_,?_,?_,?_,?_,?_,?_,?_,?_,?_,?_,?_,?_,?_,?_,?_,?_,?_,?_,?_,?_⟩<;>first | exact Za h _ _ rfl | simp [World.frozen?,World.cell?,h]
theorem ZaD {o:Option Obj} (E:k≠n) (h:w.heap[k]?=o):(w.setCell ⟨n,m,none⟩ x).heap[k]?=o:=(qc w ⟨n,m,none⟩ x k E).trans h
structure CmpI (w W:World) (g PB:Nat) (c:Int) (cols params:List Int) (kd:Int) (l r:Opd):Prop where
 pb:W.heap[PB]?=some (.cells #[.int .i64 3,.int .i64 c,.int .i64 l.kind,.int .i64 l.index,.int .i64 l.value.k,.int .i64 l.value.i,.string l.value.t,.int .i64 r.kind,.int .i64 r.index,.int .i64 r.value.k,.int .i64 r.value.i,.string r.value.t,.slice none 0 0] 112 (0,0))
 rb:W.heap[w.heap.size]?=some zP
 case:CaseOk W g
 gr:w.grownBy W (some g)
 lo:Zhs cols params kd l
 ro:Zhs cols params kd r
section
variable {w W W':World} {g PB:Nat} {c:Int} {cols params:List Int} {kd:Int} {l r:Opd}
theorem CmpI.keep (h:CmpI w W g PB c cols params kd l r) (H:w<=PB) (F:g<PB) (I:w.heap.size≠PB) (z:W.grownBy W' (some g)) (E:CaseOk W' g) (K:g<w):CmpI w W' g PB c cols params kd l r :=
 ⟨(z.block _ (Zb h.pb) yj).trans h.pb,(z.block _ (Zb h.rb) yj).trans h.rb,E,h.gr.trans z,h.lo,h.ro⟩
theorem CmpI.right {H L M I:Int} {K:ByteArray} (h:CmpI w W g PB c cols params kd l r) (E:w<=PB) (z:g<PB) (F:w.heap.size≠PB) (N:Zhs cols params kd ⟨H,L,⟨M,I,K⟩⟩) :
 CmpI w (((((W.setCell ⟨PB,7,none⟩ (.int .i64 H)).setCell ⟨PB,8,none⟩ (.int .i64 L)).setCell ⟨PB,9,none⟩ (.int .i64 M)).setCell ⟨PB,10,none⟩ (.int .i64 I)).setCell ⟨PB,11,none⟩ (.string K)) g PB c cols params kd l ⟨H,L,⟨M,I,K⟩⟩ :=
 ⟨put5r h.pb,ZaD F (ZaD F (ZaD F (ZaD F (ZaD F h.rb)))),Zf (Zf (Zf (Zf (Zf h.case z) z) z) z) z,Zg (Zg (Zg (Zg (Zg h.gr E) E) E) E) E,h.lo,N⟩
theorem CmpI.swap (h:CmpI w W g PB c cols params kd l r) (z:w<=PB) (E:g<PB) (F:w.heap.size≠PB) :
 CmpI w ((((((((((W.setCell ⟨PB,2,none⟩ (.int .i64 r.kind)).setCell ⟨PB,3,none⟩ (.int .i64 r.index)).setCell ⟨PB,4,none⟩ (.int .i64 r.value.k)).setCell ⟨PB,5,none⟩ (.int .i64 r.value.i)).setCell ⟨PB,6,none⟩ (.string r.value.t)).setCell ⟨PB,7,none⟩ (.int .i64 l.kind)).setCell ⟨PB,8,none⟩ (.int .i64 l.index)).setCell ⟨PB,9,none⟩ (.int .i64 l.value.k)).setCell ⟨PB,10,none⟩ (.int .i64 l.value.i)).setCell ⟨PB,11,none⟩ (.string l.value.t)) g PB c cols params kd r l :=
 ⟨put5r (put5l h.pb),ZaD F (ZaD F (ZaD F (ZaD F (ZaD F (ZaD F (ZaD F (ZaD F (ZaD F (ZaD F h.rb))))))))),Zf (Zf (Zf (Zf (Zf (Zf (Zf (Zf (Zf (Zf h.case E) E) E) E) E) E) E) E) E) E,Zg (Zg (Zg (Zg (Zg (Zg (Zg (Zg (Zg (Zg h.gr z) z) z) z) z) z) z) z) z) z,h.ro,h.lo⟩
end
theorem ZjJ:1<=ND n:=by cases n<;>simp [ND]
theorem tree_zero (g:Nat) (ch B:Option Addr) (bz cb:Nat) (cols params:List Int) (cc:cols.length<=100000) (b9:params.length<=100000) (cq:0<cols.length) (aZ:ZG cols=true):∀ (S:Nat->Prop) (w:World),IntS w S ch cols->IntS w S B params->(∀ b,S b->b<w/\b≠g)->CaseOk w g ->
 Calls prog 94 #[.pointer (some ⟨g,0,none⟩),.slice ch cols bz,.slice B params cb,.int .i64 0] w (Zei cols params 0 w g):=by
 replace aZ:=hI aZ;intro S w ao aO I bo;obtain⟨aJ,b5,rfl,cC,-⟩:=ao.at_ cq;have z:=bo.lt;have cp:∀ b,S b->b<w:=fun b O=>(I b O).1;replace ao:=hI ao;replace aO:=hI aO;replace I:=hI I;have b2:=hI (bo.keep (w':=w.alloc zP) (fun b O=>qd _ _ _ ya));have:(w.alloc zP).heap.size=w.heap.size+1:=yb;have cf:=hI (qY w zP (some g));have b0:=hI (qb w zP);have:aJ<w:=cp aJ cC;clear bo;go_enter func94,ntmps94
 go_wp2_with fail
 refine(Zal ya b2).mono ?_;rintro e cv ⟨r,rfl,c8,ci,-,aX,bw,c4⟩;have de:=ci ya;replace aX:=hI aX;have ca:=hI (cf.trans bw);have ck:=hI ((bw.block w ya yj).trans b0);have cz:w.heap.size<cv:=ya;clear bw ci b2 cf b0;go_upto_region 2 with fail
 go_cut [9,16] from 14 to 22 (fun cr bN L=>∃ c1:Bool,cr=.int .i64 r/\bN=.bool c1/\CaseOk L g/\w.grownBy L (some g)/\L.heap[w.heap.size]?=some zP/\w.heap.size<L)
 case first =>
  by_cases bF:r=0
  .subst bF
   go_wp2_with fail
   refine(Zap ya ya aX).mono ?_;rintro e w2 ⟨cy,rfl,aV,K,aR⟩
   go_wp2
   go_meet;exact⟨cy,rfl,rfl,aV,ca.trans K,(K.block w ya yj).trans ck,ya⟩
  have:(r == 0)=false:=qf.2 bF;clear bF
  go_wp2
  go_meet;exact⟨false,rfl,rfl,aX,ca,ck,cz⟩
 obtain⟨c1,rfl,rfl,aE,E,F,c3⟩:=hcut;obtain⟨w2,rfl⟩:∃ w2:World,w2=wc:=⟨_,rfl⟩;replace aE:=hI aE;replace E:=hI E;replace F:=hI F;cases c1
 .go_upto_region 4 with fail
  go_cut [27] from 28 to 33 (fun bN L=>bN=.bool true/\w2=L)
  case first =>
   by_cases cS:r<6
   .go_wp2
    go_meet;exact⟨rfl,rfl⟩
   go_wp2
   go_meet;exact⟨rfl,rfl⟩
  obtain⟨rfl,rfl⟩:=hcut
  go_wp2_with fail
  refine(Zal ya aE).mono ?_;rintro e cg ⟨j,rfl,cn,ab,-,U,Z,ct⟩;have cK:=ab ya;obtain⟨cj,rfl⟩:=qn cn;have b1:cj<cols:=ya;replace U:=hI U;have F:=hI ((Z.block w ya yj).trans F);have E:=hI (E.trans Z);obtain⟨-,b4⟩:=ZhW (ao.keep ((Zcc E).same I)) b1;have aD:=hI (Zew aZ b1);generalize cols.getD cj 0=aa at b4 aD;have cu:=hI (show aa≠0 by intro e;have:=aD.out;rw [e] at this;cases this);have:w.heap.size<cg:=ya;clear Z ab
  go_wp2_with fail
  refine(Zal ya U).mono ?_;rintro e wc ⟨M,rfl,p0,cm,-,bQ,bm,cL⟩;have di:=cm ya;replace bQ:=hI bQ;have F:=hI ((bm.block w ya yj).trans F);have E:=hI (E.trans bm);clear bm cm b4
  go_wp2_with fail
  refine(Zcx (ao.keep ((Zcc E).same I)) (aO.keep ((Zcc E).same I)) (fun b O=>⟨yl ((I b O).1),(I b O).2⟩) cc b9 aD bQ).mono ?_;rintro e c9 ⟨⟨af,ac,⟨aj,ae,ak⟩⟩,rfl,aI,bc,aW⟩;replace aI:=hI aI;replace bc:=hI bc;have F:=hI ((aW.block w ya yj).trans F);have E:=hI (E.trans aW);have dj:=aW.size;clear aW
  go_wp2_with fail
  refine(Zbx bc).mono ?_;rintro e H ⟨⟨ah,am,an⟩,rfl,ce,N,aN⟩;have cd:=hI (ZiC (l:=cols) (p:=params) aD ce);replace N:=hI N;have F:=hI ((aN.block w ya yj).trans F);have E:=hI (E.trans aN);have cH:=aN.size;have cw:w.heap.size<H:=ya;have aU:g<H:=ya;have aP:w.heap.size<=H:=ya;have aF:w.heap.size≠H.heap.size:=ya;clear aN ce
  go_wp2_with fail
  have aQ:=hI (qb H (.cells #[.int .i64 3,.int .i64 (1+M),.int .i64 af,.int .i64 ac,.int .i64 aj,.int .i64 ae,.string ak,.int .i64 3,.int .i64 0,.int .i64 ah,.int .i64 am,.string an,.slice none 0 0] 112));have N:=hI (N.keep (w':=H.alloc (.cells #[.int .i64 3,.int .i64 (1+M),.int .i64 af,.int .i64 ac,.int .i64 aj,.int .i64 ae,.string ak,.int .i64 3,.int .i64 0,.int .i64 ah,.int .i64 am,.string an,.slice none 0 0] 112)) (fun b O=>qd _ _ _ ya));have F:=hI ((qd H (.cells #[.int .i64 3,.int .i64 (1+M),.int .i64 af,.int .i64 ac,.int .i64 aj,.int .i64 ae,.string ak,.int .i64 3,.int .i64 0,.int .i64 ah,.int .i64 am,.string an,.slice none 0 0] 112) _ cw).trans F);have E:=hI (E.trans (qY H (.cells #[.int .i64 3,.int .i64 (1+M),.int .i64 af,.int .i64 ac,.int .i64 aj,.int .i64 ae,.string ak,.int .i64 3,.int .i64 0,.int .i64 ah,.int .i64 am,.string an,.slice none 0 0] 112) (some g)));refine(Zap ya ya N).mono ?_;rintro e b3 ⟨co,rfl,N,K,aR⟩;have aQ:=hI ((K.block H yb yj).trans aQ);have F:=hI ((K.block w yd yj).trans F);replace N:=hI N;have E:=hI (E.trans K);have:H.heap.size<b3:=(by have:=K.size;simp at this;omega);clear K aR;have ai:=hI (show CmpI w b3 g H (1+M) cols params aa ⟨af,ac,⟨aj,ae,ak⟩⟩ ⟨3,0,⟨ah,am,an⟩⟩ from ⟨aQ,F,N,E,aI,cd⟩);clear aQ F N E aI cd;go_upto_if 58 with fail
  go_cut [11] (fun p L=>∃ (aG aK aM aS:Int) (aH:ByteArray),p=.pointer (some ⟨H,0,none⟩)/\CmpI w L g H (1+M) cols params aa ⟨af,ac,⟨aj,ae,ak⟩⟩ ⟨aG,aK,⟨aM,aS,aH⟩⟩)
  case first =>
   cases co
   .go_wp2
    go_meet;exact⟨3,0,ah,am,an,rfl,ai⟩
   go_wp2_with fail
   refine(Zcx (ao.keep ((Zcc ai.gr).same I)) (aO.keep ((Zcc ai.gr).same I)) (fun b O=>⟨yl ((I b O).1),(I b O).2⟩) cc b9 aD ai.case).mono ?_;rintro e cT ⟨⟨aG,aK,⟨aM,aS,aH⟩⟩,rfl,bK,b6,b7⟩;have b8:=hI (ai.keep aP aU aF b7 b6 z);replace bK:=hI bK;have R:=b8.pb;obtain⟨bI,bO,bt,f1,bZ,bk,bb,f3,bX,bl,bT,bG,bV,bB,bD,ba,be,bM,bH,bC,aY,bP,bn,bi,bh,bg⟩:=ZY R;clear b6 b7 R
   go_wp2
   go_meet;exact⟨aG,aK,aM,aS,aH,rfl,b8.right aP aU aF bK⟩
  obtain⟨aG,aK,aM,aS,aH,rfl,ap⟩:=hcut;replace ap:=hI ap;clear ai
  go_wp2_with fail
  refine(Zap ya ya ap.case).mono ?_;rintro e cN ⟨cA,rfl,aV,K,aR⟩;have aT:=hI (ap.keep aP aU aF K aV z);clear aV K aR ap;go_upto_if 66 with fail
  go_cut [11] (fun p L=>∃ (az aq ax aC:Int) (aB:ByteArray) (aw ay av ar:Int) (aA:ByteArray),p=.pointer (some ⟨H,0,none⟩)/\CmpI w L g H (1+M) cols params aa ⟨az,aq,⟨ax,aC,aB⟩⟩ ⟨aw,ay,⟨av,ar,aA⟩⟩)
  case first =>
   cases cA
   .go_wp2
    go_meet;exact⟨_,_,_,_,_,_,_,_,_,_,rfl,aT⟩
   have R:=aT.pb;obtain⟨bI,bO,bt,f1,bZ,bk,bb,f3,bX,bl,bT,bG,bV,bB,bD,ba,be,bM,bH,bC,aY,bP,bn,bi,bh,bg⟩:=ZY R;clear R
   go_wp2
   go_meet;exact⟨_,_,_,_,_,_,_,_,_,_,rfl,aT.swap aP aU aF⟩
  obtain⟨az,aq,ax,aC,aB,aw,ay,av,ar,aA,rfl,aL⟩:=hcut;have W:=hI aL;have R:=aL.pb;have au:=aL.rb;obtain⟨bI,bO,bt,f1,bZ,bk,bb,f3,bX,bl,bT,bG,bV,bB,bD,ba,be,bM,bH,bC,aY,bP,bn,bi,bh,bg⟩:=ZY R;obtain⟨cJ,c7,cX,db,da,c6,cV,cG,cF,dc,cQ,cY,dd,cR,cP,cO,cW,cM,c5,cD,cE,cZ,dh,df,dg,cI⟩:=ZY au;have:H.heap.size<wc:=Zb R;clear aL aT R au
  go_wp2_with fail
  have bY:=Ziw (a0:=.int .i64 3) (a1:=.int .i64 (1+M)) (a2:=.int .i64 az) (a3:=.int .i64 aq) (a4:=.int .i64 ax) (a5:=.int .i64 aC) (a6:=.string aB) (a7:=.int .i64 aw) (a8:=.int .i64 ay) (a9:=.int .i64 av) (a10:=.int .i64 ar) (a11:=.string aA) (a12:=.slice none 0 0) W.rb;obtain⟨bS,-,bf,-,bR,-,bE,-,bu,-,bU,-,bj,-,br,-,bJ,-,bW,-,bq,-,bL,-,bp,-⟩:=ZY bY;exact qw (v:=.agg #[.int .i64 3,.int .i64 (1+M),.int .i64 az,.int .i64 aq,.int .i64 ax,.int .i64 aC,.string aB,.int .i64 aw,.int .i64 ay,.int .i64 av,.int .i64 ar,.string aA,.slice none 0 0]) (by simp [results,results94,go_sem,bS,bf,bR,bE,bu,bU,bj,br,bJ,bW,bq,bL,bp]) rfl ⟨3,1+M,⟨az,aq,⟨ax,aC,aB⟩⟩,⟨aw,ay,⟨av,ar,aA⟩⟩,[],none,0,rfl,(GenP.cmp ya ya cu W.lo.1 W.ro.1).more ZjJ ya,Qd,qp _,W.lo.2,W.ro.2,Zf (Zf (Zf (Zf (Zf (Zf (Zf (Zf (Zf (Zf (Zf (Zf (Zf (W.case) z) z) z) z) z) z) z) z) z) z) z) z) z,Zg (Zg (Zg (Zg (Zg (Zg (Zg (Zg (Zg (Zg (Zg (Zg (Zg (W.gr) nR) nR) nR) nR) nR) nR) nR) nR) nR) nR) nR) nR) nR⟩
 go_wp2_with fail
 refine(Zal ya aE).mono ?_;rintro e cg ⟨j,rfl,cn,ab,-,U,Z,ct⟩;have cx:=hI (show 1+j=1\/1+j=2 by have:=ab ya;omega);replace U:=hI U;have F:=hI ((Z.block w ya yj).trans F);have E:=hI (E.trans Z);have cU:=ab ya;clear Z ab;have au:=F.out;obtain⟨bI,bO,bt,f1,bZ,bk,bb,f3,bX,bl,bT,bG,bV,bB,bD,ba,be,bM,bH,bC,aY,bP,bn,bi,bh,bg⟩:=ZY au;clear au
 go_wp2_with fail
 have bY:=Ziw (a0:=.int .i64 (1+j)) (a1:=.int .i64 0) (a2:=.int .i64 0) (a3:=.int .i64 0) (a4:=.int .i64 0) (a5:=.int .i64 0) (a6:=.string ⟨#[]⟩) (a7:=.int .i64 0) (a8:=.int .i64 0) (a9:=.int .i64 0) (a10:=.int .i64 0) (a11:=.string ⟨#[]⟩) (a12:=.slice none 0 0) F;obtain⟨bS,-,bf,-,bR,-,bE,-,bu,-,bU,-,bj,-,br,-,bJ,-,bW,-,bq,-,bL,-,bp,-⟩:=ZY bY;exact qw (v:=.agg #[.int .i64 (1+j),.int .i64 0,.int .i64 0,.int .i64 0,.int .i64 0,.int .i64 0,.string ⟨#[]⟩,.int .i64 0,.int .i64 0,.int .i64 0,.int .i64 0,.string ⟨#[]⟩,.slice none 0 0]) (by simp [results,results94,go_sem,bS,bf,bR,bE,bu,bU,bj,br,bJ,bW,bq,bL,bp]) rfl ⟨1+j,0,⟨0,0,v0⟩,⟨0,0,v0⟩,[],none,0,rfl,(GenP.leaf cx).more ZjJ ya,Qd,qp _,yf,yf,Zf (Zf (Zf (Zf (Zf (Zf (Zf (Zf (Zf (Zf (Zf (Zf (Zf (U) z) z) z) z) z) z) z) z) z) z) z) z) z,Zg (Zg (Zg (Zg (Zg (Zg (Zg (Zg (Zg (Zg (Zg (Zg (Zg (E) nR) nR) nR) nR) nR) nR) nR) nR) nR) nR) nR) nR) nR⟩
end Go.Proofs.YtjadnfodboepeaaGreat
