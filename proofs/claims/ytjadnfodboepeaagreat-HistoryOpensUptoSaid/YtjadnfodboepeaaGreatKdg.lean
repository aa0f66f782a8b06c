import Derived.Test.YtjadnfodboepeaaGreatKhy
import Derived.Test.YtjadnfodboepeaaGreatKlh
set_option linter.all false
set_option maxRecDepth 100000
set_option maxHeartbeats 8000000
namespace Go.Proofs.YtjadnfodboepeaaGreat
open Tryz
open Go Go.RowKit
variable {w:World} {n k m i j:Nat} {A:Option Addr} {S:Nat->Prop} {a:Int} {l p:List Int} {L:List Chg} {H:Ent}
structure RdM (w:World) (r:Nat) (A:Option Addr) (c:Nat) (bs:List Int) (p:Nat) (S:Nat->Prop):Prop where
 blk:w.heap[r]?=some (.cells #[.slice A bs c,.int .i64 (p:Int),.bool false] 253 (0,0))
 bt:BtS w S A bs
 sb:∀ b,S b->b<w/\b≠r
 cap:bs.length<=c
section
variable {w w':World} {r c p:Nat} {A:Option Addr} {bs:List Int} {S:Nat->Prop}
theorem RdM.keep (h:RdM w r A c bs p S) (F:w.heap.size<=w') (E:∀ b,b=r\/S b->w'.heap[b]?=w.heap[b]?):RdM w' r A c bs p S :=
 ⟨(E r (.inl rfl)).trans h.blk,qU h.bt (fun b z=>E b (.inr z)),fun b z=>⟨qC (h.sb b z).1 F,(h.sb b z).2⟩,h.cap⟩
theorem RdM.lt (h:RdM w r A c bs p S):r<w:=Zb h.blk
theorem RdM.below (h:RdM w r A c bs p S) (E:Below w w w'):RdM w' r A c bs p S:=h.keep E.size (fun b z=>E.block b (by
 rcases z with rfl | z
 .exact h.lt
 exact(h.sb b z).1))
theorem RdM.c0 (h:RdM w r A c bs p S):yr w r 0 (.slice A bs c):=Za h.blk 0 _ rfl
theorem RdM.c1 (h:RdM w r A c bs p S):yr w r 1 (.int .i64 (p:Int)):=Za h.blk 1 _ rfl
theorem RdM.c2 (h:RdM w r A c bs p S):yr w r 2 (.bool false):=Za h.blk 2 _ rfl
theorem RdM.f1 (h:RdM w r A c bs p S):w.frozen? ⟨r,1,none⟩=false:=Zd h.blk (k:=1)
theorem RdM.go (h:RdM w r A c bs p S) (q:Nat):RdM (w.setCell ⟨r,1,none⟩ (.int .i64 (q:Int))) r A c bs q S/\Fr (fun b=>b=r) w (w.setCell ⟨r,1,none⟩ (.int .i64 (q:Int))):=by
 have E:Fr (fun b=>b=r) w (w.setCell ⟨r,1,none⟩ (.int .i64 (q:Int))):=(Qa _ w).setCell _ (fun _=>rfl);exact⟨⟨Zc (vs:=[.slice A bs c,.int .i64 (p:Int),.bool false]) (k:=1) h.blk,qU h.bt (fun b z=>E.block b (h.sb b z).1 (h.sb b z).2),fun b z=>⟨qC (h.sb b z).1 E.size,(h.sb b z).2⟩,h.cap⟩,E⟩
end
def RdP (r:Nat) (A:Option Addr) (c:Nat) (bs:List Int) (S:Nat->Prop) (p:Nat) (w w':World):Prop:=RdM w' r A c bs p S/\Fr (fun b=>b=r) w w'
theorem Zaq (rest:List Int) (h:RdM w n A k l m S) (ak:i<=j) (am:j<=1000000000000) (U:l.drop m=lebF i++rest) :
 Calls prog 168 #[.pointer (some ⟨n,0,none⟩),.int .i64 (j:Int)] w fun e w'=>e=.returned (.int .i64 (i:Int))/\RdP n A k l S (m+(lebF i).length) w w':=by
 have c2:=h.c2;obtain⟨af,L,z,-⟩:=dr w;have z:=z.out;have F:=hI (h.below z);replace z:=hI z;replace L:=hI L;obtain⟨q,R⟩:=yp (m+(lebF i).length);have K:=hI (Uint_any k m i rest F.bt (fun b ac=>(F.sb b ac).1) ya U);rw [R] at K ⊢;have:IntKind.u64.wrap (j:Int)=(j:Int):=(by rw [IntKind.wrap_u64];omega);have:IntKind.i64.wrap (i:Int)=(i:Int):=(by rw [IntKind.wrap_i64];omega);clear h R U;go_enter func168,ntmps168
 go_wp2
 refine uS (fun w'=>w'.cell? ⟨n,0,none⟩=some (.slice A l k)/\w'.cell? ⟨n,1,none⟩=some (.int .i64 (m:Int))) 16 16 fun Q' O M=>?_;rw [L];have aa:=F.c0;have aj:=F.c1;refine uR [0,8] M ⟨aa,aj⟩ ?_;refine uQ 8 fun ab W=>?_;go_simp;refine K.mono ?_;rintro e w2 ⟨rfl,I⟩;have H:=hI (show RdM w2 n A k l m S from F.below I);have ai:=hI ((qW (X:=fun b=>b=n) z).trans (qW (X:=fun b=>b=n) I) (fun _ _ e=>e));have N:=H.c0;have Z:=H.c1;clear I K;refine W _ _ (fun _=>⟨N,Z⟩) ?_;clear W ab
 try simp only [Act.put,psA,psB,psC]
 refine uR [9,7] M ⟨N,Z⟩ ?_;refine uE O ?_;clear O M Q';have f1:=H.f1
 go_wp2
 go_ret;obtain⟨ah,ae⟩:=H.go q;exact⟨rfl,ah,ai.trans ae (fun _ _ e=>e)⟩
theorem rtext_any (rest:List Int) (h:RdM w n A k l m S) (aA:p.length<=i) (aD:i<=1000000) (ab:Zbn p) (am:l.drop m=lebF p.length++(p++rest)) :
 Calls prog 220 #[.pointer (some ⟨n,0,none⟩),.int .i64 (i:Int)] w fun e w'=>(∃ g cap,e=.returned (.slice (some ⟨g,0,none⟩) p.length cap)/\w<=g/\g<w'/\p.length<=cap/\BtS w' (fun b=>b=g) (some ⟨g,0,none⟩) p)/\RdP n A k l S (m+(lebF p).length+p.length) w w':=by
 have c2:=h.c2;obtain⟨aw,ac,E,-⟩:=dr w;have E:=E.out;have F:=hI (h.below E);replace E:=hI E;replace ac:=hI ac;obtain⟨q,U⟩:=yp (m+(lebF p).length+p.length);have K:(baOf p).size=p.length:=Zcq _;have H:=ZjG k m i (baOf p) rest F.bt (fun b au=>(F.sb b au).1) (by rw [K];exact aA) ya (by rw [Zdh ab,K];exact am) F.cap;rw [K,U] at H;replace H:=hI H;have av:=hI (Zdh ab);rw [U];clear h U am ab;go_enter func220,ntmps220
 go_wp2
 refine uS (fun w'=>w'.cell? ⟨n,0,none⟩=some (.slice A l k)/\w'.cell? ⟨n,1,none⟩=some (.int .i64 (m:Int))) 17 17 fun Q' ah ae=>?_;rw [ac];have aq:=F.c0;have aB:=F.c1;refine uR [0,9] ae ⟨aq,aB⟩ ?_;refine uQ 9 fun ar an=>?_;go_simp;refine H.mono ?_;rintro e w2 ⟨rfl,aa⟩;have N:=hI (show RdM w2 n A k l m S from F.below aa);have ay:=hI ((qW (X:=fun b=>b=n) E).trans (qW (X:=fun b=>b=n) aa) (fun _ _ e=>e));have af:=N.c0;have ao:=N.c1;clear aa H;refine an _ _ (fun _=>⟨af,ao⟩) ?_;clear an ar
 try simp only [Act.put,psA,psB,psC]
 refine uR [10,7] ae ⟨af,ao⟩ ?_;refine uE ah ?_;clear ah ae Q';have f1:=N.f1;obtain⟨O,ai⟩:=N.go q;replace O:=hI O;have W:=hI (ay.trans ai (fun _ _ e=>e));obtain⟨z,M⟩:=yp (w2.setCell ⟨n,1,none⟩ (.int .i64 (q:Int)));rw [M] at O W;have Z:(convert 9 22 (.string (baOf p))).run prog z=.ok (.slice (some ⟨z,0,none⟩) (baOf p).size (grownCap z (baOf p).size 0 5)) (Lib.bytesWorld z 5 (baOf p)):=Lib.run_convert_string_bytes z 9 22 5 (u:=.string) (baOf p) ye ye ye;obtain⟨L,I,aj⟩:=Zef z (baOf p) (by rw [K];omega);rw [av] at L;have ap:=grownCap_ge z p 0 5;rw [K] at Z;obtain⟨aC,ak⟩:=yp (Lib.bytesWorld z 5 (baOf p));rw [ak] at Z L I aj;replace L:=hI L;replace I:=hI I;generalize grownCap z p.length 0 5=ax at Z ap;replace M:=hI M;clear ak ai;go_upto_region 8 with fail
 rw [M]
 go_wp2
 go_ret;have az:=W.size;exact⟨⟨z.heap.size,ax,rfl,az,aj,ap,L⟩,O.below I,W.trans (qW (X:=fun _=>False) I) (fun _ _ h=>h.elim)⟩
theorem Zjc (rest:List Int) (x:Row) (h:RdM w n A k l m S) (ab:∀ v ∈ x,RealV v) (am:x.length<=12) (W:l.drop m=rowB x++rest) :
 Calls prog 218 #[.pointer (some ⟨n,0,none⟩)] w fun e w'=>(∃ A' R,e=.returned (.slice A' x R)/\w'.ownsRow w 108 3 (.slice A' x R) x (Zq x))/\RdP n A k l S (m+(rowB x).length) w w':=by
 have c2:=h.c2;obtain⟨ar,M,E,-⟩:=dr w;have E:=E.out;have z:=hI (h.below E);replace E:=hI E;replace M:=hI M;obtain⟨q,K⟩:=yp (m+(rowB x).length);have F:=Row_any k m x rest z.bt (fun b af=>(z.sb b af).1) ab am W z.cap;rw [K] at F;replace F:=hI F;rw [K];clear h K W ab;go_enter func218,ntmps218
 go_wp2
 refine uS (fun w'=>w'.cell? ⟨n,0,none⟩=some (.slice A l k)/\w'.cell? ⟨n,1,none⟩=some (.int .i64 (m:Int))) 16 16 fun Q' U N=>?_;rw [M];have ac:=z.c0;have aq:=z.c1;refine uR [0,8] N ⟨ac,aq⟩ ?_;refine uQ 8 fun ae Z=>?_;go_simp;refine F.mono ?_;rintro e w2 ⟨ap,ao,rfl,I,L⟩;replace I:=hI I;have H:=hI (show RdM w2 n A k l m S from z.below L);have an:=hI ((qW (X:=fun b=>b=n) E).trans (qW (X:=fun b=>b=n) L) (fun _ _ e=>e));have O:=H.c0;have aa:=H.c1;clear L F;refine Z _ _ (fun _=>⟨O,aa⟩) ?_;clear Z ae
 try simp only [Act.put,psA,psB,psC]
 refine uR [9,7] N ⟨O,aa⟩ ?_;refine uE U ?_;clear U N Q';have f1:=H.f1
 go_wp2
 go_ret;obtain⟨ak,aj⟩:=H.go q;exact⟨⟨ap,ao,rfl,ZbR (Zo I (fun g ah=>qc _ _ _ _ (fun ai=>by have:=Zs I ah;have:=z.lt;simp at ai;omega))) (yl E.size)⟩,ak,an.trans aj (fun _ _ e=>e)⟩
theorem Zax {α:Type} {l x y:List α} (h:l.drop n=x++y):l.drop (n+x.length)=y:=by
 rw [<-List.drop_drop,h,List.drop_left]
def shP (p:Nat) (l:List Int) (q:Nat):Nat:=p+(lebF l).length+((l.take q).flatMap fun x=>lebF x.toNat).length
theorem shP_at {rest:List Int} (h:l.drop n=Zeq p++rest) (z:k<p):l.drop (shP n p k)=lebF (p.getD k 0).toNat++((p.drop (k+1)).flatMap (fun x=>lebF x.toNat)++rest)/\shP n p (k+1)=shP n p k+(lebF (p.getD k 0).toNat).length:=by
 have e:p.getD k 0=p[k]:=gD z;constructor
 .unfold shP;refine Zax (x:=(p.take k).flatMap fun x=>lebF x.toNat) (Zax ?_);rw [h];unfold Zeq;rw [qB,e]
  congr 1
  conv=>lhs;rw [<-List.take_append_drop k p,List.flatMap_append,qq z,List.flatMap_cons]
  simp only [qB]
 unfold shP;rw [qj z,List.flatMap_append,qi,e];simp;omega
theorem shP_end (p:Nat) (l:List Int):shP p l l.length=p+(Zeq l).length:=by
 unfold shP Zeq;rw [qM,qi];omega
theorem rshards_any (rest c:List Int) (h:RdM w n A k l m S) (aX:c.length<=i) (bn:i<=1000) (ah:∀ x ∈ c,0<=x/\x<=(i:Int) - 1) (au:c.Pairwise (·<·)) (aw:a ∈ c) (av:l.drop m=Zeq c++rest) :
 Calls prog 219 #[.pointer (some ⟨n,0,none⟩),.int .i64 a,.int .i64 (i:Int)] w fun e w'=>(∃ A' aB,e=.returned (.slice A' c aB)/\w'.ownsRow w 3 1 (.slice A' c aB) c (c.map (Value.int .i64)))/\RdP n A k l S (m+(Zeq c).length) w w':=by
 obtain⟨aI,aS,aA,aG,aJ⟩:=qA info3;have aU:=hI (fun q=>shP_at (k:=q) av);have bb:=hI ah;replace au:=hI au;have ba:=hI aw;have aZ:=hI (shP_end m c);have:0<i:=(yl (List.length_pos_of_mem aw));have ab:=Zaq (i:=c) (j:=i) (c.flatMap (fun x=>lebF x.toNat)++rest) h aX ya (by rw [av];unfold Zeq;rw [qB]);rw [show m+(lebF c).length=shP m c 0 by simp [shP]] at ab;replace ab:=hI ab;have bl:=h.lt;have az:=hI (fun b E=>(h.sb b E).1);clear ah aw av h;go_enter func219,ntmps219
 go_wp2_with fail
 refine ab.mono ?_;rintro e bg ⟨rfl,ay,ao⟩;replace ay:=hI ay;replace ao:=hI ao;clear ab
 go_wp2
 go_loopw [7,8] (fun v r ai=>∃ (q:Nat) (K:Option Addr) (c1:Nat),q<=c/\r=.int .i64 ((c:Int) - (q:Int))/\v=.slice K q c1/\ai.ownsRow w 3 1 (.slice K q c1) q ((c.take q).map (Value.int .i64))/\RdM ai n A k l (shP m c q) S/\Fr (fun b=>b=n) w ai) (fun _ r _=>(intOf r).toNat)
 case atStart=>exact⟨0,none,0,qk _,yb,rfl,qV _ _ _ _,ay,ao⟩
 obtain⟨q,K,c1,bi,rfl,rfl,N,ax,ap⟩:=hrel;replace N:=hI N;have aK:=hI ax;have am:=hI ap;have bk:=ap.size;have bf:=ax.c2;clear ax ap;rcases qv q c.length with M | bc
 .have:decide ((0:Int)<(c:Int) - (q:Int))=true:=qt ya;obtain⟨x,R⟩:=yp (c.getD q 0);have aO:x ∈ c:=(by rw [<-R,show c.getD q 0=c[q] by simp [List.getD,M]];exact qJ M);obtain⟨aQ,aW⟩:=bb x aO;obtain⟨H,rfl⟩:=qn aQ;have ak:=aU q M;rw [R] at ak;simp only [qu] at ak;obtain⟨aF,aE⟩:=ak;have Z:=Zaq (i:=H) (j:=i - 1) _ aK ya ya aF;rw [<-aE,show ((i - 1:Nat):Int)=(i:Int) - 1 by omega] at Z;replace Z:=hI Z;have aD:=hI (show c.take (q+1)=c.take q++[(H:Int)] by rw [qj M,<-R];simp [List.getD,M]);have:IntKind.i64.wrap ((i:Int) - 1)=(i:Int) - 1:=(by rw [IntKind.wrap_i64];omega);replace R:=hI R;clear aF aE aO aQ aW
  go_wp2_with fail
  refine Z.mono ?_;rintro e F ⟨rfl,ae,af⟩;replace ae:=hI ae;have aM:=hI af;have L:=hI (show F.ownsRow w 3 1 (.slice K q c1) q ((c.take q).map (Value.int .i64)) from Zo N (fun g I=>af.block g (ZN N I) (fun bh=>yl (Zs N I))));have bm:=af.size;clear af Z;rcases qF q with aC | aC
  .subst aC
   go_wp2_with (at_builtin;refine Zn rfl (.tmp 44) (.tmp 46) 65 rfl 8 underlying65 aS aA aG aJ rfl yf rfl (Zo L (fun g I=>qd _ _ _ (ZN L I))) ⟨F,0,none⟩ 1 1 [.int .i64 (H:Int)] rfl rfl (World.news_of_block (qb F (.cells #[.int .i64 (H:Int)] 3))) (by simp [Value.oneCell']) yh ya yd ?_;intro aV aY an U aa;have ar:=hI U;have aj:=hI aa;clear U aa)
   have z:Below w F an:=((qa w F).alloc ya _).grown aj yd (fun r e=>Zs L e);replace z:=hI z;go_roundw
   case rel=>exact⟨0+1,_,_,ya,by go_num,rfl,by rw [aD,qm];exact ar,ae.keep z.size (fun b E=>z.block b (E.elim (fun e=>ya) (az b))),(am.trans aM (fun _ _ e=>e)).trans (Y:=fun b=>w<=b) ⟨z.os,z.tape,z.output,z.size,fun b E ah=>z.block b ya⟩ (fun b E e=>ya)⟩
   simp [intOf];omega
  obtain⟨p,rfl⟩:∃ p,q=p+1:=⟨q - 1,ya⟩;obtain⟨y,aN⟩:=yp (c.getD p 0)
  have:y<(H:Int):=by
   have bo:=List.pairwise_iff_getElem.1 au p (p+1) ya M ya;have aP:c.getD p 0=c[p]:=(by simp [List.getD,show p<c.length by omega]);have aH:=R.out;rw [show c.getD (p+1) 0=c[p+1] by simp [List.getD,M]] at aH;omega
  have:decide ((H:Int)<=y)=false:=qe ya
  obtain⟨O,aT,bj⟩:∃ O,K=some ⟨O,0,none⟩/\F.cell? ⟨O,p,none⟩=some (.int .i64 y):=by
   obtain⟨O,cap,e,_⟩:=L.form ya;injection e with aP aH bp;subst aP;refine⟨O,rfl,?_⟩;rw [L.cellAt p ya,List.getElem?_map,List.getElem?_take_of_lt ya,List.getElem?_eq_getElem ya,<-aN];simp [List.getD,show p<c.length by omega]
  subst aT;clear aN
  go_wp2_with (at_builtin;refine Zn rfl (.tmp 44) (.tmp 46) 65 rfl 8 underlying65 aS aA aG aJ rfl yf rfl (Zo L (fun g I=>qd _ _ _ (ZN L I))) ⟨F,0,none⟩ 1 1 [.int .i64 (H:Int)] rfl rfl (World.news_of_block (qb F (.cells #[.int .i64 (H:Int)] 3))) (by simp [Value.oneCell']) yh ya yd ?_;intro aV aY an U aa;have ar:=hI U;have aj:=hI aa;clear U aa)
  have z:Below w F an:=((qa w F).alloc ya _).grown aj yd (fun r e=>Zs L e);replace z:=hI z;go_roundw
  case rel=>exact⟨p+1+1,_,_,ya,by go_num,rfl,by rw [aD,qm];exact ar,ae.keep z.size (fun b E=>z.block b (E.elim (fun e=>ya) (az b))),(am.trans aM (fun _ _ e=>e)).trans (Y:=fun b=>w<=b) ⟨z.os,z.tape,z.output,z.size,fun b E ah=>z.block b ya⟩ (fun b E e=>ya)⟩
  simp [intOf];omega
 obtain rfl:q=c.length:=ya;have ac:=N.out;rw [qM] at ac;have aL:=hI ac;have aR:=ZbS ya ac;have aq:=hI (ZcW c1 (a:=a) aR (fun b E=>E.2) ya);rw [qt ba.out] at aq;clear ac aR
 go_wp2_with fail
 refine aq.mono ?_;rintro e be ⟨rfl,W⟩;replace W:=hI W;clear aq
 go_wp2
 go_ret;exact⟨⟨K,c1,rfl,Zo aL (fun g I=>W.block g (ZN aL I))⟩,by rw [<-aZ];exact aK.below W,am.trans (qW (X:=fun _=>False) W) (fun _ _ h=>h.elim)⟩
def ZhQ (e:Ent) (i n:Int) (l:List Chg):List Int:=lebF e.co.toNat++(lebF e.wn.toNat++(Zeq e.sd++(ZgX (if i=e.wn % n then e.note else [])++(lebF l.length++l.flatMap chgB))))
theorem ZiA (e:Ent) (i n:Int) (l:List Chg):ZbL e i n l=2 :: ZhQ e i n l:=by
 unfold ZbL ZkJ ZhQ;simp [qB]
theorem ZkE (c:Chg):chgB c=lebF c.tx.toNat++(lebF (Zet c)++((if c.old.length=0 then [] else rowB c.old)++(if c.new.length=0 then [] else rowB c.new))):=by
 unfold chgB;simp only [qB]
def chP (p:Nat) (l:List Chg) (q:Nat):Nat:=p+((l.take q).flatMap chgB).length
theorem chP_at {rest:List Int} (h:l.drop n=L.flatMap chgB++rest) (z:k<L):l.drop (chP n L k)=lebF (L.getD k chg0).tx.toNat++(lebF (Zet (L.getD k chg0))++((if (L.getD k chg0).old.length=0 then [] else rowB (L.getD k chg0).old)++((if (L.getD k chg0).new.length=0 then [] else rowB (L.getD k chg0).new)++((L.drop (k+1)).flatMap chgB++rest))))/\chP n L (k+1)=chP n L k+(lebF (L.getD k chg0).tx.toNat).length+(lebF (Zet (L.getD k chg0))).length+(if (L.getD k chg0).old.length=0 then ([]:List Int) else rowB (L.getD k chg0).old).length+(if (L.getD k chg0).new.length=0 then ([]:List Int) else rowB (L.getD k chg0).new).length:=by
 have e:L.getD k chg0=L[k]:=gD z;constructor
 .unfold chP;rw [Zax (x:=(L.take k).flatMap chgB) (y:=(L.drop k).flatMap chgB++rest) (by rw [h];conv=>lhs;rw [<-List.take_append_drop k L,List.flatMap_append];simp only [qB])];rw [qq z,List.flatMap_cons,e];rw [ZkE L[k]];simp only [qB]
 unfold chP;rw [qj z,List.flatMap_append,qi,e];simp only [List.flatMap_cons,List.flatMap_nil,Qq];rw [ZkE L[k]];simp only [qi];omega
theorem Fr.row {X S:Nat->Prop} {w w':World} {A:Option Addr} {x:Row} (h:Fr X w w') (z:RowS w S A x) (E:∀ b,S b->b<w/\¬ X b):RowS w' S A x:=z.keep (h.same E)
structure PtM (w0 w:World) (r:Nat) (A:Option Addr) (c:Nat) (bs:List Int) (p:Nat) (S:Nat->Prop) (E:Nat) (vs:List Value):Prop where
 rd:RdM w r A c bs p S
 blk:w.heap[E]?=some (.cells vs.toArray 67 (0,0))
 res:w.heap[w0.heap.size]?=some (.cells #[.int .i64 0,.int .i64 0,.slice none 0 0,.slice none 0 0,.slice none 0 0] 67 (0,0))
 fr:Fr (fun b=>b=r) w0 w
 lo:w0.heap.size<E
 rlt:r<w0
 slt:∀ b,S b->b<w0
section
variable {w0 w w':World} {r c p p' E:Nat} {A:Option Addr} {bs:List Int} {S:Nat->Prop} {vs:List Value}
theorem PtM.lt (h:PtM w0 w r A c bs p S E vs):E<w:=Zb h.blk
theorem PtM.step (h:PtM w0 w r A c bs p S E vs) (z:RdP r A c bs S p' w w'):PtM w0 w' r A c bs p' S E vs :=
 ⟨z.1,(z.2.block _ h.lt (ym h.lo h.rlt)).trans h.blk,(z.2.block _ (Zb h.res) (yl h.rlt)).trans h.res,h.fr.trans z.2 (fun _ _ e=>e),h.lo,h.rlt,h.slt⟩
theorem PtM.below (h:PtM w0 w r A c bs p S E vs) (z:Below w w w'):PtM w0 w' r A c bs p S E vs :=
 ⟨h.rd.below z,(z.block _ h.lt).trans h.blk,(z.block _ (Zb h.res)).trans h.res,h.fr.trans (Y:=fun _=>False) (qW z) (fun _ _ e=>e.elim),h.lo,h.rlt,h.slt⟩
theorem PtM.above {B:Nat} (h:PtM w0 w r A c bs p S E vs) (z:Below B w w') (L:E<B) (M:B<=w):PtM w0 w' r A c bs p S E vs:=by
 have K:=h.lo;have I:=h.rlt
 exact⟨h.rd.keep z.size (fun b F=>z.block b (by
  rcases F with F | F
  .omega
  have:=h.slt b F;omega)),(z.block _ ya).trans h.blk,(z.block _ ya).trans h.res,h.fr.trans (Y:=fun b=>B<=b) ⟨z.os,z.tape,z.output,z.size,fun b _ F=>z.block b ya⟩ (fun b H e=>ya),h.lo,h.rlt,h.slt⟩
theorem PtM.set (h:PtM w0 w r A c bs p S E vs) (k:Nat) (v:Value):PtM w0 (w.setCell ⟨E,k,none⟩ v) r A c bs p S E (vs.set k v):=by
 have L:=h.lo;have K:=h.rlt;have F:∀ b,b≠E->(w.setCell ⟨E,k,none⟩ v).heap[b]?=w.heap[b]?:=fun b H=>qc _ _ _ _ H;have I:Fr (fun b=>b=E) w (w.setCell ⟨E,k,none⟩ v):=(Qa _ w).setCell _ (fun _=>rfl)
 exact⟨h.rd.keep yb (fun b z=>F b (by
  rcases z with z | z
  .omega
  have:=h.slt b z;omega)),Zc h.blk,(F _ ya).trans h.res,h.fr.trans I (fun b H e=>ya),h.lo,h.rlt,h.slt⟩
theorem PtM.cell (h:PtM w0 w r A c bs p S E vs) (k:Nat) (v:Value) (z:vs[k]?=some v):w.cell? ⟨E,k,none⟩=some v:=by
 have:=Za h.blk k v z;rwa [qx] at this
theorem PtM.fz (h:PtM w0 w r A c bs p S E vs) (k:Nat):w.frozen? ⟨E,k,none⟩=false:=Zd h.blk (k:=k)
end
structure PartOk (e:Ent) (i:Int) (n:Nat) (l:List Chg):Prop where
 co:0<=e.co/\e.co<=1073741824
 wn:0<=e.wn/\e.wn<=8
 few:e.sd.length<=n/\n<=1000
 sd:∀ x ∈ e.sd,0<=x/\x<=(n:Int) - 1
 sorted:e.sd.Pairwise (·<·)
 here:i ∈ e.sd
 home:e.wn % (n:Int) ∈ e.sd
 note:Zbn e.note
 short:e.note.length<=4096
 many:l.length<=1
 some_:i≠e.wn % (n:Int)->l≠[]
 chg:∀ c ∈ l,0<=c.tx/\c.tx<=7/\(∀ v ∈ c.old,RealV v)/\(∀ v ∈ c.new,RealV v)/\c.old.length<=12/\c.new.length<=12/\RowOk c.old/\RowOk c.new
def Zcl (e:Ent) (i n:Int) (l:List Chg):Ent:=⟨e.co,e.wn,e.sd,l,if i=e.wn % n then e.note else []⟩
theorem rpart_any (rest:List Int) (h:RdM w n A k l m S) (d2:PartOk H a i L) (aO:l.drop m=ZhQ H a i L++rest) :
 Calls prog 171 #[.pointer (some ⟨n,0,none⟩),.int .i64 a,.int .i64 (i:Int)] w fun f w'=>(∃ aa c1 dB c2 N O,f=.returned (.agg (Zdl (Zcl H a i L) aa c1 dB c2 N O).toArray)/\EntV w' (fun b=>w<=b/\b<w') (Zcl H a i L) aa c1 dB c2 N O)/\RdP n A k l S (m+(ZhQ H a i L).length) w w':=by
 obtain⟨d6,ec,e1,ey,eN⟩:=qA ZhY;obtain⟨⟨b5,ei⟩,⟨cN,eP⟩,⟨dZ,dG⟩,cJ,ca,bW,cm,co,ct,fG,b1,c8⟩:=d2;obtain⟨fH,ow,F,fg,eI⟩:=H;simp only at b5 ei cN eP dZ dG cJ ca bW cm co ct b1;obtain⟨Z,rfl⟩:=qn b5;obtain⟨own,rfl⟩:=qn cN;have:0<i:=(yl (List.length_pos_of_mem bW));obtain⟨I,cz⟩:=yp ((if a=((own:Nat):Int) % (i:Int) then eI else []))
 have ez:Zbn I/\I.length<=4096/\(a≠((own:Nat):Int) % (i:Int)->I=[]):=by
  rw [<-cz];split
  .next ae=>exact⟨co,ct,fun h=>absurd ae h⟩
  exact⟨fun x am=>by simp at am,yb,fun _=>rfl⟩
 obtain⟨dO,eZ,c7⟩:=ez;unfold Zcl ZhQ at *;simp only [qu] at aO ⊢;rw [cz] at aO ⊢;obtain⟨T,bu⟩:=yp (m+(lebF Z++(lebF own++(Zeq F++(ZgX I++(lebF L.length++L.flatMap chgB))))).length);rw [bu];simp only [qB] at aO;simp only [qi] at bu;obtain⟨dY,bo⟩:=yp (m+(lebF Z).length);have bF:=Zax aO;rw [bo] at bF;obtain⟨cL,bV⟩:=yp (dY+(lebF own).length);have bO:=Zax bF;rw [bV] at bO;obtain⟨bc,bD⟩:=yp (cL+(Zeq F).length);have bJ:=Zax bO;rw [bD] at bJ;obtain⟨bk,bE⟩:=yp (bc+(lebF I).length+I.length);have bp:=Zax bJ;rw [show bc+(ZgX I).length=bk by rw [<-bE];unfold ZgX;rw [qi];omega] at bp;obtain⟨av,bM⟩:=yp (bk+(lebF L).length);have b4:=Zax bp;rw [bM] at b4
 have dj:T=chP av L L:=by
  unfold chP;rw [qM,<-bu,<-bM,<-bE,<-bD,<-bV,<-bo];unfold ZgX;rw [qi];omega
 have dH:l.drop bc=lebF I.length++(I++(lebF L.length++(L.flatMap chgB++rest))):=(by rw [bJ];unfold ZgX;rw [qB]);have eD:=hI (fun q=>chP_at (k:=q) b4);have eJ:=hI dj;have eV:=hI aO;have e4:=hI bF;have d5:=hI bO;have d7:=hI dH;have eC:=hI bp;have aU:=hI (And.intro bo (And.intro bV (And.intro bD (And.intro bE bM))));have bB:=hI (And.intro cJ (And.intro ca (And.intro bW cm)));have eu:=hI dO;have ea:=hI c8;have c4:=hI h;have e7:=h.lt;have dd:∀ b,S b->b<w:=fun b z=>(h.sb b z).1;have cS:=hI dd;clear h aO bF bO bJ dH bp b4 bo bV bD bE bM dj bu cJ ca bW cm dO c8 dd co ct b5 cN cz;go_enter func171,ntmps171
 go_wp2_with fail
 obtain⟨ee,dq,bb,cw⟩:=al w (.cells #[.int .i64 0,.int .i64 0,.slice none 0 0,.slice none 0 0,.slice none 0 0] 67);have bb:=bb.out;have c9:=hI (c4.below bb);have dp:=hI (qW (X:=fun b=>b=n) bb);rw [dq];clear bb dq c4;refine(Zaq (n:=n) (k:=k) (m:=m) (i:=Z) (j:=1073741824) (A:=A) (l:=l) _ (S:=S) (w:=ee) c9 ya ya eV).mono ?_;rintro f fd ⟨rfl,cY,cR⟩;rw [aU.1] at cY;have d0:=hI cY;have da:=hI (dp.trans cR (fun _ _ H=>H));have cc:=hI ((cR.block _ (Zb cw) ya).trans cw);clear cY cR c9 dp cw
 go_wp2_with fail
 refine(Zaq (n:=n) (k:=k) (m:=dY) (i:=own) (j:=8) (A:=A) (l:=l) _ (S:=S) (w:=fd) d0 ya ya e4).mono ?_;rintro f w2 ⟨rfl,cO,ch⟩;rw [aU.2.1] at cO;have dm:=hI cO;have dN:=hI (da.trans ch (fun _ _ H=>H));have bL:=hI ((ch.block _ (Zb cc) ya).trans cc);clear cO ch d0 da cc;go_upto_region 2 with fail
 obtain⟨W,bz⟩:=yp w2.heap.size;obtain⟨aW,cD,aM,-⟩:=al w2 (.cells #[.int .i64 (Z:Int),.int .i64 (own:Int),.slice none 0 0,.slice none 0 0,.slice none 0 0] 67);have aM:=aM.out;have bj:=hI (show PtM w aW n A k l cL S W [.int .i64 (Z:Int),.int .i64 (own:Int),.slice none 0 0,.slice none 0 0,.slice none 0 0] from ⟨dm.below aM,by rw [<-cD,<-bz];exact qb w2 _,(aM.block _ (Zb bL)).trans bL,dN.trans (Y:=fun _=>False) (qW aM) (fun _ _ H=>H.elim),by rw [<-bz];exact Zb bL,e7,cS⟩);rw [cD,bz];clear aM cD bz dm dN bL
 go_wp2_with fail
 refine(rshards_any (n:=n) (k:=k) (m:=cL) (i:=i) (a:=a) (A:=A) (l:=l) _ F (S:=S) (w:=aW) bj.rd dZ dG bB.1 bB.2.1 bB.2.2.1 d5).mono ?_;rintro f d4 ⟨⟨N,O,rfl,dL⟩,bY⟩;rw [aU.2.2.1] at bY;have bl:=hI (bj.step bY);have cf:=hI dL;have fv:=bj.lt;have fc:=bl.cell 2 _ rfl;have ci:=bl.fz 2;clear dL bY;go_upto_region 3 with fail
 obtain⟨cr,bR⟩:=yp (d4.setCell ⟨W,2,none⟩ (.slice N F O));have aR:=hI (show PtM w cr n A k l bc S W [.int .i64 (Z:Int),.int .i64 (own:Int),.slice N F O,.slice none 0 0,.slice none 0 0] by rw [<-bR];exact bl.set 2 _);have bP:=hI (show cr.ownsRow aW 3 1 (.slice N F O) F (F.map (Value.int .i64)) by rw [<-bR];exact Zo cf (fun g aJ=>qc _ _ _ _ (fun aq=>by have:=Zs cf aJ;simp at aq;omega)));rw [bR];clear bR fc ci bl cf bj
 go_wp2_with fail
 refine(rtext_any (n:=n) (k:=k) (m:=bc) (i:=4096) (A:=A) (l:=l) (p:=I) _ (S:=S) (w:=cr) aR.rd eZ ya eu d7).mono ?_;rintro f cQ ⟨⟨af,an,rfl,fw,bg,e5,dP⟩,bq⟩;rw [aU.2.2.2.1] at bq;have bw:=hI (aR.step bq);have bm:=hI (show cQ.ownsRow aW 3 1 (.slice N F O) F (F.map (Value.int .i64)) from Zo bP (fun g aJ=>bq.2.block g (ZN bP aJ) (fun aq=>ym (Zs bP.out aJ) aR.lo)));have dk:=hI dP;have fC:=aR.lt;have eo:=bw.cell 4 _ rfl;have cW:=bw.fz 4;clear dP bq bP;go_upto_region 4 with fail
 obtain⟨ao,aF⟩:=yp (cQ.setCell ⟨W,4,none⟩ (.slice (some ⟨af,0,none⟩) I.length an));have aI:=hI (show PtM w ao n A k l bk S W [.int .i64 (Z:Int),.int .i64 (own:Int),.slice N F O,.slice none 0 0,.slice (some ⟨af,0,none⟩) I.length an] by rw [<-aF];exact bw.set 4 _)
 have bN:=hI (show IntS ao (fun b=>W<b/\b<ao) N F by
  have ae:ao.ownsRow aW 3 1 (.slice N F O) F (F.map (Value.int .i64)):=(by rw [<-aF];exact Zo bm (fun g aJ=>qc _ _ _ _ (fun aq=>by have:=Zs bm aJ;simp at aq;omega)));exact(ZbS ya ae).more (fun b z=>⟨ya,z.2⟩))
 have cI:=hI (show BtS ao (fun b=>W<b/\b<ao) (some ⟨af,0,none⟩) I by
  refine qZ (S:=fun b=>b=af) ?_ (fun b z=>by subst z;rw [<-aF];simp;omega);rw [<-aF];exact qU dk (fun b z=>qc _ _ _ _ yd))
 have e8:=Zas bm rfl;rw [aF];have e0:ao.heap.size=cQ.heap.size:=(by rw [<-aF];simp);clear aF eo cW bw bm dk aR;have c6:=aI.cell 1 _ rfl;have dJ:=aI.cell 2 _ rfl
 have ds:(a=((own:Nat):Int) % (i:Int)/\(a == ((own:Nat):Int) % (i:Int))=true)\/(a≠((own:Nat):Int) % (i:Int)/\(a == ((own:Nat):Int) % (i:Int))=false/\I.length=0/\0<L.length):=by
  by_cases ae:a=((own:Nat):Int) % (i:Int)
  .exact .inl ⟨ae,by simp [ae]⟩
  exact .inr ⟨ae,by simp [ae],by rw [c7 ae];rfl,List.length_pos_iff.2 (b1 ae)⟩
 have dR:=hI ds;clear ds c7 b1;go_upto_region 5 with fail
 go_cut [44] (fun q bs=>q=.bool false/\Below ao ao bs)
 case first =>
  go_wp2_with fail
  refine(ZcW (A:=N) O (l:=F) (a:=((own:Nat):Int) % (i:Int)) (w:=ao) bN (fun b z=>z.2) ya).mono ?_;rintro f fB ⟨rfl,au⟩;rw [qt bB.2.2.2];have aG:=hI (aI.below au);have dM:=hI au;have fp:=aG.cell 4 _ rfl;clear au c6 dJ bN cI
  go_wp2_with fail
  .next ae =>
   subst ae;go_meet;exact⟨rfl,dM⟩
  have cU:I=[]:=by
   rcases dR.out with ⟨aq,_⟩ | ⟨_,_,aq,_⟩
   .contradiction
   exact List.length_eq_zero_iff.1 aq
  go_meet;exact⟨by first | rfl | simp [cU],dM⟩
 obtain⟨rfl,au⟩:=hcut;clear c6 dJ;have aG:=hI (aI.below au);have cV:=hI (IntS.keep bN (fun b z=>au.block b z.2));have cx:=hI (show BtS wc _ _ I from qU cI (fun b z=>au.block b z.2));have eE:=au.size;have eQ:=aI.lt;clear au bN cI;obtain⟨b9,db⟩:∃ b9:Nat,ao=b9:=⟨_,rfl⟩;rw [db] at cV cx eQ eE;clear db e0 aI
 go_wp2_with fail
 refine(Zaq (n:=n) (k:=k) (m:=bk) (i:=L) (j:=1024) (A:=A) (l:=l) _ (S:=S) (w:=wc) aG.rd ya ya eC).mono ?_;rintro f aZ ⟨rfl,aP⟩;rw [aU.2.2.2.2] at aP;have eG:=hI (aG.step aP);have ep:=hI (IntS.keep cV (fun b z=>aP.2.block b ya (yl aG.lo)));have eH:=hI (show BtS aZ _ _ I from qU cx (fun b z=>aP.2.block b ya (yl aG.lo)));have fm:=aP.2.size;clear aP aG cV cx;obtain⟨B,dw⟩:=yp aZ.heap.size;have dV:=hI dw;have:W<B/\b9<=B:=ya;have e6:=hI (show av=chP av L 0 by simp [chP]);clear dw
 go_wp2
 go_loopw [9] (fun c cu=>∃ (q:Nat) (aa:Option Addr) (c1:Nat),q<=L/\c=.int .i64 ((L:Int) - (q:Int))/\PtM w cu n A k l (chP av L q) S W [.int .i64 (Z:Int),.int .i64 (own:Int),.slice N F O,.slice aa q c1,.slice (some ⟨af,0,none⟩) I.length an]/\Mk cu B (fun _=>False) 148 3 (.slice aa q c1) ((L.take q).map ZF)/\Fr (fun b=>b=n\/b=W) aZ cu) (fun c _=>(intOf c).toNat)
 case atStart=>exact⟨0,none,0,qk _,yb,by rw [<-e6];exact eG,Qe (fun b z=>z.elim) (yl dV.out) _ _,Qa _ _⟩
 obtain⟨q,aa,c1,fy,rfl,cE,df,cd⟩:=hrel;have r:=hI cE;have cF:=hI df;have bT:=hI cd;have fq:=cd.size;have ft:=dV.out;have eT:=cE.rd.c2;clear cE df cd;rcases qv q L.length with ba | fJ
 .obtain⟨ax,ap⟩:=eD q ba;obtain⟨bI,dA,bH,bg,cX,b6,bU,bC⟩:=ea (L.getD q chg0) (by rw [show L.getD q chg0=L[q] by simp [List.getD,ba]];exact qJ ba);have dD:=hI (show L.take (q+1)=L.take q++[L.getD q chg0] by rw [qj ba];simp [List.getD,ba]);generalize L.getD q chg0=x at ax ap bI dA bH bg cX b6 bU bC dD;obtain⟨fD,K,R⟩:=x;simp only at ax ap bI dA bH bg cX b6 bU bC;obtain⟨ak,rfl⟩:=qn bI;simp only [qu] at ax ap;obtain⟨mk,bZ⟩:=yp (Zet ⟨(ak:Int),K,R⟩);rw [bZ] at ax ap;obtain⟨dX,b8⟩:=yp ((if K.length=0 then ([]:List Int) else rowB K));obtain⟨dv,ce⟩:=yp ((if R.length=0 then ([]:List Int) else rowB R));rw [b8,ce] at ax ap;obtain⟨dW,cG⟩:=yp (chP av L q+(lebF ak).length);have bn:=Zax ax;rw [cG] at bn ap;obtain⟨cq,cP⟩:=yp (dW+(lebF mk).length);have bQ:=Zax bn;rw [cP] at bQ ap;obtain⟨be,cy⟩:=yp (cq+dX.length);have bX:=Zax bQ;rw [cy] at bX ap;have cj:mk<=3/\(mk=if K.length=0 then (if R.length=0 then 0 else 2) else (if R.length=0 then 1 else 3)):=(by rw [<-bZ];unfold Zet;simp only;split<;>split<;>simp);have dt:=hI cj.2;have cH:=cj.1;have em:=hI ax;have eB:=hI bn;have e3:=hI bQ;have er:=hI bX;have aT:=hI (And.intro cG (And.intro cP (And.intro cy ap)));have du:=hI b8;have dT:=hI ce;have dQ:=hI (And.intro bH bU);have c3:=hI (And.intro bg bC);clear ax ap bn bQ bX cG cP cy b8 ce cj bZ bH bU bg bC bI
  go_wp2_with fail
  refine(Zaq (n:=n) (k:=k) (m:=chP av L q) (i:=ak) (j:=7) (A:=A) (l:=l) _ (S:=S) (w:=wr) r.rd ya ya em).mono ?_;rintro f aH ⟨rfl,aL⟩;rw [aT.1] at aL;have dC:=hI (r.step aL);have di:=hI (cF.keep aL.2 (fun b z=>⟨ym r.rlt r.lo,fun h=>h⟩));have dF:=hI (bT.trans aL.2 (fun b _ H=>.inl H));have e9:=aL.2.size;clear aL r cF bT eT;go_upto_region 11 with fail
  obtain⟨eF,dc,aN,bh⟩:=al aH (.cells #[.int .i64 (ak:Int),.slice none 0 0,.slice none 0 0] 148);have aN:=aN.out;have bG:=hI (dC.below aN);have dy:=hI (qW (X:=fun b=>b=n) aN);have dz:=hI (dF.trans (Y:=fun _=>False) (qW aN) (fun _ _ H=>H.elim));obtain⟨E,b7⟩:=yp aH.heap.size;rw [dc,b7];rw [b7] at bh;have:B<=E:=ya;have:aH<=E/\E<=aH:=ya;clear aN dc b7 dC dF e9
  go_wp2_with fail
  refine(Zaq (n:=n) (k:=k) (m:=dW) (i:=mk) (j:=3) (A:=A) (l:=l) _ (S:=S) (w:=eF) bG.rd cH ya eB).mono ?_;rintro f dK ⟨rfl,aA⟩;rw [aT.2.1] at aA;have fx:=bG.lo;have br:=hI (bG.step aA);have cM:=hI (dy.trans aA.2 (fun _ _ H=>H));have cn:=hI (dz.trans aA.2 (fun b _ H=>.inl H));have bK:=hI ((aA.2.block _ (Zb bh) ya).trans bh);have fF:=aA.2.size;have fk:=Zb bh;clear aA bG dy dz bh;go_upto_if 68 with fail
  go_cut [] from 68 to 71 (fun bs=>∃ (ah:Option Addr) (aj:Nat),K.length<=aj/\RowS bs (fun b=>E<b/\b<bs) ah K/\bs.heap[E]?=some (.cells #[.int .i64 (ak:Int),.slice ah K aj,.slice none 0 0] 148 (0,0))/\PtM w bs n A k l be S W [.int .i64 (Z:Int),.int .i64 (own:Int),.slice N F O,.slice aa q c1,.slice (some ⟨af,0,none⟩) I.length an]/\Fr (fun b=>b=n) aH bs/\Fr (fun b=>b=n\/b=W) aZ bs/\dK.heap.size<=bs)
  case first =>
   have U:=dt.out;clear cH
   by_cases ai:K.length=0
   .obtain rfl:K=[]:=qN ai;rw [qr yg] at U;have e2:be=cq:=(by rw [<-aT.2.2.1,<-du];simp);subst e2
    by_cases ab:R.length=0
    rw [qr ab] at U;rotate_left
    rw [qo ab] at U
    all_goals
     subst U;clear ai ab
     go_wp2
     go_meet;exact⟨none,0,yb,Qi,bK,br,cM,cn,qp _⟩
   rw [qo ai] at U;have aC:dX=rowB K:=(by rw [<-du,qo ai]);have aE:=hI (Zjc (n:=n) (k:=k) (m:=cq) (A:=A) (l:=l) _ K (S:=S) (w:=dK) br.rd dQ.1 cX (by rw [<-aC];exact e3));rw [<-aC,aT.2.2.1] at aE
   by_cases ab:R.length=0
   rw [qr ab] at U;rotate_left
   rw [qo ab] at U
   all_goals
    subst U;clear ai ab aC
    go_wp2_with fail
    refine aE.mono ?_;rintro f M ⟨⟨ah,aj,rfl,aV⟩,ac⟩;have az:=hI ((ac.2.block _ (Zb bK) ya).trans bK);have aQ:=hI (br.step ac);have cT:=hI (cM.trans ac.2 (fun _ _ H=>H));have b3:=hI (cn.trans ac.2 (fun b _ H=>.inl H));have cv:=hI aV;have cK:=ac.2.size;have ew:yr M E 1 (.slice none 0 0):=Za az 1 _ rfl;have cC:M.frozen? ⟨E,1,none⟩=false:=Zd az (k:=1);clear aV ac aE
    go_wp2
    go_meet;obtain⟨b2,cg⟩:=ZaR cv dQ.2 nR;have bt:∀ b,b≠E->(M.setCell ⟨E,1,none⟩ (.slice ah K aj)).heap[b]?=M.heap[b]?:=fun b z=>qc _ _ _ _ z;have ck:Below B M (M.setCell ⟨E,1,none⟩ (.slice ah K aj)):=((Qa (fun b=>b=E) M).setCell _ (fun _=>rfl)).below ya (fun b z H=>ya);exact⟨ah,aj,b2,(cg.keep (fun b z=>bt b ya)).more (fun b z=>⟨ya,by simpa using z.2⟩),Zc (vs:=[.int .i64 (ak:Int),.slice none 0 0,.slice none 0 0]) (k:=1) az,aQ.above ck ya ya,cT.trans ((Qa (fun b=>b=E) M).setCell _ (fun _=>rfl)) (fun b z H=>ya),b3.trans ((Qa (fun b=>b=E) M).setCell _ (fun _=>rfl)) (fun b z H=>ya),yd⟩
  obtain⟨ah,aj,eW,dE,ay,aK,aX,aY,fo⟩:=hcut;have dU:=hI dE;have b0:=hI ay;have bS:=hI aK;have de:=hI aX;have c5:=hI aY;have fA:=Zb ay;obtain⟨fi,eL⟩:=yp wc;subst eL;clear dE ay aK aX aY br cM cn bK;go_upto_if 74 with fail
  go_cut [] from 74 to 77 (fun bs=>∃ (ar:Option Addr) (aw:Nat),R.length<=aw/\RowS bs (fun b=>E<b/\b<bs) ah K/\RowS bs (fun b=>E<b/\b<bs) ar R/\bs.heap[E]?=some (.cells #[.int .i64 (ak:Int),.slice ah K aj,.slice ar R aw] 148 (0,0))/\PtM w bs n A k l (chP av L (q+1)) S W [.int .i64 (Z:Int),.int .i64 (own:Int),.slice N F O,.slice aa q c1,.slice (some ⟨af,0,none⟩) I.length an]/\Fr (fun b=>b=n) aH bs/\Fr (fun b=>b=n\/b=W) aZ bs/\wc.heap.size<=bs)
  case first =>
   have U:=dt.out;have cA:=aT.2.2.2;clear cH
   by_cases ab:R.length=0
   .obtain rfl:R=[]:=qN ab;have dI:be=chP av L (q+1):=(by rw [cA,<-dT];simp);rw [dI] at bS
    by_cases ai:K.length=0
    all_goals
     simp [ai] at U;subst U;clear ai ab cA dI
     go_wp2
     go_meet;exact⟨none,0,yb,dU,Qi,b0,bS,de,c5,qp _⟩
   rw [qo ab] at U;have aC:dv=rowB R:=(by rw [<-dT,qo ab]);have aE:=hI (Zjc (n:=n) (k:=k) (m:=be) (A:=A) (l:=l) _ R (S:=S) (w:=wc) bS.rd c3.1 b6 (by rw [<-aC];exact er));rw [<-aC,show be+dv.length=chP av L (q+1) by omega] at aE;rw [qo ab] at U
   by_cases ai:K.length=0
   rw [qr ai] at U;rotate_left
   rw [qo ai] at U
   all_goals
    subst U;clear ai ab aC cA
    go_wp2_with fail
    refine aE.mono ?_;rintro f M ⟨⟨ar,aw,rfl,aV⟩,ac⟩;have az:=hI ((ac.2.block _ (Zb b0) ya).trans b0);have aQ:=hI (bS.step ac);have cT:=hI (de.trans ac.2 (fun _ _ H=>H));have b3:=hI (c5.trans ac.2 (fun b _ H=>.inl H));have el:=hI (ac.2.row dU (fun b z=>⟨z.2,ya⟩));have cv:=hI aV;have cK:=ac.2.size;have ew:yr M E 2 (.slice none 0 0):=Za az 2 _ rfl;have cC:M.frozen? ⟨E,2,none⟩=false:=Zd az (k:=2);clear aV ac aE
    go_wp2
    go_meet;obtain⟨b2,cg⟩:=ZaR cv c3.2 nR;have bt:∀ b,b≠E->(M.setCell ⟨E,2,none⟩ (.slice ar R aw)).heap[b]?=M.heap[b]?:=fun b z=>qc _ _ _ _ z;have ck:Below B M (M.setCell ⟨E,2,none⟩ (.slice ar R aw)):=((Qa (fun b=>b=E) M).setCell _ (fun _=>rfl)).below ya (fun b z H=>ya);exact⟨ar,aw,b2,(el.keep (fun b z=>bt b ya)).more (fun b z=>⟨z.1,yd⟩),(cg.keep (fun b z=>bt b ya)).more (fun b z=>⟨ya,by simpa using z.2⟩),Zc (vs:=[.int .i64 (ak:Int),.slice ah K aj,.slice none 0 0]) (k:=2) az,aQ.above ck ya ya,cT.trans ((Qa (fun b=>b=E) M).setCell _ (fun _=>rfl)) (fun b z H=>ya),b3.trans ((Qa (fun b=>b=E) M).setCell _ (fun _=>rfl)) (fun b z H=>ya),yd⟩
  obtain⟨ar,aw,ek,dh,cZ,ay,aK,aX,aY,fs⟩:=hcut;have ef:=hI dh;have eA:=hI cZ;have eR:=hI aK;have eb:=hI aY;have eO:=hI (di.keep aX (fun b z=>⟨ya,fun h=>h⟩));have fu:=aK.cell 3 _ rfl;have:yr wc E 0 (.int .i64 (ak:Int)):=Za ay 0 _ rfl;have:yr wc E 1 (.slice ah K aj):=Za ay 1 _ rfl;have:yr wc E 2 (.slice ar R aw):=Za ay 2 _ rfl;have:IntKind.i64.wrap ((L:Int) - (q:Int) - 1)=(L:Int) - (q:Int) - 1:=(by rw [IntKind.wrap_i64];omega);have dl:=hI (show ∀ b,E<b->b<wc->Beh B wc (.slice aa q c1) b from fun b ab fb=>⟨ya,fb,fun H=>yl ((di.base_le H.symm).2)⟩);clear dh cZ ay aK aY aX
  go_wp2_with (at_builtin;refine Zl rfl (.tmp 79) (.tmp 81) 56 rfl (base:=B) (S0:=fun _=>False) (e:=148) (i:=d6) (size:=3) 56 underlying56 ec e1 ey eN rfl yf eO rfl (d:=ZF ⟨(ak:Int),K,R⟩) #[.int .i64 (ak:Int),.slice ah K aj,.slice ar R aw] (ZbP ⟨eW,ef.more (fun b z=>.inr (dl b z.1 z.2))⟩ ⟨ek,eA.more (fun b z=>.inr (dl b z.1 z.2))⟩) (Zaw _) (Zab _) 1 rfl ya ya ?_;intro en ej M dS cp fE;have eg:=hI dS;have aS:=hI cp;have bf:=eR.above cp ya ya;have aQ:=hI bf;have fI:=bf.cell 3 _ rfl;have fl:=bf.fz 3;have fh:=bf.lt;clear dS cp bf)
  go_roundw
  case rel=>exact⟨q+1,some ⟨en,0,none⟩,ej,ya,by go_num,aQ.set 3 _,by rw [dD,qm];exact eg.keep (X:=fun b=>b=W) ((Qa _ _).setCell _ (fun _=>rfl)) (fun b z=>⟨ya,fun h=>h⟩),(eb.trans (Y:=fun b=>B<=b) ⟨aS.os,aS.tape,aS.output,aS.size,fun b z am=>aS.block b ya⟩ (fun b z H=>ya)).trans (Y:=fun b=>b=W) ((Qa _ _).setCell _ (fun _=>rfl)) (fun b z H=>.inr H)⟩
  simp [intOf];omega
 obtain rfl:q=L.length:=ya;simp only [Int.sub_self];have d8:=r.cell 3 _ rfl;go_upto_region 17 with fail
 go_cut [92] (fun fa bs=>fa=.bool false/\bs=wr)
 case first =>
  go_wp2_with fail
  .next ae =>
   subst ae;go_meet;exact⟨rfl,rfl⟩
  have cU:L≠[]:=by
   rcases dR.out with ⟨aq,_⟩ | ⟨_,_,_,aq⟩
   .contradiction
   exact List.length_pos_iff.1 aq
  go_meet;exact⟨by first | rfl | simp [cU],rfl⟩
 obtain⟨rfl,rfl⟩:=hcut;have d1:=r.cell 0 _ rfl;have d3:=r.cell 1 _ rfl;have eM:=r.cell 2 _ rfl;have ev:=r.cell 4 _ rfl;have r0:wc.cell? ⟨w,0,none⟩=_:=Za r.res 0 _ rfl;have eS:wc.cell? ⟨w,1,none⟩=_:=Za r.res 1 _ rfl;have eU:wc.cell? ⟨w,2,none⟩=_:=Za r.res 2 _ rfl;have eK:wc.cell? ⟨w,3,none⟩=_:=Za r.res 3 _ rfl;have ex:wc.cell? ⟨w,4,none⟩=_:=Za r.res 4 _ rfl;have ff:wc.frozen? ⟨w,0,none⟩=false:=Zd r.res (k:=0);have f1:wc.frozen? ⟨w,1,none⟩=false:=Zd r.res (k:=1);have eX:wc.frozen? ⟨w,2,none⟩=false:=Zd r.res (k:=2);have f3:wc.frozen? ⟨w,3,none⟩=false:=Zd r.res (k:=3);have eY:wc.frozen? ⟨w,4,none⟩=false:=Zd r.res (k:=4)
 go_wp2_with fail
 have aD:=Zc (k:=4) (v:=.slice (some ⟨af,0,none⟩) I.length an) (Zc (k:=3) (v:=.slice aa L c1) (Zc (k:=2) (v:=.slice N F O) (Zc (k:=1) (v:=.int .i64 (own:Int)) (Zc (k:=0) (v:=.int .i64 (Z:Int)) (vs:=[.int .i64 0,.int .i64 0,.slice none 0 0,.slice none 0 0,.slice none 0 0]) r.res))));have aB:Fr (fun b=>b=w.heap.size) wc (((((wc.setCell ⟨w,0,none⟩ (.int .i64 (Z:Int))).setCell ⟨w,1,none⟩ (.int .i64 (own:Int))).setCell ⟨w,2,none⟩ (.slice N F O)).setCell ⟨w,3,none⟩ (.slice aa L c1)).setCell ⟨w,4,none⟩ (.slice (some ⟨af,0,none⟩) I.length an)):=(((((Qa (fun b=>b=w.heap.size) wc).setCell _ (fun _=>rfl)).setCell _ (fun _=>rfl)).setCell _ (fun _=>rfl)).setCell _ (fun _=>rfl)).setCell _ (fun _=>rfl);obtain⟨bi,dx⟩:=yp ((((((wc.setCell ⟨w,0,none⟩ (.int .i64 (Z:Int))).setCell ⟨w,1,none⟩ (.int .i64 (own:Int))).setCell ⟨w,2,none⟩ (.slice N F O)).setCell ⟨w,3,none⟩ (.slice aa L c1)).setCell ⟨w,4,none⟩ (.slice (some ⟨af,0,none⟩) I.length an)));rw [dx] at aD aB ⊢;have et:yr bi w 0 (.int .i64 (Z:Int)):=Za aD 0 _ rfl;have cC:yr bi w 1 (.int .i64 (own:Int)):=Za aD 1 _ rfl;have eh:yr bi w 2 (.slice N F O):=Za aD 2 _ rfl;have ci:yr bi w 3 (.slice aa L c1):=Za aD 3 _ rfl;have cW:yr bi w 4 (.slice (some ⟨af,0,none⟩) I.length an):=Za aD 4 _ rfl;clear r0 eS eU eK ex ff f1 eX f3 eY d1 d3 eM ev d8 dx aD;have dg:=cF.out;rw [qM] at dg;obtain⟨-,d9,fe⟩:=dg.slice (by rw [Ze (n:=56) (fun _=>rfl)];omega);have fj:=r.lo;have cK:=aB.size;refine qw (v:=.agg #[.int .i64 (Z:Int),.int .i64 (own:Int),.slice N F O,.slice aa L c1,.slice (some ⟨af,0,none⟩) I.length an]) (by simp [results,results171,go_sem,et,cC,eh,ci,cW]) rfl ⟨⟨N,O,aa,c1,some ⟨af,0,none⟩,an,rfl,⟨e8,?_,d9,?_,e5,?_⟩⟩,?_,r.fr.trans aB (fun b z H=>ya)⟩
 .exact(IntS.keep (IntS.keep ep (bT.same (fun b z=>⟨ya,ya⟩))) (aB.same (fun b z=>⟨ya,ya⟩))).more (fun b z=>⟨ya,ya⟩)
 .exact(qU (qZ fe (S':=fun b=>B<=b/\b<wc) (fun b z=>z.elim (fun h=>h.elim) id)) (aB.same (fun b z=>⟨z.2,ya⟩))).more (fun b z=>⟨ya,ya⟩)
 .exact qZ (qU (qU eH (bT.same (fun b z=>⟨ya,ya⟩))) (aB.same (fun b z=>⟨ya,ya⟩))) (fun b z=>⟨ya,ya⟩)
 rw [eJ]
 exact r.rd.keep cK (fun b am=>aB.block b (by
  rcases am with am | am
  .omega
  .have:=cS b am;have:=r.fr.size;omega) (fun H=>by
  rcases am with am | am
  .omega
  have:=cS b am;omega))
end Go.Proofs.YtjadnfodboepeaaGreat
