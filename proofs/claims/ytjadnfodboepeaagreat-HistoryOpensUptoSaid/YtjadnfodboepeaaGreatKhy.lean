import Derived.Test.YtjadnfodboepeaaGreatKyb
import Derived.Laws.DeepNot64
set_option linter.all false
set_option maxRecDepth 100000
set_option maxHeartbeats 8000000
namespace Go.Proofs.YtjadnfodboepeaaGreat
open Tryz
open Go.RowKit
variable {w w' v:World} {n k m i j b:Nat} {A:Option Addr} {S:Nat->Prop} {a:Int} {l:List Int} {x xA xB:Value} {g:TypeId} {h:ByteArray} {X Y:List Value} {M:V}
theorem xor_i64_zero (E:n<9223372036854775808):bits .xor .i64 (n:Int) 0=(n:Int):=by
 show IntKind.i64.wrap ((BitVec.ofInt 64 (n:Int) ^^^ BitVec.ofInt 64 0).toNat:Int)=_;have z:BitVec.ofInt 64 0=0#64:=yf;rw [z,BitVec.xor_zero,ofInt_u64 n ya,IntKind.wrap_i64];omega
theorem xor_i64_ones (z:n<9223372036854775808):bits .xor .i64 (n:Int) (-1)=-1 - (n:Int):=by
 rw [<-i64_not n z];show IntKind.i64.wrap ((BitVec.ofInt 64 (n:Int) ^^^ BitVec.ofInt 64 (-1)).toNat:Int)=IntKind.i64.wrap ((BitVec.ofInt 64 (-1) ^^^ BitVec.ofInt 64 (n:Int)).toNat:Int);rw [BitVec.xor_comm]
theorem zag (L:-9223372036854775808<=a) (K:a<9223372036854775808) (z:n=(if 0<=a then (2*a).toNat else (-2*a - 1).toNat)) :
 bits .xor .i64 ((n:Int) / 2) (wrap64 (-wrap64 (bits .and .u64 (n:Int) 1)))=a:=by
 have H:n<18446744073709551616:=(by rw [z];split<;>omega)
 have F:bits .and .u64 (n:Int) 1=((n % 2:Nat):Int):=by
  have h:=u64_and_nat n 1 H ya;rw [nat_mask1] at h;exact h
 have I:((n:Int) / 2)=((n / 2:Nat):Int):=ya;rw [F,I]
 by_cases h:0<=a
 .rw [qr h] at z;have E:n % 2=0:=ya;rw [E,show wrap64 (-wrap64 ((0:Nat):Int))=0 by unfold wrap64;omega,xor_i64_zero ya];omega
 rw [qo h] at z;have E:n % 2=1:=ya;rw [E,show wrap64 (-wrap64 ((1:Nat):Int))=-1 by unfold wrap64;omega,xor_i64_ones ya];omega
theorem dint_any (rest:List Int) (hd:DecB w n A l k m) (I:BtS w S A l) (O:∀ b,S b->b<w/\b≠n) (N:-9223372036854775808<=a) (M:a<9223372036854775808) (E:l.drop m=lebF (zigF a)++rest) :
 Calls prog 277 #[.pointer (some ⟨n,0,none⟩)] w (DecN n A l k (m+(lebF (zigF a)).length) (.int .i64 a) w):=by
 replace hd:=hI hd;replace I:=hI I;replace E:=hI E;have z:=zag_zig N M;have K:zigF a<18446744073709551616:=(by rw [z];split<;>omega);obtain⟨d,L⟩:=yp (zigF a);rw [L] at z K E ⊢;replace z:=hI z;clear L;go_enter func277,ntmps277
 go_wp2_with fail
 refine(Zfh d rest hd I O K E).mono ?_;rintro e R ⟨rfl,F,H⟩;replace F:=hI F;replace H:=hI H
 go_wp2_with fail
 rw [zag N M z.out];go_ret;exact⟨rfl,F,H⟩
def RealV (v:V):Prop:=Zdx v=true/\-9223372036854775808<=v.i/\v.i<9223372036854775808
theorem Zig (t:h.toList.isEmpty=true):h=⟨#[]⟩:=(ZiT h).mpr (List.isEmpty_iff.1 t)
theorem RealV.cases {v:V} (h:RealV v):(v=⟨3,0,⟨#[]⟩⟩\/v=⟨3,1,⟨#[]⟩⟩)\/(∃ n:Int,v=⟨4,n,⟨#[]⟩⟩/\-9223372036854775808<=n/\n<9223372036854775808)\/(∃ t,v=⟨5,0,t⟩/\t.size<=64):=by
 obtain⟨k,i,t⟩:=v;obtain⟨E,H,I⟩:=h;simp only at H I;unfold Zdx at E;simp only [qE,qT] at E;obtain⟨⟨z,n1⟩,n2⟩:=E;unfold Zp at z;simp only at z n1 n2;rw [qo ya] at z;split at z
 .rename_i e
  simp only [qE,Bool.or_eq_true,qT] at z;have F:=Zig z.2;subst e F;rcases z.1 with e | e
  .subst e;exact .inl (.inl rfl)
  subst e;exact .inl (.inr rfl)
 split at z
 .rename_i e
  have F:=Zig z;subst e F;exact .inr (.inl ⟨i,rfl,H,I⟩)
 split at z
 .rename_i e
  simp only [qE,qT] at z;obtain⟨K,L⟩:=z;subst e K;exact .inr (.inr ⟨t,rfl,ya⟩)
 cases z
theorem set3_block (h:w.heap[n]?=some (.cells #[x,xA,xB] g (0,0))) (c y z:Value):(((w.setCell ⟨n,0,none⟩ c).setCell ⟨n,1,none⟩ y).setCell ⟨n,2,none⟩ z).heap[n]?=some (.cells #[c,y,z] g (0,0)) :=
 Zc (vs:=[c,y,xB]) (k:=2) (Zc (vs:=[c,xA,xB]) (k:=1) (Zc (vs:=[x,xA,xB]) (k:=0) h))
theorem val_end {d y I:Value} (K:((w'.setCell ⟨n,0,none⟩ d).setCell ⟨n,1,none⟩ y).setCell ⟨n,2,none⟩ I=v) (X:w'.heap[n]?=some (.cells #[x,xA,xB] g (0,0))) (N:DecB w' k A m i j) (H:k≠n) (O:Fr (fun xA=>xA=k) w w') (R:w<=n) :
 v.cell? ⟨n,0,none⟩=some d/\yr v n 1 y/\yr v n 2 I/\DecB v k A m i j/\Fr (fun xA=>xA=k) w v:=by
 have F:=set3_block X d y I;rw [K] at F;refine⟨Za F 0 _ rfl,Za F 1 _ rfl,Za F 2 _ rfl,?_,?_⟩
 .rw [<-K];exact(qc _ _ _ _ H).trans ((qc _ _ _ _ H).trans ((qc _ _ _ _ H).trans N))
 rw [<-K];exact((O.setCell _ (fun M=>ya)).setCell _ (fun M=>ya)).setCell _ (fun M=>ya)
theorem bool_byte {rest:List Int} (t:l.drop n=valB ⟨3,a,h⟩++rest) (E:a=0\/a=1):l[n+1]?=some a:=by
 have z:(l.drop n)[1]?=some a:=(by rw [t];rcases E with rfl | rfl<;>rfl);rwa [List.getElem?_drop] at z
theorem Zll (L:w'.heap[m]?=some (.cells Y.toArray g (0,0))) (I:w'.heap[k]?=some (.cells X.toArray g (0,0))) (R:Fr (fun K=>K=n) w w') (H:Fr (fun K=>K=n) w' v) (N:DecB v n A i j b) (U:w<=k) (W:k<m) (Z:n<k) (d:Nat) (x:Value) :
 (v.setCell ⟨m,d,none⟩ x).heap[k]?=some (.cells X.toArray g (0,0))/\(v.setCell ⟨m,d,none⟩ x).heap[m]?=some (.cells (Y.set d x).toArray g (0,0))/\DecB (v.setCell ⟨m,d,none⟩ x) n A i j b/\Fr (fun K=>K=n) w (v.setCell ⟨m,d,none⟩ x) :=
 ⟨(qc _ _ _ _ (by show k≠m;omega)).trans ((H.block k (Zb I) ya).trans I),Zc ((H.block m (Zb L) ya).trans L),(qc _ _ _ _ (by show n≠m;omega)).trans N,(R.trans H (fun K _ m=>m)).setCell _ (fun O=>by exfalso;have:m<w:=O;omega)⟩
theorem dvalue_any (rest:List Int) (hd:DecB w n A l k m) (Z:BtS w S A l) (ah:∀ b,S b->b<w/\b≠n) (aP:RealV M) (I:l.drop m=valB M++rest) (aY:l.length<=k) :
 Calls prog 274 #[.pointer (some ⟨n,0,none⟩)] w (DecN n A l k (m+(valB M).length) (vAgg M) w):=by
 have bg:=hd.lt;replace Z:=hI Z;obtain⟨g,ab⟩:=yp w.heap.size;obtain⟨O,U⟩:=yp (w.alloc (.cells #[.int .i64 0,.int .i64 0,.string ⟨#[]⟩] 108));have aw:=hI (show Fr (fun b=>b=n) w O by rw [<-U];exact(Qa _ w).alloc _);have ay:=hI (show O.heap[g]?=some (.cells #[.int .i64 0,.int .i64 0,.string ⟨#[]⟩] 108 (0,0)) by rw [<-U,<-ab];exact qb w _);have:O<=g+1/\g+1<=O:=(by rw [<-U,<-ab];simp);have aI:=hI (show DecB O n A l k m by rw [<-U];exact(qd w _ n bg).trans hd);clear hd
 have aJ:l[m]?=some (IntKind.u8.wrap M.k):=by
  have N:(l.drop m)[0]?=some (IntKind.u8.wrap M.k):=(by rw [I];rfl);rwa [List.getElem?_drop,Nat.add_zero] at N
 replace I:=hI I;obtain⟨am,aG⟩:=yp (m+(valB M).length);have aA:=hI aG;rw [aG];clear aG;go_enter func274,ntmps274
 go_wp2_with fail
 try rw [U]
 try rw [ab]
 clear U;have aN:=hI ab.symm;have aq:n<g:=ya;have bk:∀ b,S b->b<g/\b≠n:=(fun b au=>yl (ah b au));clear ab;refine(next_any n A l k m _ S O aI (aw.bts Z ah) aJ).mono ?_;rintro e ar ⟨rfl,ak,aE⟩;replace ak:=hI ak;have aQ:=hI (aw.trans aE (fun b _ h=>h));have aF:=hI ((aE.block g (Zb ay) ya).trans ay);clear aE ay aI aw aJ
 have aa:wrap64 (M.k % 256)=M.k/\3<=M.k/\M.k<=5:=by
  rcases aP.cases with (rfl | rfl) | ⟨d,rfl,_⟩ | ⟨t,rfl,_⟩<;>(unfold wrap64;simp)
 have aL:=hI aa.1;go_upto_region 2 with fail
 try rw [aL]
 obtain⟨h,az⟩:=yp ar.heap.size;have aB:g<h:=(yl (Zb aF));obtain⟨K,R⟩:=yp (ar.alloc (.cells #[.int .i64 M.k,.int .i64 0,.string ⟨#[]⟩] 108));have c:=hI (show Fr (fun b=>b=n) w K by rw [<-R];exact aQ.alloc _);have ap:=hI (show K.heap[g]?=some (.cells #[.int .i64 0,.int .i64 0,.string ⟨#[]⟩] 108 (0,0)) by rw [<-R];exact(qd _ _ _ ya).trans aF);have z:=hI (show K.heap[h]?=some (.cells #[.int .i64 M.k,.int .i64 0,.string ⟨#[]⟩] 108 (0,0)) by rw [<-R,<-az];exact qb ar _);have ai:=hI (show DecB K n A l k (m+1) by rw [<-R];exact(qd _ _ _ ya).trans ak);rw [az,R];clear R az aL aF aQ ak;have bh:yr K h 0 (.int .i64 M.k):=Za z 0 _ rfl
 go_upto_block 0 with fail
 clear bh
 go_cut [] from 9 to 33 (fun aj=>aj.heap[g]?=some (.cells #[.int .i64 0,.int .i64 0,.string ⟨#[]⟩] 108 (0,0))/\aj.heap[h]?=some (.cells #[.int .i64 M.k,.int .i64 M.i,.string M.t] 108 (0,0))/\DecB aj n A l k am/\Fr (fun b=>b=n) w aj)
 case first =>
  have aK:∀ b,S b->b<K/\b≠n:=(fun b au=>ym (bk b au) (Zb z));have av:w<=g:=(by rw [<-aN];exact qp _);rcases aP.cases with (rfl | rfl) | ⟨d,rfl,aV,bf⟩ | ⟨t,rfl,aU⟩;rotate_left 2
  .have af:l.drop (m+1)=lebF (zigF d)++rest:=by
    have N:=congrArg (List.drop 1) I;rw [List.drop_drop] at N;rw [N];simp [valB]
   have ac:=hI (show m+1+(lebF (zigF d)).length=am by rw [<-aA];simp [valB];omega);simp only at z;clear aa I
   go_wp2_with fail
   refine(dint_any rest ai (c.bts Z ah) aK aV bf af).mono ?_;rintro e L ⟨rfl,F,E⟩;rw [ac] at F;have W:=hI (Zll z ap c E F av aB aq 1 (.int .i64 d));have aH:yr L h 1 (.int .i64 0):=Za ((E.block h (Zb z) ya).trans z) 1 _ rfl;have aM:L.frozen? ⟨h,1,none⟩=false:=Zd ((E.block h (Zb z) ya).trans z);clear F E
   go_wp2
   go_meet;exact W
  .have af:l.drop (m+1)=lebF t.size++(txtB t++rest):=by
    have N:=congrArg (List.drop 1) I;rw [List.drop_drop] at N;rw [N];simp [valB]
   have ac:=hI (show m+1+(lebF t.size).length+t.size=am by rw [<-aA];simp [valB,Zdb];omega);simp only at z;clear aa I
   go_wp2_with fail
   refine(Zih t rest ai (c.bts Z ah) aK aU ya af aY).mono ?_;rintro e L ⟨rfl,F,E⟩;rw [ac] at F;have W:=hI (Zll z ap c E F av aB aq 2 (.string t));have aH:yr L h 2 (.string ⟨#[]⟩):=Za ((E.block h (Zb z) ya).trans z) 2 _ rfl;have aM:L.frozen? ⟨h,2,none⟩=false:=Zd ((E.block h (Zb z) ya).trans z);clear F E
   go_wp2
   go_meet;exact W
  all_goals
   have af:=bool_byte I yb;have ac:=hI (show m+1+1=am by rw [<-aA];rfl);simp only at z;clear aa I
   go_wp2_with fail
   refine(next_any n A l k (m+1) _ S K ai (c.bts Z ah) af).mono ?_;rintro e L ⟨rfl,F,E⟩;rw [ac] at F;have W:=hI (fun x=>Zll z ap c E F av aB aq 1 x);have aH:yr L h 1 (.int .i64 0):=Za ((E.block h (Zb z) ya).trans z) 1 _ rfl;have aM:L.frozen? ⟨h,1,none⟩=false:=Zd ((E.block h (Zb z) ya).trans z);clear F E;go_upto_region 8 with fail
   have bl:=fun x=>Za (W x).2.1 1 _ rfl
   go_wp2
   go_meet;exact W _
 obtain⟨ae,an,aC,aD⟩:=hcut;obtain⟨H,rfl⟩:∃ H:World,H=wc:=⟨_,rfl⟩;have aO:=hI ae;replace aC:=hI aC;replace aD:=hI aD;have ao:∀ o,H.frozen? ⟨g,o,none⟩=false:=fun o=>Zd aO;have aZ:yr H h 0 (.int .i64 M.k):=Za an 0 _ rfl;have n1:yr H h 1 (.int .i64 M.i):=Za an 1 _ rfl;have n2:yr H h 2 (.string M.t):=Za an 2 _ rfl;have bb:yr H g 0 (.int .i64 0):=Za ae 0 _ rfl;have be:yr H g 1 (.int .i64 0):=Za ae 1 _ rfl;have aT:yr H g 2 (.string ⟨#[]⟩):=Za ae 2 _ rfl;have aS:=ao 0;have aX:=ao 1;have bj:=ao 2;clear ao ae an aa ap z ai c
 go_wp2_with fail
 obtain⟨bm,ax⟩:=yp (((H.setCell ⟨g,0,none⟩ (.int .i64 M.k)).setCell ⟨g,1,none⟩ (.int .i64 M.i)).setCell ⟨g,2,none⟩ (.string M.t));obtain⟨aR,bi,ba,aW,bc⟩:=val_end (w:=w) ax aO aC ya aD (by rw [<-aN];omega);rw [ax];clear ax bb be aT aZ n1 n2 aS aX bj;exact qw (v:=vAgg M) (by simp [results,results274,go_sem,vAgg,aR,bi,ba]) rfl ⟨rfl,aW,bc⟩
def DRowP (d:Nat) (A:Option Addr) (n c E:Nat) (r:Row) (w:World) (e:Ending) (w':World):Prop:=∃ A' z,e=.returned (.slice A' r z)/\w'.ownsRow w 108 3 (.slice A' r z) r (Zq r)/\DecB w' d A n c E/\Fr (fun b=>b=d) w w'
theorem drow_any (r:Row) (rest:List Int) (hd:DecB w n A l k m) (ab:BtS w S A l) (ar:∀ b,S b->b<w/\b≠n) (ap:∀ v ∈ r,RealV v) (bc:r.length<=12) (M:l.drop m=rowB r++rest) (aH:l.length<=k) :
 Calls prog 270 #[.pointer (some ⟨n,0,none⟩)] w (DRowP n A l k (m+(rowB r).length) r w):=by
 obtain⟨az,aC,aw,ay,aA⟩:=qA ZhX;have be:=hd.lt;replace ab:=hI ab;replace hd:=hI hd;replace ap:=hI ap;have ae:l.drop m=lebF r.length++(r.flatMap valB++rest):=(by rw [M];unfold rowB;rw [qB]);have aL:=hI ae;obtain⟨an,_⟩:=Zjk ae;obtain⟨aj,au⟩:=yp (m+(rowB r).length);have aP:=hI (show m+(lebF r).length+(r.flatMap valB).length=aj by rw [<-au];unfold rowB;rw [qi];omega);replace an:=hI an;rw [au];clear au M ae
 have aS:∀ w:World,(Instr.makeSlice 116 (.int .i64 0) (.int .u64 (r:Int))).run prog w=.ok (.slice (some ⟨w,0,none⟩) 0 r.length) (w.alloc (.cells (madeCells (Value.agg #[.int .i64 0,.int .i64 0,.string ⟨#[]⟩]).cells (r.length*3)) 108)):=fun w=>by
  have M:=run_make (P:=prog) w 116 108 az _ underlying116 aC aw .i64 .u64 0 r ya ya (by rw [aA];omega) ya;rw [ay] at M;simpa using M
 have:decide ((12:Int)<(r:Int))=false:=qe ya;go_enter func270,ntmps270
 go_wp2_with fail
 refine(Zfh r _ hd ab ar ya aL).mono ?_;rintro e aF ⟨rfl,aa,aq⟩;replace aa:=hI aa;have aV:=hI aq;have aU:=aq.size;clear aq
 go_wp2_with fail
 clear aS;have aG:=hI (show DecB (aF.alloc (.cells (madeCells (Value.agg #[.int .i64 0,.int .i64 0,.string ⟨#[]⟩]).cells (r.length*3)) 108)) n A l k (m+(lebF r).length) from (qd _ _ _ aa.lt).trans aa)
 go_loopw [4,13] (fun s i wr=>∃ (q H:Nat) (A':Option Addr) (I:Nat),q<=r/\s=.slice A' q I/\i=.int .u64 (q:Int)/\wr.ownsRow w 108 3 (.slice A' q I) q (Zq (r.take q))/\DecB wr n A l k H/\H+((r.drop q).flatMap valB).length=aj/\l.drop H=(r.drop q).flatMap valB++rest/\Fr (fun b=>b=n) w wr) (fun _ i _=>r.length - (intOf i).toNat)
 case atStart=>exact⟨0,_,_,_,qk _,rfl,rfl,ZbR (World.ownsRow_made _ _ _ ya yh (by simp [size_madeCells])) aU,aG,by rw [List.drop_zero];exact aP,by rw [List.drop_zero];exact an,aV.alloc _⟩
 obtain⟨q,H,A',I,ba,rfl,rfl,z,L,E,F,ac⟩:=hrel;replace z:=hI z;replace L:=hI L;have U:=hI ac;have bb:=ac.size;clear ac;rcases qv q r.length with N | aY
 .have aX:decide ((q:Int)<(r:Int))=true:=qt ya;have aK:decide (q<r)=true:=(by simp [N]);have ao:=qq N;have ai:=qj N;have W:=ap r[q] (qJ N);rw [ao,List.flatMap_cons,qB] at F;rw [ao,List.flatMap_cons,qi] at E;obtain⟨x,aD⟩:=yp (r[q]);rw [aD] at W F E ai;replace F:=hI F;replace E:=hI E;replace W:=hI W;have aO:=hI (show Zq (r.take (q+1))=Zq (r.take q)++[.int .i64 x.k,.int .i64 x.i,.string x.t] by rw [ai,ZeQ]);clear ao ai aD
  go_wp2_with fail
  refine(dvalue_any _ L (U.bts ab ar) (fun b ax=>yl (ar b ax)) W F aH).mono ?_;rintro e af ⟨rfl,K,O⟩;replace K:=hI K;have aQ:=hI (U.trans O (fun b _ h=>h));have aZ:=O.size;have Z:=hI (show af.ownsRow w 108 3 (.slice A' q I) q (Zq (r.take q)) from Zo z (fun g R=>O.block g (ZN z R) (yl (Zs z R))));have aM:=hI (show l.drop (H+(valB x).length)=(r.drop (q+1)).flatMap valB++rest by rw [<-List.drop_drop,F,List.drop_left]);clear O z L U F;obtain⟨am,ah,ak⟩:=x
  go_wp2_with (at_builtin;refine Zn rfl (.tmp 15) (.tmp 18) 116 rfl 32 underlying116 aC aw ay aA rfl yf rfl (Zo Z (fun g R=>qd _ _ _ (ZN Z R))) ⟨af,0,none⟩ 1 1 [.int .i64 am,.int .i64 ah,.string ak] rfl rfl (World.news_of_block (qb af (.cells #[.int .i64 am,.int .i64 ah,.string ak] 108))) (by simp [Value.oneCell']) yh ya yd ?_;intro aJ aR bf aB aE;have aN:=hI aB;have av:=hI aE;clear aB aE)
  go_roundw
  case rel=>exact⟨q+1,H+(valB ⟨am,ah,ak⟩).length,aJ,aR,ya,rfl,by go_num,by rw [aO];exact aN,(av.block n (by have:=K.lt;simp;omega) (fun e=>yl (Zs Z e.symm))).trans ((qd _ _ _ K.lt).trans K),by rw [<-E];omega,aM,(aQ.alloc _).trans (Qc (X:=fun b=>w<=b) av (fun b _ e=>Zs Z e.symm)) (fun b ax h=>ya)⟩
  (simp [intOf];omega)
 obtain rfl:q=r.length:=ya;have aX:decide ((r:Int)<(r:Int))=false:=qe ya;have aK:decide (r.length<r)=false:=yb;rw [qQ] at E;have aW:=hI (show H=aj by simpa using E);have aI:=hI (show wr.ownsRow w 108 3 (.slice A' r I) r (Zq r) by have aT:=z.out;rwa [qM] at aT);clear E z F
 go_wp2
 go_ret;exact⟨A',I,yb,aI,by rw [<-aW];exact L,U⟩
theorem row1_idle (E I z:Addr) (w:World) :
 CallsD prog 269 #[.pointer (some E),.pointer (some I),.pointer (some z)] .returning w fun e L w'=>e=.returned (.tuple #[])/\L=.returning/\w'=w:=by
 refine callsD_of_wpS func269 rfl fun H cs K=>?_
 have F:∀ w:World,(Instr.typeAssert Value.nilIface 20 37 true).run prog w=.ok (.tuple #[.int .i64 0,.bool false]) w:=fun w=>by
  simp [Instr.typeAssert]
 apply wpS_seq;apply wpS_region;simp [F,wpOpsS,go_sem,recoverD,K,ntmps269,Exit.thenS];apply wpS_seq;apply wpS_region;simp [wpOpsS,go_sem,Exit.thenS];refine wpS_cond (t:=false) (by simp [Act.eval,Array.replicate]) ?_;simp only [Bool.false_eq_true,if_false];refine wpS_of_wp (wp_skip ?_);cases H
 simp_all [bodyPostS,results,results269]
theorem res3k {t0 E:TypeId} (I:w.heap[n]?=some (.cells #[x] t0 (0,0))) (V1:w.heap[n+1]?=some (.cells #[xA] g (0,0))) (V2:w.heap[n+2]?=some (.cells #[xB] E (0,0))) (c y z:Value) :
 ∃ w',(((w.setCell ⟨n,0,none⟩ c).setCell ⟨n+1,0,none⟩ y).setCell ⟨n+1+1,0,none⟩ z).drew=w'/\w'.cell? ⟨n,0,none⟩=some c/\w'.cell? ⟨n+1,0,none⟩=some y/\w'.cell? ⟨n+1+1,0,none⟩=some z/\Below n w w'/\∀ q,q≠n->q≠n+1->q≠n+2->w'.heap[q]?=w.heap[q]?:=by
 obtain⟨w',h,L,K,H,M⟩:=res3 I V1 V2 c y z;refine⟨w',h,L,K,H,M,fun q N n1 n2=>?_⟩;rw [<-h];exact(qc _ _ _ _ (by show q≠n+1+1;omega)).trans ((qc _ _ _ _ (by show q≠n+1;omega)).trans (qc _ _ _ _ (by show q≠n;omega)))
def RowRP (E:Nat) (r:Row) (w:World) (e:Ending) (w':World):Prop:=∃ A' z,e=.returned (.tuple #[.slice A' r z,.int .i64 (E:Int),.int .i64 0])/\w'.ownsRow w 108 3 (.slice A' r z) r (Zq r)/\Below w w w'
theorem Row_any (c k:Nat) (r:Row) (rest:List Int) (ai:BtS w S A l) (aJ:∀ b,S b->b<w) (aq:∀ v ∈ r,RealV v) (ba:r.length<=12) (ap:l.drop k=rowB r++rest) (aU:l.length<=c) :
 Calls prog 256 #[.slice A l c,.int .i64 (k:Int)] w (RowRP (k+(rowB r).length) r w):=by
 replace ai:=hI ai;have aW:=hI ap;replace aq:=hI aq;obtain⟨_,_,bg,_⟩:=ZhS (show l.drop k=lebF r.length++(r.flatMap valB++rest) by rw [ap];unfold rowB;rw [qB]);clear ap;obtain⟨au,am⟩:=yp (k+(rowB r).length);have aR:=hI am;rw [am];clear am;obtain⟨E,K⟩:=yp (((w.alloc (.cells #[.slice none 0 0] 116)).alloc (.cells #[.int .i64 0] 3)).alloc (.cells #[.int .i64 0] 37));obtain⟨g,H⟩:=yp w.heap.size;have ab:=hI (show Below w w E by rw [<-K];exact(((qa _ w).alloc nR _).alloc yb _).alloc yd _);have aN:E<=g+3/\g+3<=E:=(by rw [<-K,<-H];simp);have aB:=hI (show E.heap[g]?=some (.cells #[.slice none 0 0] 116 (0,0)) by rw [<-K,<-H];exact(qd _ _ _ yd).trans ((qd _ _ _ yb).trans (qb w _)));have aK:=hI (show E.heap[g+1]?=some (.cells #[.int .i64 0] 3 (0,0)) by rw [<-K,<-H];exact(qd _ _ _ yb).trans (by simpa using qb (w.alloc (.cells #[.slice none 0 0] 116)) (.cells #[.int .i64 0] 3)));have aL:=hI (show E.heap[g+2]?=some (.cells #[.int .i64 0] 37 (0,0)) by rw [<-K,<-H];simpa using qb ((w.alloc (.cells #[.slice none 0 0] 116)).alloc (.cells #[.int .i64 0] 3)) (.cells #[.int .i64 0] 37));have af:∀ b,S b->b<g:=(fun b F=>by rw [<-H];exact aJ b F);have ao:Below g w E:=(by rw [<-H];exact ab);have ab:=hI ao;have aH:=hI (show BtS E S A l from qU ai (qS ao af));clear ao
 go_enter_defers func256,ntmps256
 go_wp2_with fail
 try rw [K]
 try rw [H]
 clear K;have aY:=hI H.symm;clear H aJ ai;refine(Zgi ya).mono ?_;rintro e ak ⟨rfl,W,M⟩;obtain⟨d,hd⟩:=yp E.heap.size;rw [hd] at W M aN;rw [hd];replace W:=hI W;have az:=hI (show BtS ak S A l from qU aH (qS M (fun b F=>yl (af b F))));have aD:=hI (ab.trans (M.mono ya));have O:=hI ((M.block g ya).trans aB);have an:=hI ((M.block (g+1) ya).trans aK);have ac:=hI ((M.block (g+2) ya).trans aL);clear hd M aB aK aL ab aH
 go_wp2_with fail
 refine(drow_any r rest W az (fun b F=>⟨ym (af b F) (Zb O),yl (af b F)⟩) aq ba aW aU).mono ?_;rintro e w2 ⟨L,c2,rfl,aj,R,aa⟩;have bf:g<=ak:=(yl (Zb O));have aT:=hI (ZbR aj bf);have N:∀ q,(Value.slice L r c2).ownBlock=some q->g+3<=q/\q<w2:=fun q I=>⟨ym (Zs aj I) (Zb ac),ZN aj I⟩;replace N:=hI N;clear aj;rw [aR] at R;replace R:=hI R;have ah:=hI ((aa.block g (Zb O) ya).trans O);have aA:=hI ((aa.block (g+1) (Zb an) ya).trans an);have aw:=hI ((aa.block (g+2) (Zb ac) ya).trans ac);have aE:=hI (aD.trans (aa.below (n:=g) (yl (Zb O)) (fun b F=>ya)));have bc:yr w2 g 0 (.slice none 0 0):=Za ah 0 _ rfl;have be:w2.frozen? ⟨g,0,none⟩=false:=Zd ah;clear aa O an ac aD W az;go_upto_region 4 with fail
 obtain⟨z,U⟩:=yp (w2.setCell ⟨g,0,none⟩ (.slice L r c2));have ae:=hI (show z.heap[g]?=some (.cells #[.slice L r c2] 116 (0,0)) by rw [<-U];exact Zc (vs:=[.slice none 0 0]) ah);have Z:∀ b,b≠g->z.heap[b]?=w2.heap[b]?:=(fun b F=>by rw [<-U];exact qc _ _ _ _ F);have V1:=hI ((Z (g+1) ya).trans aA);have V2:=hI ((Z (g+2) ya).trans aw);have av:=hI (show DecB z d A l c au from (Z d ya).trans R);have aV:=hI (show z.ownsRow g 108 3 (.slice L r c2) r (Zq r) from Zo aT (fun q I=>Z q (yl (N q I))));have ay:=hI (show Below g w z by rw [<-U];exact aE.setCell nR _);rw [U];clear U Z ah aA aw R aE bc be;have v0:yr z g 0 (.slice L r c2):=Za ae 0 _ rfl;have aS:yr z (g+1) 0 (.int .i64 0):=Za V1 0 _ rfl;have bb:yr z (g+2) 0 (.int .i64 0):=Za V2 0 _ rfl;have aQ:z.frozen? ⟨g,0,none⟩=false:=Zd ae;have aX:z.frozen? ⟨g+1,0,none⟩=false:=Zd V1;have aO:z.frozen? ⟨g+2,0,none⟩=false:=Zd V2;have aP:=av.c1
 go_region
 obtain⟨ar,ax,t0,aZ,aM,aI,aC⟩:=res3k ae V1 V2 (.slice L r c2) (.int .i64 (au:Int)) (.int .i64 0);have aG:=hI (ay.trans aI);have aF:=hI (show ar.ownsRow g 108 3 (.slice L r c2) r (Zq r) from Zo aV (fun q I=>aC q (yl (N q I)) (yl (N q I)) (yl (N q I))));rw [ax];clear ax aI aC v0 aS bb aQ aX aO aP ae V1 V2 ay av
 go_wp2_with fail
 refine leaves_cons (f:=269) (args:=#[.pointer (some ⟨g,0,none⟩),.pointer (some ⟨g+1,0,none⟩),.pointer (some ⟨g+1+1,0,none⟩)]) yb (by simp [go_sem]) ?_;refine(row1_idle ⟨g,0,none⟩ ⟨g+1,0,none⟩ ⟨g+1+1,0,none⟩ ar).mono ?_;rintro e bh bi ⟨rfl,rfl,rfl⟩;simp [Leaves,settle,results,results256,go_sem,t0,aZ,aM];rw [aY] at aG aF;exact⟨_,_,rfl,aF,aG⟩
end Go.Proofs.YtjadnfodboepeaaGreat
