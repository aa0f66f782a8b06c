import Derived.Test.YtjadnfodboepeaaGreatK6a
set_option linter.all false
set_option maxRecDepth 100000
set_option maxHeartbeats 8000000
namespace Go.Proofs.YtjadnfodboepeaaGreat
open Tryz
open Go.RowKit
variable {w:World} {A B:Option Addr} {S:Nat->Prop} {a:Int}
theorem rschCheck_any (ab:Nat) (s:Sch) (aq:TabS w S A s.tt) (b6:∀ b,S b->b<w) :
 Calls prog 116 #[sAgg s.vv A s.tt ab] w (Zaz (schF pcF s) w):=by
 obtain⟨K,z⟩:=s;simp only at aq ⊢;have cQ:=aq.len;replace aq:=hI aq;have ar:=hI ((qa w w).alloc nR (.cells #[.int .i64 K,.slice A z ab] 25));have az:=hI (qb w (.cells #[.int .i64 K,.slice A z ab] 25))
 by_cases bz:8<z.length
 .have ac:=hI (show schF pcF ⟨K,z⟩=2 by unfold schF;rw [qr bz]);have hd:decide ((8:Int)<z)=true:=qt ya;go_enter func116,ntmps116
  go_wp2
  go_ret;exact⟨by rw [ac];rfl,ar⟩
 have hd:decide ((8:Int)<z)=false:=qe ya;go_enter func116,ntmps116
 go_wp2_with fail
 obtain⟨aF,bu⟩:=yp (w.alloc (.cells #[.int .i64 K,.slice A z ab] 25));rw [bu] at ar az ⊢;have ck:aF.heap.size=w.heap.size+1:=(by rw [<-bu];simp);obtain⟨E,aT⟩:=yp w.heap.size;rw [aT] at az ck ar
 try rw [aT]
 have ae:=hI (fun b L=>by rw [<-aT];exact b6 b L:∀ b,S b->b<E);have ay:=hI (show ∀ w',Below E w w'->Below w w w' from fun w' h=>by rw [aT];exact h);clear bu hd b6 aT
 go_loopw [18] (fun i wr=>∃ k:Nat,k<=z/\i=.int .i64 k/\(z.take k).any bigT=false/\Below (E+1) aF wr) (fun i _=>z.length - (intOf i).toNat)
 case atStart=>exact⟨0,qk _,rfl,yb,qa _ _⟩
 obtain⟨k,bl,rfl,I,F⟩:=hrel;replace I:=hI I;have R:=hI F;have Z:=hI (ar.trans (F.mono ya));have H:=hI ((F.block E ya).trans az);have aK:=F.size;clear F;have ak:yr wr E 0 (.int .i64 K):=Za H 0 _ rfl;have ai:yr wr E 1 (.slice A z ab):=Za H 1 _ rfl;have ap:E<wr:=by omega
 by_cases W:k<z
 .have am:(k:Int)<z:=ya;obtain⟨aY,bm,rfl,ao,bj,bD,bk,c1,c2,bp,aE⟩:=(aq.keep (qS Z ae)).at_ W;obtain⟨bX,bK,bQ,bW,aH,bZ,bM,bP,-,-,-,-⟩:=aE;have b7:=bZ.len;have bN:=bM.len;have aR:=bP.len;have aa:=hI (ZjC z k W);have bY:=hI (ZjB z k W);have bi:=hI (R.alloc ya (.cells #[.string (z.getD k t0).name,.slice bj (z.getD k t0).cols.length c1,.int .i64 (z.getD k t0).key,.slice bD (z.getD k t0).refs.length c2,.slice bk (z.getD k t0).checks.length bp] 104));have aV:=hI (ay _ (Z.alloc ya (.cells #[.string (z.getD k t0).name,.slice bj (z.getD k t0).cols.length c1,.int .i64 (z.getD k t0).key,.slice bD (z.getD k t0).refs.length c2,.slice bk (z.getD k t0).checks.length bp] 104)));clear bZ bM bP ak;generalize z.getD k t0=bo at bX bK bQ bW aH aa bY b7 bN aR bi aV;obtain⟨bV,aB,bH,aW,N⟩:=bo;simp only at bX bK bQ bW aH b7 bN aR bi aV;have ac:=hI (show bigT ⟨bV,aB,bH,aW,N⟩=true->schF pcF ⟨K,z⟩=2 from fun h=>by unfold schF;rw [qo bz,qr (bY.out h)])
  by_cases co:8<aB.length
  .have cw:decide ((8:Int)<aB)=true:=qt ya;have aX:=hI (ac (by simp [bigT,co]))
   go_wp2
   go_ret;exact⟨by rw [aX];rfl,aV⟩
  have cw:decide ((8:Int)<aB)=false:=qe ya
  by_cases cz:4<aW.length
  .have cr:decide ((4:Int)<aW)=true:=qt ya;have aX:=hI (ac (by simp [bigT,cz]))
   go_wp2
   go_ret;exact⟨by rw [aX];rfl,aV⟩
  have cr:decide ((4:Int)<aW)=false:=qe ya
  by_cases cd:4<N.length
  .have b9:decide ((4:Int)<N)=true:=qt ya;have aX:=hI (ac (by simp [bigT,cd]))
   go_wp2
   go_ret;exact⟨by rw [aX];rfl,aV⟩
  have b9:decide ((4:Int)<N)=false:=qe ya;have au:=hI (show (z.take (k+1)).any bigT=false by rw [aa,I];simp [bigT];omega)
  go_wp2
  go_roundw
  case rel=>exact⟨k+1,ya,by go_num,au,bi⟩
  simp [intOf];omega
 have am:¬ (k:Int)<z:=ya;have bU:=hI (show z.any bigT=false by have:=I.out;rwa [qs ya] at this);have aM:=hI (show schF pcF ⟨K,z⟩=if K<0\/1000<K\/Zt [] z=false\/ZV z z=false then 70 else chkT pcF z by unfold schF;rw [qo bz,qo (by rw [bU.out];simp)]);clear I bU
 by_cases cE:K<0
 .have ac:=hI (show schF pcF ⟨K,z⟩=70 by rw [aM,qr (.inl cE)])
  go_wp2
  go_ret;exact⟨by rw [ac];rfl,ay _ Z⟩
 by_cases cj:1000<K
 .have ac:=hI (show schF pcF ⟨K,z⟩=70 by rw [aM,qr (.inr (.inl cj))])
  go_wp2
  go_ret;exact⟨by rw [ac];rfl,ay _ Z⟩
 go_wp2_with fail
 clear ak ai;obtain⟨b3,rfl⟩:∃ b3:World,b3=wr:=⟨_,rfl⟩
 go_loopw [50] (fun i wr=>∃ k:Nat,k<=z/\i=.int .i64 k/\Zt [] z=Zt (ZaN (Zff z) k) (z.drop k)/\Below (E+1) aF wr) (fun i _=>z.length - (intOf i).toNat)
 case atStart=>exact⟨0,qk _,rfl,by simp [ZaN],R⟩
 clear R H Z aK ap W am;obtain⟨k,bl,rfl,I,F⟩:=hrel;replace I:=hI I;have R:=hI F;have Z:=hI (ar.trans (F.mono ya));have H:=hI ((F.block E ya).trans az);have aK:=F.size;clear F;have ak:yr wr E 0 (.int .i64 K):=Za H 0 _ rfl;have ai:yr wr E 1 (.slice A z ab):=Za H 1 _ rfl;have ap:E<wr:=by omega
 by_cases W:k<z
 .have am:(k:Int)<z:=ya;have aa:=hI (named_step z k W)
  go_wp2_with fail
  refine(rtable_any ab ⟨K,z⟩ (aq.keep (qS Z ae)) (fun b L=>yl (ae b L)) W).mono ?_;rintro e w2 ⟨rfl,ao⟩;have bq:=hI (R.trans (ao.mono ya));have bF:=hI (Z.trans (ao.mono ya));simp only;clear ao ak ai
  by_cases af:Zdj (ZaN (Zff z) k) (z.getD k t0)=true
  .have au:=hI (show Zt [] z=Zt (ZaN (Zff z) (k+1)) (z.drop (k+1)) by rw [I,aa,af];rfl);rw [af];clear af
   go_wp2
   go_roundw
   case rel=>exact⟨k+1,ya,by go_num,au,bq⟩
   simp [intOf];omega
  have aw:Zdj (ZaN (Zff z) k) (z.getD k t0)=false:=(by simpa using af);have ac:=hI (show schF pcF ⟨K,z⟩=70 by rw [aM,qr (.inr (.inr (.inl (by rw [I.out,aa.out,aw];rfl))))]);rw [aw];clear af aw
  go_wp2
  go_ret;exact⟨by rw [ac];rfl,ay _ bF⟩
 have am:¬ (k:Int)<z:=ya;have bR:=hI (show Zt [] z=true by rw [I,Qu ya];rfl);have cu:=hI (ZfJ z [] bR)
 go_wp2_with fail
 clear I ak ai;obtain⟨bT,rfl⟩:∃ bT:World,bT=wr:=⟨_,rfl⟩
 go_loopw [61] (fun i wr=>∃ k:Nat,k<=z/\i=.int .i64 k/\ZV z z=ZV z (z.drop k)/\Below (E+1) aF wr) (fun i _=>z.length - (intOf i).toNat)
 case atStart=>exact⟨0,qk _,rfl,yb,R⟩
 clear R H Z aK ap W am;obtain⟨k,bl,rfl,I,F⟩:=hrel;replace I:=hI I;have R:=hI F;have Z:=hI (ar.trans (F.mono ya));have H:=hI ((F.block E ya).trans az);have aK:=F.size;clear F;have ak:yr wr E 0 (.int .i64 K):=Za H 0 _ rfl;have ai:yr wr E 1 (.slice A z ab):=Za H 1 _ rfl;have ap:E<wr:=by omega
 by_cases W:k<z
 .have am:(k:Int)<z:=ya;have aa:=hI (Zdp z z k W)
  go_wp2_with fail
  refine(rrefs_any ab ⟨K,z⟩ (aq.keep (qS Z ae)) (fun b L=>yl (ae b L)) W cu).mono ?_;rintro e w2 ⟨rfl,ao⟩;have bq:=hI (R.trans (ao.mono ya));have bF:=hI (Z.trans (ao.mono ya));simp only;clear ao ak ai
  by_cases af:Zac z (z.getD k t0).cols (z.getD k t0).refs=true
  .have au:=hI (show ZV z z=ZV z (z.drop (k+1)) by rw [I,aa,af];rfl);rw [af];clear af
   go_wp2
   go_roundw
   case rel=>exact⟨k+1,ya,by go_num,au,bq⟩
   simp [intOf];omega
  have aw:Zac z (z.getD k t0).cols (z.getD k t0).refs=false:=(by simpa using af);have ac:=hI (show schF pcF ⟨K,z⟩=70 by rw [aM,qr (.inr (.inr (.inr (by rw [I.out,aa.out,aw];rfl))))]);rw [aw];clear af aw
  go_wp2
  go_ret;exact⟨by rw [ac];rfl,ay _ bF⟩
 have am:¬ (k:Int)<z:=ya
 have bL:=hI (show schF pcF ⟨K,z⟩=chkT pcF z by
  rw [aM,qo];rw [bR,show ZV z z=true by rw [I.out,Qu ya];rfl];simp;omega)
 go_wp2_with fail
 clear I ak ai aM;obtain⟨bJ,rfl⟩:∃ bJ:World,bJ=wr:=⟨_,rfl⟩
 go_loopw [72] (fun i wr=>∃ k:Nat,k<=z/\i=.int .i64 k/\chkT pcF z=chkT pcF (z.drop k)/\Below (E+1) aF wr) (fun i _=>z.length - (intOf i).toNat)
 case atStart=>exact⟨0,qk _,rfl,yb,R⟩
 clear R H Z aK ap W am;obtain⟨k,bl,rfl,I,F⟩:=hrel;replace I:=hI I;have R:=hI F;have Z:=hI (ar.trans (F.mono ya));have H:=hI ((F.block E ya).trans az);have aK:=F.size;clear F;have ai:yr wr E 1 (.slice A z ab):=Za H 1 _ rfl;have ap:E<wr:=by omega
 by_cases W:k<z
 .have am:(k:Int)<z:=ya;obtain⟨aY,bm,rfl,ao,bj,bD,bk,c1,c2,bp,aE⟩:=(aq.keep (qS Z ae)).at_ W;have aH:=aE.checks;have bt:=hI aE.pS;have aR:=aE.pS.len;have:aY<wr:=(yl (ae aY ao));have aa:=hI (Zin pcF z k W);have aU:=hI (ZhT ⟨K,z⟩ k W);clear aE;simp only at aU;generalize z.getD k t0=bo at aH aa bt aU aR;obtain⟨bV,aB,bH,aW,N⟩:=bo;simp only at aH aR bt aU aa;obtain⟨aj,b1⟩:=yp (aB.map (·.kind));rw [b1] at aa aU;clear b1
  go_wp2_with fail
  clear ai aH;obtain⟨aP,rfl⟩:∃ aP:World,aP=wr:=⟨_,rfl⟩
  go_loopw [82] (fun i wr=>∃ j:Nat,j<=N/\i=.int .i64 j/\chkL pcF aj N=chkL pcF aj (N.drop j)/\Below (E+1) aF wr/\Below aP aP wr) (fun i _=>N.length - (intOf i).toNat)
  case atStart=>exact⟨0,qk _,rfl,yb,R,qa _ _⟩
  clear R H ap;obtain⟨j,cK,rfl,aO,F,bE⟩:=hrel;replace aO:=hI aO;have R:=hI F;have bc:=hI bE;have H:=hI ((F.block E ya).trans az);have cD:=bE.size;clear F bE;have ap:E<wr:=by omega
  by_cases bI:j<N
  .have cv:(j:Int)<N:=ya;obtain⟨cM,cH,rfl,cW,aD,aA,O,M,aC,A',bf,b0,b5⟩:=(bt.keep (fun b L=>bc.block b (yl (ae b L)))).at_ bI;have aL:=hI (Zio pcF aj N j bI);rw [b0] at aL;obtain⟨aS,bg⟩:=yp (pcF aj (.mk aD aA O M aC));rw [bg] at aL;replace bg:=hI bg;have bC:=hI b5;obtain⟨f1,cf,f3,cg,cn,ca,cA,cq,cC,ce,cc,cF,cy,-,-,-,-⟩:=b5;clear b0
   go_wp2_with fail
   obtain⟨av,aI,bw,bh,aJ,an⟩:=ag wr (.cells #[.int .i64 aD,.int .i64 aA,.int .i64 O.kind,.int .i64 O.index,.int .i64 O.value.k,.int .i64 O.value.i,.string O.value.t,.int .i64 M.kind,.int .i64 M.index,.int .i64 M.value.k,.int .i64 M.value.i,.string M.value.t,.slice A' aC bf] 112);have aJ:=aJ.out;have H:=hI ((aJ.block E ap).trans H);have b2:=hI (R.trans (aJ.mono ya));have cx:=hI (bc.trans (aJ.mono cD));have ct:=bc;have:av=aI+1:=(by rw [<-bw,<-bh];simp);have:E<aI:=ya;have:aP<=aI:=ya;rw [bw]
   try rw [bh]
   clear bw aJ f1 cf f3 cg cn ca cA cq cC ce cc cF cy R bc bh;refine uS (fun w'=>w'.heap[E]?=some (.cells #[.int .i64 K,.slice (some ⟨aY,bm,none⟩) z.length ab] 25 (0,0))/\w'.heap[aI]?=some (.cells #[.int .i64 aD,.int .i64 aA,.int .i64 O.kind,.int .i64 O.index,.int .i64 O.value.k,.int .i64 O.value.i,.string O.value.t,.int .i64 M.kind,.int .i64 M.index,.int .i64 M.value.k,.int .i64 M.value.i,.string M.value.t,.slice A' aC bf] 112 (0,0))) 6 6 fun Q' bG ba=>?_;refine uV 0 (.agg #[.int .i64 K,.slice (some ⟨aY,bm,none⟩) z.length ab]) ba ?_ ⟨H,an⟩ ?_
   .intro w' U;have ak:=Za U.1 0 _ rfl;have ai:=Za U.1 1 _ rfl;go_simp
    (try with_reducible rfl)
   simp only [psA,psB,psC];refine uR [1,1] ba ⟨H,an⟩ ?_;refine uV 3 (.agg #[.int .i64 aD,.int .i64 aA,.int .i64 O.kind,.int .i64 O.index,.int .i64 O.value.k,.int .i64 O.value.i,.string O.value.t,.int .i64 M.kind,.int .i64 M.index,.int .i64 M.value.k,.int .i64 M.value.i,.string M.value.t,.slice A' aC bf]) ba ?_ ⟨H,an⟩ ?_
   .intro w' U;have ak:=Za U.2 0 _ rfl;have ai:=Za U.2 1 _ rfl;have cI:=Za U.2 2 _ rfl;have cU:=Za U.2 3 _ rfl;have cN:=Za U.2 4 _ rfl;have cS:=Za U.2 5 _ rfl;have cX:=Za U.2 6 _ rfl;have cP:=Za U.2 7 _ rfl;have cL:=Za U.2 8 _ rfl;have cJ:=Za U.2 9 _ rfl;have cT:=Za U.2 10 _ rfl;have cV:=Za U.2 11 _ rfl;have cR:=Za U.2 12 _ rfl;go_simp
    (try with_reducible rfl)
   simp only [psA,psB,psC];refine uQ 2 fun bB aQ=>?_;go_simp;refine(Zel _ ab ⟨K,z⟩ k S ((aq.keep (qS (ar.trans (b2.mono ya)) ae)).keep (w':=av.drew) (fun _ _=>rfl)) (fun b L=>by have:=ae b L;show b<av;omega)).mono ?_;rintro e ax ⟨b4,cm,rfl,bn,ci,-,bO⟩;rw [aU] at bn ci ⊢;have aG:Below av av ax:=(qa _ av).drew.trans bO;have cO:=aG.size;have ch:=hI (show IntS ax (fun b=>av<=b/\b<ax) b4 aj from bn);have bb:=hI (b2.trans (aG.mono ya));have be:=hI (cx.trans (aG.mono ya));have H:=hI ((aG.block E ya).trans H);have an:=hI ((aG.block aI ya).trans an);clear bn bO aG;refine aQ _ _ (fun _=>⟨H,an⟩) ?_;clear aQ bB
   try simp only [Act.put,psA,psB,psC]
   refine uQ 4 fun bB aQ=>?_;go_simp;refine(Zfy cm 0 aD aA O M aC A' bf (ch.more (fun b L=>L.2)) Qk ((bC.pS.keep (w':=ax) (fun b L=>(be.block b (yl (ae b L))).trans (ct.block b (yl (ae b L))).symm)).more (fun b L=>by have:=ae b L;show b<ax;omega)) (fun b L=>L) bC.lt bC.rt).mono ?_;rintro e cG ⟨rfl,aZ⟩;rw [show pcFF aj [] (.mk aD aA O M aC)=aS from bg.out];have bb:=hI (bb.trans (aZ.mono ya));have be:=hI (be.trans (aZ.mono ya));have H:=hI ((aZ.block E ya).trans H);have an:=hI ((aZ.block aI ya).trans an);clear aZ;refine aQ _ _ (fun _=>⟨H,an⟩) ?_;clear aQ bB
   try simp only [Act.put,psA,psB,psC]
   refine uR [5,1] ba ⟨H,an⟩ ?_;refine uE bG ?_;clear bG ba Q';have b8:=hI (ay _ (ar.trans (bb.mono ya)))
   by_cases aN:aS=0
   .have au:=hI (show chkL pcF aj N=chkL pcF aj (N.drop (j+1)) by rw [aO,aL,qo (by simpa using aN)]);subst aN;clear aL
    go_wp2
    go_roundw
    case rel=>exact⟨j+1,ya,by go_num,au,bb,be⟩
    simp [intOf];omega
   have bS:=hI (show chkL pcF aj N=aS by rw [aO,aL,qr aN]);have cp:=hI (show chkT pcF z=aS by rw [I,aa,bS,qr aN]);have hd:(aS != 0)=true:=(by simp [aN]);clear bS aL;clear aN
   go_wp2
   go_ret;exact⟨by rw [bL,cp];rfl,b8⟩
  have cv:¬ (j:Int)<N:=ya;have br:=hI (show chkL pcF aj N=0 by rw [aO,show j=N.length by omega,qQ];rfl);have au:=hI (show chkT pcF z=chkT pcF (z.drop (k+1)) by rw [I,aa,br];rfl)
  go_wp2
  go_roundw
  case rel=>exact⟨k+1,ya,by go_num,au,R⟩
  simp [intOf];omega
 have am:¬ (k:Int)<z:=ya;have br:=hI (show chkT pcF z=0 by rw [I,show k=z.length by omega,qQ];rfl)
 go_wp2
 go_ret;exact⟨by rw [bL,br];rfl,ay _ Z⟩
theorem rchk_any (R:Nat) (s:Sch) (ar:Nat) {st:St} (aE:TabS w S A s.tt) (bc:StS w S B st) (b2:∀ b,S b->b<w) :
 Calls prog 53 #[sAgg s.vv A s.tt R,.int .i64 a,ZaM B st ar] w (Zaz (Zv (schF pcF s) s a st) w):=by
 obtain⟨E,z⟩:=s;simp only at aE ⊢;obtain⟨aK,bl⟩:=yp (schF pcF ⟨E,z⟩);have ch:=hI bl;rw [bl];clear bl;replace aE:=hI aE;have b5:=hI bc;have cI:=bc.len;clear bc;have Z:=hI (((qa w w).alloc nR (.cells #[.int .i64 E,.slice A z R] 25)).alloc yb (.cells #[.slice B st ar] 28));go_enter func53,ntmps53
 go_wp2_with fail
 obtain⟨ao,av⟩:=yp ((w.alloc (.cells #[.int .i64 E,.slice A z R] 25)).alloc (.cells #[.slice B st ar] 28));obtain⟨L,an⟩:=yp w.heap.size;have b1:=hI (show ao.heap[L]?=some (.cells #[.int .i64 E,.slice A z R] 25 (0,0)) by rw [<-av,<-an];exact(qd _ _ _ yb).trans (qb w _));have cy:=hI (show ao.heap[L+1]?=some (.cells #[.slice B st ar] 28 (0,0)) by rw [<-av,<-an];simpa using qb (w.alloc (.cells #[.int .i64 E,.slice A z R] 25)) (.cells #[.slice B st ar] 28));have:ao=L+2:=(by rw [<-av,<-an];simp);rw [av] at Z;rw [av];rw [an] at Z
 try rw [an]
 have N:=hI (fun b H=>by rw [<-an];exact b2 b H:∀ b,S b->b<L);have ak:=hI (show ∀ w',Below L w w'->Below w w w' from fun w' h=>by rw [an];exact h);clear av b2 an;refine(rschCheck_any R ⟨E,z⟩ (aE.keep (qS Z N)) (fun b H=>yl (N b H))).mono ?_;rintro e bW ⟨rfl,b3⟩;rw [ch];have af:=hI (b3.mono (show L+2<=ao.heap.size by omega));clear b3
 by_cases aH:aK=0
 .subst aH
  by_cases cv:a<1
  .have U:=hI (show Zv 0 ⟨E,z⟩ a st=1 by unfold Zv ZbD;rw [show Zao a=false by simp [Zao];omega];rfl)
   go_wp2
   go_ret;exact⟨by rw [U];rfl,ak _ (Z.trans (af.mono ya))⟩
  have bo:decide (a<1)=false:=qe cv
  by_cases cr:3<a
  .have U:=hI (show Zv 0 ⟨E,z⟩ a st=1 by unfold Zv ZbD;rw [show Zao a=false by simp [Zao];omega];rfl)
   go_wp2
   go_ret;exact⟨by rw [U];rfl,ak _ (Z.trans (af.mono ya))⟩
  have aS:decide (3<a)=false:=qe cr;have bm:=hI (show Zv 0 ⟨E,z⟩ a st=if 512<Zi st then 2 else if st.length≠z.length then 80 else if stOk ⟨E,z⟩ a 0 st then 0 else 80 by unfold Zv ZbD;rw [show Zao a=true by simp [Zao];omega];rfl);have b7:yr bW (L+1) 0 (.slice B st ar):=c9J af (Za cy 0 _ rfl)
  go_wp2_with fail
  clear bo aS
  go_loopw [8,29] (fun n i wr=>∃ k:Nat,k<=st/\i=.int .i64 k/\n=.int .i64 (Zi (st.take k))/\Zi (st.take k)<=512/\wr=bW) (fun _ i _=>st.length - (intOf i).toNat)
  case atStart=>exact⟨0,qk _,rfl,by simp [Zi],by simp [Zi],rfl⟩
  obtain⟨k,cc,rfl,rfl,aM,rfl⟩:=hrel;have bu:=hI aM
  by_cases ax:k<st
  .have aO:(k:Int)<st:=ya;obtain⟨bC,cf,rfl,bN,A',co,aQ,az,aq⟩:=(b5.keep (qS (Z.trans (af.mono ya)) N)).at_ ax;have aa:=hI (Zbb st k ax);have ct:=hI (Zce st (k+1));have bh:=aq.len;clear az aq;generalize st.getD k []=F at aQ aa bh;generalize cA:Zi (st.take k)=bn at aa aM
   by_cases cJ:512 - bn<F
   .have bo:decide ((512:Int) - bn<F)=true:=qt ya;have U:=hI (show Zv 0 ⟨E,z⟩ a st=2 by rw [bm,qr (ym ct.out aa.out)])
    go_wp2
    go_ret;exact⟨by rw [U];rfl,ak _ (Z.trans (af.mono ya))⟩
   have bo:decide ((512:Int) - bn<F)=false:=qe ya
   go_wp2
   go_roundw
   case rel=>exact⟨k+1,ya,by go_num,by rw [aa];go_num,by rw [aa];omega,by first | rfl | trivial⟩
   simp [intOf];omega
  have aO:¬ (k:Int)<st:=ya
  have aZ:=hI (show Zv 0 ⟨E,z⟩ a st=if st.length≠z.length then 80 else if stOk ⟨E,z⟩ a 0 st then 0 else 80 by
   rw [bm,qo];rw [qs ya] at aM;omega)
  clear bm aM bu;have bp:yr wr L 1 (.slice A z R):=c9J af (Za b1 1 _ rfl)
  by_cases aL:st.length=z.length
  .have aS:((st:Int) != z.length)=false:=(by simp [aL]);have aU:=hI (show Zv 0 ⟨E,z⟩ a st=if stOk ⟨E,z⟩ a 0 st then 0 else 80 by rw [aZ,qo (by simpa using aL)]);clear aZ;clear aL
   go_wp2_with fail
   clear aS bp b7;obtain⟨w2,rfl⟩:∃ w2:World,w2=wr:=⟨_,rfl⟩
   go_loopw [53] (fun i wr=>∃ k:Nat,k<=st/\i=.int .i64 k/\stOk ⟨E,z⟩ a 0 st=stOk ⟨E,z⟩ a k (st.drop k)/\Below (L+2) ao wr) (fun i _=>st.length - (intOf i).toNat)
   case atStart=>exact⟨0,qk _,rfl,yb,af⟩
   clear af ax aO;obtain⟨k,cc,rfl,aa,ah⟩:=hrel;replace aa:=hI aa;have ay:=hI ah;have bZ:=hI (Z.trans (ah.mono ya));have cH:=ah.size;clear ah
   by_cases ax:k<st
   .have aO:(k:Int)<st:=ya;obtain⟨bC,cf,rfl,bN,A',co,aQ,az,aq⟩:=(b5.keep (qS bZ N)).at_ ax;have:bC<wr:=(yl (N bC bN));have aJ:=hI (ZhA ⟨E,z⟩ a st k ax);have bJ:=hI aq;have bh:=aq.len;replace az:=hI az;clear aq;generalize st.getD k []=F at aQ aJ bJ az bh
    go_wp2_with fail
    clear aQ;obtain⟨aP,rfl⟩:∃ aP:World,aP=wr:=⟨_,rfl⟩
    go_loopw [60] (fun i bQ=>∃ j:Nat,j<=F/\i=.int .i64 j/\ZR ⟨E,z⟩ k a none F=ZR ⟨E,z⟩ k a (Zbj F j) (F.drop j)/\Below (L+2) ao bQ/\Below aP aP bQ) (fun i _=>F.length - (intOf i).toNat)
    case atStart=>exact⟨0,qk _,rfl,by simp [Zbj],ay,qa _ _⟩
    clear ay;obtain⟨j,cC,rfl,ap,ah,bt⟩:=hrel;replace ap:=hI ap;have ay:=hI ah;have bg:=hI bt;have cD:=bt.size;have cz:=hI (Z.trans (ah.mono ya));have I:=hI ((ah.block L ya).trans b1);have ca:L<wr:=ya;have bU:yr wr L 0 (.int .i64 E):=Za I 0 _ rfl;have bL:yr wr L 1 (.slice A z R):=Za I 1 _ rfl;clear ah bt
    by_cases bI:j<F
    .have ck:(j:Int)<F:=ya;have bV:=hI (bJ.keep (w':=wr) (fun b H=>bg.block b (yl (N b H))));obtain⟨aN,bH,rfl,cw,bf,bB,f1,aC,f3⟩:=bV.at_ bI;have cq:aN<wr:=(yl (N aN cw));have aT:=hI (ZfA ⟨E,z⟩ k a F j bI);have aF:=hI f3;replace aC:=hI aC;have bP:=f3.len;clear f3;have br:=hI (aE.keep (qS cz N))
     by_cases ba:j=0
     .have W:=hI (show ZR ⟨E,z⟩ k a none F=(ZB ⟨E,z⟩ k (F.getD j []) a&&ZR ⟨E,z⟩ k a (Zbj F (j+1)) (F.drop (j+1))) by rw [ap,aT];subst ba;simp [Zbj]);have:¬ 0<j:=ya;clear aT ap ba;generalize F.getD j []=row at f1 W aF aC bP
      go_wp2_with fail
      refine(ZhI R ⟨E,z⟩ br aF (fun b H=>yl (N b H))).mono ?_;rintro e M ⟨rfl,ac⟩;have aG:=hI (ay.trans (ac.mono ya));have aY:=hI (bg.trans (ac.mono ya));clear ac bU bL f1
      by_cases aj:ZB ⟨E,z⟩ k row a=true
      .rw [aj] at W ⊢;clear aj
       go_wp2
       go_quiet (fail)
       go_wp2
       go_roundw
       case rel=>exact⟨j+1,ya,by go_num,by rw [W];simp,below_drewN aG _,below_drewN aY _⟩
       simp [intOf];omega
      have aA:ZB ⟨E,z⟩ k row a=false:=(by simpa using aj);rw [aA] at W ⊢;clear aj aA;have U:=hI (show Zv 0 ⟨E,z⟩ a st=80 by rw [aU,aa,aJ,W];simp)
      go_wp2
      go_ret;exact⟨by rw [U];rfl,ak _ (Z.trans (aG.mono ya))⟩
     obtain⟨i,rfl⟩:∃ i,j=i+1:=⟨j - 1,ya⟩;obtain⟨cE,cG,be,bR,bw,bi,bz,aV,bE⟩:=bV.at_ (show i<F.length by omega);injection be with be;injection be with cj ci;subst cj ci;have bO:=hI bE;replace aV:=hI aV;have cx:=bE.len;have W:=hI (show ZR ⟨E,z⟩ k a none F=(ZB ⟨E,z⟩ k (F.getD (i+1) []) a&&decide (cmpR (keyF ⟨E,z⟩ k (F.getD i [])) (keyF ⟨E,z⟩ k (F.getD (i+1) []))<0)&&ZR ⟨E,z⟩ k a (Zbj F (i+1+1)) (F.drop (i+1+1))) by rw [ap,aT];rfl);clear bE ba aT ap;generalize F.getD (i+1) []=row at f1 W aF aC bP;generalize F.getD i []=ae at bz W bO aV cx
     go_wp2_with fail
     refine(ZhI R ⟨E,z⟩ br aF (fun b H=>yl (N b H))).mono ?_;rintro e M ⟨rfl,ac⟩;have aG:=hI (ay.trans (ac.mono ya));have aY:=hI (bg.trans (ac.mono ya));have bq:=hI ac;have I:=hI ((ac.block L ca).trans I);have K:yr M aN (bH+i) (.slice bw ae bi):=c9Q ac cq bz;have:wr.heap.size<=M:=ac.size;clear ac f1 bz bU bL
     by_cases aj:ZB ⟨E,z⟩ k row a=true
     .rw [aj] at W ⊢;clear aj
      go_wp2_with fail
      have bX:IntKind.i64.wrap ((i:Int)+1 - 1)=i:=(by rw [show ((i:Int)+1 - 1)=i by omega];exact IntWalk.i64_in _ ya);have cm:IntKind.i64.wrap (i:Int)=i:=IntWalk.i64_in _ ya;have:(0:Int)<=i:=ya;have:(i:Int)<F:=ya;have:(0:Int)<(i:Int)+1:=ya;have bK:=hI (br.keep (qS bq (fun b H=>yl (N b H))));have b0:=hI (aF.keep (w':=M) (qS bq (fun b H=>yl (N b H))));have b4:=hI (bO.keep (w':=M) (qS bq (fun b H=>yl (N b H))));refine uS (fun w'=>w'.heap[L]?=some (.cells #[.int .i64 E,.slice A z R] 25 (0,0))/\w'.cell? ⟨aN,bH+i,none⟩=some (.slice bw ae bi)) 18 18 fun Q' bG ab=>?_;refine uV 0 (.int .i64 ((i:Int)+1)) ab ?_ ⟨I,K⟩ ?_
      .intro w' ai;go_simp
       (try with_reducible rfl)
      simp only [psA,psB,psC];refine uV 1 (.bool true) ab ?_ ⟨I,K⟩ ?_
      .intro w' ai;go_simp
       (try simp)
      simp only [psA,psB,psC];refine uR [2,1] ab ⟨I,K⟩ ?_;refine uV 3 (.agg #[.int .i64 E,.slice A z R]) ab ?_ ⟨I,K⟩ ?_
      .intro w' ai;have b8:=Za ai.1 0 _ rfl;have bp:=Za ai.1 1 _ rfl;go_simp
       (try with_reducible rfl)
      simp only [psA,psB,psC];refine uR [4,2] ab ⟨I,K⟩ ?_;refine uV 6 (.int .i64 ((i:Int)+1)) ab ?_ ⟨I,K⟩ ?_
      .intro w' ai;go_simp
       (try with_reducible rfl)
      simp only [psA,psB,psC];refine uV 7 (.int .i64 (i:Int)) ab ?_ ⟨I,K⟩ ?_
      .intro w' ai;go_simp
       (try simp [bX])
      simp only [psA,psB,psC];refine uR [8,2] ab ⟨I,K⟩ ?_;refine uV 11 (.agg #[.int .i64 E,.slice A z R]) ab ?_ ⟨I,K⟩ ?_
      .intro w' ai;have b8:=Za ai.1 0 _ rfl;have bp:=Za ai.1 1 _ rfl;go_simp
       (try with_reducible rfl)
      simp only [psA,psB,psC];refine uR [12,2] ab ⟨I,K⟩ ?_;refine uQ 10 fun aI am=>?_;go_simp;refine(Zfm R ⟨E,z⟩ (bK.keep (w':=M.drew) (fun _ _=>rfl)) (b4.keep (w':=M.drew) (fun _ _=>rfl)) aV (fun b H=>by have:=N b H;show b<M;omega)).mono ?_;rintro e aX ⟨bM,cu,rfl,bY,bF⟩;have aw:Below M M aX:=(qa _ M).drew.trans bF;have bb:=hI (ZaR bY (ZfB (s:=⟨E,z⟩) (a:=k) b4.ok) nR).2;have cd:=aw.size;have I:=hI ((aw.block L ya).trans I);have K:=c9J aw K;clear bF bY;refine am _ _ (fun _=>⟨I,K⟩) ?_;clear am aI
      try simp only [Act.put,psA,psB,psC]
      refine uQ 14 fun aI am=>?_;go_simp;refine(Zfm R ⟨E,z⟩ (bK.keep (qS aw (fun b H=>yl (N b H)))) (b0.keep (qS aw (fun b H=>yl (N b H)))) aC (fun b H=>yl (N b H))).mono ?_;rintro e aD ⟨cg,b9,rfl,bT,au⟩;have bR:Below M M aD:=aw.trans (au.mono cd);have ce:=hI (ZaR bT (ZfB (s:=⟨E,z⟩) (a:=k) b0.ok) nR).2;have bb:=hI ((show RowS aX (fun b=>M<=b/\b<aX) bM (keyF ⟨E,z⟩ k ae) from bb).keep (w':=aD) (fun b H=>au.block b H.2));have cF:=au.size;have I:=hI ((au.block L ya).trans I);have K:=c9J au K;clear au bT;refine am _ _ (fun _=>⟨I,K⟩) ?_;clear am aI
      try simp only [Act.put,psA,psB,psC]
      refine uQ 15 fun aI am=>?_;go_simp;refine(Zbl (S:=fun b=>b<aD) (bb.more (fun b H=>by have:=H.2;show b<aD;omega)) (ce.more (fun b H=>H.2)) (fun b H=>H)).mono ?_;rintro e b6 ⟨rfl,aW⟩;have bD:Below M M b6:=bR.trans (aW.mono ya);have I:=hI ((aW.block L ya).trans I);have K:=c9J aW K;clear aW;refine am _ _ (fun _=>⟨I,K⟩) ?_;clear am aI
      try simp only [Act.put,psA,psB,psC]
      refine uR [16,2] ab ⟨I,K⟩ ?_;refine uE bG ?_;clear bG ab Q';have bS:=hI (aG.trans (bD.mono ya));have cn:=hI (aY.trans (bD.mono ya));clear bD K bX cm
      by_cases aR:cmpR (keyF ⟨E,z⟩ k ae) (keyF ⟨E,z⟩ k row)<0
      .have bk:=hI (show ZR ⟨E,z⟩ k a none F=ZR ⟨E,z⟩ k a (Zbj F (i+1+1)) (F.drop (i+1+1)) by rw [W];simp [aR]);have aB:decide (0<=cmpR (keyF ⟨E,z⟩ k ae) (keyF ⟨E,z⟩ k row))=false:=qe ya;clear aR W;generalize cmpR (keyF ⟨E,z⟩ k ae) (keyF ⟨E,z⟩ k row)=cp at aB ⊢;rw [aB]
       go_wp2
       go_roundw
       case rel=>exact⟨i+1+1,ya,by go_num,bk,bS,cn⟩
       simp [intOf];omega
      have aB:decide (0<=cmpR (keyF ⟨E,z⟩ k ae) (keyF ⟨E,z⟩ k row))=true:=qt ya;have bk:=hI (show ZR ⟨E,z⟩ k a none F=false by rw [W];simp [aR]);clear aR W;generalize cmpR (keyF ⟨E,z⟩ k ae) (keyF ⟨E,z⟩ k row)=cp at aB ⊢;rw [aB];have U:=hI (show Zv 0 ⟨E,z⟩ a st=80 by rw [aU,aa,aJ,bk];simp)
      go_wp2
      go_ret;exact⟨by rw [U];rfl,ak _ (Z.trans (bS.mono ya))⟩
     have aA:ZB ⟨E,z⟩ k row a=false:=(by simpa using aj);rw [aA] at W ⊢;clear aj aA;have U:=hI (show Zv 0 ⟨E,z⟩ a st=80 by rw [aU,aa,aJ,W];simp)
     go_wp2
     go_ret;exact⟨by rw [U];rfl,ak _ (Z.trans (aG.mono ya))⟩
    have ck:¬ (j:Int)<F:=ya;have bj:=hI (show ZR ⟨E,z⟩ k a none F=true by rw [ap,show j=F.length by omega,qQ];cases F.length<;>rfl);have bu:=hI (show stOk ⟨E,z⟩ a 0 st=stOk ⟨E,z⟩ a (k+1) (st.drop (k+1)) by rw [aa,aJ,bj];rfl)
    go_wp2
    go_roundw
    case rel=>exact⟨k+1,ya,by go_num,bu,ay⟩
    simp [intOf];omega
   have aO:¬ (k:Int)<st:=ya;have bj:=hI (show Zv 0 ⟨E,z⟩ a st=0 by rw [aU,aa,show k=st.length by omega,qQ];rfl)
   go_wp2
   go_ret;exact⟨by rw [bj];rfl,ak _ bZ⟩
  have aS:((st:Int) != z.length)=true:=yd;have U:=hI (show Zv 0 ⟨E,z⟩ a st=80 by rw [aZ,qr aL])
  go_wp2
  go_ret;exact⟨by rw [U];rfl,ak _ (Z.trans (af.mono ya))⟩
 have:(aK != 0)=true:=(by simpa using aH);have U:=hI (show Zv aK ⟨E,z⟩ a st=aK by unfold Zv ZbD;rw [qr aH,qr aH]);clear aH
 go_wp2
 go_ret;exact⟨by rw [U];rfl,ak _ (Z.trans (af.mono ya))⟩
end Go.Proofs.YtjadnfodboepeaaGreat
