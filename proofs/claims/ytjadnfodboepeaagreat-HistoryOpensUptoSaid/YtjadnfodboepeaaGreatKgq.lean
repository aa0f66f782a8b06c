import Derived.Test.YtjadnfodboepeaaGreatK0i
set_option linter.all false
set_option maxRecDepth 100000
set_option maxHeartbeats 8000000
namespace Go.Proofs.YtjadnfodboepeaaGreat
open Tryz
open Go.RowKit
variable {w w':World} {n k m:Nat} {A B:Option Addr} {S:Nat->Prop} {a t:Int} {l p:List Int} {x:Value} {g:TypeId} {s:Sch} {M:V} {Z:List Pred}
theorem ZeQ (r:Row) (v:V):Zq (r++[v])=Zq r++[.int .i64 v.k,.int .i64 v.i,.string v.t]:=by
 induction r with
 | nil=>rfl
 | cons a r z=>simp [Zq,z]
theorem Fr.grown {w w':World} {g:Nat} (h:Fr (fun b=>b=g) w w'):w.grownBy w' (some g):=⟨h.os,h.tape,h.output,h.size,fun k E z=>h.block k E (fun e=>z (by rw [e]))⟩
theorem Zcc (h:w.grownBy w' (some n)):Fr (fun b=>b=n) w w':=Qc h (fun b _ e=>by injection e)
structure RowI (w wr:World) (g k:Nat) (r:Row) (A:Option Addr) (c:Nat):Prop where
 len:r.length=k
 own:wr.ownsRow w 108 3 (.slice A k c) k (Zq r)
 case:CaseOk wr g
 fr:Fr (fun b=>b=g) w wr
section
variable {w wr w2 w3:World} {g k c c':Nat} {r:Row} {A A':Option Addr} {v:V} {o:Obj}
theorem RowI.start (z:CaseOk w g):RowI w w g 0 [] none 0:=⟨rfl,qV _ _ _ _,z,Qa _ _⟩
theorem RowI.ready (h:RowI w wr g k r A c) (E:g<w) (z:wr.grownBy w2 (some g)) (o:Obj):(w2.alloc o).ownsRow w.heap.size 108 3 (.slice A k c) k (Zq r)/\w.heap.size<=(w2.alloc o).heap.size:=by
 refine⟨(h.own.kept z (.inr fun e=>?_)).alloc o,by have:=h.fr.size;have:=z.size;simp;omega⟩;have:=Zs h.own e;omega
theorem RowI.push (h:RowI w wr g k r A c) (O:g<w) (L:CaseOk w2 g) (F:wr.grownBy w2 (some g))
 (I:w3.ownsRow w 108 3 (.slice A' (k+1) c') (k+1) (Zq r++[.int .i64 v.k,.int .i64 v.i,.string v.t])) (z:(w2.alloc o).grownBy w3 (Value.slice A k c).ownBlock):RowI w w3 g (k+1) (r++[v]) A' c':=by
 have H:=fun b (e:some b=(Value.slice A k c).ownBlock)=>Zs h.own e.symm;have N:=h.fr.size;have M:=F.size;refine⟨by simp [h.len],by rw [ZeQ];exact I,L.keep (fun b E=>?_),?_⟩
 .refine(z.block b yd (fun e=>?_)).trans (qd w2 o b ya);have:=H b e;omega
 refine(h.fr.trans (Zcc F) (fun _ _ e=>e)).trans (Y:=fun b=>some b=(Value.slice A k c).ownBlock) ?_ (fun b E e=>yl (H b e));exact⟨z.os,z.tape,z.output,by have:=z.size;simp at this;omega,fun b E K=>(z.block b yd K).trans (qd w2 o b E)⟩
end
def ZjH (key m:Int) (z:List Int) (r:Row):Prop:=r.length=z.length/\∀ i,i<z.length->Zcd m key (ZcL (z.getD i 0)) i (r.getD i v0)=true
def RowGenK (key m:Int) (z:List Int) (k:Nat) (r:Row):Prop:=r.length=k/\∀ i,i<k->Zcd m key (ZcL (z.getD i 0)) i (r.getD i v0)=true
theorem RowGenK.push {key m:Int} {z:List Int} {k:Nat} {r:Row} {v:V} (h:RowGenK key m z k r) (E:Zcd m key (ZcL (z.getD k 0)) k v=true):RowGenK key m z (k+1) (r++[v]):=by
 refine⟨by simp [h.1],fun i H=>?_⟩
 by_cases e:i<k
 .have:(r++[v]).getD i v0=r.getD i v0:=(by simp [List.getD,List.getElem?_append_left (show i<r.length by rw [h.1];exact e)]);rw [this];exact h.2 i e
 have F:i=k:=ya;subst F;have:(r++[v]).getD i v0=v:=(by simp [List.getD,<-h.1]);rw [this];exact E
theorem ZfU {key:Int} (z:key<=n) (F:a≠1):Zcd a key t n ⟨2,0,⟨#[]⟩⟩=true:=by simp [Zcd,Zp,z,F]
theorem fits_missing {key:Int} (z:key<=n) (F:a=3):Zcd a key t n ⟨1,0,⟨#[]⟩⟩=true:=by simp [Zcd,Zp,z,F]
theorem Zea {key:Int} (h:ZgU t M):Zcd a key t n M=true:=by simp [Zcd,h.1,h.2]
def RowPost (key m:Int) (z:List Int) (w:World) (g:Nat) (e:Ending) (w':World):Prop :=
 ∃ r A c,e=.returned (.slice A r.length c)/\ZjH key m z r/\w'.ownsRow w.heap.size 108 3 (.slice A r.length c) r.length (Zq r)/\CaseOk w' g/\w.grownBy w' (some g)
theorem row_any {key:Int} (aE:IntS w S A l) (aV:∀ b,S b->b<w/\b≠n) (aG:l.length<=1000000) (aI:CaseOk w n) :
 Calls prog 44 #[.pointer (some ⟨n,0,none⟩),.slice A l k,.int .i64 key,.int .i64 a] w (RowPost key a l w n):=by
 obtain⟨ao,ak,am,an,ap⟩:=qA ZhX;have W:=aI.lt;replace aE:=hI aE;have aU:=hI (RowI.start aI);clear aI;go_enter func44,ntmps44
 go_wp2
 go_loopw [9,14] (fun aR i wr=>∃ (aT:Nat) (r:Row) (aL:Option Addr) (c:Nat),aT<=l/\i=.int .i64 aT/\aR=.slice aL aT c/\RowI w wr n aT r aL c/\RowGenK key a l aT r) (fun _ i _=>l.length - (intOf i).toNat)
 case atStart=>exact⟨0,[],none,0,qk _,rfl,rfl,aU,rfl,fun i ak=>ya⟩
 obtain⟨aT,r,aL,c,aX,rfl,rfl,aJ,av⟩:=hrel;have F:=hI aJ;replace av:=hI av;have ba:=aJ.fr.size;clear aJ
 by_cases aP:aT<l
 .obtain⟨aW,aY,rfl,aZ,aS⟩:=(aE.keep (F.fr.same (fun b aQ=>aV b aQ))).at_ aP;have aC:=hI F.case;generalize aF:l.getD aT 0=ax at aS;replace aF:=hI aF
  have ah:∀ (v:V) (A':Option Addr) (aB:Nat) (af:World),RowI w af n (aT+1) (r++[v]) A' aB->Zcd a key (ZcL ax) aT v=true->∃ (k':Nat) (aK:Row) (aM:Option Addr) (aN:Nat),k'<=l/\Value.int .i64 ((aT:Int)+1)=.int .i64 k'/\Value.slice A' (aT+1) aB=.slice aM k' aN/\RowI w af n k' aK aM aN/\RowGenK key a l k' aK :=
   fun v A' aB af ay ai=>⟨aT+1,r++[v],A',aB,ya,by go_num,rfl,ay,av.push (by rw [aF];exact ai)⟩
  replace ah:=hI ah
  by_cases ay:key<=(aT:Int)
  .by_cases ai:a=1
   .subst ai
    go_wp2_with fail
    have aA:=aC;have aj:=hI (World.grownBy.refl wr (some n));refine(Zbx aA).mono ?_;rintro e O ⟨⟨K,M,L⟩,rfl,R,U,ac⟩;replace R:=hI R;replace U:=hI U;have N:=hI (aj.trans ac);clear ac
    go_wp2_with (at_builtin;obtain⟨I,z⟩:=F.ready (w2:=O) W N (.cells #[.int .i64 K,.int .i64 M,.string L] 108);refine Zn rfl (.tmp 19) (.tmp 23) 116 rfl 32 underlying116 ak am an ap rfl yf rfl I ⟨O,0,none⟩ 1 1 [.int .i64 K,.int .i64 M,.string L] rfl rfl (World.news_of_block (qb O (.cells #[.int .i64 K,.int .i64 M,.string L] 108))) (by simp [Value.oneCell']) yh ya z ?_;intro au ar af E H;have Z:=hI (F.push (v:=⟨K,M,L⟩) W U N E H);clear I z E H)
    go_roundw
    case rel=>exact ah _ _ _ _ Z (Zea R)
    simp [intOf];omega
   have:(a != 1)=true:=(by simp [ai]);have:(a == 1)=false:=qf.2 ai;have aO:=hI ai
   by_cases aH:a=3
   .subst aH;clear ai
    go_wp2_with fail
    refine(Zap ya ya aC).mono ?_;rintro e wb ⟨aw,rfl,aq,N,az⟩;replace aq:=hI aq;replace N:=hI N;clear az;cases aw
    .go_wp2_with fail
     refine(Zap ya ya aq).mono ?_;rintro e aD ⟨aw,rfl,ae,ab,az⟩;replace ae:=hI ae;have aj:=hI (N.trans ab);clear ab az aq N;cases aw
     .go_wp2_with fail
      refine(Zbx ae).mono ?_;rintro e O ⟨⟨K,M,L⟩,rfl,R,U,ac⟩;replace R:=hI R;replace U:=hI U;have N:=hI (aj.trans ac);clear ac
      go_wp2_with (at_builtin;obtain⟨I,z⟩:=F.ready (w2:=O) W N (.cells #[.int .i64 K,.int .i64 M,.string L] 108);refine Zn rfl (.tmp 19) (.tmp 23) 116 rfl 32 underlying116 ak am an ap rfl yf rfl I ⟨O,0,none⟩ 1 1 [.int .i64 K,.int .i64 M,.string L] rfl rfl (World.news_of_block (qb O (.cells #[.int .i64 K,.int .i64 M,.string L] 108))) (by simp [Value.oneCell']) yh ya z ?_;intro au ar af E H;have Z:=hI (F.push (v:=⟨K,M,L⟩) W U N E H);clear I z E H)
      go_roundw
      case rel=>exact ah _ _ _ _ Z (Zea R)
      simp [intOf];omega
     have aq:=ae;have N:=aj
     go_wp2_with (at_builtin;obtain⟨I,z⟩:=F.ready (w2:=aD) W N (.cells #[.int .i64 1,.int .i64 0,.string ⟨#[]⟩] 108);refine Zn rfl (.tmp 53) (.tmp 55) 116 rfl 32 underlying116 ak am an ap rfl yf rfl I ⟨aD,0,none⟩ 1 1 [.int .i64 1,.int .i64 0,.string ⟨#[]⟩] rfl rfl (World.news_of_block (qb aD (.cells #[.int .i64 1,.int .i64 0,.string ⟨#[]⟩] 108))) (by simp [Value.oneCell']) yh ya z ?_;intro au ar af E H;have Z:=hI (F.push (v:=⟨1,0,⟨#[]⟩⟩) W aq N E H);clear I z E H)
     go_roundw
     case rel=>exact ah _ _ _ _ Z (fits_missing ay rfl)
     simp [intOf];omega
    go_wp2_with (at_builtin;obtain⟨I,z⟩:=F.ready (w2:=wb) W N (.cells #[.int .i64 2,.int .i64 0,.string ⟨#[]⟩] 108);refine Zn rfl (.tmp 37) (.tmp 39) 116 rfl 32 underlying116 ak am an ap rfl yf rfl I ⟨wb,0,none⟩ 1 1 [.int .i64 2,.int .i64 0,.string ⟨#[]⟩] rfl rfl (World.news_of_block (qb wb (.cells #[.int .i64 2,.int .i64 0,.string ⟨#[]⟩] 108))) (by simp [Value.oneCell']) yh ya z ?_;intro au ar af E H;have Z:=hI (F.push (v:=⟨2,0,⟨#[]⟩⟩) W aq N E H);clear I z E H)
    go_roundw
    case rel=>exact ah _ _ _ _ Z (ZfU ay aO)
    simp [intOf];omega
   have:(a == 3)=false:=qf.2 aH;clear ai aH
   go_wp2_with fail
   refine(Zap ya ya aC).mono ?_;rintro e wb ⟨aw,rfl,ae,ab,az⟩;replace ae:=hI ae;replace ab:=hI ab;clear az;cases aw
   .go_wp2_with fail
    have aA:=ae;have aj:=ab;clear ae ab;refine(Zbx aA).mono ?_;rintro e O ⟨⟨K,M,L⟩,rfl,R,U,ac⟩;replace R:=hI R;replace U:=hI U;have ab:=hI (aj.trans ac);clear ac
    go_wp2_with (at_builtin;obtain⟨I,z⟩:=F.ready (w2:=O) W ab (.cells #[.int .i64 K,.int .i64 M,.string L] 108);refine Zn rfl (.tmp 19) (.tmp 23) 116 rfl 32 underlying116 ak am an ap rfl yf rfl I ⟨O,0,none⟩ 1 1 [.int .i64 K,.int .i64 M,.string L] rfl rfl (World.news_of_block (qb O (.cells #[.int .i64 K,.int .i64 M,.string L] 108))) (by simp [Value.oneCell']) yh ya z ?_;intro au ar af E H;have Z:=hI (F.push (v:=⟨K,M,L⟩) W U ab E H);clear I z E H)
    go_roundw
    case rel=>exact ah _ _ _ _ Z (Zea R)
    simp [intOf];omega
   go_wp2_with (at_builtin;obtain⟨I,z⟩:=F.ready (w2:=wb) W ab (.cells #[.int .i64 2,.int .i64 0,.string ⟨#[]⟩] 108);refine Zn rfl (.tmp 37) (.tmp 39) 116 rfl 32 underlying116 ak am an ap rfl yf rfl I ⟨wb,0,none⟩ 1 1 [.int .i64 2,.int .i64 0,.string ⟨#[]⟩] rfl rfl (World.news_of_block (qb wb (.cells #[.int .i64 2,.int .i64 0,.string ⟨#[]⟩] 108))) (by simp [Value.oneCell']) yh ya z ?_;intro au ar af E H;have Z:=hI (F.push (v:=⟨2,0,⟨#[]⟩⟩) W ae ab E H);clear I z E H)
   go_roundw
   case rel=>exact ah _ _ _ _ Z (ZfU ay aO)
   simp [intOf];omega
  have aA:=aC;have aj:=hI (World.grownBy.refl wr (some n))
  go_wp2_with fail
  refine(Zbx aA).mono ?_;rintro e O ⟨⟨K,M,L⟩,rfl,R,U,ac⟩;replace R:=hI R;replace U:=hI U;have N:=hI (aj.trans ac);clear ac
  go_wp2_with (at_builtin;obtain⟨I,z⟩:=F.ready (w2:=O) W N (.cells #[.int .i64 K,.int .i64 M,.string L] 108);refine Zn rfl (.tmp 19) (.tmp 23) 116 rfl 32 underlying116 ak am an ap rfl yf rfl I ⟨O,0,none⟩ 1 1 [.int .i64 K,.int .i64 M,.string L] rfl rfl (World.news_of_block (qb O (.cells #[.int .i64 K,.int .i64 M,.string L] 108))) (by simp [Value.oneCell']) yh ya z ?_;intro au ar af E H;have Z:=hI (F.push (v:=⟨K,M,L⟩) W U N E H);clear I z E H)
  go_roundw
  case rel=>exact ah _ _ _ _ Z (Zea R)
  simp [intOf];omega
 go_wp2
 go_ret;obtain rfl:aT=l.length:=ya;have aG:=F.len;refine⟨r,aL,c,by rw [aG];rfl,⟨av.1,av.2⟩,by rw [aG];exact F.own,F.case,F.fr.grown⟩
theorem Zcw {size:Nat} {xs:List Value} (h:w.ownsRow n g size x m xs) (K:k<=n):w.ownsRow k g size x m xs:=by
 refine⟨h.1,?_⟩;rcases h.2 with F | ⟨e,cap,z,E,I,H⟩
 .exact .inl F
 exact .inr ⟨e,cap,z,E,ya,H⟩
theorem NewR.low {r:Row} {w E:World} {e:Ending} {w':World} (h:NewR r E e w') (z:Below w w E):NewR r w e w':=by
 obtain⟨A,c,H,F,I⟩:=h;exact⟨A,c,H,Zcw F z.size,z.trans (I.mono z.size)⟩
theorem Zfm (M:Nat) (s:Sch) {r:Row} (Z:TabS w S A s.tt) (K:RowS w S B r) (aw:r.length<=n) (ae:∀ b,S b->b<w) :
 Calls prog 46 #[sAgg s.vv A s.tt M,.int .i64 a,.slice B r n] w (NewR (keyF s a r) w):=by
 have aC:=K.len;replace Z:=hI Z;replace K:=hI K;have W:=hI ((qa w w).alloc nR (.cells #[.int .i64 s.vv,.slice A s.tt M] 25))
 by_cases E:hasN s.tt a=true
 .have z:=hI (show keyF s a r=r.take (keyN (s.tt.getD a.toNat t0).key r) by unfold keyF;rw [qr E]);have aq:0<=a/\a<s.tt:=(by simpa [hasN] using E);clear E;obtain⟨L,rfl⟩:=qn aq.1;rw [qu] at z;have ak:L<s.tt:=ya;obtain⟨U,an,rfl,au,az,aG,aE,c1,c2,aB,ac⟩:=Z.at_ ak;have ab:=ac.key;have:U<w:=ae U au;clear ac;generalize s.tt.getD L t0=ao at ab z;obtain⟨aF,ay,F,aA,aD⟩:=ao;simp only at ab z;have:decide ((L:Int)<0)=false:=yb;have ah:decide (s.tt.length<=L)=false:=yd;have ar:=hI (show keyN F r<=r.length by unfold keyN;omega);have H:=ZcH (A:=B) (n:=n) (r:=r.take (keyN F r)) (S:=S) (w:=w.alloc (.cells #[.int .i64 s.vv,.slice (some ⟨U,an,none⟩) s.tt.length M] 25)) ((K.take (keyN F r) (fun _=>rfl)).keep (fun b aj=>qd _ _ _ (ae b aj)));rw [qG,Nat.min_eq_left ar.out] at H;replace H:=hI H;go_enter func46,ntmps46
  go_wp2_with fail
  refine(show Calls _ _ _ _ _ from H).mono ?_;intro e ai af;have am:=(show NewR (r.take (keyN F r)) _ e ai from af).low W;obtain⟨ap,av,rfl,N,aa⟩:=am;replace N:=hI N;replace aa:=hI aa;clear af;obtain⟨aH,I⟩:∃ m,(r.take (keyN F r)).length=m:=⟨_,rfl⟩;rw [I];replace I:=hI I
  go_wp2
  go_ret;rw [z];exact⟨ap,av,by rw [I];rfl,N,aa⟩
 have z:=hI (show keyF s a r=[] by unfold keyF;rw [qo E])
 have:a<0\/(s.tt:Int)<=a:=by
  have:hasN s.tt a=false:=(by simpa using E);simp [hasN] at this;omega
 clear E
 by_cases ax:a<0
 .go_enter func46,ntmps46
  go_wp2
  go_ret;rw [z];exact⟨none,0,rfl,qV _ _ _ _,W⟩
 have ah:decide ((s.tt:Int)<=a)=true:=yd;go_enter func46,ntmps46
 go_wp2
 go_ret;rw [z];exact⟨none,0,rfl,qV _ _ _ _,W⟩
def keyKF (s:Sch) (t:Int):List Int:=(Zav s t).take (max 0 (min (s.tt.getD t.toNat t0).key (Zav s t).length)).toNat
theorem IntS.take (h:IntS w S A l) (k:Nat):IntS w S A (l.take k):=by
 refine⟨?_,fun L=>?_⟩
 .have:=h.1;rw [Ze (n:=8) (fun _=>rfl)] at this ⊢;simp only [qG];omega
 have z:0<(l.take k).length:=(by simpa using L);obtain⟨b,F,e,I,K⟩:=h.2 (by simp at z ⊢;omega);refine⟨b,F,e,I,ZaZ (n:=1) (fun d hd=>by obtain⟨a,_,rfl⟩:=qO.1 hd;rfl) (fun j H=>?_)⟩;have E:j<(l.map ZaT).length:=(by simp at H ⊢;omega);have:=Zbu (n:=1) (fun d hd=>by obtain⟨a,_,rfl⟩:=qO.1 hd;rfl) K j E;simpa using this
def ZO (l:List Int) (o:Opd):Int:=if o.index<0\/(l:Int)<=o.index\/o.value≠v0 then 0 else l.getD o.index.toNat 0
def Zj (cols params:List Int) (o:Opd):Int :=
 if o.kind=3 then (if o.index≠0\/Zdx o.value=false then 0 else o.value.k)
 else if o.kind=2 then ZO params o else if o.kind=1 then ZO cols o else 0
def Zlg (o:Opd):Bool:=decide (o.kind=0)&&decide (o.index=0)&&decide (o.value=v0)
def ZeF (cmp:Int) (l r:Opd):Bool:=decide (cmp=0)&&Zlg l&&Zlg r
mutual
def predOk (cols params:List Int):Pred->Bool
 | .mk op cmp l r args =>
  if op=3 then decide (args.length=0)&&decide (1<=cmp)&&decide (cmp<=6)&&decide (Zj cols params l≠0)&&decide (Zj cols params l=Zj cols params r)
  else if op=1\/op=2 then decide (args.length=0)&&ZeF cmp l r
  else if op=6 then decide (args.length=1)&&ZeF cmp l r&&predsOk cols params args
  else if op=4\/op=5 then ZeF cmp l r&&predsOk cols params args
  else false
def predsOk (cols params:List Int):List Pred->Bool
 | []=>true
 | p :: r=>predOk cols params p&&predsOk cols params r
end
theorem ZeU (cols params:List Int) (l:List Pred) (k:Nat) (h:k<l):predsOk cols params (l.drop k)=(predOk cols params (l.getD k p0)&&predsOk cols params (l.drop (k+1))):=by
 rw [qq h];have z:l.getD k p0=l[k]:=gD h;rw [z]
 conv=>lhs;unfold predsOk
theorem ZfG (cols params:List Int):∀ l:List Pred,(∀ p ∈ l,predOk cols params p=true)->predsOk cols params l=true
 | [],_=>by unfold predsOk;rfl
 | p :: r,h=>by
  unfold predsOk;rw [h p yb,ZfG cols params r (fun q z=>h q (by simp [z]))];rfl
def pcFF (E z:List Int) (p:Pred):Int:=if ZG E=false\/ZG z=false then 1 else if (smallP p 1 24).1=false then 2 else if predOk E z p=false then 50 else 0
abbrev pcF (z:List Int) (p:Pred):Int:=pcFF z [] p
mutual
def cntP:Pred->Nat
 | .mk _ _ _ _ a=>1+cntL a
def cntL:List Pred->Nat
 | []=>0
 | p :: r=>cntP p+cntL r
end
mutual
def depP:Pred->Nat
 | .mk _ _ _ _ a=>1+depL a
def depL:List Pred->Nat
 | []=>0
 | p :: r=>max (depP p) (depL r)
end
mutual
theorem smallP_spec:∀ (p:Pred) (z b:Int),0<=b->1<=z->z<=9->((cntP p:Int)<=b/\z - 1+depP p<=8->smallP p z b=(true,b - cntP p))/\(¬ ((cntP p:Int)<=b/\z - 1+depP p<=8)->(smallP p z b).1=false)
 | .mk _ _ _ _ a,z,b,K,I,H=>by
  unfold cntP depP smallP
  by_cases E:b - 1<0\/8<z
  .rw [qr E];refine⟨fun h=>?_,fun _=>rfl⟩;omega
  rw [qo E];have h:=smallL_spec a (z+1) (b - 1) ya ya ya;refine⟨fun F=>?_,fun F=>h.2 ya⟩;rw [h.1 ya]
  congr 1
  omega
theorem smallL_spec:∀ (l:List Pred) (z b:Int),0<=b->1<=z->z<=9->((cntL l:Int)<=b/\z - 1+depL l<=8->smallL l z b=(true,b - cntL l))/\(¬ ((cntL l:Int)<=b/\z - 1+depL l<=8)->(smallL l z b).1=false)
 | [],z,b,K,F,E=>by
  unfold cntL depL smallL;exact⟨fun _=>yb,fun h=>ya⟩
 | p :: r,z,b,K,F,E=>by
  unfold cntL depL smallL;have H:=smallP_spec p z b K F E
  by_cases L:(cntP p:Int)<=b/\z - 1+depP p<=8
  .rw [H.1 L];simp only [if_true];have h:=smallL_spec r z (b - cntP p) ya F E;refine⟨fun I=>?_,fun I=>h.2 ya⟩;rw [h.1 ya]
   congr 1
   omega
  have:=H.2 L;rw [this];simp only [Bool.false_eq_true,if_false];exact⟨fun I=>ya,fun _=>trivial⟩
end
theorem ZhD (p:Pred):(smallP p 1 24).1=(decide (cntP p<=24)&&decide (depP p<=8)):=by
 have h:=smallP_spec p 1 24 ya ya ya
 by_cases F:(cntP p:Int)<=24/\(1:Int) - 1+depP p<=8
 .rw [h.1 F];have z:cntP p<=24:=ya;have E:depP p<=8:=ya;simp [z,E]
 rw [h.2 F]
 by_cases z:cntP p<=24
 .have E:¬ depP p<=8:=ya;simp [E]
 simp [z]
def GenP (cols params:List Int) (n d:Nat) (p:Pred):Prop:=predOk cols params p=true/\cntP p<=n/\depP p<=d
theorem GenP.ok {E z:List Int} {n d:Nat} {p:Pred} (h:GenP E z n d p) (L:n<=24) (hd:d<=8) (H:ZG E=true) (F:ZG z=true):pcFF E z p=0:=by
 unfold pcFF;rw [ZhD,h.1,H,F];have K:cntP p<=24:=qD h.2.1 L;have I:depP p<=8:=qD h.2.2 hd;simp [K,I]
theorem genL:∀ E:List Pred,(∀ d ∈ E,GenP l p n k d)->cntL E<=E.length*n/\depL E<=k
 | [],_=>by simp [cntL,depL]
 | d :: r,h=>by
  have z:=h d yb;have I:=genL r (fun q F=>h q (by simp [F]));unfold cntL depL;rw [qK,Nat.succ_mul];exact⟨yl z.2.1,yl z.2.2⟩
theorem GenP.node {F E:List Int} {n d m:Nat} {op:Int} {l:List Pred} (h:∀ p ∈ l,GenP F E n d p) (K:l.length<=m) (M:(op=6/\l.length=1)\/op=4\/op=5):GenP F E (1+m*n) (d+1) (.mk op 0 ⟨0,0,v0⟩ ⟨0,0,v0⟩ l):=by
 have N:=genL l h;have H:ZeF 0 ⟨0,0,v0⟩ ⟨0,0,v0⟩=true:=yf;have z:=ZfG F E l (fun p I=>(h p I).1);have:l.length*n<=m*n:=Nat.mul_le_mul_right n K;refine⟨?_,by unfold cntP;omega,by unfold depP;omega⟩;unfold predOk;rcases M with ⟨rfl,L⟩ | rfl | rfl
 .simp [H,z,L]
 .simp [H,z]
 simp [H,z]
theorem GenP.leaf {F E:List Int} {op:Int} (z:op=1\/op=2):GenP F E 1 1 (.mk op 0 ⟨0,0,v0⟩ ⟨0,0,v0⟩ []):=by
 have H:ZeF 0 ⟨0,0,v0⟩ ⟨0,0,v0⟩=true:=yf;refine⟨?_,by unfold cntP cntL;omega,by unfold depP depL;omega⟩;unfold predOk;rcases z with rfl | rfl<;>simp [H]
theorem GenP.cmp {E z:List Int} {c k:Int} {l r:Opd} (L:1<=c) (F:c<=6) (H:k≠0) (I:Zj E z l=k) (K:Zj E z r=k):GenP E z 1 1 (.mk 3 c l r []):=by
 refine⟨?_,by unfold cntP cntL;omega,by unfold depP depL;omega⟩;unfold predOk;simp [L,F,I,K,H]
theorem GenP.more {H E:List Int} {n z d F:Nat} {p:Pred} (h:GenP H E n d p) (I:n<=z) (hd:d<=F):GenP H E z F p:=⟨h.1,qD h.2.1 I,qD h.2.2 hd⟩
abbrev nProjects:ByteArray:=⟨#[112,114,111,106,101,99,116,115]⟩
abbrev nId:ByteArray:=⟨#[105,100]⟩
abbrev Zkh:ByteArray:=⟨#[111,119,110,101,114]⟩
abbrev nTasks:ByteArray:=⟨#[116,97,115,107,115]⟩
abbrev nProject:ByteArray:=⟨#[112,114,111,106,101,99,116]⟩
abbrev nTitle:ByteArray:=⟨#[116,105,116,108,101]⟩
abbrev nDone:ByteArray:=⟨#[100,111,110,101]⟩
abbrev nMembers:ByteArray:=⟨#[109,101,109,98,101,114,115]⟩
abbrev ZiF:ByteArray:=⟨#[112,101,114,115,111,110]⟩
abbrev nArchived:ByteArray:=⟨#[97,114,99,104,105,118,101,100]⟩
abbrev nTask:ByteArray:=⟨#[116,97,115,107]⟩
def ZfR:List Col:=[⟨nId,4⟩,⟨Zkh,4⟩]
def ZcP (id:Int):List Col:=[⟨nId,id⟩,⟨nProject,4⟩,⟨nTitle,5⟩,⟨nDone,3⟩]
def Zds:List Col:=[⟨nProject,4⟩,⟨ZiF,4⟩]
def ZcO (id:Int):List Col:=[⟨nTask,id⟩]
def ZS (id:Int) (H z F:List Rfr) (E:List Pred):List Tab :=
 [⟨nProjects,ZfR,1,[],[]⟩,⟨nTasks,ZcP id,1,H,E⟩,⟨nMembers,Zds,2,z,[]⟩,⟨nArchived,ZcO id,1,F,[]⟩]
abbrev rf0 (b:Bool) (c t:Int):List Rfr:=if b then [⟨[c],t⟩] else []
structure GenSp (s:Sch) (n:Nat) (v id:Int) (b1 b2 b3:Bool) (chk:List Pred):Prop where
 eq:s=⟨v,(ZS id (rf0 b1 1 0) (rf0 b2 0 0) (rf0 b3 0 1) chk).take n⟩
 n2:2<=n
 n4:n<=4
 ver0:0<=v
 ver2:v<=2
 idk:id=4\/id=5
 c1:chk.length<=1
 cp:∀ p ∈ chk,GenP [id,4,5,3] [] 4 2 p
def GenS (s:Sch):Prop:=∃ n v id H F E z,GenSp s n v id H F E z
theorem GenS.check (h:GenS s):schF pcF s=0:=by
 obtain⟨n,v,id,E,F,H,z,rfl,M,N,ae,ac,L,ab,K⟩:=h
 have aa:chkL pcF [id,4,5,3] z=0:=by
  match z,ab,K with
  | [],_,_=>rfl
  | [p],_,K =>
   have:=(K p yb).ok ya ya (by rcases L with rfl | rfl<;>rfl) (show ZG []=true from rfl);simp [chkL,this]
 have W:∀ n,2<=n->n<=4->Zt [] ((ZS id (rf0 E 1 0) (rf0 F 0 0) (rf0 H 0 1) z).take n)=true:=by
  intro n M N;have I:n=2\/n=3\/n=4:=ya;rcases L with rfl | rfl<;>rcases I with rfl | rfl | rfl<;>rfl
 have Z:((ZS id (rf0 E 1 0) (rf0 F 0 0) (rf0 H 0 1) z).take n).any bigT=false:=by
  have O:¬ 4<z.length:=ya;have I:n=2\/n=3\/n=4:=ya;rcases I with rfl | rfl | rfl<;>cases E<;>cases F<;>cases H<;>simp [ZS,bigT,ZfR,ZcP,Zds,ZcO,O,rf0]
 have R:ZV ((ZS id (rf0 E 1 0) (rf0 F 0 0) (rf0 H 0 1) z).take n) ((ZS id (rf0 E 1 0) (rf0 F 0 0) (rf0 H 0 1) z).take n)=true:=by
  have I:n=2\/n=3\/n=4:=ya;rcases I with rfl | rfl | rfl<;>cases E<;>cases F<;>cases H<;>rcases L with rfl | rfl<;>rfl
 have:((ZS id (rf0 E 1 0) (rf0 F 0 0) (rf0 H 0 1) z).take n).length<=4:=(by simp [ZS];omega)
 have U:chkT pcF ((ZS id (rf0 E 1 0) (rf0 F 0 0) (rf0 H 0 1) z).take n)=0:=by
  have I:n=2\/n=3\/n=4:=ya;rcases I with rfl | rfl | rfl<;>simp [ZS,chkT,chkL,ZcP,aa]
 unfold schF;rw [qo (show ¬ 8<(Sch.tt ⟨v,(ZS id (rf0 E 1 0) (rf0 F 0 0) (rf0 H 0 1) z).take n⟩).length by show ¬ 8<List.length (List.take n _);omega)];rw [show (Sch.tt ⟨v,(ZS id (rf0 E 1 0) (rf0 F 0 0) (rf0 H 0 1) z).take n⟩).any bigT=false from Z];simp only [Bool.false_eq_true,if_false];rw [qo (by rw [W n M N,R];simp;omega)];exact U
structure Mk (w:World) (base:Nat) (S0:Nat->Prop) (e:TypeId) (size:Nat) (v:Value) (l:List Dat):Prop where
 own:OwnD w base e size (fun b=>S0 b\/Beh base w v b) v l
 lo:∀ b,S0 b->b<base
 hi:base<=w
section
variable {w w':World} {base size:Nat} {S0 X:Nat->Prop} {e:TypeId} {v:Value} {l:List Dat}
theorem Mk.start (E:∀ b,S0 b->b<base) (F:base<=w) (e:TypeId) (size:Nat):Mk w base S0 e size (.slice none 0 0) [] :=
 ⟨Qg (fun b z=>by rcases z with z | z;{ have:=E b z;omega };exact z.2.1),E,F⟩
abbrev Qe:=@Mk.start
theorem Mk.base_le (h:Mk w base S0 e size v l) {g:Nat} (E:v.ownBlock=some g):base<=g/\g<w:=by
 obtain⟨vals,z,_⟩:=h.own;exact⟨Zs z E,ZN z E⟩
theorem Mk.keep (h:Mk w base S0 e size v l) (E:Fr X w w') (H:∀ b,X b->b<base/\¬ S0 b):Mk w' base S0 e size v l:=by
 have K:Same (fun b=>S0 b\/Beh base w v b) w w':=fun b z=>by
  rcases z with z | z
  .exact E.block b (ym (h.lo b z) h.hi) (fun F=>(H b F).2 z)
  exact E.block b z.2.1 (fun F=>ym ((H b F).1) z.1)
 have L:=h.own.keep E.size K (fun g I=>E.block g (h.base_le I).2 (fun F=>ym ((H g F).1) ((h.base_le I).1)))
 exact⟨L.more (fun b z=>z.imp id (fun z=>⟨z.1,qC z.2.1 E.size,z.2.2⟩)) (fun b z=>by
  rcases z with z | z
  .exact⟨by have:=h.lo b z;have:=h.hi;have:=E.size;omega,fun e=>ym ((h.base_le e.symm).1) (h.lo b z)⟩
  exact z.2),h.lo,qD h.hi E.size⟩
theorem Mk.below (h:Mk w base S0 e size v l) (z:Below w w w'):Mk w' base S0 e size v l:=h.keep (X:=fun _=>False) (qW z) (fun _ h=>h.elim)
theorem Mk.len {A:Option Addr} {n c:Nat} (h:Mk w base S0 e size (.slice A n c) l):n=l.length:=by
 obtain⟨vals,E,_⟩:=h.own;rcases E.2 with ⟨z,H⟩ | ⟨g,cap,F,z,_⟩
 .injection z with _ I _;omega
 injection z
theorem Mk.slice {A:Option Addr} {n c:Nat} (h:Mk w base S0 e size (.slice A n c) l) (F:Dat.bytesAll l<=140737488355328):n=l.length/\n<=c/\Sl w (fun b=>S0 b\/base<=b/\b<w) A l :=
 h.own.slice F (fun b z=>z.imp id (fun z=>⟨z.1,z.2.1⟩)) (fun g E H _=>.inr ⟨E,H⟩)
theorem Mk.push {H vals:List Value} {d:Dat} {g cap n c m:Nat} {A:Option Addr} {a:Nat} (h:Mk w base S0 e size (.slice A n c) l) (O:Dat.Va w (fun b=>S0 b\/Beh base w (.slice A n c) b) l vals) (hd:Dat.Vs w (fun b=>S0 b\/Beh base w (.slice A n c) b) d H)
 (M:m=n+1) (N:w'.ownsRow base e size (.slice (some ⟨g,0,none⟩) m cap) m (vals++H)) (F:w.grownBy w' (Value.slice A n c).ownBlock) (E:(Value.slice A n c).ownBlock=some g\/g=w.heap.size):Mk w' base S0 e size (.slice (some ⟨g,0,none⟩) m cap) (l++[d]):=by
 obtain⟨vs,R,I,U⟩:=h.own;have Z:=h.len;have L:=Zfo O hd U (by rw [M,Z]) N F E
 have W:∀ b,b<w.heap.size->some b≠(Value.slice A n c).ownBlock->some b≠(Value.slice (some ⟨g,0,none⟩) m cap).ownBlock:=fun b R I e=>by
  have K:b=g:=(by simpa [Value.ownBlock] using e);rcases E with E | E
  .exact I (by rw [E,K])
  omega
 have:base<=g:=by
  rcases E with E | E
  .exact(h.base_le E).1
  rw [E];exact h.hi
 refine⟨L.more (fun b z=>z.imp id (fun z=>⟨z.1,qC z.2.1 F.size,W b z.2.1 z.2.2⟩)) (fun b z=>?_),h.lo,qD h.hi F.size⟩;rcases z with z | z
 .refine⟨by have:=h.lo b z;have:=h.hi;have:=F.size;omega,fun e=>?_⟩;have K:b=g:=(by simpa [Value.ownBlock] using e);have:=h.lo b z;omega
 exact z.2
theorem Zl {O:Array Oper} {rest:List Oper} {o:Oper} {a:Act} {Q:Exit->Act->World->Prop} (R:o.guard=none) (s x:Operand) (t:TypeId)
 (ai:o.op=.call { callee:=.builtin .append,args:=#[s,x],argTypes:=#[t,t] })
 {base:Nat} {S0:Nat->Prop} {e:TypeId} {i:TypeInfo} {I:Value} {size:Nat} (bytes:Nat) (ac:prog.underlying t=some (.slice e)) (am:prog.info? e=some i) (af:i.zero=some I)
 (W:i.size=size) (aj:i.bytes=bytes) (ap:I.cells.size=size) (ah:0<size)
 {w0:World} {A:Option Addr} {n c:Nat} {l:List Dat} (F:Mk w0 base S0 e size (.slice A n c) l) (ak:a.eval s=.slice A n c)
 {d:Dat} (E:Array Value) (hd:Dat.Vs w0 (fun b=>S0 b\/Beh base w0 (.slice A n c) b) d E.toList) (aa:d.Plain) (ab:d.size=size) (K:Nat) (an:a.eval x=.slice (some ⟨w0,0,none⟩) 1 K)
 (aw:n+1<=17592186044416) (au:(n+1)*bytes<=140737488355328)
 (h:∀ g cap w',Mk w' base S0 e size (.slice (some ⟨g,0,none⟩) (n+1) cap) (l++[d])->Below base w0 w'->w0.heap.size<w'->wpList prog O Q rest (a.put o.dst (.slice (some ⟨g,0,none⟩) (n+1) cap)) w') :
 wpList prog O Q (o :: rest) a (w0.alloc (.cells E e)):=by
 have L:Below w0 w0 (w0.alloc (.cells E e)):=(qa _ _).alloc nR _;have N:=F.below L;obtain⟨vals,M,Z,ax⟩:=N.own;have ao:=F.len;rw [<-ao] at M
 have aq:Dat.Vs (w0.alloc (.cells E e)) (fun b=>S0 b\/Beh base (w0.alloc (.cells E e)) (.slice A n c) b) d E.toList:=by
  refine Dat.Vs.more (fun b z=>z.imp id (fun z=>⟨z.1,by have:=z.2.1;simp;omega,z.2.2⟩)) d _ (Dat.Vs.keep (fun b z=>?_) d _ hd);refine qd _ _ _ ?_;rcases z with z | z
  .have:=F.lo b z;have:=F.hi;omega
  exact z.2.1
 refine wpList_append_lies _ R s x t ai base e i I size bytes ac am af W aj ap ah (.slice A n c) n vals ak M ⟨w0,0,none⟩ 1 K E.toList an
  (by rw [Dat.Vs.len _ _ hd,ab];omega) (World.news_of_block (qb w0 (.cells E e))) (Dat.Vs.one d _ aa hd) ya yh au (by have:=F.hi;simp;omega) (w0+1) (Qt _ _) ?_
 intro g cap w' U H ae av;refine h g cap w' (N.push (a:=0) Z aq rfl U H (ae.imp id (fun e=>by rw [e,Qt]))) ?_ (by have:=H.size;simp at this;omega);have ar:Below base w0 (w0.alloc (.cells E e)):=L.mono F.hi;refine ar.trans ⟨H.os,H.tape,H.output,H.size,fun b z=>H.block b (by have:=F.hi;simp;omega) (fun e=>?_)⟩;have:=(F.base_le e.symm).1;omega
end
end Go.Proofs.YtjadnfodboepeaaGreat
namespace Go.Proofs.YtjadnfodboepeaaGreat
open Tryz
variable {w w':World} {n k m:Nat} {A B:Option Addr} {S:Nat->Prop} {a t:Int} {l p:List Int} {x:Value} {g:TypeId} {s:Sch} {M:V} {Z:List Pred}
mutual
def nodesP:Pred->Int->Int
 | .mk _ _ _ _ a,n=>nodesL a (n+1)
def nodesL:List Pred->Int->Int
 | [],n=>n
 | p :: r,n=>if n<=24 then nodesL r (nodesP p n) else n
end
theorem nodesL_drop (l:List Pred) (n:Int) (k:Nat) (h:k<l):nodesL (l.drop k) n=if n<=24 then nodesL (l.drop (k+1)) (nodesP (l.getD k p0) n) else n:=by
 rw [qq h];have z:l.getD k p0=l[k]:=gD h;rw [z]
 conv=>lhs;unfold nodesL
theorem Zer (l:List Pred) (n:Int) (h:24<n):nodesL l n=n:=by
 cases l with
 | nil=>unfold nodesL;rfl
 | cons p r=>unfold nodesL;rw [qo ya]
mutual
theorem nodesP_spec:∀ (p:Pred) (n:Int),n<=24->(cntP p+n<=24->nodesP p n=cntP p+n)/\(24<cntP p+n->nodesP p n=25)
 | .mk _ _ _ _ a,n,h=>by
  unfold nodesP cntP
  by_cases E:n+1<=24
  .have:=nodesL_spec a (n+1) E;exact⟨fun z=>by rw [this.1 ya];omega,fun z=>this.2 ya⟩
  rw [Zer a (n+1) ya];exact⟨fun z=>ya,fun _=>ya⟩
theorem nodesL_spec:∀ (l:List Pred) (n:Int),n<=24->(cntL l+n<=24->nodesL l n=cntL l+n)/\(24<cntL l+n->nodesL l n=25)
 | [],n,h=>by
  unfold nodesL cntL;exact⟨fun _=>yb,fun z=>ya⟩
 | p :: r,n,h=>by
  unfold nodesL cntL;rw [qr h];have F:=nodesP_spec p n h
  by_cases E:cntP p+n<=24
  .rw [F.1 E];have:=nodesL_spec r (cntP p+n) E;exact⟨fun z=>by rw [this.1 ya];omega,fun z=>this.2 ya⟩
  rw [F.2 ya,Zer r 25 ya];exact⟨fun z=>ya,fun _=>rfl⟩
end
mutual
def deepP:Pred->Int->Bool
 | .mk _ _ _ _ a,n=>if n=0 then true else deepL a (n - 1)
def deepL:List Pred->Int->Bool
 | [],_=>false
 | p :: r,n=>deepP p n||deepL r n
end
theorem deepL_drop (l:List Pred) (n:Int) (k:Nat) (h:k<l):deepL (l.drop k) n=(deepP (l.getD k p0) n||deepL (l.drop (k+1)) n):=by
 rw [qq h];have z:l.getD k p0=l[k]:=gD h;rw [z]
 conv=>lhs;unfold deepL
mutual
theorem deepP_spec:∀ (p:Pred) (n:Int),0<=n->deepP p n=decide (n<depP p)
 | .mk _ _ _ _ a,n,h=>by
  unfold deepP depP
  by_cases E:n=0
  .rw [qr E,qt ya]
  rw [qo E,deepL_spec a (n - 1) ya]
  by_cases z:n - 1<(depL a:Int)
  .rw [qt z,qt ya]
  rw [qe z,qe ya]
theorem deepL_spec:∀ (l:List Pred) (n:Int),0<=n->deepL l n=decide (n<depL l)
 | [],n,h=>by
  unfold deepL depL;rw [qe ya]
 | p :: r,n,h=>by
  unfold deepL depL;rw [deepP_spec p n h,deepL_spec r n h]
  by_cases z:n<(depP p:Int)
  .rw [qt z,Bool.true_or];exact(qt ya).symm
  rw [qe z,Bool.false_or]
  by_cases E:n<(depL r:Int)
  .rw [qt E];exact(qt ya).symm
  rw [qe E];exact(qe ya).symm
end
def Zek (E z:List Int) (p:Pred):Int:=if ZG E=false\/ZG z=false then 1 else if 24<nodesP p 0\/deepP p 8=true then 2 else if predOk E z p=false then 50 else 0
theorem rpcFF_eq (F z:List Int) (p:Pred):Zek F z p=pcFF F z p:=by
 have E:=nodesP_spec p 0 ya;have I:=deepP_spec p 8 ya;unfold Zek pcFF;rw [ZhD,I]
 by_cases H:cntP p<=24
 .rw [E.1 ya]
  by_cases hd:depP p<=8
  .rw [qt H,qt hd,qe (show ¬ (8:Int)<depP p by omega)];simp only [Bool.and_self,Bool.true_eq_false,if_false,Bool.false_eq_true,or_false,Int.add_zero];rw [qo (show ¬ (24:Int)<cntP p by omega)]
  rw [qe hd,qt (show (8:Int)<depP p by omega)];simp
 rw [E.2 ya,qe H];simp
open Go.RowKit
abbrev kAgg (A B:Option Addr) (n m c d:Nat):Value:=.agg #[.slice A n c,.slice B m d]
theorem ZkW (A B:Option Addr) (an cb:Nat) (cols params:List Int) (o:Opd) (S:Nat->Prop) (ah:IntS w S A cols) (ak:IntS w S B params) (ap:∀ b,S b->b<w) (am:o.value.t.size<=9223372036854775807) :
 Calls prog 266 #[kAgg A B cols params an cb,oAgg o] w (Zaz (Zj cols params o) w):=by
 obtain⟨ok,oi,⟨F,H,E⟩⟩:=o;simp only at am;replace ah:=hI ah;replace ak:=hI ak;have I:=hI (((qa w w).alloc nR (.cells #[.slice A cols an,.slice B params cb] 318)).alloc yb (.cells #[.int .i64 ok,.int .i64 oi,.int .i64 F,.int .i64 H,.string E] 110))
 by_cases ai:ok=3
 .subst ai
  by_cases aj:oi=0
  .subst aj;go_enter func266,ntmps266
   go_wp2_with fail
   refine(real_any ⟨F,H,E⟩ am).mono ?_;rintro e aq ⟨rfl,R⟩;have ao:=hI (I.trans (R.mono (by first | (simp;done) | (simp;omega))));have:yr aq (w+1) 2 (.int .i64 F):=c9Q R yb yb;clear R
   by_cases W:Zdx ⟨F,H,E⟩=true
   .have z:=hI (show Zj cols params ⟨3,0,⟨F,H,E⟩⟩=F by simp [Zj,W]);rw [W];clear W
    go_wp2
    go_ret;exact⟨by rw [z];rfl,ao⟩
   have ab:Zdx ⟨F,H,E⟩=false:=(by simpa using W);have z:=hI (show Zj cols params ⟨3,0,⟨F,H,E⟩⟩=0 by simp [Zj,ab]);rw [ab];clear W ab
   go_wp2
   go_ret;exact⟨by rw [z];rfl,ao⟩
  have:(oi != 0)=true:=(by simp [aj]);have z:=hI (show Zj cols params ⟨3,oi,⟨F,H,E⟩⟩=0 by simp [Zj,aj]);go_enter func266,ntmps266
  go_wp2
  go_ret;exact⟨by rw [z];rfl,I⟩
 have:(ok == 3)=false:=qf.2 ai
 by_cases aa:ok=2
 .subst aa
  by_cases Z:oi<0
  .have z:=hI (show Zj cols params ⟨2,oi,⟨F,H,E⟩⟩=0 by simp [Zj,ZO,Z]);go_enter func266,ntmps266
   go_wp2
   go_ret;exact⟨by rw [z];rfl,I⟩
  have aw:decide (oi<0)=false:=qe Z;obtain⟨k,rfl⟩:=qn (show 0<=oi by omega)
  by_cases ac:k<params
  .have ae:decide (params.length<=k)=false:=by simp;omega
   by_cases O:F=0
   .subst O
    by_cases N:H=0
    .subst N
     by_cases L:E=⟨#[]⟩
     .subst L;obtain⟨M,av,rfl,R,af⟩:=ak.at_ ac;have ax:M<w:=ap M R;have au:M<w+1:=ya;have z:=hI (show Zj cols params ⟨2,k,⟨0,0,⟨#[]⟩⟩⟩=params.getD k 0 by simp [Zj,ZO];omega);generalize params.getD k 0=r at af z;go_enter func266,ntmps266
      go_wp2
      go_ret;exact⟨by rw [z];rfl,I⟩
     have U:(E.toList == (⟨#[]⟩:ByteArray).toList)=false:=ZbY L
     have ar:E.toList.isEmpty=false:=by
      rw [<-Bool.not_eq_true];intro h;apply L;have K:E.toList=[]:=(by simpa using h);cases E;rw [ByteArray.toList_eq] at K;simpa using K
     have z:=hI (show Zj cols params ⟨2,k,⟨0,0,E⟩⟩=0 by simp [Zj,ZO,L]);go_enter func266,ntmps266
     go_wp2
     go_ret;exact⟨by rw [z];rfl,I⟩
    have U:(H == 0)=false:=qf.2 N;have z:=hI (show Zj cols params ⟨2,k,⟨0,H,E⟩⟩=0 by simp [Zj,ZO,N]);go_enter func266,ntmps266
    go_wp2
    go_ret;exact⟨by rw [z];rfl,I⟩
   have U:(F == 0)=false:=qf.2 O;have z:=hI (show Zj cols params ⟨2,k,⟨F,H,E⟩⟩=0 by simp [Zj,ZO,O]);go_enter func266,ntmps266
   go_wp2
   go_ret;exact⟨by rw [z];rfl,I⟩
  have ae:decide (params.length<=k)=true:=yd;have z:=hI (show Zj cols params ⟨2,k,⟨F,H,E⟩⟩=0 by simp [Zj,ZO];omega);go_enter func266,ntmps266
  go_wp2
  go_ret;exact⟨by rw [z];rfl,I⟩
 have:(ok == 2)=false:=qf.2 aa
 by_cases K:ok=1
 .subst K
  by_cases Z:oi<0
  .have z:=hI (show Zj cols params ⟨1,oi,⟨F,H,E⟩⟩=0 by simp [Zj,ZO,Z]);go_enter func266,ntmps266
   go_wp2
   go_ret;exact⟨by rw [z];rfl,I⟩
  have aw:decide (oi<0)=false:=qe Z;obtain⟨k,rfl⟩:=qn (show 0<=oi by omega)
  by_cases ac:k<cols
  .have ae:decide (cols.length<=k)=false:=by simp;omega
   by_cases O:F=0
   .subst O
    by_cases N:H=0
    .subst N
     by_cases L:E=⟨#[]⟩
     .subst L;obtain⟨M,av,rfl,R,af⟩:=ah.at_ ac;have ax:M<w:=ap M R;have au:M<w+1:=ya;have z:=hI (show Zj cols params ⟨1,k,⟨0,0,⟨#[]⟩⟩⟩=cols.getD k 0 by simp [Zj,ZO];omega);generalize cols.getD k 0=r at af z;go_enter func266,ntmps266
      go_wp2
      go_ret;exact⟨by rw [z];rfl,I⟩
     have U:(E.toList == (⟨#[]⟩:ByteArray).toList)=false:=ZbY L
     have ar:E.toList.isEmpty=false:=by
      rw [<-Bool.not_eq_true];intro h;apply L;have K:E.toList=[]:=(by simpa using h);cases E;rw [ByteArray.toList_eq] at K;simpa using K
     have z:=hI (show Zj cols params ⟨1,k,⟨0,0,E⟩⟩=0 by simp [Zj,ZO,L]);go_enter func266,ntmps266
     go_wp2
     go_ret;exact⟨by rw [z];rfl,I⟩
    have U:(H == 0)=false:=qf.2 N;have z:=hI (show Zj cols params ⟨1,k,⟨0,H,E⟩⟩=0 by simp [Zj,ZO,N]);go_enter func266,ntmps266
    go_wp2
    go_ret;exact⟨by rw [z];rfl,I⟩
   have U:(F == 0)=false:=qf.2 O;have z:=hI (show Zj cols params ⟨1,k,⟨F,H,E⟩⟩=0 by simp [Zj,ZO,O]);go_enter func266,ntmps266
   go_wp2
   go_ret;exact⟨by rw [z];rfl,I⟩
  have ae:decide (cols.length<=k)=true:=yd;have z:=hI (show Zj cols params ⟨1,k,⟨F,H,E⟩⟩=0 by simp [Zj,ZO];omega);go_enter func266,ntmps266
  go_wp2
  go_ret;exact⟨by rw [z];rfl,I⟩
 have:(ok == 1)=false:=qf.2 K;have z:=hI (show Zj cols params ⟨ok,oi,⟨F,H,E⟩⟩=0 by simp [Zj,K,aa,ai]);go_enter func266,ntmps266
 go_wp2
 go_ret;exact⟨by rw [z];rfl,I⟩
theorem ZhH (o:Opd) (ah:IntS w S A l) (ak:IntS w S B p) (ao:∀ b,S b->b<w) (am:o.value.t.size<=9223372036854775807) :
 Calls prog 206 #[.slice A l n,.slice B p k,oAgg o] w (Zaz (Zj l p o) w):=by
 obtain⟨ok,oi,⟨F,H,E⟩⟩:=o;simp only at am;replace ah:=hI ah;replace ak:=hI ak;have I:=hI ((qa w w).alloc nR (.cells #[.int .i64 ok,.int .i64 oi,.int .i64 F,.int .i64 H,.string E] 110))
 by_cases ai:ok=3
 .subst ai
  by_cases aj:oi=0
  .subst aj;go_enter func206,ntmps206
   go_wp2_with fail
   refine(rreal_any ⟨F,H,E⟩ am).mono ?_;rintro e ap ⟨rfl,O⟩;have an:=hI (I.trans (O.mono (by first | (simp;done) | (simp;omega))));have:yr ap w 2 (.int .i64 F):=c9Q O yb yb;clear O
   by_cases W:Zdx ⟨F,H,E⟩=true
   .have z:=hI (show Zj l p ⟨3,0,⟨F,H,E⟩⟩=F by simp [Zj,W]);rw [W];clear W
    go_wp2
    go_ret;exact⟨by rw [z];rfl,an⟩
   have ab:Zdx ⟨F,H,E⟩=false:=(by simpa using W);have z:=hI (show Zj l p ⟨3,0,⟨F,H,E⟩⟩=0 by simp [Zj,ab]);rw [ab];clear W ab
   go_wp2
   go_ret;exact⟨by rw [z];rfl,an⟩
  have:(oi != 0)=true:=(by simp [aj]);have z:=hI (show Zj l p ⟨3,oi,⟨F,H,E⟩⟩=0 by simp [Zj,aj]);go_enter func206,ntmps206
  go_wp2
  go_ret;exact⟨by rw [z];rfl,I⟩
 have:(ok == 3)=false:=qf.2 ai
 by_cases aa:ok=2
 .subst aa
  by_cases Z:oi<0
  .have z:=hI (show Zj l p ⟨2,oi,⟨F,H,E⟩⟩=0 by simp [Zj,ZO,Z]);go_enter func206,ntmps206
   go_wp2
   go_ret;exact⟨by rw [z];rfl,I⟩
  have av:decide (oi<0)=false:=qe Z;obtain⟨cb,rfl⟩:=qn (show 0<=oi by omega)
  by_cases ac:cb<p
  .have ae:decide (p.length<=cb)=false:=by simp;omega
   by_cases N:F=0
   .subst N
    by_cases M:H=0
    .subst M
     by_cases L:E=⟨#[]⟩
     .subst L;obtain⟨R,au,rfl,O,af⟩:=ak.at_ ac;have aw:R<w:=ao R O;have z:=hI (show Zj l p ⟨2,cb,⟨0,0,⟨#[]⟩⟩⟩=p.getD cb 0 by simp [Zj,ZO];omega);generalize p.getD cb 0=r at af z;go_enter func206,ntmps206
      go_wp2
      go_ret;exact⟨by rw [z];rfl,I⟩
     have U:(E.toList == (⟨#[]⟩:ByteArray).toList)=false:=ZbY L
     have aq:E.toList.isEmpty=false:=by
      rw [<-Bool.not_eq_true];intro h;apply L;have K:E.toList=[]:=(by simpa using h);cases E;rw [ByteArray.toList_eq] at K;simpa using K
     have z:=hI (show Zj l p ⟨2,cb,⟨0,0,E⟩⟩=0 by simp [Zj,ZO,L]);go_enter func206,ntmps206
     go_wp2
     go_ret;exact⟨by rw [z];rfl,I⟩
    have U:(H == 0)=false:=qf.2 M;have z:=hI (show Zj l p ⟨2,cb,⟨0,H,E⟩⟩=0 by simp [Zj,ZO,M]);go_enter func206,ntmps206
    go_wp2
    go_ret;exact⟨by rw [z];rfl,I⟩
   have U:(F == 0)=false:=qf.2 N;have z:=hI (show Zj l p ⟨2,cb,⟨F,H,E⟩⟩=0 by simp [Zj,ZO,N]);go_enter func206,ntmps206
   go_wp2
   go_ret;exact⟨by rw [z];rfl,I⟩
  have ae:decide (p.length<=cb)=true:=yd;have z:=hI (show Zj l p ⟨2,cb,⟨F,H,E⟩⟩=0 by simp [Zj,ZO];omega);go_enter func206,ntmps206
  go_wp2
  go_ret;exact⟨by rw [z];rfl,I⟩
 have:(ok == 2)=false:=qf.2 aa
 by_cases K:ok=1
 .subst K
  by_cases Z:oi<0
  .have z:=hI (show Zj l p ⟨1,oi,⟨F,H,E⟩⟩=0 by simp [Zj,ZO,Z]);go_enter func206,ntmps206
   go_wp2
   go_ret;exact⟨by rw [z];rfl,I⟩
  have av:decide (oi<0)=false:=qe Z;obtain⟨cb,rfl⟩:=qn (show 0<=oi by omega)
  by_cases ac:cb<l
  .have ae:decide (l.length<=cb)=false:=by simp;omega
   by_cases N:F=0
   .subst N
    by_cases M:H=0
    .subst M
     by_cases L:E=⟨#[]⟩
     .subst L;obtain⟨R,au,rfl,O,af⟩:=ah.at_ ac;have aw:R<w:=ao R O;have z:=hI (show Zj l p ⟨1,cb,⟨0,0,⟨#[]⟩⟩⟩=l.getD cb 0 by simp [Zj,ZO];omega);generalize l.getD cb 0=r at af z;go_enter func206,ntmps206
      go_wp2
      go_ret;exact⟨by rw [z];rfl,I⟩
     have U:(E.toList == (⟨#[]⟩:ByteArray).toList)=false:=ZbY L
     have aq:E.toList.isEmpty=false:=by
      rw [<-Bool.not_eq_true];intro h;apply L;have K:E.toList=[]:=(by simpa using h);cases E;rw [ByteArray.toList_eq] at K;simpa using K
     have z:=hI (show Zj l p ⟨1,cb,⟨0,0,E⟩⟩=0 by simp [Zj,ZO,L]);go_enter func206,ntmps206
     go_wp2
     go_ret;exact⟨by rw [z];rfl,I⟩
    have U:(H == 0)=false:=qf.2 M;have z:=hI (show Zj l p ⟨1,cb,⟨0,H,E⟩⟩=0 by simp [Zj,ZO,M]);go_enter func206,ntmps206
    go_wp2
    go_ret;exact⟨by rw [z];rfl,I⟩
   have U:(F == 0)=false:=qf.2 N;have z:=hI (show Zj l p ⟨1,cb,⟨F,H,E⟩⟩=0 by simp [Zj,ZO,N]);go_enter func206,ntmps206
   go_wp2
   go_ret;exact⟨by rw [z];rfl,I⟩
  have ae:decide (l.length<=cb)=true:=yd;have z:=hI (show Zj l p ⟨1,cb,⟨F,H,E⟩⟩=0 by simp [Zj,ZO];omega);go_enter func206,ntmps206
  go_wp2
  go_ret;exact⟨by rw [z];rfl,I⟩
 have:(ok == 1)=false:=qf.2 K;have z:=hI (show Zj l p ⟨ok,oi,⟨F,H,E⟩⟩=0 by simp [Zj,K,aa,ai]);go_enter func206,ntmps206
 go_wp2
 go_ret;exact⟨by rw [z];rfl,I⟩
theorem set_first (z:w.heap[n]?=some (.cells #[.int .i64 a] 3 (0,0))) (o:Obj) :
 ((w.setCell ⟨n,0,none⟩ (.int .i64 t)).alloc o).heap[n]?=some (.cells #[.int .i64 t] 3 (0,0))/\w.grownBy ((w.setCell ⟨n,0,none⟩ (.int .i64 t)).alloc o) (some n):=by
 have H:n<(w.setCell ⟨n,0,none⟩ (.int .i64 t)).heap.size:=(by have:=Zb z;simpa using this);refine⟨(qd _ _ _ H).trans (by simp [World.setCell,Array.getElem?_modify,z]),?_⟩;refine⟨rfl,rfl,rfl,yb,fun k F E=>?_⟩;rw [qd _ _ _ (by simpa using F)];exact qc w ⟨n,0,none⟩ _ k (fun e=>E (by rw [e]))
theorem Zdd {p:Pred} (z:n<Z) (e:Z.getD n p0=p):SizeOf.sizeOf p<SizeOf.sizeOf Z:=by
 subst e;have:Z.getD n p0=Z[n]:=gD z;rw [this];exact List.sizeOf_lt_of_mem (qJ _)
theorem small_any:∀ (n:Nat) (op cmp:Int) (l r:Opd) (args:List Pred) (A:Option Addr) (c:Nat) (z b:Int) (g:Nat) (S:Nat->Prop) (w:World),SizeOf.sizeOf (Pred.mk op cmp l r args)<=n->PredS w S A args->(∀ x,S x->x<w/\x≠g)->w.heap[g]?=some (.cells #[.int .i64 b] 3 (0,0))->1<=z->z<=9->0<=b->b<=1000 ->
 Calls prog 246 #[pAgg op cmp l r A args c,.int .i64 z,.pointer (some ⟨g,0,none⟩)] w (SmallPost g (smallP (.mk op cmp l r args) z b) w):=by
 intro n;induction n with
 | zero=>intro op cmp l r args A c z b g S w af;simp at af
 | succ n ao =>
  intro op cmp l r args A c z b g S w af aa R M aJ aY aN aV;have:g<w:=Zb M;have aW:=aa.len;replace aa:=hI aa;replace ao:=hI ao;have az:=hI (show SizeOf.sizeOf args<=n by simp at af;omega);have K:=hI (set_first (t:=b - 1) M (.cells #[.int .i64 op,.int .i64 cmp,.int .i64 l.kind,.int .i64 l.index,.int .i64 l.value.k,.int .i64 l.value.i,.string l.value.t,.int .i64 r.kind,.int .i64 r.index,.int .i64 r.value.k,.int .i64 r.value.i,.string r.value.t,.slice A args c] 112));have ay:w.cell? ⟨g,0,none⟩=some (.int .i64 b):=(by simp [World.cell?,M]);have gf:w.frozen? ⟨g,0,none⟩=false:=(by simp [World.frozen?,M]);clear M af
  by_cases aB:b - 1<0
  .have I:=hI (show smallP (.mk op cmp l r args) z b=(false,b - 1) by unfold smallP;rw [qr (.inl aB)]);go_enter func246,ntmps246
   go_wp2
   go_ret;rw [I];exact⟨rfl,K.1,K.2⟩
  by_cases aD:8<z
  .have I:=hI (show smallP (.mk op cmp l r args) z b=(false,b - 1) by unfold smallP;rw [qr (.inr aD)]);go_enter func246,ntmps246
   go_wp2
   go_ret;rw [I];exact⟨rfl,K.1,K.2⟩
  have I:=hI (show smallP (.mk op cmp l r args) z b=smallL args (z+1) (b - 1) by unfold smallP;rw [qo ya]);go_enter func246,ntmps246
  go_wp2
  go_loopw [25] (fun i wr=>∃ (k:Nat) (F:Int),k<=args/\i=.int .i64 k/\smallL args (z+1) (b - 1)=smallL (args.drop k) (z+1) F/\0<=F/\F<=1000/\wr.heap[g]?=some (.cells #[.int .i64 F] 3 (0,0))/\w.grownBy wr (some g)) (fun i _=>args.length - (intOf i).toNat)
  case atStart=>exact⟨0,b - 1,qk _,rfl,yb,ya,ya,K.1,K.2⟩
  obtain⟨k,F,aI,rfl,L,aq,aw,ac,am⟩:=hrel;replace L:=hI L;replace ac:=hI ac;have an:=hI am;have aL:=am.size;clear am ay gf
  by_cases aj:k<args
  .have av:=hI (aa.keep (Same.of_grown an (fun x H=>⟨(R x H).1,fun e=>(R x H).2 (Option.some.inj e)⟩)));obtain⟨aP,aK,rfl,aS,Z,W,ab,U,ae,A',ax,ak,E⟩:=av.at_ aj;have ai:=hI (smallL_drop args (z+1) F k aj);rw [ak] at ai;have aA:=hI (Zdd aj ak);have ar:=hI (smallP_le (.mk Z W ab U ae) (z+1) F aq);have f1:=E.fop;have aT:=E.fcmp;have f3:=E.lk;have aU:=E.li;have aQ:=E.lvk;have aH:=E.lvi;have aF:=E.lvt;have aX:=E.rk;have aG:=E.ri;have aR:=E.rvk;have aM:=E.rvi;have aZ:=E.rvt;have aO:=E.fargs;have aC:=hI E.pS;clear E ak
   go_wp2_with fail
   refine(ao Z W ab U ae A' ax (z+1) F g S _ (ym aA.out az.out) (aC.keep (fun x H=>qd _ _ _ (yl ((R x H).1)))) (fun x H=>⟨by have:=(R x H).1;simp;omega,(R x H).2⟩) ((qd _ _ _ ya).trans ac) ya ya aq aw).mono ?_;rintro e w2 ⟨rfl,ah,ap⟩;have au:=hI ((an.trans (qY wr _ (some g))).trans ap);replace ah:=hI ah;clear ap
   by_cases O:(smallP (.mk Z W ab U ae) (z+1) F).1=true
   .have N:=hI O;rw [O];clear O
    go_wp2
    go_roundw
    case rel=>exact⟨k+1,_,ya,by go_num,by rw [L,ai,qr N.out],ar.2 N,yl ar.1,ah,au⟩
    simp [intOf];omega
   have N:=hI (show (smallP (.mk Z W ab U ae) (z+1) F).1=false by simpa using O);rw [N];clear O
   go_wp2
   go_ret;rw [I,L,ai,qo (by rw [N.out];simp)];exact⟨rfl,ah,au⟩
  have aE:=hI (show smallL args (z+1) (b - 1)=(true,F) by rw [L,show k=args.length by omega,qQ];unfold smallL;rfl)
  go_wp2
  go_ret;rw [I,aE];exact⟨rfl,ac,an⟩
section
variable {w w':World} {base size:Nat} {S0 X:Nat->Prop} {e:TypeId} {v:Value} {l:List Dat}
theorem Zbc {ai:Array Oper} {o:Oper} {a:Act} {K:Act->World->Prop} {Q:Exit->Act->World->Prop} {am:Prop} (R:o.guard=none) (s x:Operand) (t:TypeId)
 (aj:o.op=.call { callee:=.builtin .append,args:=#[s,x],argTypes:=#[t,t] })
 {base:Nat} {S0:Nat->Prop} {e:TypeId} {i:TypeInfo} {I:Value} {size:Nat} (bytes:Nat) (ac:prog.underlying t=some (.slice e)) (ao:prog.info? e=some i) (ah:i.zero=some I)
 (W:i.size=size) (ak:i.bytes=bytes) (ar:I.cells.size=size) (af:0<size)
 {w0:World} {A:Option Addr} {n c:Nat} {l:List Dat} (F:Mk w0 base S0 e size (.slice A n c) l) (an:a.eval s=.slice A n c)
 {d:Dat} (E:Array Value) (hd:Dat.Vs w0 (fun b=>S0 b\/Beh base w0 (.slice A n c) b) d E.toList) (aa:d.Plain) (ab:d.size=size) (L:Nat) (ap:a.eval x=.slice (some ⟨w0,0,none⟩) 1 L)
 (ay:n+1<=17592186044416) (aw:(n+1)*bytes<=140737488355328)
 (h:∀ g cap w',Mk w' base S0 e size (.slice (some ⟨g,0,none⟩) (n+1) cap) (l++[d])->Below base w0 w'->w0.heap.size<w'->K (a.put o.dst (.slice (some ⟨g,0,none⟩) (n+1) cap)) w') :
 if Region.wanted o (yielded ai a.tmps)=true then Oper.wp prog o a (w0.alloc (.cells E e)) K Q else am:=by
 have M:Below w0 w0 (w0.alloc (.cells E e)):=(qa _ _).alloc nR _;have O:=F.below M;obtain⟨vals,N,Z,az⟩:=O.own;have aq:=F.len;rw [<-aq] at N
 have au:Dat.Vs (w0.alloc (.cells E e)) (fun b=>S0 b\/Beh base (w0.alloc (.cells E e)) (.slice A n c) b) d E.toList:=by
  refine Dat.Vs.more (fun b z=>z.imp id (fun z=>⟨z.1,by have:=z.2.1;simp;omega,z.2.2⟩)) d _ (Dat.Vs.keep (fun b z=>?_) d _ hd);refine qd _ _ _ ?_;rcases z with z | z
  .have:=F.lo b z;have:=F.hi;omega
  exact z.2.1
 refine step_append_lies _ R s x t aj base e i I size bytes ac ao ah W ak ar af (.slice A n c) n vals an N ⟨w0,0,none⟩ 1 L E.toList ap
  (by rw [Dat.Vs.len _ _ hd,ab];omega) (World.news_of_block (qb w0 (.cells E e))) (Dat.Vs.one d _ aa hd) ya yh aw (by have:=F.hi;simp;omega) (w0+1) (Qt _ _) ?_
 intro g cap w' U H ae ax;refine h g cap w' (O.push (a:=0) Z au rfl U H (ae.imp id (fun e=>by rw [e,Qt]))) ?_ (by have:=H.size;simp at this;omega);have av:Below base w0 (w0.alloc (.cells E e)):=M.mono F.hi;refine av.trans ⟨H.os,H.tape,H.output,H.size,fun b z=>H.block b (by have:=F.hi;simp;omega) (fun e=>?_)⟩;have:=(F.base_le e.symm).1;omega
end
end Go.Proofs.YtjadnfodboepeaaGreat
namespace Go.Proofs.YtjadnfodboepeaaGreat
open Tryz
open Go.RowKit
variable {w w':World} {n k m:Nat} {A B:Option Addr} {S:Nat->Prop} {a t:Int} {l p:List Int} {x:Value} {g:TypeId} {s:Sch} {M:V} {Z:List Pred}
section
variable {w w':World} {base size:Nat} {S0 X:Nat->Prop} {e:TypeId} {v:Value} {l:List Dat}
end
end Go.Proofs.YtjadnfodboepeaaGreat
