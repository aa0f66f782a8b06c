import Derived.Test.YtjadnfodboepeaaGreatK31
import Derived.Test.YtjadnfodboepeaaGreatKu2
import Derived.Test.YtjadnfodboepeaaGreatKh0
set_option linter.all false
set_option maxRecDepth 100000
set_option maxHeartbeats 8000000
namespace Go.Proofs.YtjadnfodboepeaaGreat
open Tryz
open Go Go.RowKit
variable {w:World} {n k m i j b c:Nat} {A B A' D:Option Addr} {S:Nat->Prop} {a:Int} {x xA xB:Value} {s:Sch} {F:Nat->Value}
theorem ZgS (h:Nat) {st:St}  
 (ay:w.heap[h]?=some (.cells (hisL A n m s A' j b x (.slice D st c) (.slice B k i) xA).toArray 131 (0,0))) (au:TabS w S A' s.tt) (aq:StS w S D st) (ah:∀ am,S am->am<w) (az:ZbZ pcF s) (aE:Zi st<=4611686018427387904) (aS:s.tt.length<=1000000) (bi:b+k<=1000000000000) (aD:netF (schF pcF s) s 1 []=(0,[])) :
 Calls prog 16 #[.pointer (some ⟨h,0,none⟩),.int .i64 ((b+k:Nat):Int)] w (ApPost (Zak (schF pcF s) s 1 st []) w):=by
 have bf:=hI ay;replace au:=hI au;replace aq:=hI aq;replace ah:=hI ah;replace az:=hI az;replace aE:=hI aE;replace aD:=hI aD;have aP:=Zb ay;clear ay;go_enter func16,ntmps16
 go_wp2_with fail
 obtain⟨I,aK,K,aJ⟩:=al w (.cells #[.slice none 0 0] 28);have K:=K.out;have aj:=hI ((K.block _ aP).trans bf);replace K:=hI K;rw [aK];clear aK;have aC:yr I h 4 (.int .i64 (b:Int)):=Za aj 4 _ rfl;have av:yr I h 7 (.slice B k i):=Za aj 7 _ rfl;refine(kept_any (n:=h) (a:=((b+k:Nat):Int)) (t:=(b:Int)) (A:=B) (k:=k) (m:=i) (w:=I) aC av ya).mono ?_;rintro e w2 ⟨rfl,aG,rfl⟩;have hd:decide ((b:Int)<=((b+k:Nat):Int)/\((b+k:Nat):Int)<=(b:Int)+(k:Int))=true:=qt ya;rw [hd]
 go_wp2_with fail
 refine(Zcn (n:=h) (a:=(b:Int)) (A:=B) (k:=k) (m:=i) (w:=I.drewN aG) aC av ya).mono ?_;rintro e bh ⟨rfl,bb,rfl⟩;go_upto_region 4 with fail
 obtain⟨L,aB⟩:=yp ((I.drewN (aG+bb)).drew);have ao:Below I I L:=(by rw [<-aB];exact⟨rfl,rfl,rfl,qp _,fun _ _=>rfl⟩);have aW:=K.size;have af:Below w w L:=K.trans (ao.mono aW);have R:=hI ((ao.block _ (Zb aj)).trans aj);have aw:=hI ((ao.block _ (Zb aJ)).trans aJ);have aO:=hI af;have aQ:=af.size;have aM:yr L h 2 (.int .i64 s.vv):=Za R 2 _ rfl;have aN:yr L h 3 (.slice A' s.tt j):=Za R 3 _ rfl;have aX:yr L h 6 (.slice D st c):=Za R 6 _ rfl;have W:=ZbK (A:=A') j (s:=s) (B:=D) c (st:=st) (A':=none) (n:=0) (L:=[]) (LA:=[]) (S:=S) (w:=L) (qU au (fun q z=>af.block q (ah q z))) (qU aq (fun q z=>af.block q (ah q z))) ChgS.nil_ (fun q z=>yl (ah q z)) az aE aS yb aD yb;rw [show advL []=[] from rfl] at W;replace W:=hI W;obtain⟨ab,N⟩:=yp (Zak (schF pcF s) s 1 st []);rw [N] at W;replace N:=hI N;clear ao af aC av hd;refine uS (fun w'=>w'.cell? ⟨h,2,none⟩=some (.int .i64 s.vv)/\w'.cell? ⟨h,3,none⟩=some (.slice A' s.tt j)/\w'.cell? ⟨h,6,none⟩=some (.slice D st c)) 12 13 fun Q' aH aF=>?_;rw [aB];clear aB;refine uR [0,8] aF ⟨aM,aN,aX⟩ ?_;refine uQ 8 fun U H=>?_;go_simp;refine W.mono ?_;rintro e F ⟨aa,ae,rfl,aT,ap,ak⟩;replace ap:=hI ap;have Z:=hI ak;have ai:=(ak.block _ (Zb R)).trans R;have aI:=hI ((ak.block _ (Zb aw)).trans aw);have ax:yr F h 2 (.int .i64 s.vv):=Za ai 2 _ rfl;have aA:yr F h 3 (.slice A' s.tt j):=Za ai 3 _ rfl;have ar:yr F h 6 (.slice D st c):=Za ai 6 _ rfl;clear ak ai;refine H _ _ (fun _=>⟨ax,aA,ar⟩) ?_;clear H U
 try simp only [Act.put,psA,psB,psC]
 refine uR [9,2] aF ⟨ax,aA,ar⟩ ?_;refine uQ 11 fun U H=>?_;go_simp;have aZ:yr F w 0 (.slice none 0 0):=Za aI 0 _ rfl;have:F.frozen? ⟨w,0,none⟩=false:=Zd aI (k:=0);go_simp;have E:Fr (fun q=>q=w.heap.size) F (F.setCell ⟨w,0,none⟩ (.slice aa ab.2 ae)):=(Qa _ F).setCell _ (fun _=>rfl);have aV:=hI E;have aU:=(E.cell (b:=h) (o:=2) (yl Z.size) ya).trans ax;have bg:=(E.cell (b:=h) (o:=3) (yl Z.size) ya).trans aA;have aL:=(E.cell (b:=h) (o:=6) (yl Z.size) ya).trans ar;clear E;refine H _ _ (fun _=>⟨aU,bg,aL⟩) ?_;clear H U
 try simp only [Act.put,psA,psB,psC]
 refine uQ 12 fun U H=>?_;go_simp;refine H _ _ nD ?_;clear H U;refine uE aH ?_;clear aH aF Q'
 go_wp2_with fail
 have ba:yr (F.setCell ⟨w,0,none⟩ (.slice aa ab.2 ae)) w 0 (.slice aa ab.2 ae):=Qr _ _ _ aZ;have bj:=Z.size;have E:=aV.out;refine qw (v:=.tuple #[.agg #[.slice aa ab.2 ae],.int .i64 ab.1]) (by simp [results,results16,go_sem,ba]) rfl ⟨aa,ae,by rw [N],by rw [N];exact aT,?_,(aO.trans (Z.mono aQ)).trans (E.below ya (fun q z e=>ya))⟩;have bk:=Zb aw;rw [N];exact qZ (qU ap (E.same (fun q z=>⟨z.2,yl z.1⟩))) (fun q z=>⟨yl z.1,ym z.2 E.size⟩)
theorem ZbG {α:Type} {l:List α} {d:α} (h:n<l):l.getD n d ∈ l:=by simp [List.getD,h]
theorem ZfK {α:Type} {l:List α} {x d:α} (h:x ∈ l):∃ k,k<l.length/\l.getD k d=x:=by
 obtain⟨k,z,e⟩:=List.mem_iff_getElem.1 h;exact⟨k,z,by simp [List.getD,z,e]⟩
structure EsOk (n base:Nat) (es:List Ent):Prop where
 com:∀ k,k<es.length->(es.getD k ent0).co=(base:Int)+1+k
 asc:∀ e ∈ es,e.sd.Pairwise (·<·)
 rng:∀ e ∈ es,∀ x ∈ e.sd,0<=x/\x<(n:Int)
 own:∀ e ∈ es,0<=e.wn/\e.wn<=8/\e.wn % (n:Int) ∈ e.sd
 few:base+es.length<=1073741824
def inSh (i:Nat) (e:Ent):Bool:=decide ((i:Int) ∈ e.sd)
def ZdM (es:List Ent) (i:Nat):List Cut.Stp:=(es.filter (inSh i)).map fun e=>(e.co,e.sd)
def Zdu (n:Nat) (es:List Ent):List (List Cut.Stp):=(List.range n).map (ZdM es)
section
variable {n base:Nat} {es:List Ent}
theorem EsOk.mem (h:EsOk n base es) {e:Ent} (F:e ∈ es):∃ k,k<es.length/\es.getD k ent0=e/\e.co=(base:Int)+1+k:=by
 obtain⟨k,z,E⟩:=ZfK (d:=ent0) F;exact⟨k,z,E,by rw [<-E];exact h.com k z⟩
theorem EsOk.inj (h:EsOk n base es) {a b:Ent} (E:a ∈ es) (F:b ∈ es) (e:a.co=b.co):a=b:=by
 obtain⟨k,_,z,K⟩:=h.mem E;obtain⟨m,_,H,I⟩:=h.mem F;have:k=m:=ya;subst this;rw [<-z,<-H]
theorem EsOk.pair (h:EsOk n base es):es.Pairwise fun a b=>a.co<b.co:=by
 rw [List.pairwise_iff_getElem];intro i j E z L;have I:=h.com i E;have H:=h.com j z;have F:es.getD i ent0=es[i]:=gD E;have K:es.getD j ent0=es[j]:=gD z;rw [F] at I;rw [K] at H;omega
theorem ZbA:(Zdu n es).length=n:=by simp [Zdu]
theorem Zfj {i:Nat} (z:i<n):(Zdu n es).getD i []=ZdM es i:=by simp [Zdu,List.getD,z]
theorem stmp_mem {i:Nat} {x:Cut.Stp}:x ∈ ZdM es i↔∃ e ∈ es,(i:Int) ∈ e.sd/\x=(e.co,e.sd):=by
 unfold ZdM inSh;simp only [qO,List.mem_filter,qT];constructor
 .rintro⟨e,⟨z,E⟩,rfl⟩;exact⟨e,z,E,rfl⟩
 rintro⟨e,z,E,rfl⟩;exact⟨e,⟨z,E⟩,rfl⟩
theorem EsOk.valid (h:EsOk n base es):Cut.Valid base (Zdu n es):=by
 refine⟨fun i K=>?_,?_⟩
 .rw [ZbA] at K ⊢;rw [Zfj K];refine⟨⟨fun x z=>?_,?_⟩,fun x z=>?_⟩
  .obtain⟨e,E,_,rfl⟩:=stmp_mem.1 z;obtain⟨k,U,_,Z⟩:=h.mem E;have:=h.few;exact⟨by show (base:Int)<e.co;omega,by show e.co<=_;omega⟩
  .unfold ZdM;rw [List.pairwise_map];exact h.pair.filter _
  obtain⟨e,E,M,rfl⟩:=stmp_mem.1 z;exact⟨h.asc e E,h.rng e E,M⟩
 intro x z y F L;rw [List.mem_flatten] at z F;obtain⟨W,I,z⟩:=z;obtain⟨l2,H,F⟩:=F;unfold Zdu at I H;obtain⟨R,_,rfl⟩:=qO.1 I;obtain⟨aa,_,rfl⟩:=qO.1 H;obtain⟨a,N,_,rfl⟩:=stmp_mem.1 z;obtain⟨b,O,_,rfl⟩:=stmp_mem.1 F;rw [h.inj N O L]
theorem ZiY {i:Nat} {x:Cut.Stp} (z:i<n) (h:x ∈ ZdM es i):∃ k,k<((Zdu n es).getD i []).length/\Cut.stp (Zdu n es) i k=x:=by
 rw [Zfj z];obtain⟨k,E,e⟩:=ZfK (d:=((0,[]):Cut.Stp)) h;refine⟨k,E,?_⟩;unfold Cut.stp;rw [Zfj z];exact e
theorem stp_mem {i k:Nat} (E:i<n) (z:k<((Zdu n es).getD i []).length):Cut.stp (Zdu n es) i k ∈ ZdM es i:=by
 unfold Cut.stp;rw [Zfj E] at z ⊢;exact ZbG z
theorem EsOk.whole (h:EsOk n base es) (ao:1<=n) (am:n<=4):Cut.errOf base (Zdu n es)=0/\Cut.IsLast base (Zdu n es) ((base:Int)+es.length):=by
 have av:=h.few;refine⟨Cut.errOf_ok (fun U=>?_) h.valid,ya,fun c aq an=>?_,fun ah=>?_⟩
 .unfold Cut.BadArg at U;rw [ZbA] at U;omega
 .obtain⟨k,Z⟩:∃ k:Nat,c=(base:Int)+1+k:=⟨(c - base - 1).toNat,ya⟩;have O:k<es:=ya;have z:=ZbG (d:=ent0) O;have ak:=h.com k O;generalize es.getD k ent0=e at z ak;obtain⟨au,ar,F⟩:=h.own e z;obtain⟨i,H⟩:=qn (h.rng e z _ F).1;have ai:=(h.rng e z _ F).2;rw [H] at F ai;have ab:i<n:=ya;refine⟨?_,fun ay k' aa ac W t R=>?_⟩
  .obtain⟨k',N,L⟩:=ZiY ab (stmp_mem.2 ⟨e,z,F,rfl⟩);exact⟨i,k',by rw [ZbA];exact ab,N,by rw [L];show e.co=c;omega⟩
  rw [ZbA] at aa;obtain⟨E,I,_,M⟩:=stmp_mem.1 (stp_mem aa ac);rw [M] at W R;have:E.co=c:=W;have af:E=e:=h.inj I z ya;subst af;have K:t ∈ E.sd:=R;obtain⟨j,aj⟩:=qn (h.rng E z _ K).1;have aw:=(h.rng E z _ K).2;subst aj;rw [qu];obtain⟨ae,N,L⟩:=ZiY (n:=n) (es:=es) (i:=j) ya (stmp_mem.2 ⟨E,z,K,rfl⟩);exact⟨ae,N,by rw [L];show E.co=c;omega⟩
 obtain⟨⟨i,k,H,Z,e⟩,_⟩:=ah;rw [ZbA] at H;obtain⟨E,I,_,M⟩:=stmp_mem.1 (stp_mem H Z);rw [M] at e;obtain⟨q,ap,_,ax⟩:=h.mem I;omega
end
def prtI (s:Sch) (n:Nat) (i:Nat) (e:Ent):List Chg:=prtC s n i e.cx
def ZZ (s:Sch) (n:Nat) (es:List Ent) (i:Nat):List Ent:=(es.filter (inSh i)).map fun e=>Zcl e i n (prtI s n i e)
def posI (es:List Ent) (i k:Nat):Nat:=((es.take k).filter (inSh i)).length
section
variable {n base:Nat} {es:List Ent} {s:Sch}
theorem ZaJ {i:Nat}:(ZZ s n es i).length=posI es i es:=by simp [ZZ,posI]
theorem posI_zero {i:Nat}:posI es i 0=0:=by simp [posI]
theorem ZdR {i k:Nat} (z:k<es):posI es i (k+1)=posI es i k+(if inSh i (es.getD k ent0) then 1 else 0):=by
 unfold posI;rw [qj z,List.filter_append,qi];have e:es.getD k ent0=es[k]:=gD z;rw [e]
 by_cases h:inSh i es[k]=true
 .simp [h]
 simp [h]
theorem ZdS {i:Nat}:∀ {k m:Nat},k<=m->posI es i k<=posI es i m:=by
 intro k m h;unfold posI;have e:es.take k=(es.take m).take k:=(by rw [List.take_take];congr 1;omega);rw [e];exact((List.take_sublist _ _).filter _).length_le
theorem Ziz {i k:Nat}:posI es i k<=(ZZ s n es i).length:=by
 rw [ZaJ];rcases Nat.le_total k es.length with h | h
 .exact ZdS h
 unfold posI;rw [qs h,qM];exact qp _
theorem filter_take_at {α:Type} {p:α->Bool} {d:α} {l:List α} {k:Nat} (z:k<l) (h:p (l.getD k d)=true):(l.filter p).getD ((l.take k).filter p).length d=l.getD k d:=by
 have e:l.getD k d=l[k]:=gD z;rw [e] at h ⊢
 conv=>lhs;arg 1;rw [<-List.take_append_drop k l,List.filter_append]
 have E:(l.drop k).filter p=l[k] :: (l.drop (k+1)).filter p:=by
  rw [qq z,List.filter_cons_of_pos h]
 rw [E];simp [List.getD]
theorem ZcI {i k:Nat} (E:k<es) (h:inSh i (es.getD k ent0)=true):posI es i k<(ZZ s n es i).length/\(ZZ s n es i).getD (posI es i k) ent0=Zcl (es.getD k ent0) i n (prtI s n i (es.getD k ent0)):=by
 have z:posI es i k<(ZZ s n es i).length:=by
  have F:=ZdR (i:=i) E;rw [qr h] at F;have K:=Ziz (es:=es) (s:=s) (n:=n) (i:=i) (k:=k+1);omega
 refine⟨z,?_⟩;have H:=filter_take_at (p:=inSh i) (d:=ent0) E h;unfold ZZ at z ⊢;rw [qg] at z;have e:((es.filter (inSh i)).map fun e=>Zcl e i n (prtI s n i e)).getD (posI es i k) ent0=(fun e=>Zcl e (i:Int) n (prtI s n i e)) ((es.filter (inSh i)).getD (posI es i k) ent0):=(by simp [List.getD,z]);rw [e];have I:(es.filter (inSh i)).getD (posI es i k) ent0=es.getD k ent0:=H;rw [I]
theorem ZdU (h:EsOk n base es) {i q:Nat} (I:q<(ZZ s n es i).length):∃ k,k<es.length/\inSh i (es.getD k ent0)=true/\q=posI es i k:=by
 rw [ZaJ] at I
 have key:∀ m,m<=es.length->q<posI es i m->∃ k,k<m/\inSh i (es.getD k ent0)=true/\q=posI es i k:=by
  intro m;induction m with
  | zero=>intro _ M;rw [posI_zero] at M;omega
  | succ m L =>
   intro O F;rw [ZdR ya] at F
   by_cases H:inSh i (es.getD m ent0)=true
   .rw [qr H] at F;rcases qv q (posI es i m) with K | K
    .obtain⟨k,N,z,E⟩:=L ya K;exact⟨k,ya,z,E⟩
    exact⟨m,ya,H,ya⟩
   rw [qo H] at F;obtain⟨k,N,z,E⟩:=L ya ya;exact⟨k,ya,z,E⟩
 exact key es nR I
theorem Zeo (h:EsOk n base es) {i k q:Nat} (M:k<=es) (I:q<(ZZ s n es i).length):(q<posI es i k->((ZZ s n es i).getD q ent0).co<(base:Int)+1+k)/\(posI es i k<=q->(base:Int)+1+k<=((ZZ s n es i).getD q ent0).co):=by
 obtain⟨m,E,F,rfl⟩:=ZdU h I;rw [(ZcI E F).2];have L:(Zcl (es.getD m ent0) i n (prtI s n i (es.getD m ent0))).co=(base:Int)+1+m:=h.com m E;rw [L];constructor
 .intro H;rcases qv m k with z | z
  .omega
  have:=ZdS (es:=es) (i:=i) z;omega
 intro H;rcases qv m k with z | z
 .have K:=ZdS (es:=es) (i:=i) (show m+1<=k by omega);rw [ZdR E,qr F] at K;omega
 omega
theorem partsI_none (h:EsOk n base es) {i k:Nat} (F:k<es) (H:inSh i (es.getD k ent0)=false):posI es i k=(ZZ s n es i).length\/(posI es i k<(ZZ s n es i).length/\(base:Int)+1+k<((ZZ s n es i).getD (posI es i k) ent0).co):=by
 rcases qv (posI es i k) (ZZ s n es i).length with z | z
 .right;refine⟨z,?_⟩;have E:=ZdR (i:=i) F;rw [H] at E;have I:=(Zeo h (k:=k+1) ya z).2 (by simp at E;omega);omega
 left;have:=Ziz (es:=es) (s:=s) (n:=n) (i:=i) (k:=k);omega
end
structure Lg where
 based:Bool
 base:Int
 state:St
 notes:List Ent
 parts:List Ent
def lg0:Lg:=⟨false,0,[],[],[]⟩
def Zgq (l:Lg):Dat:=.agg [.lit (.bool l.based),.lit (.int .i64 l.base),.slice (l.state.map Zx),.slice (l.notes.map encE),.slice (l.parts.map encE)]
theorem ZgP (l:Lg):(Zgq l).size=5:=rfl
theorem encLg_plain (l:Lg):(Zgq l).Plain:=by simp [Zgq,Dat.Plain,Dat.Pa,Value.oneCell']
theorem vals_lg {l:Lg} {c1 c2:Nat} (L:l.state.length<=c1) (M:StS w S A l.state) (l2:l.notes.length<=c2) (K:EntsS w S B l.notes) (N:l.parts.length<=n) (I:EntsS w S A' l.parts) :
 Dat.Vs w S (Zgq l) [.bool l.based,.int .i64 l.base,.slice A l.state c1,.slice B l.notes c2,.slice A' l.parts n]:=by
 unfold Zgq Dat.Vs Dat.Va;refine⟨[_],_,rfl,by unfold Dat.Vs;exact⟨rfl,trivial⟩,?_⟩;unfold Dat.Va;refine⟨[_],_,rfl,by unfold Dat.Vs;exact⟨rfl,trivial⟩,?_⟩;unfold Dat.Va;refine⟨[_],_,rfl,by unfold Dat.Vs;exact⟨A,c1,yb,by simpa using L,M⟩,?_⟩;unfold Dat.Va;refine⟨[_],_,rfl,by unfold Dat.Vs;exact⟨B,c2,yb,by simpa using l2,K⟩,?_⟩;unfold Dat.Va;refine⟨[_],_,rfl,by unfold Dat.Vs;exact⟨A',n,yb,by simpa using N,I⟩,by unfold Dat.Va;rfl⟩
structure JrsM (w:World) (d n:Nat) (J:Nat->Nat) (V1 V2:Nat->Value) (SJ:Nat->Nat->Prop) (recs:Nat->List (List Int)):Prop where
 one:∀ k,k<n->JrnM w (J k) d k (V1 k) (V2 k) (SJ k) (recs k) (recs k).length
 inj:∀ k m,k<n->m<n->k≠m->∀ b,JrnX (J k) (V1 k) (V2 k) b->¬ JrnX (J m) (V1 m) (V2 m) b/\¬ SJ m b
def JrsX (n:Nat) (J:Nat->Nat) (V1 V2:Nat->Value):Nat->Prop:=fun b=>∃ k,k<n/\JrnX (J k) (V1 k) (V2 k) b
theorem JrsM.keep {w w':World} {d n:Nat} {J:Nat->Nat} {V1 V2:Nat->Value} {SJ:Nat->Nat->Prop} {E:Nat->List (List Int)} (h:JrsM w d n J V1 V2 SJ E) (I:w.heap.size<=w') (F:∀ k b,k<n->JrnX (J k) (V1 k) (V2 k) b\/SJ k b->w'.heap[b]?=w.heap[b]?):JrsM w' d n J V1 V2 SJ E :=
 ⟨fun k z=>(h.one k z).keep I (fun b H=>F k b z H),h.inj⟩
theorem infoLg:(prog.info? 197).map (fun i=>(i.zero,i.size,i.bytes))=some (some (.agg #[.bool false,.int .i64 0,.slice none 0 0,.slice none 0 0,.slice none 0 0]),5,88):=by kernel_rfl
theorem JrsM.below {w w':World} {d n:Nat} {J:Nat->Nat} {V1 V2:Nat->Value} {SJ:Nat->Nat->Prop} {F:Nat->List (List Int)} (h:JrsM w d n J V1 V2 SJ F) {B:Nat} (H:Below B w w') (I:w<=B):JrsM w' d n J V1 V2 SJ F :=
 h.keep H.size (fun k b E z=>H.block b (by
  rcases z with z | z
  .have:=(h.one k E).xlt b z;omega
  have:=((h.one k E).own1.sub b z).1;omega))
structure LgV (w:World) (S:Nat->Prop) (l:Lg) (A1:Option Addr) (c1:Nat) (A2:Option Addr) (c2:Nat) (A3:Option Addr) (c3:Nat):Prop where
 l1:l.state.length<=c1
 s1:StS w S A1 l.state
 l2:l.notes.length<=c2
 s2:EntsS w S A2 l.notes
 l3:l.parts.length<=c3
 s3:EntsS w S A3 l.parts
section
variable {w w':World} {S S':Nat->Prop} {l:Lg} {A1 A2 A3:Option Addr} {c1 c2 c3:Nat}
theorem LgV.keep (h:LgV w S l A1 c1 A2 c2 A3 c3) (z:Same S w w'):LgV w' S l A1 c1 A2 c2 A3 c3:=⟨h.l1,qU h.s1 z,h.l2,qU h.s2 z,h.l3,qU h.s3 z⟩
theorem LgV.more (h:LgV w S l A1 c1 A2 c2 A3 c3) (z:∀ b,S b->S' b):LgV w S' l A1 c1 A2 c2 A3 c3:=⟨h.l1,qZ h.s1 z,h.l2,qZ h.s2 z,h.l3,qZ h.s3 z⟩
theorem LgV.vals (h:LgV w S l A1 c1 A2 c2 A3 c3):Dat.Vs w S (Zgq l) [.bool l.based,.int .i64 l.base,.slice A1 l.state c1,.slice A2 l.notes c2,.slice A3 l.parts c3]:=vals_lg h.l1 h.s1 h.l2 h.s2 h.l3 h.s3
end
abbrev LgsS (w:World) (S:Nat->Prop) (A:Option Addr) (z:List Lg):Prop:=Sl w S A (z.map Zgq)
theorem LgsS.at_ {w:World} {S:Nat->Prop} {A:Option Addr} {E:List Lg} (h:LgsS w S A E) {k:Nat} (ah:k<E):∃ b o F c1 K c2 I H,A=some ⟨b,o,none⟩/\S b/\LgV w S (E.getD k lg0) F c1 K c2 I H/\yr w b (o+k*5) (.bool (E.getD k lg0).based)/\yr w b (o+k*5+1) (.int .i64 (E.getD k lg0).base)/\yr w b (o+k*5+2) (.slice F (E.getD k lg0).state.length c1)/\yr w b (o+k*5+3) (.slice K (E.getD k lg0).notes.length c2)/\w.cell? ⟨b,o+k*5+4,none⟩=some (.slice I (E.getD k lg0).parts.length H):=by
 obtain⟨b,o,ak,af,z⟩:=Qf (n:=5) ZgP lg0 h ah;generalize E.getD k lg0=e at z;unfold Zgq Dat.Held at z;unfold Dat.Ha at z;obtain⟨U,z⟩:=z;unfold Dat.Ha at z;obtain⟨Z,z⟩:=z;unfold Dat.Ha at z;obtain⟨W,z⟩:=z;unfold Dat.Ha at z;obtain⟨M,z⟩:=z;unfold Dat.Ha at z;obtain⟨N,_⟩:=z;unfold Dat.Held at U Z W M N;obtain⟨F,c1,aa,R,aj⟩:=W;obtain⟨K,c2,O,ac,ae⟩:=M;obtain⟨I,H,L,ab,ai⟩:=N;rw [qg] at aa R O ac L ab;exact⟨b,o,F,c1,K,c2,I,H,ak,af,⟨R,aj,ac,ae,ab,ai⟩,U.1,Z.1,aa,O,L⟩
abbrev Ql:=@LgsS.at_
structure LgN where
 gb:Nat
 AR:Option Addr
 cR:Nat
 A1:Option Addr
 c1:Nat
 A2:Option Addr
 c2:Nat
 A3:Option Addr
 c3:Nat
abbrev zLg:Obj:=.cells #[.bool false,.int .i64 0,.slice none 0 0,.slice none 0 0,.slice none 0 0] 197 (0,0)
structure LgE (wd W:World) (T:Nat->Prop) (l:Lg) (b:LgN):Prop where
 bel:Below wd wd W
 box:W.heap[b.gb]?=some zLg
 lo:wd.heap.size<=b.gb
 val:LgV W (fun z=>T z\/(wd<=z/\z<W/\z≠b.gb)) l b.A1 b.c1 b.A2 b.c2 b.A3 b.c3
def LogsP (n:Nat) (z:Nat->Lg) (w:World) (e:Ending) (w':World):Prop:=∃ A c,e=.returned (.tuple #[.slice A n c,.bool true])/\n<=c/\LgsS w' (fun b=>w<=b/\b<w') A ((List.range n).map z)/\Below w w w'
def FoldC (h:Nat) (L:List (List Int)) (st:St) (l:Lg) (q:Nat) (w:World):Prop:=∀ (x y:Nat) (N:Option Addr) (R:Nat) (O:Option Addr) (M:Nat) (T:Nat->Prop) (z:World),Below w w z->(∀ b,T b->b<z)->BysS z (fun b=>b<z) N L->StS z T O st->st.length<=M ->
 z.heap[x]?=some (.cells #[.pointer (some ⟨h,0,none⟩)] 40 (0,0))->z.heap[y]?=some (.cells #[.int .i64 (q:Int)] 3 (0,0)) ->
 Calls prog 107 #[.slice N L R,.agg #[.bool false,.int .i64 0,.slice O st M,.slice none 0 0,.slice none 0 0],.func (.func 109) #[] #[.pointer (some ⟨x,0,none⟩),.pointer (some ⟨y,0,none⟩)]] z fun f E=>∃ F c1 I c2 H K,f=.returned (.tuple #[.agg #[.bool l.based,.int .i64 l.base,.slice F l.state c1,.slice I l.notes c2,.slice H l.parts K],.bool true])/\LgV E (fun b=>T b\/(z<=b/\b<E)) l F c1 I c2 H K/\Below z z E
theorem logs_any (h:Nat) {dC:Value} (aJ:Nat) {st:St} {J:Nat->Nat} {V2:Nat->Value} {SJ:Nat->Nat->Prop} {ae:Nat->List (List Int)} (aT:Nat->Lg)  
 (bX:w.heap[h]?=some (.cells (hisL (some ⟨m,i,none⟩) n j s A b a x xA xB dC).toArray 131 (0,0))) (bT:TabS w S A s.tt) (bR:StS w S B st) (bc:∀ b7,S b7->b7<w) (cZ:1<=n) (dJ:n<=4) (bN:schF pcF s=0) (bL:StOk s 1 st) (bz:Zi st<=512)
 (bJ:∀ aL,aL<n->yr w m (i+aL) (.pointer (some ⟨J aL,0,none⟩))) (bS:JrsM w k n J F V2 SJ ae) (bY:∀ aL,aL<n->(ae aL).length<=1000/\∀ r ∈ ae aL,r.length<=1000000)
 (b5:∀ q,q<n->FoldC h (ae q) ((Zar s n st).getD q []) (aT q) q w) :
 Calls prog 50 #[.pointer (some ⟨h,0,none⟩),ZaM B st aJ] w (LogsP n aT w):=by
 obtain⟨ds,dI,dq,dD,dm⟩:=qA infoLg;have ch:=hI bX;replace bT:=hI bT;replace bR:=hI bR;replace bc:=hI bc;replace bN:=hI bN;replace bL:=hI bL;replace bz:=hI bz;have dK:=hI bJ;replace bS:=hI bS;replace bY:=hI bY;replace b5:=hI b5;have bD:=Zb bX;have de:m<w:=World.block_lt_of_cell? w _ (bJ 0 ya);clear bX bJ;go_enter func50,ntmps50;obtain⟨w0,aY⟩:=yp ((w.alloc (.cells #[.pointer (some ⟨h,0,none⟩)] 40)).alloc (.cells #[.slice B st aJ] 28));have bW:Below w w w0:=(by rw [<-aY];exact((qa _ w).alloc nR _).alloc yb _);obtain⟨d,aQ⟩:=yp w.heap.size;have bH:=hI (show w0.heap[d]?=some (.cells #[.pointer (some ⟨h,0,none⟩)] 40 (0,0)) by rw [<-aY,<-aQ];exact(qd _ _ _ yb).trans (qb w _));have cw:=hI (show w0.heap[d+1]?=some (.cells #[.slice B st aJ] 28 (0,0)) by rw [<-aY,<-aQ];exact heap_alloc_new' yb);have cJ:=hI bW;have dV:=hI aQ;have bF:yr w0 d 0 (.pointer (some ⟨h,0,none⟩)):=Za bH 0 _ rfl;have bP:yr w0 h 0 (.slice (some ⟨m,i,none⟩) n j):=c9Q bW bD (Za ch 0 _ rfl);go_upto_region 1 with fail
 try rw [aY]
 try rw [aQ]
 clear aY bW aQ;go_upto_region 2 with fail
 clear bF bP;obtain⟨N,cI,aD,-⟩:=dr w0;have aD:=aD.out;have aF:=hI (cJ.trans (aD.mono cJ.size));have aV:=hI ((aD.block _ (Zb bH)).trans bH);have SD:=hI ((aD.block _ (Zb cw)).trans cw);have bg:=hI ((aF.block _ bD).trans ch);have bI:yr N d 0 (.pointer (some ⟨h,0,none⟩)):=Za aV 0 _ rfl;have bV:yr N h 2 (.int .i64 s.vv):=Za bg 2 _ rfl;have bB:yr N h 3 (.slice A s.tt b):=Za bg 3 _ rfl;have bO:yr N (d+1) 0 (.slice B st aJ):=Za SD 0 _ rfl;have cH:=hI (parts_any A b n aJ (qU bT (qS aF bc)) (qU bR (qS aF bc)) (fun b7 a=>ym (bc b7 a) aF.size) cZ dJ bN bL bz);clear aD;refine uS (fun w'=>w'.cell? ⟨d,0,none⟩=some (.pointer (some ⟨h,0,none⟩))/\w'.cell? ⟨h,2,none⟩=some (.int .i64 s.vv)/\w'.cell? ⟨h,3,none⟩=some (.slice A s.tt b)/\w'.cell? ⟨d+1,0,none⟩=some (.slice B st aJ)) 11 12 fun Q' aM aq=>?_
 try rw [cI]
 clear cI;refine uR [0,6] aq ⟨bI,bV,bB,bO⟩ ?_;refine uQ 6 fun L R=>?_;go_simp;refine cH.mono ?_;rintro e w2 ⟨d3,d0,rfl,dj,ck,aK⟩;rw [ZaK] at dj ⊢;replace ck:=hI ck;have b3:=hI aK;have bC:=c9Q aK (Zb aV) bI;have bM:=c9Q aK (Zb bg) bV;have b2:=c9Q aK (Zb bg) bB;have cg:=c9Q aK (Zb SD) bO;clear aK;refine R _ _ (fun _=>⟨bC,bM,b2,cg⟩) ?_;clear R L
 try simp only [Act.put,psA,psB,psC]
 refine uR [7,4] aq ⟨bC,bM,b2,cg⟩ ?_;refine uQ 11 fun L R=>?_;go_simp;refine R _ _ nD ?_;clear R L;refine uE aM ?_;clear aM aq Q';clear bI bV bB bO bM b2 cg cH;have cD:=hI (aF.trans (b3.mono aF.size));have cv:=hI ((b3.block _ (Zb aV)).trans aV);have dG:yr w2 h 0 (.slice (some ⟨m,i,none⟩) n j):=c9Q cD bD (Za ch 0 _ rfl);obtain⟨z,dy⟩:=yp w2.heap.size;have ao:=hI (show z<=w2/\w2.heap.size<=z by omega);have:d<w2:=Zb cv;have b0:w<=d/\d<=w:=(yl dV.out);have:N.heap.size<=w2/\d<N:=⟨b3.size,Zb aV⟩;clear dy
 go_wp2
 go_loopw [9,38] (fun dN da cm=>∃ (q:Nat) (av:Option Addr) (aw:Nat),q<=n/\da=.int .i64 (q:Int)/\dN=.slice av q aw/\Mk cm z (fun b7=>N<=b7/\b7<z) 197 5 (.slice av q aw) (((List.range q).map aT).map Zgq)/\Below z w2 cm) (fun _ da _=>n - (intOf da).toNat)
 case atStart=>exact⟨0,none,0,qk _,rfl,rfl,Qe (fun b7 a=>a.2) (yl ao.out) _ _,qa _ _⟩
 clear bC dG;obtain⟨q,av,aw,d5,rfl,rfl,bZ,aI⟩:=hrel;have cM:=hI bZ;replace aI:=hI aI;have dE:=bZ.hi;clear bZ;have bw:=hI (show Below w w wr from cD.trans (aI.mono (yl ao.out)));rcases qv q n with aE | d4
 .have:yr wr m (i+q) (.pointer (some ⟨J q,0,none⟩)):=c9Q bw de (dK q aE);obtain⟨bl,bG,rfl,dS,aC,ba,b9,bi,bo⟩:=ZiX (qU ck (qS aI (fun b7 a=>ym a.2 ao.out))) (n:=q) (by rw [ZaK];exact aE);have aU:=hI (b5 q aE);obtain⟨ce,cx⟩:=yp ((Zar s n st).getD q []);rw [cx] at b9 bi bo aU;clear cx;obtain⟨l,b4⟩:=yp (aT q);have c8:=hI b4;rw [b4] at aU;clear b4;have br:=hI (bY q aE);replace bo:=hI bo;have dL:bl<wr:=(ym dS.2 ao.out);obtain⟨c7,y,b0,cC,aH,cz⟩:=ag wr (.cells #[.int .i64 (q:Int)] 3);have aH:=aH.out;replace aH:=hI aH;go_upto_region 9 with fail
  try rw [b0]
  try rw [cC]
  obtain⟨E,bn⟩:=yp c7.drew;have ay:=hI (show Below wr wr E by rw [<-bn];exact aH.drew);have aX:=hI (show E.heap[y]?=some (.cells #[.int .i64 (q:Int)] 3 (0,0)) by rw [<-bn];exact cz);have:wr<=y/\y<=wr:=ya;have dw:=ay.size;have ac:=Zb aX;have bt:=hI (show Below w w E from bw.trans (ay.mono bw.size));have aB:=hI (show E.heap[d]?=some (.cells #[.pointer (some ⟨h,0,none⟩)] 40 (0,0)) from (ay.block _ (yl ao.out)).trans ((aI.block _ (yl ao.out)).trans cv));have aj:yr E y 0 (.int .i64 (q:Int)):=Za aX 0 _ rfl;have am:yr E bl (bG+q) (.slice aC ce ba):=c9Q ay dL b9;have b6:=hI (show StS E (fun b7=>N<=b7/\b7<z) aC ce from qZ (qU bo (qS ay (fun b7 a=>ym a.2 ao.out))) (fun b7 a=>⟨a.1,ym a.2 ao.out⟩));have cV:=hI (cM.below ay);have cE:=hI (bS.below bt nR);clear b0 cC aH cz b9;refine uS (fun w'=>w'.cell? ⟨y,0,none⟩=some (.int .i64 (q:Int))/\w'.cell? ⟨bl,bG+q,none⟩=some (.slice aC ce ba)) 14 15 fun Q' aM aq=>?_
  try rw [bn]
  clear bn;refine uR [0,1,2,6] aq ⟨aj,am⟩ ?_;refine Zeh (β:=LgN) 2 (bA 15 8191) (fun b7 dv=>((((((dv.put (some 45) (.slice b7.AR (ae q).length b7.cR)).put (some 52) (.tuple #[(.agg #[.bool l.based,.int .i64 l.base,.slice b7.A1 l.state b7.c1,.slice b7.A2 l.notes b7.c2,.slice b7.A3 l.parts b7.c3]),.bool true])).put (some 43) (.tuple #[(.agg #[.bool l.based,.int .i64 l.base,.slice b7.A1 l.state b7.c1,.slice b7.A2 l.notes b7.c2,.slice b7.A3 l.parts b7.c3]),.bool true])).put (some 53) (.agg #[.bool l.based,.int .i64 l.base,.slice b7.A1 l.state b7.c1,.slice b7.A2 l.notes b7.c2,.slice b7.A3 l.parts b7.c3])).put (some 54) (.bool true)).put (some 12) (.pointer (some ⟨b7.gb,0,none⟩)))) (fun b7 M=>LgE E M (fun K=>N<=K/\K<z) l b7) (fun b7 M bm=>?_) (fun bp=>?_)
  .simp only [Act.put,psA,psB,psC];obtain⟨I,af,au,W,c1,ab,c2,aa,Z⟩:=b7;simp only at bm ⊢;have aG:=hI bm;have O:=bm.box;simp only at O;replace O:=hI O;clear bm;have dd:=aG.lo;simp only at dd;have dZ:=aG.bel.size;have d1:=Zb O;have cQ:=c9Q aG.bel ac aj;have cS:=c9J aG.bel am;have bF:yr M I 0 (.bool false):=Za O 0 _ rfl;have dc:M.frozen? ⟨I,0,none⟩=false:=Zd O;have bP:yr M I 1 (.int .i64 0):=Za O 1 _ rfl;have dA:M.frozen? ⟨I,1,none⟩=false:=Zd O;have dQ:yr M I 2 (.slice none 0 0):=Za O 2 _ rfl;have dM:M.frozen? ⟨I,2,none⟩=false:=Zd O;have c3:yr M I 3 (.slice none 0 0):=Za O 3 _ rfl;have du:M.frozen? ⟨I,3,none⟩=false:=Zd O;have dR:yr M I 4 (.slice none 0 0):=Za O 4 _ rfl;have c5:M.frozen? ⟨I,4,none⟩=false:=Zd O;refine uQ 13 fun L R=>?_;go_simp;have aP:Fr (fun K=>K=I) M (((((M.setCell ⟨I,0,none⟩ (.bool l.based)).setCell ⟨I,1,none⟩ (.int .i64 l.base)).setCell ⟨I,2,none⟩ (.slice W l.state c1)).setCell ⟨I,3,none⟩ (.slice ab l.notes c2)).setCell ⟨I,4,none⟩ (.slice aa l.parts Z)):=(((((Qa (fun K=>K=I) M).setCell _ (fun _=>rfl)).setCell _ (fun _=>rfl)).setCell _ (fun _=>rfl)).setCell _ (fun _=>rfl)).setCell _ (fun _=>rfl);have ar:=Zc (k:=4) (v:=.slice aa l.parts Z) (Zc (k:=3) (v:=.slice ab l.notes c2) (Zc (k:=2) (v:=.slice W l.state c1) (Zc (k:=1) (v:=.int .i64 l.base) (Zc (k:=0) (v:=.bool l.based) (vs:=[.bool false,.int .i64 0,.slice none 0 0,.slice none 0 0,.slice none 0 0]) (O)))));obtain⟨ak,cO⟩:=yp (((((M.setCell ⟨I,0,none⟩ (.bool l.based)).setCell ⟨I,1,none⟩ (.int .i64 l.base)).setCell ⟨I,2,none⟩ (.slice W l.state c1)).setCell ⟨I,3,none⟩ (.slice ab l.notes c2)).setCell ⟨I,4,none⟩ (.slice aa l.parts Z));rw [cO] at aP ar ⊢;have bE:=hI aP;replace ar:=hI ar;have dU:=(aP.cell (b:=y) (o:=0) ya ya).trans cQ;have cX:=(aP.cell (b:=bl) (o:=bG+q) ya ya).trans cS;clear aP cO bF bP dQ c3 dR dc dA dM du c5 cQ cS;refine R _ _ (fun _=>⟨dU,cX⟩) ?_;clear R L
   try simp only [Act.put,psA,psB,psC]
   refine uQ 14 fun L R=>?_;go_simp;refine R _ _ nD ?_;clear R L;refine uE aM ?_;clear aM aq Q';have:yr ak I 0 (.bool l.based):=Za ar 0 _ rfl;have:yr ak I 1 (.int .i64 l.base):=Za ar 1 _ rfl;have:yr ak I 2 (.slice W l.state c1):=Za ar 2 _ rfl;have:yr ak I 3 (.slice ab l.notes c2):=Za ar 3 _ rfl;have:yr ak I 4 (.slice aa l.parts Z):=Za ar 4 _ rfl;have bU:Below E E ak:=aG.bel.trans (bE.below ya (fun K dB e=>ya));have cc:=cV.below bU;have cT:LgV ak (fun K=>(N<=K/\K<z)\/(E<=K/\K<M/\K≠I)) l W c1 ab c2 aa Z:=aG.val.keep (fun K dB=>bE.block K (by rcases dB with dB | dB;have:=dB.2;omega;exact dB.2.1) (fun e=>by rcases dB with dB | dB;have:=dB.2;omega;exact dB.2.2 e));have ci:LgV ak (fun K=>(N<=K/\K<z)\/Beh z ak (.slice av q aw) K) l W c1 ab c2 aa Z:=cT.more (fun K dB=>dB.imp id (fun dB=>⟨ya,yl bE.size,fun e=>yl ((cV.base_le e.symm).2)⟩));replace ci:=hI ci;replace cc:=hI cc;have dp:=hI (show Below z w2 ak from aI.trans ((ay.trans (bU.mono dw)).mono dE));clear cT bU
   go_wp2_with (at_builtin;refine Zl rfl (.tmp 57) (.tmp 59) 135 rfl 88 underlying135 dI dq dD dm rfl yf cc rfl #[.bool l.based,.int .i64 l.base,.slice W l.state c1,.slice ab l.notes c2,.slice aa l.parts Z] ci.vals (encLg_plain _) (ZgP _) 1 rfl ya ya ?_;intro dh cY dY cK cN d2;have dT:=hI cK;have di:=hI cN;clear cK cN)
   go_roundw
   case rel=>exact⟨q+1,some ⟨dh,0,none⟩,cY,ya,by go_num,rfl,by rw [List.range_succ,qm,qm,List.map_singleton,List.map_singleton,c8];exact dT,dp.trans di⟩
   simp [intOf];omega
  try simp only [Act.put,psA,psB,psC] at bp
  have be:=hI (qa E E);refine anyL_two (k:=1) (m:=12) (oi:=⟨some 45,_,_,_,_,_⟩) (oj:=⟨some 12,_,_,_,_,_⟩) (Li:=(bA 15 255)) (Lj:=(bA 15 4349)) rfl rfl ye ye ye (fun L H=>?_) (fun L H=>?_)
  .have R:=hI H;clear H;go_simp;refine(ZeW ((cE.below be nR).one q aE) (yl br.1) br.2).mono ?_;rintro e ai ⟨af,au,rfl,dg,cd,cq⟩;have cP:=hI (show BysS ai (fun b7=>b7<ai) af (ae q) from qZ cd (fun b7 a=>a.2));have ah:=hI (show Below E E ai from be.trans (cq.mono be.size));have c6:=c9Q ah ac aj;have dF:=c9J ah am;have dW:=cq.size;refine R _ _ (fun _=>⟨c6,dF⟩) ?_;clear R L
   try simp only [Act.put,psA,psB,psC]
   refine anyL_two (k:=8) (m:=12) (oi:=⟨some 52,_,_,_,_,_⟩) (oj:=⟨some 12,_,_,_,_,_⟩) (Li:=(bA 15 511)) (Lj:=(bA 15 4351)) rfl rfl ye ye ye (fun L H=>?_) (fun L H=>?_)
   .replace H:=hI H;go_simp;refine(aU d y af au aC ba (fun b7=>N<=b7/\b7<z) ai (bt.trans (ah.mono ya)) (fun b7 a=>ym a.2 ah.size) cP (qU b6 (qS ah (fun b7 a=>yl a.2))) bi ((ah.block _ (Zb aB)).trans aB) ((ah.block _ ac).trans aX)).mono ?_;rintro e az ⟨W,c1,ab,c2,aa,Z,rfl,aW,cU⟩;replace aW:=hI aW;have aZ:=hI (show Below E E az from ah.trans (cU.mono ah.size));have cy:=c9Q aZ ac aj;have cR:=c9J aZ am;have d6:=cU.size;refine H _ _ (fun _=>⟨cy,cR⟩) ?_;clear H L
    try simp only [Act.put,psA,psB,psC]
    refine uR [9,3] aq ⟨cy,cR⟩ ?_;refine uQ 12 fun L H=>?_;go_simp;obtain⟨aR,bq,bu,-⟩:=al az (.cells #[.bool false,.int .i64 0,.slice none 0 0,.slice none 0 0,.slice none 0 0] 197);have bu:=bu.out;have U:=hI (show aR.heap[az.heap.size]?=some zLg by rw [<-bq];exact qb az _);have cG:aR.heap.size<=az+1/\az.heap.size+1<=aR:=(by rw [<-bq];simp);rw [bq];clear bq;have cf:=hI (show Below E E aR from aZ.trans (bu.mono aZ.size));have dx:=c9Q cf ac aj;have dz:=c9J cf am;have aW:=hI (aW.keep (qS bu (fun b7 a=>by rcases a with a | a;have:=a.2;have:=aZ.size;omega;exact a.2)));refine H _ _ (fun _=>⟨dx,dz⟩) ?_;clear H L
    try simp only [Act.put,psA,psB,psC]
    exact bp ⟨az.heap.size,af,au,W,c1,ab,c2,aa,Z⟩ aR ⟨cf,U,by simp only;omega,aW.more (fun K dB=>dB.imp id (fun dB=>⟨ya,ya,by have:=dB.1;have:=dB.2;simp only;omega⟩))⟩
   replace H:=hI H;go_simp;obtain⟨ax,bk,aN,-⟩:=al ai (.cells #[.bool false,.int .i64 0,.slice none 0 0,.slice none 0 0,.slice none 0 0] 197);have aN:=aN.out;have U:=hI (show ax.heap[ai.heap.size]?=some zLg by rw [<-bk];exact qb ai _);have cG:ax.heap.size<=ai+1/\ai.heap.size+1<=ax:=(by rw [<-bk];simp);rw [bk];clear bk;have an:=hI (show Below E E ax from ah.trans (aN.mono ah.size));have db:=c9Q an ac aj;have df:=c9J an am;have dO:=hI (show BysS ax (fun b7=>b7<ax) af (ae q) from qZ (qU cP (qS aN (fun b7 a=>a))) (fun b7 a=>yl aN.size));refine H _ _ (fun _=>⟨db,df⟩) ?_;clear H L
   try simp only [Act.put,psA,psB,psC]
   refine uQ 8 fun L H=>?_;go_simp;refine(aU d y af au aC ba (fun b7=>N<=b7/\b7<z) ax (bt.trans (an.mono ya)) (fun b7 a=>ym a.2 an.size) dO (qU b6 (qS an (fun b7 a=>yl a.2))) bi ((an.block _ (Zb aB)).trans aB) ((an.block _ ac).trans aX)).mono ?_;rintro e cW ⟨W,c1,ab,c2,aa,Z,rfl,bK,cp⟩;replace bK:=hI bK;have bQ:=hI (show Below E E cW from an.trans (cp.mono an.size));have cF:=c9Q bQ ac aj;have co:=c9J bQ am;have U:=hI ((cp.block _ (Zb U)).trans U);refine H _ _ (fun _=>⟨cF,co⟩) ?_;clear H L
   try simp only [Act.put,psA,psB,psC]
   refine uR [9,3] aq ⟨cF,co⟩ ?_;exact bp ⟨ai.heap.size,af,au,W,c1,ab,c2,aa,Z⟩ cW ⟨bQ,U,by simp only;omega,bK.more (fun K dB=>dB.imp id (fun dB=>⟨ya,ya,by have:=dB.1;have:=dB.2;simp only;omega⟩))⟩
  replace H:=hI H;go_simp;obtain⟨aS,bj,b8,-⟩:=al E (.cells #[.bool false,.int .i64 0,.slice none 0 0,.slice none 0 0,.slice none 0 0] 197);have b8:=b8.out;have U:=hI (show aS.heap[E.heap.size]?=some zLg by rw [<-bj];exact qb E _);have cG:aS.heap.size<=E+1/\E.heap.size+1<=aS:=(by rw [<-bj];simp);rw [bj];clear bj;have bf:=hI (show Below E E aS from be.trans (b8.mono be.size));have dH:=c9Q bf ac aj;have dk:=c9J bf am;refine H _ _ (fun _=>⟨dH,dk⟩) ?_;clear H L
  try simp only [Act.put,psA,psB,psC]
  refine uQ 1 fun L H=>?_;go_simp;refine(ZeW ((cE.below bf nR).one q aE) (yl br.1) br.2).mono ?_;rintro e bh ⟨af,au,rfl,dg,cd,b1⟩;have c9:=hI (show BysS bh (fun b7=>b7<bh) af (ae q) from qZ cd (fun b7 a=>a.2));have ap:=hI (show Below E E bh from bf.trans (b1.mono bf.size));have dt:=c9Q ap ac aj;have c4:=c9J ap am;have U:=hI ((b1.block _ (Zb U)).trans U);have dX:=b1.size;refine H _ _ (fun _=>⟨dt,c4⟩) ?_;clear H L
  try simp only [Act.put,psA,psB,psC]
  refine uQ 8 fun L H=>?_;go_simp;refine(aU d y af au aC ba (fun b7=>N<=b7/\b7<z) bh (bt.trans (ap.mono ya)) (fun b7 a=>ym a.2 ap.size) c9 (qU b6 (qS ap (fun b7 a=>yl a.2))) bi ((ap.block _ (Zb aB)).trans aB) ((ap.block _ ac).trans aX)).mono ?_;rintro e cu ⟨W,c1,ab,c2,aa,Z,rfl,cj,cn⟩;replace cj:=hI cj;have ca:=hI (show Below E E cu from ap.trans (cn.mono ap.size));have cA:=c9Q ca ac aj;have cr:=c9J ca am;have U:=hI ((cn.block _ (Zb U)).trans U);refine H _ _ (fun _=>⟨cA,cr⟩) ?_;clear H L
  try simp only [Act.put,psA,psB,psC]
  refine uR [9,3] aq ⟨cA,cr⟩ ?_;exact bp ⟨E.heap.size,af,au,W,c1,ab,c2,aa,Z⟩ cu ⟨ca,U,by simp only;omega,cj.more (fun K dB=>dB.imp id (fun dB=>⟨ya,ya,by have:=dB.1;have:=dB.2;simp only;omega⟩))⟩
 obtain rfl:q=n:=ya;obtain⟨-,cL,ct⟩:=cM.slice (by rw [List.map_map,Ze (n:=88) (fun _=>rfl)];simp;omega);have dP:=hI (show LogsP q aT w (.returned (.tuple #[.slice av q aw,.bool true])) wr from ⟨av,aw,rfl,cL,qZ ct (fun b7 a=>by have:=ao.out;rcases a with a | a;exact⟨yl a.1,yl a.2⟩;exact⟨yl a.1,a.2⟩),bw⟩);clear cL ct
 go_wp2
 exact qw (v:=.tuple #[.slice av q aw,.bool true]) (by simp [results,results50,go_sem]) rfl dP
structure StN where
 gb:Nat
 A:Option Addr
 c:Nat
abbrev zSt:Obj:=.cells #[.slice none 0 0] 28 (0,0)
structure StE (wd W:World) (st:St) (b:StN):Prop where
 bel:Below wd wd W
 box:W.heap[b.gb]?=some zSt
 lo:wd.heap.size<=b.gb
 cap:st.length<=b.c
 val:StS W (fun z=>wd<=z/\z<W/\z≠b.gb) b.A st
theorem Zjh (h:schF pcF s=0):netF (schF pcF s) s 1 []=(0,[]):=by rw [h];rfl
theorem ZjF {st:St} (h:schF pcF s=0) (z:StOk s 1 st) (E:Zi st<=512):Zak (schF pcF s) s 1 st (advL [])=(0,st):=by
 rw [h];unfold Zak;rw [z.check rfl E,qo yf];exact Zid (l:=[]) z trivial (by simpa using E)
theorem ZcF (h:schF pcF s=0):s.tt.length<=1000000:=by have:=ZcG h;omega
end Go.Proofs.YtjadnfodboepeaaGreat
