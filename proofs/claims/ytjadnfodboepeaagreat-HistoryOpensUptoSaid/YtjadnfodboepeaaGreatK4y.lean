import Derived.Test.YtjadnfodboepeaaGreatKbe
import Derived.Maps.OwnSet
set_option linter.all false
set_option maxRecDepth 100000
set_option maxHeartbeats 8000000
namespace Go.Proofs.YtjadnfodboepeaaGreat.Cut
open Tryz
open Go.RowKit Go.Maps
variable {w w' v u:World} {n k m:Nat} {A:Option Addr} {S:Nat->Prop} {a:Int} {l:List Int} {x:Value} {Q:Act}
theorem ZkY:Keyed prog 3:=int_keyed underlying3
def ZaS (v:Value):Option (DataW Value × List MemPlace):=match v with
 | .slice A n c=>some (.held (.slice A n c),[])
 | _=>none
theorem heldElem_inv {z:DataW Value × List MemPlace} (h:ZaS x=some z):∃ A n c,x=.slice A n c/\z=(.held (.slice A n c),[]):=by
 unfold ZaS at h;split at h
 .rename_i A n c
  exact⟨A,n,c,rfl,by injection h with h;exact h.symm⟩
 cases h
theorem zero34:(zeroValue 65).run prog w=.ok (.slice none 0 0) w:=by kernel_rfl
theorem ZbN (w:World) {z:Array Oper} {rest:List Oper} {o:Oper} {b:Exit->Act->World->Prop} (M:o.guard=none) {m x:Operand} (N:o.op=Op.lookup 221 m x true) {D:DataW Value}
 (F:Q.eval m=.map (some n)) (H:w.ownsMap prog 3 ZaS n k D)  (E:Q.eval x=.int .i64 a) (I:(Lit.int .i64 a).wf=true)
 (L:∀ A c cap,D.atKey (.int .i64 a) (.held (.slice none 0 0))=.held (.slice A c cap)->wpList prog z b rest (Q.put o.dst (.tuple #[.slice A c cap,.bool (Maps.has D (.int .i64 a))])) w) :
 wpList prog z b (o :: rest) Q w :=
 wpList_lookup_own_ok w M m x 221 N 3 65 ZkY underlying221 ZaS (zero34) (.held (.slice none 0 0)) [] rfl n k D F H (.int .i64 a) (.int .i64 a) E (keyOf_int_mk underlying3 I) (fun v R K=>by
  obtain⟨A,c,cap,rfl,O⟩:=heldElem_inv K;exact L A c cap (congrArg Prod.fst O))
theorem wpList_lookup_found {z:Array Oper} {rest:List Oper} {o:Oper} {b:Exit->Act->World->Prop} (R:o.guard=none) {c x:Operand} (W:o.op=Op.lookup 221 c x true) {D:DataW Value}
 (E:Q.eval c=.map (some n)) (F:w.ownsMap prog 3 ZaS n k D)  (Z:Q.eval x=.int .i64 a) (H:(Lit.int .i64 a).wf=true) (L:Maps.has D (.int .i64 a)=true)  {cap:Nat}
 (U:∀ I,D.atKey (.int .i64 a) I=.held (.slice A m cap)) (M:wpList prog z b rest (Q.put o.dst (.tuple #[.slice A m cap,.bool true])) w) :
 wpList prog z b (o :: rest) Q w :=
 ZbN w R W E F Z H (fun A' k' aa h=>by
  rw [U] at h;injection h with h;injection h with N K O;subst N K O;rw [L];exact M)
theorem wpList_lookup_absent {z:Array Oper} {rest:List Oper} {o:Oper} {b:Exit->Act->World->Prop} (M:o.guard=none) {m x:Operand} (N:o.op=Op.lookup 221 m x true) {D:DataW Value}
 (E:Q.eval m=.map (some n)) (F:w.ownsMap prog 3 ZaS n k D)  (O:Q.eval x=.int .i64 a) (H:(Lit.int .i64 a).wf=true) (I:Maps.has D (.int .i64 a)=false)
 (K:∀ A c cap,wpList prog z b rest (Q.put o.dst (.tuple #[.slice A c cap,.bool false])) w) :
 wpList prog z b (o :: rest) Q w :=
 ZbN w M N E F O H (fun A' k' L h=>by
  rw [I];exact K A' k' L)
theorem ZbM {z:Array Oper} {rest:List Oper} {o:Oper} {b:Exit->Act->World->Prop} (L:o.guard=none) {m x v:Operand} (M:o.op=Op.mapUpdate 221 m x v) {D:DataW Value}
 (E:Q.eval m=.map (some n)) (F:w.ownsMap prog 3 ZaS n k D) (N:k<maxLen)  (O:Q.eval x=.int .i64 a) (H:(Lit.int .i64 a).wf=true) (A:Option Addr) (c cap:Nat) (I:Q.eval v=.slice A c cap)
 (K:∀ w',w'.ownsMap prog 3 ZaS n (k+1) (D.put (.int .i64 a) (.held (.slice A c cap)))->w.grownBy w' (some n)->wpList prog z b rest (Q.put o.dst undef) w') :
 wpList prog z b (o :: rest) Q w :=
 wpList_mapUpdate_own w L m x v 221 M 3 65 ZkY underlying221 ZaS n k D E F N (.int .i64 a) (.slice A c cap) (.int .i64 a) O I (keyOf_int_mk underlying3 H) _ [] rfl K
def Seen (w:World) (S:Nat->Prop) (D:DataW Value) (done:List Stp):Prop :=
 (∀ c:Int,Maps.has D (.int .i64 c)=true↔∃ s ∈ done,s.1=c) /\
 ∀ s ∈ done,∃ A cap,(∀ z,D.atKey (.int .i64 s.1) z=.held (.slice A s.2 cap))/\Ints w S A s.2/\s.2.length<=17592186044416
theorem seen_nil:Seen w S (.map []) []:=⟨fun c=>by simp [Maps.has],fun s z=>by simp at z⟩
theorem Seen.keep {D:DataW Value} {done:List Stp} (h:Seen w S D done) (z:Same S w w'):Seen w' S D done :=
 ⟨h.1,fun s I=>by
  obtain⟨A,cap,F,E,H⟩:=h.2 s I;exact⟨A,cap,F,E.keep z,H⟩⟩
theorem Seen.put {w:World} {S:Nat->Prop} {D:DataW Value} {done:List Stp} {c:Int} {H:List Int} {A:Option Addr} {cap:Nat} (h:Seen w S D done) (M:IsMap D) (Z:Ints w S A H) (N:H.length<=17592186044416) (R:∀ t ∈ done,t.1=c->t.2=H) :
 Seen w S (D.put (.int .i64 c) (.held (.slice A H cap))) (done++[(c,H)]):=by
 have L:WideAt.IsKeyLit (.int .i64 c):=(by simp [WideAt.IsKeyLit]);refine⟨fun x=>?_,fun s F=>?_⟩
 .by_cases E:x=c
  .subst E;rw [has_put_same M L];simp
  rw [has_put_other (by simp [E])];rw [h.1 x];constructor
  .rintro⟨s,F,e⟩;exact⟨s,qH.2 (.inl F),e⟩
  rintro⟨s,F,e⟩;rcases qH.1 F with z | z
  .exact⟨s,z,e⟩
  rw [qy.1 z] at e;exact absurd e.symm E
 by_cases E:s.1=c
 .have I:s.2=H:=by
   rcases qH.1 F with z | z
   .exact R s z E
   rw [qy.1 z]
  refine⟨A,cap,fun K=>?_,by rw [I];exact Z,by rw [I];exact N⟩;rw [E,atKey_put_same M L,I]
 rcases qH.1 F with z | z
 .obtain⟨A',W,U,O,aa⟩:=h.2 s z;exact⟨A',W,fun K=>by rw [atKey_put_other (by simp [E])];exact U K,O,aa⟩
 rw [qy.1 z] at E;exact absurd rfl E
def ZiN (z:Int) (w:World) (e:Ending) (w':World):Prop:=e=.returned (.int .i64 z)/\Below w w w'
theorem check_arg {z:List (List Stp)} (H:Logs w S A z) (h:BadArg a z) :
 Calls prog 89 #[.int .i64 a,.slice A z n] w (ZiN 1 w):=by
 have M:=H.1;clear H
 by_cases L:a<0
 .go_enter func89,ntmps89
  go_wp2
  go_ret;exact⟨rfl,qa _ _⟩
 by_cases K:1073741824<a
 .go_enter func89,ntmps89
  go_wp2
  go_ret;exact⟨rfl,qa _ _⟩
 by_cases E:z.length=0
 .have I:((z:Int) == 0)=true:=(by simp [E]);replace E:=hI E;generalize z.length=F at *;go_enter func89,ntmps89
  go_wp2
  go_ret;exact⟨rfl,qa _ _⟩
 have I:((z:Int) == 0)=false:=qf.2 ya
 have:4<z.length:=by
  rcases h with h | h | h | h
  .omega
  .omega
  .exact absurd h E
  exact h
 have:decide (4<(z:Int))=true:=yd;clear h;generalize z.length=F at *;go_enter func89,ntmps89
 go_wp2
 go_ret;exact⟨rfl,qa _ _⟩
theorem ZcD (K:Below n w w') (M:n<=w') (H:Below n w' v) (L:v.grownBy u (some n)):Below n w u :=
 (K.trans H).grown L (qD M H.size) (fun k e=>by injection e with e;omega)
theorem Zgv {D:DataW Value} {I K:List Stp} (N:k<K) (R:K.getD k nilS=(a,l)) (W:n<=w) (M:Below n w w') (U:w'.grownBy v (some n)) (O:∀ b,S b->b<n)
 (h:Seen w S D ((I++K.take k)++[(a,l)])):Seen v S D (I++K.take (k+1)):=by
 rw [Zdm nilS N,R,<-qB];exact h.keep (qS (ZcD (qa n w) W M U) O)
theorem check_go {z:List (List Stp)} (aH:Logs w S A z) (aw:∀ b,S b->b<w.heap.size) (h:¬ BadArg a z) :
 Calls prog 89 #[.int .i64 a,.slice A z.length n] w (ZiN (errOf a z) w):=by
 have bm:=aH.1;have:0<=a:=(by unfold BadArg at h;omega);have:a<=1073741824:=(by unfold BadArg at h;omega);have:0<z.length:=(by unfold BadArg at h;omega);have:z.length<=4:=(by unfold BadArg at h;omega);replace h:=hI h;have:((z.length:Int) == 0)=false:=qf.2 ya;have bb:=@run_makeMap prog;go_enter func89,ntmps89
 go_wp2
 clear bb
 go_loopw [32] (fun i wr=>∃ (k aR:Nat) (D:DataW Value),k<=z.length/\i=.int .i64 k/\ZjQ a z k/\Seen wr S D (z.take k).flatten/\wr.ownsMap prog 3 ZaS w.heap.size aR D/\aR<=k*17592186044416/\Below w.heap.size w wr) (fun i _=>z.length - (intOf i).toNat)
 case atStart=>exact⟨0,0,.map [],qk _,rfl,chk_zero,seen_nil,World.ownsMap_made _ _ _ _,ya,(qa _ _).alloc nR _⟩
 obtain⟨k,aR,D,bo,rfl,av,K,I,aN,F⟩:=hrel;obtain⟨aM,rfl⟩:∃ aM:World,aM=wr:=⟨_,rfl⟩;have aU:=hI F;have bf:=hI av
 by_cases W:k<z.length
 .obtain⟨bh,bk,A',bq,rfl,bp,aX,am⟩:=(aH.keep (qS F aw)).at_ W;have U:=hI (chk_in av);have aC:=hI K;have aT:=hI I;have bg:=am.1;replace am:=hI am;clear F av K I aH;generalize L:z.getD k []=l at aX bg am;replace L:=hI L
  go_wp2
  go_loopw [8,40] (fun t i wr=>∃ (j aR:Nat) (ao:Int) (D:DataW Value),j<=l.length/\i=.int .i64 j/\t=.int .i64 ao/\ZiO a z k j ao/\Seen wr S D ((z.take k).flatten++l.take j)/\wr.ownsMap prog 3 ZaS w.heap.size aR D/\aR<=k*17592186044416+j/\Below w.heap.size w wr/\Below w.heap.size aM wr) (fun _ i _=>l.length - (intOf i).toNat)
  case atStart=>exact⟨0,aR,a,D,qk _,rfl,rfl,U.out,(by rw [List.take_zero,Qq];exact aC.out),aT.out,qD aN (Nat.le_add_right _ _),aU.out,qa _ _⟩
  clear U aC aT aN aR D;obtain⟨j,aR,ao,D,bl,rfl,rfl,au,K,I,aN,F,ac⟩:=hrel;obtain⟨M,rfl⟩:∃ M:World,M=wr:=⟨_,rfl⟩;have U:=hI au;have:a<=ao:=au.2.1.2.1;have E:=F.size
  by_cases ax:j<l.length
  .obtain⟨br,bt,rfl,bu,aQ⟩:=(am.out.keep (qS ac aw)).at_ ax;generalize an:l.getD j nilS=s at aQ;replace an:=hI an;obtain⟨H,R⟩:=s;obtain⟨be,aB,ae,bc,Z,aJ⟩:=aQ;simp only at be bc Z aJ;have ah:=hI (show j<(z.getD k []).length by rw [L];exact ax);have ai:=hI (show (z.getD k []).getD j (0,[])=(H,R) by rw [L];exact an.out);replace Z:=hI Z;replace K:=hI K;replace I:=hI I;replace F:=hI F;replace ac:=hI ac;clear au;have aK:=hI (fun X:Obj=>(qS ((qa w.heap.size M).alloc E X) aw))
   by_cases f1:H<=ao
   .have O:=hI (ZcS h.out (Zim W ah.out ai.out U.out (.inl f1)))
    go_wp2
    go_ret;exact⟨by rw [O];rfl,F.out.alloc E _⟩
   by_cases aW:1073741824<H
   .have O:=hI (ZcS h.out (Zim W ah.out ai.out U.out (.inr aW)))
    go_wp2
    go_ret;exact⟨by rw [O];rfl,F.out.alloc E _⟩
   have af:(Lit.int .i64 H).wf=true:=WalkArith.wf_i64 ya;replace af:=hI af
   go_wp2_with fail
   refine(shardsFit_any (Z.out.keep (aK.out _)) ya).mono ?_;rintro e w' ⟨rfl,rfl⟩
   by_cases f3:Zhj z.length k R=true
   .have aV:=hI f3;rw [f3];clear f3
    by_cases ab:Maps.has D (.int .i64 H)=true
    .obtain⟨t,aj,ar⟩:=(K.out.1 H).1 ab;obtain⟨aE,aP,az,aD,aZ⟩:=K.out.2 t aj;rw [ar] at az;replace aj:=hI aj;replace ar:=hI ar;replace az:=hI az;replace aD:=hI aD;replace ab:=hI ab;obtain⟨bi,aq⟩:=t;simp only at aZ
     go_wp2_with (at_lookup;refine wpList_lookup_found rfl rfl rfl (I.out.alloc _) rfl af.out ab.out az.out ?_)
     refine(equal_any aE aB aP ae aq R S _ (aD.out.keep (aK.out _)) (Z.out.keep (aK.out _)) ya ya).mono ?_;rintro e w' ⟨rfl,nq,rfl⟩
     by_cases aI:aq=R
     .subst aI
      have ap:=hI (show ∀ N ∈ (z.take k).flatten++(z.getD k []).take j,N.1=H->N.2=aq by
       intro N ak aA;rw [<-ar] at aA;rw [L] at ak;have aS:=U.out.2.2;rw [L] at aS;exact aS N ak _ aj.out aA)
      have aL:=hI (Zjx ah.out ai.out U.out ya ya aV.out ap.out);have aG:=hI (K.out.put (cap:=ae) I.out.isMap Z.out aJ (by have:=ap.out;rwa [L.out] at this));rw [qt rfl]
      go_wp2_with (at_mapUpdate;refine ZbM rfl rfl rfl (I.out.alloc _) yh rfl af.out aB aq.length ae rfl ?_;intro ba aF aa)
      go_roundw
      case rel=>exact⟨j+1,aR+1,H,_,ya,by go_num,rfl,aL.out,Zgv ax an.out E (below_drewN ((qa _ M).alloc E _) _) aa aw aG.out,aF,ya,ZcD F.out E (below_drewN ((qa _ M).alloc E _) _) aa,ZcD ac.out E (below_drewN ((qa _ M).alloc E _) _) aa⟩
      simp [intOf];omega
     have O:=hI (ZcS h.out (chk_fail3 (a:=a) W ah.out ai.out (by rw [L];exact aj.out) ar.out aI));rw [qe aI]
     go_wp2
     go_ret;exact⟨by rw [O];rfl,below_drewN (F.out.alloc E _) _⟩
    have ay:Maps.has D (.int .i64 H)=false:=(by simpa using ab);replace ay:=hI ay;clear ab
    have ap:=hI (show ∀ N ∈ (z.take k).flatten++(z.getD k []).take j,N.1=H->N.2=R by
     intro N ak aA;rw [L] at ak;have:=(K.out.1 H).2 ⟨N,ak,aA⟩;rw [ay] at this;cases this)
    have aL:=hI (Zjx ah.out ai.out U.out ya ya aV.out ap.out);have aG:=hI (K.out.put (cap:=ae) I.out.isMap Z.out aJ (by have:=ap.out;rwa [L.out] at this))
    go_wp2_with (first | (at_lookup;refine wpList_lookup_absent rfl rfl rfl (I.out.alloc _) rfl af.out ay.out ?_;intro aE bn bj) | (at_mapUpdate;refine ZbM rfl rfl rfl (I.out.alloc _) yh rfl af.out aB R.length ae rfl ?_;intro ba aF aa))
    go_roundw
    case rel=>exact⟨j+1,aR+1,H,_,ya,by go_num,rfl,aL.out,Zgv ax an.out E ((qa _ M).alloc E _) aa aw aG.out,aF,ya,ZcD F.out E ((qa _ M).alloc E _) aa,ZcD ac.out E ((qa _ M).alloc E _) aa⟩
    simp [intOf];omega
   have aO:Zhj z.length k R=false:=(by simpa using f3);have O:=hI (ZcS h.out (chk_fail2 (a:=a) W ah.out ai.out aO));rw [aO];clear f3 aO
   go_wp2
   go_ret;exact⟨by rw [O];rfl,F.out.alloc E _⟩
  have aY:=hI (chk_out W bf.out au (by rw [L];omega));have aC:=hI (show Seen M S D (z.take (k+1)).flatten by rw [Zco W,L];rwa [qs (show l.length<=j by omega)] at K);replace I:=hI I;replace F:=hI F;clear au K ac
  go_wp2
  go_roundw
  case rel=>exact⟨k+1,aR,D,ya,by go_num,aY.out,aC.out,I.out,ya,F.out⟩
  simp [intOf];omega
 have O:=hI (errOf_ok h.out (chk_end ya av));clear F av K I
 go_wp2
 go_ret;exact⟨by rw [O];rfl,aU.out⟩
theorem check_any {z:List (List Stp)} (F:Logs w S A z) (H:∀ b,S b->b<w) :
 Calls prog 89 #[.int .i64 a,.slice A z n] w (ZiN (errOf a z) w):=by
 by_cases h:BadArg a z
 .rw [Zie h];exact check_arg F h
 exact check_go F H h
end Go.Proofs.YtjadnfodboepeaaGreat.Cut
