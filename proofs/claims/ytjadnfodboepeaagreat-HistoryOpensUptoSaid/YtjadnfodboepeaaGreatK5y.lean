import Derived.Test.YtjadnfodboepeaaGreatKsn
import Derived.Test.YtjadnfodboepeaaGreatKwh
set_option linter.all false
set_option maxRecDepth 100000
set_option maxHeartbeats 8000000
namespace Go.Proofs.YtjadnfodboepeaaGreat
open Tryz
open Go.RowKit
variable {w w':World} {n k m i:Nat} {A B:Option Addr} {S:Nat->Prop} {a:Int} {l:List Int} {x xA xB:Value} {g:TypeId} {h:ByteArray} {P:Program} {Q:Act}
theorem info3:(prog.info? 3).map (fun i=>(i.zero,i.size,i.bytes))=some (some (.int .i64 0),1,8):=by kernel_rfl
theorem Zae {size:Nat} {xs:List Value} (h:w.ownsRow n g size x k xs) (E:x.ownBlock=some m):n<=m/\∃ z,w.heap[m]?=some (.cells z g (0,0)):=by
 rcases h.2 with ⟨rfl,_⟩ | ⟨I,cap,z,rfl,H,F,_⟩
 .simp [Value.ownBlock] at E
 have:I=m:=(by simpa [Value.ownBlock] using E);subst this;exact⟨H,z,F⟩
theorem Zs {size:Nat} {xs:List Value} (h:w.ownsRow n g size x k xs) (z:x.ownBlock=some m):n<=m:=(Zae h z).1
theorem Zas {size:Nat} {xs:List Value} (h:w.ownsRow n g size (.slice A k i) k xs) (z:m=k):m<=i:=by
 subst z;rcases h.2 with ⟨_,M⟩ | ⟨e,cap,F,E,L,I,K,_⟩
 .omega
 injection E with _ _ H;omega
abbrev New (w w':World):Nat->Prop:=fun b=>w<=b/\b<w'
theorem Zad {size:Nat} {xs:List Value} (h:w.ownsRow n g size (.slice A k m) k xs) (U:0<k):∃ e,A=some ⟨e,0,none⟩/\n<=e/\e<w/\∀ j u,xs[j]?=some u->w.cell? ⟨e,j,none⟩=some u:=by
 rcases h.2 with ⟨_,M⟩ | ⟨e,cap,L,z,K,H,O,N,R,I⟩
 .omega
 injection z with z _ _;refine⟨e,z,K,Zb H,fun j u E=>?_⟩;have F:=(qR.1 E).1;rw [h.1] at F;rw [<-I,List.getElem?_take_of_lt F] at E;simp only [World.cell?,H];simpa using E
theorem ZbS (L:l.length<=17592186044416) (h:w.ownsRow n 3 1 (.slice A l k) l (l.map (Value.int .i64))):IntS w (fun b=>n<=b/\b<w) A l:=by
 refine⟨by rw [Ze (n:=8) (fun _=>rfl)];omega,fun K=>?_⟩;obtain⟨g,e,H,F,I⟩:=Zad h (by simpa using K);refine⟨g,0,e,⟨H,F⟩,ZaZ (n:=1) (fun d hd=>by obtain⟨v,_,rfl⟩:=qO.1 hd;rfl) (fun base z=>?_)⟩;rw [List.getElem_map];have E:base<l:=(by simpa using z);have:=I base (.int .i64 l[base]) (by simp [E]);simpa [ZaT,Dat.Held] using this
theorem Zjf (w:World) (z:Obj) (v:Value) :∀ j u,([v]:List Value)[j]?=some u->((w.alloc z).alloc (.cells #[v] g)).cell? ((⟨w+1,0,none⟩:Addr).add j)=some u:=by
 have h:=World.news_of_block (cs:=#[v]) (t:=g) (fr:=(0,0)) (qb (w.alloc z) (.cells #[v] g));simpa using h
def hasN (n:Nat) (t:Int):Bool:=decide (0<=t)&&decide (t<n)
theorem ZfM (v:Int) (A:Option Addr) (n c:Nat) (H:n<=17592186044416):Calls prog 156 #[sAgg v A n c,.int .i64 a] w (ZH (hasN n a) w):=by
 have E:=hI ((qa w w).alloc nR (.cells #[.int .i64 v,.slice A n c] 25))
 by_cases F:0<=a
 .have z:=hI (show hasN n a=decide (a<n) by simp [hasN,F]);go_enter func156,ntmps156
  go_wp2
  go_ret;exact⟨by rw [z];rfl,E⟩
 have z:=hI (show hasN n a=false by simp [hasN];omega);go_enter func156,ntmps156
 go_wp2
 go_ret;exact⟨by rw [z];rfl,E⟩
def Zav (s:Sch) (t:Int):List Int:=if hasN s.tt t then (s.tt.getD t.toNat t0).cols.map (·.kind) else []
def NewI (z:Prop) (l:List Int) (w:World) (e:Ending) (w':World):Prop:=∃ A c,e=.returned (.slice A l c)/\IntS w' (New w w') A l/\l.length<=c/\(l.length=0->z->A=none)/\Below w w w'
theorem kinds_any (K:Nat) (s:Sch) (N:TabS w S A s.tt) (R:∀ b,S b->b<w) :
 Calls prog 209 #[sAgg s.vv A s.tt K,.int .i64 a] w (NewI False (Zav s a) w):=by
 have aD:=N.len;replace N:=hI N;obtain⟨aq,ax,an,ap,ar⟩:=qA info3;go_enter func209,ntmps209
 go_wp2_with fail
 refine(ZfM _ A s.tt K aD).mono ?_;rintro e W ⟨rfl,U⟩;have M:=hI (((qa w w).alloc nR (.cells #[.int .i64 s.vv,.slice A s.tt K] 25)).trans (U.mono yb));have:yr W w 1 (.slice A s.tt K):=c9Q U yb (by simp [Qo _ _ _ _ _ _ (qb w _)]);have:w.heap.size<W:=(by have:=U.size;simp at this;omega);clear U
 by_cases E:hasN s.tt a=true
 .have I:=hI (show Zav s a=(s.tt.getD a.toNat t0).cols.map (·.kind) by unfold Zav;rw [qr E]);have aH:0<=a/\a<s.tt:=(by simpa [hasN] using E);obtain⟨aw,rfl⟩:=qn aH.1;rw [qu] at I;have aC:aw<s.tt:=ya;rw [E];clear E;obtain⟨av,aO,rfl,aJ,ao,aS,aR,c1,c2,ah,O⟩:=(N.keep (qS M R)).at_ aC;have aB:=O.cols;have am:=hI O.cS;have az:=O.cS.len;have:av<W:=(yl (R av aJ));clear O;generalize s.tt.getD aw t0=z at aB am az I
  have aK:∀ w:World,(Instr.makeSlice 65 (.int .i64 0) (.int .i64 (z.cols:Int))).run prog w=.ok (.slice (some ⟨w,0,none⟩) 0 z.cols.length) (w.alloc (.cells (madeCells (Value.int .i64 0).cells (z.cols.length*1)) 3)):=fun w=>by
   have au:=run_make (P:=prog) w 65 3 aq _ underlying65 ax an .i64 .i64 0 z.cols ya ya (by rw [ar];omega) ya;rw [ap] at au;simpa using au
  go_wp2_with fail
  clear aK
  go_loopw [5,27] (fun v i wr=>∃ (k c:Nat) (t:Option Addr),k<=z.cols/\i=.int .i64 k/\v=.slice t k c/\wr.ownsRow w 3 1 (.slice t k c) k (((z.cols.map (·.kind)).take k).map (Value.int .i64))/\(k=0->False->t=none)/\Below w w wr) (fun _ i _=>z.cols.length - (intOf i).toNat)
  case atStart=>exact⟨0,_,_,qk _,rfl,rfl,World.ownsRow_made _ _ _ ya yh (by simp [size_madeCells]),fun _ h=>h.elim,M.alloc ya _⟩
  obtain⟨k,c,t,aN,rfl,rfl,F,ae,aj⟩:=hrel;replace F:=hI F;have ab:=hI aj;replace ae:=hI ae;have aF:=aj.size;clear aj
  by_cases aa:k<z.cols
  .obtain⟨aL,aQ,rfl,aT,ah,aA⟩:=(am.keep (fun b L=>(ab.block b (R b L)).trans (M.block b (R b L)).symm)).at_ aa;have ak:=hI (show (z.cols.map (·.kind)).take (k+1)=(z.cols.map (·.kind)).take k++[(z.cols.getD k c0).kind] by rw [qj (by simpa using aa)];simp [List.getD,aa]);generalize z.cols.getD k c0=cl at ah aA ak;obtain⟨aP,aE⟩:=cl;simp only at ah aA ak
   go_wp2_with (at_builtin;refine Zn rfl (.tmp 31) (.tmp 34) 65 rfl 8 underlying65 ax an ap ar rfl yf rfl ((F.alloc _).alloc _) ⟨wr+1,0,none⟩ 1 1 [.int .i64 aE] rfl rfl (Zjf wr _ _) (by simp [Value.oneCell']) yh ya yd ?_;intro ao c1 aM ai ac)
   replace ai:=hI ai;replace ac:=hI ac;go_roundw
   case rel =>
    refine⟨k+1,c1,ao,ya,by go_num,rfl,?_,fun h=>absurd h ya,?_⟩
    .rw [ak,qm];exact ai
    exact((ab.alloc aF _).alloc yd _).grown ac yd (fun b L=>Zs F L)
   simp [intOf];omega
  have af:=hI (show k=z.cols.length by omega)
  go_wp2
  go_ret;have Z:=F.out;rw [af,qs yb] at Z;rw [I];refine⟨t,c,by rw [af,qg];rfl,ZbS (by simpa using az) (by simpa using Z),Zas Z yb,?_,ab⟩;intro aG aI;exact ae (by rw [af];simpa using aG) aI
 have I:=hI (show Zav s a=[] by unfold Zav;rw [qo E]);have ay:hasN s.tt a=false:=(by simpa using E);rw [ay];clear E ay
 go_wp2
 go_ret;rw [I];exact⟨none,0,rfl,Qk,yb,fun _ _=>rfl,M⟩
theorem Zel (R:Option Addr) (ai:Nat) (s:Sch) (t:Int) (S:Nat->Prop) (ab:TabS w S R s.tt) (am:∀ b,S b->b<w) :
 Calls prog 43 #[sAgg s.vv R s.tt ai,.int .i64 t] w (NewI True (Zav s t) w):=by
 replace ab:=hI ab;obtain⟨az,aF,ar,aw,aA⟩:=qA info3;have aa:=hI ((qa w w).alloc nR (.cells #[.int .i64 s.vv,.slice R s.tt ai] 25))
 by_cases E:hasN s.tt t=true
 .have F:=hI (show Zav s t=(s.tt.getD t.toNat t0).cols.map (·.kind) by unfold Zav;rw [qr E]);have aC:0<=t/\t<s.tt:=(by simpa [hasN] using E);clear E;obtain⟨I,rfl⟩:=qn aC.1;rw [qu] at F;have av:I<s.tt:=ya;obtain⟨ak,aK,rfl,aE,aj,aO,aN,c1,c2,Z,K⟩:=ab.at_ av;have ap:=K.cols;have ah:=hI K.cS;have an:=K.cS.len;have:ak<w:=am ak aE;clear K;generalize s.tt.getD I t0=z at ap ah an F;have:decide ((I:Int)<0)=false:=yb;have aq:decide (s.tt.length<=I)=false:=yd;go_enter func43,ntmps43
  go_wp2
  go_loopw [5,24] (fun v i wr=>∃ (k c:Nat) (A:Option Addr),k<=z.cols/\i=.int .i64 k/\v=.slice A k c/\wr.ownsRow w 3 1 (.slice A k c) k (((z.cols.map (·.kind)).take k).map (Value.int .i64))/\(k=0->True->A=none)/\Below w w wr) (fun _ i _=>z.cols.length - (intOf i).toNat)
  case atStart=>exact⟨0,_,_,qk _,rfl,rfl,qV _ _ _ _,fun _ _=>rfl,aa⟩
  obtain⟨k,c,A,aJ,rfl,rfl,H,U,ae⟩:=hrel;replace H:=hI H;have N:=hI ae;replace U:=hI U;have ay:=ae.size;clear ae
  by_cases M:k<z.cols
  .obtain⟨aH,aM,rfl,aP,Z,ao⟩:=(ah.keep (qS N am)).at_ M;have af:=hI (show (z.cols.map (·.kind)).take (k+1)=(z.cols.map (·.kind)).take k++[(z.cols.getD k c0).kind] by rw [qj (by simpa using M)];simp [List.getD,M]);generalize z.cols.getD k c0=cl at Z ao af;obtain⟨aL,ax⟩:=cl;simp only at Z ao af
   go_wp2_with (at_builtin;refine Zn rfl (.tmp 28) (.tmp 31) 65 rfl 8 underlying65 aF ar aw aA rfl yf rfl ((H.alloc _).alloc _) ⟨wr+1,0,none⟩ 1 1 [.int .i64 ax] rfl rfl (Zjf wr _ _) (by simp [Value.oneCell']) yh ya yd ?_;intro aj c1 aI ac O)
   replace ac:=hI ac;replace O:=hI O;go_roundw
   case rel =>
    refine⟨k+1,c1,aj,ya,by go_num,rfl,?_,fun h=>absurd h ya,?_⟩
    .rw [af,qm];exact ac
    exact((N.alloc ay _).alloc yd _).grown O yd (fun b au=>Zs H au)
   simp [intOf];omega
  have W:=hI (show k=z.cols.length by omega)
  go_wp2
  go_ret;have L:=H.out;rw [W,qs yb] at L;rw [F];refine⟨A,c,by rw [W,qg];rfl,ZbS (by simpa using an) (by simpa using L),Zas L yb,?_,N⟩;intro aB aD;exact U (by rw [W];simpa using aB) aD
 have F:=hI (show Zav s t=[] by unfold Zav;rw [qo E])
 have:t<0\/(s.tt:Int)<=t:=by
  have:hasN s.tt t=false:=(by simpa using E);simp [hasN] at this;omega
 clear E
 by_cases aG:t<0
 .go_enter func43,ntmps43
  go_wp2
  go_ret;rw [F];exact⟨none,0,rfl,Qk,yb,fun _ _=>rfl,aa⟩
 have aq:decide ((s.tt:Int)<=t)=true:=yd;go_enter func43,ntmps43
 go_wp2
 go_ret;rw [F];exact⟨none,0,rfl,Qk,yb,fun _ _=>rfl,aa⟩
theorem add_none (b o k:Nat):(⟨b,o,none⟩:Addr).add k=⟨b,o+k,none⟩:=by
 unfold Addr.add;split
 .rename_i h;subst h;rfl
 rfl
def Zq:Row->List Value
 | []=>[]
 | v :: r=>.int .i64 v.k :: .int .i64 v.i :: .string v.t :: Zq r
theorem ZaX:∀ r:Row,(Zq r).length=r.length*3
 | []=>rfl
 | v :: r=>by simp [Zq,ZaX r,Nat.succ_mul]
theorem ZaW:∀ r:Row,∀ u ∈ Zq r,u.oneCell'=true
 | [],u,h=>by simp [Zq] at h
 | v :: r,u,h=>by
  simp only [Zq,Qs] at h;rcases h with rfl | rfl | rfl | h
  .rfl
  .rfl
  .rfl
  exact ZaW r u h
theorem ZhZ:∀ (r:Row) (b E:Nat),Dat.Ha w S (r.map encV) b E->∀ j u,(Zq r)[j]?=some u->yr w b (E+j) u
 | [],_,_,_,j,u,z=>by simp [Zq] at z
 | v :: r,b,E,h,j,u,z=>by
  simp only [qL,Dat.Ha,ZdW,ZfY] at h;obtain⟨⟨I,F,K,_⟩,H⟩:=h
  match j,z with
  | 0,z=>simp only [Zq,List.getElem?_cons_zero,Option.some.injEq] at z;subst z;exact I
  | 1,z=>simp only [Zq,List.getElem?_cons_succ,List.getElem?_cons_zero,Option.some.injEq] at z;subst z;exact F
  | 2,z=>simp only [Zq,List.getElem?_cons_succ,List.getElem?_cons_zero,Option.some.injEq] at z;subst z;exact K
  | j+3,z =>
   simp only [Zq,List.getElem?_cons_succ] at z;have:=ZhZ r b (E+3) H j u z;rw [show E+(j+3)=E+3+j by omega];exact this
theorem Zbf:∀ (r:Row) (b z:Nat),(∀ v ∈ r,v.t.size<=9223372036854775807)->(∀ j u,(Zq r)[j]?=some u->yr w b (z+j) u)->Dat.Ha w S (r.map encV) b z
 | [],_,_,_,_=>by simp [Dat.Ha]
 | v :: r,b,z,E,h=>by
  simp only [qL,Dat.Ha,ZdW,ZfY];refine⟨⟨h 0 _ rfl,h 1 _ rfl,h 2 _ rfl,E v yb⟩,Zbf r b (z+3) (fun v F=>E v (by simp [F])) (fun j u H=>?_)⟩;have:=h (j+3) u (by simpa [Zq] using H);rw [show z+3+j=z+(j+3) by omega];exact this
theorem RowS.vals {r:Row} (h:RowS w S A r) (E:0<r.length):∃ b z,A=some ⟨b,z,none⟩/\S b/\∀ j u,(Zq r)[j]?=some u->w.cell? ((⟨b,z,none⟩:Addr).add j)=some u:=by
 obtain⟨b,z,e,H,I⟩:=h.2 (by simpa using E);exact⟨b,z,e,H,fun j u F=>by rw [add_none];exact ZhZ r b z I j u F⟩
theorem Zag {r:Row} (z:RowOk r) (h:w.ownsRow n 108 3 (.slice A r k) r (Zq r)):RowS w (fun b=>n<=b/\b<w) A r:=by
 refine⟨by have:=z.1;rw [Ze (n:=32) (fun _=>rfl)];omega,fun K=>?_⟩;obtain⟨g,e,H,E,I⟩:=Zad h (by simpa using K);exact⟨g,0,e,⟨H,E⟩,Zbf r g 0 z.2 (fun j u F=>by rw [qx];exact I j u F)⟩
theorem ZhX:(prog.info? 108).map (fun i=>(i.zero,i.size,i.bytes))=some (some (.agg #[.int .i64 0,.int .i64 0,.string ⟨#[]⟩]),3,32):=by kernel_rfl
theorem run_append_empty (t I:TypeId) {i:TypeInfo} {size:Nat} (z:P.underlying t=some (.slice g)) (E:P.info? g=some i)
   {xs:List Value} (F:w.ownsRow n g size x k xs) (A:Option Addr) (c:Nat) :
 (Builtin.append_ #[t,t] I #[x,.slice A 0 c]).run P w=.ok x w:=by
 rcases F.2 with ⟨rfl,rfl⟩ | ⟨e,cap,K,rfl,_,_,H,_⟩
 .cases A<;>simp [Builtin.append_,run_underlying z,sizeOf,typeInfo,E,Builtin.lenOf,Builtin.firstCells,loadCells,loadCellsFrom]
 cases A<;>simp [Builtin.append_,run_underlying z,sizeOf,typeInfo,E,Builtin.lenOf,Builtin.firstCells,H,storeCells,loadCells,loadCellsFrom]
theorem Zbw {z:Array Oper} {rest:List Oper} {o:Oper} {a:Exit->Act->World->Prop} (E:o.guard=none) (s e:Operand) (t:TypeId)
 (H:o.op=.call { callee:=.builtin .append,args:=#[s,e],argTypes:=#[t,t] })
   {i:TypeInfo} {size:Nat} (L:P.underlying t=some (.slice g)) (N:P.info? g=some i)
   {xs:List Value} (M:Q.eval s=x) (F:w.ownsRow n g size x k xs) (A:Option Addr) (c:Nat) (O:Q.eval e=.slice A 0 c)
 (h:wpList P z a rest (Q.put o.dst x) w):wpList P z a (o :: rest) Q w:=by
 refine wpList_plain E fun R K=>?_;have I:=run_append_empty (P:=P) (w:=w) t o.type L N F A c;unfold Oper.wp;simp [execOp,H,resolve,invoke,builtin,M,O,I,Result.andThen];exact K _ _ h
def NewR (r:Row) (w:World) (e:Ending) (w':World):Prop:=∃ A c,e=.returned (.slice A r c)/\w'.ownsRow w 108 3 (.slice A r c) r (Zq r)/\Below w w w'
theorem NewR.row {r:Row} {w w':World} {A:Option Addr} {c:Nat} (h:w'.ownsRow w 108 3 (.slice A r c) r (Zq r)) (z:RowOk r):RowS w' (New w w') A r:=Zag z h
theorem clone_any (A:Option Addr) (F:Nat) (r:Row) (S:Nat->Prop) (w:World) (h:RowS w S A r) :
 Calls prog 77 #[.slice A r F] w (NewR r w):=by
 have aa:=h.len';replace h:=hI h;obtain⟨I,K,R,U,L⟩:=qA ZhX;rcases qF r.length with E | E
 .have O:r=[]:=List.length_eq_zero_iff.1 E;subst O;go_enter func77,ntmps77
  go_wp2_with (at_builtin;refine Zbw rfl (.const (.slice none 0 0)) (.tmp 3) 116 rfl (n:=w.heap.size) (g:=108) (i:=I) (size:=3) underlying116 K (x:=.slice none 0 0) (k:=0) (xs:=[]) rfl (qV _ _ _ _) A F rfl ?_)
  go_ret;exact⟨none,0,rfl,qV _ _ _ _,qa _ _⟩
 obtain⟨b,N,rfl,ab,H⟩:=h.vals E;replace H:=hI H;go_enter func77,ntmps77
 go_wp2_with (at_builtin;refine Zn rfl (.const (.slice none 0 0)) (.tmp 3) 116 rfl (n:=w.heap.size) (g:=108) (i:=I) (size:=3) 32 underlying116 K R U L rfl yf (xA:=.slice none 0 0) (k:=0) (xs:=[]) rfl (qV _ _ _ _) ⟨b,N,none⟩ r.length F (Zq r) rfl (ZaX r) H (ZaW r) yh ya nR ?_;intro M c1 Z z W)
 rw [qP] at z;rw [qx] at z;go_ret;exact⟨M,c1,rfl,z,(qa _ _).grown W nR (by simp [Value.ownBlock])⟩
theorem ZcH {r:Row} (h:RowS w S A r) :
 Calls prog 65 #[.slice A r n] w (NewR r w):=by
 have aa:=h.len';replace h:=hI h;obtain⟨I,K,R,U,L⟩:=qA ZhX;rcases qF r.length with E | E
 .have O:r=[]:=List.length_eq_zero_iff.1 E;subst O;go_enter func65,ntmps65
  go_wp2_with (at_builtin;refine Zbw rfl (.const (.slice none 0 0)) (.tmp 3) 116 rfl (n:=w.heap.size) (g:=108) (i:=I) (size:=3) underlying116 K (x:=.slice none 0 0) (k:=0) (xs:=[]) rfl (qV _ _ _ _) A n rfl ?_)
  go_ret;exact⟨none,0,rfl,qV _ _ _ _,qa _ _⟩
 obtain⟨b,N,rfl,ab,H⟩:=h.vals E;replace H:=hI H;go_enter func65,ntmps65
 go_wp2_with (at_builtin;refine Zn rfl (.const (.slice none 0 0)) (.tmp 3) 116 rfl (n:=w.heap.size) (g:=108) (i:=I) (size:=3) 32 underlying116 K R U L rfl yf (xA:=.slice none 0 0) (k:=0) (xs:=[]) rfl (qV _ _ _ _) ⟨b,N,none⟩ r.length n (Zq r) rfl (ZaX r) H (ZaW r) yh ya nR ?_;intro M c1 Z z W)
 rw [qP] at z;rw [qx] at z;go_ret;exact⟨M,c1,rfl,z,(qa _ _).grown W nR (by simp [Value.ownBlock])⟩
theorem equal_any (A B:Option Addr) (E cb:Nat) (a b:Row) (S:Nat->Prop) (w:World) (F:RowS w S A a) (K:RowS w S B b) (H:∀ b,S b->b<w) :
 Calls prog 131 #[.slice A a E,.slice B b cb] w (ZH (cmpR a b == 0) w):=by
 go_enter func131,ntmps131
 go_wp2_with fail
 refine(ZaU F K H).mono ?_;rintro e M ⟨rfl,I⟩;obtain⟨N,z⟩:=yp (cmpR a b);have L:=hI z;rw [z];clear z
 go_wp2
 go_ret;exact⟨by rw [L];rfl,I⟩
def keyN (k:Int) (r:Row):Nat:=(max 0 (min k r.length)).toNat
def keyF (s:Sch) (t:Int) (r:Row):Row:=if hasN s.tt t then r.take (keyN (s.tt.getD t.toNat t0).key r) else []
def Sub (A:Option Addr) (r:Row) (w:World) (e:Ending) (w':World):Prop:=∃ A' c,e=.returned (.slice A' r c)/\(0<r.length->A'=A)/\Below w w w'
theorem RowS.take {w:World} {S:Nat->Prop} {A:Option Addr} {r:Row} (h:RowS w S A r) (k:Nat) {A':Option Addr} (e:0<(r.take k).length->A'=A):RowS w S A' (r.take k):=by
 refine⟨?_,fun N=>?_⟩
 .have:=h.1;rw [Ze (n:=32) (fun _=>rfl)] at this ⊢;simp only [qG];omega
 have F:0<(r.take k).length:=(by simpa using N);obtain⟨b,H,I,L,M⟩:=h.vals (by simp at F;omega);refine⟨b,H,(e F).trans I,L,Zbf _ b H (fun v E=>h.ok.2 v (List.mem_of_mem_take E)) (fun j u z=>?_)⟩
 have E:∀ (r:Row) (k j:Nat) (u:Value),(Zq (r.take k))[j]?=some u->(Zq r)[j]?=some u:=by
  intro r;induction r with
  | nil=>intro k j u z;simpa using z
  | cons v r K =>
   intro k j u z;cases k with
   | zero=>simp [Zq] at z
   | succ k =>
    rw [List.take_succ_cons] at z
    match j,z with
    | 0,z=>exact z
    | 1,z=>exact z
    | 2,z=>exact z
    | j+3,z =>
     simp only [Zq,List.getElem?_cons_succ] at z ⊢;exact K k j u z
 have:=M j u (E r k j u z);rw [add_none] at this;exact this
theorem RowS.key {w:World} {S:Nat->Prop} {A:Option Addr} {r:Row} (h:RowS w S A r) (s:Sch) (t:Int) {A':Option Addr} (e:0<(keyF s t r).length->A'=A):RowS w S A' (keyF s t r):=by
 unfold keyF at e ⊢;split
 .rename_i z
  rw [qr z] at e;exact h.take _ e
 exact Qi
theorem ZaY (N:Nat) (s:Sch) {r:Row} (L:TabS w S A s.tt) (O:RowS w S B r) (ai:r.length<=n) (ah:∀ b,S b->b<w) :
 Calls prog 101 #[sAgg s.vv A s.tt N,.int .i64 a,.slice B r n] w (Sub B (keyF s a r) w):=by
 have aq:=O.len;replace L:=hI L;clear O;have K:=hI ((qa w w).alloc nR (.cells #[.int .i64 s.vv,.slice A s.tt N] 25))
 by_cases E:hasN s.tt a=true
 .have z:=hI (show keyF s a r=r.take (keyN (s.tt.getD a.toNat t0).key r) by unfold keyF;rw [qr E]);have ac:0<=a/\a<s.tt:=(by simpa [hasN] using E);clear E;obtain⟨F,rfl⟩:=qn ac.1;rw [qu] at z;have Z:F<s.tt:=ya;obtain⟨R,an,rfl,af,am,aw,au,c1,c2,ap,U⟩:=L.at_ Z;have M:=U.key;have:R<w:=ah R af;clear U;generalize s.tt.getD F t0=ab at M z;obtain⟨av,ak,aa,ao,ar⟩:=ab;simp only at M z;have:decide ((F:Int)<0)=false:=yb;have W:decide (s.tt.length<=F)=false:=yd;have ae:=hI (show keyN aa r<=r.length by unfold keyN;omega);go_enter func101,ntmps101
  go_wp2
  go_ret;rw [z];exact⟨B,n,by rw [qG,Nat.min_eq_left ae.out];rfl,fun h=>rfl,K⟩
 have z:=hI (show keyF s a r=[] by unfold keyF;rw [qo E])
 have:a<0\/(s.tt:Int)<=a:=by
  have:hasN s.tt a=false:=(by simpa using E);simp [hasN] at this;omega
 clear E
 by_cases aj:a<0
 .go_enter func101,ntmps101
  go_wp2
  go_ret;rw [z];exact⟨none,0,rfl,fun h=>absurd h yb,K⟩
 have W:decide ((s.tt:Int)<=a)=true:=yd;go_enter func101,ntmps101
 go_wp2
 go_ret;rw [z];exact⟨none,0,rfl,fun h=>absurd h yb,K⟩
structure Chg where
 tx:Int
 old:Row
 new:Row
abbrev St:=List (List Row)
abbrev chg0:Chg:=⟨0,[],[]⟩
def Zy (r:Row):Dat:=.slice (r.map encV)
def Zx (l:List Row):Dat:=.slice (l.map Zy)
def ZF (c:Chg):Dat:=.agg [.lit (.int .i64 c.tx),Zy c.old,Zy c.new]
theorem Zab (c:Chg):(ZF c).size=3:=rfl
def RowsS (w:World) (S:Nat->Prop) (A:Option Addr) (l:List Row):Prop:=Sl w S A (l.map Zy)
def StS (w:World) (S:Nat->Prop) (A:Option Addr) (l:St):Prop:=Sl w S A (l.map Zx)
def ChgS (w:World) (S:Nat->Prop) (A:Option Addr) (l:List Chg):Prop:=Sl w S A (l.map ZF)
section
variable {w w':World} {S S':Nat->Prop} {A:Option Addr}
theorem RowsS.keep {l:List Row} (h:RowsS w S A l) (z:Same S w w'):RowsS w' S A l:=qU h z
theorem RowsS.more {l:List Row} (h:RowsS w S A l) (z:∀ b,S b->S' b):RowsS w S' A l:=qZ h z
theorem RowsS.nil_:RowsS w S A []:=Qd
theorem RowsS.len {l:List Row} (h:RowsS w S A l):l.length<=5864062014805:=by have:=h.1;rw [Ze (n:=24) (fun _=>rfl)] at this;omega
theorem RowsS.at_ {l:List Row} (h:RowsS w S A l) {k:Nat} (F:k<l):∃ b z,A=some ⟨b,z,none⟩/\S b/\∃ A' c,yr w b (z+k) (.slice A' (l.getD k []).length c)/\(l.getD k []).length<=c/\RowS w S A' (l.getD k []):=by
 obtain⟨b,z,e,M,E⟩:=Qf (n:=1) (fun _=>rfl) [] h F;rw [Nat.mul_one] at E;simp only [Zy,Dat.Held,qg] at E;obtain⟨A',c,H,L,I,K⟩:=E;exact⟨b,z,e,M,A',c,H,L,⟨by simpa using I,by simpa using K⟩⟩
abbrev Qj:=@RowsS.at_
theorem StS.keep {l:St} (h:StS w S A l) (z:Same S w w'):StS w' S A l:=qU h z
theorem StS.more {l:St} (h:StS w S A l) (z:∀ b,S b->S' b):StS w S' A l:=qZ h z
theorem StS.nil_:StS w S A []:=Qd
theorem StS.len {l:St} (h:StS w S A l):l.length<=5864062014805:=by have:=h.1;rw [Ze (n:=24) (fun _=>rfl)] at this;omega
theorem StS.at_ {l:St} (h:StS w S A l) {k:Nat} (F:k<l):∃ b z,A=some ⟨b,z,none⟩/\S b/\∃ A' c,yr w b (z+k) (.slice A' (l.getD k []).length c)/\(l.getD k []).length<=c/\RowsS w S A' (l.getD k []):=by
 obtain⟨b,z,e,M,E⟩:=Qf (n:=1) (fun _=>rfl) [] h F;rw [Nat.mul_one] at E;simp only [Zx,Dat.Held,qg] at E;obtain⟨A',c,H,L,I,K⟩:=E;exact⟨b,z,e,M,A',c,H,L,⟨by simpa using I,by simpa using K⟩⟩
theorem ChgS.keep {l:List Chg} (h:ChgS w S A l) (z:Same S w w'):ChgS w' S A l:=qU h z
theorem ChgS.more {l:List Chg} (h:ChgS w S A l) (z:∀ b,S b->S' b):ChgS w S' A l:=qZ h z
theorem ChgS.nil_:ChgS w S A []:=Qd
theorem ChgS.len {l:List Chg} (h:ChgS w S A l):l.length<=2513169434916:=by have:=h.1;rw [Ze (n:=56) (fun _=>rfl)] at this;omega
theorem ChgS.at_ {l:List Chg} (h:ChgS w S A l) {k:Nat} (I:k<l):∃ b z,A=some ⟨b,z,none⟩/\S b/\yr w b (z+k*3) (.int .i64 (l.getD k chg0).tx)/\∃ E c1 F c2,yr w b (z+k*3+1) (.slice E (l.getD k chg0).old.length c1)/\(l.getD k chg0).old.length<=c1/\RowS w S E (l.getD k chg0).old/\yr w b (z+k*3+2) (.slice F (l.getD k chg0).new.length c2)/\(l.getD k chg0).new.length<=c2/\RowS w S F (l.getD k chg0).new:=by
 obtain⟨b,z,e,N,H⟩:=Qf Zab chg0 h I;simp only [ZF,Zy,Dat.Held,Dat.Ha,Dat.size,and_true,qg,ZC] at H;obtain⟨H,⟨E,c1,a1,a2,a3,a4⟩,F,c2,K,L,O,M⟩:=H;exact⟨b,z,e,N,H,E,c1,F,c2,a1,a2,⟨by simpa using a3,by simpa using a4⟩,K,L,⟨by simpa using O,by simpa using M⟩⟩
end
abbrev ZaM (A:Option Addr) (n c:Nat):Value:=.agg #[.slice A n c]
abbrev Zip (t:Int) (A:Option Addr) (n c:Nat) (B:Option Addr) (m d:Nat):Value:=.agg #[.int .i64 t,.slice A n c,.slice B m d]
def Zi:St->Nat
 | []=>0
 | l :: r=>l.length+Zi r
theorem Zbb (st:St) (k:Nat) (h:k<st):Zi (st.take (k+1))=Zi (st.take k)+(st.getD k []).length:=by
 induction st generalizing k with
 | nil=>simp at h
 | cons l r z =>
  cases k with
  | zero=>simp [Zi]
  | succ k =>
   have:=z k (by simpa using h);simp only [List.take_succ_cons,Zi,List.getD_cons_succ];omega
theorem Zce (st:St) (k:Nat):Zi (st.take k)<=Zi st:=by
 induction st generalizing k with
 | nil=>simp
 | cons l r z =>
  cases k with
  | zero=>simp [Zi]
  | succ k=>have:=z k;simp only [List.take_succ_cons,Zi];omega
theorem Zij (E:Nat) {st:St} (h:StS w S A st) (W:∀ b,S b->b<w) (ah:Zi st<=4611686018427387904) :
 Calls prog 78 #[ZaM A st E] w (Zaz (Zi st) w):=by
 have ae:=h.len;replace h:=hI h;have R:=hI (Zbb st);have I:=hI (Zce st);have N:=hI ((qa w w).alloc nR (.cells #[.slice A st E] 28));go_enter func78,ntmps78
 go_wp2
 go_loopw [3,9] (fun n i wr=>∃ k:Nat,k<=st/\i=.int .i64 k/\n=.int .i64 (Zi (st.take k))/\wr=(w.alloc (.cells #[.slice A st E] 28))) (fun _ i _=>st.length - (intOf i).toNat)
 case atStart=>exact⟨0,qk _,rfl,rfl,rfl⟩
 obtain⟨k,ab,rfl,rfl,rfl⟩:=hrel;have af:=I k
 by_cases H:k<st
 .obtain⟨F,ac,rfl,Z,A',aa,U,L,M⟩:=h.at_ H;have:F<w:=W F Z;have z:=hI (R k H);have K:=I (k+1);rw [z] at K;clear L M;generalize (st.getD k []).length=m at U z K
  go_wp2
  go_roundw
  case rel=>exact⟨k+1,ya,by go_num,by rw [z];go_num,trivial⟩
  simp [intOf];omega
 have O:=hI (show Zi st=Zi (st.take k) by rw [qs ya])
 go_wp2
 go_ret;exact⟨by rw [O];rfl,N⟩
def TextPost (w:World) (g:Nat) (e:Ending) (w':World):Prop:=∃ t:ByteArray,e=.returned (.string t)/\t.size<=64/\CaseOk w' g/\w.grownBy w' (some g)/\w'.heap.size=w.heap.size
theorem ZhN (t:ByteArray) (x:UInt8):(t++⟨#[x]⟩).size=t.size+1:=by
 rw [ByteArray.size_append];rfl
theorem text_any (O:CaseOk w n):Calls prog 153 #[.pointer (some ⟨n,0,none⟩)] w (TextPost w n):=by
 go_enter func153,ntmps153
 go_wp2_with fail
 refine(Zal ya O).mono ?_;rintro e aa ⟨r,rfl,ac,M,-,N,R,L⟩;have K:=hI N;have H:=hI R;have I:=hI L;have ab:=M ya;clear O N R L M;have U:r=0\/r=1\/r=2\/r=3\/r=4\/r=5\/r=6\/r=7\/r=8\/r=9:=ya;rcases U with rfl | rfl | rfl | rfl | rfl | rfl | rfl | rfl | rfl | rfl
 iterate 8
  go_wp2
  go_ret;exact⟨_,rfl,yf,K,H,I⟩
 .go_wp2
  go_loop [3,4] (fun t i=>∃ (k:Nat) (u:ByteArray),k<=64/\i=.int .i64 k/\t=.string u/\u.size=k) (fun _ i=>64 - (intOf i).toNat)
  case atStart=>exact⟨0,_,ya,rfl,rfl,rfl⟩
  obtain⟨k,u,F,rfl,rfl,E⟩:=hrel;have z:=hI E;have Z:¬ 9223372036854775807<u.size+1:=ya;clear E
  by_cases W:k<64
  .go_wp2
   go_round
   case rel=>exact⟨k+1,_,ya,by go_num,rfl,by rw [ZhN,z]⟩
   simp [intOf];omega
  go_wp2
  go_ret;exact⟨_,rfl,by rw [z];exact F,K,H,I⟩
 go_wp2
 go_loop [3,5] (fun t i=>∃ (k:Nat) (u:ByteArray),k<=64/\i=.int .i64 k/\t=.string u/\u.size=k) (fun _ i=>64 - (intOf i).toNat)
 case atStart=>exact⟨0,_,ya,rfl,rfl,rfl⟩
 obtain⟨k,u,F,rfl,rfl,E⟩:=hrel;have z:=hI E;have Z:¬ 9223372036854775807<u.size+1:=ya;clear E
 by_cases W:k<64
 .go_wp2
  go_round
  case rel=>exact⟨k+1,_,ya,by go_num,rfl,by rw [ZhN,z]⟩
  simp [intOf];omega
 go_wp2
 go_ret;exact⟨_,rfl,by rw [z];exact F,K,H,I⟩
def NumPost (w:World) (g:Nat) (e:Ending) (w':World):Prop:=∃ n:Int,e=.returned (.int .i64 n)/\CaseOk w' g/\w.grownBy w' (some g)/\w'.heap.size=w.heap.size
theorem number_any (I:CaseOk w n):Calls prog 152 #[.pointer (some ⟨n,0,none⟩)] w (NumPost w n):=by
 go_enter func152,ntmps152
 go_wp2_with fail
 refine(Zal ya I).mono ?_;rintro e L ⟨r,rfl,N,H,-,F,E,z⟩;replace F:=hI F;replace E:=hI E;replace z:=hI z;have M:=H ya;clear I H;have K:r=0\/r=1\/r=2\/r=3\/r=4\/r=5\/r=6\/r=7\/r=8\/r=9\/r=10\/r=11:=ya;rcases K with rfl | rfl | rfl | rfl | rfl | rfl | rfl | rfl | rfl | rfl | rfl | rfl
 all_goals
  go_wp2
  go_ret;exact⟨_,rfl,F,E,z⟩
def ZcL (k:Int):Int:=if k=3 then 3 else if k=4 then 4 else 5
def ValPost (P:V->Prop) (w:World) (g:Nat) (e:Ending) (w':World):Prop:=∃ v:V,e=.returned (vAgg v)/\P v/\CaseOk w' g/\w.grownBy w' (some g)
def ZgU (k:Int) (v:V):Prop:=Zp v=true/\v.k=k
theorem grown_set {o:Obj} (z:(w.alloc o).grownBy w' (some n)) (I:w<=k) (v:Value) (g:Nat):w.grownBy (w'.setCell ⟨k,g,none⟩ v) (some n) :=
 ⟨z.os,z.tape,z.output,by have:=z.size;simp at this ⊢;omega,fun b H F=>(qc w' ⟨k,g,none⟩ v b (by show b≠k;omega)).trans ((z.block b yd F).trans (qd w o b H))⟩
abbrev zObj:Obj:=.cells #[.int .i64 0,.int .i64 0,.string ⟨#[]⟩] 108 (0,0)
theorem Zf (z:CaseOk w n) (E:n<k):CaseOk (w.setCell ⟨k,m,none⟩ x) n:=z.keep (fun b F=>qc w ⟨k,m,none⟩ x b (by show b≠k;omega))
theorem Zey {o:Obj} (H:(w.alloc o).grownBy w' (some n)) (F:w<=k):w.grownBy (((w'.setCell ⟨k,0,none⟩ x).setCell ⟨k,1,none⟩ xA).setCell ⟨k,2,none⟩ xB) (some n):=by
 have h:=grown_set (k:=k) H F x 0;refine⟨h.os,h.tape,h.output,by have:=h.size;simpa using this,fun z I E=>?_⟩;rw [qc _ ⟨k,2,none⟩ xB z (by show z≠k;omega),qc _ ⟨k,1,none⟩ xA z (by show z≠k;omega)];exact h.block z I E
theorem Zgf (E:CaseOk w n) (z:n<k):CaseOk (((w.setCell ⟨k,0,none⟩ x).setCell ⟨k,1,none⟩ xA).setCell ⟨k,2,none⟩ xB) n:=Zf (Zf (Zf E z) z) z
section
variable {w:World} {B:Nat} {x0 x1 x2 a b c:Value}
theorem v3_2 (F:yr w B 0 x0) (E:yr w B 1 x1) (z:yr w B 2 x2):(((w.setCell ⟨B,0,none⟩ a).setCell ⟨B,1,none⟩ b).setCell ⟨B,2,none⟩ c).cell? ⟨B,2,none⟩=some c :=
 Qr _ _ _ (u:=x2) (by rw [World.cell?_setCell_other _ _ _ _ yb,World.cell?_setCell_other _ _ _ _ yb];exact z)
theorem v3_1 (F:yr w B 0 x0) (z:yr w B 1 x1) (E:yr w B 2 x2):(((w.setCell ⟨B,0,none⟩ a).setCell ⟨B,1,none⟩ b).setCell ⟨B,2,none⟩ c).cell? ⟨B,1,none⟩=some b:=by
 rw [World.cell?_setCell_other _ _ _ _ yb];exact Qr _ _ _ (u:=x1) (by rw [World.cell?_setCell_other _ _ _ _ yb];exact z)
theorem v3_0 (z:yr w B 0 x0) (E:yr w B 1 x1) (F:yr w B 2 x2):(((w.setCell ⟨B,0,none⟩ a).setCell ⟨B,1,none⟩ b).setCell ⟨B,2,none⟩ c).cell? ⟨B,0,none⟩=some a:=by
 rw [World.cell?_setCell_other _ _ _ _ yb,World.cell?_setCell_other _ _ _ _ yb];exact Qr _ _ _ (u:=x0) z
end
theorem valid_bool (h:a=0\/a=1):ZgU 3 ⟨3,a,⟨#[]⟩⟩:=by rcases h with rfl | rfl<;>exact⟨by simp [Zp],rfl⟩
theorem valid_int:ZgU 4 ⟨4,a,⟨#[]⟩⟩:=⟨by simp [Zp],rfl⟩
theorem valid_text (t:h.size<=64):ZgU 5 ⟨5,0,h⟩:=⟨by simp [Zp];omega,rfl⟩
theorem Zbx (ae:CaseOk w n):Calls prog 96 #[.pointer (some ⟨n,0,none⟩),.int .i64 a] w (ValPost (ZgU (ZcL a)) w n):=by
 have ac:=ae.lt;have ab:=hI (ae.keep (w':=w.alloc zObj) (fun b F=>qd _ _ _ ya));clear ae;have:(w.alloc zObj).heap.size=w.heap.size+1:=by simp
 by_cases aa:a=3
 .subst aa;go_enter func96,ntmps96
  go_wp2_with fail
  refine(Zal ya ab).mono ?_;rintro e z ⟨r,rfl,ap,ai,-,L,E,W⟩;have aq:=ai ya;have am:=hI (show r=0\/r=1 by omega);have R:=hI L;have M:=hI E
  obtain⟨I,H,K⟩:yr z w 0 (.int .i64 0)/\yr z w 1 (.int .i64 0)/\z.cell? ⟨w,2,none⟩=some (.string ⟨#[]⟩):=by
   have F:=E.block w yb yj;have h:=F.trans (qb w zObj);exact⟨Qo _ _ _ _ _ _ h,Qo _ _ _ _ _ _ h,Qo _ _ _ _ _ _ h⟩
  obtain⟨ah,f1,ak⟩:z.frozen? ⟨w,0,none⟩=false/\z.frozen? ⟨w,1,none⟩=false/\z.frozen? ⟨w,2,none⟩=false:=by
   have F:=E.block w yb yj;have h:=F.trans (qb w zObj);simp [World.frozen?,h]
  have aj:w.heap.size<z:=(yl E.size);clear L E W ai
  go_wp2_with fail
  have O:=v3_0 (a:=.int .i64 3) (b:=.int .i64 r) (c:=.string ⟨#[]⟩) I H K;have U:=v3_1 (a:=.int .i64 3) (b:=.int .i64 r) (c:=.string ⟨#[]⟩) I H K;have N:=v3_2 (a:=.int .i64 3) (b:=.int .i64 r) (c:=.string ⟨#[]⟩) I H K;exact qw (v:=.agg #[.int .i64 3,.int .i64 r,.string ⟨#[]⟩]) (by simp [results,results96,go_sem,O,U,N]) rfl ⟨⟨3,r,⟨#[]⟩⟩,rfl,valid_bool am,Zgf R ac,Zey M nR⟩
 have:(a == 3)=false:=qf.2 aa
 by_cases Z:a=4
 .subst Z;go_enter func96,ntmps96
  go_wp2_with fail
  refine(number_any ab).mono ?_;rintro e z ⟨r,rfl,L,E,W⟩;have R:=hI L;have M:=hI E
  obtain⟨I,H,K⟩:yr z w 0 (.int .i64 0)/\yr z w 1 (.int .i64 0)/\z.cell? ⟨w,2,none⟩=some (.string ⟨#[]⟩):=by
   have F:=E.block w yb yj;have h:=F.trans (qb w zObj);exact⟨Qo _ _ _ _ _ _ h,Qo _ _ _ _ _ _ h,Qo _ _ _ _ _ _ h⟩
  obtain⟨ah,f1,ak⟩:z.frozen? ⟨w,0,none⟩=false/\z.frozen? ⟨w,1,none⟩=false/\z.frozen? ⟨w,2,none⟩=false:=by
   have F:=E.block w yb yj;have h:=F.trans (qb w zObj);simp [World.frozen?,h]
  have aj:w.heap.size<z:=(yl E.size);clear L E W
  go_wp2_with fail
  have O:=v3_0 (a:=.int .i64 4) (b:=.int .i64 r) (c:=.string ⟨#[]⟩) I H K;have U:=v3_1 (a:=.int .i64 4) (b:=.int .i64 r) (c:=.string ⟨#[]⟩) I H K;have N:=v3_2 (a:=.int .i64 4) (b:=.int .i64 r) (c:=.string ⟨#[]⟩) I H K;exact qw (v:=.agg #[.int .i64 4,.int .i64 r,.string ⟨#[]⟩]) (by simp [results,results96,go_sem,O,U,N]) rfl ⟨⟨4,r,⟨#[]⟩⟩,rfl,valid_int,Zgf R ac,Zey M nR⟩
 have:(a == 4)=false:=qf.2 Z;have an:=hI (show ZcL a=5 by unfold ZcL;rw [qo aa,qo Z]);go_enter func96,ntmps96
 go_wp2_with fail
 refine(text_any ab).mono ?_;rintro e z ⟨t,rfl,af,L,E,W⟩;have ao:=hI af;have R:=hI L;have M:=hI E
 obtain⟨I,H,K⟩:yr z w 0 (.int .i64 0)/\yr z w 1 (.int .i64 0)/\z.cell? ⟨w,2,none⟩=some (.string ⟨#[]⟩):=by
  have F:=E.block w yb yj;have h:=F.trans (qb w zObj);exact⟨Qo _ _ _ _ _ _ h,Qo _ _ _ _ _ _ h,Qo _ _ _ _ _ _ h⟩
 obtain⟨ah,f1,ak⟩:z.frozen? ⟨w,0,none⟩=false/\z.frozen? ⟨w,1,none⟩=false/\z.frozen? ⟨w,2,none⟩=false:=by
  have F:=E.block w yb yj;have h:=F.trans (qb w zObj);simp [World.frozen?,h]
 have aj:w.heap.size<z:=(yl E.size);clear L E W af
 go_wp2_with fail
 have O:=v3_0 (a:=.int .i64 5) (b:=.int .i64 0) (c:=.string t) I H K;have U:=v3_1 (a:=.int .i64 5) (b:=.int .i64 0) (c:=.string t) I H K;have N:=v3_2 (a:=.int .i64 5) (b:=.int .i64 0) (c:=.string t) I H K;exact qw (v:=.agg #[.int .i64 5,.int .i64 0,.string t]) (by simp [results,results96,go_sem,O,U,N]) rfl ⟨⟨5,0,t⟩,rfl,by rw [an];exact valid_text ao,Zgf R ac,Zey M nR⟩
theorem indexInt_any (K:IntS w S A l) (R:∀ b,S b->b<w) (ac:l.length<=1000) :
 Calls prog 67 #[.slice A l n,.int .i64 a] w (fun e w'=>(∃ r:Int,e=.returned (.int .i64 r)/\-1<=r/\r<1000/\decide (0<=r)=decide (a ∈ l))/\Below w w w'):=by
 replace K:=hI K;go_enter func67,ntmps67
 go_wp2
 go_loopw [8] (fun i wr=>∃ k:Nat,k<=l/\i=.int .i64 k/\Hid (∀ j,j<k->l.getD j 0≠a)/\Below w w wr) (fun i _=>l.length - (intOf i).toNat)
 case atStart=>exact⟨0,qk _,rfl,hI (fun j h=>absurd h ya),qa _ _⟩
 obtain⟨k,aa,rfl,M,L⟩:=hrel;have H:=hI L;have ae:=L.size;clear L
 by_cases F:k<l
 .have:decide (k<l)=true:=(by simp [F]);have:(0:Int)<=(k:Int):=ya;have:(k:Int)<(l:Int):=ya;obtain⟨b,o,rfl,ab,W⟩:=IntS.at_ (show IntS wr S A l from qU K (qS H R)) F;have U:=hI (show ∀ j,j<k+1->j=k\/j<k from fun j E=>ya);obtain⟨x,I⟩:=yp (l.getD k 0);have Z:=hI I;have O:=hI (show x ∈ l by rw [<-I,show l.getD k 0=l[k] by simp [List.getD,F]];exact qJ F);rw [I] at W;clear I
  by_cases z:a=x
  .subst z
   go_wp2
   go_ret;exact⟨⟨k,rfl,ya,ya,by rw [qt O.out,qt ya]⟩,H⟩
  have:(a == x)=false:=(by simp [z]);replace z:=hI z
  go_wp2
  go_roundw
  case rel=>exact⟨k+1,ya,by go_num,hI (fun j E=>by
   rcases U.out j E with rfl | h
   .rw [Z];exact fun e=>z e.symm
   exact M j h),H⟩
  (simp [intOf];omega)
 have N:=hI (show ¬ a ∈ l from fun h=>by
  obtain⟨j,E,e⟩:=List.getElem_of_mem h;exact M j ya (by rw [show l.getD j 0=l[j] by simp [List.getD,E]];exact e))
 go_wp2
 go_ret;exact⟨⟨-1,rfl,ya,ya,by rw [qe N.out];rfl⟩,H⟩
theorem ZcW (c:Nat) (E:IntS w S A l) (H:∀ b,S b->b<w) (I:l.length<=1000) :
 Calls prog 26 #[.slice A l c,.int .i64 a] w (ZH (decide (a ∈ l)) w):=by
 replace E:=hI E;go_enter func26,ntmps26
 go_wp2_with fail
 refine(indexInt_any E H I).mono ?_;rintro e L ⟨⟨r,rfl,M,K,z⟩,F⟩;replace z:=hI z;replace F:=hI F
 go_wp2
 exact qw (v:=.bool (decide (0<=r))) (by simp [results,results26,go_sem]) rfl ⟨by rw [z],F⟩
end Go.Proofs.YtjadnfodboepeaaGreat
