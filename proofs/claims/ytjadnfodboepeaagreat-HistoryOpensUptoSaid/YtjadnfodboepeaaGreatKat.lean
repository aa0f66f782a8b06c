import Derived.Test.YtjadnfodboepeaaGreatKv5
set_option linter.all false
set_option maxRecDepth 100000
set_option maxHeartbeats 8000000
namespace Go.Proofs.YtjadnfodboepeaaGreat
open Tryz
open Go.RowKit
variable {w:World} {n k m i:Nat} {A B A':Option Addr} {S S':Nat->Prop} {a t:Int} {l:List Int} {x xA:Value} {g:TypeId} {s:Sch} {C:Chg} {J:List (List Int)}
def Typ (w:World) (b:Nat) (t:TypeId):Prop:=∃ cs,w.heap[b]?=some (.cells cs t (0,0))
theorem Typ.ne {w:World} {b b':Nat} {t E:TypeId} (h:Typ w b t) (z:Typ w b' E) (F:t≠E):b≠b':=fun e=>by
 subst e;obtain⟨cs,h⟩:=h;obtain⟨H,z⟩:=z;rw [h] at z;injection z with z;injection z with _ z;exact F z
theorem Typ.own {w:World} {base size n:Nat} {e:TypeId} {v:Value} {xs:List Value} (h:w.ownsRow base e size v n xs) {g:Nat} (E:v.ownBlock=some g):Typ w g e:=by
 obtain⟨_,z,F⟩:=Zae h E;exact⟨z,F⟩
theorem Typ.not_own {w:World} {base size n b:Nat} {e t:TypeId} {v:Value} {xs:List Value} (F:Typ w b t) (h:w.ownsRow base e size v n xs) (E:t≠e):some b≠v.ownBlock:=fun z=>(F.ne (Typ.own h z.symm) E) rfl
theorem DskM.typ {w:World} {d room:Nat} {V:Nat->Value} {F:Nat->Int} {E:List (List Int)} (h:DskM w d room V F E) {b:Nat} (H:DskX d V b):Typ w b 124\/Typ w b 5:=by
 rcases H with rfl | ⟨i,z,e⟩
 .exact .inl ⟨_,h.blk⟩
 exact .inr (Typ.own (h.own i z) e)
theorem DskM.notX {w:World} {d room:Nat} {V:Nat->Value} {H:Nat->Int} {K:List (List Int)} (h:DskM w d room V H K) {b:Nat} {t:TypeId} (E:Typ w b t) (I:t≠124) (F:t≠5):¬ DskX d V b:=fun L=>by
 rcases h.typ L with z | z
 .exact E.ne z I rfl
 exact E.ne z F rfl
def ZcV (b:List Int):Dat:=.slice (b.map encB)
def jrnL (d i:Nat) (V1 V2:Value):List Value:=[.pointer (some ⟨d,0,none⟩),.int .i64 (i:Int),V1,V2,.bool false]
structure JrnM (w:World) (j d i:Nat) (V1 V2:Value) (S:Nat->Prop) (recs:List (List Int)) (ne:Nat):Prop where
 blk:w.heap[j]?=some (.cells (jrnL d i V1 V2).toArray 192 (0,0))
 own1:OwnD w 0 22 1 S V1 (recs.map ZcV)
 own2:∃ es:List Int,es.length=ne/\w.ownsRow 0 3 1 V2 ne (es.map (Value.int .i64))
 s2:∀ b,S b->some b≠V2.ownBlock
 sj:¬ S j
def JrnX (j:Nat) (V1 V2:Value):Nat->Prop:=fun b=>b=j\/V1.ownBlock=some b\/V2.ownBlock=some b
section
variable {w w' w7:World} {j d i ne:Nat} {V1 V2:Value} {S:Nat->Prop} {recs:List (List Int)}
theorem JrnM.typ (h:JrnM w j d i V1 V2 S recs ne):Typ w j 192:=⟨_,h.blk⟩
theorem JrnM.lt (h:JrnM w j d i V1 V2 S recs ne):j<w:=Zb h.blk
theorem JrnM.n1 (h:JrnM w j d i V1 V2 S recs ne):some j≠V1.ownBlock:=by
 obtain⟨vals,z,_⟩:=h.own1;exact h.typ.not_own z yf
theorem JrnM.n2 (h:JrnM w j d i V1 V2 S recs ne):some j≠V2.ownBlock:=by
 obtain⟨es,_,z⟩:=h.own2;exact h.typ.not_own z yf
theorem JrnM.n12 (h:JrnM w j d i V1 V2 S recs ne) {g:Nat} (E:V1.ownBlock=some g):some g≠V2.ownBlock:=by
 obtain⟨vals,z,_⟩:=h.own1;obtain⟨es,_,F⟩:=h.own2;exact(Typ.own z E).not_own F yf
theorem JrnM.xlt (h:JrnM w j d i V1 V2 S recs ne):∀ b,JrnX j V1 V2 b->b<w:=fun b F=>by
 obtain⟨vals,z,_⟩:=h.own1;obtain⟨es,_,E⟩:=h.own2;rcases F with rfl | e | e
 .exact h.lt
 .exact ZN z e
 exact ZN E e
theorem JrnM.xs (h:JrnM w j d i V1 V2 S recs ne):∀ b,S b->¬ JrnX j V1 V2 b:=fun b z E=>by
 obtain⟨vals,H,_,F⟩:=h.own1;rcases E with rfl | e | e
 .exact h.sj z
 .exact(F b z).2 e.symm
 exact h.s2 b z e.symm
theorem JrnM.slt (h:JrnM w j d i V1 V2 S recs ne):∀ b,S b->b<w:=fun b E=>by
 obtain⟨vals,F,_,z⟩:=h.own1;exact(z b E).1
theorem JrnM.keep (h:JrnM w j d i V1 V2 S recs ne) (K:w.heap.size<=w') (z:∀ b,JrnX j V1 V2 b\/S b->w'.heap[b]?=w.heap[b]?):JrnM w' j d i V1 V2 S recs ne:=by
 obtain⟨es,F,H⟩:=h.own2;exact⟨(z j (.inl (.inl rfl))).trans h.blk,h.own1.keep K (fun b I=>z b (.inr I)) (fun g E=>z g (.inl (.inr (.inl E)))),⟨es,F,Zo H (fun g E=>z g (.inl (.inr (.inr E))))⟩,h.s2,h.sj⟩
theorem JrnM.below (h:JrnM w j d i V1 V2 S recs ne) (E:Below w w w'):JrnM w' j d i V1 V2 S recs ne:=h.keep E.size (fun b z=>E.block b (by
 rcases z with z | z
 .exact h.xlt b z
 exact h.slt b z))
theorem JrnM.cell0 (h:JrnM w j d i V1 V2 S recs ne):yr w j 0 (.pointer (some ⟨d,0,none⟩)):=Za h.blk 0 _ rfl
theorem JrnM.cell1 (h:JrnM w j d i V1 V2 S recs ne):yr w j 1 (.int .i64 (i:Int)):=Za h.blk 1 _ rfl
theorem JrnM.cell2 (h:JrnM w j d i V1 V2 S recs ne):yr w j 2 V1:=Za h.blk 2 _ rfl
theorem JrnM.cell3 (h:JrnM w j d i V1 V2 S recs ne):yr w j 3 V2:=Za h.blk 3 _ rfl
theorem JrnM.cell4 (h:JrnM w j d i V1 V2 S recs ne):yr w j 4 (.bool false):=Za h.blk 4 _ rfl
theorem JrnM.putE {V:Value} {es:List Int} (h:JrnM w j d i V1 V2 S recs ne) (F:w.grownBy w7 V2.ownBlock) (M:es.length=ne+1) (L:w7.ownsRow 0 3 1 V (ne+1) (es.map (Value.int .i64))) (I:∀ g,V.ownBlock=some g->V2.ownBlock=some g\/w.heap.size<=g) :
 JrnM (w7.setCell ⟨j,3,none⟩ V) j d i V1 V S recs (ne+1)/\Fr (JrnX j V1 V2) w (w7.setCell ⟨j,3,none⟩ V)/\∀ b,JrnX j V1 V b->JrnX j V1 V2 b\/w.heap.size<=b:=by
 have H:∀ b,b≠j->(w7.setCell ⟨j,3,none⟩ V).heap[b]?=w7.heap[b]?:=fun b z=>qc _ _ _ _ z;refine⟨⟨Zc (vs:=jrnL d i V1 V2) (k:=3) ((F.block j h.lt h.n2).trans h.blk),h.own1.keep (by simpa using F.size) (fun b z=>(H b (fun e=>h.sj (e ▸ z))).trans (F.block b (h.slt b z) (h.s2 b z))) (fun g e=>(H g (fun K=>h.n1 (by rw [e,K]))).trans (F.block g (h.xlt g (.inr (.inl e))) (h.n12 e))),⟨es,M,Zo L (fun g e=>H g (fun K=>?_))⟩,fun b z e=>?_,h.sj⟩,?_,fun b z=>?_⟩
 .subst K;rcases I g e with E | E
  .exact h.n2 E.symm
  have:=h.lt;omega
 .rcases I b e.symm with E | E
  .exact h.s2 b z E.symm
  have:=h.slt b z;omega
 .exact(Qc (X:=JrnX j V1 V2) F (fun b _ e=>.inr (.inr e.symm))).setCell _ (fun _=>.inl rfl)
 rcases z with rfl | e | e
 .exact .inl (.inl rfl)
 .exact .inl (.inr (.inl e))
 exact(I b e).imp (fun e=>.inr (.inr e)) id
end
theorem ZhV:
 Calls prog 174 #[.pointer (some ⟨n,0,none⟩),.int .i64 0] w fun e w'=>e=.returned (.int .i64 0)/\w'=w:=by
 go_enter func174,ntmps174
 go_wp2
 go_ret;exact⟨rfl,rfl⟩
theorem jsize_any {ne:Nat} (h:JrnM w n k m x xA S J ne) (Z:ne<=1000000) :
 Calls prog 229 #[.pointer (some ⟨n,0,none⟩)] w fun e w'=>∃ (V1:Int) (i:Nat),e=.returned (.int .i64 V1)/\w'=w.drewN i:=by
 have aa:=h.cell3;obtain⟨es,K,E⟩:=h.own2
 obtain⟨H,c2,R,I⟩:∃ H c2,xA=.slice H ne c2/\w.ownsRow 0 3 1 (.slice H ne c2) ne (es.map (Value.int .i64)):=by
  rcases E.2 with ⟨F,z⟩ | ⟨g,cap,W,F,_⟩
  .exact⟨none,0,by rw [F,z],by rw [z,<-F];rw [z] at E;exact E⟩
  exact⟨_,cap,F,by rw [<-F];exact E⟩
 subst R;rcases qF ne with z | z
 .subst z;clear h E I K;go_enter func229,ntmps229
  go_wp2
  go_ret;exact⟨0,0,rfl,rfl⟩
 obtain⟨g,U,_,_,M⟩:=Zad I z;have N:=M (ne - 1) (.int .i64 (es.getD (ne - 1) 0)) (by rw [List.getElem?_map];simp [List.getD,show ne - 1<es.length by omega]);obtain⟨d,L⟩:=yp (es.getD (ne - 1) 0);rw [L] at N;subst U;obtain⟨V2,rfl⟩:∃ V2,ne=V2+1:=⟨ne - 1,ya⟩;rw [show V2+1 - 1=V2 by omega] at N;have:(0:Int)<=(V2:Int):=ya;have:(V2:Int)<((V2:Int)+1):=ya;clear h E I K M L z;go_enter func229,ntmps229
 go_wp2
 go_quiet (fail)
 go_wp2
 go_ret;exact⟨d,_,rfl,rfl⟩
theorem ZeH:∀ {l:List Dat} {vs:List Value},(∀ d ∈ l,∃ n,d=encB n)->Dat.Va w S l vs->Dat.Va w S' l vs
 | [],vs,_,h=>by unfold Dat.Va at h ⊢;exact h
 | d :: r,vs,hd,h=>by
  unfold Dat.Va at h ⊢;obtain⟨a,b,e,z,E⟩:=h;refine⟨a,b,e,?_,ZeH (fun x F=>hd x (by simp [F])) E⟩;obtain⟨n,rfl⟩:=hd d yb;unfold encB Dat.Vs at z ⊢;exact z
theorem BY.bts {w:World} {base c:Nat} {A:Option Addr} {bs:List Int} (h:BY w base A c bs) (L:bs.length<=1000000000000):BtS w (fun b=>base<=b/\b<w) A bs:=by
 refine⟨by rw [Ze (n:=8) (fun _=>rfl)];omega,fun H=>?_⟩;obtain⟨g,e,I,F,K⟩:=Zad h (by simpa using H);refine⟨g,0,e,⟨I,F⟩,ZaZ (n:=1) (fun d hd=>by obtain⟨v,_,rfl⟩:=qO.1 hd;rfl) (fun k E=>?_)⟩;rw [List.getElem_map];have z:k<bs:=(by simpa using E);have:=K k (bv bs[k]) (by simp [List.getElem?_map,z]);unfold encB Dat.Held;exact⟨by simpa using this,trivial⟩
theorem BY.bts1 {w:World} {base c g:Nat} {bs:List Int} (h:BY w base (some ⟨g,0,none⟩) c bs) (z:bs.length<=1000000000000):BtS w (fun b=>b=g) (some ⟨g,0,none⟩) bs:=by
 refine⟨(h.bts z).1,fun H=>?_⟩;obtain⟨b,o,e,_,I⟩:=(h.bts z).2 H;have K:b=g:=(by injection e with e;injection e with e;exact e.symm);refine⟨b,o,e,K,?_⟩;obtain⟨vs,F,E⟩:=heldAll_cells _ b o I;refine heldAll_of_cells _ vs b o (ZeH (fun d hd=>by obtain⟨v,_,rfl⟩:=qO.1 hd;exact⟨v,rfl⟩) F) E
theorem Zhd {ne room:Nat} {V:Nat->Value} {F:Nat->Int} {K:List (List Int)} (h:JrnM w n k m x xA S J ne) (z:DskM w k room V F K) (L:JrnX n x xA i):¬ DskX k V i:=by
 obtain⟨vals,H,_⟩:=h.own1;obtain⟨es,_,E⟩:=h.own2;rcases L with rfl | e | e
 .exact z.notX h.typ yf yf
 .exact z.notX (Typ.own H e) yf yf
 exact z.notX (Typ.own E e) yf yf
theorem ZcJ {size:Nat} {xs:List Value} (h:w.ownsRow n g size x k xs):∃ A c,x=.slice A k c:=by
 rcases h.2 with ⟨z,E⟩ | ⟨e,cap,F,z,_⟩
 .exact⟨none,0,by rw [z,E]⟩
 exact⟨_,cap,z⟩
def ZbT (r:List Int):List Int:=lebF r.length++r
theorem ZeA (z:l.length<=n) (h:BtS w S A l):Dat.Vs w S (ZcV l) [.slice A l n]:=by
 unfold ZcV Dat.Vs;exact⟨A,n,yb,by simpa using z,h⟩
theorem Zkp:(prog.info? 22).map (fun i=>(i.zero,i.size,i.bytes))=some (some (.slice none 0 0),1,24):=by kernel_rfl
theorem JrnM.putR {w F:World} {j d i ne:Nat} {V1 V2:Value} {S:Nat->Prop} {L:List (List Int)} {A:Option Addr} {n c rb cb:Nat} {vals:List Value} {rec:List Int} (h:JrnM w j d i V1 V2 S L ne) (an:V1=.slice A n c) (am:Dat.Va w S (L.map ZcV) vals) {E I:Nat} (aj:n=L.length) (K:w.grownBy F V1.ownBlock) (R:V1.ownBlock=some E\/w.heap.size<=E)
 (ac:F.ownsRow 0 22 1 (.slice (some ⟨E,0,none⟩) (n+1) I) (n+1) (vals++[.slice (some ⟨rb,0,none⟩) rec.length cb])) (ae:BtS w (fun b=>b=rb) (some ⟨rb,0,none⟩) rec) (aa:rec.length<=cb) (af:rb<w) (O:∀ q,JrnX j V1 V2 q->q≠rb) :
 JrnM (F.setCell ⟨j,2,none⟩ (.slice (some ⟨E,0,none⟩) (n+1) I)) j d i (.slice (some ⟨E,0,none⟩) (n+1) I) V2 (fun b=>S b\/b=rb) (L++[rec]) ne/\Fr (JrnX j V1 V2) w (F.setCell ⟨j,2,none⟩ (.slice (some ⟨E,0,none⟩) (n+1) I))/\∀ b,JrnX j (.slice (some ⟨E,0,none⟩) (n+1) I) V2 b->JrnX j V1 V2 b\/w.heap.size<=b:=by
 subst aj;have N:∀ b,b≠j->(F.setCell ⟨j,2,none⟩ (.slice (some ⟨E,0,none⟩) (L.length+1) I)).heap[b]?=F.heap[b]?:=fun b z=>qc _ _ _ _ z
 have ai:E≠j:=fun e=>by
  rcases R with M | M
  .exact h.n1 (by rw [M,e])
  have:=h.lt;omega
 have W:∀ b,S b->some b≠V1.ownBlock:=fun b z e=>h.xs b z (.inr (.inl e.symm));have Z:some rb≠V1.ownBlock:=fun e=>O rb (.inr (.inl e.symm)) rfl
 have U:∀ b,(S b\/b=rb)->(F.setCell ⟨j,2,none⟩ (.slice (some ⟨E,0,none⟩) (L.length+1) I)).heap[b]?=w.heap[b]?:=fun b z=>by
  rcases z with z | z
  .exact(N b (fun e=>h.sj (e ▸ z))).trans (K.block b (h.slt b z) (W b z))
  subst z;exact(N b (fun e=>O j (.inl rfl) e.symm)).trans (K.block b af Z)
 obtain⟨es,ak,ab⟩:=h.own2;refine⟨⟨Zc (vs:=jrnL d i V1 V2) (k:=2) ((K.block j h.lt h.n1).trans h.blk),⟨vals++[.slice (some ⟨rb,0,none⟩) rec.length cb],?_,?_,fun b z=>?_⟩,⟨es,ak,Zo ab (fun g e=>(N g (fun H=>h.n2 (by rw [e,H]))).trans (K.block g (h.xlt g (.inr (.inr e))) (fun H=>h.n12 H.symm e.symm)))⟩,fun b z e=>?_,fun z=>?_⟩,?_,fun b z=>?_⟩
 .rw [qg,qi,List.length_singleton];exact Zo ac (fun g e=>N g (fun ah=>ai ((show E=g by simpa [Value.ownBlock] using e).trans ah)))
 .rw [qm];exact Zu (Dat.Va.more (fun b z=>.inl z) _ _ (Dat.Va.keep (fun b z=>U b (.inl z)) _ _ am)) (Zw (Dat.Vs.more (fun b z=>.inr z) _ _ (Dat.Vs.keep (fun b z=>U b (.inr z)) _ _ (ZeA aa ae))))
 .refine⟨?_,fun e=>?_⟩
  .have:w.heap.size<=F:=K.size;rcases z with z | z
   .have:=h.slt b z;simp;omega
   simp;omega
  have H:b=E:=(by simpa [Value.ownBlock] using e);subst H;rcases R with M | M
  .rcases z with z | z
   .exact W b z M.symm
   exact Z (by rw [<-z,M])
  rcases z with z | z
  .have:=h.slt b z;omega
  omega
 .rcases z with z | z
  .exact h.s2 b z e
  exact O b (.inr (.inr e.symm)) z
 .rcases z with z | z
  .exact h.sj z
  exact O j (.inl rfl) z
 .exact(Qc (X:=JrnX j V1 V2) K (fun b _ e=>.inr (.inl e.symm))).setCell _ (fun _=>.inl rfl)
 rcases z with rfl | e | e
 .exact .inl (.inl rfl)
 .have H:E=b:=(by simpa [Value.ownBlock] using e);subst H;exact R.imp (fun e=>.inr (.inl e)) id
 exact .inl (.inr (.inr e))
def JapP (j d i ne room:Nat) (V1 V2:Value) (S:Nat->Prop) (I:List (List Int)) (V:Nat->Value) (K:List (List Int)) (rec:List Int) (w w':World):Prop :=
 ∃ F E S' z H,JrnM w' j d i F E S' (I++[rec]) (ne+1)/\DskM w' d room z H K/\Fr (fun b=>JrnX j V1 V2 b\/DskX d V b) w w'/\(∀ b,JrnX j F E b->JrnX j V1 V2 b\/w.heap.size<=b)/\(∀ b,DskX d z b->DskX d V b\/w.heap.size<=b)/\(∀ b,S b->S' b)/\(∀ b,S' b->S b\/(w<=b/\¬ DskX d z b))
theorem jappend_any {ne room:Nat} {V:Nat->Value} {bw:Nat->Int} {M:List (List Int)} (bt:Nat) (aG:JrnM w n k m x xA S J ne) (bo:DskM w k room V bw M) (bJ:BtS w S' A l) (aq:∀ b,S' b->b<w/\¬ DskX k V b/\¬ JrnX n x xA b) (bu:∀ b,S b->¬ DskX k V b) (bq:Zbn l) (dc:l.length<=1000000) (b7:0<l.length) (cJ:m<8) (de:Zby M+l.length+10<=room) (cr:room<=16777216) (c7:ne<=1000) (c6:J.length<=1000) :
 Calls prog 191 #[.pointer (some ⟨n,0,none⟩),.slice A l bt] w fun e w'=>e=.returned (.int .i64 0)/\JapP n k m ne room x xA S J V (M.set m (M.getD m []++ZbT l)) l w w':=by
 obtain⟨cx,cP,cp,cV,cG⟩:=qA ZcN;obtain⟨cK,ci,cN,ce,cq⟩:=qA info3;obtain⟨ax,cu,cj,cY,cd⟩:=qA Zkp
 obtain⟨O,R,rfl⟩:∃ am c,x=.slice am J c:=by
  obtain⟨vals,bl,_⟩:=aG.own1;rw [qg] at bl;exact ZcJ bl
 obtain⟨ab,ac,rfl⟩:∃ am c,xA=.slice am ne c:=by
  obtain⟨es,_,bl⟩:=aG.own2;exact ZcJ bl
 have cR:=hI aG;replace bo:=hI bo;have cZ:=hI bJ;replace aq:=hI aq;replace bu:=hI bu;have cO:=aG.cell4;have cz:=Zhl (n:=bt) bJ bq;have:decide ((1048576:Int)<(l:Int))=false:=qe ya;have aL:=Zgl (baOf l) w (by rw [Zcq];omega);rw [Zcq,Zdh bq] at aL;have bU:=hI aL;obtain⟨ai,aW⟩:=yp (ZbT l);have cI:0<ai.length/\ai.length<=l+10:=(by rw [<-aW];unfold ZbT;rw [qi];have:=Zz (n:=l) ya;omega);have cL:=hI aW;rw [aW];clear aG bJ bq aL aW;go_enter func191,ntmps191
 go_wp2_with fail
 refine bU.mono ?_;rintro e b6 ⟨bN,c1,rfl,aD,aC⟩;rw [show lebF l.length++l=ai from cL.out] at aD ⊢;replace aD:=hI aD;have bY:=hI aC;have b8:=hI (cR.below aC);have bZ:=hI (bo.below aC);have bX:=hI (show BtS b6 S' A l from qU cZ (qS aC (fun b z=>(aq b z).1)));have cM:=aC.size;clear aC cz cO bU
 go_wp2_with fail
 obtain⟨Z,an⟩:=yp b6.drew;have aw:=hI (show JrnM Z n k m (.slice O J R) (.slice ab ne ac) S J ne by rw [<-an];exact b8.keep nR (fun _ _=>rfl));have b9:=hI (show DskM Z k room V bw M by rw [<-an];exact bZ.keep (fun _ _=>rfl));have cw:=hI (show BtS Z S' A l by rw [<-an];exact qU bX (fun _ _=>rfl));have ct:=hI (show BY Z w bN c1 ai by rw [<-an];exact aD);have cA:=hI (show Below w w Z by rw [<-an];exact bY.drew);have:w.heap.size<=Z:=(by rw [<-an];exact cM);have c0:=aw.cell0;have cS:=aw.cell1;refine uS (fun w'=>w'.cell? ⟨n,0,none⟩=some (.pointer (some ⟨k,0,none⟩))/\w'.cell? ⟨n,1,none⟩=some (.int .i64 (m:Int))) 13 13 fun Q' aj ae=>?_;rw [an];clear an b8 bZ bX aD bY;refine uR [0,10] ae ⟨c0,cS⟩ ?_;refine uQ 10 fun F E=>?_;go_simp;refine(dappend_any cJ b9 (BY.bts ct ya) (fun q bF=>bF.2) cI.1 ya cr).mono ?_;rintro e w2 ⟨rfl,bi,bm,bP,aN,bT⟩;have bK:=hI bP;have bI:=hI aN;have cT:=hI bT
 have bb := hI (aw.keep aN.size (fun b z => aN.block b (by
  rcases z with z | z
  .exact aw.xlt b z
  .exact aw.slt b z) (fun ak=>by
  rcases z with z | z
  .exact(Zhd aw b9 z) ak
  exact bu b z ak)))
 have bW:=hI (show BtS w2 S' A l from aN.bts cw (fun b z=>⟨yl ((aq b z).1),(aq b z).2.1⟩));have aS:=bb.cell0;have ba:=bb.cell1;clear bP aN bT;refine E _ _ (fun _=>⟨aS,ba⟩) ?_;clear E F
 try simp only [Act.put,psA,psB,psC]
 refine uQ 11 fun F E=>?_;go_simp;refine(ZhV).mono ?_;rintro e w2 ⟨rfl,rfl⟩;refine E _ _ (fun _=>⟨aS,ba⟩) ?_;clear E F
 try simp only [Act.put,psA,psB,psC]
 refine uR [12,1] ae ⟨aS,ba⟩ ?_;refine uE aj ?_;clear aj ae Q';have:w.heap.size<=w2:=(yl bI.size);have cv:∀ b,S' b->b<w:=fun b z=>(aq b z).1
 go_wp2_with fail
 obtain⟨W,ap⟩:=yp w2.drew;have bh:=hI (show JrnM W n k m (.slice O J R) (.slice ab ne ac) S J ne by rw [<-ap];exact bb.keep nR (fun _ _=>rfl));have cn:=hI (show DskM W k room bi bm (M.set m (M.getD m []++ai)) by rw [<-ap];exact bK.keep (fun _ _=>rfl));have c5:=hI (show BtS W S' A l by rw [<-ap];exact qU bW (fun _ _=>rfl));have:W.heap.size<=w2/\w2.heap.size<=W:=(by rw [<-ap];exact⟨qp _,qp _⟩);have cC:=hI (show Fr (DskX k V) Z W by rw [<-ap];exact bI.drew);have ca:=bh.cell3;have f3:W.frozen? ⟨n,3,none⟩=false:=Zd bh.blk;refine uS (fun w'=>w'.cell? ⟨n,3,none⟩=some (.slice ab ne ac)/\w'.frozen? ⟨n,3,none⟩=false) 14 15 fun Q' aj ae=>?_;rw [ap];clear ap bb bK bW bI aS ba;refine uR [0,6,7,2] ae ⟨ca,f3⟩ ?_;refine uQ 6 fun F E=>?_;go_simp;refine(jsize_any bh ya).mono ?_;rintro e I ⟨cD,aK,rfl,ay⟩;obtain⟨au,cy⟩:=yp (IntKind.i64.wrap (cD+(ai:Int)));have N:=hI (show JrnM I n k m (.slice O J R) (.slice ab ne ac) S J ne by rw [ay];exact bh.keep nR (fun _ _=>rfl));have aY:=hI (show DskM I k room bi bm (M.set m (M.getD m []++ai)) by rw [ay];exact cn.keep (fun _ _=>rfl));have b2:=hI (show BtS I S' A l by rw [ay];exact qU c5 (fun _ _=>rfl));have:I.heap.size<=W/\W.heap.size<=I:=(by rw [ay];exact⟨qp _,qp _⟩);have c4:=hI (show Fr (DskX k V) Z I by rw [ay];exact cC.drewN aK);have aO:yr I n 3 (.slice ab ne ac):=N.cell3;have aU:I.frozen? ⟨n,3,none⟩=false:=Zd N.blk;clear ay;refine E _ _ (fun _=>⟨aO,aU⟩) ?_;clear E F
 try simp only [Act.put,psA,psB,psC]
 refine uV 9 (.int .i64 au) ae ?_ ⟨aO,aU⟩ ?_
 .intro w' c9;go_simp
  (try with_reducible rfl)
 simp only [psA,psB,psC];refine uQ 10 fun F U=>?_;have E:=hI U;clear U cy;go_simp;have aF:(I.alloc (.cells #[.int .i64 au] 3)).cell? ⟨n,3,none⟩=_:=(Zh N.lt).trans aO;have bO:(I.alloc (.cells #[.int .i64 au] 3)).frozen? ⟨n,3,none⟩=_:=(ZK N.lt).trans aU;refine E _ _ (fun _=>⟨aF,bO⟩) ?_;clear E F
 try simp only [Act.put,psA,psB,psC]
 refine uQ 11 fun F U=>?_;obtain⟨es,bk,bg⟩:=N.own2;replace bg:=hI bg;refine step_append_lies _ yg (.tmp 36) (.tmp 42) 65 yg 0 3 cK _ 1 8 underlying65 ci cN ce cq rfl yf (.slice ab ne ac) ne (es.map (Value.int .i64)) yg (Zo bg (fun g aH=>qd _ _ _ (ZN bg aH))) ⟨I,0,none⟩ 1 1 [.int .i64 au] yg yg (World.news_of_block (cs:=#[.int .i64 au]) (t:=3) (fr:=(0,0)) (qb I _)) (by simp [Value.oneCell']) ya yh ya (qk _) (I+1) yb ?_;intro aR bG bp be bS bn da;replace be:=hI be;have aQ:=hI ((qY I _ _).trans bS);replace bn:=hI bn;replace bk:=hI bk;have af:yr bp n 3 (.slice ab ne ac):=(ql (aQ.block n N.lt N.n2)).trans aO;have aT:bp.frozen? ⟨n,3,none⟩=false:=Zd ((aQ.block n N.lt N.n2).trans N.blk);clear bS;refine U _ _ (fun _=>⟨af,aT⟩) ?_;clear U F
 try simp only [Act.put,psA,psB,psC]
 refine uQ 12 fun F E=>?_;go_simp;refine E _ _ (fun _=>⟨af,aT⟩) ?_;clear E F
 try simp only [Act.put,psA,psB,psC]
 refine uQ 13 fun F E=>?_;go_simp;refine E _ _ (fun _=>⟨af,aT⟩) ?_;clear E F
 try simp only [Act.put,psA,psB,psC]
 refine uQ 14 fun F E=>?_;go_simp;refine E _ _ nD ?_;clear E F;refine uE aj ?_;clear aj ae Q'
 obtain⟨aM,av,bB⟩:=N.putE (V:=.slice (some ⟨aR,0,none⟩) (ne+1) bG) (es:=es++[au]) aQ (by rw [qi,bk];rfl) (by rw [qm];exact be) (fun g aH=>by
  have cE:aR=g:=(by simpa [Value.ownBlock] using aH);subst cE;exact bn.imp id (fun e=>by rw [e];simp))
 obtain⟨bz,b0⟩:=yp (bp.setCell ⟨n,3,none⟩ (.slice (some ⟨aR,0,none⟩) (ne+1) bG));rw [b0] at aM av ⊢;replace aM:=hI aM;have b1:=hI av;replace bB:=hI bB;have bM:=hI (aY.keep (fun b z=>av.block b (aY.xlt b z) (fun ak=>Zhd N aY ak z)));have cc:=hI (av.bts b2 (fun b z=>⟨yl (cv b z),(aq b z).2.2⟩));have c8:=av.size;clear av b0 aQ be bn bk aY b2 aO aU aF bO af aT ca f3
 go_wp2_with fail
 obtain⟨K,ar⟩:=yp bz.drew;have aZ:=hI (show JrnM K n k m (.slice O J R) (.slice (some ⟨aR,0,none⟩) (ne+1) bG) S J (ne+1) by rw [<-ar];exact aM.keep nR (fun _ _=>rfl));have bR:=hI (show DskM K k room bi bm (M.set m (M.getD m []++ai)) by rw [<-ar];exact bM.keep (fun _ _=>rfl));have cQ:=hI (show BtS K S' A l by rw [<-ar];exact qU cc (fun _ _=>rfl));have:K.heap.size<=bz/\bz.heap.size<=K:=(by rw [<-ar];exact⟨qp _,qp _⟩);have cX:=hI (show Fr (JrnX n (.slice O J R) (.slice ab ne ac)) I K by rw [<-ar];exact b1.drew);have b3:=aZ.cell2;have bQ:K.frozen? ⟨n,2,none⟩=false:=Zd aZ.blk;obtain⟨cW,cH,cU,df,bD⟩:=cQ.vals b7;subst cU;replace bD:=hI bD;refine uS (fun w'=>w'.cell? ⟨n,2,none⟩=some (.slice O J R)/\w'.frozen? ⟨n,2,none⟩=false) 11 12 fun Q' aj ae=>?_;rw [ar];clear ar aM bM cc b1;refine uR [0,6] ae ⟨b3,bQ⟩ ?_;refine uQ 6 fun F U=>?_;refine step_append_lies _ yg (.const (.slice none 0 0)) (.tmp 51) 22 yg K 5 cx _ 1 1 underlying22 cP cp cV cG rfl yf (.slice none 0 0) 0 [] yg (qV _ _ _ _) ⟨cW,cH,none⟩ l.length bt (l.map bv) yg yb bD.add (Zgh l) b7 yh ya nR K.heap.size rfl ?_;intro ao aE aa az aA aL db;rw [qP,qx] at az;have cg:=hI az;have aI:Below K K aa:=⟨aA.os,aA.tape,aA.output,aA.size,fun b z=>aA.block b z (by simp [Value.ownBlock])⟩;have ck:K<=ao/\ao<aa:=⟨Zs az rfl,ZN az rfl⟩;have L:=hI (aZ.below aI);have bH:=hI (bR.below aI);replace aI:=hI aI;have cf:=Zas az rfl;have aV:yr aa n 2 (.slice O J R):=L.cell2;have aK:aa.frozen? ⟨n,2,none⟩=false:=Zd L.blk;clear az aA aL;refine U _ _ (fun _=>⟨aV,aK⟩) ?_;clear U F;rw [qx]
 try simp only [Act.put,psA,psB,psC]
 refine uQ 7 fun F E=>?_;go_simp;have l2:(aa.alloc (.cells #[.slice (some ⟨ao,0,none⟩) l.length aE] 22)).cell? ⟨n,2,none⟩=_:=(Zh L.lt).trans aV;have aF:(aa.alloc (.cells #[.slice (some ⟨ao,0,none⟩) l.length aE] 22)).frozen? ⟨n,2,none⟩=_:=(ZK L.lt).trans aK;refine E _ _ (fun _=>⟨l2,aF⟩) ?_;clear E F
 try simp only [Act.put,psA,psB,psC]
 refine uQ 8 fun F U=>?_;obtain⟨vals,aJ,br,cF⟩:=L.own1;rw [qg] at aJ;replace aJ:=hI aJ;replace br:=hI br;refine step_append_lies _ yg (.tmp 50) (.tmp 53) 190 yg 0 22 ax _ 1 24 underlying190 cu cj cY cd rfl yf (.slice O J R) J.length vals yg (Zo aJ (fun g aH=>qd _ _ _ (ZN aJ aH))) ⟨aa,0,none⟩ 1 1 [.slice (some ⟨ao,0,none⟩) l.length aE] yg yg (World.news_of_block (cs:=#[.slice (some ⟨ao,0,none⟩) l.length aE]) (t:=22) (fr:=(0,0)) (qb aa _)) (by simp [Value.oneCell']) ya yh ya (qk _) (aa+1) yb ?_;intro c3 co bC bj b5 bc dg;replace bj:=hI bj;have aX:=hI ((qY aa _ _).trans b5);replace bc:=hI bc;have ax:yr bC n 2 (.slice O J R):=(ql (aX.block n L.lt L.n1)).trans aV;have af:bC.frozen? ⟨n,2,none⟩=false:=Zd ((aX.block n L.lt L.n1).trans L.blk);clear cF b5;refine U _ _ (fun _=>⟨ax,af⟩) ?_;clear U F
 try simp only [Act.put,psA,psB,psC]
 refine uQ 9 fun F E=>?_;go_simp;refine E _ _ (fun _=>⟨ax,af⟩) ?_;clear E F
 try simp only [Act.put,psA,psB,psC]
 refine uQ 10 fun F E=>?_;go_simp;refine E _ _ (fun _=>⟨ax,af⟩) ?_;clear E F
 try simp only [Act.put,psA,psB,psC]
 refine uQ 11 fun F E=>?_;go_simp;refine E _ _ nD ?_;clear E F;refine uE aj ?_;clear aj ae Q';obtain⟨aP,bf,bE⟩:=L.putR (rec:=l) (rb:=ao) (cb:=aE) rfl br rfl aX (bc.imp id (fun e=>by rw [e];simp)) bj (BY.bts1 (base:=K) cg ya) cf ck.2 (fun q bF=>yl (aZ.xlt q bF));obtain⟨dd,bV⟩:=yp (bC.setCell ⟨n,2,none⟩ (.slice (some ⟨c3,0,none⟩) (J.length+1) co));rw [bV] at aP bf ⊢;replace aP:=hI aP;have cm:=hI bf;replace bE:=hI bE;have ch:=hI (bH.keep (fun b z=>bf.block b (bH.xlt b z) (fun ak=>Zhd L bH ak z)));clear bf bV aX bj bc aV aK l2 aF ax af b3 bQ
 go_wp2
 go_ret;have bL:=bB.out;refine⟨rfl,_,_,_,bi,bm,aP,ch,?_,fun b z=>?_,fun b z=>?_,fun b z=>.inl z,fun b z=>?_⟩
 .refine((((qW (X:=fun b=>JrnX n (.slice O J R) (.slice ab ne ac) b\/DskX k V b) cA).trans c4 (fun b _ h=>.inr h)).trans cX (fun b _ h=>.inl h)).trans (qW (X:=fun _=>False) aI) (fun b _ h=>h.elim)).trans cm (fun b z h=>?_);rcases bL b h with aB | aB
  .exact .inl aB
  omega
 .rcases bE.out b z with aB | aB
  .rcases bL b aB with b4 | b4
   .exact .inl b4
   exact .inr ya
  exact .inr ya
 .exact(cT b z).imp id (fun aB=>ya)
 rcases z with z | z
 .exact .inl z
 subst z;exact .inr ⟨ya,fun ak=>yl (bR.xlt b ak)⟩
def ZjO (z:Int):List Int->Int
 | []=>z
 | x :: r=>ZjO (bits .xor .u32 z (x % 4294967296)*16777619 % 4294967296) r
def Zcb (n t:Int) (key:Row):Int:=ZjO 2166136261 ([t % 256]++rowB key) % n
theorem Zcy {key:Row} (z:1<=a):0<=Zcb a t key/\Zcb a t key<a:=⟨Int.emod_nonneg _ ya,Int.emod_lt_of_pos _ ya⟩
theorem drop_hash (h:n<l) (z:Int):ZjO z (l.drop n)=ZjO (bits .xor .u32 z (l.getD n 0 % 4294967296)*16777619 % 4294967296) (l.drop (n+1)):=by
 rw [qq h];have e:l.getD n 0=l[n]:=gD h;rw [e];rfl
theorem ZdT {key:Row} (ay:1<=a) (ap:a<=4)
 (M:RowS w S A key) (aa:∀ b,S b->b<w) (Z:∀ v ∈ key,Zp v=true) (af:key.length<=12) :
 Calls prog 145 #[.int .i64 a,.int .i64 t,.slice A key n] w (Zaz (Zcb a t key) w):=by
 replace M:=hI M;have ai:=hI (ZdZ Z);go_enter func145,ntmps145
 go_wp2_with fail
 have E:Below w w (w.alloc (.cells #[bv (t % 256)] 5)):=(qa _ _).alloc nR _;obtain⟨H,I⟩:=yp (w.alloc (.cells #[bv (t % 256)] 5));have R:=hI (show BY H w (some ⟨w,0,none⟩) 1 [t % 256] from ⟨rfl,.inr ⟨w.heap.size,1,#[bv (t % 256)],rfl,qp _,by rw [<-I];exact qb w _,qp _,yh,rfl,rfl⟩⟩);have:H.heap.size<=w+1/\w.heap.size+1<=H:=(by rw [<-I];simp);rw [I] at E ⊢;clear I;replace E:=hI E;refine(appendRow_any R ya yb yb (M.keep (qS E aa)) (fun b ah=>yl (aa b ah)) Z af).mono ?_;rintro e ae ⟨ar,c1,rfl,L,ab⟩;obtain⟨T,F⟩:=yp ([t % 256]++rowB key)
 have:T.length<=3000:=by
  rw [<-F];unfold rowB;rw [qi,qi];have N:=Zz (n:=key) ya;have ak:=ai key;rw [qM] at ak;have:([t % 256]:List Int).length=1:=rfl;omega
 rw [F] at L ⊢;have am:=hI (L.low (base':=w) ya);have an:=hI (E.trans (ab.mono ya));replace F:=hI F;clear L ab R E
 go_wp2
 go_loopw [9,22] (fun h i wr=>∃ (k:Nat) (z:Int),k<=T/\h=.int .u32 z/\0<=z/\z<4294967296/\i=.int .i64 k/\ZjO z (T.drop k)=ZjO 2166136261 T/\wr=ae) (fun _ i _=>T.length - (intOf i).toNat)
 case atStart=>exact⟨0,2166136261,qk _,rfl,ya,ya,rfl,yb,rfl⟩
 obtain⟨k,z,aq,rfl,au,ax,rfl,K,rfl⟩:=hrel;replace K:=hI K
 by_cases O:k<T
 .have:(0:Int)<=(k:Int):=ya;have:(k:Int)<T:=ya;obtain⟨aj,rfl,av,aw,ac⟩:=Zad am ya;have c0:yr wr aj k (.int .u8 (T.getD k 0)):=ac k _ (by simp [List.getElem?_eq_getElem O,List.getD]);clear ac;have W:=hI (drop_hash O z);generalize T.getD k 0=x at c0 W
  go_wp2
  go_roundw
  case rel=>exact⟨k+1,bits .xor .u32 z (x % 4294967296)*16777619 % 4294967296,ya,rfl,Int.emod_nonneg _ ya,Int.emod_lt_of_pos _ ya,by go_num,by rw [<-W];exact K,trivial⟩
  (simp [intOf];omega)
 have ao:=hI (show Zcb a t key=z % a by
  have N:=K.out;rw [List.drop_of_length_le ya] at N;unfold Zcb;rw [F,<-N];rfl)
 have:0<=z % a:=Int.emod_nonneg _ ya;have:z % a<a:=Int.emod_lt_of_pos _ ya
 go_wp2
 go_ret;exact⟨by rw [ao];rfl,an⟩
theorem ZeP:∀ (k:Nat) (r:Row),Zq (r.take k)=(Zq r).take (k*3)
 | 0,r=>by simp [Zq]
 | k+1,[]=>by simp [Zq]
 | k+1,v :: r=>by
  rw [show (k+1)*3=k*3+1+1+1 by omega,List.take_succ_cons];simp only [Zq,List.take_succ_cons,ZeP k r]
theorem Zfk (I:Nat) (s:Sch) {r:Row} (W:TabS w S A s.tt) (K:RowS w S B r) (aO:r.length<=k) (ai:∀ b,S b->b<w) (aA:n<s.tt) (aj:1<=(s.tt.getD n t0).key) (aJ:0<r.length) :
 Calls prog 166 #[sAgg s.vv A s.tt I,.int .i64 (n:Int),.slice B r k] w (NewR (keyF s (n:Int) r) w):=by
 have aD:=W.len;have aS:=K.len;replace W:=hI W;replace K:=hI K;obtain⟨aG,aM,ax,aE,aH⟩:=qA ZhX;have af:=hI ((qa w w).alloc nR (.cells #[.int .i64 s.vv,.slice A s.tt I] 25));have ak:=hI (show hasN s.tt (n:Int)=true by simp [hasN];omega);have Z:=hI (show keyF s (n:Int) r=r.take (keyN (s.tt.getD n t0).key r) by unfold keyF;rw [qr ak.out,qu]);obtain⟨H,U,rfl,aL,ac,aY,aW,c1,c2,aR,au⟩:=W.at_ aA;have M:=au.key;have aB:H<w:=ai H aL;clear au;generalize s.tt.getD n t0=aI at M Z aj;obtain⟨aX,aP,F,aQ,aT⟩:=aI;simp only at M Z aj;have:decide (F<0)=false:=qe ya;go_enter func166,ntmps166
 go_wp2_with fail
 obtain⟨N,O⟩:=yp (w.alloc (.cells #[.int .i64 s.vv,.slice (some ⟨H,U,none⟩) s.tt.length I] 25));have an:=hI (show N.heap[w.heap.size]?=some (.cells #[.int .i64 s.vv,.slice (some ⟨H,U,none⟩) s.tt.length I] 25 (0,0)) by rw [<-O];exact qb w _);have:N.heap.size<=w+1/\w.heap.size+1<=N:=(by rw [<-O];simp);rw [O] at af ⊢;clear O;refine(ZfM s.vv (a:=(n:Int)) (some ⟨H,U,none⟩) s.tt.length I (w:=N) aD).mono ?_;rintro e E ⟨rfl,aa⟩;rw [ak];have:yr E w 1 (.slice (some ⟨H,U,none⟩) s.tt.length I):=c9J aa (Za an 1 _ rfl);have ah:=hI (af.trans (aa.mono ya));have aV:=c9Q ah aB M;have aZ:=aa.size;have:H<E:=ya;have:w.heap.size<E:=ya;clear aa af an M;have:(0:Int)<=(n:Int):=ya;have:(n:Int)<s.tt:=ya;obtain⟨b,ao,rfl,az,av⟩:=(K.keep (qS ah ai)).vals aJ;have aU:=K.len';have aw:=hI (show keyN F r=(min F (r:Int)).toNat by unfold keyN;omega);have:(0:Int)<=min F (r:Int):=ya;have:min F (r:Int)<=(k:Int):=ya;have:(min F (r:Int)).toNat<=r:=ya;have ay:(E.alloc (.cells #[] 108)).ownsRow E.heap.size 108 3 (.slice (some ⟨E,0,none⟩) 0 0) 0 []:=⟨rfl,.inr ⟨E.heap.size,0,#[],rfl,qp _,qb E _,qp _,yh,rfl,rfl⟩⟩;have ab:(keyF s (n:Int) r).length=(min F (r:Int)).toNat:=(by rw [Z,qG,aw];omega)
 have aF:=hI (show ∀ j u,(Zq (keyF s (n:Int) r))[j]?=some u->(E.alloc (.cells #[] 108)).cell? ((⟨b,ao,none⟩:Addr).add j)=some u from fun j u aq=>by
  have L:=av j u (by rw [Z,ZeP] at aq;exact getElem?_of_take aq);rw [add_none] at L ⊢;exact(Zh (yl (ai b az))).trans L)
 clear av
 go_wp2_with (at_builtin;refine Zn rfl (.tmp 20) (.tmp 31) 116 rfl (n:=E.heap.size) (g:=108) (i:=aG) (size:=3) 32 underlying116 aM ax aE aH rfl yf (xA:=.slice (some ⟨E,0,none⟩) 0 0) (k:=0) (xs:=[]) rfl ay ⟨b,ao,none⟩ (min F (r:Int)).toNat k (Zq (keyF s (n:Int) r)) rfl (by rw [ZaX,ab]) aF (ZaW _) yh ya yb ?_;intro ac c1 w2 ap am;have aK:=hI ap;have aC:=hI am;clear ap am)
 go_ret;have aN:NewR (keyF s (n:Int) r) E (.returned (.slice ac (keyF s (n:Int) r).length c1)) w2:=⟨ac,c1,rfl,by rw [ab];have L:=aK.out;rw [qP,qx] at L;exact L,(show Below E E (E.alloc (.cells #[] 108)) from (qa _ _).alloc nR _).grown aC yb (by simp [Value.ownBlock])⟩;have ar:=aN.low ah;rw [ab] at ar;exact ar
def ZaV (s:Sch) (n:Int):Int:=if n<1\/4<n then 1 else schF pcF s
theorem Zbd (H:Nat) (s:Sch) (F:TabS w S A s.tt) (L:∀ b,S b->b<w) :
 Calls prog 144 #[sAgg s.vv A s.tt H,.int .i64 a] w (Zaz (ZaV s a) w):=by
 replace F:=hI F;obtain⟨R,I⟩:=yp (schF pcF s);have Z:=hI I;have K:=hI (show ZaV s a=if a<1\/4<a then 1 else R by unfold ZaV;rw [I]);clear I;have z:=hI ((qa w w).alloc nR (.cells #[.int .i64 s.vv,.slice A s.tt H] 25))
 by_cases O:a<1
 .go_enter func144,ntmps144
  go_wp2
  go_ret;exact⟨by rw [K,qr (.inl O)];rfl,z⟩
 by_cases N:4<a
 .go_enter func144,ntmps144
  go_wp2
  go_ret;exact⟨by rw [K,qr (.inr N)];rfl,z⟩
 go_enter func144,ntmps144
 go_wp2_with fail
 refine(ZeN H s (F.keep (qS z L)) (fun b U=>by have:=L b U;simp;omega) (ZU)).mono ?_;rintro e aa ⟨rfl,M⟩;rw [Z];have W:=hI (z.trans (M.mono yb));clear M
 go_wp2
 go_ret;exact⟨by rw [K,qo ya];rfl,W⟩
def ZcM (s:Sch) (c:Chg):Row:=if 0<c.new.length then keyF s c.tx c.new else keyF s c.tx c.old
theorem ZhU (N:Nat) (s:Sch) {z new:Row} (O:Nat) (cb:Nat) (U:TabS w S A s.tt) (R:RowS w S B z) (ac:z.length<=O) (Z:RowS w S A' new) (aa:new.length<=cb) (ah:∀ b,S b->b<w)
 (ak:n<s.tt) (aj:1<=(s.tt.getD n t0).key) (ap:0<z.length\/0<new.length) :
 Calls prog 146 #[sAgg s.vv A s.tt N,Zip (n:Int) B z O A' new cb] w (NewR (ZcM s ⟨(n:Int),z,new⟩) w):=by
 have ao:=R.len;have aq:=Z.len;replace R:=hI R;replace Z:=hI Z;replace ac:=hI ac;replace aa:=hI aa;replace U:=hI U;have W:=hI (show ZcM s ⟨(n:Int),z,new⟩=if 0<new.length then keyF s n new else keyF s n z from rfl);have ab:=hI (((qa w w).alloc nR (.cells #[.int .i64 s.vv,.slice A s.tt N] 25)).alloc yb (.cells #[.int .i64 (n:Int),.slice B z O,.slice A' new cb] 148));have I:Same S w _:=qS ab ah;replace I:=hI I
 by_cases K:0<new.length
 .have hd:decide (0<new.length)=true:=(by simpa using K);rw [qr K] at W;go_enter func146,ntmps146
  go_wp2_with fail
  refine(Zfk N s (U.keep I) (Z.keep I) aa (fun b ae=>by have:=ah b ae;simp;omega) ak aj K).mono ?_;intro e am M;obtain⟨af,ai,rfl,F,H⟩:=M.low ab;replace F:=hI F;replace H:=hI H;clear M
  go_wp2
  go_ret;rw [W];exact⟨af,ai,rfl,F,H⟩
 have hd:decide (0<new.length)=false:=(by simpa using K);have an:0<z.length:=ya;rw [qo K] at W;go_enter func146,ntmps146
 go_wp2_with fail
 refine(Zfk N s (U.keep I) (R.keep I) ac (fun b ae=>by have:=ah b ae;simp;omega) ak aj an).mono ?_;intro e am M;obtain⟨af,ai,rfl,F,H⟩:=M.low ab;replace F:=hI F;replace H:=hI H;clear M
 go_wp2
 go_ret;rw [W];exact⟨af,ai,rfl,F,H⟩
theorem ZgE:∀ (l:List Tab) (E:List ByteArray),Zt E l=true->∀ t ∈ l,1<=t.key/\t.key<=t.cols
 | [],_,_,t,z=>by simp at z
 | F :: r,E,h,t,z=>by
  simp only [Zt,qE,qT] at h;rcases Qs.1 z with rfl | z
  .exact⟨h.1.1.1.2,h.1.1.2⟩
  exact ZgE r _ h.2 t z
theorem Zdw {N:List Int->Pred->Int} (h:schF N s=0) (F:n<s.tt):s.tt.length<=8/\1<=(s.tt.getD n t0).key/\(s.tt.getD n t0).key<=(s.tt.getD n t0).cols.length/\(s.tt.getD n t0).cols.length<=8:=by
 unfold schF at h
 by_cases K:8<s.tt.length
 .rw [qr K] at h;omega
 rw [qo K] at h
 by_cases E:s.tt.any bigT=true
 .rw [qr E] at h;omega
 rw [qo E] at h;split at h
 .omega
 rename_i L
 have e:s.tt.getD n t0=s.tt[n]:=gD F;rw [e]
 have O:Zt [] s.tt=true:=by
  cases H:Zt [] s.tt with
  | true=>rfl
  | false=>exact absurd (.inr (.inr (.inl H))) L
 have I:=ZgE _ _ O _ (qJ F)
 have M:bigT s.tt[n]=false:=by
  cases H:bigT s.tt[n] with
  | false=>rfl
  | true=>exact absurd (List.any_eq_true.2 ⟨_,qJ F,H⟩) E
 simp only [bigT,Bool.or_eq_false_iff,decide_eq_false_iff_not] at M;exact⟨ya,I.1,I.2,ya⟩
def KeyOk (z:List Int) (key:Row):Prop:=key.length=z.length/\∀ i,i<key.length->Zp (key.getD i v0)=true/\(key.getD i v0).k=z.getD i 0
instance (z:List Int) (key:Row):Decidable (KeyOk z key):=by unfold KeyOk;exact inferInstance
theorem KeyOk.valid {F:List Int} {key:Row} (h:KeyOk F key):∀ v ∈ key,Zp v=true:=fun v E=>by
 obtain⟨i,z,rfl⟩:=List.getElem_of_mem E;have:=(h.2 i z).1;simpa [List.getD,z] using this
def ofF (s:Sch) (n t:Int) (key:Row):Int × Int :=
 if ZaV s n≠0 then (0,ZaV s n) else if hasN s.tt t=false then (0,1) else if KeyOk (keyKF s t) key then (Zcb n t key,0) else (0,71)
theorem shard_ok (h:ZaV s a=0):1<=a/\a<=4/\schF pcF s=0:=by
 unfold ZaV at h;split at h
 .omega
 exact⟨ya,ya,h⟩
def ZW (l:List Chg):Dat:=.slice (l.map ZF)
def ZT {α:Type} (n:Nat) (p:α->Nat) (l:List α):List (List α):=(List.range n).map fun i=>l.filter fun c=>p c == i
theorem ZQ {α:Type} (n:Nat) (p:α->Nat) (l:List α):(ZT n p l).length=n:=by simp [ZT]
theorem ZaH {α:Type} {p:α->Nat} {l:List α} (h:k<n):(ZT n p l).getD k []=l.filter fun c=>p c == k:=by
 simp [ZT,List.getD,h]
theorem filter_snoc {α:Type} {p:α->Nat} {l:List α} {c:α} (i:Nat):((l++[c]).filter fun c=>p c == i)=(l.filter fun c=>p c == i)++(if p c=i then [c] else []):=by
 rw [List.filter_append]
 congr 1
 by_cases h:p c=i
 .simp [h]
 simp [h]
theorem Zdt {key:Int}:∀ {cs:List Col} {r:Row} {i:Nat},ZI a key i cs r=true->r.length=cs.length->∀ v ∈ r,Zp v=true
 | [],[],_,_,_,v,z=>by simp at z
 | c :: cs,w :: r,i,h,F,v,z=>by
  unfold ZI at h;simp only [qE] at h;rcases Qs.1 z with rfl | z
  .have E:=h.1;unfold Zcd at E;simp only [qE] at E;exact E.1
  exact Zdt h.2 (by simpa using F) v z
theorem ZgO {r:Row} (h:ZB s a r t=true):∀ v ∈ r,Zp v=true:=by
 unfold ZB at h;simp only [qE,qT] at h;exact Zdt h.2 h.1.2
theorem ZfV {r:Row} (h:ZB s a r t=true):r.length=(s.tt.getD a.toNat t0).cols.length:=by
 unfold ZB at h;simp only [qE,qT] at h;exact h.1.2
theorem Zbt {r:Row} (h:∀ v ∈ r,Zp v=true):∀ v ∈ keyF s a r,Zp v=true:=by
 unfold keyF;split
 .exact fun v z=>h v (List.mem_of_mem_take z)
 exact fun v z=>by simp at z
theorem Zex (s:Sch) (t:Int) (r:Row):(keyF s t r).length<=r:=by
 unfold keyF;split
 .rw [qG];omega
 simp
structure ChgN (s:Sch) (c:Chg):Prop where
 tab:∃ t:Nat,c.tx=t/\t<s.tt
 some_:0<c.old.length\/0<c.new.length
 old:(∀ v ∈ c.old,Zp v=true)/\c.old.length<=8
 new:(∀ v ∈ c.new,Zp v=true)/\c.new.length<=8
theorem ChgN.key {s:Sch} {c:Chg} (h:ChgN s c):(∀ v ∈ ZcM s c,Zp v=true)/\(ZcM s c).length<=12:=by
 unfold ZcM;split
 .exact⟨Zbt h.new.1,ym (Zex s c.tx c.new) h.new.2⟩
 exact⟨Zbt h.old.1,ym (Zex s c.tx c.old) h.old.2⟩
theorem Zct {r:Row} (h:∀ v ∈ r,Zp v=true) (E:r.length<=12):RowOk r:=⟨ya,fun v z=>yl (Zbr (h v z))⟩
theorem ZcG {E:List Int->Pred->Int} (h:schF E s=0):s.tt.length<=8:=by
 rcases qF s.tt.length with z | z
 .omega
 exact(Zdw h z).1
def ZaO (s:Sch) (n:Int) (c:Chg):Nat:=(Zcb n c.tx (ZcM s c)).toNat
theorem Zhf (z:1<=a):ZaO s a C<a.toNat/\Zcb a C.tx (ZcM s C)=(ZaO s a C:Int):=by
 have:=Zcy (a:=a) (t:=C.tx) (key:=ZcM s C) z;unfold ZaO;omega
def Zbm (s:Sch) (n:Int) (l:List Chg):Int × List (List Chg) :=
 if ZaV s n≠0 then (ZaV s n,[]) else if (netF (schF pcF s) s 1 l).1≠0 then ((netF (schF pcF s) s 1 l).1,[]) else (0,ZT n.toNat (ZaO s n) (netF (schF pcF s) s 1 l).2)
def SplP (r:Int × List (List Chg)) (w:World) (e:Ending) (w':World):Prop:=∃ A c,e=.returned (.tuple #[.slice A r.2 c,.int .i64 r.1])/\r.2.length<=c/\Sl w' (New w w') A (r.2.map ZW)/\Below w w w'
theorem SplP.err {w w':World} {n:Int} {r:Int × List (List Chg)} (h:r=(n,[])) (z:Below w w w'):SplP r w (.returned (.tuple #[.slice none 0 0,.int .i64 n])) w':=by
 subst h;exact⟨none,0,rfl,qp _,Qd,z⟩
end Go.Proofs.YtjadnfodboepeaaGreat
