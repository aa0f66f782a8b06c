import Derived.Test.YtkpjjfhfbpfjpaaK5268ea
import Derived.Test.YtkpjjfhfbpfjpaaK0b8b95
import Derived.Test.YtkpjjfhfbpfjpaaK4e30bf
import Derived.Test.YtkpjjfhfbpfjpaaK660fb2
import Derived.Test.YtkpjjfhfbpfjpaaKf7d106
import Derived.Test.YtkpjjfhfbpfjpaaKd9b46f
import Derived.Laws.CopyOwn
import Derived.Laws.CopyRow
import Derived.Deep.Cut
import Derived.Deep.CutRange
import Derived.Deep.DeepCutAuto
import Derived.Test.YtkpjjfhfbpfjpaaK9c4ebf
set_option linter.unusedVariables false
set_option linter.unusedSimpArgs false
set_option maxRecDepth 100000
set_option maxHeartbeats 8000000
namespace Go.Proofs.Ytkpjjfhfbpfjpaa
open Go.RowKit
def StC (w:World) (S:Nat→Prop) (gt:Nat) (st:St):Prop :=
 ∃ vs:List Value,(∃ rest:List Value,w.heap[gt]?=some (.cells (vs++rest).toArray 49 (0,0)))∧Dat.ValsAll w S (st.map ZbD) vs∧∀ b,S b→b<w.heap.size∧b≠gt
section
variable {w w':World} {S S':Nat→Prop} {gt:Nat} {st:St}
theorem StC.keep (h:StC w S gt st) (hs:w.heap.size≤w'.heap.size) (hk:Same S w w') (hg:w'.heap[gt]?=w.heap[gt]?):StC w' S gt st:=by
 obtain⟨vs,⟨rest,h1⟩,h2,h3⟩:=h;exact⟨vs,⟨rest,hg.trans h1⟩,Dat.ValsAll.keep hk _ _ h2,fun b hb=>⟨Nat.lt_of_lt_of_le (h3 b hb).1 hs,(h3 b hb).2⟩⟩
theorem StC.lt (h:StC w S gt st):gt<w.heap.size:=by
 obtain⟨vs,⟨rest,h1⟩,_⟩:=h;exact Zah h1
theorem StC.mem (h:StC w S gt st):∀ b,S b→b<w.heap.size∧b≠gt:=by
 obtain⟨_,_,_,h3⟩:=h;exact h3
theorem StC.below (h:StC w S gt st) (hb:Below w.heap.size w w'):StC w' S gt st :=
 h.keep hb.size (fun b hb'=>hb.block b (h.mem b hb').1) (hb.block gt h.lt)
theorem StC.fr {X:Nat→Prop} (h:StC w S gt st) (hf:Fr X w w') (hX:∀ b,X b→b<w.heap.size→¬ S b∧b≠gt):StC w' S gt st :=
 h.keep hf.size (fun b hb=>hf.block b (h.mem b hb).1 (fun hx=>(hX b hx (h.mem b hb).1).1 hb)) (hf.block gt h.lt (fun hx=>(hX gt hx h.lt).2 rfl))
theorem StC.more (h:StC w S gt st) (hS:∀ b,S b→S' b) (hS':∀ b,S' b→b<w.heap.size∧b≠gt):StC w S' gt st:=by
 obtain⟨vs,h1,h2,h3⟩:=h;exact⟨vs,h1,Dat.ValsAll.more hS _ _ h2,hS'⟩
theorem StC.at_ (h:StC w S gt st) {k:Nat} (hk:k<st.length):w.frozen? ⟨gt,k,none⟩=false∧∃ A c,w.cell? ⟨gt,k,none⟩=some (.slice A (st.getD k []).length c)∧(st.getD k []).length≤c∧RowsS w S A (st.getD k []):=by
 obtain⟨vs,⟨rest,h1⟩,h2,h3⟩:=h;obtain⟨A,c,h4,h5⟩:=Zfm h2 hk;refine⟨by simp [World.frozen?,h1],A,c,?_,h5⟩;have hl:k<vs.length:=(List.getElem?_eq_some_iff.1 h4).1;simp only [World.cell?,h1];simpa [List.getElem?_append_left hl] using h4
theorem StC.slice (h:StC w S gt st) (hl:st.length≤5864062014805) (hS:∀ b,S b→S' b) (hg:S' gt):StS w S' (some ⟨gt,0,none⟩) st:=by
 obtain⟨vs,⟨rest,h1⟩,h2,h3⟩:=h;refine Sl.of_vals (by rw [Zag (n:=24) (fun _=>rfl)];omega) (Dat.ValsAll.more hS _ _ h2) (fun h0=>⟨gt,0,rfl,hg,fun j u hu=>?_⟩);have hj:j<vs.length:=(List.getElem?_eq_some_iff.1 hu).1;simp only [World.cell?,h1,Nat.zero_add];simpa [List.getElem?_append_left hj] using hu
theorem StC.put (h:StC w S gt st) {k:Nat} (hk:k<st.length) {A:Option Addr} {c:Nat} {r:List Row} (hc:r.length≤c) (hr:RowsS w S A r):StC (w.setCell ⟨gt,k,none⟩ (.slice A r.length c)) S gt (st.set k r):=by
 obtain⟨vs,⟨rest,h1⟩,h2,h3⟩:=h;have hs:Same S w (w.setCell ⟨gt,k,none⟩ (.slice A r.length c)):=fun b hb=>Below.heap_setCell w ⟨gt,k,none⟩ _ b (h3 b hb).2;have hl:k<vs.length:=(by rw [valsAll_len h2];exact hk);have h4:=Zad (k:=k) (v:=.slice A r.length c) h1;rw [List.set_append,if_pos hl] at h4;exact⟨_,⟨rest,h4⟩,Dat.ValsAll.keep hs _ _ (ZeQ h2 hc hr),fun b hb=>⟨by simpa using (h3 b hb).1,(h3 b hb).2⟩⟩
theorem StC.made {n:Nat} (h:w.heap[gt]?=some (.cells (Zau n).toArray 49 (0,0))):StC w (fun _=>False) gt (List.replicate n []):=by
 refine⟨Zau n,⟨[],by simpa using h⟩,?_,fun _ h=>h.elim⟩;clear h;induction n with
 | zero=>simp only [List.replicate_zero,List.map_nil,Zau];unfold Dat.ValsAll;rfl
 | succ n ih =>
  simp only [Zau,List.replicate_succ,List.map_cons] at ih ⊢;unfold Dat.ValsAll;refine⟨[.slice none 0 0],_,rfl,?_,ih⟩;unfold ZbD Dat.Vals;exact⟨none,0,rfl,by simp,Sl.nil_⟩
end
theorem rput_drop (s:Sch) (t:Int) (key row:Row) (d:Bool) {l:List Row} {k:Nat} (h:k<l.length):rput s t key row d (l.drop k)=(if 0≤cmpR (keyF s t (l.getD k [])) key∧d=false then [row] else [])++((if cmpR (keyF s t (l.getD k [])) key≠0 then [l.getD k []] else [])++rput s t key row (d||decide (0≤cmpR (keyF s t (l.getD k [])) key)) (l.drop (k+1))):=by
 have e:l.getD k []=l[k]:=(by simp [List.getD,h]);rw [List.drop_eq_getElem_cons h,e,rput]
structure PutI (w wr:World) (S:Nat→Prop) (s:Sch) (A0:Option Addr) (c0' gt n ca k:Nat) (d:Bool) (P rest:List Row) (A:Option Addr) (m c:Nat) (L:List Row):Prop where
 mkl:Mk wr (w.heap.size+3) S 27 1 (.slice A m c) (L.map ZaQ)
 le:L.length≤k+d.toNat
 bel:Below w.heap.size w wr
 res:P=L++rest
 s0:wr.cell? ⟨w.heap.size,0,none⟩=some (.int .i64 s.version)
 s1:wr.cell? ⟨w.heap.size,1,none⟩=some (.slice A0 s.tabs.length c0')
 t0:wr.cell? ⟨w.heap.size+1,0,none⟩=some (.slice (some ⟨gt,0,none⟩) n ca)
 r0:wr.cell? ⟨w.heap.size+2,0,none⟩=some (.slice none 0 0)
 fz:wr.frozen? ⟨w.heap.size+2,0,none⟩=false
 sz:w.heap.size+3≤wr.heap.size
section
variable {w wa wb:World} {S:Nat→Prop} {s:Sch} {A0 A A':Option Addr} {c0' gt n ca k k' m m' c c':Nat} {d d':Bool} {P rest rest' L L':List Row}
theorem PutI.len (h:PutI w wa S s A0 c0' gt n ca k d P rest A m c L):m=L.length:=by have:=h.mkl.len;simpa using this
theorem PutI.step (h:PutI w wa S s A0 c0' gt n ca k d P rest A m c L) (hb:Below (w.heap.size+3) wa wb) (hm:Mk wb (w.heap.size+3) S 27 1 (.slice A' m' c') (L'.map ZaQ)) (hl:L'.length≤k'+d'.toNat) (hr:P=L'++rest'):PutI w wb S s A0 c0' gt n ca k' d' P rest' A' m' c' L' :=
 ⟨hm,hl,h.bel.trans (hb.mono (by omega)),hr,cJ hb h.s0,cJ hb h.s1,cJ hb h.t0,cJ hb h.r0,(hb.frozen (p:=⟨w.heap.size+2,0,none⟩) (by show w.heap.size+2<_;omega)).trans h.fz,Nat.le_trans h.sz hb.size⟩
theorem PutI.below (h:PutI w wa S s A0 c0' gt n ca k d P rest A m c L) (hb:Below wa.heap.size wa wb):PutI w wb S s A0 c0' gt n ca k d P rest A m c L:=h.step (hb.mono h.sz) (h.mkl.below hb) h.le h.res
end
def PutPost (S:Nat→Prop) (gt n ca:Nat) (st:St) (w:World) (e:Ending) (w':World):Prop:=e=.returned (ZeK (some ⟨gt,0,none⟩) n ca)∧StC w' (fun b=>S b∨New w w' b) gt st∧Fr (fun b=>b=gt) w w'
theorem Zfp {w wf:World} {S:Nat→Prop} {s:Sch} {A0 A:Option Addr} {c0' gt ca k m c:Nat} {d:Bool} {P L:List Row} {st:St} {t:Nat} (h:PutI w wf S s A0 c0' gt st.length ca k d P [] A m c L) (hst:StC w S gt st) (ht2:t<st.length) (hl:L.length≤5000000) (u v:Value) :
  StC ((wf.setCell ⟨gt,t,none⟩ (.slice A m c)).setCell ⟨w.heap.size+2,0,none⟩ v) (fun b=>S b∨New w ((wf.setCell ⟨gt,t,none⟩ (.slice A m c)).setCell ⟨w.heap.size+2,0,none⟩ v) b) gt (st.set t P)∧Fr (fun b=>b=gt) w ((wf.setCell ⟨gt,t,none⟩ (.slice A m c)).setCell ⟨w.heap.size+2,0,none⟩ v):=by
 have hgt:=hst.lt;have hsz:=h.sz;have hS:∀ b,S b→b<w.heap.size∧b≠gt:=(fun b hb=>by obtain⟨_,_,_,h3⟩:=hst;exact h3 b hb);obtain⟨hn,hc,hrs⟩:=h.mkl.slice (by rw [Zag (n:=24) (fun _=>rfl)];omega);have e:m=L.length:=h.len;subst e;have hP:P=L:=(by have:=h.res;simpa using this);subst hP
 have h1:StC wf (fun b=>S b∨(w.heap.size+3≤b∧b<wf.heap.size)) gt st:=(hst.below h.bel).more (fun b hb=>.inl hb) (fun b hb=>by
  rcases hb with hb | hb
  · have:=hS b hb;exact⟨by omega,this.2⟩
  · exact⟨hb.2,by have:=hb.1;omega⟩)
 have h2:=h1.put (k:=t) (by simpa using ht2) hc (show RowsS wf (fun b=>S b∨(w.heap.size+3≤b∧b<wf.heap.size)) A P from hrs);have h3:Fr (fun b=>b=gt) w (wf.setCell ⟨gt,t,none⟩ (.slice A P.length c)):=Fr.setCell (X:=fun b=>b=gt) (Fr.of_below h.bel) _ (fun _=>rfl);have h4:Fr (fun b=>b=gt) w ((wf.setCell ⟨gt,t,none⟩ (.slice A P.length c)).setCell ⟨w.heap.size+2,0,none⟩ v):=Fr.setCell (X:=fun b=>b=gt) (g:=w.heap.size+2) h3 v (fun hx=>absurd hx (by show ¬ w.heap.size+2<w.heap.size;omega));refine⟨(h2.keep (by simp) (fun b hb=>?_) (Below.heap_setCell _ ⟨w.heap.size+2,0,none⟩ _ gt (by show gt≠w.heap.size+2;omega))).more (fun b hb=>hb.imp id (fun hb=>⟨by omega,by have:=hb.2;simpa using this⟩)) (fun b hb=>?_),h4⟩
 · refine Below.heap_setCell _ ⟨w.heap.size+2,0,none⟩ _ b ?_;rcases hb with hb | hb
   · have:=hS b hb;show b≠w.heap.size+2;omega
   · have:=hb.1;show b≠w.heap.size+2;omega
 · rcases hb with hb | hb
   · have:=hS b hb;simp;omega
   · have h5:=hb.2;simp at h5 ⊢;have:=hb.1;omega
theorem rput_any (A0:Option Addr) (c0':Nat) (s:Sch) (gt ca:Nat) (st:St) (t:Nat) (AK:Option Addr) (ck:Nat) (key:Row) (AR:Option Addr) (cr:Nat) (row0:Row) (S:Nat→Prop) (w:World) (hs:TabS w S A0 s.tabs) (hst:StC w S gt st) (hk:RowS w S AK key) (hr:RowS w S AR row0) (ht1:t<s.tabs.length) (ht2:t<st.length) (hll:(st.getD t []).length≤1000000) (hnl:st.length≤1000000) :
  Calls Try.prog 64 #[sAgg s.version A0 s.tabs.length c0',ZeK (some ⟨gt,0,none⟩) st.length ca,.int .i64 (t:Int),.slice AK key.length ck,.slice AR row0.length cr] w (PutPost S gt st.length ca (st.set t (putR s t key row0 (st.getD t []))) w):=by
 obtain⟨i0,hi,hz0,hz1,hz2⟩:=info_parts infoR;have hS:∀ b,S b→b<w.heap.size:=(fun b hb=>by obtain⟨_,_,_,h3⟩:=hst;exact(h3 b hb).1);have hgt:=hst.lt;have hgt1:gt<w.heap.size+1:=(by omega);have hgt2:gt<w.heap.size+1+1:=(by omega);have hsl:=hs.len;have hkl:=hk.len;have hrl0:=hr.len;obtain⟨hfz0,A',c',d1,d2,d3⟩:=hst.at_ ht2;have HS:=hI hs;have HST:=hI hst;have HK:=hI hk;have HR0:=hI hr;have HRS:=hI d3;have HFZ:=hI hfz0;clear hs hst hk hr d2 d3 hfz0;obtain⟨rows,hrows⟩:∃ rows,st.getD t []=rows:=⟨_,rfl⟩;rw [hrows] at d1 HRS hll ⊢;clear hrows;have HD1:=hI d1;obtain⟨P,hP⟩:∃ P,putR s t key row0 rows=P:=⟨_,rfl⟩;obtain⟨d0,hd0⟩:∃ d0:Bool,((row0.length:Int) == 0)=d0:=⟨_,rfl⟩;have hp0:P=rput s t key row0 d0 rows:=(by rw [←hP,←hd0,putR];congr 1;rw [Bool.eq_iff_iff];simp);rw [hP];clear hP;have HB0:=hI ((((Below.refl w.heap.size w).alloc nR (.cells #[.int .i64 s.version,.slice A0 s.tabs.length c0'] 25)).alloc (by simp) (.cells #[.slice (some ⟨gt,0,none⟩) st.length ca] 56)).alloc (by simp;omega) (.cells #[.slice none 0 0] 56))
 have HI0:=hI (show PutI w (((w.alloc (.cells #[.int .i64 s.version,.slice A0 s.tabs.length c0'] 25)).alloc (.cells #[.slice (some ⟨gt,0,none⟩) st.length ca] 56)).alloc (.cells #[.slice none 0 0] 56)) S s A0 c0' gt st.length ca 0 d0 P (rput s t key row0 d0 (rows.drop 0)) none 0 0 [] from
  ⟨Mk.start (fun b hb=>by have:=hS b hb;omega) (by simp) _ _,by simp,HB0.out,hp0,(Zaj (by simp;omega)).trans ((Zaj (by simp)).trans (Zaf rfl rfl)),(Zaj (by simp;omega)).trans ((Zaj (by simp)).trans (Zaf rfl rfl)),(Zaj (by simp)).trans (Zaf (by simp) rfl),Zaf (by simp) rfl,ZaO (by simp),by simp⟩)
 clear hp0;go_enter Try.func64,Try.ntmps64
 go_wp2_with fail
 go_loopw [11,12,25] (fun out done i wr=>∃ (k:Nat) (d:Bool) (A:Option Addr) (m c:Nat) (L:List Row),k≤rows.length∧i=.int .i64 k∧done=.bool d∧out=.slice A m c∧PutI w wr S s A0 c0' gt st.length ca k d P (rput s t key row0 d (rows.drop k)) A m c L) (fun _ _ i _=>rows.length - (intOf i).toNat)
 case atStart=>exact⟨0,d0,none,0,0,[],Nat.zero_le _,rfl,rfl,rfl,HI0.out⟩
 case round =>
  obtain⟨k,d,A,m,c,L,hk,rfl,rfl,rfl,hpi⟩:=hrel;have HPI:=hI hpi;have s0:=hpi.s0;have s1:=hpi.s1;have t0':=hpi.t0;have hsz:=hpi.sz;have hml:=hpi.len;have hle:=hpi.le;have hdn:d.toNat≤1:=(by cases d<;>simp);have hm1:m≤k+1:=(by omega);have HML:=hI hml;clear hpi hml hle d1 hd0
  by_cases hlt:k<rows.length
  · obtain⟨b2,o2,rfl,hb2,A2,c2,f1,f2,f3⟩:=(HRS.out.keep (Same.of_below HPI.out.bel hS)).at_ hlt;have hl2:b2<wr.heap.size:=(by have:=hS b2 hb2;omega);have HSTEP:=hI (rput_drop s t key row0 d hlt);have HROW:=hI f3;have HC:=hI f2;have hrw:=f3.len;obtain⟨row,hrow⟩:∃ row,rows.getD k []=row:=⟨_,rfl⟩;clear f2 f3;rw [hrow] at f1 HROW HC hrw HSTEP;clear hrow;have hSr:∀ b,S b→b<wr.heap.size:=fun b hb=>by have:=hS b hb;omega
    go_wp2_with fail
    refine(ZeY A0 c0' s t A2 c2 row S _ (HS.out.keep (Same.of_below HPI.out.bel hS)) HROW.out HC.out hSr).mono ?_;rintro e w1 ⟨A3,c3,rfl,h3,hb3⟩;have hokk:RowOk (keyF s t row):=((HROW.out.key s t (A':=A2) (fun _=>rfl))).ok;have HKR:=hI ((ZbF hokk h3).more (S':=fun b=>b<w1.heap.size) (fun b hb=>hb.2));have HB3:=hI hb3;have hz3:=hb3.size;clear hb3 h3 hokk
    go_wp2_with fail
    refine(rcompareRows_any A3 AK c3 ck (keyF s t row) key (fun b=>b<w1.heap.size) _ HKR.out ((HK.out.keep (Same.of_below (HPI.out.bel.trans (HB3.out.mono (by omega))) hS)).more (fun b hb=>by have:=hS b hb;omega)) (fun b hb=>hb)).mono ?_;rintro e w2 ⟨rfl,hb4⟩;have HB4:=hI (HB3.out.trans (hb4.mono hz3));have HX:=hI (HPI.out.below HB4.out);have hz2':=HB4.out.size;have ROWX:=hI (HROW.out.keep (Same.of_below HB4.out hSr));have R0X:=hI (HR0.out.keep (Same.of_below HX.out.bel hS));have MKX:=hI HX.out.mkl;clear hb4 s0 s1 t0' f1;obtain⟨cv,hcv⟩:∃ cv,cmpR (keyF s t row) key=cv:=⟨_,rfl⟩;have hrng:=cmpR_is.rng (keyF s t row) key;rw [hcv] at hrng HSTEP ⊢;clear hcv;rcases hrng with rfl | rfl | rfl
    · have HR:=hI (show P=(L++[row])++rput s t key row0 d (rows.drop (k+1)) by rw [HX.out.res,HSTEP.out];simp)
      go_wp2_with (at_builtin;refine Zat rfl (.tmp 48) (.tmp 50) 49 rfl (w.heap.size+3) S 27 i0 _ 1 24 Try.underlying49 hi hz0 hz1 hz2 rfl (by decide) _ _ _ _ _ MKX.out rfl (ZaQ row) #[.slice A2 row.length c2] (ZbE HC.out (ROWX.out.more (fun b hb=>.inl hb))) (by simp [ZaQ,Dat.Plain]) rfl 1 rfl (by omega) (by omega) ?_;intro g5 cap5 w5 hm5 hb5 hlt5;have MK5:=hI hm5;have HB5:=hI hb5;have hz5:=hb5.size;clear hm5 hb5)
      go_roundw
      case rel=>exact⟨k+1,d,_,_,_,(L++[row]),by omega,by go_num,rfl,rfl,HX.out.step HB5.out (by rw [List.map_append];exact MK5.out) (by have:=HX.out.le;simp at this ⊢;omega) HR.out⟩
      case measure=>simp [intOf];omega
    · cases d
      · have HR:=hI (show P=(L++[row0])++rput s t key row0 true (rows.drop (k+1)) by rw [HX.out.res,HSTEP.out];simp)
        go_wp2_with fail
        refine(ZcD AR cr row0 S _ R0X.out).mono ?_;rintro e w4 ⟨A4,c4,rfl,h4,hb4⟩;have HBC:=hI hb4;have MKX:=hI (HX.out.mkl.below hb4);have N4:=hI (Zbj h4 R0X.out.ok nR);have hz4:=hb4.size;clear h4 hb4
        go_wp2_with (at_builtin;refine Zat rfl (.tmp 41) (.tmp 44) 49 rfl (w.heap.size+3) S 27 i0 _ 1 24 Try.underlying49 hi hz0 hz1 hz2 rfl (by decide) _ _ _ _ _ MKX.out rfl (ZaQ row0) #[.slice A4 row0.length c4] (ZbE N4.out.1 (N4.out.2.more (fun b hb=>.inr ⟨by have:=HX.out.sz;omega,hb.2,fun e=>by have:=(HX.out.mkl.base_le e.symm).2;omega⟩))) (by simp [ZaQ,Dat.Plain]) rfl 1 rfl (by omega) (by omega) ?_;intro g6 cap6 w6 hm6 hb6 hlt6;have MK6:=hI hm6;have HB6:=hI hb6;have hz6:=hb6.size;clear hm6 hb6)
        go_roundw
        case rel=>exact⟨k+1,true,_,_,_,(L++[row0]),by omega,by go_num,rfl,rfl,HX.out.step ((HBC.out.mono (by have:=HX.out.sz;omega)).trans HB6.out) (by rw [List.map_append];exact MK6.out) (by have:=HX.out.le;simp at this ⊢;omega) HR.out⟩
        case measure=>simp [intOf];omega
      · have HR:=hI (show P=L++rput s t key row0 true (rows.drop (k+1)) by rw [HX.out.res,HSTEP.out];simp)
        go_wp2_with fail
        go_roundw
        case rel=>exact⟨k+1,true,_,_,_,L,by omega,by go_num,rfl,rfl,HX.out.step (Below.refl _ _) HX.out.mkl (by have:=HX.out.le;simp at this ⊢;omega) HR.out⟩
        case measure=>simp [intOf];omega
    · cases d
      · have HR:=hI (show P=(L++[row0]++[row])++rput s t key row0 true (rows.drop (k+1)) by rw [HX.out.res,HSTEP.out];simp)
        go_wp2_with fail
        refine(ZcD AR cr row0 S _ R0X.out).mono ?_;rintro e w4 ⟨A4,c4,rfl,h4,hb4⟩;have HBC:=hI hb4;have MKX:=hI (HX.out.mkl.below hb4);have N4:=hI (Zbj h4 R0X.out.ok nR);have hz4:=hb4.size;clear h4 hb4
        go_wp2_with (first | (at_builtin;refine Zat rfl (.tmp 41) (.tmp 44) 49 rfl (w.heap.size+3) S 27 i0 _ 1 24 Try.underlying49 hi hz0 hz1 hz2 rfl (by decide) _ _ _ _ _ MKX.out rfl (ZaQ row0) #[.slice A4 row0.length c4] (ZbE N4.out.1 (N4.out.2.more (fun b hb=>.inr ⟨by have:=HX.out.sz;omega,hb.2,fun e=>by have:=(HX.out.mkl.base_le e.symm).2;omega⟩))) (by simp [ZaQ,Dat.Plain]) rfl 1 rfl (by omega) (by omega) ?_;intro g6 cap6 w6 hm6 hb6 hlt6;have MK6:=hI hm6;have HB6:=hI hb6;have hz6:=hb6.size;clear hm6 hb6;have ROWX:=hI (ROWX.out.keep (w':=w6) (Same.of_below (B:=w.heap.size+3) ((HBC.out.mono (by have:=HX.out.sz;omega)).trans HB6.out) (fun b hb=>by have:=hS b hb;omega)))) | (at_builtin;refine Zat rfl (.tmp 48) (.tmp 50) 49 rfl (w.heap.size+3) S 27 i0 _ 1 24 Try.underlying49 hi hz0 hz1 hz2 rfl (by decide) _ _ _ _ _ MK6.out rfl (ZaQ row) #[.slice A2 row.length c2] (ZbE HC.out (ROWX.out.more (fun b hb=>.inl hb))) (by simp [ZaQ,Dat.Plain]) rfl 1 rfl (by omega) (by omega) ?_;intro g5 cap5 w5 hm5 hb5 hlt5;have MK5:=hI hm5;have HB5:=hI hb5;have hz5:=hb5.size;clear hm5 hb5))
        go_roundw
        case rel=>exact⟨k+1,true,_,_,_,(L++[row0]++[row]),by omega,by go_num,rfl,rfl,HX.out.step ((HBC.out.mono (by have:=HX.out.sz;omega)).trans (HB6.out.trans HB5.out)) (by rw [List.map_append,List.map_append];exact MK5.out) (by have:=HX.out.le;simp at this ⊢;omega) HR.out⟩
        case measure=>simp [intOf];omega
      · have HR:=hI (show P=(L++[row])++rput s t key row0 true (rows.drop (k+1)) by rw [HX.out.res,HSTEP.out];simp)
        go_wp2_with (at_builtin;refine Zat rfl (.tmp 48) (.tmp 50) 49 rfl (w.heap.size+3) S 27 i0 _ 1 24 Try.underlying49 hi hz0 hz1 hz2 rfl (by decide) _ _ _ _ _ MKX.out rfl (ZaQ row) #[.slice A2 row.length c2] (ZbE HC.out (ROWX.out.more (fun b hb=>.inl hb))) (by simp [ZaQ,Dat.Plain]) rfl 1 rfl (by omega) (by omega) ?_;intro g5 cap5 w5 hm5 hb5 hlt5;have MK5:=hI hm5;have HB5:=hI hb5;have hz5:=hb5.size;clear hm5 hb5)
        go_roundw
        case rel=>exact⟨k+1,true,_,_,_,(L++[row]),by omega,by go_num,rfl,rfl,HX.out.step HB5.out (by rw [List.map_append];exact MK5.out) (by have:=HX.out.le;simp at this ⊢;omega) HR.out⟩
        case measure=>simp [intOf];omega
  · have hgc:=cQ HPI.out.bel hgt HD1.out;have hgf:=(HPI.out.bel.frozen (p:=⟨gt,t,none⟩) hgt).trans HFZ.out;have hne1:w.heap.size+1≠gt:=(by omega);have hne2:w.heap.size+2≠gt:=(by omega);have hne3:w.heap.size+1+1≠gt:=(by omega);have r0':=HPI.out.r0;have fz':=HPI.out.fz;cases d
    · have HRES:=hI (show P=L++[row0] by rw [HPI.out.res,List.drop_eq_nil_of_le (by omega),rput];rfl);have HX:=HPI;have R0X:=hI (HR0.out.keep (Same.of_below HX.out.bel hS))
      go_wp2_with fail
      refine(ZcD AR cr row0 S _ R0X.out).mono ?_;rintro e w4 ⟨A4,c4,rfl,h4,hb4⟩;have HBC:=hI hb4;have MKX:=hI (HX.out.mkl.below hb4);have N4:=hI (Zbj h4 R0X.out.ok nR);have hz4:=hb4.size;clear h4 hb4
      go_wp2_with (at_builtin;refine Zat rfl (.tmp 55) (.tmp 58) 49 rfl (w.heap.size+3) S 27 i0 _ 1 24 Try.underlying49 hi hz0 hz1 hz2 rfl (by decide) _ _ _ _ _ MKX.out rfl (ZaQ row0) #[.slice A4 row0.length c4] (ZbE N4.out.1 (N4.out.2.more (fun b hb=>.inr ⟨by have:=HX.out.sz;omega,hb.2,fun e=>by have:=(HX.out.mkl.base_le e.symm).2;omega⟩))) (by simp [ZaQ,Dat.Plain]) rfl 1 rfl (by omega) (by omega) ?_;intro g6 cap6 w6 hm6 hb6 hlt6;have MK6:=hI hm6;have HB6:=hI hb6;have hz6:=hb6.size;clear hm6 hb6;have HPF:=hI (show PutI w w6 S s A0 c0' gt st.length ca k true P [] (some ⟨g6,0,none⟩) (m+1) cap6 (L++[row0]) from HX.out.step ((HBC.out.mono (by have:=HX.out.sz;omega)).trans HB6.out) (by rw [List.map_append];exact MK6.out) (by have:=HX.out.le;simp at this ⊢;omega) (by rw [HRES.out];simp));have hgc:=cQ HPF.out.bel hgt HD1.out;have hgf:=(HPF.out.bel.frozen (p:=⟨gt,t,none⟩) hgt).trans HFZ.out;have r6:=HPF.out.r0;have fz6:=HPF.out.fz;have t6:=HPF.out.t0;have hz6':=HPF.out.sz)
      have x0:(((w6).setCell ⟨gt,t,none⟩ (.slice (some ⟨g6,0,none⟩) (m+1) cap6)).setCell ⟨w.heap.size+2,0,none⟩ (.slice (some ⟨gt,0,none⟩) st.length ca)).cell? ⟨w.heap.size+2,0,none⟩=some (.slice (some ⟨gt,0,none⟩) st.length ca) :=
       World.cell?_setCell_same _ _ _ (u:=.slice none 0 0) (by rw [World.cell?_setCell_other _ _ _ _ (by simp)];exact HPF.out.r0)
      have HF:=Zfp (t:=t) HPF.out HST.out ht2 (by have:=HPF.out.len;omega) (.slice (some ⟨gt,0,none⟩) st.length ca) (.slice (some ⟨gt,0,none⟩) st.length ca);exact bodyPost_ret (v:=ZeK (some ⟨gt,0,none⟩) st.length ca) (by simp [results,Try.results64,go_sem,x0]) rfl ⟨rfl,HF⟩
    · have HRES:=hI (show PutI w wr S s A0 c0' gt st.length ca k true P [] A m c L from HPI.out.step (Below.refl _ _) HPI.out.mkl HPI.out.le (by rw [HPI.out.res,List.drop_eq_nil_of_le (by omega),rput];simp))
      go_wp2_with fail
      have x0:(((wr).setCell ⟨gt,t,none⟩ (.slice A m c)).setCell ⟨w.heap.size+2,0,none⟩ (.slice (some ⟨gt,0,none⟩) st.length ca)).cell? ⟨w.heap.size+2,0,none⟩=some (.slice (some ⟨gt,0,none⟩) st.length ca) :=
       World.cell?_setCell_same _ _ _ (u:=.slice none 0 0) (by rw [World.cell?_setCell_other _ _ _ _ (by simp)];exact HRES.out.r0)
      have HF:=Zfp (t:=t) HRES.out HST.out ht2 (by have:=HPI.out.len;omega) (.slice (some ⟨gt,0,none⟩) st.length ca) (.slice (some ⟨gt,0,none⟩) st.length ca);exact bodyPost_ret (v:=ZeK (some ⟨gt,0,none⟩) st.length ca) (by simp [results,Try.results64,go_sem,x0]) rfl ⟨rfl,HF⟩
instance:DecidableEq Chg:=fun a b=>decidable_of_iff (a.table=b.table∧a.old=b.old∧a.new=b.new) (by cases a;cases b;simp)
theorem Zcy {α:Type} {l:List α} {d:α} {k:Nat} (h:k<l.length):l.getD k d=l[k]:=by simp [List.getD,h]
def TabG (tb:Tab):Prop:=1≤tb.cols.length∧tb.cols.length≤4∧1≤tb.key∧tb.key≤tb.cols.length∧∀ c ∈ tb.cols,c.kind=3∨c.kind=4∨c.kind=5
theorem gen_tabs {id:Int} (hid:id=4∨id=5) (r1 r2 r3:List Rfr) (chk:List Pred):∀ tb ∈ Zao id r1 r2 r3 chk,TabG tb:=by
 intro tb h;simp only [Zao,List.mem_cons,List.not_mem_nil,or_false] at h;rcases h with rfl | rfl | rfl | rfl
 · refine⟨by decide,by decide,by decide,by decide,fun c hc=>?_⟩;simp only [Zdk,List.mem_cons,List.not_mem_nil,or_false] at hc;rcases hc with rfl | rfl<;>simp
 · refine⟨by simp [ZbP],by simp [ZbP],by simp,by simp [ZbP],fun c hc=>?_⟩;simp only [ZbP,List.mem_cons,List.not_mem_nil,or_false] at hc;rcases hc with rfl | rfl | rfl | rfl
   · rcases hid with h | h<;>simp [h]
   all_goals simp
 · refine⟨by simp [Zcf],by simp [Zcf],by simp,by simp [Zcf],fun c hc=>?_⟩;simp only [Zcf,List.mem_cons,List.not_mem_nil,or_false] at hc;rcases hc with rfl | rfl<;>simp
 · refine⟨by simp [ZbX],by simp [ZbX],by simp,by simp [ZbX],fun c hc=>?_⟩;simp only [ZbX,List.mem_cons,List.not_mem_nil,or_false] at hc;rcases hc with rfl;rcases hid with h | h<;>simp [h]
theorem GenS.len {s:Sch} (h:GenS s):2≤s.tabs.length∧s.tabs.length≤4:=by
 obtain⟨n,v,id,b1,b2,b3,chk,rfl,h2,h4,_⟩:=h;have:(Zao id (rf0 b1 1 0) (rf0 b2 0 0) (rf0 b3 0 1) chk).length=4:=rfl;show 2≤(List.take n _).length∧(List.take n _).length≤4;rw [List.length_take];omega
theorem GenS.tab {s:Sch} (h:GenS s) {t:Nat} (ht:t<s.tabs.length):TabG (s.tabs.getD t t0):=by
 obtain⟨n,v,id,b1,b2,b3,chk,rfl,h2,h4,_,_,hid,_⟩:=h;have e:(Sch.tabs ⟨v,(Zao id (rf0 b1 1 0) (rf0 b2 0 0) (rf0 b3 0 1) chk).take n⟩).getD t t0=(List.take n (Zao id (rf0 b1 1 0) (rf0 b2 0 0) (rf0 b3 0 1) chk))[t]'ht:=Zcy ht;rw [e];exact gen_tabs hid _ _ _ _ _ (List.mem_of_mem_take (List.getElem_mem ht))
theorem GenS.kinds {s:Sch} (h:GenS s) {t:Nat} (ht:t<s.tabs.length):ZaB s t=(s.tabs.getD t t0).cols.map (·.kind)∧(ZaB s t).length≤4:=by
 have e:ZaB s t=(s.tabs.getD t t0).cols.map (·.kind):=by
  unfold ZaB hasN;rw [if_pos (by simp;omega),Int.toNat_natCast]
 rw [e,List.length_map];exact⟨rfl,(h.tab ht).2.1⟩
theorem Zcz {m key:Int}:∀ {cs:List Col} {r:Row} {i:Nat},r.length=cs.length→(∀ j,j<cs.length→Zaq m key (cs.getD j c0).kind (i+j) (r.getD j v0)=true)→Zav m key i cs r=true
 | [],r,i,_,_=>by cases r<;>simp [Zav]
 | c :: cs,[],i,h,_=>by simp at h
 | c :: cs,v :: r,i,h,hf=>by
  have h0:=hf 0 (by simp)
  have ih:=Zcz (m:=m) (key:=key) (cs:=cs) (r:=r) (i:=i+1) (by simpa using h) (fun j hj=>by
   have:=hf (j+1) (by simpa using hj);rw [show i+(j+1)=i+1+j by omega] at this;simpa using this)
  simp only [Zav,Bool.and_eq_true];exact⟨by simpa using h0,ih⟩
theorem rowGen_fits {s:Sch} {m:Int} (h:GenS s) (hm:ZcF m=true) {t:Nat} (ht:t<s.tabs.length) {r:Row} (hr:Zfk (s.tabs.getD t t0).key m (ZaB s t) r):ZaF s t r m=true:=by
 obtain⟨h1,h2⟩:=hr;obtain⟨h3,_⟩:=h.kinds ht;have hk:=(h.tab ht).2.2.2.2;rw [h3] at h1 h2;rw [List.length_map] at h1 h2;unfold ZaF hasN;rw [Int.toNat_natCast];simp only [Bool.and_eq_true,decide_eq_true_eq];refine⟨⟨⟨hm,by omega,by omega⟩,h1⟩,Zcz h1 (fun j hj=>?_)⟩;have h4:=h2 j hj;have e1:((s.tabs.getD t t0).cols.map (·.kind)).getD j 0=((s.tabs.getD t t0).cols.getD j c0).kind:=(by rw [Zcy hj,Zcy (by simpa using hj),List.getElem_map])
 have e2:ZbN ((s.tabs.getD t t0).cols.getD j c0).kind=((s.tabs.getD t t0).cols.getD j c0).kind:=by
  have hmem:(s.tabs.getD t t0).cols.getD j c0 ∈ (s.tabs.getD t t0).cols:=by
   rw [Zcy hj];exact List.getElem_mem hj
  rcases hk _ hmem with e | e | e<;>rw [e]<;>rfl
 rw [e1,e2] at h4;rw [Nat.zero_add];exact h4
theorem put_ok {s:Sch} {m:Int} {st:St} (h:StOk s m st) {t:Nat} (ht:t<st.length) {key row:Row} (hk:0<row.length→keyF s t row=key) (hf:0<row.length→ZaF s t row m=true):StOk s m (st.set t (putR s t key row (st.getD t [])))∧putR s t key row (st.getD t [])=putL s t key row (st.getD t []):=by
 have hr:=h.2 t ht;have e:=putR_eq hr.2 key row;rw [e];exact⟨h.set (rowsOk_put hr hk hf),rfl⟩
theorem putL_len (s:Sch) (t:Int) (row:Row) (l:List Row):(putL s t (keyF s t row) row l).length≤l.length+1:=by
 have:=put_len s ⟨t,[],row⟩ l;have e:putC s ⟨t,[],row⟩ l=putL s t (keyF s t row) row l:=(by rw [putC_eq];simp [keyC]);rwa [e] at this
theorem stOk_nil {s:Sch} {m:Int} (n:Nat) (h:n=s.tabs.length):StOk s m (List.replicate n []):=by
 refine⟨by simpa using h,fun t ht=>?_⟩
 have e:(List.replicate n ([]:List Row)).getD t []=[]:=by
  have:t<n:=(by simpa using ht);simp [List.getD,this]
 rw [e];exact⟨fun r hr=>by simp at hr,fun i j _ hj=>by simp at hj⟩
theorem Fr.frozenF {X:Nat→Prop} {w w':World} (h:Fr X w w') {b o:Nat} (hb:b<w.heap.size) (hx:¬ X b):w'.frozen? ⟨b,o,none⟩=w.frozen? ⟨b,o,none⟩:=World.frozen?_of_block (h.block b hb hx)
theorem Zev {key m:Int} {ks:List Int} {r:Row} (h:Zfk key m ks r) (hl:ks.length≤1000000):RowOk r:=by
 refine⟨by rw [h.1];omega,fun v hv=>?_⟩;obtain⟨i,hi,rfl⟩:=List.getElem_of_mem hv;have h1:=h.2 i (by rw [←h.1];exact hi);rw [Zcy hi] at h1;unfold Zaq at h1;simp only [Bool.and_eq_true] at h1;have:=Zdc h1.1;omega
theorem rowOk_key {s:Sch} {t:Int} {r:Row} (h:RowOk r):RowOk (keyF s t r):=by
 unfold keyF;split
 · exact⟨by rw [List.length_take];have:=h.1;omega,fun v hv=>h.2 v (List.mem_of_mem_take hv)⟩
 · exact⟨by simp,fun v hv=>by simp at hv⟩
structure StI (w wr:World) (g:Nat) (S:Nat→Prop) (s:Sch) (A0:Option Addr) (c0':Nat) (m:Int) (cur:St):Prop where
 stc:StC wr (fun b=>S b∨(w.heap.size+4≤b∧b<wr.heap.size)) (w.heap.size+2) cur
 ok:StOk s m cur
 b0:wr.cell? ⟨w.heap.size,0,none⟩=some (.int .i64 s.version)
 b1:wr.cell? ⟨w.heap.size,1,none⟩=some (.slice A0 s.tabs.length c0')
 r0:wr.cell? ⟨w.heap.size+1,0,none⟩=some (.slice none 0 0)
 rf:wr.frozen? ⟨w.heap.size+1,0,none⟩=false
 t0:wr.cell? ⟨w.heap.size+3,0,none⟩=some (.slice (some ⟨w.heap.size+2,0,none⟩) s.tabs.length s.tabs.length)
 tf:wr.frozen? ⟨w.heap.size+3,0,none⟩=false
 case:CaseOk wr g
 gr:w.grownBy wr (some g)
 sz:w.heap.size+4≤wr.heap.size
section
variable {w wr wx wp:World} {g:Nat} {S:Nat→Prop} {s:Sch} {A0:Option Addr} {c0':Nat} {m:Int} {cur cur':St}
theorem StI.keep (h:StI w wr g S s A0 c0' m cur) (hf:Fr (fun b=>b=g) wr wx) (hc:CaseOk wx g) (hgl:g<w.heap.size) (hS:∀ b,S b→b<w.heap.size∧b≠g):StI w wx g S s A0 c0' m cur:=by
 have hz:=h.sz;have hzx:=hf.size;refine⟨(h.stc.fr hf (fun b hb hl=>⟨fun hb'=>?_,by omega⟩)).more (fun b hb=>hb.imp id (fun hb=>⟨hb.1,by have:=hb.2;omega⟩)) (fun b hb=>?_),h.ok,(hf.cell (by omega) (by omega)).trans h.b0,(hf.cell (by omega) (by omega)).trans h.b1,(hf.cell (by omega) (by omega)).trans h.r0,(hf.frozenF (by omega) (by omega)).trans h.rf,(hf.cell (by omega) (by omega)).trans h.t0,(hf.frozenF (by omega) (by omega)).trans h.tf,hc,h.gr.trans hf.grown,by omega⟩
 · rcases hb' with hb' | hb'
   · exact(hS b hb').2 hb
   · omega
 · rcases hb with hb | hb
   · have:=hS b hb;omega
   · exact⟨hb.2,by have:=hb.1;omega⟩
theorem StI.put (h:StI w wr g S s A0 c0' m cur) (hgl:g<w.heap.size) (hS:∀ b,S b→b<w.heap.size∧b≠g) (hb:Below wr.heap.size wr wx) (hst:StC wp (fun b=>(S b∨(w.heap.size+4≤b∧b<wx.heap.size))∨New wx wp b) (w.heap.size+2) cur') (hf:Fr (fun b=>b=w.heap.size+2) wx wp) (hok:StOk s m cur') :
  StI w (wp.setCell ⟨w.heap.size+3,0,none⟩ (.slice (some ⟨w.heap.size+2,0,none⟩) s.tabs.length s.tabs.length)) g S s A0 c0' m cur':=by
 have hz:=h.sz;have hzx:=hb.size;have hzp:=hf.size;have hne:∀ b,b≠w.heap.size+3→(wp.setCell ⟨w.heap.size+3,0,none⟩ (.slice (some ⟨w.heap.size+2,0,none⟩) s.tabs.length s.tabs.length)).heap[b]?=wp.heap[b]?:=fun b hb=>Below.heap_setCell wp ⟨w.heap.size+3,0,none⟩ _ b hb;have hblk:∀ b,b<wr.heap.size→b≠w.heap.size+2→wp.heap[b]?=wr.heap[b]?:=fun b h1 h2=>(hf.block b (by omega) h2).trans (hb.block b h1);have hall:∀ b,b<wr.heap.size→b≠w.heap.size+2→b≠w.heap.size+3→(wp.setCell ⟨w.heap.size+3,0,none⟩ (.slice (some ⟨w.heap.size+2,0,none⟩) s.tabs.length s.tabs.length)).heap[b]?=wr.heap[b]?:=fun b h1 h2 h3=>(hne b h3).trans (hblk b h1 h2)
 have hnew:∀ b,((S b∨(w.heap.size+4≤b∧b<wx.heap.size))∨New wx wp b)→S b∨(w.heap.size+4≤b∧b<wp.heap.size):=fun b hb'=>by
  rcases hb' with (hb' | hb') | hb'
  · exact .inl hb'
  · exact .inr ⟨hb'.1,by have:=hb'.2;omega⟩
  · exact .inr ⟨by have h9:wx.heap.size≤b:=hb'.1;omega,hb'.2⟩
 have hlow:∀ b,(S b∨(w.heap.size+4≤b∧b<wp.heap.size))→b<wp.heap.size∧b≠w.heap.size+2:=fun b hb'=>by
  rcases hb' with hb' | hb'
  · have:=hS b hb';omega
  · exact⟨hb'.2,by have:=hb'.1;omega⟩
 have hst1:=hst.more (S':=fun b=>S b∨(w.heap.size+4≤b∧b<wp.heap.size)) hnew hlow;have hfg:Fr (fun b=>b=g) wr (wp.setCell ⟨w.heap.size+3,0,none⟩ (.slice (some ⟨w.heap.size+2,0,none⟩) s.tabs.length s.tabs.length))→True:=fun _=>trivial;refine⟨(hst1.keep (by simp) (fun b hb'=>hne b ?_) (hne (w.heap.size+2) (by omega))).more (fun b hb'=>hb'.imp id (fun hb'=>⟨hb'.1,by have:=hb'.2;simpa using this⟩)) (fun b hb'=>?_),hok,?_,?_,?_,?_,?_,?_,?_,?_,by simp;omega⟩
 · rcases hb' with hb' | hb'
   · have:=hS b hb';omega
   · have:=hb'.1;omega
 · have:=hlow b (by simpa using hb');simpa using this
 · exact(World.cell?_of_block (hall (w.heap.size) (by omega) (by omega) (by omega))).trans h.b0
 · exact(World.cell?_of_block (hall (w.heap.size) (by omega) (by omega) (by omega))).trans h.b1
 · exact(World.cell?_of_block (hall (w.heap.size+1) (by omega) (by omega) (by omega))).trans h.r0
 · exact(World.frozen?_of_block (hall (w.heap.size+1) (by omega) (by omega) (by omega))).trans h.rf
 · exact World.cell?_setCell_same _ _ _ ((World.cell?_of_block (hblk (w.heap.size+3) (by omega) (by omega))).trans h.t0)
 · rw [World.frozen?_setCell];exact(World.frozen?_of_block (hblk (w.heap.size+3) (by omega) (by omega))).trans h.tf
 · exact h.case.keep (fun b hb'=>hall b (by omega) (by omega) (by omega))
 · have h1:=h.gr;refine⟨?_,?_,?_,by simp;omega,fun b hb1 hb2=>(hall b (by omega) (by omega) (by omega)).trans (h1.block b hb1 hb2)⟩
   · exact hf.os.trans (hb.os.trans h1.os)
   · exact hf.tape.trans (hb.tape.trans h1.tape)
   · exact hf.output.trans (hb.output.trans h1.output)
end
def CntOk (cur:St) (t nn:Nat):Prop:=(∀ j,(cur.getD j []).length≤4)∧(cur.getD t []).length+nn≤4∧∀ j,t<j→cur.getD j []=[]
theorem CntOk.put {cur:St} {t nn:Nat} {P:List Row} (h:CntOk cur t (nn+1)) (ht:t<cur.length) (hP:P.length≤(cur.getD t []).length+1):CntOk (cur.set t P) t nn:=by
 have e1:(cur.set t P).getD t []=P:=(by simp [List.getD,ht]);have e2:∀ j,j≠t→(cur.set t P).getD j []=cur.getD j []:=(fun j hj=>by simp [List.getD,List.getElem?_set_ne (Ne.symm hj)]);refine⟨fun j=>?_,?_,fun j hj=>?_⟩
 · by_cases hj:j=t
   · rw [hj,e1];have:=h.2.1;omega
   · rw [e2 j hj];exact h.1 j
 · rw [e1];have:=h.2.1;omega
 · rw [e2 j (by omega)];exact h.2.2 j hj
theorem Zfg (n j:Nat):(List.replicate n ([]:List Row)).getD j []=[]:=by
 by_cases h:j<n<;>simp [List.getD,h]
def StatePost (s:Sch) (m:Int) (S:Nat→Prop) (w:World) (g:Nat) (e:Ending) (w':World):Prop:=∃ (gt:Nat) (st:St),e=.returned (ZeK (some ⟨gt,0,none⟩) st.length st.length)∧StOk s m st∧(∀ j,(st.getD j []).length≤4)∧w.heap.size≤gt∧StC w' (fun b=>S b∨(gt<b∧b<w'.heap.size)) gt st∧CaseOk w' g∧w.grownBy w' (some g)
theorem state_any (g:Nat) (A0:Option Addr) (c0':Nat) (s:Sch) (m:Int) (S:Nat→Prop) (w:World) (hs:TabS w S A0 s.tabs) (hS:∀ b,S b→b<w.heap.size∧b≠g) (hgs:GenS s) (hm:ZcF m=true) (hc:CaseOk w g) :
  Calls Try.prog 22 #[.pointer (some ⟨g,0,none⟩),sAgg s.version A0 s.tabs.length c0',.int .i64 m] w (StatePost s m S w g):=by
 have hgl:=hc.lt;have hsl:=hgs.len;have HS:=hI hs;have HSG:=hI hS;have HGS:=hI hgs;have HC:=hI hc;have HM:=hI hm;clear hs hgs hc hm;have hmk:∀ w:World,(Instr.makeSlice 54 (.int .i64 (s.tabs.length:Int)) (.int .i64 (s.tabs.length:Int))).run Try.prog w=.ok (.slice (some ⟨w.heap.size,0,none⟩) s.tabs.length s.tabs.length) (w.alloc (.cells (Zau s.tabs.length).toArray 49)):=fun w=>run_make_rows s.tabs.length (by omega) w;go_enter Try.func22,Try.ntmps22
 go_wp2_with fail
 clear hmk;rw [show w.heap.size+1+1+1=w.heap.size+3 from rfl,show w.heap.size+1+1=w.heap.size+2 from rfl];obtain⟨W,hW⟩:∃ W,(((w.alloc (.cells #[.int .i64 s.version,.slice A0 s.tabs.length c0'] 25)).alloc (.cells #[.slice none 0 0] 56)).alloc (.cells (Zau s.tabs.length).toArray 49)).alloc (.cells #[.slice (some ⟨w.heap.size+2,0,none⟩) s.tabs.length s.tabs.length] 56)=W:=⟨_,rfl⟩
 have HI0:=hI (show StI w W g S s A0 c0' m (List.replicate s.tabs.length []) from by
  subst hW;have hb:Below w.heap.size w ((((w.alloc (.cells #[.int .i64 s.version,.slice A0 s.tabs.length c0'] 25)).alloc (.cells #[.slice none 0 0] 56)).alloc (.cells (Zau s.tabs.length).toArray 49)).alloc (.cells #[.slice (some ⟨w.heap.size+2,0,none⟩) s.tabs.length s.tabs.length] 56)):=((((Below.refl w.heap.size w).alloc nR _).alloc (by simp) _).alloc (by simp;omega) _).alloc (by simp;omega) _
  have hg:(((((w.alloc (.cells #[.int .i64 s.version,.slice A0 s.tabs.length c0'] 25)).alloc (.cells #[.slice none 0 0] 56)).alloc (.cells (Zau s.tabs.length).toArray 49)).alloc (.cells #[.slice (some ⟨w.heap.size+2,0,none⟩) s.tabs.length s.tabs.length] 56))).heap[w.heap.size+2]?=some (.cells (Zau s.tabs.length).toArray 49 (0,0)):=by
   refine(Below.heap_alloc _ _ _ (by simp)).trans ?_;have:=heap_alloc_new ((w.alloc (.cells #[.int .i64 s.version,.slice A0 s.tabs.length c0'] 25)).alloc (.cells #[.slice none 0 0] 56)) (.cells (Zau s.tabs.length).toArray 49);simpa using this
  exact⟨(StC.made hg).more (fun _ h=>h.elim) (fun b hb'=>by
   rcases hb' with hb' | hb'
   · have:=HSG.out b hb';simp;omega
   · exact⟨hb'.2,by have:=hb'.1;omega⟩),stOk_nil _ rfl,(Zaj (by simp<;>omega)).trans ((Zaj (by simp<;>omega)).trans ((Zaj (by simp)).trans (Zaf rfl rfl))),(Zaj (by simp<;>omega)).trans ((Zaj (by simp<;>omega)).trans ((Zaj (by simp)).trans (Zaf rfl rfl))),(Zaj (by simp<;>omega)).trans ((Zaj (by simp)).trans (Zaf (by simp) rfl)),(Zcp (by simp<;>omega)).trans ((Zcp (by simp)).trans (ZaO (by simp))),Zaf (by simp) rfl,ZaO (by simp),HC.out.keep (fun b hb'=>hb.block b (by omega)),(Fr.of_below (X:=fun b=>b=g) hb).grown,by simp⟩)
 rw [hW];clear hW HC
 go_loopw [19] (fun i wr=>∃ (t:Nat) (cur:St),t≤s.tabs.length∧i=.int .i64 t∧StI w wr g S s A0 c0' m cur∧(∀ j,(cur.getD j []).length≤4)∧∀ j,t≤j→cur.getD j []=[]) (fun i _=>s.tabs.length - (intOf i).toNat)
 case atStart=>exact⟨0,_,Nat.zero_le _,rfl,HI0.out,fun j=>by rw [Zfg];simp,fun j _=>Zfg _ _⟩
 case round =>
  obtain⟨t,cur,ht,rfl,hi,hc4,hcn⟩:=hrel;have HI:=hI hi;have HC4:=hI hc4;have HCN:=hI hcn;have hsz:=hi.sz;clear hi hc4 hcn
  by_cases htl:t<s.tabs.length
  · go_wp2_with fail
    refine(ZaD g 5 _ (by omega) HI.out.case).mono ?_;rintro e w1 ⟨r,rfl,r0,r1,-,hcr,hgr,hsr⟩;have hr5:=r1 (by omega);obtain⟨nn,rfl⟩:=Int.eq_ofNat_of_zero_le r0;have HI1:=hI (HI.out.keep (ZaR hgr) hcr hgl HSG.out);clear hcr hgr hsr r1
    go_wp2_with fail
    go_loopw [9] (fun i wr=>∃ (nn:Nat) (cur:St),nn≤4∧i=.int .i64 nn∧StI w wr g S s A0 c0' m cur∧CntOk cur t nn) (fun i _=>(intOf i).toNat)
    case atStart=>exact⟨nn,cur,by omega,rfl,HI1.out,HC4.out,by rw [HCN.out t nR];simp;omega,fun j hj=>HCN.out j (by omega)⟩
    case round =>
     clear HI HI1 HC4 HCN hsz;obtain⟨nn,cur,hnn,rfl,hi,hcn⟩:=hrel;have HI:=hI hi;have HCN:=hI hcn;have hsz:=hi.sz;clear hi hcn;rcases Nat.eq_zero_or_pos nn with hn0 | hn0
     · subst hn0
       go_wp2_with fail
       go_roundw
       case rel=>exact⟨t+1,cur,by omega,by go_num,HI.out,HCN.out.1,fun j hj=>HCN.out.2.2 j (by omega)⟩
       case measure=>(simp [intOf];try omega)
     · obtain⟨n1,rfl⟩:∃ n1,nn=n1+1:=⟨nn - 1,by omega⟩;have hSw:∀ b,S b→b<w.heap.size:=fun b hb=>(HSG.out b hb).1;have hsame:Same S w wr:=fun b hb=>HI.out.gr.block b (hSw b hb) (fun e=>(HSG.out b hb).2 (by injection e));have HTW:=hI (HS.out.keep hsame);have hSr:∀ b,S b→b<wr.heap.size:=(fun b hb=>by have:=hSw b hb;omega);obtain⟨bT,oT,rfl,hbT,A1,A2,A3,c1,c2,c3,hta⟩:=HTW.out.at_ htl;have lT:bT<wr.heap.size:=hSr bT hbT;have l0:w.heap.size<wr.heap.size:=(by omega);have hg0:¬ w.heap.size=g:=(by omega);have hgT:¬ bT=g:=(HSG.out bT hbT).2;have u0:=HI.out.b0;have u1:=HI.out.b1;have u2:=hta.key;have hkl:(ZaB s t).length≤1000000:=(by have:=(HGS.out.kinds htl).2;omega);have HFIT:=hI (fun (r:Row) (h:Zfk (s.tabs.getD t t0).key m (ZaB s t) r)=>rowGen_fits HGS.out HM.out htl h);clear hta hsame;generalize (s.tabs.getD t t0).key=ky at u2 HFIT
       go_wp2_with fail
       refine tS (fun w'=>w'.cell? ⟨w.heap.size,0,none⟩=some (.int .i64 s.version)∧w'.cell? ⟨w.heap.size,1,none⟩=some (.slice (some ⟨bT,oT,none⟩) s.tabs.length c0')∧w'.cell? ⟨bT,oT+t*5+2,none⟩=some (.int .i64 ky)) 13 13 fun Q' HQ HP=>?_;refine tX 0 28 1 29 2 30 4 32 (bA 13 23) HP.out ⟨u0,u1,u2⟩ ?_;refine tX 5 33 6 34 7 35 8 36 (bA 13 503) HP.out ⟨u0,u1,u2⟩ ?_;refine tW 9 37 10 38 (bA 13 2039) HP.out ⟨u0,u1,u2⟩ ?_;refine tQ 3 (some 31) (bA 13 2047) fun K HK=>?_;go_simp;refine(ZdV (some ⟨bT,oT,none⟩) c0' s t S wr.drew (HTW.out.keep (fun _ _=>rfl)) hSr).mono ?_;rintro e wk ⟨KA,kc,rfl,hks,hkc,-,hbk0⟩;have hbk:Below wr.heap.size wr wk:=(Below.refl _ wr).drew.trans hbk0;have hzk:=hbk.size;have HKS:=hI hks;clear hks hbk0;have p0:=cQ hbk l0 u0;have p1:=cQ hbk l0 u1;have p2:=cQ hbk lT u2;refine HK.out _ _ (fun _=>⟨p0,p1,p2⟩) ?_;clear HK K
       try simp only [Act.put,psA,psB,psC]
       refine tQ 11 (some 39) (bA 13 4095) fun K HK=>?_;go_simp;refine(row_any g KA kc (ZaB s t) ky m (New wr.drew wk) wk HKS.out (fun b hb=>⟨hb.2,by have h9:wr.heap.size≤b:=hb.1;omega⟩) hkl (HI.out.case.keep (fun b hb=>hbk.block b (by omega)))).mono ?_;rintro e wq ⟨row,RA,rc,rfl,hgen,hrow,hcq,hgq⟩;have hzq:=hgq.size;have HGEN:=hI hgen;have HROW:=hI (Zbj hrow (Zev HGEN.out hkl) nR);have HFQ:=hI (show Fr (fun b=>b=g) wr wq from (Fr.of_below hbk).trans (ZaR hgq) (fun _ _ e=>e));have HIQ:=hI (HI.out.keep HFQ.out hcq hgl HSG.out);clear hgen hrow hcq;have q0:=(HFQ.out.cell (b:=w.heap.size) l0 hg0).trans u0;have q1:=(HFQ.out.cell (b:=w.heap.size) l0 hg0).trans u1;have q2:=(HFQ.out.cell (b:=bT) lT hgT).trans u2;clear hgq;refine HK.out _ _ (fun _=>⟨q0,q1,q2⟩) ?_;clear HK K
       try simp only [Act.put,psA,psB,psC]
       refine tJ 12 10 (bA 13 8191) HP.out ⟨q0,q1,q2⟩ ?_;refine tE HQ ?_;clear HQ HP Q';have HTQ:=hI (HTW.out.keep (HFQ.out.same (fun b hb=>⟨hSr b hb,(HSG.out b hb).2⟩)));have hsq:=HIQ.out.sz;clear p0 p1 p2 u0 u1 u2 q2;have u0:=q0;have u1:=q1;have u2:=HIQ.out.t0;clear q0 q1;have hqq:wr.heap.size≤wq.heap.size:=HFQ.out.size
       go_wp2_with fail
       refine tS (fun w'=>w'.cell? ⟨w.heap.size,0,none⟩=some (.int .i64 s.version)∧w'.cell? ⟨w.heap.size,1,none⟩=some (.slice (some ⟨bT,oT,none⟩) s.tabs.length c0')∧w'.cell? ⟨w.heap.size+3,0,none⟩=some (.slice (some ⟨w.heap.size+2,0,none⟩) s.tabs.length s.tabs.length)) 9 10 fun Q' HQ HP=>?_;refine tX 0 40 1 41 2 42 3 43 (bA 10 15) HP.out ⟨u0,u1,u2⟩ ?_;refine tW 4 44 5 45 (bA 10 63) HP.out ⟨u0,u1,u2⟩ ?_;refine tJ 7 47 (bA 10 191) HP.out ⟨u0,u1,u2⟩ ?_;refine tQ 6 (some 46) (bA 10 255) fun K HK=>?_;go_simp;refine(ZeY (some ⟨bT,oT,none⟩) c0' s t RA rc row (fun b=>b<wq.heap.size) wq.drew ((HTQ.out.keep (w':=wq.drew) (fun _ _=>rfl)).more (fun b hb=>by have:=hSr b hb;show b<wq.heap.size;omega)) ((HROW.out.2.keep (w':=wq.drew) (fun _ _=>rfl)).more (fun b hb=>hb.2)) HROW.out.1 (fun b hb=>hb)).mono ?_;rintro e wk ⟨KA2,kc2,rfl,hkey,hbk0⟩;have hbk:Below wq.heap.size wq wk:=(Below.refl _ wq).drew.trans hbk0;have hzk2:=hbk.size;have HKEY:=hI (Zbj hkey (rowOk_key (s:=s) (t:=t) (Zev HGEN.out hkl)) (show wq.heap.size≤_ from Nat.le_refl _));clear hkey hbk0;have p0:=cK hbk u0;have p1:=cK hbk u1;have p2:=cK hbk u2;refine HK.out _ _ (fun _=>⟨p0,p1,p2⟩) ?_;clear HK K
       try simp only [Act.put,psA,psB,psC]
       refine tQ 8 (some 48) (bA 10 511) fun K HK=>?_;go_simp;have HST:=hI (HIQ.out.stc.below hbk);have hlen2:=HIQ.out.ok.1;have hput:=rput_any (some ⟨bT,oT,none⟩) c0' s (w.heap.size+2) s.tabs.length cur t KA2 kc2 (keyF s t row) RA rc row (fun b=>S b∨(w.heap.size+4≤b∧b<wk.heap.size)) wk ((HTQ.out.keep (Same.of_below hbk (fun b hb=>by have:=hSr b hb;omega))).more (fun b hb=>.inl hb)) (HST.out.more (fun b hb=>hb.imp id (fun hb=>⟨hb.1,by have:=hb.2;omega⟩)) (fun b hb=>by rcases hb with hb | hb;{ have:=HSG.out b hb;omega };exact⟨hb.2,by have:=hb.1;omega⟩)) (HKEY.out.2.more (fun b hb=>.inr ⟨by have h9:wq.heap.size≤b:=hb.1;omega,hb.2⟩)) ((HROW.out.2.keep (Same.of_below hbk (fun b hb=>hb.2))).more (fun b hb=>.inr ⟨by have h9:_≤b:=hb.1;omega,by have:=hb.2;omega⟩)) htl (by omega) (by have:=HCN.out.1 t;omega) (by omega);rw [hlen2] at hput;refine hput.mono ?_;rintro e wp ⟨rfl,hstp,hfp⟩;have HSTP:=hI hstp;have HFP:=hI hfp;have hzp:=hfp.size;clear hput hstp hfp;have q0:=(HFP.out.cell (b:=w.heap.size) (by omega) (by omega)).trans p0;have q1:=(HFP.out.cell (b:=w.heap.size) (by omega) (by omega)).trans p1;have q2:=(HFP.out.cell (b:=w.heap.size+3) (by omega) (by omega)).trans p2;refine HK.out _ _ (fun _=>⟨q0,q1,q2⟩) ?_;clear HK K
       try simp only [Act.put,psA,psB,psC]
       refine tQ 9 none (bA 10 1023) fun K HK=>?_;have tf:=(HFP.out.frozenF (b:=w.heap.size+3) (o:=0) (by omega) (by omega)).trans ((hbk.frozen (p:=⟨w.heap.size+3,0,none⟩) (by show _<_;simp;omega)).trans HIQ.out.tf);go_simp;refine HK.out _ _ (fun h=>absurd rfl h) ?_;clear HK K;refine tE HQ ?_;clear HQ HP Q';have hok:=put_ok HIQ.out.ok (t:=t) (by rw [HIQ.out.ok.1];exact htl) (key:=keyF s t row) (row:=row) (fun _=>rfl) (fun _=>HFIT.out row HGEN.out);have HF:=hI (HIQ.out.put hgl HSG.out hbk HSTP.out HFP.out hok.1)
       go_wp2_with fail
       go_roundw
       case rel=>exact⟨n1,_,by omega,by go_num,HF.out,HCN.out.put (by rw [HIQ.out.ok.1];exact htl) (by rw [hok.2];exact putL_len _ _ _ _)⟩
       case measure=>(simp [intOf];try omega)
  · have r0:=HI.out.r0;have rf:=HI.out.rf;have t0':=HI.out.t0;have hl3:w.heap.size+3<wr.heap.size:=(by omega);have hl1:w.heap.size+1<wr.heap.size:=by omega
    go_wp2_with fail
    have x0:(wr.setCell ⟨w.heap.size+1,0,none⟩ (.slice (some ⟨w.heap.size+2,0,none⟩) s.tabs.length s.tabs.length)).cell? ⟨w.heap.size+1,0,none⟩=some (.slice (some ⟨w.heap.size+2,0,none⟩) s.tabs.length s.tabs.length):=World.cell?_setCell_same _ _ _ r0;have hne:∀ b,b≠w.heap.size+1→(wr.setCell ⟨w.heap.size+1,0,none⟩ (.slice (some ⟨w.heap.size+2,0,none⟩) s.tabs.length s.tabs.length)).heap[b]?=wr.heap[b]?:=fun b hb=>Below.heap_setCell wr ⟨w.heap.size+1,0,none⟩ _ b hb;have hlen:=HI.out.ok.1
    have hst:=(HI.out.stc.keep (w':=wr.setCell ⟨w.heap.size+1,0,none⟩ (.slice (some ⟨w.heap.size+2,0,none⟩) s.tabs.length s.tabs.length)) (by simp) (fun b hb=>hne b (by rcases hb with hb | hb;{ have:=HSG.out b hb;omega };have:=hb.1;omega)) (hne (w.heap.size+2) (by omega))).more (S':=fun b=>S b∨(w.heap.size+2<b∧b<(wr.setCell ⟨w.heap.size+1,0,none⟩ (.slice (some ⟨w.heap.size+2,0,none⟩) s.tabs.length s.tabs.length)).heap.size)) (fun b hb=>hb.imp id (fun hb=>⟨by have:=hb.1;omega,by have:=hb.2;simpa using this⟩)) (fun b hb=>by
     rcases hb with hb | hb
     · have:=HSG.out b hb;simp;omega
     · exact⟨hb.2,by have:=hb.1;omega⟩)
    exact bodyPost_ret (v:=ZeK (some ⟨w.heap.size+2,0,none⟩) s.tabs.length s.tabs.length) (by simp [results,Try.results22,go_sem,x0]) rfl ⟨w.heap.size+2,cur,by rw [hlen],HI.out.ok,HC4.out,by omega,hst,Zab HI.out.case (by omega),Zac HI.out.gr (by omega)⟩
open Go
theorem run_copy_rowK {P:Program} (w:World) (dT sT ty elem:TypeId) (k g o dLen dCap:Nat) (a:Addr) (sLen sCap:Nat) (cur:Array Value) (t:TypeId) (cs:List Value) (m:Nat)
  (hu:P.underlying dT=some (.slice elem)) (hs:(P.info? elem).map (·.size)=some k)
  (hg:w.heap[g]?=some (.cells cur t (0,0))) (hm:m=Nat.min sLen dLen) (hn:cs.length=m*k)
  (hsrc:∀ j v,cs[j]?=some v→w.cell? (a.add j)=some v) (hfit:o+cs.length≤cur.size) (h1:∀ v ∈ cs,v.oneCell'=true) :
  (Builtin.copy_ #[dT,sT] ty #[.slice (some ⟨g,o,none⟩) dLen dCap,.slice (some a) sLen sCap]).run P w =
   .ok (goInt m) (w.setRow g (cur.toList.take o++cs++cur.toList.drop (o+cs.length)).toArray):=by
 have hl:=run_loadCells_list (P:=P) w a cs hsrc;have hst:=run_storeCells_at P g o t cs 0 cur w hg (by simpa using hfit) h1;rw [hn] at hl;cases hq:P.info? elem with
 | none=>simp [hq] at hs
 | some i =>
  have hi:i.size=k:=(by simpa [hq] using hs);simp [Builtin.copy_,run_underlying hu,Builtin.lenOf,Builtin.firstCells,sizeOf,typeInfo,hq,hi,←hm,hl,hst]
theorem wpList_copy_k {P:Program} {w:World} {ops:Array Oper} {rest:List Oper} {o:Oper} {a:Act} {Q:Exit→Act→World→Prop} (hgd:o.guard=none) (d s:Operand) (dT sT:TypeId)
  (ho:o.op=.call { callee:=.builtin .copy,args:=#[d,s],argTypes:=#[dT,sT] }) (elem:TypeId) (k:Nat) (hu:P.underlying dT=some (.slice elem)) (hsz:(P.info? elem).map (·.size)=some k)
  (g dLen dCap:Nat) (ad:Addr) (sLen sCap:Nat) (hd:a.eval d=.slice (some ⟨g,0,none⟩) dLen dCap) (hs:a.eval s=.slice (some ad) sLen sCap)
  (cur:List Value) (t:TypeId) (hg:w.heap[g]?=some (.cells cur.toArray t (0,0))) (cs:List Value) (m:Nat) (hm:m=Nat.min sLen dLen) (hn:cs.length=m*k)
  (hsrc:∀ j v,cs[j]?=some v→w.cell? (ad.add j)=some v) (hfit:cs.length≤cur.length) (h1:∀ v ∈ cs,v.oneCell'=true)
  (h:∀ w',w'.heap[g]?=some (.cells (cs++cur.drop cs.length).toArray t (0,0))→Fr (fun b=>b=g) w w'→wpList P ops Q rest (a.put o.dst (goInt m)) w'):wpList P ops Q (o :: rest) a w:=by
 refine wpList_plain hgd fun K hK=>?_;have hrun:=run_copy_rowK (P:=P) w dT sT o.type elem k g 0 dLen dCap ad sLen sCap cur.toArray t cs m hu hsz hg hm hn hsrc (by simpa using hfit) h1;unfold Oper.wp;simp only [execOp,ho,resolve,invoke,builtin,hd,hs];simp [hd,hs,hrun,Result.andThen];refine hK _ _ (h _ ?_ ?_)
 · have:=setRow_heap w g cur.toArray (cs++cur.drop cs.length).toArray t _ hg;simpa using this
 · exact⟨rfl,rfl,rfl,by simp [World.setRow],fun b hb hne=>setRow_other w g b _ hne⟩
theorem ZdI {m key:Int}:∀ {cs:List Col} {r:Row} {i:Nat},Zav m key i cs r=true→r.length=cs.length→∀ j,j<cs.length→Zaq m key (cs.getD j c0).kind (i+j) (r.getD j v0)=true
 | [],r,i,_,_,j,hj=>by simp at hj
 | c :: cs,[],i,_,h,j,_=>by simp at h
 | c :: cs,v :: r,i,hf,h,j,hj=>by
  simp only [Zav,Bool.and_eq_true] at hf;cases j with
  | zero=>simpa using hf.1
  | succ j =>
   have:=ZdI hf.2 (by simpa using h) j (by simpa using hj);rw [show i+1+j=i+(j+1) by omega] at this;simpa using this
theorem Zfy {s:Sch} {t:Nat} (ht:t<s.tabs.length) (r:Row):keyF s t r=r.take (keyN (s.tabs.getD t t0).key r):=by
 unfold keyF hasN;rw [if_pos (by simp;omega),Int.toNat_natCast]
section
variable {w wr wx wl wp:World} {B0 gt cap g:Nat} {S:Nat→Prop} {s:Sch} {A0:Option Addr} {c0':Nat} {cur cur':St} {l:List Chg} {A A':Option Addr} {c c':Nat}
end
section
variable {wr W W':World} {g xb:Nat} {X:List Value} {A:Option Addr} {c:Nat} {r:Row}
end
structure Kp (g:Nat) (w w':World):Prop where
 sz:w.heap.size≤w'.heap.size
 blk:∀ b,b<w.heap.size→b≠g→w'.heap[b]?=w.heap[b]?
abbrev LtG (w:World) (g:Nat):Nat→Prop:=fun b=>b<w.heap.size∧b≠g
def Bx (w:World) (g b:Nat) (vs:Array Value) (t:TypeId):Prop:=w.heap[b]?=some (.cells vs t (0,0))∧b≠g
section
variable {g:Nat} {w w':World} {A:Option Addr}
theorem Kp.below (h:Below w.heap.size w w'):Kp g w w':=⟨h.size,fun b hb _=>h.block b hb⟩
theorem Kp.grown (h:w.grownBy w' (some g)):Kp g w w':=⟨h.size,fun b hb hn=>h.block b hb (fun e=>by injection e with e;exact hn e)⟩
theorem Kp.lt (k:Kp g w w'):∀ b,LtG w g b→LtG w' g b:=fun b hb=>⟨by have:=k.sz;have:=hb.1;omega,hb.2⟩
theorem Kp.sl {l:List Dat} (k:Kp g w w') (h:Sl w (LtG w g) A l):Sl w' (LtG w' g) A l:=Sl.more (Sl.keep h (fun b hb=>k.blk b hb.1 hb.2)) k.lt
theorem Kp.tab {l:List Tab} (k:Kp g w w') (h:TabS w (LtG w g) A l):TabS w' (LtG w' g) A l:=k.sl h
theorem Kp.st {l:St} (k:Kp g w w') (h:StS w (LtG w g) A l):StS w' (LtG w' g) A l:=k.sl h
theorem Kp.row {l:Row} (k:Kp g w w') (h:RowS w (LtG w g) A l):RowS w' (LtG w' g) A l:=k.sl h
theorem Kp.bx {b:Nat} {vs:Array Value} {t:TypeId} (k:Kp g w w') (h:Bx w g b vs t):Bx w' g b vs t:=⟨(k.blk b (Zah h.1) h.2).trans h.1,h.2⟩
theorem Bx.lt {b:Nat} {vs:Array Value} {t:TypeId} (h:Bx w g b vs t):b<w.heap.size:=Zah h.1
theorem Bx.at_ {b:Nat} {vs:Array Value} {t:TypeId} (h:Bx w g b vs t) (j:Nat) (u:Value) (hu:vs.toList[j]?=some u):w.cell? ⟨b,j,none⟩=some u:=by
 have:=Zaa h.1 j u hu;rwa [Nat.zero_add] at this
theorem Bx.grow {b:Nat} {vs:Array Value} {t:TypeId} (h:Bx w g b vs t):LtG w g b:=⟨h.lt,h.2⟩
end
end Go.Proofs.Ytkpjjfhfbpfjpaa
