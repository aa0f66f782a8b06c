import Derived.Test.YtkpjjfhfbpfjpaaKffbf8f
set_option linter.unusedVariables false
set_option linter.unusedSimpArgs false
set_option maxRecDepth 100000
set_option maxHeartbeats 8000000
namespace Go.Proofs.Ytkpjjfhfbpfjpaa
open Go.RowKit
theorem rput_drop (s:Sch) (t:Int) (key row:Row) (d:Bool) {l:List Row} {k:Nat} (h:k<l.length):rput s t key row d (l.drop k)=(if 0≤cmpR (keyF s t (l.getD k [])) key∧d=false then [row] else [])++((if cmpR (keyF s t (l.getD k [])) key≠0 then [l.getD k []] else [])++rput s t key row (d||decide (0≤cmpR (keyF s t (l.getD k [])) key)) (l.drop (k+1))):=by
 have e:l.getD k []=l[k]:=(by simp [List.getD,h]);rw [List.drop_eq_getElem_cons h,e,rput]
structure PutI (w wr:World) (S:Nat→Prop) (s:Sch) (A0:Option Addr) (c0' gt n ca k:Nat) (d:Bool) (P rest:List Row) (A:Option Addr) (m c:Nat) (L:List Row):Prop where
 mkl:Mk wr (w.heap.size+3) S 27 1 (.slice A m c) (L.map ZaJ)
 le:L.length≤k+d.toNat
 bel:Below w.heap.size w wr
 res:P=L++rest
 s0:wr.cell? ⟨w.heap.size,0,none⟩=some (.int .i64 s.version)
 s1:wr.cell? ⟨w.heap.size,1,none⟩=some (.slice A0 s.tabs.length c0')
 t0:wr.cell? ⟨w.heap.size+1,0,none⟩=some (.slice (some ⟨gt,0,none⟩) n ca)
 r0:wr.cell? ⟨w.heap.size+2,0,none⟩=some (.slice none 0 0)
 fz:wr.frozen? ⟨w.heap.size+2,0,none⟩=false
 sz:w.heap.size+3≤wr.heap.size
section
variable {w wa wb:World} {S:Nat→Prop} {s:Sch} {A0 A A':Option Addr} {c0' gt n ca k k' m m' c c':Nat} {d d':Bool} {P rest rest' L L':List Row}
theorem PutI.len (h:PutI w wa S s A0 c0' gt n ca k d P rest A m c L):m=L.length:=by have:=h.mkl.len;simpa using this
theorem PutI.step (h:PutI w wa S s A0 c0' gt n ca k d P rest A m c L) (hb:Below (w.heap.size+3) wa wb) (hm:Mk wb (w.heap.size+3) S 27 1 (.slice A' m' c') (L'.map ZaJ)) (hl:L'.length≤k'+d'.toNat) (hr:P=L'++rest'):PutI w wb S s A0 c0' gt n ca k' d' P rest' A' m' c' L' :=
 ⟨hm,hl,h.bel.trans (hb.mono (by omega)),hr,c9J hb h.s0,c9J hb h.s1,c9J hb h.t0,c9J hb h.r0,(hb.frozen (p:=⟨w.heap.size+2,0,none⟩) (by show w.heap.size+2<_;omega)).trans h.fz,Nat.le_trans h.sz hb.size⟩
theorem PutI.below (h:PutI w wa S s A0 c0' gt n ca k d P rest A m c L) (hb:Below wa.heap.size wa wb):PutI w wb S s A0 c0' gt n ca k d P rest A m c L:=h.step (hb.mono h.sz) (h.mkl.below hb) h.le h.res
end
def PutPost (S:Nat→Prop) (gt n ca:Nat) (st:St) (w:World) (e:Ending) (w':World):Prop:=e=.returned (Zay (some ⟨gt,0,none⟩) n ca)∧StC w' (fun b=>S b∨New w w' b) gt st∧Fr (fun b=>b=gt) w w'
theorem put_fin {w wf:World} {S:Nat→Prop} {s:Sch} {A0 A:Option Addr} {c0' gt ca k m c:Nat} {d:Bool} {P L:List Row} {st:St} {t:Nat} (h:PutI w wf S s A0 c0' gt st.length ca k d P [] A m c L) (hst:StC w S gt st) (ht2:t<st.length) (hl:L.length≤5000000) (u v:Value) :
  StC ((wf.setCell ⟨gt,t,none⟩ (.slice A m c)).setCell ⟨w.heap.size+2,0,none⟩ v) (fun b=>S b∨New w ((wf.setCell ⟨gt,t,none⟩ (.slice A m c)).setCell ⟨w.heap.size+2,0,none⟩ v) b) gt (st.set t P)∧Fr (fun b=>b=gt) w ((wf.setCell ⟨gt,t,none⟩ (.slice A m c)).setCell ⟨w.heap.size+2,0,none⟩ v):=by
 have hgt:=hst.lt;have hsz:=h.sz;have hS:∀ b,S b→b<w.heap.size∧b≠gt:=(fun b hb=>by obtain⟨_,_,_,h3⟩:=hst;exact h3 b hb);obtain⟨hn,hc,hrs⟩:=h.mkl.slice (by rw [Zag (n:=24) (fun _=>rfl)];omega);have e:m=L.length:=h.len;subst e;have hP:P=L:=(by have:=h.res;simpa using this);subst hP
 have h1:StC wf (fun b=>S b∨(w.heap.size+3≤b∧b<wf.heap.size)) gt st:=(hst.below h.bel).more (fun b hb=>.inl hb) (fun b hb=>by
  rcases hb with hb | hb
  · have:=hS b hb;exact⟨by omega,this.2⟩
  · exact⟨hb.2,by have:=hb.1;omega⟩)
 have h2:=h1.put (k:=t) (by simpa using ht2) hc (show RowsS wf (fun b=>S b∨(w.heap.size+3≤b∧b<wf.heap.size)) A P from hrs);have h3:Fr (fun b=>b=gt) w (wf.setCell ⟨gt,t,none⟩ (.slice A P.length c)):=Fr.setCell (X:=fun b=>b=gt) (Fr.of_below h.bel) _ (fun _=>rfl);have h4:Fr (fun b=>b=gt) w ((wf.setCell ⟨gt,t,none⟩ (.slice A P.length c)).setCell ⟨w.heap.size+2,0,none⟩ v):=Fr.setCell (X:=fun b=>b=gt) (g:=w.heap.size+2) h3 v (fun hx=>absurd hx (by show ¬ w.heap.size+2<w.heap.size;omega));refine⟨(h2.keep (by simp) (fun b hb=>?_) (Below.heap_setCell _ ⟨w.heap.size+2,0,none⟩ _ gt (by show gt≠w.heap.size+2;omega))).more (fun b hb=>hb.imp id (fun hb=>⟨by omega,by have:=hb.2;simpa using this⟩)) (fun b hb=>?_),h4⟩
 · refine Below.heap_setCell _ ⟨w.heap.size+2,0,none⟩ _ b ?_;rcases hb with hb | hb
   · have:=hS b hb;show b≠w.heap.size+2;omega
   · have:=hb.1;show b≠w.heap.size+2;omega
 · rcases hb with hb | hb
   · have:=hS b hb;simp;omega
   · have h5:=hb.2;simp at h5 ⊢;have:=hb.1;omega
theorem rput_any (A0:Option Addr) (c0':Nat) (s:Sch) (gt ca:Nat) (st:St) (t:Nat) (AK:Option Addr) (ck:Nat) (key:Row) (AR:Option Addr) (cr:Nat) (row0:Row) (S:Nat→Prop) (w:World) (hs:TabS w S A0 s.tabs) (hst:StC w S gt st) (hk:RowS w S AK key) (hr:RowS w S AR row0) (ht1:t<s.tabs.length) (ht2:t<st.length) (hll:(st.getD t []).length≤1000000) (hnl:st.length≤1000000) :
  Calls Try.prog 64 #[sAgg s.version A0 s.tabs.length c0',Zay (some ⟨gt,0,none⟩) st.length ca,.int .i64 (t:Int),.slice AK key.length ck,.slice AR row0.length cr] w (PutPost S gt st.length ca (st.set t (putR s t key row0 (st.getD t []))) w):=by
 obtain⟨i0,hi,hz0,hz1,hz2⟩:=info_parts ZgH;have hS:∀ b,S b→b<w.heap.size:=(fun b hb=>by obtain⟨_,_,_,h3⟩:=hst;exact(h3 b hb).1);have hgt:=hst.lt;have hgt1:gt<w.heap.size+1:=(by omega);have hgt2:gt<w.heap.size+1+1:=(by omega);have hsl:=hs.len;have hkl:=hk.len;have hrl0:=hr.len;obtain⟨hfz0,A',c',d1,d2,d3⟩:=hst.at_ ht2;have HS:=hI hs;have HST:=hI hst;have HK:=hI hk;have HR0:=hI hr;have HRS:=hI d3;have HFZ:=hI hfz0;clear hs hst hk hr d2 d3 hfz0;obtain⟨rows,hrows⟩:∃ rows,st.getD t []=rows:=⟨_,rfl⟩;rw [hrows] at d1 HRS hll ⊢;clear hrows;have HD1:=hI d1;obtain⟨P,hP⟩:∃ P,putR s t key row0 rows=P:=⟨_,rfl⟩;obtain⟨d0,hd0⟩:∃ d0:Bool,((row0.length:Int) == 0)=d0:=⟨_,rfl⟩;have hp0:P=rput s t key row0 d0 rows:=(by rw [←hP,←hd0,putR];congr 1;rw [Bool.eq_iff_iff];simp);rw [hP];clear hP;have HB0:=hI ((((Below.refl w.heap.size w).alloc nR (.cells #[.int .i64 s.version,.slice A0 s.tabs.length c0'] 25)).alloc (by simp) (.cells #[.slice (some ⟨gt,0,none⟩) st.length ca] 56)).alloc (by simp;omega) (.cells #[.slice none 0 0] 56))
 have HI0:=hI (show PutI w (((w.alloc (.cells #[.int .i64 s.version,.slice A0 s.tabs.length c0'] 25)).alloc (.cells #[.slice (some ⟨gt,0,none⟩) st.length ca] 56)).alloc (.cells #[.slice none 0 0] 56)) S s A0 c0' gt st.length ca 0 d0 P (rput s t key row0 d0 (rows.drop 0)) none 0 0 [] from
  ⟨Mk.start (fun b hb=>by have:=hS b hb;omega) (by simp) _ _,by simp,HB0.out,hp0,(Zah (by simp;omega)).trans ((Zah (by simp)).trans (Zae rfl rfl)),(Zah (by simp;omega)).trans ((Zah (by simp)).trans (Zae rfl rfl)),(Zah (by simp)).trans (Zae (by simp) rfl),Zae (by simp) rfl,Zbk (by simp),by simp⟩)
 clear hp0;go_enter Try.func64,Try.ntmps64
 go_wp2_with fail
 go_loopw [11,12,25] (fun out done i wr=>∃ (k:Nat) (d:Bool) (A:Option Addr) (m c:Nat) (L:List Row),k≤rows.length∧i=.int .i64 k∧done=.bool d∧out=.slice A m c∧PutI w wr S s A0 c0' gt st.length ca k d P (rput s t key row0 d (rows.drop k)) A m c L) (fun _ _ i _=>rows.length - (intOf i).toNat)
 case atStart=>exact⟨0,d0,none,0,0,[],Nat.zero_le _,rfl,rfl,rfl,HI0.out⟩
 case round =>
  obtain⟨k,d,A,m,c,L,hk,rfl,rfl,rfl,hpi⟩:=hrel;have HPI:=hI hpi;have s0:=hpi.s0;have s1:=hpi.s1;have t0':=hpi.t0;have hsz:=hpi.sz;have hml:=hpi.len;have hle:=hpi.le;have hdn:d.toNat≤1:=(by cases d<;>simp);have hm1:m≤k+1:=(by omega);have HML:=hI hml;clear hpi hml hle d1 hd0
  by_cases hlt:k<rows.length
  · obtain⟨b2,o2,rfl,hb2,A2,c2,f1,f2,f3⟩:=(HRS.out.keep (Same.of_below HPI.out.bel hS)).at_ hlt;have hl2:b2<wr.heap.size:=(by have:=hS b2 hb2;omega);have HSTEP:=hI (rput_drop s t key row0 d hlt);have HROW:=hI f3;have HC:=hI f2;have hrw:=f3.len;obtain⟨row,hrow⟩:∃ row,rows.getD k []=row:=⟨_,rfl⟩;clear f2 f3;rw [hrow] at f1 HROW HC hrw HSTEP;clear hrow;have hSr:∀ b,S b→b<wr.heap.size:=fun b hb=>by have:=hS b hb;omega
    go_wp2_with fail
    refine(Zhp A0 c0' s t A2 c2 row S _ (HS.out.keep (Same.of_below HPI.out.bel hS)) HROW.out HC.out hSr).mono ?_;rintro e w1 ⟨A3,c3,rfl,h3,hb3⟩;have hokk:RowOk (keyF s t row):=((HROW.out.key s t (A':=A2) (fun _=>rfl))).ok;have HKR:=hI ((ZcW hokk h3).more (S':=fun b=>b<w1.heap.size) (fun b hb=>hb.2));have HB3:=hI hb3;have hz3:=hb3.size;clear hb3 h3 hokk
    go_wp2_with fail
    refine(ZbG A3 AK c3 ck (keyF s t row) key (fun b=>b<w1.heap.size) _ HKR.out ((HK.out.keep (Same.of_below (HPI.out.bel.trans (HB3.out.mono (by omega))) hS)).more (fun b hb=>by have:=hS b hb;omega)) (fun b hb=>hb)).mono ?_;rintro e w2 ⟨rfl,hb4⟩;have HB4:=hI (HB3.out.trans (hb4.mono hz3));have HX:=hI (HPI.out.below HB4.out);have hz2':=HB4.out.size;have ROWX:=hI (HROW.out.keep (Same.of_below HB4.out hSr));have R0X:=hI (HR0.out.keep (Same.of_below HX.out.bel hS));have MKX:=hI HX.out.mkl;clear hb4 s0 s1 t0' f1;obtain⟨cv,hcv⟩:∃ cv,cmpR (keyF s t row) key=cv:=⟨_,rfl⟩;have hrng:=cmpR_is.rng (keyF s t row) key;rw [hcv] at hrng HSTEP ⊢;clear hcv;rcases hrng with rfl | rfl | rfl
    · have HR:=hI (show P=(L++[row])++rput s t key row0 d (rows.drop (k+1)) by rw [HX.out.res,HSTEP.out];simp)
      go_wp2_with (at_builtin;refine Zap rfl (.tmp 48) (.tmp 50) 49 rfl (w.heap.size+3) S 27 i0 _ 1 24 Try.underlying49 hi hz0 hz1 hz2 rfl (by decide) _ _ _ _ _ MKX.out rfl (ZaJ row) #[.slice A2 row.length c2] (ZbL HC.out (ROWX.out.more (fun b hb=>.inl hb))) (by simp [ZaJ,Dat.Plain]) rfl 1 rfl (by omega) (by omega) ?_;intro g5 cap5 w5 hm5 hb5 hlt5;have MK5:=hI hm5;have HB5:=hI hb5;have hz5:=hb5.size;clear hm5 hb5)
      go_roundw
      case rel=>exact⟨k+1,d,_,_,_,(L++[row]),by omega,by go_num,rfl,rfl,HX.out.step HB5.out (by rw [List.map_append];exact MK5.out) (by have:=HX.out.le;simp at this ⊢;omega) HR.out⟩
      case measure=>simp [intOf];omega
    · cases d
      · have HR:=hI (show P=(L++[row0])++rput s t key row0 true (rows.drop (k+1)) by rw [HX.out.res,HSTEP.out];simp)
        go_wp2_with fail
        refine(ZdK AR cr row0 S _ R0X.out).mono ?_;rintro e w4 ⟨A4,c4,rfl,h4,hb4⟩;have HBC:=hI hb4;have MKX:=hI (HX.out.mkl.below hb4);have N4:=hI (ZbW h4 R0X.out.ok nR);have hz4:=hb4.size;clear h4 hb4
        go_wp2_with (at_builtin;refine Zap rfl (.tmp 41) (.tmp 44) 49 rfl (w.heap.size+3) S 27 i0 _ 1 24 Try.underlying49 hi hz0 hz1 hz2 rfl (by decide) _ _ _ _ _ MKX.out rfl (ZaJ row0) #[.slice A4 row0.length c4] (ZbL N4.out.1 (N4.out.2.more (fun b hb=>.inr ⟨by have:=HX.out.sz;omega,hb.2,fun e=>by have:=(HX.out.mkl.base_le e.symm).2;omega⟩))) (by simp [ZaJ,Dat.Plain]) rfl 1 rfl (by omega) (by omega) ?_;intro g6 cap6 w6 hm6 hb6 hlt6;have MK6:=hI hm6;have HB6:=hI hb6;have hz6:=hb6.size;clear hm6 hb6)
        go_roundw
        case rel=>exact⟨k+1,true,_,_,_,(L++[row0]),by omega,by go_num,rfl,rfl,HX.out.step ((HBC.out.mono (by have:=HX.out.sz;omega)).trans HB6.out) (by rw [List.map_append];exact MK6.out) (by have:=HX.out.le;simp at this ⊢;omega) HR.out⟩
        case measure=>simp [intOf];omega
      · have HR:=hI (show P=L++rput s t key row0 true (rows.drop (k+1)) by rw [HX.out.res,HSTEP.out];simp)
        go_wp2_with fail
        go_roundw
        case rel=>exact⟨k+1,true,_,_,_,L,by omega,by go_num,rfl,rfl,HX.out.step (Below.refl _ _) HX.out.mkl (by have:=HX.out.le;simp at this ⊢;omega) HR.out⟩
        case measure=>simp [intOf];omega
    · cases d
      · have HR:=hI (show P=(L++[row0]++[row])++rput s t key row0 true (rows.drop (k+1)) by rw [HX.out.res,HSTEP.out];simp)
        go_wp2_with fail
        refine(ZdK AR cr row0 S _ R0X.out).mono ?_;rintro e w4 ⟨A4,c4,rfl,h4,hb4⟩;have HBC:=hI hb4;have MKX:=hI (HX.out.mkl.below hb4);have N4:=hI (ZbW h4 R0X.out.ok nR);have hz4:=hb4.size;clear h4 hb4
        go_wp2_with (first | (at_builtin;refine Zap rfl (.tmp 41) (.tmp 44) 49 rfl (w.heap.size+3) S 27 i0 _ 1 24 Try.underlying49 hi hz0 hz1 hz2 rfl (by decide) _ _ _ _ _ MKX.out rfl (ZaJ row0) #[.slice A4 row0.length c4] (ZbL N4.out.1 (N4.out.2.more (fun b hb=>.inr ⟨by have:=HX.out.sz;omega,hb.2,fun e=>by have:=(HX.out.mkl.base_le e.symm).2;omega⟩))) (by simp [ZaJ,Dat.Plain]) rfl 1 rfl (by omega) (by omega) ?_;intro g6 cap6 w6 hm6 hb6 hlt6;have MK6:=hI hm6;have HB6:=hI hb6;have hz6:=hb6.size;clear hm6 hb6;have ROWX:=hI (ROWX.out.keep (w':=w6) (Same.of_below (B:=w.heap.size+3) ((HBC.out.mono (by have:=HX.out.sz;omega)).trans HB6.out) (fun b hb=>by have:=hS b hb;omega)))) | (at_builtin;refine Zap rfl (.tmp 48) (.tmp 50) 49 rfl (w.heap.size+3) S 27 i0 _ 1 24 Try.underlying49 hi hz0 hz1 hz2 rfl (by decide) _ _ _ _ _ MK6.out rfl (ZaJ row) #[.slice A2 row.length c2] (ZbL HC.out (ROWX.out.more (fun b hb=>.inl hb))) (by simp [ZaJ,Dat.Plain]) rfl 1 rfl (by omega) (by omega) ?_;intro g5 cap5 w5 hm5 hb5 hlt5;have MK5:=hI hm5;have HB5:=hI hb5;have hz5:=hb5.size;clear hm5 hb5))
        go_roundw
        case rel=>exact⟨k+1,true,_,_,_,(L++[row0]++[row]),by omega,by go_num,rfl,rfl,HX.out.step ((HBC.out.mono (by have:=HX.out.sz;omega)).trans (HB6.out.trans HB5.out)) (by rw [List.map_append,List.map_append];exact MK5.out) (by have:=HX.out.le;simp at this ⊢;omega) HR.out⟩
        case measure=>simp [intOf];omega
      · have HR:=hI (show P=(L++[row])++rput s t key row0 true (rows.drop (k+1)) by rw [HX.out.res,HSTEP.out];simp)
        go_wp2_with (at_builtin;refine Zap rfl (.tmp 48) (.tmp 50) 49 rfl (w.heap.size+3) S 27 i0 _ 1 24 Try.underlying49 hi hz0 hz1 hz2 rfl (by decide) _ _ _ _ _ MKX.out rfl (ZaJ row) #[.slice A2 row.length c2] (ZbL HC.out (ROWX.out.more (fun b hb=>.inl hb))) (by simp [ZaJ,Dat.Plain]) rfl 1 rfl (by omega) (by omega) ?_;intro g5 cap5 w5 hm5 hb5 hlt5;have MK5:=hI hm5;have HB5:=hI hb5;have hz5:=hb5.size;clear hm5 hb5)
        go_roundw
        case rel=>exact⟨k+1,true,_,_,_,(L++[row]),by omega,by go_num,rfl,rfl,HX.out.step HB5.out (by rw [List.map_append];exact MK5.out) (by have:=HX.out.le;simp at this ⊢;omega) HR.out⟩
        case measure=>simp [intOf];omega
  · have hgc:=c9Q HPI.out.bel hgt HD1.out;have hgf:=(HPI.out.bel.frozen (p:=⟨gt,t,none⟩) hgt).trans HFZ.out;have hne1:w.heap.size+1≠gt:=(by omega);have hne2:w.heap.size+2≠gt:=(by omega);have hne3:w.heap.size+1+1≠gt:=(by omega);have r0':=HPI.out.r0;have fz':=HPI.out.fz;cases d
    · have HRES:=hI (show P=L++[row0] by rw [HPI.out.res,List.drop_eq_nil_of_le (by omega),rput];rfl);have HX:=HPI;have R0X:=hI (HR0.out.keep (Same.of_below HX.out.bel hS))
      go_wp2_with fail
      refine(ZdK AR cr row0 S _ R0X.out).mono ?_;rintro e w4 ⟨A4,c4,rfl,h4,hb4⟩;have HBC:=hI hb4;have MKX:=hI (HX.out.mkl.below hb4);have N4:=hI (ZbW h4 R0X.out.ok nR);have hz4:=hb4.size;clear h4 hb4
      go_wp2_with (at_builtin;refine Zap rfl (.tmp 55) (.tmp 58) 49 rfl (w.heap.size+3) S 27 i0 _ 1 24 Try.underlying49 hi hz0 hz1 hz2 rfl (by decide) _ _ _ _ _ MKX.out rfl (ZaJ row0) #[.slice A4 row0.length c4] (ZbL N4.out.1 (N4.out.2.more (fun b hb=>.inr ⟨by have:=HX.out.sz;omega,hb.2,fun e=>by have:=(HX.out.mkl.base_le e.symm).2;omega⟩))) (by simp [ZaJ,Dat.Plain]) rfl 1 rfl (by omega) (by omega) ?_;intro g6 cap6 w6 hm6 hb6 hlt6;have MK6:=hI hm6;have HB6:=hI hb6;have hz6:=hb6.size;clear hm6 hb6;have HPF:=hI (show PutI w w6 S s A0 c0' gt st.length ca k true P [] (some ⟨g6,0,none⟩) (m+1) cap6 (L++[row0]) from HX.out.step ((HBC.out.mono (by have:=HX.out.sz;omega)).trans HB6.out) (by rw [List.map_append];exact MK6.out) (by have:=HX.out.le;simp at this ⊢;omega) (by rw [HRES.out];simp));have hgc:=c9Q HPF.out.bel hgt HD1.out;have hgf:=(HPF.out.bel.frozen (p:=⟨gt,t,none⟩) hgt).trans HFZ.out;have r6:=HPF.out.r0;have fz6:=HPF.out.fz;have t6:=HPF.out.t0;have hz6':=HPF.out.sz)
      have x0:(((w6).setCell ⟨gt,t,none⟩ (.slice (some ⟨g6,0,none⟩) (m+1) cap6)).setCell ⟨w.heap.size+2,0,none⟩ (.slice (some ⟨gt,0,none⟩) st.length ca)).cell? ⟨w.heap.size+2,0,none⟩=some (.slice (some ⟨gt,0,none⟩) st.length ca) :=
       World.cell?_setCell_same _ _ _ (u:=.slice none 0 0) (by rw [World.cell?_setCell_other _ _ _ _ (by simp)];exact HPF.out.r0)
      have HF:=put_fin (t:=t) HPF.out HST.out ht2 (by have:=HPF.out.len;omega) (.slice (some ⟨gt,0,none⟩) st.length ca) (.slice (some ⟨gt,0,none⟩) st.length ca);exact bodyPost_ret (v:=Zay (some ⟨gt,0,none⟩) st.length ca) (by simp [results,Try.results64,go_sem,x0]) rfl ⟨rfl,HF⟩
    · have HRES:=hI (show PutI w wr S s A0 c0' gt st.length ca k true P [] A m c L from HPI.out.step (Below.refl _ _) HPI.out.mkl HPI.out.le (by rw [HPI.out.res,List.drop_eq_nil_of_le (by omega),rput];simp))
      go_wp2_with fail
      have x0:(((wr).setCell ⟨gt,t,none⟩ (.slice A m c)).setCell ⟨w.heap.size+2,0,none⟩ (.slice (some ⟨gt,0,none⟩) st.length ca)).cell? ⟨w.heap.size+2,0,none⟩=some (.slice (some ⟨gt,0,none⟩) st.length ca) :=
       World.cell?_setCell_same _ _ _ (u:=.slice none 0 0) (by rw [World.cell?_setCell_other _ _ _ _ (by simp)];exact HRES.out.r0)
      have HF:=put_fin (t:=t) HRES.out HST.out ht2 (by have:=HPI.out.len;omega) (.slice (some ⟨gt,0,none⟩) st.length ca) (.slice (some ⟨gt,0,none⟩) st.length ca);exact bodyPost_ret (v:=Zay (some ⟨gt,0,none⟩) st.length ca) (by simp [results,Try.results64,go_sem,x0]) rfl ⟨rfl,HF⟩
theorem takeG_succ {α:Type} {d:α} {a b:List α} {k:Nat} (ha:k<a.length) (hb:k<b.length) (h:a.take k=b.take k) (hc:a.getD k d=b.getD k d):a.take (k+1)=b.take (k+1):=by
 rw [List.take_succ_eq_append_getElem ha,List.take_succ_eq_append_getElem hb,h];have e1:a.getD k d=a[k]:=(by simp [List.getD,ha]);have e2:b.getD k d=b[k]:=(by simp [List.getD,hb]);rw [←e1,←e2,hc]
theorem getG_ne {α:Type} {d:α} {a b:List α} {k:Nat} (hc:a.getD k d≠b.getD k d):a≠b:=fun e=>hc (by rw [e])
theorem takeG_end {α:Type} {a b:List α} {k:Nat} (ha:a.length≤k) (hl:a.length=b.length) (h:a.take k=b.take k):a=b:=by
 rwa [List.take_of_length_le ha,List.take_of_length_le (by omega)] at h
instance:DecidableEq Chg:=fun a b=>decidable_of_iff (a.table=b.table∧a.old=b.old∧a.new=b.new) (by cases a;cases b;simp)
theorem rsameChanges_any (A B:Option Addr) (ca cb:Nat) (a b:List Chg) (S:Nat→Prop) (w:World) (ha:ChgS w S A a) (hb:ChgS w S B b) (hS:∀ b,S b→b<w.heap.size) :
  Calls Try.prog 26 #[.slice A a.length ca,.slice B b.length cb] w (ZaS (decide (a=b)) w):=by
 have hal:=ha.len;have hbl:=hb.len;have HA:=hI ha;have HBB:=hI hb;clear ha hb
 by_cases hlen:a.length=b.length
 · have hd0:((a.length:Int) != b.length)=false:=(by simp [hlen]);have HL:=hI hlen;clear hlen;go_enter Try.func26,Try.ntmps26
   go_wp2_with fail
   go_loopw [5,13] (fun _ i wr=>∃ k:Nat,k≤a.length∧i=.int .i64 k∧a.take k=b.take k∧Below w.heap.size w wr) (fun _ i _=>a.length - (intOf i).toNat)
   case atStart=>exact⟨0,Nat.zero_le _,rfl,by simp,Below.refl _ _⟩
   case round =>
    obtain⟨k,hk,rfl,htk,hbel⟩:=hrel;have HT:=hI htk;have HB:=hI hbel;have hsz:=hbel.size;clear htk hbel hd0
    by_cases hlt:k<a.length
    · have hlt2:k<b.length:=(by have:=HL.out;omega);obtain⟨b1,o1,rfl,hb1,f0,A1,c1,A2,c2,f1,f1c,f1r,f2,f2c,f2r⟩:=(HA.out.keep (Same.of_below HB.out hS)).at_ hlt;obtain⟨b2,o2,rfl,hb2,e0,B1,d1,B2,d2,e1,e1c,e1r,e2,e2c,e2r⟩:=(HBB.out.keep (Same.of_below HB.out hS)).at_ hlt2;have HF1:=hI f1r;have HF2:=hI f2r;have HE1:=hI e1r;have HE2:=hI e2r;have hfl1:=f1r.len;have hfl2:=f2r.len;have hel1:=e1r.len;have hel2:=e2r.len;have hl1:b1<wr.heap.size:=(by have:=hS b1 hb1;omega);have hl2:b2<wr.heap.size:=(by have:=hS b2 hb2;omega);have HC:=hI (show a.getD k chg0≠b.getD k chg0→decide (a=b)=false from fun h=>decide_eq_false (getG_ne h));have HZ:=hI (show a.getD k chg0=b.getD k chg0→a.take (k+1)=b.take (k+1) from takeG_succ hlt hlt2 HT.out);generalize a.getD k chg0=x at f0 f1 f2 HF1 HF2 hfl1 hfl2 HC HZ;generalize b.getD k chg0=y at e0 e1 e2 HE1 HE2 hel1 hel2 HC HZ;obtain⟨xt,xo,xn⟩:=x;obtain⟨yt,yo,yn⟩:=y;dsimp only at f0 f1 f2 HF1 HF2 hfl1 hfl2 e0 e1 e2 HE1 HE2 hel1 hel2;clear f1c f1r f2c f2r e1c e1r e2c e2r
      by_cases ht:xt=yt
      · have hbt:(xt != yt)=false:=by simp [ht]
        by_cases ho:cmpR xo yo=0
        · go_wp2_with fail
          refine tS (fun w'=>Below wr.heap.size wr w'∧w'.cell? ⟨b1,o1+k*3,none⟩=some (.int .i64 xt)∧w'.cell? ⟨b1,o1+k*3+1,none⟩=some (.slice A1 xo.length c1)∧w'.cell? ⟨b1,o1+k*3+2,none⟩=some (.slice A2 xn.length c2)∧w'.cell? ⟨b2,o2+k*3,none⟩=some (.int .i64 yt)∧w'.cell? ⟨b2,o2+k*3+1,none⟩=some (.slice B1 yo.length d1)∧w'.cell? ⟨b2,o2+k*3+2,none⟩=some (.slice B2 yn.length d2)) 39 39 fun Q' HQ HP=>?_;refine tX 0 16 1 17 2 18 3 19 (bA 39 15) HP.out ⟨(Below.refl _ _).drew,f0,f1,f2,e0,e1,e2⟩ ?_;refine tX 4 20 5 21 6 22 7 23 (bA 39 255) HP.out ⟨(Below.refl _ _).drew,f0,f1,f2,e0,e1,e2⟩ ?_;refine tX 8 24 9 25 10 26 11 27 (bA 39 4095) HP.out ⟨(Below.refl _ _).drew,f0,f1,f2,e0,e1,e2⟩ ?_;refine tX 12 28 13 29 14 30 15 31 (bA 39 65535) HP.out ⟨(Below.refl _ _).drew,f0,f1,f2,e0,e1,e2⟩ ?_;refine tX 16 32 17 33 18 34 19 35 (bA 39 1048575) HP.out ⟨(Below.refl _ _).drew,f0,f1,f2,e0,e1,e2⟩ ?_;refine tW 20 36 21 37 (bA 39 4194303) HP.out ⟨(Below.refl _ _).drew,f0,f1,f2,e0,e1,e2⟩ ?_;refine tQ 22 (some 38) (bA 39 8388607) fun K HK=>?_;go_simp;refine(ZbG A1 B1 c1 d1 xo yo S wr.drew (HF1.out.keep (fun _ _=>rfl)) (HE1.out.keep (fun _ _=>rfl)) (fun b hb=>by have:=hS b hb;show b<wr.heap.size;omega)).mono ?_;rw [ho];rintro e w1 ⟨rfl,hv1'⟩;have hv1:Below wr.heap.size wr w1:=(Below.refl _ wr).drew.trans hv1';have p0:=c9Q hv1 hl1 f0;have p1:=c9Q hv1 hl1 f1;have p2:=c9Q hv1 hl1 f2;have p3:=c9Q hv1 hl2 e0;have p4:=c9Q hv1 hl2 e1;have p5:=c9Q hv1 hl2 e2;refine HK.out _ _ (fun _=>⟨hv1,p0,p1,p2,p3,p4,p5⟩) ?_;clear HK K
          try simp only [Act.put,psA,psB,psC]
          refine tX 23 39 24 40 25 41 26 42 (bA 39 134217727) HP.out ⟨hv1,p0,p1,p2,p3,p4,p5⟩ ?_;refine tX 27 43 28 44 29 45 30 46 (bA 39 2147483647) HP.out ⟨hv1,p0,p1,p2,p3,p4,p5⟩ ?_;refine tX 31 47 32 48 33 49 34 50 (bA 39 34359738367) HP.out ⟨hv1,p0,p1,p2,p3,p4,p5⟩ ?_;refine tJ 35 51 (bA 39 68719476735) HP.out ⟨hv1,p0,p1,p2,p3,p4,p5⟩ ?_;refine tQ 36 (some 52) (bA 39 137438953471) fun K HK=>?_;go_simp;refine(ZbG A2 B2 c2 d2 xn yn S w1 (HF2.out.keep (Same.of_below hv1 (fun b hb=>by have:=hS b hb;omega))) (HE2.out.keep (Same.of_below hv1 (fun b hb=>by have:=hS b hb;omega))) (fun b hb=>by have:=hS b hb;have:=hv1.size;omega)).mono ?_;rintro e w2 ⟨rfl,hv2'⟩;have hv2:Below wr.heap.size wr w2:=hv1.trans (hv2'.mono hv1.size);have q0:=c9Q hv2 hl1 f0;have q1:=c9Q hv2 hl1 f1;have q2:=c9Q hv2 hl1 f2;have q3:=c9Q hv2 hl2 e0;have q4:=c9Q hv2 hl2 e1;have q5:=c9Q hv2 hl2 e2;refine HK.out _ _ (fun _=>⟨hv2,q0,q1,q2,q3,q4,q5⟩) ?_;clear HK K
          try simp only [Act.put,psA,psB,psC]
          refine tW 37 53 38 54 (bA 39 549755813887) HP.out ⟨hv2,q0,q1,q2,q3,q4,q5⟩ ?_;refine tE HQ ?_;clear HQ HP Q';have HB1:=hI (HB.out.trans (hv2.mono hsz));clear hv1 hv1' hv2 hv2' f0 f1 f2 e0 e1 e2
          by_cases hc:cmpR xn yn=0
          · have HTK:=hI (HZ.out (by rw [ht,(cmpR_is.zero _ _).1 ho,(cmpR_is.zero _ _).1 hc]));rw [hc];clear hc ho ht hbt
            go_wp2_with fail
            go_roundw
            case rel=>exact⟨k+1,by omega,by go_num,HTK.out,HB1.out⟩
            case measure=>simp [intOf];omega
          · have HF:=hI (HC.out (fun e=>hc ((cmpR_is.zero _ _).2 (by injection e))));have hd:(cmpR xn yn != 0)=true:=(by simp [hc]);generalize cmpR xn yn=cv at hd HF hc;clear hc ho ht hbt
            go_wp2_with fail
            go_ret;exact⟨by rw [HF.out];rfl,HB1.out⟩
        · have HF:=hI (HC.out (fun e=>ho ((cmpR_is.zero _ _).2 (by injection e))));have hd:(cmpR xo yo != 0)=true:=(by simp [ho]);obtain⟨cv,hcv⟩:∃ cv,cmpR xo yo=cv:=⟨_,rfl⟩;have hd':(cv != 0)=true:=(by rw [←hcv];exact hd);clear hd ho
          go_wp2_with fail
          refine tS (fun w'=>Below wr.heap.size wr w'∧w'.cell? ⟨b1,o1+k*3,none⟩=some (.int .i64 xt)∧w'.cell? ⟨b1,o1+k*3+1,none⟩=some (.slice A1 xo.length c1)∧w'.cell? ⟨b1,o1+k*3+2,none⟩=some (.slice A2 xn.length c2)∧w'.cell? ⟨b2,o2+k*3,none⟩=some (.int .i64 yt)∧w'.cell? ⟨b2,o2+k*3+1,none⟩=some (.slice B1 yo.length d1)∧w'.cell? ⟨b2,o2+k*3+2,none⟩=some (.slice B2 yn.length d2)) 39 39 fun Q' HQ HP=>?_;refine tX 0 16 1 17 2 18 3 19 (bA 39 15) HP.out ⟨(Below.refl _ _).drew,f0,f1,f2,e0,e1,e2⟩ ?_;refine tX 4 20 5 21 6 22 7 23 (bA 39 255) HP.out ⟨(Below.refl _ _).drew,f0,f1,f2,e0,e1,e2⟩ ?_;refine tX 8 24 9 25 10 26 11 27 (bA 39 4095) HP.out ⟨(Below.refl _ _).drew,f0,f1,f2,e0,e1,e2⟩ ?_;refine tX 12 28 13 29 14 30 15 31 (bA 39 65535) HP.out ⟨(Below.refl _ _).drew,f0,f1,f2,e0,e1,e2⟩ ?_;refine tX 16 32 17 33 18 34 19 35 (bA 39 1048575) HP.out ⟨(Below.refl _ _).drew,f0,f1,f2,e0,e1,e2⟩ ?_;refine tW 20 36 21 37 (bA 39 4194303) HP.out ⟨(Below.refl _ _).drew,f0,f1,f2,e0,e1,e2⟩ ?_;refine tQ 22 (some 38) (bA 39 8388607) fun K HK=>?_;go_simp;refine(ZbG A1 B1 c1 d1 xo yo S wr.drew (HF1.out.keep (fun _ _=>rfl)) (HE1.out.keep (fun _ _=>rfl)) (fun b hb=>by have:=hS b hb;show b<wr.heap.size;omega)).mono ?_;rw [hcv];rintro e w1 ⟨rfl,hv1'⟩;have hv1:Below wr.heap.size wr w1:=(Below.refl _ wr).drew.trans hv1';have p0:=c9Q hv1 hl1 f0;have p1:=c9Q hv1 hl1 f1;have p2:=c9Q hv1 hl1 f2;have p3:=c9Q hv1 hl2 e0;have p4:=c9Q hv1 hl2 e1;have p5:=c9Q hv1 hl2 e2;refine HK.out _ _ (fun _=>⟨hv1,p0,p1,p2,p3,p4,p5⟩) ?_;clear HK K
          try simp only [Act.put,psA,psB,psC]
          refine tW 23 39 24 40 (bA 39 33554431) HP.out ⟨hv1,p0,p1,p2,p3,p4,p5⟩ ?_;refine tJ 25 41 (bA 39 67108863) HP.out ⟨hv1,p0,p1,p2,p3,p4,p5⟩ ?_;refine tK 26 42 (bA 39 134217727) HP.out ⟨hv1,p0,p1,p2,p3,p4,p5⟩ ?_;refine tK 27 43 (bA 39 268435455) HP.out ⟨hv1,p0,p1,p2,p3,p4,p5⟩ ?_;refine tK 28 44 (bA 39 536870911) HP.out ⟨hv1,p0,p1,p2,p3,p4,p5⟩ ?_;refine tK 29 45 (bA 39 1073741823) HP.out ⟨hv1,p0,p1,p2,p3,p4,p5⟩ ?_;refine tK 30 46 (bA 39 2147483647) HP.out ⟨hv1,p0,p1,p2,p3,p4,p5⟩ ?_;refine tK 31 47 (bA 39 4294967295) HP.out ⟨hv1,p0,p1,p2,p3,p4,p5⟩ ?_;refine tK 32 48 (bA 39 8589934591) HP.out ⟨hv1,p0,p1,p2,p3,p4,p5⟩ ?_;refine tK 33 49 (bA 39 17179869183) HP.out ⟨hv1,p0,p1,p2,p3,p4,p5⟩ ?_;refine tK 34 50 (bA 39 34359738367) HP.out ⟨hv1,p0,p1,p2,p3,p4,p5⟩ ?_;refine tK 35 51 (bA 39 68719476735) HP.out ⟨hv1,p0,p1,p2,p3,p4,p5⟩ ?_;refine tK 36 52 (bA 39 137438953471) HP.out ⟨hv1,p0,p1,p2,p3,p4,p5⟩ ?_;refine tK 37 53 (bA 39 274877906943) HP.out ⟨hv1,p0,p1,p2,p3,p4,p5⟩ ?_;refine tJ 38 54 (bA 39 549755813887) HP.out ⟨hv1,p0,p1,p2,p3,p4,p5⟩ ?_;refine tE HQ ?_;clear HQ HP Q';have HB1:=hI (HB.out.trans (hv1.mono hsz));clear hv1 hv1' f0 f1 f2 e0 e1 e2
          go_wp2_with fail
          go_ret;exact⟨by rw [HF.out];rfl,HB1.out⟩
      · have hbt:(xt != yt)=true:=(by simp [ht]);have HF:=hI (HC.out (fun e=>ht (by injection e)))
        go_wp2_with fail
        go_quiet (fail)
        go_wp2_with fail
        go_ret;exact⟨by rw [HF.out];rfl,Zaj HB.out _⟩
    · have HF:=hI (show decide (a=b)=true from decide_eq_true (takeG_end (by omega) HL.out HT.out))
      go_wp2_with fail
      go_ret;exact⟨by rw [HF.out];rfl,HB.out⟩
 · have hd0:((a.length:Int) != b.length)=true:=(by simp;omega);have HF:=hI (show decide (a=b)=false from decide_eq_false (fun e=>hlen (by rw [e])));go_enter Try.func26,Try.ntmps26
   go_wp2_with fail
   go_ret;exact⟨by rw [HF.out];rfl,Below.refl _ _⟩
end Go.Proofs.Ytkpjjfhfbpfjpaa
