import Derived.Test.YtkpjjfhfbpfjpaaGreatKffbf8f
import Derived.Test.YtkpjjfhfbpfjpaaGreatK848123
import Derived.Test.YtkpjjfhfbpfjpaaGreatK6f183a
import Derived.Test.YtkpjjfhfbpfjpaaGreatK5ce3ae
set_option linter.unusedVariables false
set_option linter.unusedSimpArgs false
set_option maxRecDepth 100000
set_option maxHeartbeats 8000000
namespace Go.Proofs.YtkpjjfhfbpfjpaaGreat
open Go.RowKit
theorem rput_drop (s:Sch) (t:Int) (key row:Row) (d:Bool) {l:List Row} {k:Nat} (h:k<l.length):rput s t key row d (l.drop k)=(if 0≤cmpR (keyF s t (l.getD k [])) key∧d=false then [row] else [])++((if cmpR (keyF s t (l.getD k [])) key≠0 then [l.getD k []] else [])++rput s t key row (d||decide (0≤cmpR (keyF s t (l.getD k [])) key)) (l.drop (k+1))):=by
 have e:l.getD k []=l[k]:=(by simp [List.getD,h]);rw [List.drop_eq_getElem_cons h,e,rput]
structure PutI (w wr:World) (S:Nat→Prop) (s:Sch) (A0:Option Addr) (c0' gt n ca k:Nat) (d:Bool) (P rest:List Row) (A:Option Addr) (m c:Nat) (L:List Row):Prop where
 mkl:Mk wr (w.heap.size+3) S 42 1 (.slice A m c) (L.map ZaT)
 le:L.length≤k+d.toNat
 bel:Below w.heap.size w wr
 res:P=L++rest
 s0:wr.cell? ⟨w.heap.size,0,none⟩=some (.int .i64 s.version)
 s1:wr.cell? ⟨w.heap.size,1,none⟩=some (.slice A0 s.tabs.length c0')
 t0:wr.cell? ⟨w.heap.size+1,0,none⟩=some (.slice (some ⟨gt,0,none⟩) n ca)
 r0:wr.cell? ⟨w.heap.size+2,0,none⟩=some (.slice none 0 0)
 fz:wr.frozen? ⟨w.heap.size+2,0,none⟩=false
 sz:w.heap.size+3≤wr.heap.size
section
variable {w wa wb:World} {S:Nat→Prop} {s:Sch} {A0 A A':Option Addr} {c0' gt n ca k k' m m' c c':Nat} {d d':Bool} {P rest rest' L L':List Row}
theorem PutI.len (h:PutI w wa S s A0 c0' gt n ca k d P rest A m c L):m=L.length:=by have:=h.mkl.len;simpa using this
theorem PutI.step (h:PutI w wa S s A0 c0' gt n ca k d P rest A m c L) (hb:Below (w.heap.size+3) wa wb) (hm:Mk wb (w.heap.size+3) S 42 1 (.slice A' m' c') (L'.map ZaT)) (hl:L'.length≤k'+d'.toNat) (hr:P=L'++rest'):PutI w wb S s A0 c0' gt n ca k' d' P rest' A' m' c' L' :=
 ⟨hm,hl,h.bel.trans (hb.mono (by omega)),hr,cJ hb h.s0,cJ hb h.s1,cJ hb h.t0,cJ hb h.r0,(hb.frozen (p:=⟨w.heap.size+2,0,none⟩) (by show w.heap.size+2<_;omega)).trans h.fz,Nat.le_trans h.sz hb.size⟩
theorem PutI.below (h:PutI w wa S s A0 c0' gt n ca k d P rest A m c L) (hb:Below wa.heap.size wa wb):PutI w wb S s A0 c0' gt n ca k d P rest A m c L:=h.step (hb.mono h.sz) (h.mkl.below hb) h.le h.res
end
def PutPost (S:Nat→Prop) (gt n ca:Nat) (st:St) (w:World) (e:Ending) (w':World):Prop:=e=.returned (ZbE (some ⟨gt,0,none⟩) n ca)∧StC w' (fun b=>S b∨New w w' b) gt st∧Fr (fun b=>b=gt) w w'
theorem Zhp {w wf:World} {S:Nat→Prop} {s:Sch} {A0 A:Option Addr} {c0' gt ca k m c:Nat} {d:Bool} {P L:List Row} {st:St} {t:Nat} (h:PutI w wf S s A0 c0' gt st.length ca k d P [] A m c L) (hst:StC w S gt st) (ht2:t<st.length) (hl:L.length≤5000000) (u v:Value) :
  StC ((wf.setCell ⟨gt,t,none⟩ (.slice A m c)).setCell ⟨w.heap.size+2,0,none⟩ v) (fun b=>S b∨New w ((wf.setCell ⟨gt,t,none⟩ (.slice A m c)).setCell ⟨w.heap.size+2,0,none⟩ v) b) gt (st.set t P)∧Fr (fun b=>b=gt) w ((wf.setCell ⟨gt,t,none⟩ (.slice A m c)).setCell ⟨w.heap.size+2,0,none⟩ v):=by
 have hgt:=hst.lt;have hsz:=h.sz;have hS:∀ b,S b→b<w.heap.size∧b≠gt:=(fun b hb=>by obtain⟨_,_,_,h3⟩:=hst;exact h3 b hb);obtain⟨hn,hc,hrs⟩:=h.mkl.slice (by rw [Zaf (n:=24) (fun _=>rfl)];omega);have e:m=L.length:=h.len;subst e;have hP:P=L:=(by have:=h.res;simpa using this);subst hP
 have h1:StC wf (fun b=>S b∨(w.heap.size+3≤b∧b<wf.heap.size)) gt st:=(hst.below h.bel).more (fun b hb=>.inl hb) (fun b hb=>by
  rcases hb with hb | hb
  · have:=hS b hb;exact⟨by omega,this.2⟩
  · exact⟨hb.2,by have:=hb.1;omega⟩)
 have h2:=h1.put (k:=t) (by simpa using ht2) hc (show RowsS wf (fun b=>S b∨(w.heap.size+3≤b∧b<wf.heap.size)) A P from hrs);have h3:Fr (fun b=>b=gt) w (wf.setCell ⟨gt,t,none⟩ (.slice A P.length c)):=Fr.setCell (X:=fun b=>b=gt) (Fr.of_below h.bel) _ (fun _=>rfl);have h4:Fr (fun b=>b=gt) w ((wf.setCell ⟨gt,t,none⟩ (.slice A P.length c)).setCell ⟨w.heap.size+2,0,none⟩ v):=Fr.setCell (X:=fun b=>b=gt) (g:=w.heap.size+2) h3 v (fun hx=>absurd hx (by show ¬ w.heap.size+2<w.heap.size;omega));refine⟨(h2.keep (by simp) (fun b hb=>?_) (Below.heap_setCell _ ⟨w.heap.size+2,0,none⟩ _ gt (by show gt≠w.heap.size+2;omega))).more (fun b hb=>hb.imp id (fun hb=>⟨by omega,by have:=hb.2;simpa using this⟩)) (fun b hb=>?_),h4⟩
 · refine Below.heap_setCell _ ⟨w.heap.size+2,0,none⟩ _ b ?_;rcases hb with hb | hb
   · have:=hS b hb;show b≠w.heap.size+2;omega
   · have:=hb.1;show b≠w.heap.size+2;omega
 · rcases hb with hb | hb
   · have:=hS b hb;simp;omega
   · have h5:=hb.2;simp at h5 ⊢;have:=hb.1;omega
theorem rput_any (A0:Option Addr) (c0':Nat) (s:Sch) (gt ca:Nat) (st:St) (t:Nat) (AK:Option Addr) (ck:Nat) (key:Row) (AR:Option Addr) (cr:Nat) (row0:Row) (S:Nat→Prop) (w:World) (hs:TabS w S A0 s.tabs) (hst:StC w S gt st) (hk:RowS w S AK key) (hr:RowS w S AR row0) (ht1:t<s.tabs.length) (ht2:t<st.length) (hll:(st.getD t []).length≤1000000) (hnl:st.length≤1000000) :
  Calls Tryz.prog 44 #[sAgg s.version A0 s.tabs.length c0',ZbE (some ⟨gt,0,none⟩) st.length ca,.int .i64 (t:Int),.slice AK key.length ck,.slice AR row0.length cr] w (PutPost S gt st.length ca (st.set t (putR s t key row0 (st.getD t []))) w):=by
 obtain⟨i0,hi,hz0,hz1,hz2⟩:=info_parts ZfY;have hS:∀ b,S b→b<w.heap.size:=(fun b hb=>by obtain⟨_,_,_,h3⟩:=hst;exact(h3 b hb).1);have hgt:=hst.lt;have hgt1:gt<w.heap.size+1:=(by omega);have hgt2:gt<w.heap.size+1+1:=(by omega);have hsl:=hs.len;have hkl:=hk.len;have hrl0:=hr.len;obtain⟨hfz0,A',c',d1,d2,d3⟩:=hst.at_ ht2;have HS:=hI hs;have HST:=hI hst;have HK:=hI hk;have HR0:=hI hr;have HRS:=hI d3;have HFZ:=hI hfz0;clear hs hst hk hr d2 d3 hfz0;obtain⟨rows,hrows⟩:∃ rows,st.getD t []=rows:=⟨_,rfl⟩;rw [hrows] at d1 HRS hll ⊢;clear hrows;have HD1:=hI d1;obtain⟨P,hP⟩:∃ P,putR s t key row0 rows=P:=⟨_,rfl⟩;obtain⟨d0,hd0⟩:∃ d0:Bool,((row0.length:Int) == 0)=d0:=⟨_,rfl⟩;have hp0:P=rput s t key row0 d0 rows:=(by rw [←hP,←hd0,putR];congr 1;rw [Bool.eq_iff_iff];simp);rw [hP];clear hP;have HB0:=hI ((((Below.refl w.heap.size w).alloc nR (.cells #[.int .i64 s.version,.slice A0 s.tabs.length c0'] 28)).alloc (by simp) (.cells #[.slice (some ⟨gt,0,none⟩) st.length ca] 33)).alloc (by simp;omega) (.cells #[.slice none 0 0] 33))
 have HI0:=hI (show PutI w (((w.alloc (.cells #[.int .i64 s.version,.slice A0 s.tabs.length c0'] 28)).alloc (.cells #[.slice (some ⟨gt,0,none⟩) st.length ca] 33)).alloc (.cells #[.slice none 0 0] 33)) S s A0 c0' gt st.length ca 0 d0 P (rput s t key row0 d0 (rows.drop 0)) none 0 0 [] from
  ⟨Mk.start (fun b hb=>by have:=hS b hb;omega) (by simp) _ _,by simp,HB0.out,hp0,(Zai (by simp;omega)).trans ((Zai (by simp)).trans (Zah rfl rfl)),(Zai (by simp;omega)).trans ((Zai (by simp)).trans (Zah rfl rfl)),(Zai (by simp)).trans (Zah (by simp) rfl),Zah (by simp) rfl,ZaS (by simp),by simp⟩)
 clear hp0;go_enter Tryz.func44,Tryz.ntmps44
 go_wp2_with fail
 go_loopw [11,12,25] (fun out done i wr=>∃ (k:Nat) (d:Bool) (A:Option Addr) (m c:Nat) (L:List Row),k≤rows.length∧i=.int .i64 k∧done=.bool d∧out=.slice A m c∧PutI w wr S s A0 c0' gt st.length ca k d P (rput s t key row0 d (rows.drop k)) A m c L) (fun _ _ i _=>rows.length - (intOf i).toNat)
 case atStart=>exact⟨0,d0,none,0,0,[],Nat.zero_le _,rfl,rfl,rfl,HI0.out⟩
 case round =>
  obtain⟨k,d,A,m,c,L,hk,rfl,rfl,rfl,hpi⟩:=hrel;have HPI:=hI hpi;have s0:=hpi.s0;have s1:=hpi.s1;have t0':=hpi.t0;have hsz:=hpi.sz;have hml:=hpi.len;have hle:=hpi.le;have hdn:d.toNat≤1:=(by cases d<;>simp);have hm1:m≤k+1:=(by omega);have HML:=hI hml;clear hpi hml hle d1 hd0
  by_cases hlt:k<rows.length
  · obtain⟨b2,o2,rfl,hb2,A2,c2,f1,f2,f3⟩:=(HRS.out.keep (Same.of_below HPI.out.bel hS)).at_ hlt;have hl2:b2<wr.heap.size:=(by have:=hS b2 hb2;omega);have HSTEP:=hI (rput_drop s t key row0 d hlt);have HROW:=hI f3;have HC:=hI f2;have hrw:=f3.len;obtain⟨row,hrow⟩:∃ row,rows.getD k []=row:=⟨_,rfl⟩;clear f2 f3;rw [hrow] at f1 HROW HC hrw HSTEP;clear hrow;have hSr:∀ b,S b→b<wr.heap.size:=fun b hb=>by have:=hS b hb;omega
    go_wp2_with fail
    refine(ZeI A0 c0' s t A2 c2 row S _ (HS.out.keep (Same.of_below HPI.out.bel hS)) HROW.out HC.out hSr).mono ?_;rintro e w1 ⟨A3,c3,rfl,h3,hb3⟩;have hokk:RowOk (keyF s t row):=((HROW.out.key s t (A':=A2) (fun _=>rfl))).ok;have HKR:=hI ((Zes hokk h3).more (S':=fun b=>b<w1.heap.size) (fun b hb=>hb.2));have HB3:=hI hb3;have hz3:=hb3.size;clear hb3 h3 hokk
    go_wp2_with fail
    refine(Zcd A3 AK c3 ck (keyF s t row) key (fun b=>b<w1.heap.size) _ HKR.out ((HK.out.keep (Same.of_below (HPI.out.bel.trans (HB3.out.mono (by omega))) hS)).more (fun b hb=>by have:=hS b hb;omega)) (fun b hb=>hb)).mono ?_;rintro e w2 ⟨rfl,hb4⟩;have HB4:=hI (HB3.out.trans (hb4.mono hz3));have HX:=hI (HPI.out.below HB4.out);have hz2':=HB4.out.size;have ROWX:=hI (HROW.out.keep (Same.of_below HB4.out hSr));have R0X:=hI (HR0.out.keep (Same.of_below HX.out.bel hS));have MKX:=hI HX.out.mkl;clear hb4 s0 s1 t0' f1;obtain⟨cv,hcv⟩:∃ cv,cmpR (keyF s t row) key=cv:=⟨_,rfl⟩;have hrng:=cmpR_is.rng (keyF s t row) key;rw [hcv] at hrng HSTEP ⊢;clear hcv;rcases hrng with rfl | rfl | rfl
    · have HR:=hI (show P=(L++[row])++rput s t key row0 d (rows.drop (k+1)) by rw [HX.out.res,HSTEP.out];simp)
      go_wp2_with (at_builtin;refine Zaq rfl (.tmp 48) (.tmp 50) 73 rfl (w.heap.size+3) S 42 i0 _ 1 24 Tryz.underlying73 hi hz0 hz1 hz2 rfl (by decide) _ _ _ _ _ MKX.out rfl (ZaT row) #[.slice A2 row.length c2] (ZbA HC.out (ROWX.out.more (fun b hb=>.inl hb))) (by simp [ZaT,Dat.Plain]) rfl 1 rfl (by omega) (by omega) ?_;intro g5 cap5 w5 hm5 hb5 hlt5;have MK5:=hI hm5;have HB5:=hI hb5;have hz5:=hb5.size;clear hm5 hb5)
      go_roundw
      case rel=>exact⟨k+1,d,_,_,_,(L++[row]),by omega,by go_num,rfl,rfl,HX.out.step HB5.out (by rw [List.map_append];exact MK5.out) (by have:=HX.out.le;simp at this ⊢;omega) HR.out⟩
      case measure=>simp [intOf];omega
    · cases d
      · have HR:=hI (show P=(L++[row0])++rput s t key row0 true (rows.drop (k+1)) by rw [HX.out.res,HSTEP.out];simp)
        go_wp2_with fail
        refine(ZcF AR cr row0 S _ R0X.out).mono ?_;rintro e w4 ⟨A4,c4,rfl,h4,hb4⟩;have HBC:=hI hb4;have MKX:=hI (HX.out.mkl.below hb4);have N4:=hI (Zbo h4 R0X.out.ok nR);have hz4:=hb4.size;clear h4 hb4
        go_wp2_with (at_builtin;refine Zaq rfl (.tmp 41) (.tmp 44) 73 rfl (w.heap.size+3) S 42 i0 _ 1 24 Tryz.underlying73 hi hz0 hz1 hz2 rfl (by decide) _ _ _ _ _ MKX.out rfl (ZaT row0) #[.slice A4 row0.length c4] (ZbA N4.out.1 (N4.out.2.more (fun b hb=>.inr ⟨by have:=HX.out.sz;omega,hb.2,fun e=>by have:=(HX.out.mkl.base_le e.symm).2;omega⟩))) (by simp [ZaT,Dat.Plain]) rfl 1 rfl (by omega) (by omega) ?_;intro g6 cap6 w6 hm6 hb6 hlt6;have MK6:=hI hm6;have HB6:=hI hb6;have hz6:=hb6.size;clear hm6 hb6)
        go_roundw
        case rel=>exact⟨k+1,true,_,_,_,(L++[row0]),by omega,by go_num,rfl,rfl,HX.out.step ((HBC.out.mono (by have:=HX.out.sz;omega)).trans HB6.out) (by rw [List.map_append];exact MK6.out) (by have:=HX.out.le;simp at this ⊢;omega) HR.out⟩
        case measure=>simp [intOf];omega
      · have HR:=hI (show P=L++rput s t key row0 true (rows.drop (k+1)) by rw [HX.out.res,HSTEP.out];simp)
        go_wp2_with fail
        go_roundw
        case rel=>exact⟨k+1,true,_,_,_,L,by omega,by go_num,rfl,rfl,HX.out.step (Below.refl _ _) HX.out.mkl (by have:=HX.out.le;simp at this ⊢;omega) HR.out⟩
        case measure=>simp [intOf];omega
    · cases d
      · have HR:=hI (show P=(L++[row0]++[row])++rput s t key row0 true (rows.drop (k+1)) by rw [HX.out.res,HSTEP.out];simp)
        go_wp2_with fail
        refine(ZcF AR cr row0 S _ R0X.out).mono ?_;rintro e w4 ⟨A4,c4,rfl,h4,hb4⟩;have HBC:=hI hb4;have MKX:=hI (HX.out.mkl.below hb4);have N4:=hI (Zbo h4 R0X.out.ok nR);have hz4:=hb4.size;clear h4 hb4
        go_wp2_with (first | (at_builtin;refine Zaq rfl (.tmp 41) (.tmp 44) 73 rfl (w.heap.size+3) S 42 i0 _ 1 24 Tryz.underlying73 hi hz0 hz1 hz2 rfl (by decide) _ _ _ _ _ MKX.out rfl (ZaT row0) #[.slice A4 row0.length c4] (ZbA N4.out.1 (N4.out.2.more (fun b hb=>.inr ⟨by have:=HX.out.sz;omega,hb.2,fun e=>by have:=(HX.out.mkl.base_le e.symm).2;omega⟩))) (by simp [ZaT,Dat.Plain]) rfl 1 rfl (by omega) (by omega) ?_;intro g6 cap6 w6 hm6 hb6 hlt6;have MK6:=hI hm6;have HB6:=hI hb6;have hz6:=hb6.size;clear hm6 hb6;have ROWX:=hI (ROWX.out.keep (w':=w6) (Same.of_below (B:=w.heap.size+3) ((HBC.out.mono (by have:=HX.out.sz;omega)).trans HB6.out) (fun b hb=>by have:=hS b hb;omega)))) | (at_builtin;refine Zaq rfl (.tmp 48) (.tmp 50) 73 rfl (w.heap.size+3) S 42 i0 _ 1 24 Tryz.underlying73 hi hz0 hz1 hz2 rfl (by decide) _ _ _ _ _ MK6.out rfl (ZaT row) #[.slice A2 row.length c2] (ZbA HC.out (ROWX.out.more (fun b hb=>.inl hb))) (by simp [ZaT,Dat.Plain]) rfl 1 rfl (by omega) (by omega) ?_;intro g5 cap5 w5 hm5 hb5 hlt5;have MK5:=hI hm5;have HB5:=hI hb5;have hz5:=hb5.size;clear hm5 hb5))
        go_roundw
        case rel=>exact⟨k+1,true,_,_,_,(L++[row0]++[row]),by omega,by go_num,rfl,rfl,HX.out.step ((HBC.out.mono (by have:=HX.out.sz;omega)).trans (HB6.out.trans HB5.out)) (by rw [List.map_append,List.map_append];exact MK5.out) (by have:=HX.out.le;simp at this ⊢;omega) HR.out⟩
        case measure=>simp [intOf];omega
      · have HR:=hI (show P=(L++[row])++rput s t key row0 true (rows.drop (k+1)) by rw [HX.out.res,HSTEP.out];simp)
        go_wp2_with (at_builtin;refine Zaq rfl (.tmp 48) (.tmp 50) 73 rfl (w.heap.size+3) S 42 i0 _ 1 24 Tryz.underlying73 hi hz0 hz1 hz2 rfl (by decide) _ _ _ _ _ MKX.out rfl (ZaT row) #[.slice A2 row.length c2] (ZbA HC.out (ROWX.out.more (fun b hb=>.inl hb))) (by simp [ZaT,Dat.Plain]) rfl 1 rfl (by omega) (by omega) ?_;intro g5 cap5 w5 hm5 hb5 hlt5;have MK5:=hI hm5;have HB5:=hI hb5;have hz5:=hb5.size;clear hm5 hb5)
        go_roundw
        case rel=>exact⟨k+1,true,_,_,_,(L++[row]),by omega,by go_num,rfl,rfl,HX.out.step HB5.out (by rw [List.map_append];exact MK5.out) (by have:=HX.out.le;simp at this ⊢;omega) HR.out⟩
        case measure=>simp [intOf];omega
  · have hgc:=cQ HPI.out.bel hgt HD1.out;have hgf:=(HPI.out.bel.frozen (p:=⟨gt,t,none⟩) hgt).trans HFZ.out;have hne1:w.heap.size+1≠gt:=(by omega);have hne2:w.heap.size+2≠gt:=(by omega);have hne3:w.heap.size+1+1≠gt:=(by omega);have r0':=HPI.out.r0;have fz':=HPI.out.fz;cases d
    · have HRES:=hI (show P=L++[row0] by rw [HPI.out.res,List.drop_eq_nil_of_le (by omega),rput];rfl);have HX:=HPI;have R0X:=hI (HR0.out.keep (Same.of_below HX.out.bel hS))
      go_wp2_with fail
      refine(ZcF AR cr row0 S _ R0X.out).mono ?_;rintro e w4 ⟨A4,c4,rfl,h4,hb4⟩;have HBC:=hI hb4;have MKX:=hI (HX.out.mkl.below hb4);have N4:=hI (Zbo h4 R0X.out.ok nR);have hz4:=hb4.size;clear h4 hb4
      go_wp2_with (at_builtin;refine Zaq rfl (.tmp 55) (.tmp 58) 73 rfl (w.heap.size+3) S 42 i0 _ 1 24 Tryz.underlying73 hi hz0 hz1 hz2 rfl (by decide) _ _ _ _ _ MKX.out rfl (ZaT row0) #[.slice A4 row0.length c4] (ZbA N4.out.1 (N4.out.2.more (fun b hb=>.inr ⟨by have:=HX.out.sz;omega,hb.2,fun e=>by have:=(HX.out.mkl.base_le e.symm).2;omega⟩))) (by simp [ZaT,Dat.Plain]) rfl 1 rfl (by omega) (by omega) ?_;intro g6 cap6 w6 hm6 hb6 hlt6;have MK6:=hI hm6;have HB6:=hI hb6;have hz6:=hb6.size;clear hm6 hb6;have HPF:=hI (show PutI w w6 S s A0 c0' gt st.length ca k true P [] (some ⟨g6,0,none⟩) (m+1) cap6 (L++[row0]) from HX.out.step ((HBC.out.mono (by have:=HX.out.sz;omega)).trans HB6.out) (by rw [List.map_append];exact MK6.out) (by have:=HX.out.le;simp at this ⊢;omega) (by rw [HRES.out];simp));have hgc:=cQ HPF.out.bel hgt HD1.out;have hgf:=(HPF.out.bel.frozen (p:=⟨gt,t,none⟩) hgt).trans HFZ.out;have r6:=HPF.out.r0;have fz6:=HPF.out.fz;have t6:=HPF.out.t0;have hz6':=HPF.out.sz)
      have x0:(((w6).setCell ⟨gt,t,none⟩ (.slice (some ⟨g6,0,none⟩) (m+1) cap6)).setCell ⟨w.heap.size+2,0,none⟩ (.slice (some ⟨gt,0,none⟩) st.length ca)).cell? ⟨w.heap.size+2,0,none⟩=some (.slice (some ⟨gt,0,none⟩) st.length ca) :=
       World.cell?_setCell_same _ _ _ (u:=.slice none 0 0) (by rw [World.cell?_setCell_other _ _ _ _ (by simp)];exact HPF.out.r0)
      have HF:=Zhp (t:=t) HPF.out HST.out ht2 (by have:=HPF.out.len;omega) (.slice (some ⟨gt,0,none⟩) st.length ca) (.slice (some ⟨gt,0,none⟩) st.length ca);exact bodyPost_ret (v:=ZbE (some ⟨gt,0,none⟩) st.length ca) (by simp [results,Tryz.results44,go_sem,x0]) rfl ⟨rfl,HF⟩
    · have HRES:=hI (show PutI w wr S s A0 c0' gt st.length ca k true P [] A m c L from HPI.out.step (Below.refl _ _) HPI.out.mkl HPI.out.le (by rw [HPI.out.res,List.drop_eq_nil_of_le (by omega),rput];simp))
      go_wp2_with fail
      have x0:(((wr).setCell ⟨gt,t,none⟩ (.slice A m c)).setCell ⟨w.heap.size+2,0,none⟩ (.slice (some ⟨gt,0,none⟩) st.length ca)).cell? ⟨w.heap.size+2,0,none⟩=some (.slice (some ⟨gt,0,none⟩) st.length ca) :=
       World.cell?_setCell_same _ _ _ (u:=.slice none 0 0) (by rw [World.cell?_setCell_other _ _ _ _ (by simp)];exact HRES.out.r0)
      have HF:=Zhp (t:=t) HRES.out HST.out ht2 (by have:=HPI.out.len;omega) (.slice (some ⟨gt,0,none⟩) st.length ca) (.slice (some ⟨gt,0,none⟩) st.length ca);exact bodyPost_ret (v:=ZbE (some ⟨gt,0,none⟩) st.length ca) (by simp [results,Tryz.results44,go_sem,x0]) rfl ⟨rfl,HF⟩
theorem Zfx {α:Type} {d:α} {a b:List α} {k:Nat} (ha:k<a.length) (hb:k<b.length) (h:a.take k=b.take k) (hc:a.getD k d=b.getD k d):a.take (k+1)=b.take (k+1):=by
 rw [List.take_succ_eq_append_getElem ha,List.take_succ_eq_append_getElem hb,h];have e1:a.getD k d=a[k]:=(by simp [List.getD,ha]);have e2:b.getD k d=b[k]:=(by simp [List.getD,hb]);rw [←e1,←e2,hc]
theorem Zhy {α:Type} {d:α} {a b:List α} {k:Nat} (hc:a.getD k d≠b.getD k d):a≠b:=fun e=>hc (by rw [e])
theorem Zgi {α:Type} {a b:List α} {k:Nat} (ha:a.length≤k) (hl:a.length=b.length) (h:a.take k=b.take k):a=b:=by
 rwa [List.take_of_length_le ha,List.take_of_length_le (by omega)] at h
theorem rsame01_any (A B:Option Addr) (ca cb:Nat) (a b:List Row) (S:Nat→Prop) (w:World) (ha:RowsS w S A a) (hb:RowsS w S B b) (hS:∀ b,S b→b<w.heap.size) :
  Calls Tryz.prog 52 #[.slice A a.length ca,.slice B b.length cb] w (ZaI (decide (a=b)) w):=by
 have hal:=ha.len;have hbl:=hb.len;have HA:=hI ha;have HBB:=hI hb;clear ha hb
 by_cases hlen:a.length=b.length
 · have hd0:((a.length:Int) != b.length)=false:=(by simp [hlen]);have HL:=hI hlen;clear hlen;go_enter Tryz.func52,Tryz.ntmps52
   go_wp2_with fail
   go_loopw [5,13] (fun _ i wr=>∃ k:Nat,k≤a.length∧i=.int .i64 k∧a.take k=b.take k∧Below w.heap.size w wr) (fun _ i _=>a.length - (intOf i).toNat)
   case atStart=>exact⟨0,Nat.zero_le _,rfl,by simp,Below.refl _ _⟩
   case round =>
    obtain⟨k,hk,rfl,htk,hbel⟩:=hrel;have HT:=hI htk;have HB:=hI hbel;have hsz:=hbel.size;clear htk hbel hd0
    by_cases hlt:k<a.length
    · have hlt2:k<b.length:=(by have:=HL.out;omega);obtain⟨b1,o1,rfl,hb1,A1,c1,f1,f2,f3⟩:=(HA.out.keep (Same.of_below HB.out hS)).at_ hlt;obtain⟨b2,o2,rfl,hb2,A2,c2,e1,e2,e3⟩:=(HBB.out.keep (Same.of_below HB.out hS)).at_ hlt2;have HF3:=hI f3;have HE3:=hI e3;have hfl:=f3.len;have hel:=e3.len;have hl1:b1<wr.heap.size:=(by have:=hS b1 hb1;omega);have hl2:b2<wr.heap.size:=(by have:=hS b2 hb2;omega);have HC:=hI (show a.getD k []≠b.getD k []→decide (a=b)=false from fun h=>decide_eq_false (Zhy h));have HZ:=hI (show a.getD k []=b.getD k []→a.take (k+1)=b.take (k+1) from Zfx hlt hlt2 HT.out);generalize a.getD k []=x at f1 HF3 hfl HC HZ;generalize b.getD k []=y at e1 HE3 hel HC HZ;clear f2 f3 e2 e3
      go_wp2_with fail
      go_region_held3 (fun w'=>Below wr.heap.size wr w'∧w'.cell? ⟨b1,o1+k,none⟩=some (.slice A1 x.length c1)∧w'.cell? ⟨b2,o2+k,none⟩=some (.slice A2 y.length c2))
       (first | exact⟨(Below.refl _ _).drew,f1,e1⟩ | exact⟨hbe,cQ hbe hl1 f1,cQ hbe hl2 e1⟩ | go_keep)
       ((go_at_call 60;refine(Zcd A1 A2 c1 c2 x y S wr.drew (HF3.out.keep (fun _ _=>rfl)) (HE3.out.keep (fun _ _=>rfl)) (fun b hb=>by have:=hS b hb;show b<wr.heap.size;omega)).mono ?_;rintro e w1 ⟨rfl,hbe'⟩;have hbe:Below wr.heap.size wr w1:=(Below.refl _ wr).drew.trans hbe'))
      have HB1:=hI (HB.out.trans (hbe.mono hsz));clear hbe hbe' f1 e1
      by_cases hc:cmpR x y=0
      · have HTK:=hI (HZ.out ((cmpR_is.zero x y).1 hc));rw [hc];clear hc
        go_wp2_with fail
        go_roundw
        case rel=>exact⟨k+1,by omega,by go_num,HTK.out,HB1.out⟩
        case measure=>simp [intOf];omega
      · have HF:=hI (HC.out (fun e=>hc ((cmpR_is.zero x y).2 e)));have hd:(cmpR x y != 0)=true:=(by simp [hc]);generalize cmpR x y=cv at hd HF hc
        go_wp2_with fail
        go_ret;exact⟨by rw [HF.out];rfl,HB1.out⟩
    · have HF:=hI (show decide (a=b)=true from decide_eq_true (Zgi (by omega) HL.out HT.out))
      go_wp2_with fail
      go_ret;exact⟨by rw [HF.out];rfl,HB.out⟩
 · have hd0:((a.length:Int) != b.length)=true:=(by simp;omega);have HF:=hI (show decide (a=b)=false from decide_eq_false (fun e=>hlen (by rw [e])));go_enter Tryz.func52,Tryz.ntmps52
   go_wp2_with fail
   go_ret;exact⟨by rw [HF.out];rfl,Below.refl _ _⟩
theorem rsame_any (A B:Option Addr) (ca cb:Nat) (a b:St) (S:Nat→Prop) (w:World) (ha:StS w S A a) (hb:StS w S B b) (hS:∀ b,S b→b<w.heap.size) :
  Calls Tryz.prog 15 #[ZbE A a.length ca,ZbE B b.length cb] w (ZaI (decide (a=b)) w):=by
 have hal:=ha.len;have hbl:=hb.len;have HA:=hI ha;have HBB:=hI hb;clear ha hb;have HB0:=hI (((Below.refl w.heap.size w).alloc nR (.cells #[.slice A a.length ca] 33)).alloc (by simp) (.cells #[.slice B b.length cb] 33))
 by_cases hlen:a.length=b.length
 · have hd0:((a.length:Int) != b.length)=false:=(by simp [hlen]);have HL:=hI hlen;clear hlen;go_enter Tryz.func15,Tryz.ntmps15
   go_wp2_with fail
   go_loopw [5,16] (fun _ i wr=>∃ k:Nat,k≤a.length∧i=.int .i64 k∧a.take k=b.take k∧Below w.heap.size w wr∧wr.cell? ⟨w.heap.size,0,none⟩=some (.slice A a.length ca)∧wr.cell? ⟨w.heap.size+1,0,none⟩=some (.slice B b.length cb)∧w.heap.size+2≤wr.heap.size) (fun _ i _=>a.length - (intOf i).toNat)
   case atStart=>exact⟨0,Nat.zero_le _,rfl,by simp,HB0.out,(Zai (by simp)).trans (Zah rfl rfl),Zah (by simp) rfl,by simp⟩
   case round =>
    obtain⟨k,hk,rfl,htk,hbel,x0,x1,hsz2⟩:=hrel;have HT:=hI htk;have HB:=hI hbel;have hsz:=hbel.size;clear htk hbel hd0
    by_cases hlt:k<a.length
    · have hlt2:k<b.length:=(by have:=HL.out;omega);obtain⟨b1,o1,rfl,hb1,A1,c1,f1,f2,f3⟩:=(HA.out.keep (Same.of_below HB.out hS)).at_ hlt;obtain⟨b2,o2,rfl,hb2,A2,c2,e1,e2,e3⟩:=(HBB.out.keep (Same.of_below HB.out hS)).at_ hlt2;have HF3:=hI f3;have HE3:=hI e3;have hfl:=f3.len;have hel:=e3.len;have hl1:b1<wr.heap.size:=(by have:=hS b1 hb1;omega);have hl2:b2<wr.heap.size:=(by have:=hS b2 hb2;omega);have hl3:w.heap.size<wr.heap.size:=(by omega);have hl4:w.heap.size+1<wr.heap.size:=(by omega);have HC:=hI (show a.getD k []≠b.getD k []→decide (a=b)=false from fun h=>decide_eq_false (Zhy h));have HZ:=hI (show a.getD k []=b.getD k []→a.take (k+1)=b.take (k+1) from Zfx hlt hlt2 HT.out);generalize a.getD k []=x at f1 HF3 hfl HC HZ;generalize b.getD k []=y at e1 HE3 hel HC HZ;clear f2 f3 e2 e3
      go_wp2_with fail
      go_region_held3 (fun w'=>Below wr.heap.size wr w'∧w'.cell? ⟨b1,o1+k,none⟩=some (.slice A1 x.length c1)∧w'.cell? ⟨b2,o2+k,none⟩=some (.slice A2 y.length c2)∧w'.cell? ⟨w.heap.size,0,none⟩=some (.slice (some ⟨b1,o1,none⟩) a.length ca)∧w'.cell? ⟨w.heap.size+1,0,none⟩=some (.slice (some ⟨b2,o2,none⟩) b.length cb))
       (first | exact⟨(Below.refl _ _).drew,f1,e1,x0,x1⟩ | exact⟨hbe,cQ hbe hl1 f1,cQ hbe hl2 e1,cQ hbe hl3 x0,cQ hbe hl4 x1⟩ | go_keep)
       ((go_at_call 52;refine(rsame01_any A1 A2 c1 c2 x y S wr.drew (HF3.out.keep (fun _ _=>rfl)) (HE3.out.keep (fun _ _=>rfl)) (fun b hb=>by have:=hS b hb;show b<wr.heap.size;omega)).mono ?_;rintro e w1 ⟨rfl,hbe'⟩;have hbe:Below wr.heap.size wr w1:=(Below.refl _ wr).drew.trans hbe'))
      have HB1:=hI (HB.out.trans (hbe.mono hsz));have x0':=cQ hbe hl3 x0;have x1':=cQ hbe hl4 x1;have hz1:=hbe.size;clear hbe hbe' f1 e1 x0 x1
      by_cases hc:x=y
      · have HTK:=hI (HZ.out hc);have hd:decide (x=y)=true:=decide_eq_true hc;rw [hd];clear hc hd
        go_wp2_with fail
        go_roundw
        case rel=>exact⟨k+1,by omega,by go_num,HTK.out,HB1.out,x0',x1',by omega⟩
        case measure=>simp [intOf];omega
      · have HF:=hI (HC.out hc);have hd:decide (x=y)=false:=decide_eq_false hc;rw [hd];clear hc hd
        go_wp2_with fail
        go_ret;exact⟨by rw [HF.out];rfl,HB1.out⟩
    · have HF:=hI (show decide (a=b)=true from decide_eq_true (Zgi (by omega) HL.out HT.out))
      go_wp2_with fail
      go_ret;exact⟨by rw [HF.out];rfl,HB.out⟩
 · have hd0:((a.length:Int) != b.length)=true:=(by simp;omega);have HF:=hI (show decide (a=b)=false from decide_eq_false (fun e=>hlen (by rw [e])));go_enter Tryz.func15,Tryz.ntmps15
   go_wp2_with fail
   go_ret;exact⟨by rw [HF.out];rfl,HB0.out⟩
instance:DecidableEq Chg:=fun a b=>decidable_of_iff (a.table=b.table∧a.old=b.old∧a.new=b.new) (by cases a;cases b;simp)
theorem Zgg {w:World} {S:Nat→Prop} {A:Option Addr} {c:Nat} {l:List Row} (h1:l.length≤c) (h2:RowsS w S A l):Dat.Vals w S (Zbe l) [.slice A l.length c]:=by
 unfold Zbe Dat.Vals;exact⟨A,c,by simp,by simpa using h1,h2⟩
open Go.ChangeShapes Go.WideShapes Go.Deep
theorem Zeq {f g:Nat→Nat}:∀ n,(∀ i,i<n→f i≤g i)→((List.range n).map f).sum≤((List.range n).map g).sum
 | 0,_=>by simp
 | n+1,h=>by
  rw [List.range_succ,List.map_append,List.map_append,List.sum_append,List.sum_append];have h1:=Zeq n (fun i hi=>h i (by omega));have h2:=h n (by omega);simp only [List.map_cons,List.map_nil,List.sum_cons,List.sum_nil];omega
theorem ZgN {α:Type}:∀ l:List α,(l.map fun _=>(0:Nat)).sum=0
 | []=>rfl
 | _ :: r=>by simp only [List.map_cons,List.sum_cons,ZgN r]
theorem choose_lt2 {α:Type} [Inhabited α] {n:Nat} {P:Nat→α→Prop} (h:∀ i,i<n→∃ a,P i a):∃ f:Nat→α,∀ i,i<n→P i (f i):=choose_lt h
section
variable {H:Type} {enc:TypeId × Value→H} {W:World} {fuel:Nat} {cs:List Value} {x:DataW H × List MemPlace}
theorem Zeb {α:Type} [Inhabited α] (ed:α→Dat) (μ:α→Nat) (M:DataW H→Nat) (hM:∀ a b,(a.map M).sum≤M (.slice a b)) {T E:TypeId} {n by_:Nat} (hu:Tryz.prog.underlying T=some (.slice E)) (hn:Tryz.prog.cellsOf E=n) (hn0:0<n) (hb:Tryz.prog.bytesOf E=by_) (hsz:∀ a,(ed a).size=n) (hby:∀ a,(ed a).bytes=by_)
  (each:∀ (fuel:Nat) (cs:List Value) (y:DataW H × List MemPlace),SizeOf.sizeOf y.1<SizeOf.sizeOf x.1→DataW.trod enc Tryz.prog W 0 (fun _=>true) true fuel E cs=some y→(∀ k ∈ y.1.weights Tryz.prog E,k≤reachBytes)→∃ a,Dat.Vals W (Lt W) (ed a) cs∧μ a≤M y.1)
  (h:DataW.trod enc Tryz.prog W 0 (fun _=>true) true fuel T cs=some x) (hw:∀ k ∈ x.1.weights Tryz.prog T,k≤reachBytes) :
  ∃ A cap l,cs=[.slice A (l:List α).length cap]∧l.length≤cap∧Sl W (Lt W) A (l.map ed)∧(l.map μ).sum≤M x.1:=by
 rcases open_slice hu h with ⟨hcs,_⟩ | ⟨a,len,cap,m,f,D,Pl,hcs,_,hl,hm,hmm,rfl,hx⟩
 · exact⟨none,0,[],hcs,by simp,Sl.nil_,by simp⟩
 · simp only [if_true] at hmm;subst hmm
   have hwl:len*by_≤140737488355328:=by
    have h1:=hw ((len+(m - len))*by_) (by
     simp only [DataW.weights,hu];refine List.mem_cons.2 (.inl ?_);simp only [List.length_map,List.length_range,hb])
    have h2:len*by_≤(len+(m - len))*by_:=Nat.mul_le_mul_right _ (by omega);unfold reachBytes at h1;omega
   have each':∀ i,i<len→∃ v:α,(∃ vs,Dat.Vals W (Lt W) (ed v) vs∧∀ j u,vs[j]?=some u→W.cell? ((a.add (i*n)).add j)=some u)∧μ v≤M (D i):=by
    intro i hi;obtain⟨cs',h1,h2⟩:=hx i (by omega);rw [hn] at h1;have hmem:D i ∈ (List.range len).map D:=List.mem_map.2 ⟨i,List.mem_range.2 hi,rfl⟩
    obtain⟨v,hv,hμ⟩:=each _ _ _ (by
     have h9:=List.sizeOf_lt_of_mem hmem;simp only [DataW.slice.sizeOf_spec];omega) h2 (fun k hk=>hw k (by
     simp only [DataW.weights,hu];exact List.mem_cons.2 (.inr (List.mem_append.2 (.inl (ZcC hmem k hk))))))
    refine⟨v,⟨cs',hv,fun j u hu'=>?_⟩,hμ⟩;obtain⟨hlen,_,hc⟩:=World.cells?_some h1;have hj:j<cs'.length:=(List.getElem?_eq_some_iff.1 hu').1;have hjn:j<n:=(by rw [Dat.Vals.len _ _ hv,hsz] at hj;exact hj);have:=hc j hjn;rw [this];simpa using hu'
   obtain⟨f,hf⟩:=choose_lt2 (α:=α) each';refine⟨some a,m,(List.range len).map f,by rw [List.length_map,List.length_range];exact hcs,by simpa using hl,⟨by rw [Zaf (n:=by_) hby,List.length_map,List.length_range];exact hwl,fun hn'=>?_⟩,?_⟩
   · have hl0:0<len:=(by simpa using hn');obtain⟨⟨vs0,hv0,hc0⟩,_⟩:=hf 0 hl0;have hvl:0<vs0.length:=(by rw [Dat.Vals.len _ _ hv0,hsz];exact hn0);have hcell:=hc0 0 vs0[0] (by simp);obtain⟨b,off,ha,hb'⟩:=Zgl hcell;have ha':a=⟨b,off,none⟩:=(by simpa [Addr.add] using ha);subst ha';refine⟨b,off,rfl,hb',Zcl (n:=n) (fun d hd=>by obtain⟨v,_,rfl⟩:=List.mem_map.1 hd;exact hsz v) (fun k hk=>?_)⟩;have hk':k<len:=(by simpa using hk);have e:((((List.range len).map f)).map ed)[k]=ed (f k):=(by simp);rw [e];obtain⟨⟨vs,hv,hc⟩,_⟩:=hf k hk';refine held_of_cells _ vs _ _ hv (fun j u hu'=>?_);have:=hc j u hu';rw [ZbQ,ZbQ] at this;exact this
   · rw [List.map_map];have h1:=Zeq (f:=μ ∘ f) (g:=M ∘ D) len (fun i hi=>(hf i hi).2);have h2:=hM ((List.range len).map D) ((List.range (m - len)).map fun j=>D (len+j));rw [List.map_map] at h2;exact Nat.le_trans h1 h2
theorem ZcG {α:Type} [Inhabited α] (ed:α→Dat) {T E:TypeId} {n by_:Nat} (hu:Tryz.prog.underlying T=some (.slice E)) (hn:Tryz.prog.cellsOf E=n) (hn0:0<n) (hb:Tryz.prog.bytesOf E=by_) (hsz:∀ a,(ed a).size=n) (hby:∀ a,(ed a).bytes=by_)
  (each:∀ (fuel:Nat) (cs:List Value) (y:DataW H × List MemPlace),SizeOf.sizeOf y.1<SizeOf.sizeOf x.1→DataW.trod enc Tryz.prog W 0 (fun _=>true) true fuel E cs=some y→(∀ k ∈ y.1.weights Tryz.prog E,k≤reachBytes)→∃ a,Dat.Vals W (Lt W) (ed a) cs)
  (h:DataW.trod enc Tryz.prog W 0 (fun _=>true) true fuel T cs=some x) (hw:∀ k ∈ x.1.weights Tryz.prog T,k≤reachBytes) :
  ∃ A cap l,cs=[.slice A (l:List α).length cap]∧l.length≤cap∧Sl W (Lt W) A (l.map ed):=by
 obtain⟨A,cap,l,h1,h2,h3,_⟩:=Zeb ed (fun _=>0) (fun _=>0) (fun a b=>by rw [ZgN];exact Nat.le_refl _) hu hn hn0 hb hsz hby (fun f c y hy h1 h2=>by obtain⟨a,ha⟩:=each f c y hy h1 h2;exact⟨a,ha,Nat.le_refl _⟩) h hw;exact⟨A,cap,l,h1,h2,h3⟩
theorem Zcj {T:TypeId} {fs:Array Field} (hu:Tryz.prog.underlying T=some (.struct fs)) (h:DataW.trod enc Tryz.prog W 0 (fun _=>true) true fuel T cs=some x) (hw:∀ k ∈ x.1.weights Tryz.prog T,k≤reachBytes) :
  ∃ n,cs.length=Tryz.prog.cellsOf T∧∀ (i:Nat) (f:Field),fs[i]?=some f→∃ y,DataW.trod enc Tryz.prog W 0 (fun _=>true) true n f.type ((cs.drop f.offset).take (Tryz.prog.cellsOf f.type))=some y∧(∀ k ∈ y.1.weights Tryz.prog f.type,k≤reachBytes)∧SizeOf.sizeOf y.1<SizeOf.sizeOf x.1:=by
 obtain⟨xs,n,_,rfl,hl,hlen,hf⟩:=DataW.trod_struct hu h;refine⟨n,hl,fun i f hi=>?_⟩;have hib:i<xs.length:=(by rw [hlen];exact(Array.getElem?_eq_some_iff.1 hi).1);refine⟨xs[i],by rw [hf i f hi];exact List.getElem?_eq_getElem hib,fun k hk=>hw k ?_,?_⟩
 · simp only [DataW.weights,hu];exact DataW.weights_mem_each (j:=i) (t:=f.type) (by simp [hi]) (by simp [hib]) k hk
 · have h9:=List.sizeOf_lt_of_mem (List.mem_map.2 ⟨xs[i],List.getElem_mem hib,rfl⟩:xs[i].1 ∈ xs.map (·.1));simp only [DataW.agg.sizeOf_spec];omega
instance:Inhabited Col:=⟨c0⟩
instance:Inhabited Rfr:=⟨r0⟩
instance:Inhabited Pred:=⟨p0⟩
instance:Inhabited Tab:=⟨t0⟩
theorem raw_col (h:DataW.trod enc Tryz.prog W 0 (fun _=>true) true fuel 84 cs=some x) (hw:∀ k ∈ x.1.weights Tryz.prog 84,k≤reachBytes):∃ c:Col,Dat.Vals W (Lt W) (Zbk c) cs:=by
 obtain⟨n,hl,hf⟩:=Zcj Tryz.underlying84 h hw;rw [show Tryz.prog.cellsOf 84=2 by kernel_rfl] at hl
 match cs,hl with
 | [c0,c1],_ =>
  obtain⟨y0,h0,_,_⟩:=hf 0 _ rfl;obtain⟨y1,h1,_,_⟩:=hf 1 _ rfl;have h0':DataW.trod enc Tryz.prog W 0 (fun _=>true) true n 9 [c0]=some y0:=h0;have h1':DataW.trod enc Tryz.prog W 0 (fun _=>true) true n 3 [c1]=some y1:=h1;obtain⟨t,e0,_,ht⟩:=DataW.trod_string Tryz.underlying9 h0';obtain⟨a,e1,_,_⟩:=DataW.trod_int Tryz.underlying3 h1';injection e0 with e0;injection e1 with e1;subst e0 e1;unfold maxLen at ht;refine⟨⟨t,a⟩,?_⟩;simp only [Zbk,Dat.Vals,Dat.ValsAll,ZaD,Zay];exact⟨[.string t],_,rfl,⟨rfl,by omega⟩,[.int .i64 a],[],rfl,⟨rfl,trivial⟩,rfl⟩
theorem raw_ints (h:DataW.trod enc Tryz.prog W 0 (fun _=>true) true fuel 77 cs=some x) (hw:∀ k ∈ x.1.weights Tryz.prog 77,k≤reachBytes):∃ A cap l,cs=[.slice A (l:List Int).length cap]∧l.length≤cap∧IntS W (Lt W) A l :=
 ZcG (n:=1) (by_:=8) ZcS Tryz.underlying77 (by kernel_rfl) (by decide) (by kernel_rfl) (fun _=>rfl) (fun _=>rfl) (fun fuel cs y _ h _=>by
  obtain⟨a,e,_,_⟩:=DataW.trod_int Tryz.underlying3 h;exact⟨a,by rw [e];unfold ZcS Dat.Vals;exact⟨rfl,trivial⟩⟩) h hw
theorem raw_rfr (h:DataW.trod enc Tryz.prog W 0 (fun _=>true) true fuel 87 cs=some x) (hw:∀ k ∈ x.1.weights Tryz.prog 87,k≤reachBytes):∃ r:Rfr,Dat.Vals W (Lt W) (ZbG r) cs:=by
 obtain⟨n,hl,hf⟩:=Zcj Tryz.underlying87 h hw;rw [show Tryz.prog.cellsOf 87=2 by kernel_rfl] at hl
 match cs,hl with
 | [c0,c1],_ =>
  obtain⟨y0,h0,hw0,_⟩:=hf 0 _ rfl;obtain⟨y1,h1,_,_⟩:=hf 1 _ rfl;have h0':DataW.trod enc Tryz.prog W 0 (fun _=>true) true n 77 [c0]=some y0:=h0;have h1':DataW.trod enc Tryz.prog W 0 (fun _=>true) true n 3 [c1]=some y1:=h1;obtain⟨A,c,l,e0,hc,hs⟩:=raw_ints h0' hw0;obtain⟨a,e1,_,_⟩:=DataW.trod_int Tryz.underlying3 h1';injection e0 with e0;injection e1 with e1;subst e0 e1;refine⟨⟨l,a⟩,?_⟩;simp only [ZbG,Dat.Vals,Dat.ValsAll,ZaD];exact⟨[.slice A l.length c],_,rfl,⟨A,c,by simp,by simpa using hc,hs⟩,[.int .i64 a],[],rfl,⟨rfl,trivial⟩,rfl⟩
theorem Zhn (h:DataW.trod enc Tryz.prog W 0 (fun _=>true) true fuel 91 cs=some x) (hw:∀ k ∈ x.1.weights Tryz.prog 91,k≤reachBytes):∃ o:Opd,Dat.Vals W (Lt W) (ZbL o) cs:=by
 obtain⟨n,hl,hf⟩:=Zcj Tryz.underlying91 h hw;rw [show Tryz.prog.cellsOf 91=5 by kernel_rfl] at hl
 match cs,hl with
 | [c0,c1,c2,c3,c4],_ =>
  obtain⟨y0,h0,_,_⟩:=hf 0 _ rfl;obtain⟨y1,h1,_,_⟩:=hf 1 _ rfl;obtain⟨y2,h2,_,_⟩:=hf 2 _ rfl;have h0':DataW.trod enc Tryz.prog W 0 (fun _=>true) true n 3 [c0]=some y0:=h0;have h1':DataW.trod enc Tryz.prog W 0 (fun _=>true) true n 3 [c1]=some y1:=h1;have h2':DataW.trod enc Tryz.prog W 0 (fun _=>true) true n 89 [c2,c3,c4]=some y2:=h2;obtain⟨a,e0,_,_⟩:=DataW.trod_int Tryz.underlying3 h0';obtain⟨b,e1,_,_⟩:=DataW.trod_int Tryz.underlying3 h1';obtain⟨v,hv⟩:=Zhm h2';injection e0 with e0;injection e1 with e1;subst e0 e1;refine⟨⟨a,b,v⟩,?_⟩;unfold ZbL Dat.Vals Dat.ValsAll;refine⟨[.int .i64 a],_,rfl,by unfold Dat.Vals;exact⟨rfl,trivial⟩,?_⟩;unfold Dat.ValsAll;refine⟨[.int .i64 b],_,rfl,by unfold Dat.Vals;exact⟨rfl,trivial⟩,?_⟩;unfold Dat.ValsAll;refine⟨[c2,c3,c4],[],rfl,hv,?_⟩;unfold Dat.ValsAll;rfl
theorem Zgs:∀ (N:Nat) {fuel:Nat} {cs:List Value} {x:DataW H × List MemPlace},SizeOf.sizeOf x.1≤N→DataW.trod enc Tryz.prog W 0 (fun _=>true) true fuel 70 cs=some x→(∀ k ∈ x.1.weights Tryz.prog 70,k≤reachBytes)→∃ A cap l,cs=[.slice A (l:List Pred).length cap]∧l.length≤cap∧PredS W (Lt W) A l
 | N,fuel,cs,x,hx,h,hw =>
 ZcG (n:=13) (by_:=136) encPred Tryz.underlying70 (by kernel_rfl) (by decide) (by kernel_rfl) Zbx ZaV (fun fuel cs y hy h hw=>by
  obtain⟨n,hl,hf⟩:=Zcj Tryz.underlying93 h hw;rw [show Tryz.prog.cellsOf 93=13 by kernel_rfl] at hl
  match cs,hl with
  | [c0,c1,c2,c3,c4,c5,c6,c7,c8,c9,c10,c11,c12],_ =>
   obtain⟨y0,h0,_,_⟩:=hf 0 _ rfl;obtain⟨y1,h1,_,_⟩:=hf 1 _ rfl;obtain⟨y2,h2,hw2,_⟩:=hf 2 _ rfl;obtain⟨y3,h3,hw3,_⟩:=hf 3 _ rfl;obtain⟨y4,h4,hw4,hs4⟩:=hf 4 _ rfl;have h0':DataW.trod enc Tryz.prog W 0 (fun _=>true) true n 3 [c0]=some y0:=h0;have h1':DataW.trod enc Tryz.prog W 0 (fun _=>true) true n 3 [c1]=some y1:=h1;have h2':DataW.trod enc Tryz.prog W 0 (fun _=>true) true n 91 [c2,c3,c4,c5,c6]=some y2:=h2;have h3':DataW.trod enc Tryz.prog W 0 (fun _=>true) true n 91 [c7,c8,c9,c10,c11]=some y3:=h3;have h4':DataW.trod enc Tryz.prog W 0 (fun _=>true) true n 70 [c12]=some y4:=h4;obtain⟨a,e0,_,_⟩:=DataW.trod_int Tryz.underlying3 h0';obtain⟨b,e1,_,_⟩:=DataW.trod_int Tryz.underlying3 h1';obtain⟨lo,hlo⟩:=Zhn h2' hw2;obtain⟨ro,hro⟩:=Zhn h3' hw3;obtain⟨A,c,l,e4,hc,hs⟩:=Zgs (N - 1) (by omega) h4' hw4;injection e0 with e0;injection e1 with e1;injection e4 with e4;subst e0 e1 e4;refine⟨.mk a b lo ro l,?_⟩;unfold encPred Dat.Vals Dat.ValsAll;refine⟨[.int .i64 a],_,rfl,by unfold Dat.Vals;exact⟨rfl,trivial⟩,?_⟩;unfold Dat.ValsAll;refine⟨[.int .i64 b],_,rfl,by unfold Dat.Vals;exact⟨rfl,trivial⟩,?_⟩;unfold Dat.ValsAll;refine⟨[c2,c3,c4,c5,c6],_,rfl,hlo,?_⟩;unfold Dat.ValsAll;refine⟨[c7,c8,c9,c10,c11],_,rfl,hro,?_⟩;unfold Dat.ValsAll;refine⟨[.slice A l.length c],[],rfl,?_,?_⟩
   · unfold Dat.Vals;rw [Zcz];exact⟨A,c,by simp,by simpa using hc,hs⟩
   · unfold Dat.ValsAll;rfl) h hw
 termination_by N=>N
 decreasing_by omega
theorem raw_tab (h:DataW.trod enc Tryz.prog W 0 (fun _=>true) true fuel 72 cs=some x) (hw:∀ k ∈ x.1.weights Tryz.prog 72,k≤reachBytes):∃ t:Tab,Dat.Vals W (Lt W) (ZaH t) cs:=by
 obtain⟨n,hl,hf⟩:=Zcj Tryz.underlying72 h hw;rw [show Tryz.prog.cellsOf 72=5 by kernel_rfl] at hl
 match cs,hl with
 | [c0,c1,c2,c3,c4],_ =>
  obtain⟨y0,h0,_,_⟩:=hf 0 _ rfl;obtain⟨y1,h1,hw1,_⟩:=hf 1 _ rfl;obtain⟨y2,h2,_,_⟩:=hf 2 _ rfl;obtain⟨y3,h3,hw3,_⟩:=hf 3 _ rfl;obtain⟨y4,h4,hw4,_⟩:=hf 4 _ rfl;have h0':DataW.trod enc Tryz.prog W 0 (fun _=>true) true n 9 [c0]=some y0:=h0;have h1':DataW.trod enc Tryz.prog W 0 (fun _=>true) true n 68 [c1]=some y1:=h1;have h2':DataW.trod enc Tryz.prog W 0 (fun _=>true) true n 3 [c2]=some y2:=h2;have h3':DataW.trod enc Tryz.prog W 0 (fun _=>true) true n 69 [c3]=some y3:=h3;have h4':DataW.trod enc Tryz.prog W 0 (fun _=>true) true n 70 [c4]=some y4:=h4;obtain⟨t,e0,_,ht⟩:=DataW.trod_string Tryz.underlying9 h0';obtain⟨A1,k1,l1,e1,q1,s1⟩:=ZcG (n:=2) (by_:=24) Zbk Tryz.underlying68 (by kernel_rfl) (by decide) (by kernel_rfl) ZbJ (fun _=>rfl) (fun fuel cs y _ h hw=>raw_col h hw) h1' hw1;obtain⟨a,e2,_,_⟩:=DataW.trod_int Tryz.underlying3 h2';obtain⟨A3,k3,l3,e3,q3,s3⟩:=ZcG (n:=2) (by_:=32) ZbG Tryz.underlying69 (by kernel_rfl) (by decide) (by kernel_rfl) ZbV (fun _=>rfl) (fun fuel cs y _ h hw=>raw_rfr h hw) h3' hw3;obtain⟨A4,k4,l4,e4,q4,s4⟩:=Zgs _ nR h4' hw4;injection e0 with e0;injection e1 with e1;injection e2 with e2;injection e3 with e3;injection e4 with e4;subst e0 e1 e2 e3 e4;unfold maxLen at ht;refine⟨⟨t,l1,a,l3,l4⟩,?_⟩;simp only [ZaH,Dat.Vals,Dat.ValsAll,ZaD,Zay];exact⟨[.string t],_,rfl,⟨rfl,by omega⟩,[.slice A1 l1.length k1],_,rfl,⟨A1,k1,by simp,by simpa using q1,s1⟩,[.int .i64 a],_,rfl,⟨rfl,trivial⟩,[.slice A3 l3.length k3],_,rfl,⟨A3,k3,by simp,by simpa using q3,s3⟩,[.slice A4 l4.length k4],[],rfl,⟨A4,k4,by simp,by simpa using q4,s4⟩,rfl⟩
theorem raw_schema {base:Nat} {v:Value} (hv:Value.okWide Tryz.prog W .any base 28 v) (h:∃ fuel,DataW.trod enc Tryz.prog W 0 (fun _=>true) true fuel 28 v.cells.toList=some x) (hw:∀ k ∈ x.1.weights Tryz.prog 28,k≤reachBytes):∃ (s:Sch) (A:Option Addr) (c:Nat),v=sAgg s.version A s.tabs.length c∧TabS W (Lt W) A s.tabs:=by
 obtain⟨ca,rfl,hs⟩:=okWide_struct Tryz.underlying28 hv;obtain⟨fuel,hf⟩:=h;obtain⟨n,_,hf⟩:=Zcj Tryz.underlying28 hf hw;rw [show Tryz.prog.cellsOf 28=2 by kernel_rfl] at hs
 obtain⟨c0,c1,rfl⟩:∃ c0 c1,ca=#[c0,c1]:=by
  obtain⟨l⟩:=ca
  match l,hs with
  | [c0,c1],_=>exact⟨c0,c1,rfl⟩
 obtain⟨y0,h0,_,_⟩:=hf 0 _ rfl;obtain⟨y1,h1,hw1,_⟩:=hf 1 _ rfl;have h0':DataW.trod enc Tryz.prog W 0 (fun _=>true) true n 3 [c0]=some y0:=h0;have h1':DataW.trod enc Tryz.prog W 0 (fun _=>true) true n 26 [c1]=some y1:=h1;obtain⟨a,e0,_,_⟩:=DataW.trod_int Tryz.underlying3 h0';obtain⟨A1,k1,l1,e1,q1,s1⟩:=ZcG (n:=5) (by_:=96) ZaH Tryz.underlying26 (by kernel_rfl) (by decide) (by kernel_rfl) ZbI (fun _=>rfl) (fun fuel cs y _ h hw=>raw_tab h hw) h1' hw1;injection e0 with e0;injection e1 with e1;subst e0 e1;exact⟨⟨a,l1⟩,A1,k1,rfl,s1⟩
theorem ZfM:∀ st:St,Zak st=(st.map List.length).sum
 | []=>rfl
 | l :: r=>by simp only [Zak,List.map_cons,List.sum_cons,ZfM r]
theorem ZgO {α:Type}:∀ l:List α,(l.map fun _=>1).sum=l.length
 | []=>rfl
 | _ :: r=>by simp only [List.map_cons,List.sum_cons,ZgO r,List.length_cons];omega
theorem raw_rows2 (M:DataW H→Nat) (hM:∀ a b,(a.map M).sum≤M (.slice a b)) (h1:∀ d,1≤M d) (h:DataW.trod enc Tryz.prog W 0 (fun _=>true) true fuel 73 cs=some x) (hw:∀ k ∈ x.1.weights Tryz.prog 73,k≤reachBytes):∃ A cap l,cs=[.slice A (l:List Row).length cap]∧l.length≤cap∧RowsS W (Lt W) A l∧l.length≤M x.1:=by
 obtain⟨A,c,l,e1,e2,e3,e4⟩:=Zeb (n:=1) (by_:=24) ZaT (fun _=>1) M hM Tryz.underlying73 (by kernel_rfl) (by decide) (by kernel_rfl) (fun _=>rfl) (fun _=>rfl) (fun fuel cs y _ h hw=>by
  obtain⟨A,c,r,e,g1,g2⟩:=raw_row h hw;exact⟨r,by rw [e];exact ZbA g1 g2,h1 _⟩) h hw
 rw [ZgO] at e4;exact⟨A,c,l,e1,e2,e3,e4⟩
theorem raw_lists2 (M:DataW H→Nat) (hM:∀ a b,(a.map M).sum≤M (.slice a b)) (h1:∀ d,1≤M d) (h:DataW.trod enc Tryz.prog W 0 (fun _=>true) true fuel 31 cs=some x) (hw:∀ k ∈ x.1.weights Tryz.prog 31,k≤reachBytes):∃ A cap l,cs=[.slice A (l:St).length cap]∧l.length≤cap∧StS W (Lt W) A l∧Zak l≤M x.1:=by
 obtain⟨A,c,l,e1,e2,e3,e4⟩:=Zeb (n:=1) (by_:=24) Zbe List.length M hM Tryz.underlying31 (by kernel_rfl) (by decide) (by kernel_rfl) (fun _=>rfl) (fun _=>rfl) (fun fuel cs y _ h hw=>by
  obtain⟨A,c,r,e,g1,g2,g3⟩:=raw_rows2 M hM h1 h hw;exact⟨r,by rw [e];exact Zgg g1 g2,g3⟩) h hw
 rw [←ZfM] at e4;exact⟨A,c,l,e1,e2,e3,e4⟩
theorem raw_state2 (M:DataW H→Nat) (hM:∀ a b,(a.map M).sum≤M (.slice a b)) (hA:∀ a,(a.map M).sum≤M (.agg a)) (h1:∀ d,1≤M d) {base:Nat} {v:Value} (hv:Value.okWide Tryz.prog W .any base 33 v) (h:∃ fuel,DataW.trod enc Tryz.prog W 0 (fun _=>true) true fuel 33 v.cells.toList=some x) (hw:∀ k ∈ x.1.weights Tryz.prog 33,k≤reachBytes):∃ A c l,v=ZbE A (l:St).length c∧l.length≤c∧StS W (Lt W) A l∧Zak l≤M x.1:=by
 obtain⟨ca,rfl,hs⟩:=okWide_struct Tryz.underlying33 hv;obtain⟨fuel,hf⟩:=h;obtain⟨y0,n,rfl,hl,h0⟩:=trod_struct1 Tryz.underlying33 hf;rw [show Tryz.prog.cellsOf 33=1 by kernel_rfl] at hs
 obtain⟨c0,rfl⟩:∃ c0,ca=#[c0]:=by
  obtain⟨l⟩:=ca
  match l,hs with
  | [c0],_=>exact⟨c0,rfl⟩
 have h0':DataW.trod enc Tryz.prog W 0 (fun _=>true) true n 31 [c0]=some y0:=h0
 obtain⟨A,c,l,e,hc,hr,hcount⟩:=raw_lists2 M hM h1 h0' (fun k hk=>hw k (by
  simp only [DataW.weights,Tryz.underlying33];show k ∈ DataW.weightsEach Tryz.prog [31] [y0.1];simp only [DataW.weightsEach,List.mem_append];exact .inl hk))
 injection e with e;subst e;have h9:=hA [y0.1];simp only [List.map_cons,List.map_nil,List.sum_cons,List.sum_nil,Nat.add_zero] at h9;exact⟨A,c,l,rfl,hc,hr,Nat.le_trans hcount h9⟩
end
end Go.Proofs.YtkpjjfhfbpfjpaaGreat
