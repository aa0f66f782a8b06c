import Derived.Test.YtkpjjfhfbpfjpaaKd51e01
set_option linter.unusedVariables false
set_option linter.unusedSimpArgs false
set_option maxRecDepth 100000
namespace Go.Proofs.Ytkpjjfhfbpfjpaa
open Go.RowKit
def AppT (S:Nat→Prop) (l:List Row) (w:World) (e:Ending) (w':World):Prop:=∃ A c,e=.returned (.tuple #[.slice A l.length c,.bool true])∧l.length≤c∧RowsS w' (fun b=>S b∨New w w' b) A l∧Below w.heap.size w w'
def AppF (w:World) (e:Ending) (w':World):Prop:=e=.returned (.tuple #[.slice none 0 0,.bool false])∧Below w.heap.size w w'
theorem infoR:(Try.prog.info? 27).map (fun i=>(i.zero,i.size,i.bytes))=some (some (.slice none 0 0),1,24):=by kernel_rfl
theorem below_of_drewN {w w':World} {n m:Nat} (h:Below (w.drewN n).heap.size (w.drewN n) w') (hm:m≤w.heap.size):Below m w w':=⟨h.os,h.tape,h.output,h.size,fun b hb=>h.block b (Nat.lt_of_lt_of_le hb hm)⟩
theorem getElem?_of_take {α:Type} {l:List α} {k j:Nat} {u:α} (h:(l.take k)[j]?=some u):l[j]?=some u:=by
 rw [List.getElem?_take] at h
 split at h
 · exact h
 · cases h
theorem new_row {w':World} {A:Option Addr} {c base n:Nat} {r:Row} (h:w'.ownsRow base 51 3 (.slice A r.length c) r.length (rowVals r)) (hl:RowOk r) (hn:n≤base):r.length≤c∧RowS w' (fun b=>n≤b∧b<w'.heap.size) A r:=⟨own_cap h rfl,(rows_of_owns hl h).more (fun b hb=>⟨by omega,hb.2⟩)⟩
theorem vals_row {w:World} {S:Nat→Prop} {A:Option Addr} {c:Nat} {r:Row} (h1:r.length≤c) (h2:RowS w S A r):Dat.Vals w S (encRow r) [.slice A r.length c]:=by
 unfold encRow Dat.Vals
 exact⟨A,c,by simp,by simpa using h1,h2⟩
theorem own_add {w:World} {base size g n c:Nat} {e:TypeId} {xs:List Value} (h:w.ownsRow base e size (.slice (some ⟨g,0,none⟩) n c) n xs) (g':Nat) (hg:g=g'):0<n→∃ b,some (⟨g',0,none⟩:Addr)=some b∧∀ j u,xs[j]?=some u→w.cell? (b.add j)=some u:=fun h0=>by
 subst hg
 obtain⟨g2,e2,_,_,hc⟩:=row_cells h h0
 injection e2 with e2
 injection e2 with e2
 subst e2
 exact⟨_,rfl,fun j u hu=>by rw [add_none,Nat.zero_add];exact hc j u hu⟩
theorem cells_drop {w:World} {b off k:Nat} {vs:List Value} (h:CellsAt w b off vs):∀ j u,(vs.drop k)[j]?=some u→w.cell? ((⟨b,off+k,none⟩:Addr).add j)=some u:=fun j u hu=>by
 rw [add_none]
 rw [List.getElem?_drop] at hu
 have:=h (k+j) u hu
 rwa [show off+(k+j)=off+k+j by omega] at this
theorem cells_take {w w':World} {S:Nat→Prop} {A:Option Addr} {n k:Nat} {vs:List Value} (h:0<n→∃ b off,A=some ⟨b,off,none⟩∧S b∧CellsAt w b off vs) (hk:Same S w w') (hn:k≤n):0<k→∃ b,A=some b∧∀ j u,(vs.take k)[j]?=some u→w'.cell? (b.add j)=some u:=fun h0=>by
 obtain⟨b,off,e,hb,hc⟩:=h (by omega)
 exact⟨_,e,fun j u hu=>(hc.keep (hk b hb)).add j u (getElem?_of_take hu)⟩
theorem run_slice_rows (A:Option Addr) (n c i:Nat) (hi:i≤n) (hn:n≤c):∃ A',(∀ w,(Instr.slice 49 (.slice A n c) (some (.int .i64 (i:Int))) none none).run Try.prog w=.ok (.slice A' (n - i) (c - i)) w)∧∀ b off,0<n - i→A=some ⟨b,off,none⟩→A'=some ⟨b,off+i,none⟩:=by
 refine⟨if c=i then A else A.map (·.add i),fun w=>?_,fun b off h e=>?_⟩
 · rw [run_slice_l (P:=Try.prog) w 49 A n c (by kernel_rfl) .i64 (i:Int) (by omega) (by omega)]
   have:(sizeOf (Try.prog.elem 49)).run Try.prog w=.ok 1 w:=by kernel_rfl
   rw [this]
   simp [Result.andThen,sliced]
 · rw [if_neg (by omega),e]
   simp [add_none]
theorem app_fin {S:Nat→Prop} {w w5:World} {l:List Row} {vals:List Value} {g n m cap base:Nat} (hB:Below w.heap.size w w5) (hown:w5.ownsRow base 27 1 (.slice (some ⟨g,0,none⟩) n cap) n vals) (hv:Dat.ValsAll w5 (fun b=>S b∨New w w5 b) (l.map encRow) vals) (hb:w.heap.size≤base) (hl:l.length≤5864062014805) (hn:n=l.length) (g':Nat) (hg:g=g') (c:Nat) (hc:n≤c) (hm:m=n) :
  AppT S l w (.returned (.tuple #[.slice (some ⟨g',0,none⟩) m c,.bool true])) w5:=by
 subst hg hm hn
 refine⟨_,c,rfl,hc,Sl.of_vals (by rw [bytesAll_map (n:=24) (fun _=>rfl)];omega) hv (fun h0=>?_),hB⟩
 have h0':0<l.length:=by simpa using h0
 obtain⟨g2,e2,h1,h2,hcc⟩:=row_cells hown h0'
 exact⟨g2,0,e2,.inr ⟨by omega,h2⟩,fun j u hu=>by rw [Nat.zero_add];exact hcc j u hu⟩
theorem app_vals {S:Nat→Prop} {w w3 w5:World} {rows:List Row} {vs:List Value} {p q:Nat} {r:Row} {A:Option Addr} {c:Nat} (hv:Dat.ValsAll w S (rows.map encRow) vs) (hS:∀ b,S b→b<w.heap.size) (hp:p≤rows.length) (hq:q≤rows.length) (hr:r.length≤c∧RowS w3 (fun b=>w.heap.size≤b∧b<w3.heap.size) A r) (h3:Below w3.heap.size w3 w5) (hB:Below w.heap.size w w5) :
  Dat.ValsAll w5 (fun b=>S b∨New w w5 b) ((rows.take p++[r]++rows.drop q).map encRow) ((vs.take p++[.slice A r.length c])++vs.drop q):=by
 have hk:Same S w w5:=Same.of_below hB hS
 have h1:=(valsAll_take (n:=1) (fun _=>rfl) hv p hp).1
 have h2:=(valsAll_take (n:=1) (fun _=>rfl) hv q hq).2
 rw [Nat.mul_one] at h1 h2
 rw [List.map_append,List.map_append]
 refine valsAll_append (valsAll_append (Dat.ValsAll.more (fun b hb=>.inl hb) _ _ (Dat.ValsAll.keep hk _ _ h1)) ?_) (Dat.ValsAll.more (fun b hb=>.inl hb) _ _ (Dat.ValsAll.keep hk _ _ h2))
 refine valsAll_one (vals_row hr.1 ((hr.2.keep (fun b hb=>h3.block b hb.2)).more (fun b hb=>.inr ⟨hb.1,Nat.lt_of_lt_of_le hb.2 h3.size⟩)))
theorem app_vals2 {S:Nat→Prop} {w w5:World} {rows:List Row} {vs:List Value} {p q:Nat} (hv:Dat.ValsAll w S (rows.map encRow) vs) (hS:∀ b,S b→b<w.heap.size) (hp:p≤rows.length) (hq:q≤rows.length) (hB:Below w.heap.size w w5) :
  Dat.ValsAll w5 (fun b=>S b∨New w w5 b) ((rows.take p++rows.drop q).map encRow) (vs.take p++vs.drop q):=by
 have hk:Same S w w5:=Same.of_below hB hS
 have h1:=(valsAll_take (n:=1) (fun _=>rfl) hv p hp).1
 have h2:=(valsAll_take (n:=1) (fun _=>rfl) hv q hq).2
 rw [Nat.mul_one] at h1 h2
 rw [List.map_append]
 exact valsAll_append (Dat.ValsAll.more (fun b hb=>.inl hb) _ _ (Dat.ValsAll.keep hk _ _ h1)) (Dat.ValsAll.more (fun b hb=>.inl hb) _ _ (Dat.ValsAll.keep hk _ _ h2))
theorem rows_take {S:Nat→Prop} {w w5:World} {rows:List Row} {vs:List Value} {A:Option Addr} {p:Nat} (hv:Dat.ValsAll w S (rows.map encRow) vs) (hc:0<rows.length→∃ b off,A=some ⟨b,off,none⟩∧S b∧CellsAt w b off vs) (hS:∀ b,S b→b<w.heap.size) (hp:p≤rows.length) (hl:rows.length≤5864062014805) (hB:Below w.heap.size w w5):RowsS w5 (fun b=>S b∨New w w5 b) A (rows.take p):=by
 have hk:Same S w w5:=Same.of_below hB hS
 have h1:=(valsAll_take (n:=1) (fun _=>rfl) hv p hp).1
 rw [Nat.mul_one] at h1
 refine Sl.of_vals (by rw [bytesAll_map (n:=24) (fun _=>rfl),List.length_take];omega) (Dat.ValsAll.more (fun b hb=>.inl hb) _ _ (Dat.ValsAll.keep hk _ _ h1)) (fun h0=>?_)
 obtain⟨b,off,e,hb,hcc⟩:=hc (by simp at h0;omega)
 exact⟨b,off,e,.inl hb,fun j u hu=>(hcc.keep (hk b hb)) j u (getElem?_of_take hu)⟩
set_option maxHeartbeats 2000000 in
theorem applied_ins (A0:Option Addr) (c0':Nat) (s:Sch) (ch:Chg) (A1:Option Addr) (c1:Nat) (A2:Option Addr) (c2:Nat) (A:Option Addr) (ca:Nat) (rows:List Row) (S T:Nat→Prop) (w:World)
  (hs:TabS w S A0 s.tabs) (hr:RowsS w T A rows) (hTS:∀ b,T b→S b) (hca:rows.length≤ca) (ho:RowS w S A1 ch.old) (hc1:ch.old.length≤c1) (hn:RowS w S A2 ch.new) (hc2:ch.new.length≤c2) (hS:∀ b,S b→b<w.heap.size) (ha:Asc s ch.table rows)
  (hold:ch.old.length=0) (hnew:0<ch.new.length) (hf:foundF s ch rows=false) (hlen:rows.length≤1000000) :
  Calls Try.prog 57 #[sAgg s.version A0 s.tabs.length c0',.slice A rows.length ca,chAgg ch.table A1 ch.old.length c1 A2 ch.new.length c2] w (AppT T (putC s ch rows) w):=by
 have HPUT:=Lib.hid (show putC s ch rows=rows.take (low s ch.table (keyC s ch) rows)++[ch.new]++rows.drop (low s ch.table (keyC s ch) rows) by unfold putC;rw [hf,if_pos hnew];rfl)
 have HFF:=Lib.hid (show (decide (low s ch.table (keyC s ch) rows<rows.length)&&(cmpR (keyF s ch.table (rows.getD (low s ch.table (keyC s ch) rows) [])) (keyC s ch) == 0))=false from hf)
 have HLOW:=Lib.hid (fun k hk=>low_iff ha (keyC s ch) (k:=k) hk)
 have hp:=low_le s ch.table (keyC s ch) rows
 obtain⟨t,old,new⟩:=ch
 simp only at ho hc1 hn hc2 hold hnew HPUT HFF HLOW hp ⊢
 have HS:=Lib.hid hs
 have HR:=Lib.hid (hr.more hTS)
 have hT:∀ b,T b→b<w.heap.size:=fun b hb=>hS b (hTS b hb)
 have HO:=Lib.hid ho
 have HN:=Lib.hid hn
 have HC1:=Lib.hid hc1
 have HC2:=Lib.hid hc2
 have hnl:=hn.len'
 have hol:=ho.len'
 obtain⟨i0,hi,hz0,hz1,hz2⟩:=info_parts infoR
 obtain⟨vs,hvs,hvc⟩:=Sl.vals hr
 have hvl:vs.length=rows.length:=by rw [Dat.ValsAll.len _ _ hvs,sizes_map (n:=1) (fun _=>rfl)];omega
 have HVS:=Lib.hid hvs
 have HVC:=Lib.hid (show 0<rows.length→_ from fun h=>hvc (by simpa using h))
 clear hvs hvc
 clear hs hr ho hn hc1 hc2 hf ha
 generalize hkey:keyC s ⟨t,old,new⟩=key at HPUT HFF HLOW hp
 have HKEY:=Lib.hid hkey
 clear hkey
 generalize low s t key rows=p at HPUT HFF HLOW hp
 have hd1:decide (0<old.length)=false:=decide_eq_false (by omega)
 have hd2:decide (0<new.length)=true:=decide_eq_true (by omega)
 clear hold
 have HTL:=Lib.hid (show (vs.take p).length=p*1 by rw [List.length_take,hvl];omega)
 have HDL:=Lib.hid (show (vs.drop p).length=(rows.length - p)*1 by rw [List.length_drop,hvl];omega)
 have HVL:=Lib.hid hvl
 clear hvl
 obtain⟨AT,hAT,hAT'⟩:=run_slice_rows A rows.length ca p hp hca
 have HAT:=Lib.hid hAT'
 clear hAT'
 have HB0:=Lib.hid (((Below.refl w.heap.size w).alloc (Nat.le_refl _) (.cells #[.int .i64 s.version,.slice A0 s.tabs.length c0'] 25)).alloc (by simp) (.cells #[.int .i64 t,.slice A1 old.length c1,.slice A2 new.length c2] 53))
 go_enter Try.func57,Try.ntmps57
 go_wp2_with fail
 refine(changeKey_any A0 c0' s ⟨t,old,new⟩ A1 c1 A2 c2 S _ (HS.out.keep (Same.of_below HB0.out hS)) (HO.out.keep (Same.of_below HB0.out hS)) HC1.out (HN.out.keep (Same.of_below HB0.out hS)) HC2.out (fun b hb=>by have:=hS b hb;simp;omega)).mono ?_
 rintro e w1 ⟨AK,ck,rfl,hK,hb1⟩
 rw [HKEY.out] at hK ⊢
 have HK:=Lib.hid hK
 have HB1:=Lib.hid (HB0.out.trans (hb1.mono (by simp;omega)))
 have HCAP:=Lib.hid (show Capt w1 s A0 c0' t w.heap.size (w.heap.size+1) from ⟨(hb1.cell (p:=⟨w.heap.size,0,none⟩) (by simp;omega)).trans (by simp),(hb1.cell (p:=⟨w.heap.size,1,none⟩) (by simp;omega)).trans (by simp),(hb1.cell (p:=⟨w.heap.size+1,0,none⟩) (by simp)).trans (by simp),by have:=hb1.size;simp at this;omega,by have:=hb1.size;simp at this;omega⟩)
 have x1:w1.cell? ⟨w.heap.size+1,1,none⟩=some (.slice A1 old.length c1):=(hb1.cell (p:=⟨w.heap.size+1,1,none⟩) (by simp)).trans (by simp)
 have x2:w1.cell? ⟨w.heap.size+1,2,none⟩=some (.slice A2 new.length c2):=(hb1.cell (p:=⟨w.heap.size+1,2,none⟩) (by simp)).trans (by simp)
 have hz1:w.heap.size+1<w1.heap.size:=by have:=hb1.size;simp at this;omega
 clear hb1 hK
 go_wp2_with fail
 refine(search_any A0 c0' s t w.heap.size (w.heap.size+1) A ca rows AK ck key p S _ HCAP.out (HS.out.keep (Same.of_below HB1.out hS)) (HR.out.keep (Same.of_below HB1.out hS)) HK.out (fun b hb=>by have:=hS b hb;omega) hp HLOW.out).mono ?_
 rintro e w2 ⟨rfl,hb2⟩
 rw [HFF.out]
 have HB2:=Lib.hid (HB1.out.trans (hb2.mono (by omega)))
 have y1:w2.cell? ⟨w.heap.size+1,1,none⟩=some (.slice A1 old.length c1):=(hb2.cell (p:=⟨w.heap.size+1,1,none⟩) (by simp;omega)).trans x1
 have y2:w2.cell? ⟨w.heap.size+1,2,none⟩=some (.slice A2 new.length c2):=(hb2.cell (p:=⟨w.heap.size+1,2,none⟩) (by simp;omega)).trans x2
 have hz2:w.heap.size+1<w2.heap.size:=by have:=hb2.size;omega
 clear hb2 x1 x2 hz1
 go_wp2_with fail
 go_quiet (fail)
 go_wp2_with fail
 go_quiet (fail)
 go_wp2_with fail
 refine(clone_any A2 c2 new S _ (by exact HN.out.keep (fun b hb=>HB2.out.block b (hS b hb)))).mono ?_
 rintro e w3 ⟨AC,cc,rfl,hown3,hb3⟩
 have HC3:=Lib.hid (HB2.out.trans (below_of_drewN hb3 (by omega)))
 have HNW:=Lib.hid (new_row (n:=w.heap.size) hown3 HN.out.ok (by simp;omega))
 have hz3':w.heap.size+1<w3.heap.size:=by have:=hb3.size;simp at this;omega
 clear hb3 hown3 y1 y2 hz2
 have HAA:=Lib.hid (cells_take HVC.out (fun b hb=>(Below.heap_alloc w3 (.cells #[.slice AC new.length cc] 27) b (by have:=hT b hb;omega)).trans (HC3.out.block b (hT b hb))) hp)
 have HNEWS:=Lib.hid (World.news_of_block (cs:=#[.slice AC new.length cc]) (t:=27) (fr:=(0,0)) (heap_alloc_new w3 (.cells #[.slice AC new.length cc] 27)))
 have HTL2:=Lib.hid (show (vs.take p++[Value.slice AC new.length cc]).length=(p+1)*1 by rw [List.length_append,HTL.out];simp)
 rcases Nat.lt_or_ge p rows.length with hpt | hpt
 · obtain⟨b9,o9,e9,hb9,hc9⟩:=HVC.out (by omega)
   have e10:=HAT.out b9 o9 (by omega) e9
   have HC9:=Lib.hid hc9
   clear hc9
   subst e9 e10
   go_wp2_with (first
    | (at_builtin;refine wpList_append_full _ rfl (.tmp 56) (.tmp 60) 49 rfl 27 i0 _ 1 24 Try.underlying49 hi hz0 hz1 hz2 rfl (by decide) _ p (vs.take p) rfl HTL.out HAA.out ⟨w3.heap.size,0,none⟩ 1 1 [.slice AC new.length cc] rfl rfl HNEWS.out (by omega) (by unfold maxLen;omega) (by omega) ?_;intro cap4 w4 hown4 hg4 hs4;have hcap4:p+1≤cap4:=own_cap hown4 rfl;have HB4:=Lib.hid ((HC3.out.alloc (by omega) _).grown hg4 (by simp;omega) (fun _ h=>by cases h));have H34:=Lib.hid (((Below.refl w3.heap.size w3).alloc (Nat.le_refl _) _).grown hg4 (by simp) (fun _ h=>by cases h));have HX4:=Lib.hid (show w4.heap.size=w3.heap.size+1+1 by rw [hs4,World.size_alloc]);have HO4:=Lib.hid hown4;have HOA:=Lib.hid (own_add hown4 (w3.heap.size+1) (by rw [World.size_alloc]));clear hown4 hg4 hs4;have HDC:=Lib.hid (cells_drop (k:=p) (HC9.out.keep (HB4.out.block b9 (hT b9 hb9)))))
    | (at_builtin;refine wpList_append_full _ rfl (.tmp 67) (.tmp 68) 49 rfl 27 i0 _ 1 24 Try.underlying49 hi hz0 hz1 hz2 rfl (by decide) (some ⟨w3.heap.size+1,0,none⟩) (p+1) (vs.take p++[.slice AC new.length cc]) rfl HTL2.out HOA.out ⟨b9,o9+p,none⟩ (rows.length - p) (ca - p) (vs.drop p) rfl HDL.out HDC.out (by omega) (by unfold maxLen;omega) (by omega) ?_;intro cap5 w5' hown5 hg5 hs5;have HB5:=Lib.hid (HB4.out.grown hg5 (by have:=HX4.out;omega) (fun _ h=>by cases h));have H35:=Lib.hid (H34.out.grown hg5 (by have:=HX4.out;omega) (fun _ h=>by cases h));have HO5:=Lib.hid hown5;have hcap5:=own_cap hown5 rfl;clear hown5 hg5 hs5))
   go_ret2
   rw [HPUT.out]
   exact app_fin HB5.out HO5.out (app_vals HVS.out hT hp (by omega) HNW.out H35.out HB5.out) (by have:=HX4.out;omega) (by simp;omega) (by simp;omega) _ rfl _ hcap5 rfl
 · rw [show rows.length - p=0 by omega] at hAT
   go_wp2_with (first
    | (at_builtin;refine wpList_append_full _ rfl (.tmp 56) (.tmp 60) 49 rfl 27 i0 _ 1 24 Try.underlying49 hi hz0 hz1 hz2 rfl (by decide) _ p (vs.take p) rfl HTL.out HAA.out ⟨w3.heap.size,0,none⟩ 1 1 [.slice AC new.length cc] rfl rfl HNEWS.out (by omega) (by unfold maxLen;omega) (by omega) ?_;intro cap4 w4 hown4 hg4 hs4;have hcap4:p+1≤cap4:=own_cap hown4 rfl;have HB4:=Lib.hid ((HC3.out.alloc (by omega) _).grown hg4 (by simp;omega) (fun _ h=>by cases h));have H34:=Lib.hid (((Below.refl w3.heap.size w3).alloc (Nat.le_refl _) _).grown hg4 (by simp) (fun _ h=>by cases h));have HX4:=Lib.hid (show w4.heap.size=w3.heap.size+1+1 by rw [hs4,World.size_alloc]);have HO4:=Lib.hid hown4;have HOA:=Lib.hid (own_add hown4 (w3.heap.size+1) (by rw [World.size_alloc]));clear hown4 hg4 hs4)
    | (at_builtin;refine wpList_append_none _ rfl (.tmp 67) (.tmp 68) 49 rfl 27 i0 Try.underlying49 hi (some ⟨w3.heap.size+1,0,none⟩) (p+1) rfl AT (ca - p) rfl ?_))
   go_ret2
   rw [HPUT.out]
   have hv:=app_vals (q:=rows.length) HVS.out hT hp (Nat.le_refl _) HNW.out H34.out HB4.out
   rw [show vs.drop rows.length=[] by rw [List.drop_eq_nil_iff,HVL.out];exact Nat.le_refl _,List.append_nil,show rows.drop rows.length=rows.drop p by rw [List.drop_length,List.drop_eq_nil_of_le hpt]] at hv
   exact app_fin HB4.out HO4.out hv (by rw [World.size_alloc];omega) (by simp;omega) (by simp;omega) _ (by rw [World.size_alloc]) _ (Nat.le_refl _) rfl
set_option maxHeartbeats 2000000 in
theorem applied_rep (A0:Option Addr) (c0':Nat) (s:Sch) (ch:Chg) (A1:Option Addr) (c1:Nat) (A2:Option Addr) (c2:Nat) (A:Option Addr) (ca:Nat) (rows:List Row) (S T:Nat→Prop) (w:World)
  (hs:TabS w S A0 s.tabs) (hr:RowsS w T A rows) (hTS:∀ b,T b→S b) (hca:rows.length≤ca) (ho:RowS w S A1 ch.old) (hc1:ch.old.length≤c1) (hn:RowS w S A2 ch.new) (hc2:ch.new.length≤c2) (hS:∀ b,S b→b<w.heap.size) (ha:Asc s ch.table rows)
  (hold:0<ch.old.length) (hnew:0<ch.new.length) (hf:foundF s ch rows=true) (hq:cmpR (rows.getD (low s ch.table (keyC s ch) rows) []) ch.old=0) (hlen:rows.length≤1000000) :
  Calls Try.prog 57 #[sAgg s.version A0 s.tabs.length c0',.slice A rows.length ca,chAgg ch.table A1 ch.old.length c1 A2 ch.new.length c2] w (AppT T (putC s ch rows) w):=by
 have HPUT:=Lib.hid (show putC s ch rows=rows.take (low s ch.table (keyC s ch) rows)++[ch.new]++rows.drop (low s ch.table (keyC s ch) rows+1) by unfold putC;rw [hf,if_pos hnew];rfl)
 have HFF:=Lib.hid (show (decide (low s ch.table (keyC s ch) rows<rows.length)&&(cmpR (keyF s ch.table (rows.getD (low s ch.table (keyC s ch) rows) [])) (keyC s ch) == 0))=true from hf)
 have HLOW:=Lib.hid (fun k hk=>low_iff ha (keyC s ch) (k:=k) hk)
 have hp:=low_le s ch.table (keyC s ch) rows
 have hpl:low s ch.table (keyC s ch) rows<rows.length:=by
  have h:=HFF.out
  rw [Bool.and_eq_true] at h
  exact of_decide_eq_true h.1
 have HQ:=Lib.hid hq
 clear hq
 obtain⟨t,old,new⟩:=ch
 simp only at ho hc1 hn hc2 hold hnew HPUT HQ HFF HLOW hp hpl ⊢
 have HS:=Lib.hid hs
 have HR:=Lib.hid (hr.more hTS)
 have hT:∀ b,T b→b<w.heap.size:=fun b hb=>hS b (hTS b hb)
 have HO:=Lib.hid ho
 have HN:=Lib.hid hn
 have HC1:=Lib.hid hc1
 have HC2:=Lib.hid hc2
 have hnl:=hn.len'
 have hol:=ho.len'
 obtain⟨i0,hi,hz0,hz1,hz2⟩:=info_parts infoR
 obtain⟨vs,hvs,hvc⟩:=Sl.vals hr
 have hvl:vs.length=rows.length:=by rw [Dat.ValsAll.len _ _ hvs,sizes_map (n:=1) (fun _=>rfl)];omega
 have HVS:=Lib.hid hvs
 have HVC:=Lib.hid (show 0<rows.length→_ from fun h=>hvc (by simpa using h))
 clear hvs hvc
 clear hs hr ho hn hc1 hc2 hf ha
 generalize hkey:keyC s ⟨t,old,new⟩=key at HPUT HQ HFF HLOW hp hpl
 have HKEY:=Lib.hid hkey
 clear hkey
 generalize low s t key rows=p at HPUT HQ HFF HLOW hp hpl
 have hd1:decide (0<old.length)=true:=decide_eq_true (by omega)
 have hd2:decide (0<new.length)=true:=decide_eq_true (by omega)
 clear hold
 have HTL:=Lib.hid (show (vs.take p).length=p*1 by rw [List.length_take,hvl];omega)
 have HDL:=Lib.hid (show (vs.drop (p+1)).length=(rows.length - (p+1))*1 by rw [List.length_drop,hvl];omega)
 have HVL:=Lib.hid hvl
 clear hvl
 obtain⟨AT,hAT,hAT'⟩:=run_slice_rows A rows.length ca p hp hca
 have HAT:=Lib.hid hAT'
 clear hAT'
 obtain⟨AU,hAU,hAU'⟩:=run_slice_rows A rows.length ca (p+1) hpl hca
 rw [show (((p+1:Nat)):Int)=(p:Int)+1 by omega] at hAU
 have HAU:=Lib.hid hAU'
 clear hAU'
 have HB0:=Lib.hid (((Below.refl w.heap.size w).alloc (Nat.le_refl _) (.cells #[.int .i64 s.version,.slice A0 s.tabs.length c0'] 25)).alloc (by simp) (.cells #[.int .i64 t,.slice A1 old.length c1,.slice A2 new.length c2] 53))
 go_enter Try.func57,Try.ntmps57
 go_wp2_with fail
 refine(changeKey_any A0 c0' s ⟨t,old,new⟩ A1 c1 A2 c2 S _ (HS.out.keep (Same.of_below HB0.out hS)) (HO.out.keep (Same.of_below HB0.out hS)) HC1.out (HN.out.keep (Same.of_below HB0.out hS)) HC2.out (fun b hb=>by have:=hS b hb;simp;omega)).mono ?_
 rintro e w1 ⟨AK,ck,rfl,hK,hb1⟩
 rw [HKEY.out] at hK ⊢
 have HK:=Lib.hid hK
 have HB1:=Lib.hid (HB0.out.trans (hb1.mono (by simp;omega)))
 have HCAP:=Lib.hid (show Capt w1 s A0 c0' t w.heap.size (w.heap.size+1) from ⟨(hb1.cell (p:=⟨w.heap.size,0,none⟩) (by simp;omega)).trans (by simp),(hb1.cell (p:=⟨w.heap.size,1,none⟩) (by simp;omega)).trans (by simp),(hb1.cell (p:=⟨w.heap.size+1,0,none⟩) (by simp)).trans (by simp),by have:=hb1.size;simp at this;omega,by have:=hb1.size;simp at this;omega⟩)
 have x1:w1.cell? ⟨w.heap.size+1,1,none⟩=some (.slice A1 old.length c1):=(hb1.cell (p:=⟨w.heap.size+1,1,none⟩) (by simp)).trans (by simp)
 have x2:w1.cell? ⟨w.heap.size+1,2,none⟩=some (.slice A2 new.length c2):=(hb1.cell (p:=⟨w.heap.size+1,2,none⟩) (by simp)).trans (by simp)
 have hz1:w.heap.size+1<w1.heap.size:=by have:=hb1.size;simp at this;omega
 clear hb1 hK
 go_wp2_with fail
 refine(search_any A0 c0' s t w.heap.size (w.heap.size+1) A ca rows AK ck key p S _ HCAP.out (HS.out.keep (Same.of_below HB1.out hS)) (HR.out.keep (Same.of_below HB1.out hS)) HK.out (fun b hb=>by have:=hS b hb;omega) hp HLOW.out).mono ?_
 rintro e w2 ⟨rfl,hb2⟩
 rw [HFF.out]
 have HB2:=Lib.hid (HB1.out.trans (hb2.mono (by omega)))
 have y1:w2.cell? ⟨w.heap.size+1,1,none⟩=some (.slice A1 old.length c1):=(hb2.cell (p:=⟨w.heap.size+1,1,none⟩) (by simp;omega)).trans x1
 have y2:w2.cell? ⟨w.heap.size+1,2,none⟩=some (.slice A2 new.length c2):=(hb2.cell (p:=⟨w.heap.size+1,2,none⟩) (by simp;omega)).trans x2
 have hz2:w.heap.size+1<w2.heap.size:=by have:=hb2.size;omega
 clear hb2 x1 x2 hz1
 go_wp2_with fail
 obtain⟨b5,o5,rfl,hb5,A5,c5,f1,f2,f3⟩:=(HR.out.keep (Same.of_below HB2.out hS)).at_ hpl
 have HROW:=Lib.hid f3
 have hl5:b5<w2.heap.size:=by have:=hS b5 hb5;omega
 have hrl5:=f3.len
 have HO2:=Lib.hid (HO.out.keep (Same.of_below HB2.out hS))
 have hS2:∀ b,S b→b<w2.heap.size:=fun b hb=>by have:=hS b hb;omega
 clear f2 f3
 generalize rows.getD p []=row at f1 HROW hrl5 HQ HFF
 have q2:(0:Int)≤p:=by omega
 have q3:(p:Int)<rows.length:=by omega
 have q4:(p:Int)≤rows.length:=by omega
 go_region_held3 (fun w'=>Below w2.heap.size w2 w'∧w'.cell? ⟨w.heap.size+1,1,none⟩=some (.slice A1 old.length c1)∧w'.cell? ⟨b5,o5+p,none⟩=some (.slice A5 row.length c5))
  (first | exact⟨(Below.refl _ _).drew,y1,f1⟩ | exact⟨hv1,(hv1.cell (p:=⟨w.heap.size+1,1,none⟩) hz2).trans y1,(hv1.cell (p:=⟨b5,o5+p,none⟩) hl5).trans f1⟩)
  ((go_at_call 77;refine(equal_any A5 A1 c5 c1 row old S w2.drew (HROW.out.keep (fun _ _=>rfl)) (HO2.out.keep (fun _ _=>rfl)) hS2).mono ?_;rintro e w5 ⟨rfl,hv1'⟩;have hv1:Below w2.heap.size w2 w5:=(Below.refl _ w2).drew.trans hv1'))
 have HB3:=Lib.hid (HB2.out.trans (hv1.mono (by omega)))
 have y3:w5.cell? ⟨w.heap.size+1,2,none⟩=some (.slice A2 new.length c2):=(hv1.cell (p:=⟨w.heap.size+1,2,none⟩) hz2).trans y2
 have hz3:w.heap.size+1<w5.heap.size:=by have:=hv1.size;omega
 clear hv1 hv1' y1 y2 f1 hz2
 rw [show (cmpR row old == 0)=true by rw [HQ.out];rfl]
 go_wp2_with fail
 go_quiet (fail)
 go_wp2_with fail
 refine(clone_any A2 c2 new S _ (by exact HN.out.keep (fun b hb=>HB3.out.block b (hS b hb)))).mono ?_
 rintro e w3 ⟨AC,cc,rfl,hown3,hb3⟩
 have HC3:=Lib.hid (HB3.out.trans (below_of_drewN hb3 (by omega)))
 have HNW:=Lib.hid (new_row (n:=w.heap.size) hown3 HN.out.ok (by simp;omega))
 have hz3':w.heap.size+1<w3.heap.size:=by have:=hb3.size;simp at this;omega
 clear hb3 hown3 y3 hz3
 have HAA:=Lib.hid (cells_take HVC.out (fun b hb=>(Below.heap_alloc w3 (.cells #[.slice AC new.length cc] 27) b (by have:=hT b hb;omega)).trans (HC3.out.block b (hT b hb))) hp)
 have HNEWS:=Lib.hid (World.news_of_block (cs:=#[.slice AC new.length cc]) (t:=27) (fr:=(0,0)) (heap_alloc_new w3 (.cells #[.slice AC new.length cc] 27)))
 have HTL2:=Lib.hid (show (vs.take p++[Value.slice AC new.length cc]).length=(p+1)*1 by rw [List.length_append,HTL.out];simp)
 rcases Nat.lt_or_ge (p+1) rows.length with hpt | hpt
 · obtain⟨b9,o9,e9,hb9,hc9⟩:=HVC.out (by omega)
   have e10:=HAU.out b9 o9 (by omega) e9
   have HC9:=Lib.hid hc9
   clear hc9
   obtain⟨e91,e92⟩:b5=b9∧o5=o9:=by injection e9 with e9;injection e9 with e91 e92;exact⟨e91,e92⟩
   subst e91 e92 e10
   clear e9
   go_wp2_with (first
    | (at_builtin;refine wpList_append_full _ rfl (.tmp 56) (.tmp 60) 49 rfl 27 i0 _ 1 24 Try.underlying49 hi hz0 hz1 hz2 rfl (by decide) _ p (vs.take p) rfl HTL.out HAA.out ⟨w3.heap.size,0,none⟩ 1 1 [.slice AC new.length cc] rfl rfl HNEWS.out (by omega) (by unfold maxLen;omega) (by omega) ?_;intro cap4 w4 hown4 hg4 hs4;have hcap4:p+1≤cap4:=own_cap hown4 rfl;have HB4:=Lib.hid ((HC3.out.alloc (by omega) _).grown hg4 (by simp;omega) (fun _ h=>by cases h));have H34:=Lib.hid (((Below.refl w3.heap.size w3).alloc (Nat.le_refl _) _).grown hg4 (by simp) (fun _ h=>by cases h));have HX4:=Lib.hid (show w4.heap.size=w3.heap.size+1+1 by rw [hs4,World.size_alloc]);have HO4:=Lib.hid hown4;have HOA:=Lib.hid (own_add hown4 (w3.heap.size+1) (by rw [World.size_alloc]));clear hown4 hg4 hs4;have HDC:=Lib.hid (cells_drop (k:=(p+1)) (HC9.out.keep (HB4.out.block b5 (hT b5 hb9)))))
    | (at_builtin;refine wpList_append_full _ rfl (.tmp 67) (.tmp 68) 49 rfl 27 i0 _ 1 24 Try.underlying49 hi hz0 hz1 hz2 rfl (by decide) (some ⟨w3.heap.size+1,0,none⟩) (p+1) (vs.take p++[.slice AC new.length cc]) rfl HTL2.out HOA.out ⟨b5,o5+(p+1),none⟩ (rows.length - (p+1)) (ca - (p+1)) (vs.drop (p+1)) rfl HDL.out HDC.out (by omega) (by unfold maxLen;omega) (by omega) ?_;intro cap5 w5' hown5 hg5 hs5;have HB5:=Lib.hid (HB4.out.grown hg5 (by have:=HX4.out;omega) (fun _ h=>by cases h));have H35:=Lib.hid (H34.out.grown hg5 (by have:=HX4.out;omega) (fun _ h=>by cases h));have HO5:=Lib.hid hown5;have hcap5:=own_cap hown5 rfl;clear hown5 hg5 hs5))
   go_ret2
   rw [HPUT.out]
   exact app_fin HB5.out HO5.out (app_vals HVS.out hT hp (by omega) HNW.out H35.out HB5.out) (by have:=HX4.out;omega) (by simp;omega) (by simp;omega) _ rfl _ hcap5 rfl
 · rw [show rows.length - (p+1)=0 by omega] at hAU
   go_wp2_with (first
    | (at_builtin;refine wpList_append_full _ rfl (.tmp 56) (.tmp 60) 49 rfl 27 i0 _ 1 24 Try.underlying49 hi hz0 hz1 hz2 rfl (by decide) _ p (vs.take p) rfl HTL.out HAA.out ⟨w3.heap.size,0,none⟩ 1 1 [.slice AC new.length cc] rfl rfl HNEWS.out (by omega) (by unfold maxLen;omega) (by omega) ?_;intro cap4 w4 hown4 hg4 hs4;have hcap4:p+1≤cap4:=own_cap hown4 rfl;have HB4:=Lib.hid ((HC3.out.alloc (by omega) _).grown hg4 (by simp;omega) (fun _ h=>by cases h));have H34:=Lib.hid (((Below.refl w3.heap.size w3).alloc (Nat.le_refl _) _).grown hg4 (by simp) (fun _ h=>by cases h));have HX4:=Lib.hid (show w4.heap.size=w3.heap.size+1+1 by rw [hs4,World.size_alloc]);have HO4:=Lib.hid hown4;have HOA:=Lib.hid (own_add hown4 (w3.heap.size+1) (by rw [World.size_alloc]));clear hown4 hg4 hs4)
    | (at_builtin;refine wpList_append_none _ rfl (.tmp 67) (.tmp 68) 49 rfl 27 i0 Try.underlying49 hi (some ⟨w3.heap.size+1,0,none⟩) (p+1) rfl AU (ca - (p+1)) rfl ?_))
   go_ret2
   rw [HPUT.out]
   have hv:=app_vals (q:=rows.length) HVS.out hT hp (Nat.le_refl _) HNW.out H34.out HB4.out
   rw [show vs.drop rows.length=[] by rw [List.drop_eq_nil_iff,HVL.out];exact Nat.le_refl _,List.append_nil,show rows.drop rows.length=rows.drop (p+1) by rw [List.drop_length,List.drop_eq_nil_of_le hpt]] at hv
   exact app_fin HB4.out HO4.out hv (by rw [World.size_alloc];omega) (by simp;omega) (by simp;omega) _ (by rw [World.size_alloc]) _ (Nat.le_refl _) rfl
set_option maxHeartbeats 2000000 in
theorem applied_del (A0:Option Addr) (c0':Nat) (s:Sch) (ch:Chg) (A1:Option Addr) (c1:Nat) (A2:Option Addr) (c2:Nat) (A:Option Addr) (ca:Nat) (rows:List Row) (S T:Nat→Prop) (w:World)
  (hs:TabS w S A0 s.tabs) (hr:RowsS w T A rows) (hTS:∀ b,T b→S b) (hca:rows.length≤ca) (ho:RowS w S A1 ch.old) (hc1:ch.old.length≤c1) (hn:RowS w S A2 ch.new) (hc2:ch.new.length≤c2) (hS:∀ b,S b→b<w.heap.size) (ha:Asc s ch.table rows)
  (hold:0<ch.old.length) (hnew:ch.new.length=0) (hf:foundF s ch rows=true) (hq:cmpR (rows.getD (low s ch.table (keyC s ch) rows) []) ch.old=0) (hlen:rows.length≤1000000) :
  Calls Try.prog 57 #[sAgg s.version A0 s.tabs.length c0',.slice A rows.length ca,chAgg ch.table A1 ch.old.length c1 A2 ch.new.length c2] w (AppT T (putC s ch rows) w):=by
 have HPUT:=Lib.hid (show putC s ch rows=rows.take (low s ch.table (keyC s ch) rows)++rows.drop (low s ch.table (keyC s ch) rows+1) by unfold putC;rw [hf,if_neg (by omega)];simp)
 have HFF:=Lib.hid (show (decide (low s ch.table (keyC s ch) rows<rows.length)&&(cmpR (keyF s ch.table (rows.getD (low s ch.table (keyC s ch) rows) [])) (keyC s ch) == 0))=true from hf)
 have HLOW:=Lib.hid (fun k hk=>low_iff ha (keyC s ch) (k:=k) hk)
 have hp:=low_le s ch.table (keyC s ch) rows
 have hpl:low s ch.table (keyC s ch) rows<rows.length:=by
  have h:=HFF.out
  rw [Bool.and_eq_true] at h
  exact of_decide_eq_true h.1
 have HQ:=Lib.hid hq
 clear hq
 obtain⟨t,old,new⟩:=ch
 simp only at ho hc1 hn hc2 hold hnew HPUT HQ HFF HLOW hp hpl ⊢
 have HS:=Lib.hid hs
 have HR:=Lib.hid (hr.more hTS)
 have hT:∀ b,T b→b<w.heap.size:=fun b hb=>hS b (hTS b hb)
 have HO:=Lib.hid ho
 have HN:=Lib.hid hn
 have HC1:=Lib.hid hc1
 have HC2:=Lib.hid hc2
 have hnl:=hn.len'
 have hol:=ho.len'
 obtain⟨i0,hi,hz0,hz1,hz2⟩:=info_parts infoR
 obtain⟨vs,hvs,hvc⟩:=Sl.vals hr
 have hvl:vs.length=rows.length:=by rw [Dat.ValsAll.len _ _ hvs,sizes_map (n:=1) (fun _=>rfl)];omega
 have HVS:=Lib.hid hvs
 have HVC:=Lib.hid (show 0<rows.length→_ from fun h=>hvc (by simpa using h))
 clear hvs hvc
 clear hs hr ho hn hc1 hc2 hf ha
 generalize hkey:keyC s ⟨t,old,new⟩=key at HPUT HQ HFF HLOW hp hpl
 have HKEY:=Lib.hid hkey
 clear hkey
 generalize low s t key rows=p at HPUT HQ HFF HLOW hp hpl
 have hd1:decide (0<old.length)=true:=decide_eq_true (by omega)
 have hd2:decide (0<new.length)=false:=decide_eq_false (by omega)
 clear hold hnew
 have HTL:=Lib.hid (show (vs.take p).length=p*1 by rw [List.length_take,hvl];omega)
 have HDL:=Lib.hid (show (vs.drop (p+1)).length=(rows.length - (p+1))*1 by rw [List.length_drop,hvl];omega)
 have HVL:=Lib.hid hvl
 clear hvl
 obtain⟨AT,hAT,hAT'⟩:=run_slice_rows A rows.length ca p hp hca
 have HAT:=Lib.hid hAT'
 clear hAT'
 obtain⟨AU,hAU,hAU'⟩:=run_slice_rows A rows.length ca (p+1) hpl hca
 rw [show (((p+1:Nat)):Int)=(p:Int)+1 by omega] at hAU
 have HAU:=Lib.hid hAU'
 clear hAU'
 have HB0:=Lib.hid (((Below.refl w.heap.size w).alloc (Nat.le_refl _) (.cells #[.int .i64 s.version,.slice A0 s.tabs.length c0'] 25)).alloc (by simp) (.cells #[.int .i64 t,.slice A1 old.length c1,.slice A2 new.length c2] 53))
 go_enter Try.func57,Try.ntmps57
 go_wp2_with fail
 refine(changeKey_any A0 c0' s ⟨t,old,new⟩ A1 c1 A2 c2 S _ (HS.out.keep (Same.of_below HB0.out hS)) (HO.out.keep (Same.of_below HB0.out hS)) HC1.out (HN.out.keep (Same.of_below HB0.out hS)) HC2.out (fun b hb=>by have:=hS b hb;simp;omega)).mono ?_
 rintro e w1 ⟨AK,ck,rfl,hK,hb1⟩
 rw [HKEY.out] at hK ⊢
 have HK:=Lib.hid hK
 have HB1:=Lib.hid (HB0.out.trans (hb1.mono (by simp;omega)))
 have HCAP:=Lib.hid (show Capt w1 s A0 c0' t w.heap.size (w.heap.size+1) from ⟨(hb1.cell (p:=⟨w.heap.size,0,none⟩) (by simp;omega)).trans (by simp),(hb1.cell (p:=⟨w.heap.size,1,none⟩) (by simp;omega)).trans (by simp),(hb1.cell (p:=⟨w.heap.size+1,0,none⟩) (by simp)).trans (by simp),by have:=hb1.size;simp at this;omega,by have:=hb1.size;simp at this;omega⟩)
 have x1:w1.cell? ⟨w.heap.size+1,1,none⟩=some (.slice A1 old.length c1):=(hb1.cell (p:=⟨w.heap.size+1,1,none⟩) (by simp)).trans (by simp)
 have x2:w1.cell? ⟨w.heap.size+1,2,none⟩=some (.slice A2 new.length c2):=(hb1.cell (p:=⟨w.heap.size+1,2,none⟩) (by simp)).trans (by simp)
 have hz1:w.heap.size+1<w1.heap.size:=by have:=hb1.size;simp at this;omega
 clear hb1 hK
 go_wp2_with fail
 refine(search_any A0 c0' s t w.heap.size (w.heap.size+1) A ca rows AK ck key p S _ HCAP.out (HS.out.keep (Same.of_below HB1.out hS)) (HR.out.keep (Same.of_below HB1.out hS)) HK.out (fun b hb=>by have:=hS b hb;omega) hp HLOW.out).mono ?_
 rintro e w2 ⟨rfl,hb2⟩
 rw [HFF.out]
 have HB2:=Lib.hid (HB1.out.trans (hb2.mono (by omega)))
 have y1:w2.cell? ⟨w.heap.size+1,1,none⟩=some (.slice A1 old.length c1):=(hb2.cell (p:=⟨w.heap.size+1,1,none⟩) (by simp;omega)).trans x1
 have y2:w2.cell? ⟨w.heap.size+1,2,none⟩=some (.slice A2 new.length c2):=(hb2.cell (p:=⟨w.heap.size+1,2,none⟩) (by simp;omega)).trans x2
 have hz2:w.heap.size+1<w2.heap.size:=by have:=hb2.size;omega
 clear hb2 x1 x2 hz1
 go_wp2_with fail
 obtain⟨b5,o5,rfl,hb5,A5,c5,f1,f2,f3⟩:=(HR.out.keep (Same.of_below HB2.out hS)).at_ hpl
 have HROW:=Lib.hid f3
 have hl5:b5<w2.heap.size:=by have:=hS b5 hb5;omega
 have hrl5:=f3.len
 have HO2:=Lib.hid (HO.out.keep (Same.of_below HB2.out hS))
 have hS2:∀ b,S b→b<w2.heap.size:=fun b hb=>by have:=hS b hb;omega
 clear f2 f3
 generalize rows.getD p []=row at f1 HROW hrl5 HQ HFF
 have q2:(0:Int)≤p:=by omega
 have q3:(p:Int)<rows.length:=by omega
 have q4:(p:Int)≤rows.length:=by omega
 go_region_held3 (fun w'=>Below w2.heap.size w2 w'∧w'.cell? ⟨w.heap.size+1,1,none⟩=some (.slice A1 old.length c1)∧w'.cell? ⟨b5,o5+p,none⟩=some (.slice A5 row.length c5))
  (first | exact⟨(Below.refl _ _).drew,y1,f1⟩ | exact⟨hv1,(hv1.cell (p:=⟨w.heap.size+1,1,none⟩) hz2).trans y1,(hv1.cell (p:=⟨b5,o5+p,none⟩) hl5).trans f1⟩)
  ((go_at_call 77;refine(equal_any A5 A1 c5 c1 row old S w2.drew (HROW.out.keep (fun _ _=>rfl)) (HO2.out.keep (fun _ _=>rfl)) hS2).mono ?_;rintro e w5 ⟨rfl,hv1'⟩;have hv1:Below w2.heap.size w2 w5:=(Below.refl _ w2).drew.trans hv1'))
 have HB3:=Lib.hid (HB2.out.trans (hv1.mono (by omega)))
 have y3:w5.cell? ⟨w.heap.size+1,2,none⟩=some (.slice A2 new.length c2):=(hv1.cell (p:=⟨w.heap.size+1,2,none⟩) hz2).trans y2
 have hz3:w.heap.size+1<w5.heap.size:=by have:=hv1.size;omega
 clear hv1 hv1' y1 y2 f1 hz2
 rw [show (cmpR row old == 0)=true by rw [HQ.out];rfl]
 go_wp2_with fail
 go_quiet (fail)
 have HAA:=Lib.hid (cells_take (w':=w5) HVC.out (fun b hb=>HB3.out.block b (hT b hb)) hp)
 rcases Nat.lt_or_ge (p+1) rows.length with hpt | hpt
 · obtain⟨b9,o9,e9,hb9,hc9⟩:=HVC.out (by omega)
   have e10:=HAU.out b9 o9 (by omega) e9
   have HC9:=Lib.hid hc9
   clear hc9
   obtain⟨e91,e92⟩:b5=b9∧o5=o9:=by injection e9 with e9;injection e9 with e91 e92;exact⟨e91,e92⟩
   subst e91 e92 e10
   clear e9
   have HDC:=Lib.hid (cells_drop (k:=p+1) (HC9.out.keep (HB3.out.block b5 (hT b5 hb9))))
   go_wp2_with (at_builtin;refine wpList_append_full _ rfl (.tmp 67) (.tmp 68) 49 rfl 27 i0 _ 1 24 Try.underlying49 hi hz0 hz1 hz2 rfl (by decide) (some ⟨b5,o5,none⟩) p (vs.take p) rfl HTL.out HAA.out ⟨b5,o5+(p+1),none⟩ (rows.length - (p+1)) (ca - (p+1)) (vs.drop (p+1)) rfl HDL.out HDC.out (by omega) (by unfold maxLen;omega) (by omega) ?_;intro cap5 w5' hown5 hg5 hs5;have HB5:=Lib.hid ((below_drewN HB3.out _).grown hg5 (by simp;omega) (fun _ h=>by cases h));have HO5:=Lib.hid hown5;have hcap5:=own_cap hown5 rfl;clear hown5 hg5 hs5)
   go_ret2
   rw [HPUT.out]
   exact app_fin HB5.out HO5.out (app_vals2 HVS.out hT hp (by omega) HB5.out) (by simp;omega) (by simp;omega) (by simp;omega) _ rfl _ hcap5 rfl
 · rw [show rows.length - (p+1)=0 by omega] at hAU
   go_wp2_with (at_builtin;refine wpList_append_none _ rfl (.tmp 67) (.tmp 68) 49 rfl 27 i0 Try.underlying49 hi _ p rfl AU (ca - (p+1)) rfl ?_)
   go_ret2
   rw [HPUT.out,List.drop_eq_nil_of_le hpt,List.append_nil]
   exact⟨_,p,by rw [List.length_take,Nat.min_eq_left hp];rfl,by rw [List.length_take];omega,rows_take HVS.out HVC.out hT hp (by omega) (below_drewN HB3.out _),below_drewN HB3.out _⟩
set_option maxHeartbeats 2000000 in
theorem applied_no0 (A0:Option Addr) (c0':Nat) (s:Sch) (ch:Chg) (A1:Option Addr) (c1:Nat) (A2:Option Addr) (c2:Nat) (A:Option Addr) (ca:Nat) (rows:List Row) (S T:Nat→Prop) (w:World)
  (hs:TabS w S A0 s.tabs) (hr:RowsS w T A rows) (hTS:∀ b,T b→S b) (hca:rows.length≤ca) (ho:RowS w S A1 ch.old) (hc1:ch.old.length≤c1) (hn:RowS w S A2 ch.new) (hc2:ch.new.length≤c2) (hS:∀ b,S b→b<w.heap.size) (ha:Asc s ch.table rows)
  (hold:ch.old.length=0) (hf:foundF s ch rows=true) (hlen:rows.length≤1000000) :
  Calls Try.prog 57 #[sAgg s.version A0 s.tabs.length c0',.slice A rows.length ca,chAgg ch.table A1 ch.old.length c1 A2 ch.new.length c2] w (AppF w):=by
 have HFF:=Lib.hid (show (decide (low s ch.table (keyC s ch) rows<rows.length)&&(cmpR (keyF s ch.table (rows.getD (low s ch.table (keyC s ch) rows) [])) (keyC s ch) == 0))=true from hf)
 have HLOW:=Lib.hid (fun k hk=>low_iff ha (keyC s ch) (k:=k) hk)
 have hp:=low_le s ch.table (keyC s ch) rows
 have hpl:low s ch.table (keyC s ch) rows<rows.length:=by
  have h:=HFF.out
  rw [Bool.and_eq_true] at h
  exact of_decide_eq_true h.1
 obtain⟨t,old,new⟩:=ch
 simp only at ho hc1 hn hc2 hold HFF HLOW hp hpl ⊢
 have HS:=Lib.hid hs
 have HR:=Lib.hid (hr.more hTS)
 have hT:∀ b,T b→b<w.heap.size:=fun b hb=>hS b (hTS b hb)
 have HO:=Lib.hid ho
 have HN:=Lib.hid hn
 have HC1:=Lib.hid hc1
 have HC2:=Lib.hid hc2
 have hnl:=hn.len'
 have hol:=ho.len'
 obtain⟨i0,hi,hz0,hz1,hz2⟩:=info_parts infoR
 obtain⟨vs,hvs,hvc⟩:=Sl.vals hr
 have hvl:vs.length=rows.length:=by rw [Dat.ValsAll.len _ _ hvs,sizes_map (n:=1) (fun _=>rfl)];omega
 have HVS:=Lib.hid hvs
 have HVC:=Lib.hid (show 0<rows.length→_ from fun h=>hvc (by simpa using h))
 clear hvs hvc
 clear hs hr ho hn hc1 hc2 hf ha
 generalize hkey:keyC s ⟨t,old,new⟩=key at HFF HLOW hp hpl
 have HKEY:=Lib.hid hkey
 clear hkey
 generalize low s t key rows=p at HFF HLOW hp hpl
 have hd1:decide (0<old.length)=false:=decide_eq_false (by omega)
 clear hold
 have HVL:=Lib.hid hvl
 clear hvl
 have HB0:=Lib.hid (((Below.refl w.heap.size w).alloc (Nat.le_refl _) (.cells #[.int .i64 s.version,.slice A0 s.tabs.length c0'] 25)).alloc (by simp) (.cells #[.int .i64 t,.slice A1 old.length c1,.slice A2 new.length c2] 53))
 go_enter Try.func57,Try.ntmps57
 go_wp2_with fail
 refine(changeKey_any A0 c0' s ⟨t,old,new⟩ A1 c1 A2 c2 S _ (HS.out.keep (Same.of_below HB0.out hS)) (HO.out.keep (Same.of_below HB0.out hS)) HC1.out (HN.out.keep (Same.of_below HB0.out hS)) HC2.out (fun b hb=>by have:=hS b hb;simp;omega)).mono ?_
 rintro e w1 ⟨AK,ck,rfl,hK,hb1⟩
 rw [HKEY.out] at hK ⊢
 have HK:=Lib.hid hK
 have HB1:=Lib.hid (HB0.out.trans (hb1.mono (by simp;omega)))
 have HCAP:=Lib.hid (show Capt w1 s A0 c0' t w.heap.size (w.heap.size+1) from ⟨(hb1.cell (p:=⟨w.heap.size,0,none⟩) (by simp;omega)).trans (by simp),(hb1.cell (p:=⟨w.heap.size,1,none⟩) (by simp;omega)).trans (by simp),(hb1.cell (p:=⟨w.heap.size+1,0,none⟩) (by simp)).trans (by simp),by have:=hb1.size;simp at this;omega,by have:=hb1.size;simp at this;omega⟩)
 have x1:w1.cell? ⟨w.heap.size+1,1,none⟩=some (.slice A1 old.length c1):=(hb1.cell (p:=⟨w.heap.size+1,1,none⟩) (by simp)).trans (by simp)
 have x2:w1.cell? ⟨w.heap.size+1,2,none⟩=some (.slice A2 new.length c2):=(hb1.cell (p:=⟨w.heap.size+1,2,none⟩) (by simp)).trans (by simp)
 have hz1:w.heap.size+1<w1.heap.size:=by have:=hb1.size;simp at this;omega
 clear hb1 hK
 go_wp2_with fail
 refine(search_any A0 c0' s t w.heap.size (w.heap.size+1) A ca rows AK ck key p S _ HCAP.out (HS.out.keep (Same.of_below HB1.out hS)) (HR.out.keep (Same.of_below HB1.out hS)) HK.out (fun b hb=>by have:=hS b hb;omega) hp HLOW.out).mono ?_
 rintro e w2 ⟨rfl,hb2⟩
 rw [HFF.out]
 have HB2:=Lib.hid (HB1.out.trans (hb2.mono (by omega)))
 have y1:w2.cell? ⟨w.heap.size+1,1,none⟩=some (.slice A1 old.length c1):=(hb2.cell (p:=⟨w.heap.size+1,1,none⟩) (by simp;omega)).trans x1
 have y2:w2.cell? ⟨w.heap.size+1,2,none⟩=some (.slice A2 new.length c2):=(hb2.cell (p:=⟨w.heap.size+1,2,none⟩) (by simp;omega)).trans x2
 have hz2:w.heap.size+1<w2.heap.size:=by have:=hb2.size;omega
 clear hb2 x1 x2 hz1
 go_wp2_with fail
 go_quiet (fail)
 go_wp2_with fail
 go_ret2
 exact⟨rfl,below_drewN HB2.out _⟩
set_option maxHeartbeats 2000000 in
theorem applied_no1 (A0:Option Addr) (c0':Nat) (s:Sch) (ch:Chg) (A1:Option Addr) (c1:Nat) (A2:Option Addr) (c2:Nat) (A:Option Addr) (ca:Nat) (rows:List Row) (S T:Nat→Prop) (w:World)
  (hs:TabS w S A0 s.tabs) (hr:RowsS w T A rows) (hTS:∀ b,T b→S b) (hca:rows.length≤ca) (ho:RowS w S A1 ch.old) (hc1:ch.old.length≤c1) (hn:RowS w S A2 ch.new) (hc2:ch.new.length≤c2) (hS:∀ b,S b→b<w.heap.size) (ha:Asc s ch.table rows)
  (hold:0<ch.old.length) (hf:foundF s ch rows=false) (hlen:rows.length≤1000000) :
  Calls Try.prog 57 #[sAgg s.version A0 s.tabs.length c0',.slice A rows.length ca,chAgg ch.table A1 ch.old.length c1 A2 ch.new.length c2] w (AppF w):=by
 have HFF:=Lib.hid (show (decide (low s ch.table (keyC s ch) rows<rows.length)&&(cmpR (keyF s ch.table (rows.getD (low s ch.table (keyC s ch) rows) [])) (keyC s ch) == 0))=false from hf)
 have HLOW:=Lib.hid (fun k hk=>low_iff ha (keyC s ch) (k:=k) hk)
 have hp:=low_le s ch.table (keyC s ch) rows
 obtain⟨t,old,new⟩:=ch
 simp only at ho hc1 hn hc2 hold HFF HLOW hp ⊢
 have HS:=Lib.hid hs
 have HR:=Lib.hid (hr.more hTS)
 have hT:∀ b,T b→b<w.heap.size:=fun b hb=>hS b (hTS b hb)
 have HO:=Lib.hid ho
 have HN:=Lib.hid hn
 have HC1:=Lib.hid hc1
 have HC2:=Lib.hid hc2
 have hnl:=hn.len'
 have hol:=ho.len'
 obtain⟨i0,hi,hz0,hz1,hz2⟩:=info_parts infoR
 obtain⟨vs,hvs,hvc⟩:=Sl.vals hr
 have hvl:vs.length=rows.length:=by rw [Dat.ValsAll.len _ _ hvs,sizes_map (n:=1) (fun _=>rfl)];omega
 have HVS:=Lib.hid hvs
 have HVC:=Lib.hid (show 0<rows.length→_ from fun h=>hvc (by simpa using h))
 clear hvs hvc
 clear hs hr ho hn hc1 hc2 hf ha
 generalize hkey:keyC s ⟨t,old,new⟩=key at HFF HLOW hp
 have HKEY:=Lib.hid hkey
 clear hkey
 generalize low s t key rows=p at HFF HLOW hp
 have hd1:decide (0<old.length)=true:=decide_eq_true (by omega)
 clear hold
 have HVL:=Lib.hid hvl
 clear hvl
 have HB0:=Lib.hid (((Below.refl w.heap.size w).alloc (Nat.le_refl _) (.cells #[.int .i64 s.version,.slice A0 s.tabs.length c0'] 25)).alloc (by simp) (.cells #[.int .i64 t,.slice A1 old.length c1,.slice A2 new.length c2] 53))
 go_enter Try.func57,Try.ntmps57
 go_wp2_with fail
 refine(changeKey_any A0 c0' s ⟨t,old,new⟩ A1 c1 A2 c2 S _ (HS.out.keep (Same.of_below HB0.out hS)) (HO.out.keep (Same.of_below HB0.out hS)) HC1.out (HN.out.keep (Same.of_below HB0.out hS)) HC2.out (fun b hb=>by have:=hS b hb;simp;omega)).mono ?_
 rintro e w1 ⟨AK,ck,rfl,hK,hb1⟩
 rw [HKEY.out] at hK ⊢
 have HK:=Lib.hid hK
 have HB1:=Lib.hid (HB0.out.trans (hb1.mono (by simp;omega)))
 have HCAP:=Lib.hid (show Capt w1 s A0 c0' t w.heap.size (w.heap.size+1) from ⟨(hb1.cell (p:=⟨w.heap.size,0,none⟩) (by simp;omega)).trans (by simp),(hb1.cell (p:=⟨w.heap.size,1,none⟩) (by simp;omega)).trans (by simp),(hb1.cell (p:=⟨w.heap.size+1,0,none⟩) (by simp)).trans (by simp),by have:=hb1.size;simp at this;omega,by have:=hb1.size;simp at this;omega⟩)
 have x1:w1.cell? ⟨w.heap.size+1,1,none⟩=some (.slice A1 old.length c1):=(hb1.cell (p:=⟨w.heap.size+1,1,none⟩) (by simp)).trans (by simp)
 have x2:w1.cell? ⟨w.heap.size+1,2,none⟩=some (.slice A2 new.length c2):=(hb1.cell (p:=⟨w.heap.size+1,2,none⟩) (by simp)).trans (by simp)
 have hz1:w.heap.size+1<w1.heap.size:=by have:=hb1.size;simp at this;omega
 clear hb1 hK
 go_wp2_with fail
 refine(search_any A0 c0' s t w.heap.size (w.heap.size+1) A ca rows AK ck key p S _ HCAP.out (HS.out.keep (Same.of_below HB1.out hS)) (HR.out.keep (Same.of_below HB1.out hS)) HK.out (fun b hb=>by have:=hS b hb;omega) hp HLOW.out).mono ?_
 rintro e w2 ⟨rfl,hb2⟩
 rw [HFF.out]
 have HB2:=Lib.hid (HB1.out.trans (hb2.mono (by omega)))
 have y1:w2.cell? ⟨w.heap.size+1,1,none⟩=some (.slice A1 old.length c1):=(hb2.cell (p:=⟨w.heap.size+1,1,none⟩) (by simp;omega)).trans x1
 have y2:w2.cell? ⟨w.heap.size+1,2,none⟩=some (.slice A2 new.length c2):=(hb2.cell (p:=⟨w.heap.size+1,2,none⟩) (by simp;omega)).trans x2
 have hz2:w.heap.size+1<w2.heap.size:=by have:=hb2.size;omega
 clear hb2 x1 x2 hz1
 go_wp2_with fail
 go_quiet (fail)
 go_wp2_with fail
 go_ret2
 exact⟨rfl,below_drewN HB2.out _⟩
set_option maxHeartbeats 2000000 in
theorem applied_nocmp (A0:Option Addr) (c0':Nat) (s:Sch) (ch:Chg) (A1:Option Addr) (c1:Nat) (A2:Option Addr) (c2:Nat) (A:Option Addr) (ca:Nat) (rows:List Row) (S T:Nat→Prop) (w:World)
  (hs:TabS w S A0 s.tabs) (hr:RowsS w T A rows) (hTS:∀ b,T b→S b) (hca:rows.length≤ca) (ho:RowS w S A1 ch.old) (hc1:ch.old.length≤c1) (hn:RowS w S A2 ch.new) (hc2:ch.new.length≤c2) (hS:∀ b,S b→b<w.heap.size) (ha:Asc s ch.table rows)
  (hold:0<ch.old.length) (hf:foundF s ch rows=true) (hq:cmpR (rows.getD (low s ch.table (keyC s ch) rows) []) ch.old≠0) (hlen:rows.length≤1000000) :
  Calls Try.prog 57 #[sAgg s.version A0 s.tabs.length c0',.slice A rows.length ca,chAgg ch.table A1 ch.old.length c1 A2 ch.new.length c2] w (AppF w):=by
 have HFF:=Lib.hid (show (decide (low s ch.table (keyC s ch) rows<rows.length)&&(cmpR (keyF s ch.table (rows.getD (low s ch.table (keyC s ch) rows) [])) (keyC s ch) == 0))=true from hf)
 have HLOW:=Lib.hid (fun k hk=>low_iff ha (keyC s ch) (k:=k) hk)
 have hp:=low_le s ch.table (keyC s ch) rows
 have hpl:low s ch.table (keyC s ch) rows<rows.length:=by
  have h:=HFF.out
  rw [Bool.and_eq_true] at h
  exact of_decide_eq_true h.1
 have HQ:=Lib.hid hq
 clear hq
 obtain⟨t,old,new⟩:=ch
 simp only at ho hc1 hn hc2 hold HQ HFF HLOW hp hpl ⊢
 have HS:=Lib.hid hs
 have HR:=Lib.hid (hr.more hTS)
 have hT:∀ b,T b→b<w.heap.size:=fun b hb=>hS b (hTS b hb)
 have HO:=Lib.hid ho
 have HN:=Lib.hid hn
 have HC1:=Lib.hid hc1
 have HC2:=Lib.hid hc2
 have hnl:=hn.len'
 have hol:=ho.len'
 obtain⟨i0,hi,hz0,hz1,hz2⟩:=info_parts infoR
 obtain⟨vs,hvs,hvc⟩:=Sl.vals hr
 have hvl:vs.length=rows.length:=by rw [Dat.ValsAll.len _ _ hvs,sizes_map (n:=1) (fun _=>rfl)];omega
 have HVS:=Lib.hid hvs
 have HVC:=Lib.hid (show 0<rows.length→_ from fun h=>hvc (by simpa using h))
 clear hvs hvc
 clear hs hr ho hn hc1 hc2 hf ha
 generalize hkey:keyC s ⟨t,old,new⟩=key at HQ HFF HLOW hp hpl
 have HKEY:=Lib.hid hkey
 clear hkey
 generalize low s t key rows=p at HQ HFF HLOW hp hpl
 have hd1:decide (0<old.length)=true:=decide_eq_true (by omega)
 clear hold
 have HVL:=Lib.hid hvl
 clear hvl
 have HB0:=Lib.hid (((Below.refl w.heap.size w).alloc (Nat.le_refl _) (.cells #[.int .i64 s.version,.slice A0 s.tabs.length c0'] 25)).alloc (by simp) (.cells #[.int .i64 t,.slice A1 old.length c1,.slice A2 new.length c2] 53))
 go_enter Try.func57,Try.ntmps57
 go_wp2_with fail
 refine(changeKey_any A0 c0' s ⟨t,old,new⟩ A1 c1 A2 c2 S _ (HS.out.keep (Same.of_below HB0.out hS)) (HO.out.keep (Same.of_below HB0.out hS)) HC1.out (HN.out.keep (Same.of_below HB0.out hS)) HC2.out (fun b hb=>by have:=hS b hb;simp;omega)).mono ?_
 rintro e w1 ⟨AK,ck,rfl,hK,hb1⟩
 rw [HKEY.out] at hK ⊢
 have HK:=Lib.hid hK
 have HB1:=Lib.hid (HB0.out.trans (hb1.mono (by simp;omega)))
 have HCAP:=Lib.hid (show Capt w1 s A0 c0' t w.heap.size (w.heap.size+1) from ⟨(hb1.cell (p:=⟨w.heap.size,0,none⟩) (by simp;omega)).trans (by simp),(hb1.cell (p:=⟨w.heap.size,1,none⟩) (by simp;omega)).trans (by simp),(hb1.cell (p:=⟨w.heap.size+1,0,none⟩) (by simp)).trans (by simp),by have:=hb1.size;simp at this;omega,by have:=hb1.size;simp at this;omega⟩)
 have x1:w1.cell? ⟨w.heap.size+1,1,none⟩=some (.slice A1 old.length c1):=(hb1.cell (p:=⟨w.heap.size+1,1,none⟩) (by simp)).trans (by simp)
 have x2:w1.cell? ⟨w.heap.size+1,2,none⟩=some (.slice A2 new.length c2):=(hb1.cell (p:=⟨w.heap.size+1,2,none⟩) (by simp)).trans (by simp)
 have hz1:w.heap.size+1<w1.heap.size:=by have:=hb1.size;simp at this;omega
 clear hb1 hK
 go_wp2_with fail
 refine(search_any A0 c0' s t w.heap.size (w.heap.size+1) A ca rows AK ck key p S _ HCAP.out (HS.out.keep (Same.of_below HB1.out hS)) (HR.out.keep (Same.of_below HB1.out hS)) HK.out (fun b hb=>by have:=hS b hb;omega) hp HLOW.out).mono ?_
 rintro e w2 ⟨rfl,hb2⟩
 rw [HFF.out]
 have HB2:=Lib.hid (HB1.out.trans (hb2.mono (by omega)))
 have y1:w2.cell? ⟨w.heap.size+1,1,none⟩=some (.slice A1 old.length c1):=(hb2.cell (p:=⟨w.heap.size+1,1,none⟩) (by simp;omega)).trans x1
 have y2:w2.cell? ⟨w.heap.size+1,2,none⟩=some (.slice A2 new.length c2):=(hb2.cell (p:=⟨w.heap.size+1,2,none⟩) (by simp;omega)).trans x2
 have hz2:w.heap.size+1<w2.heap.size:=by have:=hb2.size;omega
 clear hb2 x1 x2 hz1
 go_wp2_with fail
 obtain⟨b5,o5,rfl,hb5,A5,c5,f1,f2,f3⟩:=(HR.out.keep (Same.of_below HB2.out hS)).at_ hpl
 have HROW:=Lib.hid f3
 have hl5:b5<w2.heap.size:=by have:=hS b5 hb5;omega
 have hrl5:=f3.len
 have HO2:=Lib.hid (HO.out.keep (Same.of_below HB2.out hS))
 have hS2:∀ b,S b→b<w2.heap.size:=fun b hb=>by have:=hS b hb;omega
 clear f2 f3
 generalize rows.getD p []=row at f1 HROW hrl5 HQ HFF
 have q2:(0:Int)≤p:=by omega
 have q3:(p:Int)<rows.length:=by omega
 have q4:(p:Int)≤rows.length:=by omega
 go_region_held3 (fun w'=>Below w2.heap.size w2 w'∧w'.cell? ⟨w.heap.size+1,1,none⟩=some (.slice A1 old.length c1)∧w'.cell? ⟨b5,o5+p,none⟩=some (.slice A5 row.length c5))
  (first | exact⟨(Below.refl _ _).drew,y1,f1⟩ | exact⟨hv1,(hv1.cell (p:=⟨w.heap.size+1,1,none⟩) hz2).trans y1,(hv1.cell (p:=⟨b5,o5+p,none⟩) hl5).trans f1⟩)
  ((go_at_call 77;refine(equal_any A5 A1 c5 c1 row old S w2.drew (HROW.out.keep (fun _ _=>rfl)) (HO2.out.keep (fun _ _=>rfl)) hS2).mono ?_;rintro e w5 ⟨rfl,hv1'⟩;have hv1:Below w2.heap.size w2 w5:=(Below.refl _ w2).drew.trans hv1'))
 have HB3:=Lib.hid (HB2.out.trans (hv1.mono (by omega)))
 have y3:w5.cell? ⟨w.heap.size+1,2,none⟩=some (.slice A2 new.length c2):=(hv1.cell (p:=⟨w.heap.size+1,2,none⟩) hz2).trans y2
 have hz3:w.heap.size+1<w5.heap.size:=by have:=hv1.size;omega
 clear hv1 hv1' y1 y2 f1 hz2
 rw [show (cmpR row old == 0)=false from beq_eq_false_iff_ne.2 HQ.out]
 go_wp2_with fail
 go_ret2
 exact⟨rfl,HB3.out⟩
theorem applied_yes (A0:Option Addr) (c0':Nat) (s:Sch) (ch:Chg) (A1:Option Addr) (c1:Nat) (A2:Option Addr) (c2:Nat) (A:Option Addr) (ca:Nat) (rows:List Row) (S T:Nat→Prop) (w:World)
  (hs:TabS w S A0 s.tabs) (hr:RowsS w T A rows) (hTS:∀ b,T b→S b) (hca:rows.length≤ca) (ho:RowS w S A1 ch.old) (hc1:ch.old.length≤c1) (hn:RowS w S A2 ch.new) (hc2:ch.new.length≤c2) (hS:∀ b,S b→b<w.heap.size) (ha:Asc s ch.table rows)
  (hv:0<ch.old.length∨0<ch.new.length) (hf:fitsC s ch rows=true) (hlen:rows.length≤1000000) :
  Calls Try.prog 57 #[sAgg s.version A0 s.tabs.length c0',.slice A rows.length ca,chAgg ch.table A1 ch.old.length c1 A2 ch.new.length c2] w (AppT T (putC s ch rows) w):=by
 unfold fitsC at hf
 rw [Bool.and_eq_true] at hf
 obtain⟨h1,h2⟩:=hf
 rcases Nat.eq_zero_or_pos ch.old.length with h0 | h0
 · have hfo:foundF s ch rows=false:=by rw [beq_iff_eq] at h1;rw [h1];exact decide_eq_false (by omega)
   exact applied_ins A0 c0' s ch A1 c1 A2 c2 A ca rows S T w hs hr hTS hca ho hc1 hn hc2 hS ha h0 (by omega) hfo hlen
 · have hfo:foundF s ch rows=true:=by rw [beq_iff_eq] at h1;rw [h1];exact decide_eq_true h0
   have hq:cmpR (rows.getD (low s ch.table (keyC s ch) rows) []) ch.old=0:=by rw [hfo] at h2;simpa using h2
   rcases Nat.eq_zero_or_pos ch.new.length with h3 | h3
   · exact applied_del A0 c0' s ch A1 c1 A2 c2 A ca rows S T w hs hr hTS hca ho hc1 hn hc2 hS ha h0 h3 hfo hq hlen
   · exact applied_rep A0 c0' s ch A1 c1 A2 c2 A ca rows S T w hs hr hTS hca ho hc1 hn hc2 hS ha h0 h3 hfo hq hlen
theorem applied_not (A0:Option Addr) (c0':Nat) (s:Sch) (ch:Chg) (A1:Option Addr) (c1:Nat) (A2:Option Addr) (c2:Nat) (A:Option Addr) (ca:Nat) (rows:List Row) (S T:Nat→Prop) (w:World)
  (hs:TabS w S A0 s.tabs) (hr:RowsS w T A rows) (hTS:∀ b,T b→S b) (hca:rows.length≤ca) (ho:RowS w S A1 ch.old) (hc1:ch.old.length≤c1) (hn:RowS w S A2 ch.new) (hc2:ch.new.length≤c2) (hS:∀ b,S b→b<w.heap.size) (ha:Asc s ch.table rows)
  (hf:fitsC s ch rows=false) (hlen:rows.length≤1000000) :
  Calls Try.prog 57 #[sAgg s.version A0 s.tabs.length c0',.slice A rows.length ca,chAgg ch.table A1 ch.old.length c1 A2 ch.new.length c2] w (AppF w):=by
 unfold fitsC at hf
 rcases Nat.eq_zero_or_pos ch.old.length with h0 | h0
 · cases hfo:foundF s ch rows with
   | false=>rw [hfo,decide_eq_false (show ¬ 0<ch.old.length by omega)] at hf;simp at hf
   | true=>exact applied_no0 A0 c0' s ch A1 c1 A2 c2 A ca rows S T w hs hr hTS hca ho hc1 hn hc2 hS ha h0 hfo hlen
 · cases hfo:foundF s ch rows with
   | false=>exact applied_no1 A0 c0' s ch A1 c1 A2 c2 A ca rows S T w hs hr hTS hca ho hc1 hn hc2 hS ha h0 hfo hlen
   | true =>
    rw [hfo,decide_eq_true h0] at hf
    exact applied_nocmp A0 c0' s ch A1 c1 A2 c2 A ca rows S T w hs hr hTS hca ho hc1 hn hc2 hS ha h0 hfo (by simpa using hf) hlen
end Go.Proofs.Ytkpjjfhfbpfjpaa

