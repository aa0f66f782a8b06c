import Derived.Test.YtkpjjfhfbpfjpaaGreatKcac8ac
import Derived.Test.YtkpjjfhfbpfjpaaGreatKfed508
import Derived.Test.YtkpjjfhfbpfjpaaGreatKb0a16e
set_option linter.unusedVariables false
set_option linter.unusedSimpArgs false
set_option maxRecDepth 100000
set_option maxHeartbeats 8000000
namespace Go.Proofs.YtkpjjfhfbpfjpaaGreat
open Go.RowKit
theorem infoTb:(Tryz.prog.info? 72).map (fun i=>(i.zero,i.size,i.bytes))=some (some (.agg #[.string ⟨#[]⟩,.slice none 0 0,.int .i64 0,.slice none 0 0,.slice none 0 0]),5,96):=by kernel_rfl
theorem infoCo:(Tryz.prog.info? 84).map (fun i=>(i.zero,i.size,i.bytes))=some (some (.agg #[.string ⟨#[]⟩,.int .i64 0]),2,24):=by kernel_rfl
theorem infoRf:(Tryz.prog.info? 87).map (fun i=>(i.zero,i.size,i.bytes))=some (some (.agg #[.slice none 0 0,.int .i64 0]),2,32):=by kernel_rfl
theorem Zez (t:Tab):(ZaH t).Plain:=by simp [ZaH,Dat.Plain,Dat.PlainAll,Value.oneCell']
theorem ZeB (t:Col):(Zbk t).Plain:=by simp [Zbk,Dat.Plain,Dat.PlainAll,Value.oneCell']
theorem Zcy (t:Rfr):(ZbG t).Plain:=by simp [ZbG,Dat.Plain,Dat.PlainAll,Value.oneCell']
theorem ZfQ {w:World} {S:Nat→Prop} {r:Rfr} {A:Option Addr} {c:Nat} (hc:r.cols.length≤c) (h:IntS w S A r.cols):Dat.Vals w S (ZbG r) [.slice A r.cols.length c,.int .i64 r.table]:=by
 simp only [ZbG,Dat.Vals,Dat.ValsAll,ZaD,Zay,List.length_map];exact⟨[.slice A r.cols.length c],_,rfl,⟨A,c,rfl,hc,h⟩,[.int .i64 r.table],[],rfl,⟨rfl,trivial⟩,rfl⟩
theorem gen_small {s:Sch} (h:GenS s):∀ tb ∈ s.tabs,(1≤tb.cols.length∧tb.cols.length≤4)∧tb.refs.length≤1∧tb.checks.length≤1:=by
 obtain⟨n,v,id,b1,b2,b3,chk,rfl,h2,h4,_,_,hid,hc1,_⟩:=h;intro tb htb;have h5:=List.mem_of_mem_take htb;have h6:=Zha hid _ _ _ _ _ h5;refine⟨⟨h6.1,h6.2.1⟩,?_⟩;simp only [Zau,List.mem_cons,List.not_mem_nil,or_false] at h5;have hr:∀ (b:Bool) (c t:Int),(rf0 b c t).length≤1:=(fun b c t=>by cases b<;>simp [rf0]);rcases h5 with rfl | rfl | rfl | rfl
 · exact⟨by simp,by simp⟩
 · exact⟨hr _ _ _,hc1⟩
 · exact⟨hr _ _ _,by simp⟩
 · exact⟨hr _ _ _,by simp⟩
theorem Zhj {w:World} {b:Nat} {T:TypeId} {xs:List ByteArray} (h:w.heap[b]?=some (.cells (xs.map Value.string).toArray T (0,0))) {r:Nat} (hr:r<xs.length):∃ nm ∈ xs,w.cell? ⟨b,r,none⟩=some (.string nm):=by
 refine⟨xs[r],List.getElem_mem hr,(show w.cell? ⟨b,r,none⟩=w.cell? ⟨b,0+r,none⟩ by rw [Nat.zero_add]).trans (Zaa h r _ ?_)⟩;simp [hr]
theorem Zfl {w:World} {S:Nat→Prop} {c:Col} {vs:List Value} (h:Dat.Vals w S (Zbk c) vs):vs=[.string c.name,.int .i64 c.kind]∧c.name.size≤9223372036854775807:=by
 simp only [Zbk,Dat.Vals,Dat.ValsAll,ZaD,Zay] at h;obtain⟨a1,b1,rfl,⟨rfl,h0⟩,a2,b2,rfl,⟨rfl,-⟩,rfl⟩:=h;exact⟨rfl,h0⟩
section
variable {w:World} {B1 gC n c j:Nat} {D:Nat→Prop} {cols:List Col}
theorem ZeJ (h:Mk w B1 D 84 2 (.slice (some ⟨gC,0,none⟩) n c) (cols.map Zbk)) (hj:j<cols.length):w.cell? ⟨gC,j*2,none⟩=some (.string cols[j].name)∧w.cell? ⟨gC,j*2+1,none⟩=some (.int .i64 cols[j].kind)∧w.frozen? ⟨gC,j*2,none⟩=false∧w.frozen? ⟨gC,j*2+1,none⟩=false:=by
 obtain⟨row,hro,hv⟩:=RowO.open_ ZbJ h hj;obtain⟨rfl,-⟩:=Zfl hv;exact⟨(hro.at_ (j:=0) rfl).1,(hro.at_ (j:=1) rfl).1,(hro.at_ (j:=0) rfl).2,(hro.at_ (j:=1) rfl).2⟩
theorem mkcol_kind (h:Mk w B1 D 84 2 (.slice (some ⟨gC,0,none⟩) n c) (cols.map Zbk)) (hj:j<cols.length) (x:Int):Mk (w.setCell ⟨gC,j*2+1,none⟩ (.int .i64 x)) B1 D 84 2 (.slice (some ⟨gC,0,none⟩) n c) ((cols.set j ⟨cols[j].name,x⟩).map Zbk):=by
 have hn:=h.len;rw [List.length_map] at hn;subst hn;obtain⟨row,hro,hv⟩:=RowO.open_ ZbJ h hj;obtain⟨rfl,h0⟩:=Zfl hv;exact(hro.set (j:=1) (by decide) (.int .i64 x)).close h.lo (by simpa using h.hi) (fun b hb=>hb.imp id (fun hb=>hb.1)) _ (ZeH (c:=⟨cols[j].name,x⟩) h0)
theorem Zeh (h:Mk w B1 D 84 2 (.slice (some ⟨gC,0,none⟩) n c) (cols.map Zbk)) (hj:j<cols.length) {x:ByteArray} (hx:x.size≤9223372036854775807):Mk (w.setCell ⟨gC,j*2,none⟩ (.string x)) B1 D 84 2 (.slice (some ⟨gC,0,none⟩) n c) ((cols.set j ⟨x,cols[j].kind⟩).map Zbk):=by
 have hn:=h.len;rw [List.length_map] at hn;subst hn;obtain⟨row,hro,hv⟩:=RowO.open_ ZbJ h hj;obtain⟨rfl,h0⟩:=Zfl hv;exact(hro.set (j:=0) (by decide) (.string x)).close h.lo (by simpa using h.hi) (fun b hb=>hb.imp id (fun hb=>hb.1)) _ (ZeH (c:=⟨x,cols[j].kind⟩) hx)
end
theorem ints_one {w:World} {S:Nat→Prop} {nb:Nat} {x:Int} {T:TypeId} (h:w.heap[nb]?=some (.cells #[.int .i64 x] T (0,0))) (hS:S nb):IntS w S (some ⟨nb,0,none⟩) [x]:=by
 refine Sl.of_vals (l:=[ZcS x]) (by rw [show ([ZcS x]:List Dat)=[x].map ZcS from rfl,Zaf (n:=8) (fun _=>rfl)];simp) (Zat (vs:=[.int .i64 x]) ?_) (fun _=>⟨nb,0,rfl,hS,by have:=Zaa h;simpa using this⟩);simp [ZcS,Dat.Vals,ZaD]
abbrev ZgE:Array Value:=#[.slice none 0 0,.int .i64 0,.slice none 0 0,.int .i64 0,.slice none 0 0,.int .i64 0,.slice none 0 0,.int .i64 0,.slice none 0 0,.int .i64 0]
theorem run_make_ref5 (w:World):(Instr.makeSlice 69 (.int .i64 5) (.int .i64 5)).run Tryz.prog w=.ok (.slice (some ⟨w.heap.size,0,none⟩) 5 5) (w.alloc (.cells ZgE 87)):=by
 obtain⟨i0,hi,hz0,hz1,hz2⟩:=info_parts infoRf;have hr:=run_make (P:=Tryz.prog) w 69 87 i0 _ Tryz.underlying69 hi hz0 .i64 .i64 5 5 (by decide) (by decide) (by rw [hz2];decide) (by decide);rw [hz1] at hr
 have e:madeCells (Value.agg #[.slice none 0 0,.int .i64 0]).cells (Int.toNat 5*2)=ZgE:=by
  show madeCells #[.slice none 0 0,.int .i64 0] 10=ZgE;apply Array.ext
  · simp [size_madeCells]
  · intro i h1 h2
    have h9:i=0∨i=1∨i=2∨i=3∨i=4∨i=5∨i=6∨i=7∨i=8∨i=9:=by
     have:i<10:=(by simpa using h2);omega
    rcases h9 with rfl | rfl | rfl | rfl | rfl | rfl | rfl | rfl | rfl | rfl<;>simp [madeCells]
 rw [e] at hr;exact hr
theorem enc_size (r:Int):(Utf8.encode r).size≤4:=by
 unfold Utf8.encode;simp only;generalize (if Utf8.valid r=true then r.toNat else Utf8.runeError)=c;split
 · show 1≤4;omega
 · split
   · show 2≤4;omega
   · split
     · show 3≤4;omega
     · show 4≤4;omega
theorem col_size {c:ByteArray} (hc:c.size≤100) (r:Int):(c++Utf8.encode r).size≤9223372036854775807:=by
 rw [ByteArray.size_append];have:=enc_size r;omega
theorem refs5 {w:World} {S:Nat→Prop} {nb:Nat} (h:w.heap[nb]?=some (.cells ZgE 87 (0,0))) (hS:S nb):RfrS w S (some ⟨nb,0,none⟩) [r0,r0,r0,r0,r0]:=by
 have v:Dat.ValsAll w S [ZbG r0] [.slice none 0 0,.int .i64 0]:=Zat (ZfQ (r:=r0) (A:=none) (c:=0) (Nat.le_refl 0) Sl.nil_);refine Sl.of_vals (by rw [Zaf (n:=32) (fun _=>rfl)];simp) (Zan v (Zan v (Zan v (Zan v v)))) (fun _=>⟨nb,0,rfl,hS,by have:=Zaa h;simpa using this⟩)
abbrev rowT (nm:ByteArray) (A1:Option Addr) (n1 c1:Nat) (key:Int) (A2:Option Addr) (n2 c2:Nat) (A3:Option Addr) (n3 c3:Nat):List Value:=[.string nm,.slice A1 n1 c1,.int .i64 key,.slice A2 n2 c2,.slice A3 n3 c3]
def SsPost (S:Nat→Prop) (w:World) (g:Nat) (e:Ending) (w':World):Prop:=∃ (s:Sch) (A:Option Addr) (c:Nat),e=.returned (sAgg s.version A s.tabs.length c)∧s.tabs.length≤c∧s.tabs.length≤9∧TabS w' (fun b=>S b∨(w.heap.size≤b∧b<w'.heap.size)) A s.tabs∧CaseOk w' g∧w.grownBy w' (some g)
structure SsF (w wr:World) (g:Nat) (S:Nat→Prop) (v:Int) (A:Option Addr) (n c:Nat) (L:List Tab):Prop where
 sb:wr.heap[w.heap.size]?=some (.cells #[.int .i64 v,.slice A n c] 28 (0,0))
 rb:wr.heap[w.heap.size+1]?=some (.cells #[.int .i64 0,.slice none 0 0] 28 (0,0))
 tm:Mk wr (w.heap.size+2) S 72 5 (.slice A n c) (L.map ZaH)
 cs:CaseOk wr g
 gr:w.grownBy wr (some g)
 gl:g<w.heap.size
 hS:∀ b,S b→b<w.heap.size∧b≠g
structure SsI (w wr:World) (g:Nat) (S:Nat→Prop) (v:Int) (gT cT i B1:Nat) (D:Nat→Prop) (L:List Tab) (row:List Value):Prop where
 sb:wr.heap[w.heap.size]?=some (.cells #[.int .i64 v,.slice (some ⟨gT,0,none⟩) L.length cT] 28 (0,0))
 rb:wr.heap[w.heap.size+1]?=some (.cells #[.int .i64 0,.slice none 0 0] 28 (0,0))
 ro:RowO wr (w.heap.size+2) 72 5 gT cT i ZaH D L row
 dl:∀ b,D b→(S b∨w.heap.size+2≤b)∧b<B1
 b1:gT<B1∧B1≤wr.heap.size∧w.heap.size+2≤B1
 cs:CaseOk wr g
 gr:w.grownBy wr (some g)
 gl:g<w.heap.size
 hS:∀ b,S b→b<w.heap.size∧b≠g
section
variable {w wr wx W:World} {g n c gT cT i B1:Nat} {S D:Nat→Prop} {v:Int} {A:Option Addr} {L:List Tab} {row:List Value}
theorem SsF.sz (h:SsF w wr g S v A n c L):w.heap.size+1<wr.heap.size:=Zac h.rb
theorem SsF.upd (h:SsF w wr g S v A n c L) (hf:Fr (fun b=>b=g) wr wx) (hc:CaseOk wx g):SsF w wx g S v A n c L:=by
 have hz:=h.sz;have hgl:=h.gl;have hk:∀ b,b<wr.heap.size→b≠g→wx.heap[b]?=wr.heap[b]?:=fun b h1 h2=>hf.block b h1 h2;exact⟨(hk _ (by omega) (by omega)).trans h.sb,(hk _ (by omega) (by omega)).trans h.rb,h.tm.keep hf (fun b e=>⟨by omega,fun hs=>(h.hS b hs).2 e⟩),hc,h.gr.trans hf.grown,hgl,h.hS⟩
theorem SsF.setV (h:SsF w wr g S v A n c L) (v':Int):SsF w (wr.setCell ⟨w.heap.size,0,none⟩ (.int .i64 v')) g S v' A n c L:=by
 have hz:=h.sz;have hgl:=h.gl;have e1:wr.heap[w.heap.size]?=some (.cells [.int .i64 v,.slice A n c].toArray 28 (0,0)):=h.sb;have e2:=Zae (k:=0) (v:=.int .i64 v') e1;have hf:Fr (fun b=>b=w.heap.size) wr (wr.setCell ⟨w.heap.size,0,none⟩ (.int .i64 v')):=(Fr.refl _ wr).setCell _ (fun _=>rfl);refine⟨by simpa using e2,(hf.block _ (by omega) (by omega)).trans h.rb,h.tm.keep hf (fun b e=>⟨by omega,fun hs=>by have:=(h.hS b hs).1;omega⟩),h.cs.keep (fun b hb=>hf.block b (by omega) (by omega)),?_,hgl,h.hS⟩;have hg:=h.gr;exact⟨hf.os.trans hg.os,hf.tape.trans hg.tape,hf.output.trans hg.output,by have:=hg.size;have:=hf.size;omega,fun b hb1 hb2=>(hf.block b (by have:=hg.size;omega) (by omega)).trans (hg.block b hb1 hb2)⟩
theorem SsF.grow {A':Option Addr} {n' c':Nat} {L':List Tab} (h:SsF w wr g S v A n c L) (hb:Below (w.heap.size+2) wr wx) (hm:Mk wx (w.heap.size+2) S 72 5 (.slice A' n' c') (L'.map ZaH)):SsF w (wx.setCell ⟨w.heap.size,1,none⟩ (.slice A' n' c')) g S v A' n' c' L':=by
 have hz:=h.sz;have hgl:=h.gl;have hzb:=hb.size;have e1:wx.heap[w.heap.size]?=some (.cells [.int .i64 v,.slice A n c].toArray 28 (0,0)):=(hb.block _ (by omega)).trans h.sb;have e2:=Zae (k:=1) (v:=.slice A' n' c') e1;have hf:Fr (fun b=>b=w.heap.size) wx (wx.setCell ⟨w.heap.size,1,none⟩ (.slice A' n' c')):=(Fr.refl _ wx).setCell _ (fun _=>rfl);have hz2:=hf.size;have hg:=h.gr;exact⟨by simpa using e2,(hf.block _ (by omega) (by omega)).trans ((hb.block _ (by omega)).trans h.rb),hm.keep hf (fun b e=>⟨by omega,fun hs=>by have:=(h.hS b hs).1;omega⟩),h.cs.keep (fun b hb'=>(hf.block b (by omega) (by omega)).trans (hb.block b (by omega))),⟨hf.os.trans (hb.os.trans hg.os),hf.tape.trans (hb.tape.trans hg.tape),hf.output.trans (hb.output.trans hg.output),by have:=hg.size;omega,fun b hb1 hb2=>(hf.block b (by have:=hg.size;omega) (by omega)).trans ((hb.block b (by omega)).trans (hg.block b hb1 hb2))⟩,hgl,h.hS⟩
theorem SsF.first {gX:Nat} (h:SsF w wr g S v (some ⟨gX,0,none⟩) n c L) (hl:0<L.length):gX<wr.heap.size∧∃ x0 x1 x2 x3 x4,Dat.Vals wr (fun b=>S b∨Beh (w.heap.size+2) wr (.slice (some ⟨gX,0,none⟩) n c) b) (ZaH L[0]) [x0,x1,x2,x3,x4]∧wr.cell? ⟨gX,0,none⟩=some x0∧wr.cell? ⟨gX,1,none⟩=some x1∧wr.cell? ⟨gX,2,none⟩=some x2∧wr.cell? ⟨gX,3,none⟩=some x3∧wr.cell? ⟨gX,4,none⟩=some x4:=by
 have hn:=h.tm.len;rw [List.length_map] at hn;subst hn;obtain⟨row,hro,hv⟩:=RowO.open_ ZbI h.tm hl;obtain⟨A1,A2,A3,c1,c2,c3,rfl,-⟩:=ZdF hv;refine⟨hro.blk.2,_,_,_,_,_,hv,?_,?_,?_,?_,?_⟩
 · simpa using (hro.at_ (j:=0) rfl).1
 · simpa using (hro.at_ (j:=1) rfl).1
 · simpa using (hro.at_ (j:=2) rfl).1
 · simpa using (hro.at_ (j:=3) rfl).1
 · simpa using (hro.at_ (j:=4) rfl).1
def ZfR (w:World) (b:Nat):Nat:=match w.cell? ⟨b,1,none⟩ with
 | some (.slice _ n _)=>9 - n
 | _=>0
theorem ZeQ {w:World} {b n c:Nat} {A:Option Addr} (h:w.cell? ⟨b,1,none⟩=some (.slice A n c)):ZfR w b=9 - n:=by
 unfold ZfR;rw [h]
theorem setCell2_block {b:Nat} {x0 x1 a0 a1:Value} {T:TypeId} (h:wr.heap[b]?=some (.cells #[x0,x1] T (0,0))):((wr.setCell ⟨b,0,none⟩ a0).setCell ⟨b,1,none⟩ a1).heap[b]?=some (.cells #[a0,a1] T (0,0)):=by
 have e0:wr.heap[b]?=some (.cells [x0,x1].toArray T (0,0)):=h;have e1:=Zae (k:=0) (v:=a0) e0;have e2:=Zae (k:=1) (v:=a1) e1;simpa using e2
theorem SsF.done (h:SsF w wr g S v A n c L) (h9:L.length≤9):SsPost S w g (.returned (sAgg v A n c)) ((wr.setCell ⟨w.heap.size+1,0,none⟩ (.int .i64 v)).setCell ⟨w.heap.size+1,1,none⟩ (.slice A n c)):=by
 have hz:=h.sz;have hgl:=h.gl;have hg:=h.gr;have hf:Fr (fun b=>b=w.heap.size+1) wr ((wr.setCell ⟨w.heap.size+1,0,none⟩ (.int .i64 v)).setCell ⟨w.heap.size+1,1,none⟩ (.slice A n c)):=((Fr.refl (fun b=>b=w.heap.size+1) wr).setCell _ (fun _=>rfl)).setCell _ (fun _=>rfl);have hz2:=hf.size;have hmk:=h.tm.keep hf (fun b e=>⟨by omega,fun hs=>by have:=(h.hS b hs).1;omega⟩);generalize (wr.setCell ⟨w.heap.size+1,0,none⟩ (.int .i64 v)).setCell ⟨w.heap.size+1,1,none⟩ (.slice A n c)=W at hf hz2 hmk;obtain⟨e1,h1,h2⟩:=hmk.slice (by rw [Zaf (n:=96) (fun _=>rfl)];omega);rw [List.length_map] at e1;subst e1;exact⟨⟨v,L⟩,A,c,rfl,h1,h9,Sl.more h2 (fun b hb=>hb.imp id (fun hb=>⟨by omega,hb.2⟩)),h.cs.keep (fun b hb=>hf.block b (by omega) (by omega)),⟨hf.os.trans hg.os,hf.tape.trans hg.tape,hf.output.trans hg.output,by have:=hg.size;omega,fun b hb1 hb2=>(hf.block b (by have:=hg.size;omega) (by omega)).trans (hg.block b hb1 hb2)⟩⟩
theorem SsI.sz (h:SsI w wr g S v gT cT i B1 D L row):w.heap.size+1<wr.heap.size:=Zac h.rb
theorem SsI.blk (h:SsI w wr g S v gT cT i B1 D L row):w.heap.size+2≤gT∧gT<wr.heap.size:=h.ro.blk
theorem SsI.dat (h:SsI w wr g S v gT cT i B1 D L row):∀ b,D b→b<wr.heap.size∧b≠gT∧b≠g∧b≠w.heap.size∧b≠w.heap.size+1∧b<B1:=fun b hb=>by
 have h1:=h.dl b hb;have h2:=h.ro.dat b hb;have hgl:=h.gl;refine⟨h2.1,h2.2,?_⟩;rcases h1.1 with h3 | h3
 · have:=h.hS b h3;exact⟨this.2,by omega,by omega,h1.2⟩
 · exact⟨by omega,by omega,by omega,h1.2⟩
theorem SsI.upd (h:SsI w wr g S v gT cT i B1 D L row) (hf:Fr (fun b=>b=g∨B1≤b) wr wx) (hc:CaseOk wx g):SsI w wx g S v gT cT i B1 D L row:=by
 have hz:=h.sz;have hgl:=h.gl;have hb:=h.b1;have hg:=h.gr;have hz2:=hf.size
 exact⟨(hf.block _ (by omega) (by omega)).trans h.sb,(hf.block _ (by omega) (by omega)).trans h.rb,h.ro.keep hf (fun b hx=>by
  have hbl:=h.blk;refine⟨by omega,fun hd=>?_⟩;have:=h.dat b hd;omega),h.dl,⟨hb.1,by omega,hb.2.2⟩,hc,⟨hf.os.trans hg.os,hf.tape.trans hg.tape,hf.output.trans hg.output,by have:=hg.size;omega,fun b hb1 hb2=>(hf.block b (by have:=hg.size;omega) (fun hx=>by rcases hx with e | e;{ exact hb2 (by rw [e]) };omega)).trans (hg.block b hb1 hb2)⟩,hgl,h.hS⟩
theorem SsI.calls (h:SsI w wr g S v gT cT i B1 D L row) (hg:wr.grownBy wx (some g)) (hc:CaseOk wx g):SsI w wx g S v gT cT i B1 D L row:=h.upd ((ZaL hg).mono (fun _ _ e=>.inl e)) hc
theorem SsI.below (h:SsI w wr g S v gT cT i B1 D L row) (hb:Below B1 wr wx):SsI w wx g S v gT cT i B1 D L row:=by
 have h1:=h.b1;have hgl:=h.gl;refine h.upd ⟨hb.os,hb.tape,hb.output,hb.size,fun b _ hx=>hb.block b (by omega)⟩ (h.cs.keep (fun b hb'=>hb.block b (by omega)))
theorem SsI.same (h:SsI w wr g S v gT cT i B1 D L row) (hf:Fr (fun b=>b=g∨B1≤b) wr wx):Same D wr wx:=hf.same (fun b hb=>by have:=h.dat b hb;omega)
theorem SsI.sameB (h:SsI w wr g S v gT cT i B1 D L row) (hb:Below B1 wr wx):Same D wr wx:=fun b hd=>hb.block b (h.dat b hd).2.2.2.2.2
theorem SsI.sameG (h:SsI w wr g S v gT cT i B1 D L row) (hg:wr.grownBy wx (some g)):Same D wr wx:=h.same ((ZaL hg).mono (fun _ _ e=>.inl e))
theorem SsI.set (h:SsI w wr g S v gT cT i B1 D L row) {j:Nat} (hj:j<5) (x:Value):SsI w (wr.setCell ⟨gT,i*5+j,none⟩ x) g S v gT cT i B1 D L (row.set j x)∧Same D wr (wr.setCell ⟨gT,i*5+j,none⟩ x):=by
 have hz:=h.sz;have hgl:=h.gl;have hb:=h.b1;have hg:=h.gr;have hbl:=h.blk;have hf:Fr (fun b=>b=gT) wr (wr.setCell ⟨gT,i*5+j,none⟩ x):=(Fr.refl _ wr).setCell _ (fun _=>rfl);have hz2:=hf.size;exact⟨⟨(hf.block _ (by omega) (by omega)).trans h.sb,(hf.block _ (by omega) (by omega)).trans h.rb,h.ro.set hj x,h.dl,⟨hb.1,by omega,hb.2.2⟩,h.cs.keep (fun b hb=>hf.block b (by omega) (by omega)),⟨hf.os.trans hg.os,hf.tape.trans hg.tape,hf.output.trans hg.output,by have:=hg.size;omega,fun b hb1 hb2=>(hf.block b (by have:=hg.size;omega) (by omega)).trans (hg.block b hb1 hb2)⟩,hgl,h.hS⟩,hf.same (fun b hd=>⟨(h.dat b hd).1,(h.dat b hd).2.1⟩)⟩
theorem SsI.cell (h:SsI w wr g S v gT cT i B1 D L row) {j:Nat} {x:Value} (hj:row[j]?=some x):wr.cell? ⟨gT,i*5+j,none⟩=some x∧wr.frozen? ⟨gT,i*5+j,none⟩=false:=h.ro.at_ hj
theorem SsF.open_ (h:SsF w wr g S v (some ⟨gT,0,none⟩) n cT L) (hi:i<L.length):∃ D A1 A2 A3 c1 c2 c3,SsI w wr g S v gT cT i wr.heap.size D L (rowT L[i].name A1 L[i].cols.length c1 L[i].key A2 L[i].refs.length c2 A3 L[i].checks.length c3)∧L[i].name.size≤9223372036854775807∧(L[i].cols.length≤c1∧ColS wr D A1 L[i].cols)∧(L[i].refs.length≤c2∧RfrS wr D A2 L[i].refs)∧(L[i].checks.length≤c3∧PredS wr D A3 L[i].checks):=by
 have hn:=h.tm.len;rw [List.length_map] at hn;subst hn;have hz:=h.sz;obtain⟨row,hro,hv⟩:=RowO.open_ ZbI h.tm hi;obtain⟨A1,A2,A3,c1,c2,c3,rfl,h0,e1,h1,e2,h2,e3,h3⟩:=ZdF hv;have hb:=hro.blk;refine⟨_,A1,A2,A3,c1,c2,c3,⟨h.sb,h.rb,hro,fun b hb'=>⟨hb'.imp id (fun hb'=>hb'.1),(hro.dat b hb').1⟩,⟨hb.2,Nat.le_refl _,by omega⟩,h.cs,h.gr,h.gl,h.hS⟩,h0,⟨e1,h1⟩,⟨e2,h2⟩,⟨e3,h3⟩⟩
theorem SsI.close {nm:ByteArray} {cols:List Col} {key:Int} {refs:List Rfr} {chks:List Pred} {A1 A2 A3:Option Addr} {c1 c2 c3:Nat} {R1 R2 R3:Nat→Prop} (h:SsI w wr g S v gT cT i B1 D L (rowT nm A1 cols.length c1 key A2 refs.length c2 A3 chks.length c3)) (h0:nm.size≤9223372036854775807)
  (h1:cols.length≤c1∧ColS wr R1 A1 cols) (h2:refs.length≤c2∧RfrS wr R2 A2 refs) (h3:chks.length≤c3∧PredS wr R3 A3 chks)
  (q1:∀ b,R1 b→D b∨(B1≤b∧b<wr.heap.size)) (q2:∀ b,R2 b→D b∨(B1≤b∧b<wr.heap.size)) (q3:∀ b,R3 b→D b∨(B1≤b∧b<wr.heap.size)) :
  SsF w wr g S v (some ⟨gT,0,none⟩) L.length cT (L.set i ⟨nm,cols,key,refs,chks⟩):=by
 have hb:=h.b1;have hbl:=h.blk
 have hm:∀ b,(D b∨(B1≤b∧b<wr.heap.size))→(S b∨Beh (w.heap.size+2) wr (.slice (some ⟨gT,0,none⟩) L.length cT) b):=fun b hd=>by
  rcases hd with hd | hd
  · have h5:=h.dat b hd;exact((h.dl b hd).1).imp id (fun h6=>⟨h6,h5.1,fun e=>h5.2.1 (by simpa [Value.ownBlock] using e)⟩)
  · exact .inr ⟨by omega,hd.2,fun e=>by have e':b=gT:=(by simpa [Value.ownBlock] using e);omega⟩
 refine⟨h.sb,h.rb,h.ro.close (fun b hs=>by have:=(h.hS b hs).1;omega) (by omega) (fun b hd=>(h.dl b hd).1) _ ?_,h.cs,h.gr,h.gl,h.hS⟩;exact ZcM (t:=⟨nm,cols,key,refs,chks⟩) h0 h1.1 (h1.2.more (fun b hr=>hm b (q1 b hr))) h2.1 (h2.2.more (fun b hr=>hm b (q2 b hr))) h3.1 (h3.2.more (fun b hr=>hm b (q3 b hr)))
end
abbrev sL8:List ByteArray:=[⟨#[]⟩,⟨#[65]⟩,⟨#[112,114,111,106,101,99,116,115]⟩,⟨#[116,97,115,107,115]⟩,⟨#[57,97]⟩,⟨#[97,45,98]⟩,⟨#[97,98,99,100,101,102,103,104,105,106,107,108,109,110,111,112,113,114,115,116,117,118,119,120,121,122,97,98,99,100,101,102,103]⟩,⟨#[111,107,95,49]⟩]
abbrev oL8:Obj:=.cells #[.string ⟨#[]⟩,.string ⟨#[65]⟩,.string ⟨#[112,114,111,106,101,99,116,115]⟩,.string ⟨#[116,97,115,107,115]⟩,.string ⟨#[57,97]⟩,.string ⟨#[97,45,98]⟩,.string ⟨#[97,98,99,100,101,102,103,104,105,106,107,108,109,110,111,112,113,114,115,116,117,118,119,120,121,122,97,98,99,100,101,102,103]⟩,.string ⟨#[111,107,95,49]⟩] 9
abbrev sL4:List ByteArray:=[⟨#[]⟩,⟨#[105,100]⟩,⟨#[120,32,121]⟩,⟨#[255]⟩]
abbrev oL4:Obj:=.cells #[.string ⟨#[]⟩,.string ⟨#[105,100]⟩,.string ⟨#[120,32,121]⟩,.string ⟨#[255]⟩] 9
theorem strs8_at {w:World} {b r:Nat} (h:w.heap[b]?=some oL8) (hr:r<8):∃ nm,nm.size≤9223372036854775807∧w.cell? ⟨b,r,none⟩=some (.string nm):=by
 obtain⟨nm,h1,h2⟩:=Zhj (xs:=sL8) h (by exact hr);refine⟨nm,?_,h2⟩;simp only [List.mem_cons,List.not_mem_nil,or_false] at h1;rcases h1 with rfl | rfl | rfl | rfl | rfl | rfl | rfl | rfl<;>decide
theorem ZfU {w:World} {b r:Nat} (h:w.heap[b]?=some oL4) (hr:r<4):∃ nm,nm.size≤9223372036854775807∧w.cell? ⟨b,r,none⟩=some (.string nm):=by
 obtain⟨nm,h1,h2⟩:=Zhj (xs:=sL4) h (by exact hr);refine⟨nm,?_,h2⟩;simp only [List.mem_cons,List.not_mem_nil,or_false] at h1;rcases h1 with rfl | rfl | rfl | rfl<;>decide
structure SsO (w wr:World) (g:Nat) (S:Nat→Prop) (v:Int) (gT cT i B1:Nat) (D:Nat→Prop) (L:List Tab) (nm:ByteArray) (A1:Option Addr) (n1 c1:Nat) (key:Int) (A2:Option Addr) (c2:Nat) (refs:List Rfr) (A3:Option Addr) (c3:Nat) (chks:List Pred):Prop where
 si:SsI w wr g S v gT cT i B1 D L (rowT nm A1 n1 c1 key A2 refs.length c2 A3 chks.length c3)
 nz:nm.size≤9223372036854775807
 rf:refs.length≤c2∧RfrS wr D A2 refs
 ck:chks.length≤c3∧PredS wr D A3 chks
section
variable {w wr wx:World} {g gT cT i B1 BB n1 c1 c2 c3:Nat} {S D:Nat→Prop} {v key:Int} {L:List Tab} {nm:ByteArray} {A1 A2 A3:Option Addr} {refs:List Rfr} {chks:List Pred}
theorem SsO.calls (h:SsO w wr g S v gT cT i B1 D L nm A1 n1 c1 key A2 c2 refs A3 c3 chks) (hg:wr.grownBy wx (some g)) (hc:CaseOk wx g):SsO w wx g S v gT cT i B1 D L nm A1 n1 c1 key A2 c2 refs A3 c3 chks :=
 ⟨h.si.calls hg hc,h.nz,⟨h.rf.1,h.rf.2.keep (h.si.sameG hg)⟩,⟨h.ck.1,h.ck.2.keep (h.si.sameG hg)⟩⟩
theorem SsO.below (h:SsO w wr g S v gT cT i B1 D L nm A1 n1 c1 key A2 c2 refs A3 c3 chks) (hb:Below B1 wr wx):SsO w wx g S v gT cT i B1 D L nm A1 n1 c1 key A2 c2 refs A3 c3 chks :=
 ⟨h.si.below hb,h.nz,⟨h.rf.1,h.rf.2.keep (h.si.sameB hb)⟩,⟨h.ck.1,h.ck.2.keep (h.si.sameB hb)⟩⟩
theorem SsO.mkg {X size:Nat} {e:TypeId} {u:Value} {l:List Dat} (h:SsO w wr g S v gT cT i B1 D L nm A1 n1 c1 key A2 c2 refs A3 c3 chks) (m:Mk wr X D e size u l) (hX:B1≤X) (hg:wr.grownBy wx (some g)):Mk wx X D e size u l :=
 m.keep (ZaL hg) (fun b e=>⟨by have:=h.si.b1;have:=h.si.gl;omega,fun hd=>(h.si.dat b hd).2.2.1 e⟩)
theorem SsO.colg {A:Option Addr} {cols:List Col} (h:SsO w wr g S v gT cT i B1 D L nm A1 n1 c1 key A2 c2 refs A3 c3 chks) (hc:ColS wr (fun b=>D b∨(B1≤b∧b<BB)) A cols) (hB:BB≤wr.heap.size) (hg:wr.grownBy wx (some g)):ColS wx (fun b=>D b∨(B1≤b∧b<BB)) A cols :=
 hc.keep (fun b hb=>hg.block b (by rcases hb with hb | hb;{ exact(h.si.dat b hb).1 };omega) (fun e=>by injection e with e;rcases hb with hb | hb;{ exact(h.si.dat b hb).2.2.1 e };have:=h.si.gl;have:=h.si.b1;omega))
theorem SsO.colb {A:Option Addr} {cols:List Col} (h:SsO w wr g S v gT cT i B1 D L nm A1 n1 c1 key A2 c2 refs A3 c3 chks) (hc:ColS wr (fun b=>D b∨(B1≤b∧b<BB)) A cols) (hB:B1≤BB) (hb:Below BB wr wx):ColS wx (fun b=>D b∨(B1≤b∧b<BB)) A cols :=
 hc.keep (fun b hx=>hb.block b (by rcases hx with hx | hx;{ have:=(h.si.dat b hx).2.2.2.2.2;omega };omega))
theorem SsO.cell (h:SsO w wr g S v gT cT i B1 D L nm A1 n1 c1 key A2 c2 refs A3 c3 chks):(wr.cell? ⟨gT,i*5,none⟩=some (.string nm)∧wr.cell? ⟨gT,i*5+1,none⟩=some (.slice A1 n1 c1)∧wr.cell? ⟨gT,i*5+2,none⟩=some (.int .i64 key)∧wr.cell? ⟨gT,i*5+3,none⟩=some (.slice A2 refs.length c2)∧wr.cell? ⟨gT,i*5+4,none⟩=some (.slice A3 chks.length c3))∧wr.frozen? ⟨gT,i*5,none⟩=false∧wr.frozen? ⟨gT,i*5+1,none⟩=false∧wr.frozen? ⟨gT,i*5+2,none⟩=false∧wr.frozen? ⟨gT,i*5+3,none⟩=false∧wr.frozen? ⟨gT,i*5+4,none⟩=false :=
 ⟨⟨(h.si.cell (j:=0) rfl).1,(h.si.cell (j:=1) rfl).1,(h.si.cell (j:=2) rfl).1,(h.si.cell (j:=3) rfl).1,(h.si.cell (j:=4) rfl).1⟩,(h.si.cell (j:=0) rfl).2,(h.si.cell (j:=1) rfl).2,(h.si.cell (j:=2) rfl).2,(h.si.cell (j:=3) rfl).2,(h.si.cell (j:=4) rfl).2⟩
theorem SsO.lt (h:SsO w wr g S v gT cT i B1 D L nm A1 n1 c1 key A2 c2 refs A3 c3 chks):gT<wr.heap.size:=h.si.blk.2
theorem SsO.set1 (h:SsO w wr g S v gT cT i B1 D L nm A1 n1 c1 key A2 c2 refs A3 c3 chks) (A:Option Addr) (n c:Nat):SsO w (wr.setCell ⟨gT,i*5+1,none⟩ (.slice A n c)) g S v gT cT i B1 D L nm A n c key A2 c2 refs A3 c3 chks:=by
 have h1:=h.si.set (j:=1) (by decide) (.slice A n c);exact⟨h1.1,h.nz,⟨h.rf.1,h.rf.2.keep h1.2⟩,⟨h.ck.1,h.ck.2.keep h1.2⟩⟩
theorem SsO.mks {X size j:Nat} {e:TypeId} {u x:Value} {l:List Dat} (h:SsO w wr g S v gT cT i B1 D L nm A1 n1 c1 key A2 c2 refs A3 c3 chks) (m:Mk wr X D e size u l) (hX:B1≤X):Mk (wr.setCell ⟨gT,j,none⟩ x) X D e size u l :=
 m.keep (X:=fun b=>b=gT) ((Fr.refl _ _).setCell _ (fun _=>rfl)) (fun b e=>⟨by have:=h.si.b1;omega,fun hd=>(h.si.dat b hd).2.1 e⟩)
theorem SsO.cx (h:SsO w wr g S v gT cT i B1 D L nm A1 n1 c1 key A2 c2 refs A3 c3 chks) {j:Nat} {x:Value}:Same (fun b=>D b∨(B1≤b∧b<wr.heap.size)) wr (wr.setCell ⟨gT,j,none⟩ x):=fun b hb =>
 Below.heap_setCell _ ⟨gT,j,none⟩ _ b (by rcases hb with hb | hb;{ exact(h.si.dat b hb).2.1 };have:=h.si.b1;intro e;have e':b=gT:=e;omega)
theorem Zdz {D:Nat→Prop} {B1 BB:Nat} {wr:World} (hB:BB≤wr.heap.size):∀ b,(D b∨(B1≤b∧b<BB))→(D b∨(B1≤b∧b<wr.heap.size)):=fun b hb=>hb.imp id (fun hb=>⟨hb.1,by omega⟩)
variable {cols:List Col} (h:SsO w wr g S v gT cT i B1 D L nm A1 cols.length c1 key A2 c2 refs A3 c3 chks) (hk:cols.length≤c1) (hc:ColS wr (fun b=>D b∨(B1≤b∧b<wr.heap.size)) A1 cols)
include h hk hc
theorem SsO.endc:SsF w wr g S v (some ⟨gT,0,none⟩) L.length cT (L.set i ⟨nm,cols,key,refs,chks⟩) :=
 h.si.close h.nz ⟨hk,hc⟩ h.rf h.ck (fun b hb=>hb) (fun b hb=>.inl hb) (fun b hb=>.inl hb)
theorem SsO.end0 {nm':ByteArray} (hn:nm'.size≤9223372036854775807):SsF w (wr.setCell ⟨gT,i*5,none⟩ (.string nm')) g S v (some ⟨gT,0,none⟩) L.length cT (L.set i ⟨nm',cols,key,refs,chks⟩):=by
 have h1:=h.si.set (j:=0) (by decide) (.string nm');exact h1.1.close hn ⟨hk,hc.keep h.cx⟩ ⟨h.rf.1,h.rf.2.keep h1.2⟩ ⟨h.ck.1,h.ck.2.keep h1.2⟩ (fun b hb=>by simpa using hb) (fun b hb=>.inl hb) (fun b hb=>.inl hb)
theorem SsO.end2 (key':Int):SsF w (wr.setCell ⟨gT,i*5+2,none⟩ (.int .i64 key')) g S v (some ⟨gT,0,none⟩) L.length cT (L.set i ⟨nm,cols,key',refs,chks⟩):=by
 have h1:=h.si.set (j:=2) (by decide) (.int .i64 key');exact h1.1.close h.nz ⟨hk,hc.keep h.cx⟩ ⟨h.rf.1,h.rf.2.keep h1.2⟩ ⟨h.ck.1,h.ck.2.keep h1.2⟩ (fun b hb=>by simpa using hb) (fun b hb=>.inl hb) (fun b hb=>.inl hb)
omit hk hc in
theorem SsO.end1:SsF w (wr.setCell ⟨gT,i*5+1,none⟩ (.slice none 0 0)) g S v (some ⟨gT,0,none⟩) L.length cT (L.set i ⟨nm,[],key,refs,chks⟩):=by
 have h1:=h.si.set (j:=1) (by decide) (.slice none 0 0);exact h1.1.close (cols:=[]) (R1:=D) h.nz ⟨Nat.le_refl _,Sl.nil_⟩ ⟨h.rf.1,h.rf.2.keep h1.2⟩ ⟨h.ck.1,h.ck.2.keep h1.2⟩ (fun b hb=>.inl hb) (fun b hb=>.inl hb) (fun b hb=>.inl hb)
theorem SsO.end3 {refs':List Rfr} {A:Option Addr} {n c:Nat} (hr:n=refs'.length∧n≤c∧RfrS wr (fun b=>D b∨(B1≤b∧b<wr.heap.size)) A refs'):SsF w (wr.setCell ⟨gT,i*5+3,none⟩ (.slice A n c)) g S v (some ⟨gT,0,none⟩) L.length cT (L.set i ⟨nm,cols,key,refs',chks⟩):=by
 obtain⟨rfl,hr1,hr2⟩:=hr;have h1:=h.si.set (j:=3) (by decide) (.slice A refs'.length c);exact h1.1.close h.nz ⟨hk,hc.keep h.cx⟩ ⟨hr1,hr2.keep h.cx⟩ ⟨h.ck.1,h.ck.2.keep h1.2⟩ (fun b hb=>by simpa using hb) (fun b hb=>by simpa using hb) (fun b hb=>.inl hb)
theorem SsO.end4 {chks':List Pred} {A:Option Addr} {n c:Nat} (hr:n=chks'.length∧n≤c∧PredS wr (fun b=>D b∨(B1≤b∧b<wr.heap.size)) A chks'):SsF w (wr.setCell ⟨gT,i*5+4,none⟩ (.slice A n c)) g S v (some ⟨gT,0,none⟩) L.length cT (L.set i ⟨nm,cols,key,refs,chks'⟩):=by
 obtain⟨rfl,hr1,hr2⟩:=hr;have h1:=h.si.set (j:=4) (by decide) (.slice A chks'.length c);exact h1.1.close h.nz ⟨hk,hc.keep h.cx⟩ ⟨h.rf.1,h.rf.2.keep h1.2⟩ ⟨hr1,hr2.keep h.cx⟩ (fun b hb=>by simpa using hb) (fun b hb=>.inl hb) (fun b hb=>by simpa using hb)
end
section
variable {w wr:World} {g n c:Nat} {S:Nat→Prop} {v:Int} {A:Option Addr} {L:List Tab}
theorem SsF.cells (h:SsF w wr g S v A n c L):wr.cell? ⟨w.heap.size,0,none⟩=some (.int .i64 v)∧wr.cell? ⟨w.heap.size,1,none⟩=some (.slice A n c)∧wr.cell? ⟨w.heap.size+1,0,none⟩=some (.int .i64 0)∧wr.cell? ⟨w.heap.size+1,1,none⟩=some (.slice none 0 0)∧wr.frozen? ⟨w.heap.size+1,0,none⟩=false∧wr.frozen? ⟨w.heap.size+1,1,none⟩=false∧w.heap.size<wr.heap.size∧w.heap.size+1<wr.heap.size :=
 ⟨Zaa h.sb 0 _ rfl,Zaa h.sb 1 _ rfl,Zaa h.rb 0 _ rfl,Zaa h.rb 1 _ rfl,by simp [World.frozen?,h.rb],by simp [World.frozen?,h.rb],by have:=h.sz;omega,h.sz⟩
theorem SsF.ends (h:SsF w wr g S v A n c L):((wr.setCell ⟨w.heap.size+1,0,none⟩ (.int .i64 v)).setCell ⟨w.heap.size+1,1,none⟩ (.slice A n c)).cell? ⟨w.heap.size+1,0,none⟩=some (.int .i64 v)∧((wr.setCell ⟨w.heap.size+1,0,none⟩ (.int .i64 v)).setCell ⟨w.heap.size+1,1,none⟩ (.slice A n c)).cell? ⟨w.heap.size+1,1,none⟩=some (.slice A n c):=by
 have e3:=setCell2_block (a0:=.int .i64 v) (a1:=.slice A n c) h.rb;exact⟨Zaa e3 0 _ rfl,Zaa e3 1 _ rfl⟩
end
end Go.Proofs.YtkpjjfhfbpfjpaaGreat
