import Derived.Test.YtkpjjfhfbpfjpaaK660fb2
import Derived.Test.YtkpjjfhfbpfjpaaK40cf09
import Derived.Test.YtkpjjfhfbpfjpaaKb0474c
import Derived.Test.YtkpjjfhfbpfjpaaKe1b890
import Derived.Deep.AppendLies
import Derived.Lib.AppendStr
import Derived.Deep.Cut
set_option linter.unusedVariables false
set_option linter.unusedSimpArgs false
set_option maxRecDepth 100000
set_option maxHeartbeats 8000000
namespace Go.Proofs.Ytkpjjfhfbpfjpaa
open Go.RowKit Go.Shelf
attribute [local go_sem] Oper.semAt_some
end Go.Proofs.Ytkpjjfhfbpfjpaa
namespace Go.Proofs.Ytkpjjfhfbpfjpaa
open Go.RowKit Go.Shelf
attribute [local go_sem] Oper.semAt_some
end Go.Proofs.Ytkpjjfhfbpfjpaa
namespace Go.Proofs.Ytkpjjfhfbpfjpaa
open Go.RowKit
theorem ZdM:∀ (os:List Obj) (w:World) (k:Nat),k<os.length→(os.foldl World.alloc w).heap[w.heap.size+k]?=os[k]?
 | [],_,k,h=>by simp at h
 | o :: os,w,0,_=>by
  have h2:∀ (os:List Obj) (w:World) (b:Nat),b<w.heap.size→(os.foldl World.alloc w).heap[b]?=w.heap[b]?:=by
   intro os;induction os with
   | nil=>intro w b hb;rfl
   | cons o os ih=>intro w b hb;rw [List.foldl_cons,ih _ _ (by simp;omega)];exact Below.heap_alloc w o b hb
  rw [List.foldl_cons,h2 os _ _ (by simp)];exact heap_alloc_new w o
 | o :: os,w,k+1,h=>by
  have:=ZdM os (w.alloc o) k (by simpa using h);rw [World.size_alloc,show w.heap.size+1+k=w.heap.size+(k+1) by omega] at this;exact this
theorem Zci:∀ (os:List Obj) (w:World),Below w.heap.size w (os.foldl World.alloc w)∧(os.foldl World.alloc w).heap.size=w.heap.size+os.length
 | [],w=>⟨Below.refl _ _,rfl⟩
 | o :: os,w=>by
  obtain⟨h1,h2⟩:=Zci os (w.alloc o);refine⟨((Below.refl _ w).alloc nR o).trans (h1.mono (by simp)),?_⟩;rw [List.foldl_cons,h2,World.size_alloc,List.length_cons];omega
abbrev tA:ByteArray:=⟨#[97]⟩
abbrev tB:ByteArray:=⟨#[98]⟩
section
variable {w:World} {S:Nat→Prop}
theorem Zaa {b:Nat} {cs:Array Value} {t:TypeId} (h:w.heap[b]?=some (.cells cs t (0,0))):CellsAt w b 0 cs.toList:=fun j u hu=>by
 rw [Nat.zero_add];simp only [World.cell?,h];simpa using hu
theorem tab_block {b:Nat} {A:Option Addr} {cols:List Col} {key:Int} {name:ByteArray} {n c:Nat} (h:w.heap[b]?=some (.cells #[.string name,.slice A n c,.int .i64 key,.slice none 0 0,.slice none 0 0] 39 (0,0))) (hn:n=cols.length) (hnm:name.size≤64) (hS:S b) (hc:cols.length≤c) (hr:ColS w S A cols):TabS w S (some ⟨b,0,none⟩) [⟨name,cols,key,[],[]⟩]:=by
 subst hn;have hh:=Zaa h;refine⟨by rw [Zah (n:=96) (fun _=>rfl)];simp,fun _=>⟨b,0,rfl,hS,?_⟩⟩;simp only [List.map_cons,List.map_nil,ZaJ,Dat.HeldAll,Dat.Held,Dat.size,Dat.sizes,and_true,Zau,Zaq,List.length_map,List.length_nil];refine⟨⟨hh 0 _ rfl,by omega⟩,⟨A,c,hh 1 _ rfl,hc,hr.1,fun h0=>hr.2 (by simpa using h0)⟩,hh 2 _ rfl,⟨none,0,hh 3 _ rfl,by omega,by simp [Dat.bytesAll],fun h=>by omega⟩,⟨none,0,hh 4 _ rfl,by omega,by simp [Dat.bytesAll],fun h=>by omega⟩⟩
end
abbrev bv (n:Int):Value:=.int .u8 n
abbrev BY (w:World) (base:Nat) (A:Option Addr) (c:Nat) (bs:List Int):Prop:=w.ownsRow base 5 1 (.slice A bs.length c) bs.length (bs.map bv)
theorem Zed:(Try.prog.info? 5).map (fun i=>(i.zero,i.size,i.bytes))=some (some (.int .u8 0),1,1):=by kernel_rfl
theorem BY.below {w w':World} {base c:Nat} {A:Option Addr} {bs:List Int} (h:BY w base A c bs) (hb:Below w.heap.size w w'):BY w' base A c bs :=
 Zba h (fun q hq=>hb.block q (ZaH h hq))
theorem ZaG {ops:Array Oper} {rest:List Oper} {o:Oper} {a:Act} {Q:Exit→Act→World→Prop} (hgd:o.guard=none) (s x:Operand)
  (ho:o.op=.call { callee:=.builtin .append,args:=#[s,x],argTypes:=#[22,22] })
  (base:Nat) (w0:World) (A:Option Addr) (c:Nat) (bs:List Int) (hB:BY w0 base A c bs) (hbase:base≤w0.heap.size) (hs:a.eval s=.slice A bs.length c)
  (n:Int) (c':Nat) (hx:a.eval x=.slice (some ⟨w0.heap.size,0,none⟩) 1 c') (hl:bs.length≤1000000000000)
  (h:∀ g cap w',BY w' base (some ⟨g,0,none⟩) cap (bs++[n])→Below base w0 w'→w0.grownBy w' (Value.slice A bs.length c).ownBlock→wpList Try.prog ops Q rest (a.put o.dst (.slice (some ⟨g,0,none⟩) (bs.length+1) cap)) w') :
  wpList Try.prog ops Q (o :: rest) a (w0.alloc (.cells #[bv n] 5)):=by
 obtain⟨i,hi,hz,hsize,hby⟩:=info_parts Zed;have hba:Below w0.heap.size w0 (w0.alloc (.cells #[bv n] 5)):=(Below.refl _ _).alloc nR _;have hB':=hB.below hba
 refine wpList_append_lies _ hgd s x 22 ho base 5 i _ 1 1 Try.underlying22 hi hz hsize hby rfl (by decide) (.slice A bs.length c) bs.length (bs.map bv) hs hB' ⟨w0.heap.size,0,none⟩ 1 c' [bv n] hx rfl
  (World.news_of_block (heap_alloc_new w0 (.cells #[bv n] 5))) (fun u hu=>by simp at hu;subst hu;rfl) (by omega) (by unfold maxLen;omega) (by omega) (by simp;omega) (w0.heap.size+1) (World.size_alloc _ _) ?_
 intro g cap w' hown hg hat hlt;refine h g cap w' (by show w'.ownsRow base _ 1 (.slice _ (bs++[n]).length cap) (bs++[n]).length ((bs++[n]).map bv);rw [List.length_append,List.map_append];exact hown) ?_ ((World.grownBy_alloc w0 _ _).trans hg);refine(hba.mono hbase).trans ⟨hg.os,hg.tape,hg.output,hg.size,fun b hb=>hg.block b (by simp;omega) (fun e=>?_)⟩;have:=ZaE hB e.symm;omega
def PutP (base:Nat) (T:List Int) (w:World) (e:Ending) (w':World):Prop:=∃ A c,e=.returned (.slice A T.length c)∧BY w' base A c T∧Below base w w'
theorem BY.of_owns {w:World} {base n:Nat} {v:Value} {xs:List Value} {T:List Int} (h:w.ownsRow base 5 1 v n xs) (hn:n=T.length) (hx:xs=T.map bv):∃ A c,v=.slice A T.length c∧BY w base A c T:=by
 subst hn hx;rcases h.2 with ⟨rfl,h0⟩ | ⟨g,cap,cur,rfl,_⟩
 · have h1:T=[]:=List.eq_nil_of_length_eq_zero h0;subst h1;exact⟨none,0,rfl,h⟩
 · exact⟨_,_,rfl,h⟩
def lebF (n:Nat):List Int:=if n<128 then [(n:Int)] else bits .or .u8 ((n:Int) % 256) 128 :: lebF (n / 128)
termination_by n
decreasing_by omega
theorem Zfg:∀ (k n:Nat),n<128 ^ (k+1)→(lebF n).length≤k+1
 | 0,n,h=>by rw [lebF,if_pos (by omega)];simp
 | k+1,n,h=>by
  rw [lebF];split
  · simp
  · have h1:=Zfg k (n / 128) (Nat.div_lt_of_lt_mul (by rw [Nat.pow_succ,Nat.mul_comm] at h;exact h));simp only [List.length_cons];omega
theorem Zbl {n:Nat} (h:n<18446744073709551616):(lebF n).length≤10:=Zfg 9 n (by omega)
theorem ZcA (base:Nat) (A:Option Addr) (c:Nat) (bs:List Int) (n:Nat) (w:World) (h1:n<18446744073709551616) (hB:BY w base A c bs) (hbase:base≤w.heap.size) (hl:bs.length≤100000000) :
  Calls Try.prog 113 #[.slice A bs.length c,.int .u64 (n:Int)] w (PutP base (bs++lebF n) w):=by
 have HB:=hI hB;clear hB;obtain⟨T,hT⟩:∃ T,bs++lebF n=T:=⟨_,rfl⟩;have hTl:T.length≤100000010:=(by rw [←hT,List.length_append];have:=Zbl h1;omega);have HT:=hI hT;rw [hT];clear hT;go_enter Try.func113,Try.ntmps113
 go_wp2_with fail
 go_loopw [0,1] (fun b v wr=>∃ (A:Option Addr) (c:Nat) (bs:List Int) (n:Nat),b=.slice A bs.length c∧v=.int .u64 (n:Int)∧n<18446744073709551616∧bs++lebF n=T∧BY wr base A c bs∧Below base w wr) (fun _ v _=>(intOf v).toNat)
 case atStart=>exact⟨A,c,bs,n,rfl,rfl,h1,HT.out,HB.out,Below.refl _ _⟩
 case round =>
  clear HB hl HT h1;obtain⟨A,c,bs,n,rfl,rfl,h1,hT,hB,hb⟩:=hrel;have HB:=hI hB;have HL:=hI hb;have hsz:=hb.size;have hbl:bs.length≤100000010:=(by rw [←hT,List.length_append] at hTl;omega);have HT:=hI hT;clear hB hb hT;rcases Nat.lt_or_ge n 128 with h8 | h8
  · have hd:decide ((128:Int)≤(n:Int))=false:=decide_eq_false (by omega);have hd2:decide ((n:Int)≥128)=false:=decide_eq_false (by omega)
    go_wp2_with (at_builtin;refine ZaG rfl (.tmp 15) (.tmp 18) rfl base _ A c bs HB.out (by omega) rfl _ _ rfl (by omega) ?_;intro g7 cap7 wl hB7 hb7 hg7;have HB7:=hI hB7;have HL7:=hI hb7;have HG7:=hI hg7;clear hB7 hb7 hg7)
    have e:T=bs++[(n:Int)]:=(by rw [←HT.out,lebF,if_pos h8]);subst e;go_ret;exact⟨some ⟨g7,0,none⟩,cap7,by simp,HB7.out,HL.out.trans (HL7.out)⟩
  · have hd:decide ((128:Int)≤(n:Int))=true:=decide_eq_true (by omega);have hd2:decide ((n:Int)≥128)=true:=decide_eq_true (by omega)
    go_wp2_with (at_builtin;refine ZaG rfl (.tmp 7) (.tmp 11) rfl base _ A c bs HB.out (by omega) rfl _ _ rfl (by omega) ?_;intro g7 cap7 wl hB7 hb7 hg7;have HB7:=hI hB7;have HL7:=hI hb7;have HG7:=hI hg7;clear hB7 hb7 hg7)
    go_roundw
    case rel=>exact⟨some ⟨g7,0,none⟩,cap7,bs++[bits .or .u8 ((n:Int) % 256) 128],n / 128,by simp,by simp,by omega,by rw [←HT.out,List.append_assoc,List.singleton_append];congr 1;rw [lebF.eq_def n,if_neg (by omega)],HB7.out,HL.out.trans HL7.out⟩
    case measure=>(simp [intOf];omega)
def zigI (n:Int):Int:=bits .xor .u64 (IntKind.u64.wrap (wrap64 (n*2))) (IntKind.u64.wrap (n / 9223372036854775808))
def zigF (n:Int):Nat:=(zigI n).toNat
theorem Zdt (n:Int):0≤zigI n∧zigI n<18446744073709551616:=by
 have h:=wf_bits .xor .u64 (IntKind.u64.wrap (wrap64 (n*2))) (IntKind.u64.wrap (n / 9223372036854775808));have h2:(Lit.int .u64 (zigI n)).wf=true:=h;simp [Lit.wf,IntKind.min,IntKind.max,IntKind.signed,IntKind.bits] at h2;omega
theorem putInt_any (base:Nat) (A:Option Addr) (c:Nat) (bs:List Int) (n:Int) (w:World) (hB:BY w base A c bs) (hbase:base≤w.heap.size) (hl:bs.length≤100000000) :
  Calls Try.prog 131 #[.slice A bs.length c,.int .i64 n] w (PutP base (bs++lebF (zigF n)) w):=by
 have HB:=hI hB;clear hB;have hz:=Zdt n;have HZ:=hI (show bits .xor .u64 (IntKind.u64.wrap (wrap64 (n*2))) (IntKind.u64.wrap (n / 9223372036854775808))=((zigF n:Nat):Int) by show zigI n=_;unfold zigF;omega);have hz2:zigF n<18446744073709551616:=(by unfold zigF;omega);clear hz;go_enter Try.func131,Try.ntmps131
 go_wp2_with fail
 rw [HZ.out];refine(ZcA base A c bs (zigF n) w hz2 HB.out hbase hl).mono ?_;rintro e w1 ⟨A1,c1,rfl,hB1,hb1⟩;have HB1:=hI hB1;have HL1:=hI hb1;clear hB1 hb1
 go_wp2_with fail
 go_ret;exact⟨A1,c1,by simp,HB1.out,HL1.out⟩
def txtB (t:ByteArray):List Int:=t.data.toList.map fun b=>(b.toNat:Int)
theorem Zel (t:ByteArray):(txtB t).length=t.size:=by
 rw [txtB,List.length_map,Array.length_toList];rfl
theorem ZdS (t:ByteArray):(txtB t).map bv=Go.Lib.strCells t:=by
 rw [txtB,List.map_map];rfl
theorem putText_any (base:Nat) (A:Option Addr) (c:Nat) (bs:List Int) (t:ByteArray) (w:World) (hB:BY w base A c bs) (hbase:base≤w.heap.size) (hl:bs.length≤100000000) (ht:t.size≤64) :
  Calls Try.prog 132 #[.slice A bs.length c,.string t] w (PutP base (bs++lebF t.size++txtB t) w):=by
 have HB:=hI hB;clear hB;obtain⟨i,hi,hz,hsize,hby⟩:=info_parts Zed;go_enter Try.func132,Try.ntmps132
 go_wp2_with fail
 refine(ZcA base A c bs t.size w (by omega) HB.out hbase hl).mono ?_;rintro e w1 ⟨A1,c1,rfl,hB1,hb1⟩;have HB1:=hI hB1;have HL1:=hI hb1;have hs1:=hb1.size;clear hB1 hb1;have hl1:(bs++lebF t.size).length≤100000010:=(by rw [List.length_append];have:=Zbl (n:=t.size) (by omega);omega);have HTX:=hI (ZdS t);have HTL:=hI (Zel t);obtain⟨T1,hT1⟩:∃ T1,bs++lebF t.size=T1:=⟨_,rfl⟩;rw [hT1] at HB1 hl1;have HT1:=hI hT1;rw [hT1];clear hT1
 go_wp2_with (at_builtin;refine Go.Lib.wpList_append_own_string _ rfl (.tmp 9) (.tmp 10) 22 9 rfl base 5 i Try.underlying22 Try.underlying9 hi hz hsize hby _ T1.length _ rfl HB1.out t rfl (by unfold maxLen;omega) (by omega) (by omega) ?_;intro v7 w7 hB7 hg7 hn7;have HB7:=hI hB7;have HG7:=hI hg7;clear hB7 hg7 hn7)
 obtain⟨A7,c7,rfl,hB⟩:=BY.of_owns (T:=T1++txtB t) HB7.out (by rw [List.length_append,HTL.out]) (by rw [List.map_append,HTX.out]);have HB:=hI hB;clear hB;go_ret;exact⟨A7,c7,by rw [HT1.out];rfl,by rw [HT1.out];exact HB.out,HL1.out.trans ⟨HG7.out.os,HG7.out.tape,HG7.out.output,HG7.out.size,fun b hb=>HG7.out.block b (by omega) (fun e=>by have:=ZaE HB1.out e.symm;omega)⟩⟩
def valB (v:V):List Int:=IntKind.u8.wrap v.k :: (if v.k=3 then [IntKind.u8.wrap v.i] else if v.k=4 then lebF (zigF v.i) else if v.k=5 then lebF v.t.size++txtB v.t else [])
theorem valB_len {v:V} (ht:v.t.size≤64):(valB v).length≤75:=by
 unfold valB;have h1:=Zbl (n:=zigF v.i) (by have:=Zdt v.i;unfold zigF;omega);have h2:=Zbl (n:=v.t.size) (by omega);simp only [List.length_cons];split
 · simp
 · split
   · omega
   · split
     · rw [List.length_append,Zel];omega
     · simp
theorem putValue_any (base:Nat) (A:Option Addr) (c:Nat) (bs:List Int) (v:V) (w:World) (hB:BY w base A c bs) (hbase:base≤w.heap.size) (hl:bs.length≤90000000) (ht:v.t.size≤64) :
  Calls Try.prog 115 #[.slice A bs.length c,vAgg v] w (PutP base (bs++valB v) w):=by
 have HB0:=hI hB;clear hB;obtain⟨k,i,t⟩:=v;simp only at ht HB0 ⊢;go_enter Try.func115,Try.ntmps115;have HVB:=hI (show valB ⟨k,i,t⟩=k % 256 :: (if k=3 then [i % 256] else if k=4 then lebF (zigF i) else if k=5 then lebF t.size++txtB t else []) by unfold valB;simp [IntKind.wrap,IntKind.bits,IntKind.signed]);go_upto_region 1 with fail
 obtain⟨W0,hW0⟩:∃ W0,w.alloc (.cells #[.int .i64 k,.int .i64 i,.string t] 51)=W0:=⟨_,rfl⟩;have X0:=hI (show W0.heap[w.heap.size]?=some (.cells #[.int .i64 k,.int .i64 i,.string t] 51 (0,0)) by rw [←hW0];exact heap_alloc_new w _);have hbW:Below w.heap.size w W0:=(by rw [←hW0];exact(Below.refl _ _).alloc nR _);have hz0:W0.heap.size≤w.heap.size+1∧w.heap.size+1≤W0.heap.size:=(by rw [←hW0];simp);have HB:=hI (HB0.out.below hbW);have HL0:=hI (hbW.mono hbase);have x0:W0.cell? ⟨w.heap.size,0,none⟩=some (.int .i64 k):=Zaa X0.out 0 _ rfl;rw [hW0];have HBw:=HB0;clear hW0 hbW HB0;go_upto_region 2 with (at_builtin;refine ZaG rfl (.tmp 5) (.tmp 9) rfl base _ A c bs HB.out (by omega) rfl _ _ rfl (by omega) ?_;intro g7 cap7 wl hB7 hb7 hg7;have HB7:=hI hB7;have HL7:=hI hb7;have HG7:=hI hg7;clear hB7 hb7 hg7)
 have HX:=hI ((HG7.out.block w.heap.size (by omega) (fun e=>by have:=ZaH HBw.out e.symm;omega)).trans X0.out);have hlw:w.heap.size<W0.heap.size:=(by omega);have x0:wl.cell? ⟨w.heap.size,0,none⟩=some (.int .i64 k):=Zaa HX.out 0 _ rfl;have x1:wl.cell? ⟨w.heap.size,1,none⟩=some (.int .i64 i):=Zaa HX.out 1 _ rfl;have x2:wl.cell? ⟨w.heap.size,2,none⟩=some (.string t):=Zaa HX.out 2 _ rfl;obtain⟨T1,hT1⟩:∃ T1,bs++[k % 256]=T1:=⟨_,rfl⟩;have hlen:bs.length+1=T1.length:=(by rw [←hT1];simp);have hl1:T1.length≤90000001:=(by omega);rw [hT1] at HB7;rw [hlen];have HT1:=hI hT1;have HL:=hI (HL0.out.trans HL7.out);have hbl:base≤wl.heap.size:=(by have:=HG7.out.size;omega);clear hT1 hlen HB HL0 HL7 X0
 by_cases h3:k=3
 · subst h3
   go_wp2_with (at_builtin;refine ZaG rfl (.tmp 15) (.tmp 19) rfl base _ (some ⟨g7,0,none⟩) cap7 T1 HB7.out (by omega) rfl _ _ rfl (by omega) ?_;intro g8 cap8 wm hB8 hb8 hg8;have HB8:=hI hB8;have HL8:=hI hb8;clear hB8 hb8)
   go_wp2_with fail
   go_ret;have e:bs++valB ⟨3,i,t⟩=T1++[i % 256]:=(by rw [HVB.out,←HT1.out];simp);rw [e];exact⟨some ⟨g8,0,none⟩,cap8,by simp,HB8.out,HL.out.trans HL8.out⟩
 · have e3:(k == 3)=false:=by simpa using h3
   by_cases h4:k=4
   · subst h4
     go_wp2_with fail
     refine(putInt_any base (some ⟨g7,0,none⟩) cap7 T1 i wl HB7.out hbl (by omega)).mono ?_;rintro e wm ⟨A8,c8,rfl,hB8,hb8⟩;have HB8:=hI hB8;have HL8:=hI hb8;clear hB8 hb8
     go_wp2_with fail
     go_ret;have e:bs++valB ⟨4,i,t⟩=T1++lebF (zigF i):=(by rw [HVB.out,←HT1.out];simp);rw [e];exact⟨A8,c8,by simp,HB8.out,HL.out.trans HL8.out⟩
   · have e4:(k == 4)=false:=by simpa using h4
     by_cases h5:k=5
     · subst h5
       go_wp2_with fail
       refine(putText_any base (some ⟨g7,0,none⟩) cap7 T1 t wl HB7.out hbl (by omega) ht).mono ?_;rintro e wm ⟨A8,c8,rfl,hB8,hb8⟩;have HB8:=hI hB8;have HL8:=hI hb8;clear hB8 hb8
       go_wp2_with fail
       go_ret;have e:bs++valB ⟨5,i,t⟩=T1++lebF t.size++txtB t:=(by rw [HVB.out,←HT1.out];simp);rw [e];exact⟨A8,c8,by simp,HB8.out,HL.out.trans HL8.out⟩
     · have e5:(k == 5)=false:=by simpa using h5
       go_wp2_with fail
       go_ret;have e:bs++valB ⟨k,i,t⟩=T1:=(by rw [HVB.out,if_neg h3,if_neg h4,if_neg h5,←HT1.out]);rw [e];exact⟨some ⟨g7,0,none⟩,cap7,rfl,HB7.out,HL.out⟩
end Go.Proofs.Ytkpjjfhfbpfjpaa
