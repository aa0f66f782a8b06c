import Derived.Test.YtkpjjfhfbpfjpaaGreatK4e30bf
import Derived.Test.YtkpjjfhfbpfjpaaGreatKe1b890
import Derived.Test.YtkpjjfhfbpfjpaaGreatKd9b46f
import Derived.Deep.AppendLies
import Derived.Lib.AppendStr
import Derived.Deep.Cut
import Derived.Test.YtkpjjfhfbpfjpaaGreatK093f24
import Derived.Test.YtkpjjfhfbpfjpaaGreatK185549
import Derived.Test.YtkpjjfhfbpfjpaaGreatK42e91f
import Derived.Test.YtkpjjfhfbpfjpaaGreatKfa25bd
import Derived.Test.YtkpjjfhfbpfjpaaGreatK660fb2
import Derived.Test.YtkpjjfhfbpfjpaaGreatK3e01fc
import Derived.Test.YtkpjjfhfbpfjpaaGreatKfef5b4
set_option linter.unusedVariables false
set_option linter.unusedSimpArgs false
set_option maxRecDepth 100000
set_option maxHeartbeats 8000000
namespace Go.Proofs.YtkpjjfhfbpfjpaaGreat
open Go.RowKit
abbrev bv (n:Int):Value:=.int .u8 n
abbrev BY (w:World) (base:Nat) (A:Option Addr) (c:Nat) (bs:List Int):Prop:=w.ownsRow base 5 1 (.slice A bs.length c) bs.length (bs.map bv)
theorem infoU8:(Tryz.prog.info? 5).map (fun i=>(i.zero,i.size,i.bytes))=some (some (.int .u8 0),1,1):=by kernel_rfl
theorem BY.below {w w':World} {base c:Nat} {A:Option Addr} {bs:List Int} (h:BY w base A c bs) (hb:Below w.heap.size w w'):BY w' base A c bs :=
 ZaK h (fun q hq=>hb.block q (ZaO h hq))
theorem Zbd {ops:Array Oper} {rest:List Oper} {o:Oper} {a:Act} {Q:Exit→Act→World→Prop} (hgd:o.guard=none) (s x:Operand)
  (ho:o.op=.call { callee:=.builtin .append,args:=#[s,x],argTypes:=#[22,22] })
  (base:Nat) (w0:World) (A:Option Addr) (c:Nat) (bs:List Int) (hB:BY w0 base A c bs) (hbase:base≤w0.heap.size) (hs:a.eval s=.slice A bs.length c)
  (n:Int) (c':Nat) (hx:a.eval x=.slice (some ⟨w0.heap.size,0,none⟩) 1 c') (hl:bs.length≤1000000000000)
  (h:∀ g cap w',BY w' base (some ⟨g,0,none⟩) cap (bs++[n])→Below base w0 w'→w0.grownBy w' (Value.slice A bs.length c).ownBlock→wpList Tryz.prog ops Q rest (a.put o.dst (.slice (some ⟨g,0,none⟩) (bs.length+1) cap)) w') :
  wpList Tryz.prog ops Q (o :: rest) a (w0.alloc (.cells #[bv n] 5)):=by
 obtain⟨i,hi,hz,hsize,hby⟩:=info_parts infoU8;have hba:Below w0.heap.size w0 (w0.alloc (.cells #[bv n] 5)):=(Below.refl _ _).alloc nR _;have hB':=hB.below hba
 refine wpList_append_lies _ hgd s x 22 ho base 5 i _ 1 1 Tryz.underlying22 hi hz hsize hby rfl (by decide) (.slice A bs.length c) bs.length (bs.map bv) hs hB' ⟨w0.heap.size,0,none⟩ 1 c' [bv n] hx rfl
  (World.news_of_block (heap_alloc_new w0 (.cells #[bv n] 5))) (fun u hu=>by simp at hu;subst hu;rfl) (by omega) (by unfold maxLen;omega) (by omega) (by simp;omega) (w0.heap.size+1) (World.size_alloc _ _) ?_
 intro g cap w' hown hg hat hlt;refine h g cap w' (by show w'.ownsRow base _ 1 (.slice _ (bs++[n]).length cap) (bs++[n]).length ((bs++[n]).map bv);rw [List.length_append,List.map_append];exact hown) ?_ ((World.grownBy_alloc w0 _ _).trans hg);refine(hba.mono hbase).trans ⟨hg.os,hg.tape,hg.output,hg.size,fun b hb=>hg.block b (by simp;omega) (fun e=>?_)⟩;have:=Zaz hB e.symm;omega
def PutP (base:Nat) (T:List Int) (w:World) (e:Ending) (w':World):Prop:=∃ A c,e=.returned (.slice A T.length c)∧BY w' base A c T∧Below base w w'
theorem BY.of_owns {w:World} {base n:Nat} {v:Value} {xs:List Value} {T:List Int} (h:w.ownsRow base 5 1 v n xs) (hn:n=T.length) (hx:xs=T.map bv):∃ A c,v=.slice A T.length c∧BY w base A c T:=by
 subst hn hx;rcases h.2 with ⟨rfl,h0⟩ | ⟨g,cap,cur,rfl,_⟩
 · have h1:T=[]:=List.eq_nil_of_length_eq_zero h0;subst h1;exact⟨none,0,rfl,h⟩
 · exact⟨_,_,rfl,h⟩
def lebF (n:Nat):List Int:=if n<128 then [(n:Int)] else bits .or .u8 ((n:Int) % 256) 128 :: lebF (n / 128)
termination_by n
decreasing_by omega
theorem lebF_len:∀ (k n:Nat),n<128 ^ (k+1)→(lebF n).length≤k+1
 | 0,n,h=>by rw [lebF,if_pos (by omega)];simp
 | k+1,n,h=>by
  rw [lebF];split
  · simp
  · have h1:=lebF_len k (n / 128) (Nat.div_lt_of_lt_mul (by rw [Nat.pow_succ,Nat.mul_comm] at h;exact h));simp only [List.length_cons];omega
theorem Zds {n:Nat} (h:n<18446744073709551616):(lebF n).length≤10:=lebF_len 9 n (by omega)
theorem ZdF (base:Nat) (A:Option Addr) (c:Nat) (bs:List Int) (n:Nat) (w:World) (h1:n<18446744073709551616) (hB:BY w base A c bs) (hbase:base≤w.heap.size) (hl:bs.length≤100000000) :
  Calls Tryz.prog 131 #[.slice A bs.length c,.int .u64 (n:Int)] w (PutP base (bs++lebF n) w):=by
 have HB:=hI hB;clear hB;obtain⟨T,hT⟩:∃ T,bs++lebF n=T:=⟨_,rfl⟩;have hTl:T.length≤100000010:=(by rw [←hT,List.length_append];have:=Zds h1;omega);have HT:=hI hT;rw [hT];clear hT;go_enter Tryz.func131,Tryz.ntmps131
 go_wp2_with fail
 go_loopw [0,1] (fun b v wr=>∃ (A:Option Addr) (c:Nat) (bs:List Int) (n:Nat),b=.slice A bs.length c∧v=.int .u64 (n:Int)∧n<18446744073709551616∧bs++lebF n=T∧BY wr base A c bs∧Below base w wr) (fun _ v _=>(intOf v).toNat)
 case atStart=>exact⟨A,c,bs,n,rfl,rfl,h1,HT.out,HB.out,Below.refl _ _⟩
 case round =>
  clear HB hl HT h1;obtain⟨A,c,bs,n,rfl,rfl,h1,hT,hB,hb⟩:=hrel;have HB:=hI hB;have HL:=hI hb;have hsz:=hb.size;have hbl:bs.length≤100000010:=(by rw [←hT,List.length_append] at hTl;omega);have HT:=hI hT;clear hB hb hT;rcases Nat.lt_or_ge n 128 with h8 | h8
  · have hd:decide ((128:Int)≤(n:Int))=false:=decide_eq_false (by omega);have hd2:decide ((n:Int)≥128)=false:=decide_eq_false (by omega)
    go_wp2_with (at_builtin;refine Zbd rfl (.tmp 15) (.tmp 18) rfl base _ A c bs HB.out (by omega) rfl _ _ rfl (by omega) ?_;intro g7 cap7 wl hB7 hb7 hg7;have HB7:=hI hB7;have HL7:=hI hb7;have HG7:=hI hg7;clear hB7 hb7 hg7)
    have e:T=bs++[(n:Int)]:=(by rw [←HT.out,lebF,if_pos h8]);subst e;go_ret;exact⟨some ⟨g7,0,none⟩,cap7,by simp,HB7.out,HL.out.trans (HL7.out)⟩
  · have hd:decide ((128:Int)≤(n:Int))=true:=decide_eq_true (by omega);have hd2:decide ((n:Int)≥128)=true:=decide_eq_true (by omega)
    go_wp2_with (at_builtin;refine Zbd rfl (.tmp 7) (.tmp 11) rfl base _ A c bs HB.out (by omega) rfl _ _ rfl (by omega) ?_;intro g7 cap7 wl hB7 hb7 hg7;have HB7:=hI hB7;have HL7:=hI hb7;have HG7:=hI hg7;clear hB7 hb7 hg7)
    go_roundw
    case rel=>exact⟨some ⟨g7,0,none⟩,cap7,bs++[bits .or .u8 ((n:Int) % 256) 128],n / 128,by simp,by simp,by omega,by rw [←HT.out,List.append_assoc,List.singleton_append];congr 1;rw [lebF.eq_def n,if_neg (by omega)],HB7.out,HL.out.trans HL7.out⟩
    case measure=>(simp [intOf];omega)
def zigI (n:Int):Int:=bits .xor .u64 (IntKind.u64.wrap (wrap64 (n*2))) (IntKind.u64.wrap (n / 9223372036854775808))
def zigF (n:Int):Nat:=(zigI n).toNat
theorem ZgA (n:Int):0≤zigI n∧zigI n<18446744073709551616:=by
 have h:=wf_bits .xor .u64 (IntKind.u64.wrap (wrap64 (n*2))) (IntKind.u64.wrap (n / 9223372036854775808));have h2:(Lit.int .u64 (zigI n)).wf=true:=h;simp [Lit.wf,IntKind.min,IntKind.max,IntKind.signed,IntKind.bits] at h2;omega
theorem putInt_any (base:Nat) (A:Option Addr) (c:Nat) (bs:List Int) (n:Int) (w:World) (hB:BY w base A c bs) (hbase:base≤w.heap.size) (hl:bs.length≤100000000) :
  Calls Tryz.prog 141 #[.slice A bs.length c,.int .i64 n] w (PutP base (bs++lebF (zigF n)) w):=by
 have HB:=hI hB;clear hB;have hz:=ZgA n;have HZ:=hI (show bits .xor .u64 (IntKind.u64.wrap (wrap64 (n*2))) (IntKind.u64.wrap (n / 9223372036854775808))=((zigF n:Nat):Int) by show zigI n=_;unfold zigF;omega);have hz2:zigF n<18446744073709551616:=(by unfold zigF;omega);clear hz;go_enter Tryz.func141,Tryz.ntmps141
 go_wp2_with fail
 rw [HZ.out];refine(ZdF base A c bs (zigF n) w hz2 HB.out hbase hl).mono ?_;rintro e w1 ⟨A1,c1,rfl,hB1,hb1⟩;have HB1:=hI hB1;have HL1:=hI hb1;clear hB1 hb1
 go_wp2_with fail
 go_ret;exact⟨A1,c1,by simp,HB1.out,HL1.out⟩
def txtB (t:ByteArray):List Int:=t.data.toList.map fun b=>(b.toNat:Int)
theorem Zhv (t:ByteArray):(txtB t).length=t.size:=by
 rw [txtB,List.length_map,Array.length_toList];rfl
theorem txtB_cells (t:ByteArray):(txtB t).map bv=Go.Lib.strCells t:=by
 rw [txtB,List.map_map];rfl
theorem putText_any (base:Nat) (A:Option Addr) (c:Nat) (bs:List Int) (t:ByteArray) (w:World) (hB:BY w base A c bs) (hbase:base≤w.heap.size) (hl:bs.length≤100000000) (ht:t.size≤64) :
  Calls Tryz.prog 142 #[.slice A bs.length c,.string t] w (PutP base (bs++lebF t.size++txtB t) w):=by
 have HB:=hI hB;clear hB;obtain⟨i,hi,hz,hsize,hby⟩:=info_parts infoU8;go_enter Tryz.func142,Tryz.ntmps142
 go_wp2_with fail
 refine(ZdF base A c bs t.size w (by omega) HB.out hbase hl).mono ?_;rintro e w1 ⟨A1,c1,rfl,hB1,hb1⟩;have HB1:=hI hB1;have HL1:=hI hb1;have hs1:=hb1.size;clear hB1 hb1;have hl1:(bs++lebF t.size).length≤100000010:=(by rw [List.length_append];have:=Zds (n:=t.size) (by omega);omega);have HTX:=hI (txtB_cells t);have HTL:=hI (Zhv t);obtain⟨T1,hT1⟩:∃ T1,bs++lebF t.size=T1:=⟨_,rfl⟩;rw [hT1] at HB1 hl1;have HT1:=hI hT1;rw [hT1];clear hT1
 go_wp2_with (at_builtin;refine Go.Lib.wpList_append_own_string _ rfl (.tmp 9) (.tmp 10) 22 9 rfl base 5 i Tryz.underlying22 Tryz.underlying9 hi hz hsize hby _ T1.length _ rfl HB1.out t rfl (by unfold maxLen;omega) (by omega) (by omega) ?_;intro v7 w7 hB7 hg7 hn7;have HB7:=hI hB7;have HG7:=hI hg7;clear hB7 hg7 hn7)
 obtain⟨A7,c7,rfl,hB⟩:=BY.of_owns (T:=T1++txtB t) HB7.out (by rw [List.length_append,HTL.out]) (by rw [List.map_append,HTX.out]);have HB:=hI hB;clear hB;go_ret;exact⟨A7,c7,by rw [HT1.out];rfl,by rw [HT1.out];exact HB.out,HL1.out.trans ⟨HG7.out.os,HG7.out.tape,HG7.out.output,HG7.out.size,fun b hb=>HG7.out.block b (by omega) (fun e=>by have:=Zaz HB1.out e.symm;omega)⟩⟩
def valB (v:V):List Int:=IntKind.u8.wrap v.k :: (if v.k=3 then [IntKind.u8.wrap v.i] else if v.k=4 then lebF (zigF v.i) else if v.k=5 then lebF v.t.size++txtB v.t else [])
theorem valB_len {v:V} (ht:v.t.size≤64):(valB v).length≤75:=by
 unfold valB;have h1:=Zds (n:=zigF v.i) (by have:=ZgA v.i;unfold zigF;omega);have h2:=Zds (n:=v.t.size) (by omega);simp only [List.length_cons];split
 · simp
 · split
   · omega
   · split
     · rw [List.length_append,Zhv];omega
     · simp
theorem putValue_any (base:Nat) (A:Option Addr) (c:Nat) (bs:List Int) (v:V) (w:World) (hB:BY w base A c bs) (hbase:base≤w.heap.size) (hl:bs.length≤90000000) (ht:v.t.size≤64) :
  Calls Tryz.prog 133 #[.slice A bs.length c,vAgg v] w (PutP base (bs++valB v) w):=by
 have HB0:=hI hB;clear hB;obtain⟨k,i,t⟩:=v;simp only at ht HB0 ⊢;go_enter Tryz.func133,Tryz.ntmps133;have HVB:=hI (show valB ⟨k,i,t⟩=k % 256 :: (if k=3 then [i % 256] else if k=4 then lebF (zigF i) else if k=5 then lebF t.size++txtB t else []) by unfold valB;simp [IntKind.wrap,IntKind.bits,IntKind.signed]);go_upto_region 1 with fail
 obtain⟨W0,hW0⟩:∃ W0,w.alloc (.cells #[.int .i64 k,.int .i64 i,.string t] 89)=W0:=⟨_,rfl⟩;have X0:=hI (show W0.heap[w.heap.size]?=some (.cells #[.int .i64 k,.int .i64 i,.string t] 89 (0,0)) by rw [←hW0];exact heap_alloc_new w _);have hbW:Below w.heap.size w W0:=(by rw [←hW0];exact(Below.refl _ _).alloc nR _);have hz0:W0.heap.size≤w.heap.size+1∧w.heap.size+1≤W0.heap.size:=(by rw [←hW0];simp);have HB:=hI (HB0.out.below hbW);have HL0:=hI (hbW.mono hbase);have x0:W0.cell? ⟨w.heap.size,0,none⟩=some (.int .i64 k):=Zaa X0.out 0 _ rfl;rw [hW0];have HBw:=HB0;clear hW0 hbW HB0;go_upto_region 2 with (at_builtin;refine Zbd rfl (.tmp 5) (.tmp 9) rfl base _ A c bs HB.out (by omega) rfl _ _ rfl (by omega) ?_;intro g7 cap7 wl hB7 hb7 hg7;have HB7:=hI hB7;have HL7:=hI hb7;have HG7:=hI hg7;clear hB7 hb7 hg7)
 have HX:=hI ((HG7.out.block w.heap.size (by omega) (fun e=>by have:=ZaO HBw.out e.symm;omega)).trans X0.out);have hlw:w.heap.size<W0.heap.size:=(by omega);have x0:wl.cell? ⟨w.heap.size,0,none⟩=some (.int .i64 k):=Zaa HX.out 0 _ rfl;have x1:wl.cell? ⟨w.heap.size,1,none⟩=some (.int .i64 i):=Zaa HX.out 1 _ rfl;have x2:wl.cell? ⟨w.heap.size,2,none⟩=some (.string t):=Zaa HX.out 2 _ rfl;obtain⟨T1,hT1⟩:∃ T1,bs++[k % 256]=T1:=⟨_,rfl⟩;have hlen:bs.length+1=T1.length:=(by rw [←hT1];simp);have hl1:T1.length≤90000001:=(by omega);rw [hT1] at HB7;rw [hlen];have HT1:=hI hT1;have HL:=hI (HL0.out.trans HL7.out);have hbl:base≤wl.heap.size:=(by have:=HG7.out.size;omega);clear hT1 hlen HB HL0 HL7 X0
 by_cases h3:k=3
 · subst h3
   go_wp2_with (at_builtin;refine Zbd rfl (.tmp 15) (.tmp 19) rfl base _ (some ⟨g7,0,none⟩) cap7 T1 HB7.out (by omega) rfl _ _ rfl (by omega) ?_;intro g8 cap8 wm hB8 hb8 hg8;have HB8:=hI hB8;have HL8:=hI hb8;clear hB8 hb8)
   go_wp2_with fail
   go_ret;have e:bs++valB ⟨3,i,t⟩=T1++[i % 256]:=(by rw [HVB.out,←HT1.out];simp);rw [e];exact⟨some ⟨g8,0,none⟩,cap8,by simp,HB8.out,HL.out.trans HL8.out⟩
 · have e3:(k == 3)=false:=by simpa using h3
   by_cases h4:k=4
   · subst h4
     go_wp2_with fail
     refine(putInt_any base (some ⟨g7,0,none⟩) cap7 T1 i wl HB7.out hbl (by omega)).mono ?_;rintro e wm ⟨A8,c8,rfl,hB8,hb8⟩;have HB8:=hI hB8;have HL8:=hI hb8;clear hB8 hb8
     go_wp2_with fail
     go_ret;have e:bs++valB ⟨4,i,t⟩=T1++lebF (zigF i):=(by rw [HVB.out,←HT1.out];simp);rw [e];exact⟨A8,c8,by simp,HB8.out,HL.out.trans HL8.out⟩
   · have e4:(k == 4)=false:=by simpa using h4
     by_cases h5:k=5
     · subst h5
       go_wp2_with fail
       refine(putText_any base (some ⟨g7,0,none⟩) cap7 T1 t wl HB7.out hbl (by omega) ht).mono ?_;rintro e wm ⟨A8,c8,rfl,hB8,hb8⟩;have HB8:=hI hB8;have HL8:=hI hb8;clear hB8 hb8
       go_wp2_with fail
       go_ret;have e:bs++valB ⟨5,i,t⟩=T1++lebF t.size++txtB t:=(by rw [HVB.out,←HT1.out];simp);rw [e];exact⟨A8,c8,by simp,HB8.out,HL.out.trans HL8.out⟩
     · have e5:(k == 5)=false:=by simpa using h5
       go_wp2_with fail
       go_ret;have e:bs++valB ⟨k,i,t⟩=T1:=(by rw [HVB.out,if_neg h3,if_neg h4,if_neg h5,←HT1.out]);rw [e];exact⟨some ⟨g7,0,none⟩,cap7,rfl,HB7.out,HL.out⟩
def Zgg (n:Nat):List Value:=List.replicate n (bv 0)
theorem run_make_byt (n m:Nat) (hn:n≤m) (hm:m≤1000000) (w:World) :
  (Instr.makeSlice 22 (.int .i64 (n:Int)) (.int .i64 (m:Int))).run Tryz.prog w=.ok (.slice (some ⟨w.heap.size,0,none⟩) n m) (w.alloc (.cells (Zgg m).toArray 5)):=by
 obtain⟨i0,hi,hz0,hz1,hz2⟩:=info_parts infoU8;have hr:=run_make (P:=Tryz.prog) w 22 5 i0 _ Tryz.underlying22 hi hz0 .i64 .i64 n m (by omega) (by omega) (by rw [hz2];omega) (by omega);rw [hr,hz1];simp only [Int.toNat_natCast]
 congr 3
 apply Array.ext
 · simp [size_madeCells,Zgg]
 · intro i h1 h2;simp [madeCells,Zgg,Value.cells,Nat.mod_one]
theorem grown_any (g c:Nat) (bs:List Int) (more base:Nat) (w:World) (hB:BY w base (some ⟨g,0,none⟩) c bs) (hbase:base≤w.heap.size) (hl:bs.length≤1000) (hl0:0<bs.length) (hm:more≤100000) :
  Calls Tryz.prog 132 #[.slice (some ⟨g,0,none⟩) bs.length c,.int .i64 (more:Int)] w (PutP w.heap.size bs w):=by
 have HB:=hI hB;clear hB
 have hmk:∀ w:World,(Instr.makeSlice 22 (.int .i64 (bs.length:Int)) (.int .i64 ((bs.length:Int)+(more:Int)))).run Tryz.prog w=.ok (.slice (some ⟨w.heap.size,0,none⟩) bs.length (bs.length+more)) (w.alloc (.cells (Zgg (bs.length+more)).toArray 5)):=fun w=>by
  have h9:=run_make_byt bs.length (bs.length+more) (by omega) (by omega) w;rw [Int.natCast_add] at h9;exact h9
 go_enter Tryz.func132,Tryz.ntmps132;go_upto_region 2 with fail
 clear hmk;obtain⟨W0,hW0⟩:∃ W0,w.alloc (.cells (Zgg (bs.length+more)).toArray 5)=W0:=⟨_,rfl⟩;have X0:=hI (show W0.heap[w.heap.size]?=some (.cells (Zgg (bs.length+more)).toArray 5 (0,0)) by rw [←hW0];exact heap_alloc_new w _);have hbW:Below w.heap.size w W0:=(by rw [←hW0];exact(Below.refl _ _).alloc nR _);have HB1:=hI (HB.out.below hbW);have HL0:=hI hbW;rw [hW0];clear hW0 hbW
 have hsrc:∀ j v,(bs.map bv)[j]?=some v→W0.cell? ((⟨g,0,none⟩:Addr).add j)=some v:=fun j v hv=>by
  obtain⟨g',e,_,_,hc⟩:=Zcg HB1.out hl0;injection e with e;injection e with e;subst e;have:=hc j v hv;rw [Zca];simpa using this
 go_wp2_with (refine ZdL (o:=⟨some 15,_,_,_,_,_⟩) rfl (.tmp 13) (.tmp 14) 22 22 rfl 5 1 Tryz.underlying22 (by kernel_rfl) w.heap.size bs.length (bs.length+more) ⟨g,0,none⟩ bs.length c rfl rfl (Zgg (bs.length+more)) 5 X0.out (bs.map bv) bs.length (by simp) (by simp) hsrc (by simp [Zgg]) (fun v hv=>by obtain⟨n,_,rfl⟩:=List.mem_map.1 hv;rfl) ?_;intro w1 hw1 hf1;have HW1:=hI hw1;have HF1:=hI hf1;clear hw1 hf1)
 go_ret;refine⟨some ⟨w.heap.size,0,none⟩,bs.length+more,rfl,⟨by simp,.inr ⟨w.heap.size,bs.length+more,_,rfl,Nat.le_refl _,HW1.out,by omega,by unfold maxLen;omega,by simp [Zgg],by simp⟩⟩,HL0.out.trans ?_⟩;exact⟨HF1.out.os,HF1.out.tape,HF1.out.output,HF1.out.size,fun b hb=>HF1.out.block b (by have:=HL0.out.size;omega) (by omega)⟩
theorem BY.low {w:World} {base base' c:Nat} {A:Option Addr} {bs:List Int} (h:BY w base A c bs) (hb:base'≤base):BY w base' A c bs:=by
 refine⟨h.1,?_⟩;rcases h.2 with h0 | ⟨g,cap,cur,h1,h2,h3⟩
 · exact .inl h0
 · exact .inr ⟨g,cap,cur,h1,by omega,h3⟩
def rowB (r:Row):List Int:=lebF r.length++r.flatMap valB
theorem txt_nil0 (t:ByteArray):(t=⟨#[]⟩)=(t.toList=[]):=by
 apply propext;constructor
 · rintro rfl;rw [ByteArray.toList_eq]
 · intro h;cases t
   rw [ByteArray.toList_eq] at h;simpa using h
theorem Zdp {v:V} (h:Zak v=true):v.t.size≤64:=by
 have h0:∀ t:ByteArray,t.toList.isEmpty=true→t.size=0:=fun t ht=>by
  have h1:t.toList=[]:=List.isEmpty_iff.1 ht;have h2:=(txt_nil0 t).mpr h1;rw [h2];rfl
 unfold Zak at h;split at h
 · simp only [Bool.and_eq_true] at h;rw [h0 _ h.2];omega
 · split at h
   · simp only [Bool.and_eq_true] at h;rw [h0 _ h.2];omega
   · split at h
     · rw [h0 _ h];omega
     · split at h
       · simp only [Bool.and_eq_true,decide_eq_true_eq] at h;omega
       · cases h
theorem Zha {r:Row} {k:Nat} (h:k<r.length):(r.take (k+1)).flatMap valB=(r.take k).flatMap valB++valB (r.getD k v0):=by
 have e:r.getD k v0=r[k]:=(by simp [List.getD,h]);rw [List.take_succ_eq_append_getElem h,List.flatMap_append,e];simp
theorem flat_len {r:Row} (hv:∀ v ∈ r,Zak v=true):∀ k,((r.take k).flatMap valB).length≤k*75:=by
 intro k;induction k with
 | zero=>simp
 | succ k ih =>
  rcases Nat.lt_or_ge k r.length with hk | hk
  · rw [Zha hk,List.length_append];have e:r.getD k v0=r[k]:=(by simp [List.getD,hk]);have:=valB_len (v:=r.getD k v0) (Zdp (hv _ (by rw [e];exact List.getElem_mem hk)));omega
  · rw [List.take_of_length_le (by omega)];rw [List.take_of_length_le (by omega)] at ih;omega
def RowP (T:List Int) (w:World) (e:Ending) (w':World):Prop:=∃ A c,e=.returned (.tuple #[.slice A T.length c,.int .i64 0])∧BY w' w.heap.size A c T∧Below w.heap.size w w'
theorem appendRow_any (g c:Nat) (bs:List Int) (base:Nat) (A:Option Addr) (ck:Nat) (key:Row) (S:Nat→Prop) (w:World) (hB:BY w base (some ⟨g,0,none⟩) c bs) (hbase:base≤w.heap.size) (hl:bs.length≤1000) (hl0:0<bs.length)
  (hk:RowS w S A key) (hS:∀ b,S b→b<w.heap.size) (hv:∀ v ∈ key,Zak v=true) (hkl:key.length≤12) :
  Calls Tryz.prog 110 #[.slice (some ⟨g,0,none⟩) bs.length c,.slice A key.length ck] w (RowP (bs++rowB key) w):=by
 have HB:=hI hB;have HKY:=hI hk;have HV:=hI hv;have HFL:=hI (flat_len hv);have hd12:decide ((12:Int)<(key.length:Int))=false:=decide_eq_false (by omega);clear hB hk hv;go_enter Tryz.func110,Tryz.ntmps110
 go_wp2_with fail
 go_loopw [6,17] (fun m i wr=>∃ k q:Nat,k≤key.length∧m=.int .i64 (q:Int)∧q≤1+k*80∧i=.int .i64 k∧Below w.heap.size w wr) (fun _ i _=>key.length - (intOf i).toNat)
 case atStart=>exact⟨0,1,Nat.zero_le _,rfl,by omega,rfl,Below.refl _ _⟩
 case round =>
  obtain⟨k,q,hkk,rfl,hq,rfl,hb⟩:=hrel;have HL:=hI hb;have hsz:=hb.size;clear hb
  by_cases hlt:k<key.length
  · have hdk:decide (k<key.length)=true:=(by simp [hlt]);have hk0:(0:Int)≤(k:Int):=(by omega);have hki:(k:Int)<key.length:=(by omega);have hvv:=HV.out (key.getD k v0) (by have e:key.getD k v0=key[k] :=(by simp [List.getD,hlt]);rw [e];exact List.getElem_mem hlt);obtain⟨b1,o1,rfl,hb1,c1,c2,c3⟩:=(HKY.out.keep (Same.of_below HL.out hS)).at_ hlt;have hlb:b1<wr.heap.size:=(by have:=hS b1 hb1;omega);have htx:=Zdp hvv;have HVV:=hI hvv;clear hvv;generalize key.getD k v0=x at c1 c2 c3 HVV htx;obtain⟨xk,xi,xt⟩:=x;simp only at c1 c2 c3 htx;go_upto_region 7 with fail
    obtain⟨W1,hW1⟩:∃ W1,wr.alloc (.cells #[.int .i64 xk,.int .i64 xi,.string xt] 89)=W1:=⟨_,rfl⟩;have X0:=hI (show W1.heap[wr.heap.size]?=some (.cells #[.int .i64 xk,.int .i64 xi,.string xt] 89 (0,0)) by rw [←hW1];exact heap_alloc_new wr _);have hbW:Below wr.heap.size wr W1:=(by rw [←hW1];exact(Below.refl _ _).alloc nR _);have hz1:W1.heap.size≤wr.heap.size+1∧wr.heap.size+1≤W1.heap.size:=(by rw [←hW1];simp);have x0:W1.cell? ⟨wr.heap.size,0,none⟩=some (.int .i64 xk):=Zaa X0.out 0 _ rfl;have x1:W1.cell? ⟨wr.heap.size,1,none⟩=some (.int .i64 xi):=Zaa X0.out 1 _ rfl;have x2:W1.cell? ⟨wr.heap.size,2,none⟩=some (.string xt):=Zaa X0.out 2 _ rfl;have HL1:=hI (HL.out.trans (hbW.mono hsz));rw [hW1];clear hW1 hbW c1 c2 c3 HL
    go_wp2_with fail
    refine(ZbQ ⟨xk,xi,xt⟩ W1 (by show xt.size≤_;omega)).mono ?_;rintro e w2 ⟨rfl,hb2⟩;rw [HVV.out];have y2:w2.cell? ⟨wr.heap.size,2,none⟩=some (.string xt):=c9J hb2 x2;have HL2:=hI (HL1.out.trans (hb2.mono (by omega)));clear hb2 x0 x1 x2 HL1 X0
    go_wp2_with fail
    go_roundw
    case rel=>exact⟨k+1,q+(11+xt.size),by omega,by go_num,by omega,by go_num,HL2.out⟩
    case measure=>(simp [intOf];omega)
  · have hdk:decide (k<key.length)=false:=(by simp;omega);have hk9:k=key.length:=(by omega);have HB1:=hI (BY.below HB.out (HL.out.mono nR))
    go_wp2_with fail
    refine(grown_any g c bs q base wr HB1.out (by omega) hl hl0 (by omega)).mono ?_;rintro e w1 ⟨A1,c1,rfl,hB1,hb1⟩;have HB1:=hI (hB1.low hsz);have HL1:=hI (HL.out.trans (hb1.mono hsz));have hs1:=hb1.size;clear hB1 hb1 HL
    go_wp2_with fail
    refine(ZdF w.heap.size A1 c1 bs key.length w1 (by omega) HB1.out (by omega) (by omega)).mono ?_;rintro e w2 ⟨A2,c2,rfl,hB2,hb2⟩;have HB2:=hI hB2;have HL2:=hI (HL1.out.trans hb2);have hs2:=hb2.size;have h10:=Zds (n:=key.length) (by omega);clear hB2 hb2 HL1 HB1
    go_wp2_with fail
    go_loopw [9,40] (fun o i wr=>∃ (k:Nat) (A:Option Addr) (c:Nat) (T:List Int),k≤key.length∧o=.slice A T.length c∧i=.int .i64 k∧T=bs++lebF key.length++(key.take k).flatMap valB∧BY wr w.heap.size A c T∧Below w.heap.size w wr) (fun _ i _=>key.length - (intOf i).toNat)
    case atStart=>exact⟨0,A2,c2,bs++lebF key.length,Nat.zero_le _,by simp,rfl,by simp,HB2.out,HL2.out⟩
    case round =>
     clear HB2 HL2 hs1 hs2 hsz;obtain⟨k,A3,c3,T,hkk,rfl,rfl,hT,hB3,hb3⟩:=hrel;have HB3:=hI hB3;have HL3:=hI hb3;have hs3:=hb3.size;have hTl:T.length≤3000:=(by rw [hT,List.length_append,List.length_append];have:=HFL.out k;omega);have HT:=hI hT;clear hB3 hb3 hT
     by_cases hlt:k<key.length
     · have hdk:decide (k<key.length)=true:=(by simp [hlt]);have hk0:(0:Int)≤(k:Int):=(by omega);have hki:(k:Int)<key.length:=(by omega);have hvv:=HV.out (key.getD k v0) (by have e:key.getD k v0=key[k] :=(by simp [List.getD,hlt]);rw [e];exact List.getElem_mem hlt);obtain⟨b1,o1,rfl,hb1,d1,d2,d3⟩:=(HKY.out.keep (Same.of_below HL3.out hS)).at_ hlt;have hlb:b1<wr.heap.size:=(by have:=hS b1 hb1;omega);have htx:=Zdp hvv;have HTT:=hI (show bs++lebF key.length++(key.take (k+1)).flatMap valB=T++valB (key.getD k v0) by rw [Zha hlt,HT.out];simp);clear hvv;generalize key.getD k v0=x at d1 d2 d3 HTT htx;obtain⟨xk,xi,xt⟩:=x;simp only at d1 d2 d3 htx;go_upto_region 15 with fail
       obtain⟨W1,hW1⟩:∃ W1,wr.alloc (.cells #[.int .i64 xk,.int .i64 xi,.string xt] 89)=W1:=⟨_,rfl⟩;have X0:=hI (show W1.heap[wr.heap.size]?=some (.cells #[.int .i64 xk,.int .i64 xi,.string xt] 89 (0,0)) by rw [←hW1];exact heap_alloc_new wr _);have hbW:Below wr.heap.size wr W1:=(by rw [←hW1];exact(Below.refl _ _).alloc nR _);have hz1:W1.heap.size≤wr.heap.size+1∧wr.heap.size+1≤W1.heap.size:=(by rw [←hW1];simp);have x0:W1.cell? ⟨wr.heap.size,0,none⟩=some (.int .i64 xk):=Zaa X0.out 0 _ rfl;have x1:W1.cell? ⟨wr.heap.size,1,none⟩=some (.int .i64 xi):=Zaa X0.out 1 _ rfl;have x2:W1.cell? ⟨wr.heap.size,2,none⟩=some (.string xt):=Zaa X0.out 2 _ rfl;have HB4:=hI (HB3.out.below hbW);have HL4:=hI (HL3.out.trans (hbW.mono hs3));rw [hW1];clear hW1 hbW d1 d2 d3 HL3 HB3
       go_wp2_with fail
       refine(putValue_any w.heap.size A3 c3 T ⟨xk,xi,xt⟩ W1 HB4.out (by omega) (by omega) htx).mono ?_;rintro e w5 ⟨A5,c5,rfl,hB5,hb5⟩;have HB5:=hI hB5;have HL5:=hI (HL4.out.trans hb5);clear hB5 hb5 HB4 HL4 x0 x1 x2 X0
       go_wp2_with fail
       go_roundw
       case rel=>exact⟨k+1,A5,c5,T++valB ⟨xk,xi,xt⟩,by omega,by simp,by go_num,HTT.out.symm,HB5.out,HL5.out⟩
       case measure=>(simp [intOf];omega)
     · have hdk:decide (k<key.length)=false:=(by simp;omega);have hk9:k=key.length:=(by omega);have HE:=hI (show bs++rowB key=T by rw [HT.out,hk9,List.take_length];unfold rowB;rw [List.append_assoc]);clear hk9
       go_wp2_with fail
       rw [HE.out];exact bodyPost_ret (v:=.tuple #[.slice A3 T.length c3,.int .i64 0]) (by simp [results,Tryz.results110,go_sem]) rfl ⟨A3,c3,rfl,HB3.out,HL3.out⟩
def hashN (z:Int):List Int→Int
 | []=>z
 | x :: r=>hashN (bits .xor .u32 z (x % 4294967296)*16777619 % 4294967296) r
def Zdy (n t:Int) (key:Row):Int:=hashN 2166136261 ([t % 256]++rowB key) % n
theorem Zfh {n t:Int} {key:Row} (hn:1≤n):0≤Zdy n t key∧Zdy n t key<n:=⟨Int.emod_nonneg _ (by omega),Int.emod_lt_of_pos _ (by omega)⟩
theorem drop_hash {T:List Int} {k:Nat} (h:k<T.length) (z:Int):hashN z (T.drop k)=hashN (bits .xor .u32 z (T.getD k 0 % 4294967296)*16777619 % 4294967296) (T.drop (k+1)):=by
 rw [List.drop_eq_getElem_cons h];have e:T.getD k 0=T[k]:=(by simp [List.getD,h]);rw [e];rfl
theorem Zfe (n t:Int) (A:Option Addr) (ck:Nat) (key:Row) (S:Nat→Prop) (w:World) (hn:1≤n) (hn4:n≤4)
  (hk:RowS w S A key) (hS:∀ b,S b→b<w.heap.size) (hv:∀ v ∈ key,Zak v=true) (hkl:key.length≤12) :
  Calls Tryz.prog 81 #[.int .i64 n,.int .i64 t,.slice A key.length ck] w (Zbz (Zdy n t key) w):=by
 have HKY:=hI hk;have HFL:=hI (flat_len hv);clear hk;go_enter Tryz.func81,Tryz.ntmps81
 go_wp2_with fail
 have hba:Below w.heap.size w (w.alloc (.cells #[bv (t % 256)] 5)):=(Below.refl _ _).alloc nR _;obtain⟨W0,hW0⟩:∃ W0,w.alloc (.cells #[bv (t % 256)] 5)=W0:=⟨_,rfl⟩;have HB0:=hI (show BY W0 w.heap.size (some ⟨w.heap.size,0,none⟩) 1 [t % 256] from ⟨rfl,.inr ⟨w.heap.size,1,#[bv (t % 256)],rfl,Nat.le_refl _,by rw [←hW0];exact heap_alloc_new w _,Nat.le_refl _,by unfold maxLen;omega,rfl,rfl⟩⟩);have hz0:W0.heap.size≤w.heap.size+1∧w.heap.size+1≤W0.heap.size:=(by rw [←hW0];simp);rw [hW0] at hba ⊢;clear hW0;have HL0:=hI hba;clear hba;refine(appendRow_any w.heap.size 1 [t % 256] w.heap.size A ck key S W0 HB0.out (by omega) (by simp) (by simp) (HKY.out.keep (Same.of_below HL0.out hS)) (fun b hb=>by have:=hS b hb;omega) hv hkl).mono ?_;rintro e w1 ⟨A1,c1,rfl,hB1,hb1⟩;obtain⟨T,hT⟩:∃ T,[t % 256]++rowB key=T:=⟨_,rfl⟩
 have hTl:T.length≤3000:=by
  rw [←hT];unfold rowB;rw [List.length_append,List.length_append];have h9:=Zds (n:=key.length) (by omega);have h8:=HFL.out key.length;rw [List.take_length] at h8;have h7:([t % 256]:List Int).length=1:=rfl;omega
 rw [hT] at hB1 ⊢;have HB1:=hI (hB1.low (base':=w.heap.size) (by omega));have HL1:=hI (HL0.out.trans (hb1.mono (by omega)));have HT:=hI hT;clear hB1 hb1 hT HB0 HL0
 go_wp2_with fail
 go_loopw [9,22] (fun h i wr=>∃ (k:Nat) (z:Int),k≤T.length∧h=.int .u32 z∧0≤z∧z<4294967296∧i=.int .i64 k∧hashN z (T.drop k)=hashN 2166136261 T∧wr=w1) (fun _ i _=>T.length - (intOf i).toNat)
 case atStart=>exact⟨0,2166136261,Nat.zero_le _,rfl,by omega,by omega,rfl,by simp,rfl⟩
 case round =>
  obtain⟨k,z,hkk,rfl,hz1,hz2,rfl,hZ,rfl⟩:=hrel;have HZ:=hI hZ;clear hZ
  by_cases hlt:k<T.length
  · have hdk:decide (k<T.length)=true:=(by simp [hlt]);have hk0:(0:Int)≤(k:Int):=(by omega);have hki:(k:Int)<T.length:=(by omega);obtain⟨g1,rfl,hg1,hg2,hc⟩:=Zcg HB1.out (by omega);have c0:wr.cell? ⟨g1,k,none⟩=some (.int .u8 (T.getD k 0)):=hc k _ (by simp [List.getElem?_eq_getElem hlt,List.getD]);clear hc;have HD:=hI (drop_hash hlt z);generalize T.getD k 0=x at c0 HD
    go_wp2_with fail
    go_roundw
    case rel=>exact⟨k+1,bits .xor .u32 z (x % 4294967296)*16777619 % 4294967296,by omega,rfl,Int.emod_nonneg _ (by omega),Int.emod_lt_of_pos _ (by omega),by go_num,by rw [←HD.out];exact HZ.out,trivial⟩
    case measure=>(simp [intOf];omega)
  · have hdk:decide (k<T.length)=false:=(by simp;omega)
    have HE:=hI (show Zdy n t key=z % n by
     have h9:=HZ.out;rw [List.drop_of_length_le (by omega)] at h9;unfold Zdy;rw [HT.out,←h9];rfl)
    have hq1:0≤z % n:=Int.emod_nonneg _ (by omega);have hq2:z % n<n:=Int.emod_lt_of_pos _ (by omega)
    go_wp2_with fail
    go_ret;exact⟨by rw [HE.out];rfl,HL1.out⟩
theorem ZeA:∀ (k:Nat) (r:Row),Zal (r.take k)=(Zal r).take (k*3)
 | 0,r=>by simp [Zal]
 | k+1,[]=>by simp [Zal]
 | k+1,v :: r=>by
  rw [show (k+1)*3=k*3+1+1+1 by omega,List.take_succ_cons];simp only [Zal,List.take_succ_cons,ZeA k r]
theorem Zgk (A0:Option Addr) (c0':Nat) (s:Sch) (tt:Nat) (A:Option Addr) (ca:Nat) (r:Row) (S:Nat→Prop) (w:World) (hs:TabS w S A0 s.tabs) (hr:RowS w S A r) (hca:r.length≤ca) (hS:∀ b,S b→b<w.heap.size) (htl:tt<s.tabs.length) (hk1:1≤(s.tabs.getD tt t0).key) (hr0:0<r.length) :
  Calls Tryz.prog 83 #[sAgg s.version A0 s.tabs.length c0',.int .i64 (tt:Int),.slice A r.length ca] w (NewR (keyF s (tt:Int) r) w):=by
 have hsl:=hs.len;have hrl:=hr.len;have HS:=hI hs;have HR:=hI hr;clear hs hr;obtain⟨i0,hi,hz0,hz1,hz2⟩:=info_parts infoV;have HB1:=hI ((Below.refl w.heap.size w).alloc nR (.cells #[.int .i64 s.version,.slice A0 s.tabs.length c0'] 28));have HHN:=hI (show hasN s.tabs.length (tt:Int)=true by simp [hasN];omega);have HKF:=hI (show keyF s (tt:Int) r=r.take (keyN (s.tabs.getD tt t0).key r) by unfold keyF;rw [if_pos HHN.out,Int.toNat_natCast]);obtain⟨b2,o2,rfl,hb2,A1,A2,A3,c1,c2,c3,hta⟩:=HS.out.at_ htl;have k1:=hta.key;have hl2:b2<w.heap.size:=hS b2 hb2;clear hta;generalize s.tabs.getD tt t0=tb at k1 HKF hk1;obtain⟨tn,tc,tk,tr,tp⟩:=tb;simp only at k1 HKF hk1;have hd1:decide ((tt:Int)<0)=false:=(by simp);have hd3:decide (tk<0)=false:=decide_eq_false (by omega);go_enter Tryz.func83,Tryz.ntmps83
 go_wp2_with fail
 obtain⟨W0,hW0⟩:∃ W0,w.alloc (.cells #[.int .i64 s.version,.slice (some ⟨b2,o2,none⟩) s.tabs.length c0'] 28)=W0:=⟨_,rfl⟩;have X0:=hI (show W0.heap[w.heap.size]?=some (.cells #[.int .i64 s.version,.slice (some ⟨b2,o2,none⟩) s.tabs.length c0'] 28 (0,0)) by rw [←hW0];exact heap_alloc_new w _);have hz0':W0.heap.size≤w.heap.size+1∧w.heap.size+1≤W0.heap.size:=(by rw [←hW0];simp);rw [hW0] at HB1 ⊢;clear hW0;refine(ZcM s.version (tt:Int) (some ⟨b2,o2,none⟩) s.tabs.length c0' W0 hsl).mono ?_;rintro e w1 ⟨rfl,hb1⟩;rw [HHN.out];have x1:w1.cell? ⟨w.heap.size,1,none⟩=some (.slice (some ⟨b2,o2,none⟩) s.tabs.length c0'):=c9J hb1 (Zaa X0.out 1 _ rfl);have HB2:=hI (HB1.out.trans (hb1.mono (by omega)));have k2:=c9Q HB2.out hl2 k1;have hz1':=hb1.size;have hl1:b2<w1.heap.size:=(by omega);have hlw:w.heap.size<w1.heap.size:=(by omega);clear hb1 HB1 X0 k1;have ht0:(0:Int)≤(tt:Int):=(by omega);have ht1:(tt:Int)<s.tabs.length:=(by omega);obtain⟨b,off,rfl,hb,hc⟩:=(HR.out.keep (Same.of_below HB2.out hS)).vals hr0;have hrl9:=HR.out.len';have KN:=hI (show keyN tk r=(min tk (r.length:Int)).toNat by unfold keyN;omega);have hm0:(0:Int)≤min tk (r.length:Int):=(by omega);have hm1:min tk (r.length:Int)≤(ca:Int):=(by omega);have hmr:(min tk (r.length:Int)).toNat≤r.length:=(by omega);have own0:(w1.alloc (.cells #[] 89)).ownsRow w1.heap.size 89 3 (.slice (some ⟨w1.heap.size,0,none⟩) 0 0) 0 []:=⟨rfl,.inr ⟨w1.heap.size,0,#[],rfl,Nat.le_refl _,heap_alloc_new w1 _,Nat.le_refl _,by unfold maxLen;omega,rfl,rfl⟩⟩;have hrq:(keyF s (tt:Int) r).length=(min tk (r.length:Int)).toNat:=(by rw [HKF.out,List.length_take,KN.out];omega)
 have HC:=hI (show ∀ j u,(Zal (keyF s (tt:Int) r))[j]?=some u→(w1.alloc (.cells #[] 89)).cell? ((⟨b,off,none⟩:Addr).add j)=some u from fun j u hu=>by
  have h9:=hc j u (by rw [HKF.out,ZeA] at hu;exact getElem?_of_take hu);rw [Zca] at h9 ⊢;exact(Zah (by have:=hS b hb;omega)).trans h9)
 clear hc
 go_wp2_with (at_builtin;refine Zan _ rfl (.tmp 20) (.tmp 31) 42 rfl w1.heap.size 89 i0 _ 3 32 Tryz.underlying42 hi hz0 hz1 hz2 rfl (by decide) (.slice (some ⟨w1.heap.size,0,none⟩) 0 0) 0 [] rfl own0 ⟨b,off,none⟩ (min tk (r.length:Int)).toNat ca (Zal (keyF s (tt:Int) r)) rfl (by rw [ZaE,hrq]) HC.out (ZbJ _) (by unfold maxLen;omega) (by omega) (by simp) ?_;intro A1 c1 w2 hown1 hg1;have HO:=hI hown1;have HG:=hI hg1;clear hown1 hg1)
 go_ret;have hn:NewR (keyF s (tt:Int) r) w1 (.returned (.slice A1 (keyF s (tt:Int) r).length c1)) w2:=⟨A1,c1,rfl,by rw [hrq];have h9:=HO.out;rw [List.nil_append,Nat.zero_add] at h9;exact h9,(show Below w1.heap.size w1 (w1.alloc (.cells #[] 89)) from (Below.refl _ _).alloc nR _).grown HG.out (by simp) (by simp [Value.ownBlock])⟩;have hn2:=hn.low HB2.out;rw [hrq] at hn2;exact hn2
def ZbR (s:Sch) (n:Int):Int:=if n<1∨4<n then 1 else schF pcF s
theorem Zcp (A0:Option Addr) (c0':Nat) (s:Sch) (n:Int) (S:Nat→Prop) (w:World) (hs:TabS w S A0 s.tabs) (hS:∀ b,S b→b<w.heap.size) :
  Calls Tryz.prog 80 #[sAgg s.version A0 s.tabs.length c0',.int .i64 n] w (Zbz (ZbR s n) w):=by
 have hsl:=hs.len;have HS:=hI hs;clear hs;obtain⟨er,her⟩:∃ er,schF pcF s=er:=⟨_,rfl⟩;have HER:=hI her;have HF:=hI (show ZbR s n=if n<1∨4<n then 1 else er by unfold ZbR;rw [her]);clear her;have HB0:=hI ((Below.refl w.heap.size w).alloc nR (.cells #[.int .i64 s.version,.slice A0 s.tabs.length c0'] 28))
 by_cases h1:n<1
 · have hd1:decide (n<1)=true:=decide_eq_true h1;go_enter Tryz.func80,Tryz.ntmps80
   go_wp2_with fail
   go_ret;exact⟨by rw [HF.out,if_pos (.inl h1)];rfl,HB0.out⟩
 · have hd1:decide (n<1)=false:=decide_eq_false h1
   by_cases h4:4<n
   · have hd4:decide (4<n)=true:=decide_eq_true h4;go_enter Tryz.func80,Tryz.ntmps80
     go_wp2_with fail
     go_ret;exact⟨by rw [HF.out,if_pos (.inr h4)];rfl,HB0.out⟩
   · have hd4:decide (4<n)=false:=decide_eq_false h4;go_enter Tryz.func80,Tryz.ntmps80
     go_wp2_with fail
     refine(Zez pcF A0 c0' s S _ (HS.out.keep (Same.of_below HB0.out hS)) (fun b hb=>by have:=hS b hb;simp;omega) (Zct s)).mono ?_;rintro e w1 ⟨rfl,hb1⟩;rw [HER.out];have HB1:=hI (HB0.out.trans (hb1.mono (by simp)));clear hb1
     go_wp2_with fail
     go_ret;exact⟨by rw [HF.out,if_neg (by omega)];rfl,HB1.out⟩
def Zeq (s:Sch) (c:Chg):Row:=if 0<c.new.length then keyF s c.table c.new else keyF s c.table c.old
theorem keyOf_any (A0:Option Addr) (c0':Nat) (s:Sch) (tt:Nat) (old new:Row) (A:Option Addr) (ca:Nat) (B:Option Addr) (cb:Nat) (S:Nat→Prop) (w:World) (hs:TabS w S A0 s.tabs) (ho:RowS w S A old) (hca:old.length≤ca) (hn:RowS w S B new) (hcb:new.length≤cb) (hS:∀ b,S b→b<w.heap.size)
  (htl:tt<s.tabs.length) (hk1:1≤(s.tabs.getD tt t0).key) (hr0:0<old.length∨0<new.length) :
  Calls Tryz.prog 82 #[sAgg s.version A0 s.tabs.length c0',ZeP (tt:Int) A old.length ca B new.length cb] w (NewR (Zeq s ⟨(tt:Int),old,new⟩) w):=by
 have hol:=ho.len;have hnl:=hn.len;have HO:=hI ho;have HN:=hI hn;have HCA:=hI hca;have HCB:=hI hcb;have HS:=hI hs;have HK:=hI (show Zeq s ⟨(tt:Int),old,new⟩=if 0<new.length then keyF s tt new else keyF s tt old from rfl);clear ho hn hca hcb hs;have HB0:=hI (((Below.refl w.heap.size w).alloc nR (.cells #[.int .i64 s.version,.slice A0 s.tabs.length c0'] 28)).alloc (by simp) (.cells #[.int .i64 (tt:Int),.slice A old.length ca,.slice B new.length cb] 44));have hsm:Same S w _:=Same.of_below HB0.out hS;have HSM:=hI hsm;clear hsm
 by_cases h0:0<new.length
 · have hd:decide (0<new.length)=true:=(by simpa using h0);rw [if_pos h0] at HK;go_enter Tryz.func82,Tryz.ntmps82
   go_wp2_with fail
   refine(Zgk A0 c0' s tt B cb new S _ (HS.out.keep HSM.out) (HN.out.keep HSM.out) HCB.out (fun b hb=>by have:=hS b hb;simp;omega) htl hk1 h0).mono ?_;intro e w1 hN;obtain⟨A4,c4,rfl,h4,hb4⟩:=hN.low HB0.out;have H4:=hI h4;have HB4:=hI hb4;clear hN h4 hb4
   go_wp2_with fail
   go_ret;rw [HK.out];exact⟨A4,c4,rfl,H4.out,HB4.out⟩
 · have hd:decide (0<new.length)=false:=(by simpa using h0);have h1:0<old.length:=(by omega);rw [if_neg h0] at HK;go_enter Tryz.func82,Tryz.ntmps82
   go_wp2_with fail
   refine(Zgk A0 c0' s tt A ca old S _ (HS.out.keep HSM.out) (HO.out.keep HSM.out) HCA.out (fun b hb=>by have:=hS b hb;simp;omega) htl hk1 h1).mono ?_;intro e w1 hN;obtain⟨A4,c4,rfl,h4,hb4⟩:=hN.low HB0.out;have H4:=hI h4;have HB4:=hI hb4;clear hN h4 hb4
   go_wp2_with fail
   go_ret;rw [HK.out];exact⟨A4,c4,rfl,H4.out,HB4.out⟩
theorem ZfV:∀ (l:List Tab) (seen:List ByteArray),ZaA seen l=true→∀ t ∈ l,1≤t.key∧t.key≤t.cols.length
 | [],_,_,t,ht=>by simp at ht
 | t' :: r,seen,h,t,ht=>by
  simp only [ZaA,Bool.and_eq_true,decide_eq_true_eq] at h;rcases List.mem_cons.1 ht with rfl | ht
  · exact⟨h.1.1.1.2,h.1.1.2⟩
  · exact ZfV r _ h.2 t ht
theorem Zeg {pc:List Int→Pred→Int} {s:Sch} (h:schF pc s=0) {tt:Nat} (ht:tt<s.tabs.length):s.tabs.length≤8∧1≤(s.tabs.getD tt t0).key∧(s.tabs.getD tt t0).key≤(s.tabs.getD tt t0).cols.length∧(s.tabs.getD tt t0).cols.length≤8:=by
 unfold schF at h
 by_cases h1:8<s.tabs.length
 · rw [if_pos h1] at h;omega
 rw [if_neg h1] at h
 by_cases h2:s.tabs.any bigT=true
 · rw [if_pos h2] at h;omega
 rw [if_neg h2] at h;split at h
 · omega
 · rename_i h3
   have e:s.tabs.getD tt t0=s.tabs[tt]:=(by simp [List.getD,ht]);rw [e]
   have hn:ZaA [] s.tabs=true:=by
    cases hc:ZaA [] s.tabs with
    | true=>rfl
    | false=>exact absurd (.inr (.inr (.inl hc))) h3
   have hk:=ZfV _ _ hn _ (List.getElem_mem ht)
   have hb:bigT s.tabs[tt]=false:=by
    cases hc:bigT s.tabs[tt] with
    | false=>rfl
    | true=>exact absurd (List.any_eq_true.2 ⟨_,List.getElem_mem ht,hc⟩) h2
   simp only [bigT,Bool.or_eq_false_iff,decide_eq_false_iff_not] at hb;exact⟨by omega,hk.1,hk.2,by omega⟩
theorem skeyKinds_any (A0:Option Addr) (c0':Nat) (s:Sch) (tt:Nat) (S:Nat→Prop) (w:World) (hs:TabS w S A0 s.tabs) (hS:∀ b,S b→b<w.heap.size) (ht:tt<s.tabs.length) (hk1:1≤(s.tabs.getD tt t0).key) (hk2:(s.tabs.getD tt t0).key≤(s.tabs.getD tt t0).cols.length) :
  Calls Tryz.prog 84 #[sAgg s.version A0 s.tabs.length c0',.int .i64 (tt:Int)] w (NewI False (Zfg s tt) w):=by
 have hsl:=hs.len;have HS:=hI hs;clear hs;have HB1:=hI ((Below.refl w.heap.size w).alloc nR (.cells #[.int .i64 s.version,.slice A0 s.tabs.length c0'] 28));have HHN:=hI (show hasN s.tabs.length (tt:Int)=true by simp [hasN];omega);have hkl:(ZaM s tt).length=(s.tabs.getD tt t0).cols.length:=(by unfold ZaM;rw [if_pos HHN.out,List.length_map,Int.toNat_natCast]);obtain⟨b2,o2,rfl,hb2,A1,A2,A3,c1,c2,c3,hta⟩:=HS.out.at_ ht;have k1:=hta.key;have hl2:b2<w.heap.size:=hS b2 hb2;clear hta;have HK:=hI (show Zfg s tt=(ZaM s tt).take (s.tabs.getD tt t0).key.toNat by unfold Zfg;rw [Int.toNat_natCast];congr 1;rw [hkl];omega);go_enter Tryz.func84,Tryz.ntmps84
 go_wp2_with fail
 refine(ZgV (some ⟨b2,o2,none⟩) c0' s (tt:Int) S _ (HS.out.keep (Same.of_below HB1.out hS)) (fun b hb=>by have:=hS b hb;simp;omega)).mono ?_;rintro e w1 ⟨A4,c4,rfl,h4,hc4,hn4,hb4⟩;have H4:=hI h4;have HC4:=hI hc4;have hz4:=hb4.size;have y1:w1.cell? ⟨w.heap.size,1,none⟩=some (.slice (some ⟨b2,o2,none⟩) s.tabs.length c0'):=c9Q hb4 (by simp) (by simp [cell_of_row _ _ _ _ _ _ (heap_alloc_new w _)]);have y0:w1.cell? ⟨w.heap.size,0,none⟩=some (.int .i64 s.version):=c9Q hb4 (by simp) (by simp [cell_of_row _ _ _ _ _ _ (heap_alloc_new w _)]);have HB4:=hI (HB1.out.trans (hb4.mono (by simp)));have hz1:w.heap.size<w1.heap.size:=(by simp at hz4;omega);have z1:=c9Q HB4.out hl2 k1;have hl3:b2<w1.heap.size:=(by omega);obtain⟨b4,o4,e4,hb4',-⟩:=H4.out.at_ (show 0<(ZaM s tt).length by omega);subst e4;clear h4 hc4 hb4 hn4 hz4 k1 hb4';generalize ZaM s tt=l at *;generalize s.tabs.getD tt t0=tb at *;obtain⟨tn,tc,tk,tr,tp⟩:=tb;simp only at *;have hd3:decide (tk<0)=false:=decide_eq_false (by omega);have ht0:(0:Int)≤(tt:Int):=(by omega);have ht1:(tt:Int)<s.tabs.length:=(by omega);have hlk:=H4.out.len;have hlc:l.length≤c4:=HC4.out;have hmin:min tk (l.length:Int)=tk:=(by omega);have HMIN:=hI hmin;have hm0:(0:Int)≤min tk (l.length:Int):=(by omega);have hm1:min tk (l.length:Int)≤(c4:Int):=(by omega);have HTL:=hI (show tk.toNat≤l.length by omega);clear hmin hkl hk1 hk2
 go_wp2_with fail
 refine(ZcM s.version (tt:Int) (some ⟨b2,o2,none⟩) s.tabs.length c0' _ hsl).mono ?_;rintro e w2 ⟨rfl,hb5⟩;rw [HHN.out];have x1:=c9Q hb5 hz1 y1;have x2:=c9Q hb5 hl3 z1;have HB5:=hI (HB4.out.trans (hb5.mono (by omega)));have HS5:=hI (H4.out.keep (Same.of_below hb5 (fun b hb=>hb.2)));have hz5:=hb5.size;clear hb5
 go_wp2_with fail
 go_ret;rw [HK.out];refine⟨_,c4,by rw [List.length_take,Nat.min_eq_left HTL.out];rw [HMIN.out];rfl,?_,by rw [List.length_take];omega,fun _ h=>h.elim,HB5.out⟩;exact(HS5.out.more (fun b hb=>⟨by have:=hb.1;simp at this;omega,by have:=hb.2;omega⟩)).take _
def KeyOk (ks:List Int) (key:Row):Prop:=key.length=ks.length∧∀ i,i<key.length→Zak (key.getD i v0)=true∧(key.getD i v0).k=ks.getD i 0
instance (ks:List Int) (key:Row):Decidable (KeyOk ks key):=by unfold KeyOk;exact inferInstance
theorem KeyOk.valid {ks:List Int} {key:Row} (h:KeyOk ks key):∀ v ∈ key,Zak v=true:=fun v hv=>by
 obtain⟨i,hi,rfl⟩:=List.getElem_of_mem hv;have:=(h.2 i hi).1;simpa [List.getD,hi] using this
def ofF (s:Sch) (n t:Int) (key:Row):Int × Int :=
 if ZbR s n≠0 then (0,ZbR s n) else if hasN s.tabs.length t=false then (0,1) else if KeyOk (Zfg s t) key then (Zdy n t key,0) else (0,71)
theorem ZhA {s:Sch} {n:Int} (h:ZbR s n=0):1≤n∧n≤4∧schF pcF s=0:=by
 unfold ZbR at h;split at h
 · omega
 · exact⟨by omega,by omega,h⟩
theorem keyKF_len {s:Sch} {tt:Nat} (ht:tt<s.tabs.length) (h:schF pcF s=0):(Zfg s tt).length≤8:=by
 have h1:=Zeg h ht;have HHN:hasN s.tabs.length (tt:Int)=true:=(by simp [hasN];omega);unfold Zfg;rw [List.length_take];have hkl:(ZaM s tt).length=(s.tabs.getD tt t0).cols.length:=(by unfold ZaM;rw [if_pos HHN,List.length_map,Int.toNat_natCast]);omega
def Int2Bel (r:Int × Int) (w:World) (e:Ending) (w':World):Prop:=e=.returned (.tuple #[.int .i64 r.1,.int .i64 r.2])∧Below w.heap.size w w'
theorem shOf_any (A0:Option Addr) (c0':Nat) (s:Sch) (n t:Int) (A:Option Addr) (ck:Nat) (key:Row) (S:Nat→Prop) (w:World) (hs:TabS w S A0 s.tabs) (hk:RowS w S A key) (hS:∀ b,S b→b<w.heap.size) :
  Calls Tryz.prog 34 #[sAgg s.version A0 s.tabs.length c0',.int .i64 n,.int .i64 t,.slice A key.length ck] w (Int2Bel (ofF s n t key) w):=by
 have hsl:=hs.len;have hrl:=hk.len;have HS:=hI hs;have HK:=hI hk;clear hs hk;obtain⟨er,her⟩:∃ er,ZbR s n=er:=⟨_,rfl⟩;have HER:=hI her;have HOF:=hI (show ofF s n t key=if er≠0 then (0,er) else if hasN s.tabs.length t=false then (0,1) else if KeyOk (Zfg s t) key then (Zdy n t key,0) else (0,71) by unfold ofF;rw [her]);clear her;obtain⟨W0,hW0⟩:∃ W0,w.alloc (.cells #[.int .i64 s.version,.slice A0 s.tabs.length c0'] 28)=W0:=⟨_,rfl⟩;have HB0:=hI (show Below w.heap.size w W0 by rw [←hW0];exact(Below.refl w.heap.size w).alloc nR _);have hz0:W0.heap.size≤w.heap.size+1∧w.heap.size+1≤W0.heap.size:=(by rw [←hW0];simp);have SB:=hI (show W0.heap[w.heap.size]?=some (.cells #[.int .i64 s.version,.slice A0 s.tabs.length c0'] 28 (0,0)) by rw [←hW0];exact heap_alloc_new w _);have x0:W0.cell? ⟨w.heap.size,0,none⟩=some (.int .i64 s.version):=Zaa SB.out 0 _ rfl;have x1:W0.cell? ⟨w.heap.size,1,none⟩=some (.slice A0 s.tabs.length c0'):=Zaa SB.out 1 _ rfl;have hws:w.heap.size<W0.heap.size:=(by omega);go_enter Tryz.func34,Tryz.ntmps34
 go_wp2_with fail
 try rw [hW0]
 clear hW0;refine(Zcp A0 c0' s n S W0 (HS.out.keep (Same.of_below HB0.out hS)) (fun b hb=>by have:=hS b hb;omega)).mono ?_;rintro e w1 ⟨rfl,hb1⟩;rw [HER.out];have y0:=c9Q hb1 hws x0;have y1:=c9Q hb1 hws x1;have HB1:=hI (HB0.out.trans (hb1.mono (by omega)));have hw1:w.heap.size<w1.heap.size:=(by have:=hb1.size;omega);clear hb1 x0 x1 HB0 SB
 by_cases he:er=0
 · subst he;obtain⟨hn1,hn4,hsc⟩:=ZhA HER.out;have HSC:=hI hsc;clear hsc
   by_cases ht0:t<0
   · have hd1:decide (t<0)=true:=decide_eq_true ht0;have HF:=hI (show ofF s n t key=(0,1) by rw [HOF.out,if_neg (by simp),if_pos (by simp [hasN];omega)])
     go_wp2_with fail
     exact bodyPost_ret (v:=.tuple #[.int .i64 0,.int .i64 1]) (by simp [results,Tryz.results34,go_sem]) rfl ⟨by rw [HF.out],HB1.out⟩
   have hd1:decide (t<0)=false:=decide_eq_false ht0;obtain⟨tt,rfl⟩:=Int.eq_ofNat_of_zero_le (show 0≤t by omega)
   by_cases ht1:s.tabs.length≤tt
   · have hd2:decide (s.tabs.length≤tt)=true:=decide_eq_true ht1;have hd2':decide ((s.tabs.length:Int)≤(tt:Int))=true:=decide_eq_true (by omega);have HF:=hI (show ofF s n tt key=(0,1) by rw [HOF.out,if_neg (by simp),if_pos (by simp [hasN];omega)])
     go_wp2_with fail
     exact bodyPost_ret (v:=.tuple #[.int .i64 0,.int .i64 1]) (by simp [results,Tryz.results34,go_sem]) rfl ⟨by rw [HF.out],HB1.out⟩
   have hd2:decide (s.tabs.length≤tt)=false:=decide_eq_false ht1;have hd2':decide ((s.tabs.length:Int)≤(tt:Int))=false:=decide_eq_false (by omega);have htl:tt<s.tabs.length:=(by omega);obtain⟨hs8,hk1,hk2,-⟩:=Zeg HSC.out htl;have hk8:=keyKF_len htl HSC.out;have HOF2:=hI (show ofF s n tt key=if KeyOk (Zfg s tt) key then (Zdy n tt key,0) else (0,71) by rw [HOF.out,if_neg (by simp),if_neg (by simp [hasN];omega)]);clear HOF ht0 ht1 hs8
   go_wp2_with fail
   refine(skeyKinds_any A0 c0' s tt S w1 (HS.out.keep (Same.of_below HB1.out hS)) (fun b hb=>by have:=hS b hb;omega) htl hk1 hk2).mono ?_;rintro e w2 ⟨AK,cK,rfl,hK,hcK,-,hb2⟩;have HKS:=hI hK;have hcK':(Zfg s tt).length≤cK:=hcK;have HB2:=hI (HB1.out.trans (hb2.mono (by omega)));have hw2:w1.heap.size≤w2.heap.size:=hb2.size;clear hK hcK hb2 y0 y1 hd1 hd2 hd2' hk1 hk2;generalize Zfg s tt=ks at *
   by_cases hlen:key.length=ks.length
   · have hdl:((key.length:Int) != (ks.length:Int))=false:=(by simp [hlen]);have HLEN:=hI hlen;clear hlen
     go_wp2_with fail
     go_loopw [39] (fun i wr=>∃ k:Nat,k≤key.length∧i=.int .i64 k∧(∀ i,i<k→Zak (key.getD i v0)=true∧(key.getD i v0).k=ks.getD i 0)∧Below w2.heap.size w2 wr) (fun i _=>key.length - (intOf i).toNat)
     case atStart=>exact⟨0,Nat.zero_le _,rfl,fun i h=>absurd h (by omega),Below.refl _ _⟩
     case round =>
      obtain⟨k,hkk,rfl,hok,hb⟩:=hrel;have HOK:=hI hok;have HL:=hI hb;have hsz:=hb.size;clear hok hb
      by_cases hlt:k<key.length
      · have hdk:decide (k<key.length)=true:=(by simp [hlt]);have hk0:(0:Int)≤(k:Int):=(by omega);have hki:(k:Int)<key.length:=(by omega);have hkj:(k:Int)<ks.length:=(by have:=HLEN.out;omega);have hlt2:k<ks.length:=(by omega);obtain⟨b1,o1,rfl,hb1,c1,c2,c3⟩:=((HK.out.keep (Same.of_below HB2.out hS)).keep (Same.of_below HL.out (fun b hb=>by have:=hS b hb;omega))).at_ hlt;have hlb:b1<wr.heap.size:=(by have:=hS b1 hb1;omega);obtain⟨b4,o4,rfl,hb4,g1⟩:=(HKS.out.keep (Same.of_below HL.out (fun b hb=>hb.2))).at_ hlt2;have hlb4:b4<wr.heap.size:=(by have:=hb4.2;omega);have HX:=hI (show ∀ x,key.getD k v0=x→(KeyOk ks key→Zak x=true∧x.k=ks.getD k 0) from fun x hx h=>by rw [←hx];exact h.2 k hlt)
        have HY:=hI (show ∀ x,key.getD k v0=x→Zak x=true→x.k=ks.getD k 0→∀ i,i<k+1→Zak (key.getD i v0)=true∧(key.getD i v0).k=ks.getD i 0 from fun x hx h1 h2 i hi=>by
         rcases Nat.lt_or_ge i k with h | h
         · exact HOK.out i h
         · obtain rfl:i=k:=(by omega);rw [hx];exact⟨h1,h2⟩)
        have hxtS:=HK.out.ok.2 (key.getD k v0) (by
         have e:key.getD k v0=key[k]:=(by simp [List.getD,hlt]);rw [e];exact List.getElem_mem hlt)
        obtain⟨x,hx⟩:∃ x,key.getD k v0=x:=⟨_,rfl⟩;rw [hx] at c1 c2 c3 hxtS;have HXX:=hI (HX.out x hx);have HYY:=hI (HY.out x hx);clear hx HX HY;obtain⟨kd,hkd⟩:∃ kd,ks.getD k 0=kd:=⟨_,rfl⟩;rw [hkd] at g1;rw [hkd] at HXX HYY;clear hkd;obtain⟨xk,xi,xt⟩:=x;simp only at c1 c2 c3 hxtS;have HXT:=hI (show xt.size≤9223372036854775807 from hxtS);clear hxtS;go_upto_region 12 with fail
        obtain⟨W1,hW1⟩:∃ W1,wr.alloc (.cells #[.int .i64 xk,.int .i64 xi,.string xt] 89)=W1:=⟨_,rfl⟩;have X0:=hI (show W1.heap[wr.heap.size]?=some (.cells #[.int .i64 xk,.int .i64 xi,.string xt] 89 (0,0)) by rw [←hW1];exact heap_alloc_new wr _);have hbW:Below wr.heap.size wr W1:=(by rw [←hW1];exact(Below.refl _ _).alloc nR _);have hz1:W1.heap.size≤wr.heap.size+1∧wr.heap.size+1≤W1.heap.size:=(by rw [←hW1];simp);have hzw:wr.heap.size<W1.heap.size:=(by omega);have a0:W1.cell? ⟨wr.heap.size,0,none⟩=some (.int .i64 xk):=Zaa X0.out 0 _ rfl;have a1:W1.cell? ⟨wr.heap.size,1,none⟩=some (.int .i64 xi):=Zaa X0.out 1 _ rfl;have a2:W1.cell? ⟨wr.heap.size,2,none⟩=some (.string xt):=Zaa X0.out 2 _ rfl;have a3:=c9Q hbW hlb4 g1;have HL1:=hI (HL.out.trans (hbW.mono hsz));rw [hW1];clear hW1 hbW c1 c2 c3 g1 HL X0
        by_cases hv:Zak ⟨xk,xi,xt⟩=true
        · by_cases hq:xk=kd
          · have hqd:(xk != kd)=false:=(by simp [hq]);have HNEXT:=hI (HYY.out hv hq);have HVV:=hI hv;clear hv hq HXX HYY HOK;refine tS (fun w'=>Below W1.heap.size W1 w'∧w'.cell? ⟨wr.heap.size,0,none⟩=some (.int .i64 xk)∧w'.cell? ⟨wr.heap.size,1,none⟩=some (.int .i64 xi)∧w'.cell? ⟨wr.heap.size,2,none⟩=some (.string xt)∧w'.cell? ⟨b4,o4+k,none⟩=some (.int .i64 kd)) 12 12 fun Q' HQ HP=>?_;refine tJ 0 44 (bA 12 1) HP.out ⟨(Below.refl _ _).drew,a0,a1,a2,a3⟩ ?_;refine tQ 1 (some 45) (bA 12 3) fun K HK=>?_;go_simp;refine(ZbQ ⟨xk,xi,xt⟩ W1.drew HXT.out).mono ?_;rw [HVV.out];rintro e w3 ⟨rfl,hv1'⟩;have hv1:Below W1.heap.size W1 w3:=(Below.refl _ W1).drew.trans hv1';have p0:=c9Q hv1 hzw a0;have p1:=c9Q hv1 hzw a1;have p2:=c9Q hv1 hzw a2;have p3:=c9Q hv1 (Nat.lt_trans hlb4 hzw) a3;refine HK.out _ _ (fun _=>⟨hv1,p0,p1,p2,p3⟩) ?_;clear HK K
            try simp only [Act.put,psA,psB,psC]
            refine tX 2 46 3 47 4 48 5 49 (bA 12 63) HP.out ⟨hv1,p0,p1,p2,p3⟩ ?_;refine tX 6 50 7 51 8 52 9 53 (bA 12 1023) HP.out ⟨hv1,p0,p1,p2,p3⟩ ?_;refine tW 10 54 11 55 (bA 12 4095) HP.out ⟨hv1,p0,p1,p2,p3⟩ ?_;refine tE HQ ?_;clear HQ HP Q';have HB4:=hI (HL1.out.trans (hv1.mono (by omega)));clear hv1 p0 p1 p2 p3 a0 a1 a2 a3
            go_wp2_with fail
            go_roundw
            case rel=>exact⟨k+1,by omega,by go_num,HNEXT.out,HB4.out⟩
            case measure=>(simp [intOf];omega)
          · have hqd:(xk != kd)=true:=(by simp [hq]);have HF:=hI (show ofF s n tt key=(0,71) by rw [HOF2.out,if_neg (fun h=>hq (HXX.out h).2)]);have HVV:=hI hv;clear hv hq HXX HYY HOK;refine tS (fun w'=>Below W1.heap.size W1 w'∧w'.cell? ⟨wr.heap.size,0,none⟩=some (.int .i64 xk)∧w'.cell? ⟨wr.heap.size,1,none⟩=some (.int .i64 xi)∧w'.cell? ⟨wr.heap.size,2,none⟩=some (.string xt)∧w'.cell? ⟨b4,o4+k,none⟩=some (.int .i64 kd)) 12 12 fun Q' HQ HP=>?_;refine tJ 0 44 (bA 12 1) HP.out ⟨(Below.refl _ _).drew,a0,a1,a2,a3⟩ ?_;refine tQ 1 (some 45) (bA 12 3) fun K HK=>?_;go_simp;refine(ZbQ ⟨xk,xi,xt⟩ W1.drew HXT.out).mono ?_;rw [HVV.out];rintro e w3 ⟨rfl,hv1'⟩;have hv1:Below W1.heap.size W1 w3:=(Below.refl _ W1).drew.trans hv1';have p0:=c9Q hv1 hzw a0;have p1:=c9Q hv1 hzw a1;have p2:=c9Q hv1 hzw a2;have p3:=c9Q hv1 (Nat.lt_trans hlb4 hzw) a3;refine HK.out _ _ (fun _=>⟨hv1,p0,p1,p2,p3⟩) ?_;clear HK K
            try simp only [Act.put,psA,psB,psC]
            refine tX 2 46 3 47 4 48 5 49 (bA 12 63) HP.out ⟨hv1,p0,p1,p2,p3⟩ ?_;refine tX 6 50 7 51 8 52 9 53 (bA 12 1023) HP.out ⟨hv1,p0,p1,p2,p3⟩ ?_;refine tW 10 54 11 55 (bA 12 4095) HP.out ⟨hv1,p0,p1,p2,p3⟩ ?_;refine tE HQ ?_;clear HQ HP Q';have HB4:=hI (HB2.out.trans ((HL1.out.trans (hv1.mono (by omega))).mono (by omega)));clear hv1 p0 p1 p2 p3 a0 a1 a2 a3
            go_wp2_with fail
            exact bodyPost_ret (v:=.tuple #[.int .i64 0,.int .i64 71]) (by simp [results,Tryz.results34,go_sem]) rfl ⟨by rw [HF.out],HB4.out⟩
        · have hv':Zak ⟨xk,xi,xt⟩=false:=(by simpa using hv);have HF:=hI (show ofF s n tt key=(0,71) by rw [HOF2.out,if_neg (fun h=>hv (HXX.out h).1)]);have HVV:=hI hv';clear hv hv' HXX HYY HOK;refine tS (fun w'=>Below W1.heap.size W1 w'∧w'.cell? ⟨wr.heap.size,0,none⟩=some (.int .i64 xk)∧w'.cell? ⟨wr.heap.size,1,none⟩=some (.int .i64 xi)∧w'.cell? ⟨wr.heap.size,2,none⟩=some (.string xt)∧w'.cell? ⟨b4,o4+k,none⟩=some (.int .i64 kd)) 12 12 fun Q' HQ HP=>?_;refine tJ 0 44 (bA 12 1) HP.out ⟨(Below.refl _ _).drew,a0,a1,a2,a3⟩ ?_;refine tQ 1 (some 45) (bA 12 3) fun K HK=>?_;go_simp;refine(ZbQ ⟨xk,xi,xt⟩ W1.drew HXT.out).mono ?_;rw [HVV.out];rintro e w3 ⟨rfl,hv1'⟩;have hv1:Below W1.heap.size W1 w3:=(Below.refl _ W1).drew.trans hv1';have p0:=c9Q hv1 hzw a0;have p1:=c9Q hv1 hzw a1;have p2:=c9Q hv1 hzw a2;have p3:=c9Q hv1 (Nat.lt_trans hlb4 hzw) a3;refine HK.out _ _ (fun _=>⟨hv1,p0,p1,p2,p3⟩) ?_;clear HK K
          try simp only [Act.put,psA,psB,psC]
          refine tW 2 46 3 47 (bA 12 15) HP.out ⟨hv1,p0,p1,p2,p3⟩ ?_;refine tK 4 48 (bA 12 31) HP.out ⟨hv1,p0,p1,p2,p3⟩ ?_;refine tK 5 49 (bA 12 63) HP.out ⟨hv1,p0,p1,p2,p3⟩ ?_;refine tK 6 50 (bA 12 127) HP.out ⟨hv1,p0,p1,p2,p3⟩ ?_;refine tK 7 51 (bA 12 255) HP.out ⟨hv1,p0,p1,p2,p3⟩ ?_;refine tK 8 52 (bA 12 511) HP.out ⟨hv1,p0,p1,p2,p3⟩ ?_;refine tK 9 53 (bA 12 1023) HP.out ⟨hv1,p0,p1,p2,p3⟩ ?_;refine tK 10 54 (bA 12 2047) HP.out ⟨hv1,p0,p1,p2,p3⟩ ?_;refine tJ 11 55 (bA 12 4095) HP.out ⟨hv1,p0,p1,p2,p3⟩ ?_;refine tE HQ ?_;clear HQ HP Q';have HB4:=hI (HB2.out.trans ((HL1.out.trans (hv1.mono (by omega))).mono (by omega)));clear hv1 p0 p1 p2 p3 a0 a1 a2 a3
          go_wp2_with fail
          exact bodyPost_ret (v:=.tuple #[.int .i64 0,.int .i64 71]) (by simp [results,Tryz.results34,go_sem]) rfl ⟨by rw [HF.out],HB4.out⟩
      · have hdk:decide (k<key.length)=false:=(by simp;omega);have hk9:k=key.length:=(by omega);have hko:KeyOk ks key:=⟨HLEN.out,fun i hi=>HOK.out i (by omega)⟩;have HF:=hI (show ofF s n tt key=(Zdy n tt key,0) by rw [HOF2.out,if_pos hko]);have HV:=hI hko.valid;clear hko hk9 HOK
        go_wp2_with fail
        refine(Zfe n (tt:Int) A ck key S wr hn1 hn4 ((HK.out.keep (Same.of_below HB2.out hS)).keep (Same.of_below HL.out (fun b hb=>by have:=hS b hb;omega))) (fun b hb=>by have:=hS b hb;omega) HV.out (by have:=HLEN.out;omega)).mono ?_;rintro e w5 ⟨rfl,hb5⟩;have HB5:=hI (HB2.out.trans ((HL.out.trans (hb5.mono hsz)).mono (by omega)));clear hb5
        go_wp2_with fail
        exact bodyPost_ret (v:=.tuple #[.int .i64 (Zdy n tt key),.int .i64 0]) (by simp [results,Tryz.results34,go_sem]) rfl ⟨by rw [HF.out],HB5.out⟩
   · have hdl:((key.length:Int) != (ks.length:Int))=true:=(by simp;omega);have HF:=hI (show ofF s n tt key=(0,71) by rw [HOF2.out,if_neg (fun h=>hlen h.1)])
     go_wp2_with fail
     exact bodyPost_ret (v:=.tuple #[.int .i64 0,.int .i64 71]) (by simp [results,Tryz.results34,go_sem]) rfl ⟨by rw [HF.out],HB2.out⟩
 · have hd0:(er != 0)=true:=(by simp [he]);have HF:=hI (show ofF s n t key=(0,er) by rw [HOF.out,if_pos he])
   go_wp2_with fail
   exact bodyPost_ret (v:=.tuple #[.int .i64 0,.int .i64 er]) (by simp [results,Tryz.results34,go_sem]) rfl ⟨by rw [HF.out],HB1.out⟩
def Zdk (l:List Chg):Dat:=.slice (l.map ZaC)
def Zbw {α:Type} (n:Nat) (p:α→Nat) (l:List α):List (List α):=(List.range n).map fun i=>l.filter fun c=>p c == i
theorem ZbI {α:Type} (n:Nat) (p:α→Nat) (l:List α):(Zbw n p l).length=n:=by simp [Zbw]
theorem ZeY {α:Type} {n:Nat} {p:α→Nat} {l:List α} {i:Nat} (h:i<n):(Zbw n p l).getD i []=l.filter fun c=>p c == i:=by
 simp [Zbw,List.getD,h]
theorem filter_snoc {α:Type} {p:α→Nat} {l:List α} {c:α} (i:Nat):((l++[c]).filter fun c=>p c == i)=(l.filter fun c=>p c == i)++(if p c=i then [c] else []):=by
 rw [List.filter_append]
 congr 1
 by_cases h:p c=i
 · simp [h]
 · simp [h]
theorem ZdC {m key:Int}:∀ {cs:List Col} {r:Row} {i:Nat},ZaH m key i cs r=true→r.length=cs.length→∀ v ∈ r,Zak v=true
 | [],[],_,_,_,v,hv=>by simp at hv
 | c :: cs,w :: r,i,h,hl,v,hv=>by
  unfold ZaH at h;simp only [Bool.and_eq_true] at h;rcases List.mem_cons.1 hv with rfl | hv
  · have h1:=h.1;unfold Zav at h1;simp only [Bool.and_eq_true] at h1;exact h1.1
  · exact ZdC h.2 (by simpa using hl) v hv
theorem Zet {s:Sch} {t:Int} {r:Row} {m:Int} (h:Zax s t r m=true):∀ v ∈ r,Zak v=true:=by
 unfold Zax at h;simp only [Bool.and_eq_true,decide_eq_true_eq] at h;exact ZdC h.2 h.1.2
theorem Zfo {s:Sch} {t:Int} {r:Row} {m:Int} (h:Zax s t r m=true):r.length=(s.tabs.getD t.toNat t0).cols.length:=by
 unfold Zax at h;simp only [Bool.and_eq_true,decide_eq_true_eq] at h;exact h.1.2
theorem Zdt {s:Sch} {t:Int} {r:Row} (h:∀ v ∈ r,Zak v=true):∀ v ∈ keyF s t r,Zak v=true:=by
 unfold keyF;split
 · exact fun v hv=>h v (List.mem_of_mem_take hv)
 · exact fun v hv=>by simp at hv
theorem Zgs (s:Sch) (t:Int) (r:Row):(keyF s t r).length≤r.length:=by
 unfold keyF;split
 · rw [List.length_take];omega
 · simp
structure ChgN (s:Sch) (c:Chg):Prop where
 tab:∃ t:Nat,c.table=t∧t<s.tabs.length
 some_:0<c.old.length∨0<c.new.length
 old:(∀ v ∈ c.old,Zak v=true)∧c.old.length≤8
 new:(∀ v ∈ c.new,Zak v=true)∧c.new.length≤8
theorem ChgN.of {s:Sch} {m:Int} {c:Chg} (hs:schF pcF s=0) (h:Zap s m c=true):ChgN s c:=by
 obtain⟨t,h1,h2⟩:=ZdE h;have h3:=Zef h;have h4:=h;unfold Zap at h4;simp only [Bool.and_eq_true,Bool.or_eq_true,decide_eq_true_eq] at h4;have hc:=(Zeg hs h2).2.2.2;refine⟨⟨t,h1,h2⟩,h3,?_,?_⟩
 · rcases h4.1.1.2 with h5 | h5
   · rw [List.eq_nil_of_length_eq_zero h5];simp
   · exact⟨Zet h5,by rw [Zfo h5,h1,Int.toNat_natCast];exact hc⟩
 · rcases h4.1.2 with h5 | h5
   · rw [List.eq_nil_of_length_eq_zero h5];simp
   · exact⟨Zet h5,by rw [Zfo h5,h1,Int.toNat_natCast];exact hc⟩
theorem ChgN.key {s:Sch} {c:Chg} (h:ChgN s c):(∀ v ∈ Zeq s c,Zak v=true)∧(Zeq s c).length≤12:=by
 unfold Zeq;split
 · exact⟨Zdt h.new.1,by have:=Zgs s c.table c.new;have:=h.new.2;omega⟩
 · exact⟨Zdt h.old.1,by have:=Zgs s c.table c.old;have:=h.old.2;omega⟩
theorem Zfa {r:Row} (h:∀ v ∈ r,Zak v=true) (hl:r.length≤12):RowOk r:=⟨by omega,fun v hv=>by have:=Zdp (h v hv);omega⟩
theorem ZgI {pc:List Int→Pred→Int} {s:Sch} (h:schF pc s=0):s.tabs.length≤8:=by
 rcases Nat.eq_zero_or_pos s.tabs.length with h0 | h0
 · omega
 · exact(Zeg h h0).1
def ZbM (s:Sch) (n:Int) (c:Chg):Nat:=(Zdy n c.table (Zeq s c)).toNat
theorem homeC_lt {s:Sch} {n:Int} {c:Chg} (hn:1≤n):ZbM s n c<n.toNat∧Zdy n c.table (Zeq s c)=(ZbM s n c:Int):=by
 have:=Zfh (n:=n) (t:=c.table) (key:=Zeq s c) hn;unfold ZbM;omega
def Zcs (s:Sch) (n:Int) (l:List Chg):Int × List (List Chg) :=
 if ZbR s n≠0 then (ZbR s n,[]) else if (netF (schF pcF s) s 1 l).1≠0 then ((netF (schF pcF s) s 1 l).1,[]) else (0,Zbw n.toNat (ZbM s n) (netF (schF pcF s) s 1 l).2)
def SplP (r:Int × List (List Chg)) (w:World) (e:Ending) (w':World):Prop:=∃ A c,e=.returned (.tuple #[.slice A r.2.length c,.int .i64 r.1])∧r.2.length≤c∧Sl w' (New w w') A (r.2.map Zdk)∧Below w.heap.size w w'
theorem SplP.err {w w':World} {n:Int} {r:Int × List (List Chg)} (h:r=(n,[])) (hb:Below w.heap.size w w'):SplP r w (.returned (.tuple #[.slice none 0 0,.int .i64 n])) w':=by
 subst h;exact⟨none,0,rfl,Nat.le_refl _,Sl.nil_,hb⟩
section
variable {α:Type} {f:α→α→Int} {cl:α→Nat} {T:List α}
def rest (cl:α→Nat) (T:List α) (k i:Nat):List α:=(T.drop k).filter fun x=>cl x == i
end
section
variable {s:Sch} {m:Int}
theorem key2_eq {c:Chg} (h:Zap s m c=true):Zeq s c=keyC s c:=by
 unfold Zeq;split
 · rename_i h0
   exact Zgr h h0
 · rename_i h0
   have h1:=Zef h;unfold keyC;rw [if_pos (by omega)]
end
end Go.Proofs.YtkpjjfhfbpfjpaaGreat
