import Derived.Test.YtkpjjfhfbpfjpaaKf05585
import Derived.Test.YtkpjjfhfbpfjpaaK32f246
import Derived.Test.YtkpjjfhfbpfjpaaKe790cb
set_option linter.unusedVariables false
set_option linter.unusedSimpArgs false
set_option maxRecDepth 100000
set_option maxHeartbeats 8000000
namespace Go.Proofs.Ytkpjjfhfbpfjpaa
open Go.RowKit
theorem and127 (n:Nat) (h:n<18446744073709551616):bits .and .u64 (n:Int) 127=((n % 128:Nat):Int):=by
 have h1:(BitVec.ofInt 64 (n:Int)).toNat=n:=by
  rw [BitVec.ofInt_natCast,BitVec.toNat_ofNat];exact Nat.mod_eq_of_lt (by omega)
 show IntKind.u64.wrap ((BitVec.ofInt 64 (n:Int) &&& BitVec.ofInt 64 127).toNat:Int)=_;have h2:(BitVec.ofInt 64 127).toNat=2 ^ 7 - 1:=(by decide);rw [BitVec.toNat_and,h1,h2,Nat.and_two_pow_sub_one_eq_mod,IntKind.wrap_u64];omega
theorem or128a:∀ m:Fin 128,bits .or .u64 ((m.1:Nat):Int) 128 % 256=((m.1+128:Nat):Int):=by decide
theorem or128b:∀ m:Fin 256,bits .or .u8 ((m.1:Nat):Int) 128=((m.1 % 128+128:Nat):Int):=by decide
theorem leb_byte (n:Nat) (h:n<18446744073709551616):bits .or .u64 (bits .and .u64 (n:Int) 127) 128 % 256=bits .or .u8 ((n:Int) % 256) 128:=by
 rw [and127 n h];have h1:=or128a ⟨n % 128,by omega⟩;have h2:=or128b ⟨n % 256,by omega⟩;simp only at h1 h2;rw [h1];have e:((n % 256:Nat):Int)=(n:Int) % 256:=(by omega);rw [←e,h2]
 congr 2
 omega
theorem ZaX {ops:Array Oper} {rest:List Oper} {o:Oper} {a:Act} {Q:Exit→Act→World→Prop} (hgd:o.guard=none) (s x:Operand)
  (ho:o.op=.call { callee:=.builtin .append,args:=#[s,x],argTypes:=#[22,22] })
  (base:Nat) (w0:World) (A:Option Addr) (c:Nat) (bs:List Int) (hB:BY w0 base A c bs) (hbase:base≤w0.heap.size) (hs:a.eval s=.slice A bs.length c)
  (n:Int) (c':Nat) (hx:a.eval x=.slice (some ⟨w0.heap.size,0,none⟩) 1 c') (hl:bs.length≤1000000000000)
  (h:∀ g cap w',BY w' base (some ⟨g,0,none⟩) cap (bs++[n])→Below base w0 w'→w0.grownBy w' (Value.slice A bs.length c).ownBlock→((Value.slice A bs.length c).ownBlock=some g∨w0.heap.size≤g)→wpList Try.prog ops Q rest (a.put o.dst (.slice (some ⟨g,0,none⟩) (bs.length+1) cap)) w') :
  wpList Try.prog ops Q (o :: rest) a (w0.alloc (.cells #[bv n] 5)):=by
 obtain⟨i,hi,hz,hsize,hby⟩:=info_parts Zed;have hba:Below w0.heap.size w0 (w0.alloc (.cells #[bv n] 5)):=(Below.refl _ _).alloc nR _;have hB':=hB.below hba
 refine wpList_append_lies _ hgd s x 22 ho base 5 i _ 1 1 Try.underlying22 hi hz hsize hby rfl (by decide) (.slice A bs.length c) bs.length (bs.map bv) hs hB' ⟨w0.heap.size,0,none⟩ 1 c' [bv n] hx rfl
  (World.news_of_block (heap_alloc_new w0 (.cells #[bv n] 5))) (fun u hu=>by simp at hu;subst hu;rfl) (by omega) (by unfold maxLen;omega) (by omega) (by simp;omega) (w0.heap.size+1) (World.size_alloc _ _) ?_
 intro g cap w' hown hg hat hlt;refine h g cap w' (by show w'.ownsRow base _ 1 (.slice _ (bs++[n]).length cap) (bs++[n]).length ((bs++[n]).map bv);rw [List.length_append,List.map_append];exact hown) ?_ ((World.grownBy_alloc w0 _ _).trans hg) (hat.imp id (fun e=>by omega));refine(hba.mono hbase).trans ⟨hg.os,hg.tape,hg.output,hg.size,fun b hb=>hg.block b (by simp;omega) (fun e=>?_)⟩;have:=ZaE hB e.symm;omega
def PutG (base:Nat) (O:Option Nat) (T:List Int) (w:World) (e:Ending) (w':World):Prop:=∃ A c,e=.returned (.slice A T.length c)∧BY w' base A c T∧Below base w w'∧w.grownBy w' O
theorem ZdE {w wr w':World} {O:Option Nat} {v:Value} (h:w.grownBy wr O) (hv:∀ q,v.ownBlock=some q→O=some q∨w.heap.size≤q) (h':wr.grownBy w' v.ownBlock):w.grownBy w' O :=
 ⟨h'.os.trans h.os,h'.tape.trans h.tape,h'.output.trans h.output,Nat.le_trans h.size h'.size,fun b hb hne=>(h'.block b (Nat.lt_of_lt_of_le hb h.size) (fun e=>by
  rcases hv b e.symm with h1 | h1
  · exact hne h1.symm
  · omega)).trans (h.block b hb hne)⟩
theorem Zdw (base:Nat) (A:Option Addr) (c:Nat) (bs:List Int) (n:Nat) (w:World) (h1:n<18446744073709551616) (hB:BY w base A c bs) (hbase:base≤w.heap.size) (hl:bs.length≤100000000) :
  Calls Try.prog 134 #[.slice A bs.length c,.int .u64 (n:Int)] w (PutG base (Value.slice A bs.length c).ownBlock (bs++lebF n) w):=by
 have HB:=hI hB;clear hB;obtain⟨T,hT⟩:∃ T,bs++lebF n=T:=⟨_,rfl⟩;have hTl:T.length≤100000010:=(by rw [←hT,List.length_append];have:=Zbl h1;omega);have HT:=hI hT;rw [hT];clear hT;obtain⟨O,hO⟩:∃ O,(Value.slice A bs.length c).ownBlock=O:=⟨_,rfl⟩;have HO:=hI hO;rw [hO];clear hO;go_enter Try.func134,Try.ntmps134
 go_wp2_with fail
 go_loopw [0,1] (fun b v wr=>∃ (A:Option Addr) (c:Nat) (bs:List Int) (n:Nat),b=.slice A bs.length c∧v=.int .u64 (n:Int)∧n<18446744073709551616∧bs++lebF n=T∧BY wr base A c bs∧Below base w wr∧w.grownBy wr O∧(∀ q,(Value.slice A bs.length c).ownBlock=some q→O=some q∨w.heap.size≤q)) (fun _ v _=>(intOf v).toNat)
 case atStart=>exact⟨A,c,bs,n,rfl,rfl,h1,HT.out,HB.out,Below.refl _ _,⟨rfl,rfl,rfl,Nat.le_refl _,fun _ _ _=>rfl⟩,fun q hq=>.inl (HO.out.symm.trans hq)⟩
 case round =>
  clear HB hl HT h1 HO;obtain⟨A,c,bs,n,rfl,rfl,h1,hT,hB,hb,hgr,hat⟩:=hrel;have HB:=hI hB;have HL:=hI hb;have HGR:=hI hgr;have HAT:=hI hat;have hsz:=hb.size;have hbl:bs.length≤100000010:=(by rw [←hT,List.length_append] at hTl;omega);have HT:=hI hT;clear hB hb hT hgr hat;rcases Nat.lt_or_ge n 128 with h8 | h8
  · have hd:decide ((128:Int)≤(n:Int))=false:=decide_eq_false (by omega);have hd2:decide ((n:Int)≥128)=false:=decide_eq_false (by omega)
    go_wp2_with (at_builtin;refine ZaX rfl (.tmp 16) (.tmp 19) rfl base _ A c bs HB.out (by omega) rfl _ _ rfl (by omega) ?_;intro g7 cap7 wl hB7 hb7 hg7 ha7;have HB7:=hI hB7;have HL7:=hI hb7;have HG7:=hI hg7;clear hB7 hb7 hg7 ha7)
    have e:T=bs++[(n:Int)]:=(by rw [←HT.out,lebF,if_pos h8]);subst e;go_ret;exact⟨some ⟨g7,0,none⟩,cap7,by simp,HB7.out,HL.out.trans (HL7.out),ZdE HGR.out HAT.out HG7.out⟩
  · have hd:decide ((128:Int)≤(n:Int))=true:=decide_eq_true (by omega);have hd2:decide ((n:Int)≥128)=true:=decide_eq_true (by omega);have HLB:=hI (leb_byte n h1)
    go_wp2_with (at_builtin;refine ZaX rfl (.tmp 7) (.tmp 12) rfl base _ A c bs HB.out (by omega) rfl _ _ rfl (by omega) ?_;intro g7 cap7 wl hB7 hb7 hg7 ha7;have HB7:=hI hB7;have HL7:=hI hb7;have HG7:=hI hg7;have HA7:=hI ha7;clear hB7 hb7 hg7 ha7)
    rw [HLB.out] at HB7;go_roundw
    case rel=>exact⟨some ⟨g7,0,none⟩,cap7,bs++[bits .or .u8 ((n:Int) % 256) 128],n / 128,by simp,by simp,by omega,by rw [←HT.out,List.append_assoc,List.singleton_append];congr 1;rw [lebF.eq_def n,if_neg (by omega)],HB7.out,HL.out.trans HL7.out,ZdE HGR.out HAT.out HG7.out,fun q hq=>by
     have hq':q=g7:=(by simpa [Value.ownBlock] using hq.symm);subst hq';have hsz9:=HGR.out.size;rcases HA7.out with h | h
     · exact HAT.out _ h
     · exact .inr (by omega)⟩
    case measure=>(simp [intOf];omega)
theorem rfresh_any (g c:Nat) (bs:List Int) (base:Nat) (w:World) (hB:BY w base (some ⟨g,0,none⟩) c bs) (hl:bs.length≤1000) (hl0:0<bs.length) :
  Calls Try.prog 135 #[.slice (some ⟨g,0,none⟩) bs.length c] w (PutP w.heap.size bs w):=by
 have HB:=hI hB;clear hB;obtain⟨i,hi,hz,hsize,hby⟩:=info_parts Zed
 have HSRC:=hI (show ∀ j v,(bs.map bv)[j]?=some v→w.cell? ((⟨g,0,none⟩:Addr).add j)=some v from fun j v hv=>by
  obtain⟨g',e,_,_,hc⟩:=Zbz HB.out hl0;injection e with e;injection e with e;subst e;have:=hc j v hv;rw [Zbm];simpa using this)
 go_enter Try.func135,Try.ntmps135
 go_wp2_with (at_builtin;refine Zak _ rfl (.const (.slice none 0 0)) (.tmp 3) 22 rfl w.heap.size 5 i _ 1 1 Try.underlying22 hi hz hsize hby rfl (by decide) (.slice none 0 0) 0 [] rfl (World.ownsRow_nil _ _ _ _) ⟨g,0,none⟩ bs.length c (bs.map bv) rfl (by simp) HSRC.out (fun v hv=>by obtain⟨n,_,rfl⟩:=List.mem_map.1 hv;rfl) (by unfold maxLen;omega) (by omega) (by omega) ?_;intro A1 c1 w1 hown1 hg1)
 rw [List.nil_append,Nat.zero_add] at hown1;go_ret;exact⟨A1,c1,by simp,hown1,(Below.refl _ _).grown hg1 nR (by simp [Value.ownBlock])⟩
theorem step_append_str {P:Program} {w:World} {ops:Array Oper} {o:Oper} {a:Act} {K:Act→World→Prop} {Q:Exit→Act→World→Prop} {E:Prop} (hgd:o.guard=none) (sl x:Operand) (t u:TypeId)
  (ho:o.op=.call { callee:=.builtin .append,args:=#[sl,x],argTypes:=#[t,u] })
  (base:Nat) (e:TypeId) (i:TypeInfo) (ht:P.underlying t=some (.slice e)) (hu:P.underlying u=some .string) (hi:P.info? e=some i) (hz:i.zero=some (.int .u8 0))
  (hsize:i.size=1) (hby:i.bytes=1)
  (v:Value) (n:Nat) (xs:List Value) (hs:a.eval sl=v) (hown:w.ownsRow base e 1 v n xs) (s:ByteArray) (hx:a.eval x=.string s)
  (h63:n+s.size≤maxLen) (hbytes:n+s.size≤140737488355328) (hbase:base≤w.heap.size)
  (h:∀ v' w',w'.ownsRow base e 1 v' (n+s.size) (xs++Go.Lib.strCells s)→w.grownBy w' v.ownBlock→K (a.put o.dst v') w') :
  if Region.wanted o (yielded ops a.tmps)=true then Oper.wp P o a w K Q else E:=by
 have hw:Region.wanted o (yielded ops a.tmps)=true:=(by simp [Region.wanted,hgd]);rw [if_pos hw];obtain⟨v',w',hr,h2,h3,h4⟩:=Go.Lib.run_append_own_string (P:=P) w base t u o.type e i ht hu hi hz hsize hby v n xs hown s h63 hbytes hbase;unfold Oper.wp execOp;simp only [ho,resolve,invoke,builtin,Sem.run_bind,Sem.run_pure,Result.andThen_ok,List.map_toArray,List.map_cons,List.map_nil,hs,hx,hr];exact h v' w' h2 h3
theorem wrap_twice (i:Int):IntKind.u64.wrap (IntKind.u64.wrap i*2)=IntKind.u64.wrap (wrap64 (i*2)):=by
 rw [IntKind.wrap_u64,IntKind.wrap_u64,IntKind.wrap_u64];unfold wrap64;simp [IntKind.wrap,IntKind.bits,IntKind.signed];omega
theorem rvalue_any (base:Nat) (A:Option Addr) (c:Nat) (bs:List Int) (v:V) (w:World) (hB:BY w base A c bs) (hbase:base≤w.heap.size) (hl:bs.length≤90000000) (ht:v.t.size≤64) :
  Calls Try.prog 136 #[.slice A bs.length c,vAgg v] w (PutP base (bs++valB v) w):=by
 have HB0:=hI hB;clear hB;obtain⟨k,i,t⟩:=v;simp only at ht HB0 ⊢;obtain⟨i0,hi0,hz9,hsize0,hby0⟩:=info_parts Zed;go_enter Try.func136,Try.ntmps136;have HVB:=hI (show valB ⟨k,i,t⟩=k % 256 :: (if k=3 then [i % 256] else if k=4 then lebF (zigF i) else if k=5 then lebF t.size++txtB t else []) by unfold valB;simp [IntKind.wrap,IntKind.bits,IntKind.signed]);go_upto_region 1 with fail
 obtain⟨W0,hW0⟩:∃ W0,w.alloc (.cells #[.int .i64 k,.int .i64 i,.string t] 51)=W0:=⟨_,rfl⟩;have X0:=hI (show W0.heap[w.heap.size]?=some (.cells #[.int .i64 k,.int .i64 i,.string t] 51 (0,0)) by rw [←hW0];exact heap_alloc_new w _);have hbW:Below w.heap.size w W0:=(by rw [←hW0];exact(Below.refl _ _).alloc nR _);have hz0:W0.heap.size≤w.heap.size+1∧w.heap.size+1≤W0.heap.size:=(by rw [←hW0];simp);have HB:=hI (HB0.out.below hbW);have HL0:=hI (hbW.mono hbase);have x0:W0.cell? ⟨w.heap.size,0,none⟩=some (.int .i64 k):=Zaa X0.out 0 _ rfl;rw [hW0];have HBw:=HB0;clear hW0 hbW HB0;go_upto_region 2 with (at_builtin;refine ZaX rfl (.tmp 5) (.tmp 9) rfl base _ A c bs HB.out (by omega) rfl _ _ rfl (by omega) ?_;intro g7 cap7 wl hB7 hb7 hg7 ha7;have HB7:=hI hB7;have HL7:=hI hb7;have HG7:=hI hg7;have HA7:=hI ha7;clear hB7 hb7 hg7 ha7)
 have HX:=hI ((HG7.out.block w.heap.size (by omega) (fun e=>by have:=ZaH HBw.out e.symm;omega)).trans X0.out);have hlw:w.heap.size<W0.heap.size:=(by omega);have x0:wl.cell? ⟨w.heap.size,0,none⟩=some (.int .i64 k):=Zaa HX.out 0 _ rfl;have x1:wl.cell? ⟨w.heap.size,1,none⟩=some (.int .i64 i):=Zaa HX.out 1 _ rfl;have x2:wl.cell? ⟨w.heap.size,2,none⟩=some (.string t):=Zaa HX.out 2 _ rfl;have hxl:w.heap.size<wl.heap.size:=Zag HX.out
 have HNE:=hI (show w.heap.size≠g7 from fun e=>by
  rcases HA7.out with h | h
  · have:=ZaH HBw.out h;omega
  · omega)
 obtain⟨T1,hT1⟩:∃ T1,bs++[k % 256]=T1:=⟨_,rfl⟩;have hlen:bs.length+1=T1.length:=(by rw [←hT1];simp);have hl1:T1.length≤90000001:=(by omega);rw [hT1] at HB7;rw [hlen];have HT1:=hI hT1;have HL:=hI (HL0.out.trans HL7.out);have hbl:base≤wl.heap.size:=(by have:=HG7.out.size;omega);clear hT1 hlen HB HL0 HL7 X0
 by_cases h3:k=3
 · subst h3
   go_wp2_with (at_builtin;refine ZaG rfl (.tmp 15) (.tmp 19) rfl base _ (some ⟨g7,0,none⟩) cap7 T1 HB7.out (by omega) rfl _ _ rfl (by omega) ?_;intro g8 cap8 wm hB8 hb8 hg8;have HB8:=hI hB8;have HL8:=hI hb8;clear hB8 hb8)
   go_wp2_with fail
   go_ret;have e:bs++valB ⟨3,i,t⟩=T1++[i % 256]:=(by rw [HVB.out,←HT1.out];simp);rw [e];exact⟨some ⟨g8,0,none⟩,cap8,by simp,HB8.out,HL.out.trans HL8.out⟩
 · have e3:(k == 3)=false:=by simpa using h3
   by_cases h4:k=4
   · subst h4;have hzr:=Zdt i
     have HZ:=hI (show bits .xor .u64 (IntKind.u64.wrap (IntKind.u64.wrap i*2)) (IntKind.u64.wrap (i / 9223372036854775808))=((zigF i:Nat):Int) by
      rw [wrap_twice];show zigI i=_;unfold zigF;omega)
     have hz2:zigF i<18446744073709551616:=(by unfold zigF;omega);clear hzr
     go_wp2_with fail
     rw [HZ.out];refine(Zdw base (some ⟨g7,0,none⟩) cap7 T1 (zigF i) wl hz2 HB7.out hbl (by omega)).mono ?_;rintro e wm ⟨A8,c8,rfl,hB8,hb8,-⟩;have HB8:=hI hB8;have HL8:=hI hb8;clear hB8 hb8
     go_wp2_with fail
     go_ret;have e:bs++valB ⟨4,i,t⟩=T1++lebF (zigF i):=(by rw [HVB.out,←HT1.out];simp);rw [e];exact⟨A8,c8,by simp,HB8.out,HL.out.trans HL8.out⟩
   · have e4:(k == 4)=false:=by simpa using h4
     by_cases h5:k=5
     · subst h5;have HTX:=hI (ZdS t);have HTL:=hI (Zel t);have HW64:=hI (show IntKind.u64.wrap (t.size:Int)=(t.size:Int) by rw [IntKind.wrap_u64];omega)
       go_wp2_with fail
       refine tS (fun w'=>w'.cell? ⟨w.heap.size,2,none⟩=some (.string t)) 10 10 fun Q' HQ HP=>?_;refine tX 0 36 1 37 2 38 3 39 (bA 10 15) HP.out x2 ?_;refine tW 4 40 6 42 (bA 10 95) HP.out x2 ?_;refine tJ 7 43 (bA 10 223) HP.out x2 ?_;refine tQ 5 (some 41) (bA 10 255) fun K HK=>?_;go_simp;rw [HW64.out];refine(Zdw base (some ⟨g7,0,none⟩) cap7 T1 t.size wl.drew (by omega) (BY.below HB7.out (Below.refl _ wl).drew) hbl (by omega)).mono ?_;rintro e wm ⟨A8,c8,rfl,hB8,hb8,hg8⟩;have HB8:=hI hB8;have HL8:=hI (show Below base wl wm from (Below.refl base wl).drew.trans hb8);have z2:wm.cell? ⟨w.heap.size,2,none⟩=some (.string t):=(hg8.cell_far ⟨w.heap.size,2,none⟩ hxl (fun e=>by have e':w.heap.size=g7:=(by simpa [Value.ownBlock] using e);exact HNE.out e')).trans x2;have HX8:=hI ((hg8.block w.heap.size hxl (fun e=>by have e':w.heap.size=g7:=(by simpa [Value.ownBlock] using e);exact HNE.out e')).trans HX.out);have hxl8:w.heap.size<wm.heap.size:=Zag HX8.out;have hs8:base≤wm.heap.size:=(by have:=hg8.size;simp at this;omega);have h10:=Zbl (n:=t.size) (by omega);obtain⟨T8,hT8⟩:∃ T8,T1++lebF t.size=T8:=⟨_,rfl⟩;have hl8:T8.length≤90000020:=(by rw [←hT8,List.length_append];omega);rw [hT8] at HB8;rw [hT8];have HT8:=hI hT8;clear hB8 hb8 hg8 hT8;refine HK.out _ _ (fun _=>z2) ?_;clear HK K
       try simp only [Act.put,psA,psB,psC]
       refine anyT_one (i:=8) (o:=⟨some 44,_,_,_,_,_⟩) (L':=(bA 10 511)) rfl (by kernel_rfl) (by kernel_rfl) (fun K hK=>?_);refine step_append_str (by rfl) (.tmp 41) (.tmp 43) 22 9 (by rfl) base 5 i0 Try.underlying22 Try.underlying9 hi0 hz9 hsize0 hby0 (.slice A8 T8.length c8) T8.length _ (by rfl) HB8.out t (by rfl) (by unfold maxLen;omega) (by omega) hs8 ?_;intro v9 w9 hB9 hg9
       have z9:=(hg9.cell_far ⟨w.heap.size,2,none⟩ hxl8 (fun e=>by
        obtain⟨_,cur,hq⟩:=ZcU HB8.out e.symm;have hq2:=HX8.out;rw [hq] at hq2;injection hq2 with hq2;injection hq2 with _ hq3 _;exact absurd hq3 (by decide))).trans z2
       obtain⟨A9,c9,rfl,hC9⟩:=BY.of_owns (T:=T8++txtB t) hB9 (by rw [List.length_append,HTL.out]) (by rw [List.map_append,HTX.out]);have HB9:=hI hC9;have HL9:=hI (show Below base wl w9 from HL8.out.trans ⟨hg9.os,hg9.tape,hg9.output,hg9.size,fun b hb=>hg9.block b (by omega) (fun e=>by have:=ZaE HB8.out e.symm;omega)⟩);clear hB9 hg9 hC9;refine hK _ _ (fun _=>z9) ?_;clear hK K
       try simp only [Act.put,psA,psB,psC]
       refine tJ 9 0 (bA 10 1023) HP.out z9 ?_;refine tE HQ ?_;clear HQ HP Q'
       go_wp2_with fail
       go_ret;have e:bs++valB ⟨5,i,t⟩=T1++lebF t.size++txtB t:=(by rw [HVB.out,←HT1.out];simp);rw [e];rw [HT8.out];exact⟨A9,c9,by simp,HB9.out,HL.out.trans HL9.out⟩
     · have e5:(k == 5)=false:=by simpa using h5
       go_wp2_with fail
       go_ret;have e:bs++valB ⟨k,i,t⟩=T1:=(by rw [HVB.out,if_neg h3,if_neg h4,if_neg h5,←HT1.out]);rw [e];exact⟨some ⟨g7,0,none⟩,cap7,rfl,HB7.out,HL.out⟩
theorem rappendRow_any (g c:Nat) (bs:List Int) (base:Nat) (A:Option Addr) (ck:Nat) (key:Row) (S:Nat→Prop) (w:World) (hB:BY w base (some ⟨g,0,none⟩) c bs) (hbase:base≤w.heap.size) (hl:bs.length≤1000) (hl0:0<bs.length)
  (hk:RowS w S A key) (hS:∀ b,S b→b<w.heap.size) (hv:∀ v ∈ key,Zai v=true) (hkl:key.length≤12) :
  Calls Try.prog 118 #[.slice (some ⟨g,0,none⟩) bs.length c,.slice A key.length ck] w (RowP (bs++rowB key) w):=by
 have HB:=hI hB;have HKY:=hI hk;have HV:=hI hv;have HFL:=hI (Zdr hv);have hd12:decide ((12:Int)<(key.length:Int))=false:=decide_eq_false (by omega);clear hB hk hv;go_enter Try.func118,Try.ntmps118
 go_wp2_with fail
 go_loopw [16] (fun i wr=>∃ k:Nat,k≤key.length∧i=.int .i64 k∧Below w.heap.size w wr) (fun i _=>key.length - (intOf i).toNat)
 case atStart=>exact⟨0,Nat.zero_le _,rfl,Below.refl _ _⟩
 case round =>
  obtain⟨k,hkk,rfl,hb⟩:=hrel;have HL:=hI hb;have hsz:=hb.size;clear hb
  by_cases hlt:k<key.length
  · have hdk:decide (k<key.length)=true:=(by simp [hlt]);have hk0:(0:Int)≤(k:Int):=(by omega);have hki:(k:Int)<key.length:=(by omega);have hvv:=HV.out (key.getD k v0) (by have e:key.getD k v0=key[k] :=(by simp [List.getD,hlt]);rw [e];exact List.getElem_mem hlt);obtain⟨b1,o1,rfl,hb1,c1,c2,c3⟩:=(HKY.out.keep (Same.of_below HL.out hS)).at_ hlt;have hlb:b1<wr.heap.size:=(by have:=hS b1 hb1;omega);have htx:=Zbv hvv;have HVV:=hI hvv;clear hvv;generalize key.getD k v0=x at c1 c2 c3 HVV htx;obtain⟨xk,xi,xt⟩:=x;simp only at c1 c2 c3 htx;go_upto_region 6 with fail
    obtain⟨W1,hW1⟩:∃ W1,wr.alloc (.cells #[.int .i64 xk,.int .i64 xi,.string xt] 51)=W1:=⟨_,rfl⟩;have X0:=hI (show W1.heap[wr.heap.size]?=some (.cells #[.int .i64 xk,.int .i64 xi,.string xt] 51 (0,0)) by rw [←hW1];exact heap_alloc_new wr _);have hbW:Below wr.heap.size wr W1:=(by rw [←hW1];exact(Below.refl _ _).alloc nR _);have hz1:W1.heap.size≤wr.heap.size+1∧wr.heap.size+1≤W1.heap.size:=(by rw [←hW1];simp);have x0:W1.cell? ⟨wr.heap.size,0,none⟩=some (.int .i64 xk):=Zaa X0.out 0 _ rfl;have x1:W1.cell? ⟨wr.heap.size,1,none⟩=some (.int .i64 xi):=Zaa X0.out 1 _ rfl;have x2:W1.cell? ⟨wr.heap.size,2,none⟩=some (.string xt):=Zaa X0.out 2 _ rfl;have HL1:=hI (HL.out.trans (hbW.mono hsz));rw [hW1];clear hW1 hbW c1 c2 c3 HL
    go_wp2_with fail
    refine(ZbG ⟨xk,xi,xt⟩ W1 (by show xt.size≤_;omega)).mono ?_;rintro e w2 ⟨rfl,hb2⟩;rw [HVV.out];have HL2:=hI (HL1.out.trans (hb2.mono (by omega)));clear hb2 x0 x1 x2 HL1 X0
    go_wp2_with fail
    go_roundw
    case rel=>exact⟨k+1,by omega,by go_num,HL2.out⟩
    case measure=>(simp [intOf];omega)
  · have hdk:decide (k<key.length)=false:=(by simp;omega);have hk9:k=key.length:=(by omega);have HB1:=hI (BY.below HB.out (HL.out.mono nR))
    go_wp2_with fail
    refine(rfresh_any g c bs base wr HB1.out hl hl0).mono ?_;rintro e w1 ⟨A1,c1,rfl,hB1,hb1⟩;have HB1:=hI (hB1.low hsz);have HL1:=hI (HL.out.trans (hb1.mono hsz));have hs1:=hb1.size;clear hB1 hb1 HL
    go_wp2_with fail
    refine(Zdw w.heap.size A1 c1 bs key.length w1 (by omega) HB1.out (by omega) (by omega)).mono ?_;rintro e w2 ⟨A2,c2,rfl,hB2,hb2,-⟩;have HB2:=hI hB2;have HL2:=hI (HL1.out.trans hb2);have hs2:=hb2.size;have h10:=Zbl (n:=key.length) (by omega);clear hB2 hb2 HL1 HB1
    go_wp2_with fail
    go_loopw [8,32] (fun o i wr=>∃ (k:Nat) (A:Option Addr) (c:Nat) (T:List Int),k≤key.length∧o=.slice A T.length c∧i=.int .i64 k∧T=bs++lebF key.length++(key.take k).flatMap valB∧BY wr w.heap.size A c T∧Below w.heap.size w wr) (fun _ i _=>key.length - (intOf i).toNat)
    case atStart=>exact⟨0,A2,c2,bs++lebF key.length,Nat.zero_le _,by simp,rfl,by simp,HB2.out,HL2.out⟩
    case round =>
     clear HB2 HL2 hs1 hs2 hsz;obtain⟨k,A3,c3,T,hkk,rfl,rfl,hT,hB3,hb3⟩:=hrel;have HB3:=hI hB3;have HL3:=hI hb3;have hs3:=hb3.size;have hTl:T.length≤3000:=(by rw [hT,List.length_append,List.length_append];have:=HFL.out k;omega);have HT:=hI hT;clear hB3 hb3 hT
     by_cases hlt:k<key.length
     · have hdk:decide (k<key.length)=true:=(by simp [hlt]);have hk0:(0:Int)≤(k:Int):=(by omega);have hki:(k:Int)<key.length:=(by omega);have hvv:=HV.out (key.getD k v0) (by have e:key.getD k v0=key[k] :=(by simp [List.getD,hlt]);rw [e];exact List.getElem_mem hlt);obtain⟨b1,o1,rfl,hb1,d1,d2,d3⟩:=(HKY.out.keep (Same.of_below HL3.out hS)).at_ hlt;have hlb:b1<wr.heap.size:=(by have:=hS b1 hb1;omega);have htx:=Zbv hvv;have HTT:=hI (show bs++lebF key.length++(key.take (k+1)).flatMap valB=T++valB (key.getD k v0) by rw [ZdG hlt,HT.out];simp);clear hvv;generalize key.getD k v0=x at d1 d2 d3 HTT htx;obtain⟨xk,xi,xt⟩:=x;simp only at d1 d2 d3 htx;go_upto_region 13 with fail
       obtain⟨W1,hW1⟩:∃ W1,wr.alloc (.cells #[.int .i64 xk,.int .i64 xi,.string xt] 51)=W1:=⟨_,rfl⟩;have X0:=hI (show W1.heap[wr.heap.size]?=some (.cells #[.int .i64 xk,.int .i64 xi,.string xt] 51 (0,0)) by rw [←hW1];exact heap_alloc_new wr _);have hbW:Below wr.heap.size wr W1:=(by rw [←hW1];exact(Below.refl _ _).alloc nR _);have hz1:W1.heap.size≤wr.heap.size+1∧wr.heap.size+1≤W1.heap.size:=(by rw [←hW1];simp);have x0:W1.cell? ⟨wr.heap.size,0,none⟩=some (.int .i64 xk):=Zaa X0.out 0 _ rfl;have x1:W1.cell? ⟨wr.heap.size,1,none⟩=some (.int .i64 xi):=Zaa X0.out 1 _ rfl;have x2:W1.cell? ⟨wr.heap.size,2,none⟩=some (.string xt):=Zaa X0.out 2 _ rfl;have HB4:=hI (HB3.out.below hbW);have HL4:=hI (HL3.out.trans (hbW.mono hs3));rw [hW1];clear hW1 hbW d1 d2 d3 HL3 HB3
       go_wp2_with fail
       refine(rvalue_any w.heap.size A3 c3 T ⟨xk,xi,xt⟩ W1 HB4.out (by omega) (by omega) htx).mono ?_;rintro e w5 ⟨A5,c5,rfl,hB5,hb5⟩;have HB5:=hI hB5;have HL5:=hI (HL4.out.trans hb5);clear hB5 hb5 HB4 HL4 x0 x1 x2 X0
       go_wp2_with fail
       go_roundw
       case rel=>exact⟨k+1,A5,c5,T++valB ⟨xk,xi,xt⟩,by omega,by simp,by go_num,HTT.out.symm,HB5.out,HL5.out⟩
       case measure=>(simp [intOf];omega)
     · have hdk:decide (k<key.length)=false:=(by simp;omega);have hk9:k=key.length:=(by omega);have HE:=hI (show bs++rowB key=T by rw [HT.out,hk9,List.take_length];unfold rowB;rw [List.append_assoc]);clear hk9
       go_wp2_with fail
       rw [HE.out];exact bodyPost_ret (v:=.tuple #[.slice A3 T.length c3,.int .i64 0]) (by simp [results,Try.results118,go_sem]) rfl ⟨A3,c3,rfl,HB3.out,HL3.out⟩
theorem rhash_any (t:Int) (A:Option Addr) (ck:Nat) (key:Row) (S:Nat→Prop) (w:World) (hk:RowS w S A key) (hS:∀ b,S b→b<w.heap.size) (hv:∀ v ∈ key,Zai v=true) (hkl:key.length≤12) :
  Calls Try.prog 96 #[.int .i64 t,.slice A key.length ck] w (fun e w'=>e=.returned (.int .u32 (ZcC 2166136261 ([t % 256]++rowB key)))∧Below w.heap.size w w'):=by
 have HKY:=hI hk;have HFL:=hI (Zdr hv);clear hk;go_enter Try.func96,Try.ntmps96
 go_wp2_with fail
 have hba:Below w.heap.size w (w.alloc (.cells #[bv (t % 256)] 5)):=(Below.refl _ _).alloc nR _;obtain⟨W0,hW0⟩:∃ W0,w.alloc (.cells #[bv (t % 256)] 5)=W0:=⟨_,rfl⟩;have HB0:=hI (show BY W0 w.heap.size (some ⟨w.heap.size,0,none⟩) 1 [t % 256] from ⟨rfl,.inr ⟨w.heap.size,1,#[bv (t % 256)],rfl,Nat.le_refl _,by rw [←hW0];exact heap_alloc_new w _,Nat.le_refl _,by unfold maxLen;omega,rfl,rfl⟩⟩);have hz0:W0.heap.size≤w.heap.size+1∧w.heap.size+1≤W0.heap.size:=(by rw [←hW0];simp);rw [hW0] at hba ⊢;clear hW0;have HL0:=hI hba;clear hba;refine(rappendRow_any w.heap.size 1 [t % 256] w.heap.size A ck key S W0 HB0.out (by omega) (by simp) (by simp) (HKY.out.keep (Same.of_below HL0.out hS)) (fun b hb=>by have:=hS b hb;omega) hv hkl).mono ?_;rintro e w1 ⟨A1,c1,rfl,hB1,hb1⟩;obtain⟨T,hT⟩:∃ T,[t % 256]++rowB key=T:=⟨_,rfl⟩
 have hTl:T.length≤3000:=by
  rw [←hT];unfold rowB;rw [List.length_append,List.length_append];have h9:=Zbl (n:=key.length) (by omega);have h8:=HFL.out key.length;rw [List.take_length] at h8;have h7:([t % 256]:List Int).length=1:=rfl;omega
 rw [hT] at hB1 ⊢;have HB1:=hI (hB1.low (base':=w.heap.size) (by omega));have HL1:=hI (HL0.out.trans (hb1.mono (by omega)));have HT:=hI hT;clear hB1 hb1 hT HB0 HL0
 go_wp2_with fail
 go_loopw [7,20] (fun h i wr=>∃ (k:Nat) (z:Int),k≤T.length∧h=.int .u32 z∧0≤z∧z<4294967296∧i=.int .i64 k∧ZcC z (T.drop k)=ZcC 2166136261 T∧wr=w1) (fun _ i _=>T.length - (intOf i).toNat)
 case atStart=>exact⟨0,2166136261,Nat.zero_le _,rfl,by omega,by omega,rfl,by simp,rfl⟩
 case round =>
  obtain⟨k,z,hkk,rfl,hz1,hz2,rfl,hZ,rfl⟩:=hrel;have HZ:=hI hZ;clear hZ
  by_cases hlt:k<T.length
  · have hdk:decide (k<T.length)=true:=(by simp [hlt]);have hk0:(0:Int)≤(k:Int):=(by omega);have hki:(k:Int)<T.length:=(by omega);obtain⟨g1,rfl,hg1,hg2,hc⟩:=Zbz HB1.out (by omega);have c0:wr.cell? ⟨g1,k,none⟩=some (.int .u8 (T.getD k 0)):=hc k _ (by simp [List.getElem?_eq_getElem hlt,List.getD]);clear hc;have HD:=hI (ZeO hlt z);generalize T.getD k 0=x at c0 HD
    go_wp2_with fail
    go_roundw
    case rel=>exact⟨k+1,bits .xor .u32 z (x % 4294967296)*16777619 % 4294967296,by omega,rfl,Int.emod_nonneg _ (by omega),Int.emod_lt_of_pos _ (by omega),by go_num,by rw [←HD.out];exact HZ.out,trivial⟩
    case measure=>(simp [intOf];omega)
  · have hdk:decide (k<T.length)=false:=(by simp;omega)
    have HE:=hI (show ZcC 2166136261 ([t % 256]++rowB key)=z by
     rw [HT.out];have h9:=HZ.out;rw [List.drop_of_length_le (by omega)] at h9;exact h9.symm)
    go_wp2_with fail
    go_ret;refine⟨?_,HL1.out⟩
    first
     | (rw [HE.out];rfl)
     | (rw [show ZcC 2166136261 (t % 256 :: rowB key)=z from HE.out];rfl)
     | (exact congrArg (fun q=>Ending.returned (Value.int .u32 q)) HE.out.symm)
theorem home_any (n t:Int) (A:Option Addr) (ck:Nat) (key:Row) (S:Nat→Prop) (w:World) (hn:1≤n) (hn4:n≤4)
  (hk:RowS w S A key) (hS:∀ b,S b→b<w.heap.size) (hv:∀ v ∈ key,Zai v=true) (hkl:key.length≤12) :
  Calls Try.prog 54 #[.int .i64 n,.int .i64 t,.slice A key.length ck] w (Zbg (ZbN n t key) w):=by
 have HKY:=hI hk;clear hk;go_enter Try.func54,Try.ntmps54
 go_wp2_with fail
 refine(rhash_any t A ck key S w HKY.out hS hv hkl).mono ?_;rintro e w1 ⟨rfl,hb1⟩;have HB1:=hI hb1;have HF:=hI (show ZbN n t key=ZcC 2166136261 ([t % 256]++rowB key) % n from rfl);have hr:=ZdD ([t % 256]++rowB key) 2166136261 (by omega) (by omega);clear hb1;generalize ZcC 2166136261 ([t % 256]++rowB key)=z at *;have hq1:0≤z % n:=Int.emod_nonneg _ (by omega);have hq2:z % n<n:=Int.emod_lt_of_pos _ (by omega)
 go_wp2_with fail
 go_ret;exact⟨by rw [HF.out];rfl,HB1.out⟩
theorem rbegin_any (A0:Option Addr) (c0':Nat) (s:Sch) (n:Int) (S:Nat→Prop) (w:World) (hs:TabS w S A0 s.tabs) (hS:∀ b,S b→b<w.heap.size) :
  Calls Try.prog 52 #[sAgg s.version A0 s.tabs.length c0',.int .i64 n] w (Zbg (Zbo s n) w):=by
 have hsl:=hs.len;have HS:=hI hs;clear hs;obtain⟨er,her⟩:∃ er,schF pcF s=er:=⟨_,rfl⟩;have HER:=hI her;have HF:=hI (show Zbo s n=if n<1∨4<n then 1 else er by unfold Zbo;rw [her]);clear her;have HB0:=hI ((Below.refl w.heap.size w).alloc nR (.cells #[.int .i64 s.version,.slice A0 s.tabs.length c0'] 25))
 by_cases h1:n<1
 · have hd1:decide (n<1)=true:=decide_eq_true h1;go_enter Try.func52,Try.ntmps52
   go_wp2_with fail
   go_ret;exact⟨by rw [HF.out,if_pos (.inl h1)];rfl,HB0.out⟩
 · have hd1:decide (n<1)=false:=decide_eq_false h1
   by_cases h4:4<n
   · have hd4:decide (4<n)=true:=decide_eq_true h4;go_enter Try.func52,Try.ntmps52
     go_wp2_with fail
     go_ret;exact⟨by rw [HF.out,if_pos (.inr h4)];rfl,HB0.out⟩
   · have hd4:decide (4<n)=false:=decide_eq_false h4;go_enter Try.func52,Try.ntmps52
     go_wp2_with fail
     refine(rschCheck_any A0 c0' s S _ (HS.out.keep (Same.of_below HB0.out hS)) (fun b hb=>by have:=hS b hb;simp;omega)).mono ?_;rintro e w1 ⟨rfl,hb1⟩;rw [HER.out];have HB1:=hI (HB0.out.trans (hb1.mono (by simp)));clear hb1
     go_wp2_with fail
     go_ret;exact⟨by rw [HF.out,if_neg (by omega)];rfl,HB1.out⟩
theorem isKey_any (A0:Option Addr) (c0':Nat) (s:Sch) (t:Int) (A:Option Addr) (ck:Nat) (key:Row) (S:Nat→Prop) (w:World) (hs:TabS w S A0 s.tabs) (hk:RowS w S A key) (hS:∀ b,S b→b<w.heap.size) :
  Calls Try.prog 53 #[sAgg s.version A0 s.tabs.length c0',.int .i64 t,.slice A key.length ck] w (Zaz (decide (KeyOk (ZbE s t) key)) w):=by
 have hsl:=hs.len;have hrl:=hk.len;have HS:=hI hs;have HK:=hI hk;clear hs hk;have HB0:=hI ((Below.refl w.heap.size w).alloc nR (.cells #[.int .i64 s.version,.slice A0 s.tabs.length c0'] 25));go_enter Try.func53,Try.ntmps53
 go_wp2_with fail
 refine(rkeyKinds_any A0 c0' s t S _ (HS.out.keep (Same.of_below HB0.out hS)) (fun b hb=>by have:=hS b hb;simp;omega)).mono ?_;rintro e w2 ⟨AK,cK,rfl,hK,hcK,-,hb2⟩;have HKS:=hI hK;have hcK':(ZbE s t).length≤cK:=hcK;have HB2:=hI (HB0.out.trans (hb2.mono (by simp)));have hw2:w.heap.size≤w2.heap.size:=HB2.out.size;have hkl:=hK.len;clear hK hcK hb2 HB0;generalize ZbE s t=ks at *
 by_cases hlen:key.length=ks.length
 · have hdl:((ks.length:Int) != (key.length:Int))=false:=(by simp [hlen]);have HLEN:=hI hlen;clear hlen
   go_wp2_with fail
   go_loopw [20] (fun i wr=>∃ k:Nat,k≤key.length∧i=.int .i64 k∧(∀ i,i<k→Zai (key.getD i v0)=true∧(key.getD i v0).k=ks.getD i 0)∧Below w2.heap.size w2 wr) (fun i _=>key.length - (intOf i).toNat)
   case atStart=>exact⟨0,Nat.zero_le _,rfl,fun i h=>absurd h (by omega),Below.refl _ _⟩
   case round =>
    obtain⟨k,hkk,rfl,hok,hb⟩:=hrel;have HOK:=hI hok;have HL:=hI hb;have hsz:=hb.size;clear hok hb
    by_cases hlt:k<key.length
    · have hdk:decide (k<key.length)=true:=(by simp [hlt]);have hk0:(0:Int)≤(k:Int):=(by omega);have hki:(k:Int)<key.length:=(by omega);have hkj:(k:Int)<ks.length:=(by have:=HLEN.out;omega);have hlt2:k<ks.length:=(by omega);obtain⟨b1,o1,rfl,hb1,c1,c2,c3⟩:=((HK.out.keep (Same.of_below HB2.out hS)).keep (Same.of_below HL.out (fun b hb=>by have:=hS b hb;omega))).at_ hlt;have hlb:b1<wr.heap.size:=(by have:=hS b1 hb1;omega);obtain⟨b4,o4,rfl,hb4,g1⟩:=(HKS.out.keep (Same.of_below HL.out (fun b hb=>hb.2))).at_ hlt2;have hlb4:b4<wr.heap.size:=(by have:=hb4.2;omega);have HX:=hI (show ∀ x,key.getD k v0=x→(KeyOk ks key→Zai x=true∧x.k=ks.getD k 0) from fun x hx h=>by rw [←hx];exact h.2 k hlt)
      have HY:=hI (show ∀ x,key.getD k v0=x→Zai x=true→x.k=ks.getD k 0→∀ i,i<k+1→Zai (key.getD i v0)=true∧(key.getD i v0).k=ks.getD i 0 from fun x hx h1 h2 i hi=>by
       rcases Nat.lt_or_ge i k with h | h
       · exact HOK.out i h
       · obtain rfl:i=k:=(by omega);rw [hx];exact⟨h1,h2⟩)
      have hxtS:=HK.out.ok.2 (key.getD k v0) (by
       have e:key.getD k v0=key[k]:=(by simp [List.getD,hlt]);rw [e];exact List.getElem_mem hlt)
      obtain⟨x,hx⟩:∃ x,key.getD k v0=x:=⟨_,rfl⟩;rw [hx] at c1 c2 c3 hxtS;have HXX:=hI (HX.out x hx);have HYY:=hI (HY.out x hx);clear hx HX HY;obtain⟨kd,hkd⟩:∃ kd,ks.getD k 0=kd:=⟨_,rfl⟩;rw [hkd] at g1;rw [hkd] at HXX HYY;clear hkd;obtain⟨xk,xi,xt⟩:=x;simp only at c1 c2 c3 hxtS;have HXT:=hI (show xt.size≤9223372036854775807 from hxtS);clear hxtS;go_upto_region 7 with fail
      obtain⟨W1,hW1⟩:∃ W1,wr.alloc (.cells #[.int .i64 xk,.int .i64 xi,.string xt] 51)=W1:=⟨_,rfl⟩;have X0:=hI (show W1.heap[wr.heap.size]?=some (.cells #[.int .i64 xk,.int .i64 xi,.string xt] 51 (0,0)) by rw [←hW1];exact heap_alloc_new wr _);have hbW:Below wr.heap.size wr W1:=(by rw [←hW1];exact(Below.refl _ _).alloc nR _);have hz1:W1.heap.size≤wr.heap.size+1∧wr.heap.size+1≤W1.heap.size:=(by rw [←hW1];simp);have hzw:wr.heap.size<W1.heap.size:=(by omega);have a0:W1.cell? ⟨wr.heap.size,0,none⟩=some (.int .i64 xk):=Zaa X0.out 0 _ rfl;have a1:W1.cell? ⟨wr.heap.size,1,none⟩=some (.int .i64 xi):=Zaa X0.out 1 _ rfl;have a2:W1.cell? ⟨wr.heap.size,2,none⟩=some (.string xt):=Zaa X0.out 2 _ rfl;have a3:=cQ hbW hlb4 g1;have HL1:=hI (HL.out.trans (hbW.mono hsz));rw [hW1];clear hW1 hbW c1 c2 c3 g1 HL X0
      by_cases hv:Zai ⟨xk,xi,xt⟩=true
      · by_cases hq:xk=kd
        · have hqd:(xk != kd)=false:=(by simp [hq]);have HNEXT:=hI (HYY.out hv hq);have HVV:=hI hv;clear hv hq HXX HYY HOK;refine tS (fun w'=>Below W1.heap.size W1 w'∧w'.cell? ⟨wr.heap.size,0,none⟩=some (.int .i64 xk)∧w'.cell? ⟨wr.heap.size,1,none⟩=some (.int .i64 xi)∧w'.cell? ⟨wr.heap.size,2,none⟩=some (.string xt)∧w'.cell? ⟨b4,o4+k,none⟩=some (.int .i64 kd)) 12 12 fun Q' HQ HP=>?_;refine tJ 0 25 (bA 12 1) HP.out ⟨(Below.refl _ _).drew,a0,a1,a2,a3⟩ ?_;refine tQ 1 (some 26) (bA 12 3) fun K HK=>?_;go_simp;refine(ZbG ⟨xk,xi,xt⟩ W1.drew HXT.out).mono ?_;rw [HVV.out];rintro e w3 ⟨rfl,hv1'⟩;have hv1:Below W1.heap.size W1 w3:=(Below.refl _ W1).drew.trans hv1';have p0:=cQ hv1 hzw a0;have p1:=cQ hv1 hzw a1;have p2:=cQ hv1 hzw a2;have p3:=cQ hv1 (Nat.lt_trans hlb4 hzw) a3;refine HK.out _ _ (fun _=>⟨hv1,p0,p1,p2,p3⟩) ?_;clear HK K
          try simp only [Act.put,psA,psB,psC]
          refine tX 2 27 3 28 4 29 5 30 (bA 12 63) HP.out ⟨hv1,p0,p1,p2,p3⟩ ?_;refine tX 6 31 7 32 8 33 9 34 (bA 12 1023) HP.out ⟨hv1,p0,p1,p2,p3⟩ ?_;refine tW 10 35 11 36 (bA 12 4095) HP.out ⟨hv1,p0,p1,p2,p3⟩ ?_;refine tE HQ ?_;clear HQ HP Q';have HB4:=hI (HL1.out.trans (hv1.mono (by omega)));clear hv1 p0 p1 p2 p3 a0 a1 a2 a3
          go_wp2_with fail
          go_roundw
          case rel=>exact⟨k+1,by omega,by go_num,HNEXT.out,HB4.out⟩
          case measure=>(simp [intOf];omega)
        · have hqd:(xk != kd)=true:=(by simp [hq]);have HF:=hI (show decide (KeyOk ks key)=false from decide_eq_false (fun h=>hq (HXX.out h).2));have HVV:=hI hv;clear hv hq HXX HYY HOK;refine tS (fun w'=>Below W1.heap.size W1 w'∧w'.cell? ⟨wr.heap.size,0,none⟩=some (.int .i64 xk)∧w'.cell? ⟨wr.heap.size,1,none⟩=some (.int .i64 xi)∧w'.cell? ⟨wr.heap.size,2,none⟩=some (.string xt)∧w'.cell? ⟨b4,o4+k,none⟩=some (.int .i64 kd)) 12 12 fun Q' HQ HP=>?_;refine tJ 0 25 (bA 12 1) HP.out ⟨(Below.refl _ _).drew,a0,a1,a2,a3⟩ ?_;refine tQ 1 (some 26) (bA 12 3) fun K HK=>?_;go_simp;refine(ZbG ⟨xk,xi,xt⟩ W1.drew HXT.out).mono ?_;rw [HVV.out];rintro e w3 ⟨rfl,hv1'⟩;have hv1:Below W1.heap.size W1 w3:=(Below.refl _ W1).drew.trans hv1';have p0:=cQ hv1 hzw a0;have p1:=cQ hv1 hzw a1;have p2:=cQ hv1 hzw a2;have p3:=cQ hv1 (Nat.lt_trans hlb4 hzw) a3;refine HK.out _ _ (fun _=>⟨hv1,p0,p1,p2,p3⟩) ?_;clear HK K
          try simp only [Act.put,psA,psB,psC]
          refine tX 2 27 3 28 4 29 5 30 (bA 12 63) HP.out ⟨hv1,p0,p1,p2,p3⟩ ?_;refine tX 6 31 7 32 8 33 9 34 (bA 12 1023) HP.out ⟨hv1,p0,p1,p2,p3⟩ ?_;refine tW 10 35 11 36 (bA 12 4095) HP.out ⟨hv1,p0,p1,p2,p3⟩ ?_;refine tE HQ ?_;clear HQ HP Q';have HB4:=hI (HB2.out.trans ((HL1.out.trans (hv1.mono (by omega))).mono (by omega)));clear hv1 p0 p1 p2 p3 a0 a1 a2 a3
          go_wp2_with fail
          go_ret;exact⟨by rw [HF.out];rfl,HB4.out⟩
      · have hv':Zai ⟨xk,xi,xt⟩=false:=(by simpa using hv);have HF:=hI (show decide (KeyOk ks key)=false from decide_eq_false (fun h=>hv (HXX.out h).1));have HVV:=hI hv';clear hv hv' HXX HYY HOK;refine tS (fun w'=>Below W1.heap.size W1 w'∧w'.cell? ⟨wr.heap.size,0,none⟩=some (.int .i64 xk)∧w'.cell? ⟨wr.heap.size,1,none⟩=some (.int .i64 xi)∧w'.cell? ⟨wr.heap.size,2,none⟩=some (.string xt)∧w'.cell? ⟨b4,o4+k,none⟩=some (.int .i64 kd)) 12 12 fun Q' HQ HP=>?_;refine tJ 0 25 (bA 12 1) HP.out ⟨(Below.refl _ _).drew,a0,a1,a2,a3⟩ ?_;refine tQ 1 (some 26) (bA 12 3) fun K HK=>?_;go_simp;refine(ZbG ⟨xk,xi,xt⟩ W1.drew HXT.out).mono ?_;rw [HVV.out];rintro e w3 ⟨rfl,hv1'⟩;have hv1:Below W1.heap.size W1 w3:=(Below.refl _ W1).drew.trans hv1';have p0:=cQ hv1 hzw a0;have p1:=cQ hv1 hzw a1;have p2:=cQ hv1 hzw a2;have p3:=cQ hv1 (Nat.lt_trans hlb4 hzw) a3;refine HK.out _ _ (fun _=>⟨hv1,p0,p1,p2,p3⟩) ?_;clear HK K
        try simp only [Act.put,psA,psB,psC]
        refine tW 2 27 3 28 (bA 12 15) HP.out ⟨hv1,p0,p1,p2,p3⟩ ?_;refine tK 4 29 (bA 12 31) HP.out ⟨hv1,p0,p1,p2,p3⟩ ?_;refine tK 5 30 (bA 12 63) HP.out ⟨hv1,p0,p1,p2,p3⟩ ?_;refine tK 6 31 (bA 12 127) HP.out ⟨hv1,p0,p1,p2,p3⟩ ?_;refine tK 7 32 (bA 12 255) HP.out ⟨hv1,p0,p1,p2,p3⟩ ?_;refine tK 8 33 (bA 12 511) HP.out ⟨hv1,p0,p1,p2,p3⟩ ?_;refine tK 9 34 (bA 12 1023) HP.out ⟨hv1,p0,p1,p2,p3⟩ ?_;refine tK 10 35 (bA 12 2047) HP.out ⟨hv1,p0,p1,p2,p3⟩ ?_;refine tJ 11 36 (bA 12 4095) HP.out ⟨hv1,p0,p1,p2,p3⟩ ?_;refine tE HQ ?_;clear HQ HP Q';have HB4:=hI (HB2.out.trans ((HL1.out.trans (hv1.mono (by omega))).mono (by omega)));clear hv1 p0 p1 p2 p3 a0 a1 a2 a3
        go_wp2_with fail
        go_ret;exact⟨by rw [HF.out];rfl,HB4.out⟩
    · have hdk:decide (k<key.length)=false:=(by simp;omega);have HF:=hI (show decide (KeyOk ks key)=true from decide_eq_true ⟨HLEN.out,fun i hi=>HOK.out i (by omega)⟩);have HB5:=hI (HB2.out.trans (HL.out.mono (by omega)))
      go_wp2_with fail
      go_ret;exact⟨by rw [HF.out];rfl,HB5.out⟩
 · have hdl:((ks.length:Int) != (key.length:Int))=true:=(by simp;omega);have HF:=hI (show decide (KeyOk ks key)=false from decide_eq_false (fun h=>hlen h.1))
   go_wp2_with fail
   go_ret;exact⟨by rw [HF.out];rfl,HB2.out⟩
theorem rof_any (A0:Option Addr) (c0':Nat) (s:Sch) (n t:Int) (A:Option Addr) (ck:Nat) (key:Row) (S:Nat→Prop) (w:World) (hs:TabS w S A0 s.tabs) (hk:RowS w S A key) (hS:∀ b,S b→b<w.heap.size) :
  Calls Try.prog 16 #[sAgg s.version A0 s.tabs.length c0',.int .i64 n,.int .i64 t,.slice A key.length ck] w (Zfx (ofF s n t key) w):=by
 have hsl:=hs.len;have hrl:=hk.len;have HS:=hI hs;have HK:=hI hk;clear hs hk;obtain⟨er,her⟩:∃ er,Zbo s n=er:=⟨_,rfl⟩;have HER:=hI her;have HOF:=hI (show ofF s n t key=if er≠0 then (0,er) else if hasN s.tabs.length t=false then (0,1) else if KeyOk (ZbE s t) key then (ZbN n t key,0) else (0,71) by unfold ofF;rw [her]);clear her;obtain⟨W0,hW0⟩:∃ W0,w.alloc (.cells #[.int .i64 s.version,.slice A0 s.tabs.length c0'] 25)=W0:=⟨_,rfl⟩;have HB0:=hI (show Below w.heap.size w W0 by rw [←hW0];exact(Below.refl w.heap.size w).alloc nR _);have hz0:W0.heap.size≤w.heap.size+1∧w.heap.size+1≤W0.heap.size:=(by rw [←hW0];simp);have SB:=hI (show W0.heap[w.heap.size]?=some (.cells #[.int .i64 s.version,.slice A0 s.tabs.length c0'] 25 (0,0)) by rw [←hW0];exact heap_alloc_new w _);have x0:W0.cell? ⟨w.heap.size,0,none⟩=some (.int .i64 s.version):=Zaa SB.out 0 _ rfl;have x1:W0.cell? ⟨w.heap.size,1,none⟩=some (.slice A0 s.tabs.length c0'):=Zaa SB.out 1 _ rfl;have hws:w.heap.size<W0.heap.size:=(by omega);go_enter Try.func16,Try.ntmps16
 go_wp2_with fail
 try rw [hW0]
 clear hW0;refine(rbegin_any A0 c0' s n S W0 (HS.out.keep (Same.of_below HB0.out hS)) (fun b hb=>by have:=hS b hb;omega)).mono ?_;rintro e w1 ⟨rfl,hb1⟩;rw [HER.out];have y0:=cQ hb1 hws x0;have y1:=cQ hb1 hws x1;have HB1:=hI (HB0.out.trans (hb1.mono (by omega)));have hw1:w.heap.size<w1.heap.size:=(by have:=hb1.size;omega);clear hb1 x0 x1 HB0 SB
 by_cases he:er=0
 · subst he;obtain⟨hn1,hn4,hsc⟩:=Zeo HER.out;have HSC:=hI hsc;clear hsc
   by_cases ht0:t<0
   · have hd1:decide (t<0)=true:=decide_eq_true ht0;have HF:=hI (show ofF s n t key=(0,1) by rw [HOF.out,if_neg (by simp),if_pos (by simp [hasN];omega)])
     go_wp2_with fail
     exact bodyPost_ret (v:=.tuple #[.int .i64 0,.int .i64 1]) (by simp [results,Try.results16,go_sem]) rfl ⟨by rw [HF.out],HB1.out⟩
   have hd1:decide (t<0)=false:=decide_eq_false ht0;obtain⟨tt,rfl⟩:=Int.eq_ofNat_of_zero_le (show 0≤t by omega)
   by_cases ht1:s.tabs.length≤tt
   · have hd2:decide (s.tabs.length≤tt)=true:=decide_eq_true ht1;have hd2':decide ((s.tabs.length:Int)≤(tt:Int))=true:=decide_eq_true (by omega);have HF:=hI (show ofF s n tt key=(0,1) by rw [HOF.out,if_neg (by simp),if_pos (by simp [hasN];omega)])
     go_wp2_with fail
     exact bodyPost_ret (v:=.tuple #[.int .i64 0,.int .i64 1]) (by simp [results,Try.results16,go_sem]) rfl ⟨by rw [HF.out],HB1.out⟩
   have hd2:decide (s.tabs.length≤tt)=false:=decide_eq_false ht1;have hd2':decide ((s.tabs.length:Int)≤(tt:Int))=false:=decide_eq_false (by omega);have htl:tt<s.tabs.length:=(by omega);have hk8:=ZeM htl HSC.out;have HOF2:=hI (show ofF s n tt key=if KeyOk (ZbE s tt) key then (ZbN n tt key,0) else (0,71) by rw [HOF.out,if_neg (by simp),if_neg (by simp [hasN];omega)]);clear HOF ht0 ht1
   go_wp2_with fail
   refine(isKey_any A0 c0' s tt A ck key S w1 (HS.out.keep (Same.of_below HB1.out hS)) (HK.out.keep (Same.of_below HB1.out hS)) (fun b hb=>by have:=hS b hb;omega)).mono ?_;rintro e w2 ⟨rfl,hb2⟩;have HB2:=hI (HB1.out.trans (hb2.mono (by omega)));have hw2:w1.heap.size≤w2.heap.size:=hb2.size;clear hb2 y0 y1 hd1 hd2 hd2'
   by_cases hko:KeyOk (ZbE s tt) key
   · have HF:=hI (show ofF s n tt key=(ZbN n tt key,0) by rw [HOF2.out,if_pos hko]);have HV:=hI hko.valid;have hkl:key.length≤12:=(by have:=hko.1;omega);rw [decide_eq_true hko];clear hko
     go_wp2_with fail
     refine(home_any n (tt:Int) A ck key S w2 hn1 hn4 (HK.out.keep (Same.of_below HB2.out hS)) (fun b hb=>by have:=hS b hb;omega) HV.out hkl).mono ?_;rintro e w5 ⟨rfl,hb5⟩;have HB5:=hI (HB2.out.trans (hb5.mono (by omega)));clear hb5
     go_wp2_with fail
     exact bodyPost_ret (v:=.tuple #[.int .i64 (ZbN n tt key),.int .i64 0]) (by simp [results,Try.results16,go_sem]) rfl ⟨by rw [HF.out],HB5.out⟩
   · have HF:=hI (show ofF s n tt key=(0,71) by rw [HOF2.out,if_neg hko]);rw [decide_eq_false hko];clear hko
     go_wp2_with fail
     exact bodyPost_ret (v:=.tuple #[.int .i64 0,.int .i64 71]) (by simp [results,Try.results16,go_sem]) rfl ⟨by rw [HF.out],HB2.out⟩
 · have hd0:(er != 0)=true:=(by simp [he]);have HF:=hI (show ofF s n t key=(0,er) by rw [HOF.out,if_pos he])
   go_wp2_with fail
   exact bodyPost_ret (v:=.tuple #[.int .i64 0,.int .i64 er]) (by simp [results,Try.results16,go_sem]) rfl ⟨by rw [HF.out],HB1.out⟩
end Go.Proofs.Ytkpjjfhfbpfjpaa
