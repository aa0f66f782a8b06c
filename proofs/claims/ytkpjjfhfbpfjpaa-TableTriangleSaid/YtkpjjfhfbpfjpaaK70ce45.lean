import Derived.Test.YtkpjjfhfbpfjpaaK42e91f
import Derived.Test.YtkpjjfhfbpfjpaaK7c2f3a
import Derived.Test.YtkpjjfhfbpfjpaaKffbf8f
import Derived.Test.YtkpjjfhfbpfjpaaK907fdd
import Derived.Test.YtkpjjfhfbpfjpaaKef29f4
import Derived.Test.YtkpjjfhfbpfjpaaK4e30bf
set_option linter.unusedVariables false
set_option linter.unusedSimpArgs false
set_option maxRecDepth 100000
set_option maxHeartbeats 8000000
namespace Go.Proofs.Ytkpjjfhfbpfjpaa
open Go.RowKit
theorem set_first {w:World} {g:Nat} {b b':Int} (hb:w.heap[g]?=some (.cells #[.int .i64 b] 3 (0,0))) (o:Obj) :
  ((w.setCell ⟨g,0,none⟩ (.int .i64 b')).alloc o).heap[g]?=some (.cells #[.int .i64 b'] 3 (0,0))∧w.grownBy ((w.setCell ⟨g,0,none⟩ (.int .i64 b')).alloc o) (some g):=by
 have hlt:g<(w.setCell ⟨g,0,none⟩ (.int .i64 b')).heap.size:=(by have:=Zad hb;simpa using this);refine⟨(Below.heap_alloc _ _ _ hlt).trans (by simp [World.setCell,Array.getElem?_modify,hb]),?_⟩;refine⟨rfl,rfl,rfl,by simp,fun k hk hne=>?_⟩;rw [Below.heap_alloc _ _ _ (by simpa using hk)];exact Below.heap_setCell w ⟨g,0,none⟩ _ k (fun e=>hne (by rw [e]))
theorem Zcc {l:List Pred} {k:Nat} {p:Pred} (hk:k<l.length) (e:l.getD k p0=p):SizeOf.sizeOf p<SizeOf.sizeOf l:=by
 subst e;have:l.getD k p0=l[k]:=(by simp [List.getD,hk]);rw [this];exact List.sizeOf_lt_of_mem (List.getElem_mem _)
theorem small_any:∀ (n:Nat) (op cmp:Int) (l r:Opd) (args:List Pred) (A:Option Addr) (c:Nat) (lv b:Int) (g:Nat) (S:Nat→Prop) (w:World),SizeOf.sizeOf (Pred.mk op cmp l r args)≤n→PredS w S A args→(∀ x,S x→x<w.heap.size∧x≠g)→w.heap[g]?=some (.cells #[.int .i64 b] 3 (0,0))→1≤lv→lv≤9→0≤b→b≤1000 →
  Calls Try.prog 129 #[pAgg op cmp l r A args.length c,.int .i64 lv,.pointer (some ⟨g,0,none⟩)] w (SmallPost g (smallP (.mk op cmp l r args) lv b) w):=by
 intro n;induction n with
 | zero=>intro op cmp l r args A c lv b g S w hn;simp at hn
 | succ n ih =>
  intro op cmp l r args A c lv b g S w hn hp hS hb hlv1 hlv2 hb0 hb1;have hgl:g<w.heap.size:=Zad hb;have hal:=hp.len;have HP:=hI hp;have IH:=hI ih;have HN:=hI (show SizeOf.sizeOf args≤n by simp at hn;omega);have HW:=hI (set_first (b':=b - 1) hb (.cells #[.int .i64 op,.int .i64 cmp,.int .i64 l.kind,.int .i64 l.index,.int .i64 l.value.k,.int .i64 l.value.i,.string l.value.t,.int .i64 r.kind,.int .i64 r.index,.int .i64 r.value.k,.int .i64 r.value.i,.string r.value.t,.slice A args.length c] 100));have g0:w.cell? ⟨g,0,none⟩=some (.int .i64 b):=(by simp [World.cell?,hb]);have gf:w.frozen? ⟨g,0,none⟩=false:=(by simp [World.frozen?,hb]);clear hp hb ih hn
  by_cases hs:b - 1<0
  · have HF:=hI (show smallP (.mk op cmp l r args) lv b=(false,b - 1) by unfold smallP;rw [if_pos (.inl hs)]);go_enter Try.func129,Try.ntmps129
    go_wp2_with fail
    go_ret;rw [HF.out];exact⟨rfl,HW.out.1,HW.out.2⟩
  · by_cases hv:8<lv
    · have HF:=hI (show smallP (.mk op cmp l r args) lv b=(false,b - 1) by unfold smallP;rw [if_pos (.inr hv)]);go_enter Try.func129,Try.ntmps129
      go_wp2_with fail
      go_ret;rw [HF.out];exact⟨rfl,HW.out.1,HW.out.2⟩
    · have HF:=hI (show smallP (.mk op cmp l r args) lv b=smallL args (lv+1) (b - 1) by unfold smallP;rw [if_neg (by omega)]);go_enter Try.func129,Try.ntmps129
      go_wp2_with fail
      go_loopw [25] (fun i wr=>∃ (k:Nat) (bk:Int),k≤args.length∧i=.int .i64 k∧smallL args (lv+1) (b - 1)=smallL (args.drop k) (lv+1) bk∧0≤bk∧bk≤1000∧wr.heap[g]?=some (.cells #[.int .i64 bk] 3 (0,0))∧w.grownBy wr (some g)) (fun i _=>args.length - (intOf i).toNat)
      case atStart=>exact⟨0,b - 1,Nat.zero_le _,rfl,by simp,by omega,by omega,HW.out.1,HW.out.2⟩
      case round =>
       obtain⟨k,bk,hk,rfl,ht,hk0,hk1,hbk,hg⟩:=hrel;have HT:=hI ht;have HBK:=hI hbk;have HG:=hI hg;have hsz:=hg.size;clear ht hbk hg g0 gf
       by_cases hkl:k<args.length
       · have HPS:=hI (HP.out.keep (Same.of_grown HG.out (fun x hx=>⟨(hS x hx).1,fun e=>(hS x hx).2 (Option.some.inj e)⟩)));obtain⟨b2,o2,rfl,hb2,op',cmp',lf,rt,args',A',c',hpe,hpa⟩:=HPS.out.at_ hkl;have HSTEP:=hI (smallL_drop args (lv+1) bk k hkl);rw [hpe] at HSTEP;have HSZ:=hI (Zcc hkl hpe);have HLE:=hI (smallP_le (.mk op' cmp' lf rt args') (lv+1) bk hk0);have f1:=hpa.fop;have f2:=hpa.fcmp;have f3:=hpa.lk;have f4:=hpa.li;have f6:=hpa.lvk;have f7:=hpa.lvi;have f8:=hpa.lvt;have f9:=hpa.rk;have f10:=hpa.ri;have f11:=hpa.rvk;have f12:=hpa.rvi;have f13:=hpa.rvt;have f5:=hpa.fargs;have HPA:=hI hpa.pS;have hl2:b2<wr.heap.size:=(by have:=(hS b2 hb2).1;omega);clear hpa hpe
         go_wp2_with fail
         refine(IH.out op' cmp' lf rt args' A' c' (lv+1) bk g S _ (by have:=HSZ.out;have:=HN.out;omega) (HPA.out.keep (fun x hx=>Below.heap_alloc _ _ _ (by have:=(hS x hx).1;omega))) (fun x hx=>⟨by have:=(hS x hx).1;simp;omega,(hS x hx).2⟩) ((Below.heap_alloc _ _ _ (by omega)).trans HBK.out) (by omega) (by omega) hk0 hk1).mono ?_;rintro e w2 ⟨rfl,hb3,hg3⟩;have HG3:=hI ((HG.out.trans (World.grownBy_alloc wr _ (some g))).trans hg3);have HB3:=hI hb3;clear hb3 hg3
         by_cases hr:(smallP (.mk op' cmp' lf rt args') (lv+1) bk).1=true
         · have HR:=hI hr;rw [hr];clear hr
           go_wp2_with fail
           go_roundw
           case rel=>exact⟨k+1,_,by omega,by go_num,by rw [HT.out,HSTEP.out,if_pos HR.out],HLE.out.2 HR.out,by have:=HLE.out.1;omega,HB3.out,HG3.out⟩
           case measure=>simp [intOf];omega
         · have HR:=hI (show (smallP (.mk op' cmp' lf rt args') (lv+1) bk).1=false by simpa using hr);rw [HR.out];clear hr
           go_wp2_with fail
           go_ret;rw [HF.out,HT.out,HSTEP.out,if_neg (by rw [HR.out];simp)];exact⟨rfl,HB3.out,HG3.out⟩
       · have HE:=hI (show smallL args (lv+1) (b - 1)=(true,bk) by rw [HT.out,show k=args.length by omega,List.drop_length];unfold smallL;rfl)
         go_wp2_with fail
         go_ret;rw [HF.out,HE.out];exact⟨rfl,HBK.out,HG.out⟩
theorem txt_nil (t:ByteArray):(t=⟨#[]⟩)=(t.toList=[]):=by
 apply propext;constructor
 · rintro rfl;rw [ByteArray.toList_eq]
 · intro h;cases t
   rw [ByteArray.toList_eq] at h;simpa using h
theorem v0_nil (a b:Int) (t:ByteArray):((⟨a,b,t⟩:V)=v0)=(a=0∧b=0∧t.toList=[]):=by rw [←txt_nil];simp
theorem ZbR (cmp l1 l2 l3 l4 r1 r2 r3 r4:Int) (l5 r5:ByteArray):Zdr cmp ⟨l1,l2,⟨l3,l4,l5⟩⟩ ⟨r1,r2,⟨r3,r4,r5⟩⟩=(decide (cmp=0)&&(decide (l1=0)&&decide (l2=0)&&decide (l3=0∧l4=0∧l5.toList=[]))&&(decide (r1=0)&&decide (r2=0)&&decide (r3=0∧r4=0∧r5.toList=[]))):=by
 simp only [Zdr,zeroO,v0_nil]
theorem ZcY {cols params:List Int} {op cmp:Int} {l r:Opd} {args:List Pred} (h:op=1∨op=2∨op=4∨op=5∨op=6) (hb:Zdr cmp l r=false):predOk cols params (.mk op cmp l r args)=false:=by
 unfold predOk;rcases h with rfl | rfl | rfl | rfl | rfl<;>simp [hb]
theorem ZcZ {cols params:List Int} {op cmp:Int} {l r:Opd} {args:List Pred} (h:op=1∧args.length=0∨op=2∧args.length=0∨op=4∨op=5∨op=6∧args.length=1) (hb:Zdr cmp l r=true):predOk cols params (.mk op cmp l r args)=predsOk cols params args:=by
 unfold predOk;rcases h with ⟨rfl,h0⟩ | ⟨rfl,h0⟩ | rfl | rfl | ⟨rfl,h0⟩
 · have:args=[]:=List.eq_nil_of_length_eq_zero h0;subst this;simp [hb,predsOk]
 · have:args=[]:=List.eq_nil_of_length_eq_zero h0;subst this;simp [hb,predsOk]
 · simp [hb]
 · simp [hb]
 · simp [hb,h0]
theorem ok_cmp {cols params:List Int} {cmp:Int} {l r:Opd} {args:List Pred}:predOk cols params (.mk 3 cmp l r args)=(decide (args.length=0)&&decide (1≤cmp)&&decide (cmp≤6)&&decide (Zai cols params l≠0)&&decide (Zai cols params l=Zai cols params r)):=by
 unfold predOk;rfl
theorem ok_else {cols params:List Int} {op cmp:Int} {l r:Opd} {args:List Pred} (h1:op≠1) (h2:op≠2) (h3:op≠3) (h4:op≠4) (h5:op≠5) (h6:op≠6):predOk cols params (.mk op cmp l r args)=false:=by
 unfold predOk;simp [h1,h2,h3,h4,h5,h6]
theorem Zhs {cols params:List Int} {op cmp:Int} {l r:Opd} {args:List Pred} (h:op=1∧args.length≠0∨op=2∧args.length≠0∨op=6∧args.length≠1):predOk cols params (.mk op cmp l r args)=false:=by
 unfold predOk;rcases h with ⟨rfl,h⟩ | ⟨rfl,h⟩ | ⟨rfl,h⟩<;>simp [h]
structure LK (w wr:World) (A1 A2:Option Addr) (n ca m cb:Nat):Prop where
 a:wr.cell? ⟨w.heap.size,0,none⟩=some (.slice A1 n ca)
 b:wr.cell? ⟨w.heap.size,1,none⟩=some (.slice A2 m cb)
 s:w.heap.size<wr.heap.size
theorem LK.below {w wr wx:World} {A1 A2:Option Addr} {n ca m cb:Nat} (h:LK w wr A1 A2 n ca m cb) (hb:Below wr.heap.size wr wx):LK w wx A1 A2 n ca m cb :=
 ⟨c9Q hb h.s h.a,c9Q hb h.s h.b,Nat.lt_of_lt_of_le h.s hb.size⟩
theorem ZdN (w:World) (A1 A2:Option Addr) (n ca m cb:Nat) (x:Unit) (o:Obj):LK w ((w.alloc (.cells #[.slice A1 n ca,.slice A2 m cb] 171)).alloc o) A1 A2 n ca m cb :=
 ⟨(Zah (by simp)).trans (Zae rfl rfl),(Zah (by simp)).trans (Zae rfl rfl),by simp;omega⟩
theorem valid_cmp (A1 A2:Option Addr) (ca cb:Nat) (cols params:List Int) (cmp:Int) (l r:Opd) (args:List Pred) (A:Option Addr) (c:Nat) (S:Nat→Prop) (w:World) (hA:IntS w S A1 cols) (hB:IntS w S A2 params) (hp:PredS w S A args) (hS:∀ x,S x→x<w.heap.size) (hcap:args.length≤c) (hlt:l.value.t.size≤9223372036854775807) (hrt:r.value.t.size≤9223372036854775807) :
  Calls Try.prog 130 #[kAgg A1 A2 cols.length params.length ca cb,pAgg 3 cmp l r A args.length c] w (ZaS (predOk cols params (.mk 3 cmp l r args)) w):=by
   obtain⟨l1,l2,⟨l3,l4,l5⟩⟩:=l;obtain⟨r1,r2,⟨r3,r4,r5⟩⟩:=r;simp only at hlt hrt;have hal:=hp.len;have hcl:=hA.len;have hpl:=hB.len;have HP:=hI hp;have HA1:=hI hA;have HA2:=hI hB;clear hp hA hB;have HB0:=hI (((Below.refl w.heap.size w).alloc nR (.cells #[.slice A1 cols.length ca,.slice A2 params.length cb] 171)).alloc (by simp) (.cells #[.int .i64 3,.int .i64 cmp,.int .i64 l1,.int .i64 l2,.int .i64 l3,.int .i64 l4,.string l5,.int .i64 r1,.int .i64 r2,.int .i64 r3,.int .i64 r4,.string r5,.slice A args.length c] 100));obtain⟨W,hW⟩:∃ W,(w.alloc (.cells #[.slice A1 cols.length ca,.slice A2 params.length cb] 171)).alloc (.cells #[.int .i64 3,.int .i64 cmp,.int .i64 l1,.int .i64 l2,.int .i64 l3,.int .i64 l4,.string l5,.int .i64 r1,.int .i64 r2,.int .i64 r3,.int .i64 r4,.string r5,.slice A args.length c] 100)=W:=⟨_,rfl⟩;have HBW:=hI (show Below w.heap.size w W by rw [←hW];exact HB0.out);have hzW:W.heap.size=w.heap.size+2:=(by rw [←hW];simp);have x0:W.cell? ⟨w.heap.size,0,none⟩=some (.slice A1 cols.length ca):=(by rw [←hW];exact(Zah (by simp)).trans (Zae rfl rfl));have x1:W.cell? ⟨w.heap.size,1,none⟩=some (.slice A2 params.length cb):=(by rw [←hW];exact(Zah (by simp)).trans (Zae rfl rfl));have y0:W.cell? ⟨w.heap.size+1,0,none⟩=some (.int .i64 3):=(by rw [←hW];exact Zae (by simp) rfl);have y1:W.cell? ⟨w.heap.size+1,1,none⟩=some (.int .i64 cmp):=(by rw [←hW];exact Zae (by simp) rfl);have y2:W.cell? ⟨w.heap.size+1,2,none⟩=some (.int .i64 l1):=(by rw [←hW];exact Zae (by simp) rfl);have y3:W.cell? ⟨w.heap.size+1,3,none⟩=some (.int .i64 l2):=(by rw [←hW];exact Zae (by simp) rfl);have y4:W.cell? ⟨w.heap.size+1,4,none⟩=some (.int .i64 l3):=(by rw [←hW];exact Zae (by simp) rfl);have y5:W.cell? ⟨w.heap.size+1,5,none⟩=some (.int .i64 l4):=(by rw [←hW];exact Zae (by simp) rfl);have y6:W.cell? ⟨w.heap.size+1,6,none⟩=some (.string l5):=(by rw [←hW];exact Zae (by simp) rfl);have y7:W.cell? ⟨w.heap.size+1,7,none⟩=some (.int .i64 r1):=(by rw [←hW];exact Zae (by simp) rfl);have y8:W.cell? ⟨w.heap.size+1,8,none⟩=some (.int .i64 r2):=(by rw [←hW];exact Zae (by simp) rfl);have y9:W.cell? ⟨w.heap.size+1,9,none⟩=some (.int .i64 r3):=(by rw [←hW];exact Zae (by simp) rfl);have y10:W.cell? ⟨w.heap.size+1,10,none⟩=some (.int .i64 r4):=(by rw [←hW];exact Zae (by simp) rfl);have y11:W.cell? ⟨w.heap.size+1,11,none⟩=some (.string r5):=(by rw [←hW];exact Zae (by simp) rfl);have y12:W.cell? ⟨w.heap.size+1,12,none⟩=some (.slice A args.length c):=(by rw [←hW];exact Zae (by simp) rfl);have hSW:∀ b,S b→b<W.heap.size:=(fun b hb=>by have:=hS b hb;omega);have HA1W:=hI (HA1.out.keep (Same.of_below HBW.out hS));have HA2W:=hI (HA2.out.keep (Same.of_below HBW.out hS));have hq0:w.heap.size<W.heap.size:=(by omega);have hq1:w.heap.size+1<W.heap.size:=(by omega);clear hzW;go_enter Try.func130,Try.ntmps130
   go_wp2_with fail
   clear hW
   go_region_held3 (fun w'=>Below W.heap.size W w'∧w'.cell? ⟨w.heap.size,0,none⟩=some (.slice A1 cols.length ca)∧w'.cell? ⟨w.heap.size,1,none⟩=some (.slice A2 params.length cb)∧w'.cell? ⟨w.heap.size+1,2,none⟩=some (.int .i64 l1)∧w'.cell? ⟨w.heap.size+1,3,none⟩=some (.int .i64 l2)∧w'.cell? ⟨w.heap.size+1,4,none⟩=some (.int .i64 l3)∧w'.cell? ⟨w.heap.size+1,5,none⟩=some (.int .i64 l4)∧w'.cell? ⟨w.heap.size+1,6,none⟩=some (.string l5)∧w'.cell? ⟨w.heap.size+1,7,none⟩=some (.int .i64 r1)∧w'.cell? ⟨w.heap.size+1,8,none⟩=some (.int .i64 r2)∧w'.cell? ⟨w.heap.size+1,9,none⟩=some (.int .i64 r3)∧w'.cell? ⟨w.heap.size+1,10,none⟩=some (.int .i64 r4)∧w'.cell? ⟨w.heap.size+1,11,none⟩=some (.string r5))
    (first | exact⟨(Below.refl _ _).drew,x0,x1,y2,y3,y4,y5,y6,y7,y8,y9,y10,y11⟩ | exact⟨hv2,c9Q hv2 hq0 x0,c9Q hv2 hq0 x1,c9Q hv2 hq1 y2,c9Q hv2 hq1 y3,c9Q hv2 hq1 y4,c9Q hv2 hq1 y5,c9Q hv2 hq1 y6,c9Q hv2 hq1 y7,c9Q hv2 hq1 y8,c9Q hv2 hq1 y9,c9Q hv2 hq1 y10,c9Q hv2 hq1 y11⟩ | exact⟨hv1,c9Q hv1 hq0 x0,c9Q hv1 hq0 x1,c9Q hv1 hq1 y2,c9Q hv1 hq1 y3,c9Q hv1 hq1 y4,c9Q hv1 hq1 y5,c9Q hv1 hq1 y6,c9Q hv1 hq1 y7,c9Q hv1 hq1 y8,c9Q hv1 hq1 y9,c9Q hv1 hq1 y10,c9Q hv1 hq1 y11⟩)
    (first
     | (go_at_call 142;have hvx:=hv1;clear hvx;refine(of_any A1 A2 ca cb cols params ⟨r1,r2,⟨r3,r4,r5⟩⟩ S _ (HA1W.out.keep (Same.of_below hv1 hSW)) (HA2W.out.keep (Same.of_below hv1 hSW)) (fun b hb=>Nat.lt_of_lt_of_le (hSW b hb) hv1.size) hrt).mono ?_;rintro e w6 ⟨rfl,hv2'⟩;have hv2:Below W.heap.size W w6:=hv1.trans (hv2'.mono hv1.size))
     | (go_at_call 142;refine(of_any A1 A2 ca cb cols params ⟨l1,l2,⟨l3,l4,l5⟩⟩ S W.drew (HA1W.out.keep (fun _ _=>rfl)) (HA2W.out.keep (fun _ _=>rfl)) hSW hlt).mono ?_;rintro e w5 ⟨rfl,hv1'⟩;have hv1:Below W.heap.size W w5:=(Below.refl _ W).drew.trans hv1'))
   have HB6:=hI (HBW.out.trans (hv2.mono (by omega)));have z1:=c9Q hv2 hq1 y1;have z12:=c9Q hv2 hq1 y12;have hq6:w.heap.size+1<w6.heap.size:=(by have:=hv2.size;omega);obtain⟨lk,hlk⟩:∃ lk,Zai cols params ⟨l1,l2,⟨l3,l4,l5⟩⟩=lk:=⟨_,rfl⟩;obtain⟨rk,hrk⟩:∃ rk,Zai cols params ⟨r1,r2,⟨r3,r4,r5⟩⟩=rk:=⟨_,rfl⟩;have HF:=hI (show predOk cols params (.mk 3 cmp ⟨l1,l2,⟨l3,l4,l5⟩⟩ ⟨r1,r2,⟨r3,r4,r5⟩⟩ args)=(decide (args.length=0)&&decide (1≤cmp)&&decide (cmp≤6)&&decide (lk≠0)&&decide (lk=rk)) by rw [ok_cmp,hlk,hrk]);rw [hlk,hrk];clear hv1 hv2 hv1' hv2' hlk hrk x0 x1 y0 y1 y2 y3 y4 y5 y6 y7 y8 y9 y10 y11 y12
   by_cases h0:args.length=0
   · have h0':((args.length:Int) == 0)=true:=(by simp [h0]);have H0:=hI h0;clear h0
     by_cases h1:1≤cmp
     · by_cases h6:cmp≤6
       · by_cases hl:lk=0
         · have hl':(lk != 0)=false:=(by simp [hl]);have HG:=hI (show (decide (args.length=0)&&decide (1≤cmp)&&decide (cmp≤6)&&decide (lk≠0)&&decide (lk=rk))=false by simp [hl]);clear hl
           go_wp2_with fail
           go_ret;exact⟨by rw [HF.out,HG.out];rfl,HB6.out⟩
         · have hl':(lk != 0)=true:=(by simp [hl]);have HG:=hI (show (decide (args.length=0)&&decide (1≤cmp)&&decide (cmp≤6)&&decide (lk≠0)&&decide (lk=rk))=(lk == rk) by simp [H0.out,hl,h1,h6];rfl);clear hl
           go_wp2_with fail
           go_ret;exact⟨by rw [HF.out,HG.out];rfl,HB6.out⟩
       · have HG:=hI (show (decide (args.length=0)&&decide (1≤cmp)&&decide (cmp≤6)&&decide (lk≠0)&&decide (lk=rk))=false by simp [h6]);have h6':decide (cmp≤6)=false:=decide_eq_false h6
         go_wp2_with fail
         go_ret;exact⟨by rw [HF.out,HG.out];rfl,HB6.out⟩
     · have HG:=hI (show (decide (args.length=0)&&decide (1≤cmp)&&decide (cmp≤6)&&decide (lk≠0)&&decide (lk=rk))=false by simp [h1]);have h1':decide (1≤cmp)=false:=decide_eq_false h1
       go_wp2_with fail
       go_ret;exact⟨by rw [HF.out,HG.out];rfl,HB6.out⟩
   · have h0':((args.length:Int) == 0)=false:=(by rw [beq_eq_false_iff_ne];omega);have HG:=hI (show (decide (args.length=0)&&decide (1≤cmp)&&decide (cmp≤6)&&decide (lk≠0)&&decide (lk=rk))=false by simp [h0]);clear h0
     go_wp2_with fail
     go_ret;exact⟨by rw [HF.out,HG.out];rfl,HB6.out⟩
theorem valid_p (A1 A2:Option Addr) (ca cb:Nat) (cols params:List Int):∀ (n:Nat) (op cmp:Int) (l r:Opd) (args:List Pred) (A:Option Addr) (c:Nat) (S:Nat→Prop) (w:World),SizeOf.sizeOf (Pred.mk op cmp l r args)≤n→IntS w S A1 cols→IntS w S A2 params→PredS w S A args→(∀ x,S x→x<w.heap.size)→args.length≤c→l.value.t.size≤9223372036854775807→r.value.t.size≤9223372036854775807 →
  Calls Try.prog 130 #[kAgg A1 A2 cols.length params.length ca cb,pAgg op cmp l r A args.length c] w (ZaS (predOk cols params (.mk op cmp l r args)) w):=by
 intro n;induction n with
 | zero=>intro op cmp l r args A c S w hn;simp at hn
 | succ n ih =>
  intro op cmp l r args A c S w hn hA hB hp hS hcap hlt hrt;obtain⟨l1,l2,⟨l3,l4,l5⟩⟩:=l;obtain⟨r1,r2,⟨r3,r4,r5⟩⟩:=r;simp only at hlt hrt;have hal:=hp.len;have hcl:=hA.len;have hpl:=hB.len;have HP:=hI hp;have HA1:=hI hA;have HA2:=hI hB;have IH:=hI ih;have HN:=hI (show SizeOf.sizeOf args≤n by simp at hn;omega);clear hp hA hB ih hn;have HB0:=hI (((Below.refl w.heap.size w).alloc nR (.cells #[.slice A1 cols.length ca,.slice A2 params.length cb] 171)).alloc (by simp) (.cells #[.int .i64 op,.int .i64 cmp,.int .i64 l1,.int .i64 l2,.int .i64 l3,.int .i64 l4,.string l5,.int .i64 r1,.int .i64 r2,.int .i64 r3,.int .i64 r4,.string r5,.slice A args.length c] 100))
  by_cases o3:op=3
  · subst o3;exact valid_cmp A1 A2 ca cb cols params cmp _ _ args A c S w HA1.out HA2.out HP.out hS hcap hlt hrt
  · have n3:(op == 3)=false:=beq_eq_false_iff_ne.2 o3
    by_cases o1:op=1
    · subst o1;clear o3
      by_cases h0:args.length=0
      · have h0':((args.length:Int) != 0)=false:=(by simp [h0]);go_enter Try.func130,Try.ntmps130
        go_wp2_with fail
        all_goals try (go_ret;exact⟨by rw [ZcY (cols:=cols) (params:=params) (args:=args) (.inl rfl) (by rw [ZbR];simp [*])];rfl,((Below.refl _ _).alloc nR _).alloc (by simp) _⟩)
        have HF:=hI (show predOk cols params (.mk 1 cmp ⟨l1,l2,⟨l3,l4,l5⟩⟩ ⟨r1,r2,⟨r3,r4,r5⟩⟩ args)=predsOk cols params args from ZcZ (.inl ⟨rfl,h0⟩) (by rw [ZbR];simp [*]))
        go_loopw [78] (fun i wr=>∃ k:Nat,k≤args.length∧i=.int .i64 k∧predsOk cols params args=predsOk cols params (args.drop k)∧Below w.heap.size w wr∧LK w wr A1 A2 cols.length ca params.length cb) (fun i _=>args.length - (intOf i).toNat)
        case atStart=>exact⟨0,Nat.zero_le _,rfl,by simp,((Below.refl _ _).alloc nR _).alloc (by simp) _,ZdN _ _ _ _ _ _ _ () _⟩
        case round =>
         obtain⟨k,hk,rfl,ht,hbel,hlk⟩:=hrel;have HT:=hI ht;have HB:=hI hbel;have hsz:=hbel.size;have HLK:=hI hlk;have q0:=hlk.a;have q1:=hlk.b;have q2:=hlk.s;clear ht hbel hlk
         by_cases hkl:k<args.length
         · omega
         · have HE:=hI (show predsOk cols params args=true by rw [HT.out,show k=args.length by omega,List.drop_length];unfold predsOk;rfl)
           go_wp2_with fail
           go_ret;exact⟨by rw [HF.out,HE.out];rfl,HB.out⟩
      · have h0':((args.length:Int) != 0)=true:=(by rw [bne_iff_ne];omega);have HF:=hI (show predOk cols params (.mk 1 cmp ⟨l1,l2,⟨l3,l4,l5⟩⟩ ⟨r1,r2,⟨r3,r4,r5⟩⟩ args)=false from Zhs (.inl ⟨rfl,h0⟩));go_enter Try.func130,Try.ntmps130
        go_wp2_with fail
        go_ret;exact⟨by rw [HF.out];rfl,HB0.out⟩
    · have n1:(op == 1)=false:=beq_eq_false_iff_ne.2 o1
      by_cases o2:op=2
      · subst o2;clear o3
        by_cases h0:args.length=0
        · have h0':((args.length:Int) != 0)=false:=(by simp [h0]);go_enter Try.func130,Try.ntmps130
          go_wp2_with fail
          all_goals try (go_ret;exact⟨by rw [ZcY (cols:=cols) (params:=params) (args:=args) (.inr (.inl rfl)) (by rw [ZbR];simp [*])];rfl,((Below.refl _ _).alloc nR _).alloc (by simp) _⟩)
          have HF:=hI (show predOk cols params (.mk 2 cmp ⟨l1,l2,⟨l3,l4,l5⟩⟩ ⟨r1,r2,⟨r3,r4,r5⟩⟩ args)=predsOk cols params args from ZcZ (.inr (.inl ⟨rfl,h0⟩)) (by rw [ZbR];simp [*]))
          go_loopw [78] (fun i wr=>∃ k:Nat,k≤args.length∧i=.int .i64 k∧predsOk cols params args=predsOk cols params (args.drop k)∧Below w.heap.size w wr∧LK w wr A1 A2 cols.length ca params.length cb) (fun i _=>args.length - (intOf i).toNat)
          case atStart=>exact⟨0,Nat.zero_le _,rfl,by simp,((Below.refl _ _).alloc nR _).alloc (by simp) _,ZdN _ _ _ _ _ _ _ () _⟩
          case round =>
           obtain⟨k,hk,rfl,ht,hbel,hlk⟩:=hrel;have HT:=hI ht;have HB:=hI hbel;have hsz:=hbel.size;have HLK:=hI hlk;have q0:=hlk.a;have q1:=hlk.b;have q2:=hlk.s;clear ht hbel hlk
           by_cases hkl:k<args.length
           · omega
           · have HE:=hI (show predsOk cols params args=true by rw [HT.out,show k=args.length by omega,List.drop_length];unfold predsOk;rfl)
             go_wp2_with fail
             go_ret;exact⟨by rw [HF.out,HE.out];rfl,HB.out⟩
        · have h0':((args.length:Int) != 0)=true:=(by rw [bne_iff_ne];omega);have HF:=hI (show predOk cols params (.mk 2 cmp ⟨l1,l2,⟨l3,l4,l5⟩⟩ ⟨r1,r2,⟨r3,r4,r5⟩⟩ args)=false from Zhs (.inr (.inl ⟨rfl,h0⟩)));go_enter Try.func130,Try.ntmps130
          go_wp2_with fail
          go_ret;exact⟨by rw [HF.out];rfl,HB0.out⟩
      · have n2:(op == 2)=false:=beq_eq_false_iff_ne.2 o2
        by_cases o6:op=6
        · subst o6;clear o3 o1 o2
          by_cases h0:args.length=1
          · have h0':((args.length:Int) != 1)=false:=(by simp [h0]);go_enter Try.func130,Try.ntmps130
            go_wp2_with fail
            all_goals try (go_ret;exact⟨by rw [ZcY (cols:=cols) (params:=params) (args:=args) (.inr (.inr (.inr (.inr rfl)))) (by rw [ZbR];simp [*])];rfl,((Below.refl _ _).alloc nR _).alloc (by simp) _⟩)
            have HF:=hI (show predOk cols params (.mk 6 cmp ⟨l1,l2,⟨l3,l4,l5⟩⟩ ⟨r1,r2,⟨r3,r4,r5⟩⟩ args)=predsOk cols params args from ZcZ (.inr (.inr (.inr (.inr ⟨rfl,h0⟩)))) (by rw [ZbR];simp [*]))
            go_loopw [78] (fun i wr=>∃ k:Nat,k≤args.length∧i=.int .i64 k∧predsOk cols params args=predsOk cols params (args.drop k)∧Below w.heap.size w wr∧LK w wr A1 A2 cols.length ca params.length cb) (fun i _=>args.length - (intOf i).toNat)
            case atStart=>exact⟨0,Nat.zero_le _,rfl,by simp,((Below.refl _ _).alloc nR _).alloc (by simp) _,ZdN _ _ _ _ _ _ _ () _⟩
            case round =>
             obtain⟨k,hk,rfl,ht,hbel,hlk⟩:=hrel;have HT:=hI ht;have HB:=hI hbel;have hsz:=hbel.size;have HLK:=hI hlk;have q0:=hlk.a;have q1:=hlk.b;have q2:=hlk.s;clear ht hbel hlk
             by_cases hkl:k<args.length
             · obtain⟨b2,o2,rfl,hb2,op',cmp',⟨m1,m2,⟨m3,m4,m5⟩⟩,⟨n1,n2,⟨n3,n4,n5⟩⟩,args',A',c',hpe,hpa⟩:=(HP.out.keep (Same.of_below HB.out hS)).at_ hkl;have HSTEP:=hI (ZbJ cols params args k hkl);rw [hpe] at HSTEP;have HSZ:=hI (Zcc hkl hpe);have f1:=hpa.fop;have f2:=hpa.fcmp;have f3:=hpa.lk;have f4:=hpa.li;have f5:=hpa.lvk;have f6:=hpa.lvi;have f7:=hpa.lvt;have f8:=hpa.rk;have f9:=hpa.ri;have f10:=hpa.rvk;have f11:=hpa.rvi;have f12:=hpa.rvt;have f13:=hpa.fargs;have HPA:=hI hpa;have hl2:b2<wr.heap.size:=(by have:=hS b2 hb2;omega);have hal':=hpa.pS.len;clear hpa hpe;simp only at f1 f2 f3 f4 f5 f6 f7 f8 f9 f10 f11 f12 f13
               go_wp2_with fail
               refine(IH.out op' cmp' ⟨m1,m2,⟨m3,m4,m5⟩⟩ ⟨n1,n2,⟨n3,n4,n5⟩⟩ args' A' c' S _ (by have:=HSZ.out;have:=HN.out;omega) (HA1.out.keep (fun x hx=>(Below.heap_alloc _ _ _ (by have:=hS x hx;omega)).trans (HB.out.block x (hS x hx)))) (HA2.out.keep (fun x hx=>(Below.heap_alloc _ _ _ (by have:=hS x hx;omega)).trans (HB.out.block x (hS x hx)))) (HPA.out.pS.keep (fun x hx=>Below.heap_alloc _ _ _ (by have:=hS x hx;omega))) (fun x hx=>by have:=hS x hx;simp;omega) HPA.out.pc HPA.out.lt HPA.out.rt).mono ?_;rintro e w2 ⟨rfl,hb3⟩;have HBR:=hI (show Below wr.heap.size wr w2 from ((Below.refl _ wr).alloc nR _).trans (hb3.mono (by simp)));clear hb3;obtain⟨bb,hbb⟩:∃ bb,predOk cols params (.mk op' cmp' ⟨m1,m2,⟨m3,m4,m5⟩⟩ ⟨n1,n2,⟨n3,n4,n5⟩⟩ args')=bb:=⟨_,rfl⟩;rw [hbb] at HSTEP ⊢;clear hbb;cases bb
               · go_wp2_with fail
                 go_ret;exact⟨by rw [HF.out,HT.out,HSTEP.out];rfl,HB.out.trans (HBR.out.mono hsz)⟩
               · go_wp2_with fail
                 go_roundw
                 case rel=>exact⟨k+1,by omega,by go_num,by rw [HT.out,HSTEP.out];rfl,HB.out.trans (HBR.out.mono hsz),HLK.out.below HBR.out⟩
                 case measure=>simp [intOf];omega
             · have HE:=hI (show predsOk cols params args=true by rw [HT.out,show k=args.length by omega,List.drop_length];unfold predsOk;rfl)
               go_wp2_with fail
               go_ret;exact⟨by rw [HF.out,HE.out];rfl,HB.out⟩
          · have h0':((args.length:Int) != 1)=true:=(by rw [bne_iff_ne];omega);have HF:=hI (show predOk cols params (.mk 6 cmp ⟨l1,l2,⟨l3,l4,l5⟩⟩ ⟨r1,r2,⟨r3,r4,r5⟩⟩ args)=false from Zhs (.inr (.inr ⟨rfl,h0⟩)));go_enter Try.func130,Try.ntmps130
            go_wp2_with fail
            go_ret;exact⟨by rw [HF.out];rfl,HB0.out⟩
        · have n6:(op == 6)=false:=beq_eq_false_iff_ne.2 o6
          by_cases o4:op=4
          · subst o4;clear o3 o1 o2 o6;go_enter Try.func130,Try.ntmps130
            go_wp2_with fail
            all_goals try (go_ret;exact⟨by rw [ZcY (cols:=cols) (params:=params) (args:=args) (.inr (.inr (.inl rfl))) (by rw [ZbR];simp [*])];rfl,((Below.refl _ _).alloc nR _).alloc (by simp) _⟩)
            have HF:=hI (show predOk cols params (.mk 4 cmp ⟨l1,l2,⟨l3,l4,l5⟩⟩ ⟨r1,r2,⟨r3,r4,r5⟩⟩ args)=predsOk cols params args from ZcZ (.inr (.inr (.inl rfl))) (by rw [ZbR];simp [*]))
            go_loopw [78] (fun i wr=>∃ k:Nat,k≤args.length∧i=.int .i64 k∧predsOk cols params args=predsOk cols params (args.drop k)∧Below w.heap.size w wr∧LK w wr A1 A2 cols.length ca params.length cb) (fun i _=>args.length - (intOf i).toNat)
            case atStart=>exact⟨0,Nat.zero_le _,rfl,by simp,((Below.refl _ _).alloc nR _).alloc (by simp) _,ZdN _ _ _ _ _ _ _ () _⟩
            case round =>
             obtain⟨k,hk,rfl,ht,hbel,hlk⟩:=hrel;have HT:=hI ht;have HB:=hI hbel;have hsz:=hbel.size;have HLK:=hI hlk;have q0:=hlk.a;have q1:=hlk.b;have q2:=hlk.s;clear ht hbel hlk
             by_cases hkl:k<args.length
             · obtain⟨b2,o2,rfl,hb2,op',cmp',⟨m1,m2,⟨m3,m4,m5⟩⟩,⟨n1,n2,⟨n3,n4,n5⟩⟩,args',A',c',hpe,hpa⟩:=(HP.out.keep (Same.of_below HB.out hS)).at_ hkl;have HSTEP:=hI (ZbJ cols params args k hkl);rw [hpe] at HSTEP;have HSZ:=hI (Zcc hkl hpe);have f1:=hpa.fop;have f2:=hpa.fcmp;have f3:=hpa.lk;have f4:=hpa.li;have f5:=hpa.lvk;have f6:=hpa.lvi;have f7:=hpa.lvt;have f8:=hpa.rk;have f9:=hpa.ri;have f10:=hpa.rvk;have f11:=hpa.rvi;have f12:=hpa.rvt;have f13:=hpa.fargs;have HPA:=hI hpa;have hl2:b2<wr.heap.size:=(by have:=hS b2 hb2;omega);have hal':=hpa.pS.len;clear hpa hpe;simp only at f1 f2 f3 f4 f5 f6 f7 f8 f9 f10 f11 f12 f13
               go_wp2_with fail
               refine(IH.out op' cmp' ⟨m1,m2,⟨m3,m4,m5⟩⟩ ⟨n1,n2,⟨n3,n4,n5⟩⟩ args' A' c' S _ (by have:=HSZ.out;have:=HN.out;omega) (HA1.out.keep (fun x hx=>(Below.heap_alloc _ _ _ (by have:=hS x hx;omega)).trans (HB.out.block x (hS x hx)))) (HA2.out.keep (fun x hx=>(Below.heap_alloc _ _ _ (by have:=hS x hx;omega)).trans (HB.out.block x (hS x hx)))) (HPA.out.pS.keep (fun x hx=>Below.heap_alloc _ _ _ (by have:=hS x hx;omega))) (fun x hx=>by have:=hS x hx;simp;omega) HPA.out.pc HPA.out.lt HPA.out.rt).mono ?_;rintro e w2 ⟨rfl,hb3⟩;have HBR:=hI (show Below wr.heap.size wr w2 from ((Below.refl _ wr).alloc nR _).trans (hb3.mono (by simp)));clear hb3;obtain⟨bb,hbb⟩:∃ bb,predOk cols params (.mk op' cmp' ⟨m1,m2,⟨m3,m4,m5⟩⟩ ⟨n1,n2,⟨n3,n4,n5⟩⟩ args')=bb:=⟨_,rfl⟩;rw [hbb] at HSTEP ⊢;clear hbb;cases bb
               · go_wp2_with fail
                 go_ret;exact⟨by rw [HF.out,HT.out,HSTEP.out];rfl,HB.out.trans (HBR.out.mono hsz)⟩
               · go_wp2_with fail
                 go_roundw
                 case rel=>exact⟨k+1,by omega,by go_num,by rw [HT.out,HSTEP.out];rfl,HB.out.trans (HBR.out.mono hsz),HLK.out.below HBR.out⟩
                 case measure=>simp [intOf];omega
             · have HE:=hI (show predsOk cols params args=true by rw [HT.out,show k=args.length by omega,List.drop_length];unfold predsOk;rfl)
               go_wp2_with fail
               go_ret;exact⟨by rw [HF.out,HE.out];rfl,HB.out⟩
          · have n4:(op == 4)=false:=beq_eq_false_iff_ne.2 o4
            by_cases o5:op=5
            · subst o5;clear o3 o1 o2 o6;go_enter Try.func130,Try.ntmps130
              go_wp2_with fail
              all_goals try (go_ret;exact⟨by rw [ZcY (cols:=cols) (params:=params) (args:=args) (.inr (.inr (.inr (.inl rfl)))) (by rw [ZbR];simp [*])];rfl,((Below.refl _ _).alloc nR _).alloc (by simp) _⟩)
              have HF:=hI (show predOk cols params (.mk 5 cmp ⟨l1,l2,⟨l3,l4,l5⟩⟩ ⟨r1,r2,⟨r3,r4,r5⟩⟩ args)=predsOk cols params args from ZcZ (.inr (.inr (.inr (.inl rfl)))) (by rw [ZbR];simp [*]))
              go_loopw [78] (fun i wr=>∃ k:Nat,k≤args.length∧i=.int .i64 k∧predsOk cols params args=predsOk cols params (args.drop k)∧Below w.heap.size w wr∧LK w wr A1 A2 cols.length ca params.length cb) (fun i _=>args.length - (intOf i).toNat)
              case atStart=>exact⟨0,Nat.zero_le _,rfl,by simp,((Below.refl _ _).alloc nR _).alloc (by simp) _,ZdN _ _ _ _ _ _ _ () _⟩
              case round =>
               obtain⟨k,hk,rfl,ht,hbel,hlk⟩:=hrel;have HT:=hI ht;have HB:=hI hbel;have hsz:=hbel.size;have HLK:=hI hlk;have q0:=hlk.a;have q1:=hlk.b;have q2:=hlk.s;clear ht hbel hlk
               by_cases hkl:k<args.length
               · obtain⟨b2,o2,rfl,hb2,op',cmp',⟨m1,m2,⟨m3,m4,m5⟩⟩,⟨n1,n2,⟨n3,n4,n5⟩⟩,args',A',c',hpe,hpa⟩:=(HP.out.keep (Same.of_below HB.out hS)).at_ hkl;have HSTEP:=hI (ZbJ cols params args k hkl);rw [hpe] at HSTEP;have HSZ:=hI (Zcc hkl hpe);have f1:=hpa.fop;have f2:=hpa.fcmp;have f3:=hpa.lk;have f4:=hpa.li;have f5:=hpa.lvk;have f6:=hpa.lvi;have f7:=hpa.lvt;have f8:=hpa.rk;have f9:=hpa.ri;have f10:=hpa.rvk;have f11:=hpa.rvi;have f12:=hpa.rvt;have f13:=hpa.fargs;have HPA:=hI hpa;have hl2:b2<wr.heap.size:=(by have:=hS b2 hb2;omega);have hal':=hpa.pS.len;clear hpa hpe;simp only at f1 f2 f3 f4 f5 f6 f7 f8 f9 f10 f11 f12 f13
                 go_wp2_with fail
                 refine(IH.out op' cmp' ⟨m1,m2,⟨m3,m4,m5⟩⟩ ⟨n1,n2,⟨n3,n4,n5⟩⟩ args' A' c' S _ (by have:=HSZ.out;have:=HN.out;omega) (HA1.out.keep (fun x hx=>(Below.heap_alloc _ _ _ (by have:=hS x hx;omega)).trans (HB.out.block x (hS x hx)))) (HA2.out.keep (fun x hx=>(Below.heap_alloc _ _ _ (by have:=hS x hx;omega)).trans (HB.out.block x (hS x hx)))) (HPA.out.pS.keep (fun x hx=>Below.heap_alloc _ _ _ (by have:=hS x hx;omega))) (fun x hx=>by have:=hS x hx;simp;omega) HPA.out.pc HPA.out.lt HPA.out.rt).mono ?_;rintro e w2 ⟨rfl,hb3⟩;have HBR:=hI (show Below wr.heap.size wr w2 from ((Below.refl _ wr).alloc nR _).trans (hb3.mono (by simp)));clear hb3;obtain⟨bb,hbb⟩:∃ bb,predOk cols params (.mk op' cmp' ⟨m1,m2,⟨m3,m4,m5⟩⟩ ⟨n1,n2,⟨n3,n4,n5⟩⟩ args')=bb:=⟨_,rfl⟩;rw [hbb] at HSTEP ⊢;clear hbb;cases bb
                 · go_wp2_with fail
                   go_ret;exact⟨by rw [HF.out,HT.out,HSTEP.out];rfl,HB.out.trans (HBR.out.mono hsz)⟩
                 · go_wp2_with fail
                   go_roundw
                   case rel=>exact⟨k+1,by omega,by go_num,by rw [HT.out,HSTEP.out];rfl,HB.out.trans (HBR.out.mono hsz),HLK.out.below HBR.out⟩
                   case measure=>simp [intOf];omega
               · have HE:=hI (show predsOk cols params args=true by rw [HT.out,show k=args.length by omega,List.drop_length];unfold predsOk;rfl)
                 go_wp2_with fail
                 go_ret;exact⟨by rw [HF.out,HE.out];rfl,HB.out⟩
            · have n5:(op == 5)=false:=beq_eq_false_iff_ne.2 o5;have HF:=hI (ok_else (cols:=cols) (params:=params) (cmp:=cmp) (l:=⟨l1,l2,⟨l3,l4,l5⟩⟩) (r:=⟨r1,r2,⟨r3,r4,r5⟩⟩) (args:=args) o1 o2 o3 o4 o5 o6);clear o1 o2 o3 o4 o5 o6;go_enter Try.func130,Try.ntmps130
              go_wp2_with fail
              go_ret;exact⟨by rw [HF.out];rfl,HB0.out⟩
theorem pcheck_any (K B:Option Addr) (ck cb:Nat) (ks ps:List Int) (op cmp:Int) (l r:Opd) (args:List Pred) (A:Option Addr) (c:Nat) (S:Nat→Prop) (w:World) (hK:IntS w S K ks) (hB:IntS w S B ps) (hp:PredS w S A args) (hS:∀ b,S b→b<w.heap.size) (hcap:args.length≤c) (hlt:l.value.t.size≤9223372036854775807) (hrt:r.value.t.size≤9223372036854775807) :
  Calls Try.prog 112 #[.slice K ks.length ck,.slice B ps.length cb,pAgg op cmp l r A args.length c] w (ZbV (pcFF ks ps (.mk op cmp l r args)) w):=by
 have hkl:=hK.len;have hbl:=hB.len;have hal:=hp.len;have HK:=hI hK;have HBB:=hI hB;have HP:=hI hp;clear hK hB hp;obtain⟨p,hpe⟩:∃ p,Pred.mk op cmp l r args=p:=⟨_,rfl⟩;have HPE:=hI hpe;rw [hpe];clear hpe;have hB1:Below w.heap.size w (w.alloc (.cells #[.int .i64 op,.int .i64 cmp,.int .i64 l.kind,.int .i64 l.index,.int .i64 l.value.k,.int .i64 l.value.i,.string l.value.t,.int .i64 r.kind,.int .i64 r.index,.int .i64 r.value.k,.int .i64 r.value.i,.string r.value.t,.slice A args.length c] 100)):=(Below.refl _ _).alloc nR _;have HB1:=hI hB1;have HBK:=hI (HK.out.keep (Same.of_below hB1 hS));have HBP:=hI (HBB.out.keep (Same.of_below hB1 hS));clear hB1;cases hk:ZaB ks with
 | false =>
  have HF:=hI (show pcFF ks ps p=1 by unfold pcFF;rw [if_pos (.inl hk)]);have HKK:=hI hk;clear hk;go_enter Try.func112,Try.ntmps112
  go_wp2_with fail
  refine(Zbv K ck ks S _ HBK.out).mono ?_;rintro e w1 ⟨rfl,rfl⟩;rw [HKK.out]
  go_wp2_with fail
  go_ret;exact⟨by rw [HF.out];rfl,HB1.out⟩
 | true =>
  have HKK:=hI hk;cases hq:ZaB ps with
  | false =>
   have HF:=hI (show pcFF ks ps p=1 by unfold pcFF;rw [if_pos (.inr hq)]);have HQQ:=hI hq;clear hk hq;go_enter Try.func112,Try.ntmps112
   go_wp2_with fail
   refine(Zbv K ck ks S _ HBK.out).mono ?_;rintro e w1 ⟨rfl,rfl⟩;rw [HKK.out]
   go_wp2_with fail
   refine(Zbv B cb ps S _ HBP.out).mono ?_;rintro e w1 ⟨rfl,rfl⟩;rw [HQQ.out]
   go_wp2_with fail
   go_ret;exact⟨by rw [HF.out];rfl,HB1.out⟩
  | true =>
   have HQQ:=hI hq;have HF0:=hI (show pcFF ks ps p=if (smallP p 1 24).1=false then 2 else if predOk ks ps p=false then 50 else 0 by unfold pcFF;rw [if_neg (by simp [hk,hq])]);clear hk hq;go_enter Try.func112,Try.ntmps112
   go_wp2_with fail
   refine(Zbv K ck ks S _ HBK.out).mono ?_;rintro e w1 ⟨rfl,rfl⟩;rw [HKK.out]
   go_wp2_with fail
   refine(Zbv B cb ps S _ HBP.out).mono ?_;rintro e w1 ⟨rfl,rfl⟩;rw [HQQ.out]
   go_wp2_with fail
   obtain⟨W2,hW2⟩:∃ W2,(w.alloc (.cells #[.int .i64 op,.int .i64 cmp,.int .i64 l.kind,.int .i64 l.index,.int .i64 l.value.k,.int .i64 l.value.i,.string l.value.t,.int .i64 r.kind,.int .i64 r.index,.int .i64 r.value.k,.int .i64 r.value.i,.string r.value.t,.slice A args.length c] 100)).alloc (.cells #[.int .i64 24] 3)=W2:=⟨_,rfl⟩;have hb2:Below w.heap.size w W2:=(by rw [←hW2];exact HB1.out.alloc (by simp) _);have hz2:W2.heap.size=w.heap.size+2:=(by rw [←hW2];simp)
   have hg2:W2.heap[w.heap.size+1]?=some (.cells #[.int .i64 24] 3 (0,0)):=by
    rw [←hW2];have h:=heap_alloc_new (w.alloc (.cells #[.int .i64 op,.int .i64 cmp,.int .i64 l.kind,.int .i64 l.index,.int .i64 l.value.k,.int .i64 l.value.i,.string l.value.t,.int .i64 r.kind,.int .i64 r.index,.int .i64 r.value.k,.int .i64 r.value.i,.string r.value.t,.slice A args.length c] 100)) (.cells #[.int .i64 24] 3);rwa [World.size_alloc] at h
   have hp2:W2.heap[w.heap.size]?=some (.cells #[.int .i64 op,.int .i64 cmp,.int .i64 l.kind,.int .i64 l.index,.int .i64 l.value.k,.int .i64 l.value.i,.string l.value.t,.int .i64 r.kind,.int .i64 r.index,.int .i64 r.value.k,.int .i64 r.value.i,.string r.value.t,.slice A args.length c] 100 (0,0)):=(by rw [←hW2];exact(Below.heap_alloc _ _ _ (by simp)).trans (heap_alloc_new w _));have HB2:=hI hb2;have hSM:=small_any (SizeOf.sizeOf (Pred.mk op cmp l r args)) op cmp l r args A c 1 24 (w.heap.size+1) S W2 nR (HP.out.keep (Same.of_below hb2 hS)) (fun x hx=>by have:=hS x hx;omega) hg2 (by omega) (by omega) (by omega) (by omega);rw [HPE.out] at hSM;have HP2:=hI hp2;have HW2:=hI hW2;clear hb2 hg2 hp2 hW2;change Calls Try.prog _ _ ((w.alloc (.cells #[.int .i64 op,.int .i64 cmp,.int .i64 l.kind,.int .i64 l.index,.int .i64 l.value.k,.int .i64 l.value.i,.string l.value.t,.int .i64 r.kind,.int .i64 r.index,.int .i64 r.value.k,.int .i64 r.value.i,.string r.value.t,.slice A args.length c] 100)).alloc (.cells #[.int .i64 24] 3)) _;rw [HW2.out];refine(show Calls _ _ _ _ _ from hSM).mono ?_;clear hSM;rintro e w3 ⟨rfl,-,hg3⟩;have HB3:=hI (show Below w.heap.size w w3 from HB2.out.grown hg3 (by omega) (fun g e=>by injection e with e;omega));have hp3:w3.heap[w.heap.size]?=some (.cells #[.int .i64 op,.int .i64 cmp,.int .i64 l.kind,.int .i64 l.index,.int .i64 l.value.k,.int .i64 l.value.i,.string l.value.t,.int .i64 r.kind,.int .i64 r.index,.int .i64 r.value.k,.int .i64 r.value.i,.string r.value.t,.slice A args.length c] 100 (0,0)):=(hg3.block _ (by omega) (by intro e;injection e with e;omega)).trans HP2.out;have y0:w3.cell? ⟨w.heap.size,0,none⟩=some (.int .i64 op):=Zaa hp3 0 _ rfl;have y1:w3.cell? ⟨w.heap.size,1,none⟩=some (.int .i64 cmp):=Zaa hp3 1 _ rfl;have y2:w3.cell? ⟨w.heap.size,2,none⟩=some (.int .i64 l.kind):=Zaa hp3 2 _ rfl;have y3:w3.cell? ⟨w.heap.size,3,none⟩=some (.int .i64 l.index):=Zaa hp3 3 _ rfl;have y4:w3.cell? ⟨w.heap.size,4,none⟩=some (.int .i64 l.value.k):=Zaa hp3 4 _ rfl;have y5:w3.cell? ⟨w.heap.size,5,none⟩=some (.int .i64 l.value.i):=Zaa hp3 5 _ rfl;have y6:w3.cell? ⟨w.heap.size,6,none⟩=some (.string l.value.t):=Zaa hp3 6 _ rfl;have y7:w3.cell? ⟨w.heap.size,7,none⟩=some (.int .i64 r.kind):=Zaa hp3 7 _ rfl;have y8:w3.cell? ⟨w.heap.size,8,none⟩=some (.int .i64 r.index):=Zaa hp3 8 _ rfl;have y9:w3.cell? ⟨w.heap.size,9,none⟩=some (.int .i64 r.value.k):=Zaa hp3 9 _ rfl;have y10:w3.cell? ⟨w.heap.size,10,none⟩=some (.int .i64 r.value.i):=Zaa hp3 10 _ rfl;have y11:w3.cell? ⟨w.heap.size,11,none⟩=some (.string r.value.t):=Zaa hp3 11 _ rfl;have y12:w3.cell? ⟨w.heap.size,12,none⟩=some (.slice A args.length c):=Zaa hp3 12 _ rfl;have hz3:w.heap.size<w3.heap.size:=(by have:=hg3.size;omega);clear hg3 hp3;cases hs:(smallP p 1 24).1 with
   | false =>
    have HF:=hI (show pcFF ks ps p=2 by rw [HF0.out,if_pos hs]);clear hs y0 y1 y2 y3 y4 y5 y6 y7 y8 y9 y10 y11 y12
    go_wp2_with fail
    go_ret;exact⟨by rw [HF.out];rfl,HB3.out⟩
   | true =>
    have HF1:=hI (show pcFF ks ps p=if predOk ks ps p=false then 50 else 0 by rw [HF0.out,if_neg (by simp [hs])]);clear hs;have hVA:=valid_p K B ck cb ks ps (SizeOf.sizeOf (Pred.mk op cmp l r args)) op cmp l r args A c S w3 nR (HK.out.keep (Same.of_below HB3.out hS)) (HBB.out.keep (Same.of_below HB3.out hS)) (HP.out.keep (Same.of_below HB3.out hS)) (fun x hx=>by have:=hS x hx;omega) hcap hlt hrt;rw [HPE.out] at hVA;have HVA:=hI hVA;clear hVA
    go_wp2_with fail
    refine(show Calls _ _ _ _ _ from HVA.out).mono ?_;rintro e w4 ⟨rfl,hb4⟩;have HB4:=hI (HB3.out.trans (hb4.mono (by omega)));clear hb4 y0 y1 y2 y3 y4 y5 y6 y7 y8 y9 y10 y11 y12;cases hv:predOk ks ps p with
    | false =>
     have HF:=hI (show pcFF ks ps p=50 by rw [HF1.out,if_pos hv]);clear hv
     go_wp2_with fail
     go_ret;exact⟨by rw [HF.out];rfl,HB4.out⟩
    | true =>
     have HF:=hI (show pcFF ks ps p=0 by rw [HF1.out,if_neg (by simp [hv])]);clear hv
     go_wp2_with fail
     go_ret;exact⟨by rw [HF.out];rfl,HB4.out⟩
theorem pred_calls (ks:List Int) (p:Pred):Zfr pcF ks p:=by
 intro K ck op cmp l r args A c S w hp hK hA hS hcap hlt hrt;subst hp;exact pcheck_any K none ck 0 ks [] op cmp l r args A c S w hK IntS.nil_ hA hS hcap hlt hrt
theorem ZdI (s:Sch):Zcu pcF s:=fun t _ p _=>pred_calls _ p
theorem infoO:(Try.prog.info? 98).map (fun i=>(i.zero,i.size,i.bytes))=some (some (.agg #[.int .i64 0,.int .i64 0,.int .i64 0,.int .i64 0,.string ⟨#[]⟩]),5,48):=by kernel_rfl
theorem encOpd_size (o:Opd):(ZbU o).size=5:=rfl
theorem encOpd_bytes (o:Opd):(ZbU o).bytes=48:=rfl
theorem ZeA (o:Opd):(ZbU o).Plain:=by simp [ZbU,encV,Dat.Plain,Dat.PlainAll,Value.oneCell']
theorem Zhi {w:World} {S:Nat→Prop} (k i vk vi:Int) (vt:ByteArray) (h:vt.size≤9223372036854775807):Dat.Vals w S (ZbU ⟨k,i,⟨vk,vi,vt⟩⟩) [.int .i64 k,.int .i64 i,.int .i64 vk,.int .i64 vi,.string vt]:=by
 simp only [ZbU,encV,Dat.Vals,Dat.ValsAll,Zbb,ZaQ];exact⟨[.int .i64 k],_,rfl,⟨rfl,trivial⟩,[.int .i64 i],_,rfl,⟨rfl,trivial⟩,[.int .i64 vk,.int .i64 vi,.string vt],[],rfl,⟨[.int .i64 vk],_,rfl,⟨rfl,trivial⟩,[.int .i64 vi],_,rfl,⟨rfl,trivial⟩,[.string vt],[],rfl,⟨rfl,h⟩,rfl⟩,rfl⟩
theorem Zac {w w1:World} {g n k:Nat} {v:Value} (hg:w.grownBy w1 (some g)) (hl:w.heap.size≤n):w.grownBy (w1.setCell ⟨n,k,none⟩ v) (some g) :=
 ⟨hg.os,hg.tape,hg.output,by have:=hg.size;simpa using this,fun b hb hne=>(Below.heap_setCell w1 ⟨n,k,none⟩ v b (by show b≠n;omega)).trans (hg.block b hb hne)⟩
def Zgn (cols params:List Int) (kd:Int) (o:Opd):Prop:=Zai cols params o=kd∧o.value.t.size≤64
theorem opd_col {cols params:List Int} {kd:Int} {k:Nat} (hk:k<cols.length) (h:cols.getD k 0=kd):Zgn cols params kd ⟨1,k,v0⟩:=by
 refine⟨?_,by show v0.t.size≤64;decide⟩;have h1:¬ ((k:Int)<0∨(cols.length:Int)≤k∨v0≠v0):=(by simp;omega);have e:Zai cols params ⟨1,k,v0⟩=if (k:Int)<0∨(cols.length:Int)≤k∨v0≠v0 then 0 else cols.getD (k:Int).toNat 0:=rfl;rw [e,if_neg h1,Int.toNat_natCast,h]
theorem opd_par {cols params:List Int} {kd:Int} {k:Nat} (hk:k<params.length) (h:params.getD k 0=kd):Zgn cols params kd ⟨2,k,v0⟩:=by
 refine⟨?_,by show v0.t.size≤64;decide⟩;have h1:¬ ((k:Int)<0∨(params.length:Int)≤k∨v0≠v0):=(by simp;omega);have e:Zai cols params ⟨2,k,v0⟩=if (k:Int)<0∨(params.length:Int)≤k∨v0≠v0 then 0 else params.getD (k:Int).toNat 0:=rfl;rw [e,if_neg h1,Int.toNat_natCast,h]
theorem Zer {v:V} (h:Zan v=true):v.t.size≤64:=by
 by_cases h1:v.t.size≤64
 · exact h1
 · exfalso;obtain⟨k,i,t⟩:=v;have ht:¬ t=⟨#[]⟩:=(by rintro rfl;exact h1 (by show (⟨#[]⟩:ByteArray).size≤64;decide));rw [txt_nil] at ht;simp only at h1;unfold Zan at h;have hd:decide ((t.size:Int)≤64)=false:=decide_eq_false (by omega)
   revert h
   simp only
   repeat' split
   all_goals simp_all
theorem Zeg {cols params:List Int} {kd:Int} {v:V} (hk:Zbd kd=true) (h:ZfT (Zda kd) v):Zgn cols params kd ⟨3,0,v⟩:=by
 have hkk:Zda kd=kd:=by
  simp only [Zbd,Bool.or_eq_true,decide_eq_true_eq] at hk;unfold Zda;rcases hk with (h | h) | h<;>simp [h]
 have h3:3≤kd∧kd≤5:=by
  simp only [Zbd,Bool.or_eq_true,decide_eq_true_eq] at hk;omega
 obtain⟨h1,h2⟩:=h;rw [hkk] at h2
 have hr:Zee v=true:=by
  unfold Zee;rw [h1,h2];simp;omega
 refine⟨?_,Zer h1⟩;unfold Zai;rw [if_pos rfl,if_neg (by simp [hr]),h2]
def OpdPost (cols params:List Int) (kd:Int) (w:World) (g:Nat) (e:Ending) (w':World):Prop:=∃ o:Opd,e=.returned (oAgg o)∧Zgn cols params kd o∧CaseOk w' g∧w.grownBy w' (some g)
structure OpI (w wr:World) (cols params:List Int) (kd:Int) (k:Nat) (A:Option Addr) (n c:Nat) (L:List Opd):Prop where
 mkl:Mk wr (w.heap.size+1) (fun _=>False) 98 5 (.slice A n c) (L.map ZbU)
 le:L.length≤k
 ok:∀ o ∈ L,Zgn cols params kd o
 bel:Below w.heap.size w wr
 res:wr.heap[w.heap.size]?=some (.cells #[.int .i64 0,.int .i64 0,.int .i64 0,.int .i64 0,.string ⟨#[]⟩] 98 (0,0))
theorem OpI.len {w wr:World} {cols params:List Int} {kd:Int} {k:Nat} {A:Option Addr} {n c:Nat} {L:List Opd} (h:OpI w wr cols params kd k A n c L):n=L.length:=by have:=h.mkl.len;simpa using this
theorem OpI.push {w wr wx:World} {cols params:List Int} {kd:Int} {k g:Nat} {A:Option Addr} {n c cap:Nat} {L:List Opd} {o:Opd} (h:OpI w wr cols params kd k A n c L) (hm:Mk wx (w.heap.size+1) (fun _=>False) 98 5 (.slice (some ⟨g,0,none⟩) (n+1) cap) (L.map ZbU++[ZbU o])) (hb:Below (w.heap.size+1) wr wx) (ho:Zgn cols params kd o):OpI w wx cols params kd (k+1) (some ⟨g,0,none⟩) (n+1) cap (L++[o]) :=
 ⟨by rw [List.map_append];exact hm,by have:=h.le;simp;omega,fun x hx=>by
  rcases List.mem_append.1 hx with hx | hx
  · exact h.ok x hx
  · rw [List.mem_singleton] at hx;rw [hx];exact ho,h.bel.trans (hb.mono (by omega)),(hb.block _ (by omega)).trans h.res⟩
theorem opd_at {w:World} {S:Nat→Prop} {A:Option Addr} {L:List Opd} (h:Sl w S A (L.map ZbU)) {k:Nat} (hk:k<L.length):∃ b off,A=some ⟨b,off,none⟩∧S b∧∃ ok oi vk vi vt,(⟨ok,oi,⟨vk,vi,vt⟩⟩:Opd) ∈ L∧w.cell? ⟨b,off+k*5,none⟩=some (.int .i64 ok)∧w.cell? ⟨b,off+k*5+1,none⟩=some (.int .i64 oi)∧w.cell? ⟨b,off+k*5+2,none⟩=some (.int .i64 vk)∧w.cell? ⟨b,off+k*5+3,none⟩=some (.int .i64 vi)∧w.cell? ⟨b,off+k*5+4,none⟩=some (.string vt):=by
 obtain⟨b,off,e,hb,h1⟩:=Sl.at_ encOpd_size ⟨0,0,v0⟩ h hk;have hm:L.getD k ⟨0,0,v0⟩ ∈ L:=(by simp [List.getD,hk]);generalize L.getD k ⟨0,0,v0⟩=q at h1 hm;obtain⟨ok,oi,⟨vk,vi,vt⟩⟩:=q;simp only [ZbU,encV,Dat.Held,Dat.HeldAll,Dat.size,Dat.sizes,and_true,Zbb,ZaQ,Nat.add_assoc,Nat.reduceAdd,Nat.add_zero] at h1;obtain⟨a1,a2,a3,a4,a5,-⟩:=h1;exact⟨b,off,e,hb,ok,oi,vk,vi,vt,hm,a1,by rw [Nat.add_assoc];exact a2,by rw [Nat.add_assoc];exact a3,by rw [Nat.add_assoc];exact a4,by rw [Nat.add_assoc];exact a5⟩
theorem put5 {w:World} {B:Nat} {t:TypeId} {x0 x1 x2 x3 x4 a b c d e:Value} (h:w.heap[B]?=some (.cells #[x0,x1,x2,x3,x4] t (0,0))):(((((w.setCell ⟨B,0,none⟩ a).setCell ⟨B,1,none⟩ b).setCell ⟨B,2,none⟩ c).setCell ⟨B,3,none⟩ d).setCell ⟨B,4,none⟩ e).heap[B]?=some (.cells #[a,b,c,d,e] t (0,0)):=by
 have h1:w.heap[B]?=some (.cells [x0,x1,x2,x3,x4].toArray t (0,0)):=h;have h2:=Zaf (k:=4) (v:=e) (Zaf (k:=3) (v:=d) (Zaf (k:=2) (v:=c) (Zaf (k:=1) (v:=b) (Zaf (k:=0) (v:=a) h1))));simpa using h2
theorem ZaY (g:Nat) (K B:Option Addr) (ck cb:Nat) (cols params:List Int) (kd:Int) (S:Nat→Prop) (w:World) (hK:IntS w S K cols) (hB:IntS w S B params) (hS:∀ b,S b→b<w.heap.size∧b≠g) (hl:cols.length≤100000) (hl2:params.length≤100000) (hkd:Zbd kd=true) (hc:CaseOk w g) :
  Calls Try.prog 105 #[.pointer (some ⟨g,0,none⟩),.slice K cols.length ck,.slice B params.length cb,.int .i64 kd] w (OpdPost cols params kd w g):=by
 obtain⟨i0,hi,hz0,hz1,hz2⟩:=info_parts infoO;have hgl:=hc.lt;have HK:=hI hK;have HBB:=hI hB;have HC:=hI hc;clear hK hB hc;have HS1:=hI (fun b (hb:S b)=>(hS b hb).1);have HI0:=hI (show OpI w (w.alloc (.cells #[.int .i64 0,.int .i64 0,.int .i64 0,.int .i64 0,.string ⟨#[]⟩] 98)) cols params kd 0 none 0 0 [] from ⟨Mk.start (fun _ h=>h.elim) (by simp) _ _,by simp,by simp,(Below.refl _ _).alloc nR _,heap_alloc_new w _⟩);go_enter Try.func105,Try.ntmps105
 go_wp2_with fail
 go_loopw [9,17] (fun l i wr=>∃ (k:Nat) (A:Option Addr) (n c:Nat) (L:List Opd),k≤cols.length∧i=.int .i64 k∧l=.slice A n c∧OpI w wr cols params kd k A n c L) (fun _ i _=>cols.length - (intOf i).toNat)
 case atStart=>exact⟨0,none,0,0,[],Nat.zero_le _,rfl,rfl,HI0.out⟩
 case round =>
  obtain⟨k,A,n,c,L,hk,rfl,rfl,hoi⟩:=hrel;have HOI:=hI hoi;have hsz:=hoi.mkl.hi;have hnl:=hoi.len;have hle:=hoi.le;have HNL:=hI hnl;have hnk:n≤k:=(by omega);clear hoi hnl hle
  by_cases hlt:k<cols.length
  · obtain⟨b1,o1,rfl,hb1,d1⟩:=(HK.out.keep (Same.of_below HOI.out.bel HS1.out)).at_ hlt;have hl1:b1<wr.heap.size:=(by have:=HS1.out b1 hb1;omega);obtain⟨x,hx⟩:∃ x,cols.getD k 0=x:=⟨_,rfl⟩;have HX:=hI hx;rw [hx] at d1;clear hx
    by_cases he:x=kd
    · subst he;have HO:=hI (opd_col (params:=params) hlt HX.out)
      go_wp2_with (at_builtin;refine Zap rfl (.tmp 25) (.tmp 28) 163 rfl (w.heap.size+1) (fun _=>False) 98 i0 _ 5 48 Try.underlying163 hi hz0 hz1 hz2 rfl (by decide) _ _ _ _ _ HOI.out.mkl rfl (ZbU ⟨1,k,v0⟩) #[.int .i64 1,.int .i64 k,.int .i64 0,.int .i64 0,.string ⟨#[]⟩] (Zhi _ _ _ _ _ (by decide)) (ZeA _) rfl 1 rfl (by omega) (by omega) ?_;intro g5 cap5 w5 hm5 hb5 hlt5;have HP5:=hI (HOI.out.push hm5 hb5 HO.out);clear hm5 hb5)
      go_roundw
      case rel=>exact⟨k+1,_,_,_,_,by omega,by go_num,rfl,HP5.out⟩
      case measure=>simp [intOf];omega
    · have hd:(x == kd)=false:=beq_eq_false_iff_ne.2 he;clear he
      go_wp2_with fail
      go_roundw
      case rel=>exact⟨k+1,_,_,_,_,by omega,by go_num,rfl,⟨HOI.out.mkl,by have:=HOI.out.le;omega,HOI.out.ok,HOI.out.bel,HOI.out.res⟩⟩
      case measure=>simp [intOf];omega
  · obtain rfl:k=cols.length:=by omega
    go_wp2_with fail
    go_loopw [9,33] (fun l i wr=>∃ (k:Nat) (A:Option Addr) (n c:Nat) (L:List Opd),k≤params.length∧i=.int .i64 k∧l=.slice A n c∧OpI w wr cols params kd (cols.length+k) A n c L) (fun _ i _=>params.length - (intOf i).toNat)
    case atStart=>exact⟨0,_,_,_,_,Nat.zero_le _,rfl,rfl,HOI.out⟩
    case round =>
     clear HOI HNL hnk hsz;obtain⟨k,A,n,c,L,hk,rfl,rfl,hoi⟩:=hrel;have HOI:=hI hoi;have hsz:=hoi.mkl.hi;have hnl:=hoi.len;have hle:=hoi.le;have HNL:=hI hnl;have hnk:n≤cols.length+k:=(by omega);clear hoi hnl hle
     by_cases hlt:k<params.length
     · obtain⟨b1,o1,rfl,hb1,d1⟩:=(HBB.out.keep (Same.of_below HOI.out.bel HS1.out)).at_ hlt;have hl1:b1<wr.heap.size:=(by have:=HS1.out b1 hb1;omega);obtain⟨x,hx⟩:∃ x,params.getD k 0=x:=⟨_,rfl⟩;have HX:=hI hx;rw [hx] at d1;clear hx
       by_cases he:x=kd
       · subst he;have HO:=hI (opd_par (cols:=cols) hlt HX.out)
         go_wp2_with (at_builtin;refine Zap rfl (.tmp 41) (.tmp 44) 163 rfl (w.heap.size+1) (fun _=>False) 98 i0 _ 5 48 Try.underlying163 hi hz0 hz1 hz2 rfl (by decide) _ _ _ _ _ HOI.out.mkl rfl (ZbU ⟨2,k,v0⟩) #[.int .i64 2,.int .i64 k,.int .i64 0,.int .i64 0,.string ⟨#[]⟩] (Zhi _ _ _ _ _ (by decide)) (ZeA _) rfl 1 rfl (by omega) (by omega) ?_;intro g5 cap5 w5 hm5 hb5 hlt5;have HP5:=hI (HOI.out.push hm5 hb5 HO.out);clear hm5 hb5)
         go_roundw
         case rel=>exact⟨k+1,_,_,_,_,by omega,by go_num,rfl,HP5.out⟩
         case measure=>simp [intOf];omega
       · have hd:(x == kd)=false:=beq_eq_false_iff_ne.2 he;clear he
         go_wp2_with fail
         go_roundw
         case rel=>exact⟨k+1,_,_,_,_,by omega,by go_num,rfl,⟨HOI.out.mkl,by have:=HOI.out.le;omega,HOI.out.ok,HOI.out.bel,HOI.out.res⟩⟩
         case measure=>simp [intOf];omega
     · have HCR:=hI (HC.out.keep (w':=wr) (fun b hb=>HOI.out.bel.block b (by omega)))
       go_wp2_with fail
       refine(ZaO g (n+1) _ (by omega) HCR.out).mono ?_;rintro e w1 ⟨r,rfl,h0,h1,-,hc1,hg1,hs1⟩;have HC1:=hI hc1;have HG1:=hI (show w.grownBy w1 (some g) from (Fr.of_below (X:=fun b=>b=g) HOI.out.bel).grown.trans hg1);have hr:=h1 (by omega);have hres:w1.heap[w.heap.size]?=some (.cells #[.int .i64 0,.int .i64 0,.int .i64 0,.int .i64 0,.string ⟨#[]⟩] 98 (0,0)):=(hg1.block _ (by omega) (by intro e;injection e with e;omega)).trans HOI.out.res;have HRES:=hI hres;have f0:w1.frozen? ⟨w.heap.size,0,none⟩=false:=(by simp [World.frozen?,hres]);have f1:w1.frozen? ⟨w.heap.size,1,none⟩=false:=(by simp [World.frozen?,hres]);have f2:w1.frozen? ⟨w.heap.size,2,none⟩=false:=(by simp [World.frozen?,hres]);have f3:w1.frozen? ⟨w.heap.size,3,none⟩=false:=(by simp [World.frozen?,hres]);have f4:w1.frozen? ⟨w.heap.size,4,none⟩=false:=(by simp [World.frozen?,hres]);have y0:w1.cell? ⟨w.heap.size,0,none⟩=some (.int .i64 0):=Zaa hres 0 _ rfl;have y1:w1.cell? ⟨w.heap.size,1,none⟩=some (.int .i64 0):=Zaa hres 1 _ rfl;have y2:w1.cell? ⟨w.heap.size,2,none⟩=some (.int .i64 0):=Zaa hres 2 _ rfl;have y3:w1.cell? ⟨w.heap.size,3,none⟩=some (.int .i64 0):=Zaa hres 3 _ rfl;have y4:w1.cell? ⟨w.heap.size,4,none⟩=some (.string ⟨#[]⟩):=Zaa hres 4 _ rfl;have hz1:w.heap.size<w1.heap.size:=(by omega);have HMK:=hI (HOI.out.mkl.keep (Zbp hg1) (fun b hb=>⟨by omega,fun h=>h⟩));clear hc1 hg1 h1 hres
       by_cases hrn:r<n
       · obtain⟨rk,rfl⟩:=Int.eq_ofNat_of_zero_le h0;have hrl:rk<L.length:=(by have:=HNL.out;omega);obtain⟨-,hnc,hsl⟩:=HMK.out.slice (by rw [Zag (n:=48) encOpd_bytes];have:=HNL.out;omega);obtain⟨b3,o3,rfl,hb3,ok,oi,vk,vi,vt,hmem,m0,m1,m2,m3,m4⟩:=opd_at hsl hrl;have HOK:=hI (HOI.out.ok _ hmem);have hl3:b3<w1.heap.size:=(by rcases hb3 with h | h;{ exact h.elim };exact h.2);have hne3:b3≠w.heap.size:=(by rcases hb3 with h | h;{ exact h.elim };have:=h.1;omega);clear hsl hmem hb3 h0 hnc
         go_wp2_with fail
         have hb5:=put5 (a:=.int .i64 ok) (b:=.int .i64 oi) (c:=.int .i64 vk) (d:=.int .i64 vi) (e:=.string vt) HRES.out;have u0:=Zaa hb5 0 _ rfl;have u1:=Zaa hb5 1 _ rfl;have u2:=Zaa hb5 2 _ rfl;have u3:=Zaa hb5 3 _ rfl;have u4:=Zaa hb5 4 _ rfl;exact bodyPost_ret (v:=.agg #[.int .i64 ok,.int .i64 oi,.int .i64 vk,.int .i64 vi,.string vt]) (by simp [results,Try.results105,go_sem,u0,u1,u2,u3,u4]) rfl ⟨⟨ok,oi,⟨vk,vi,vt⟩⟩,rfl,HOK.out,Zab (Zab (Zab (Zab (Zab HC1.out hgl) hgl) hgl) hgl) hgl,Zac (Zac (Zac (Zac (Zac HG1.out nR) nR) nR) nR) nR⟩
       · go_wp2_with fail
         refine(ZbC g kd _ HC1.out).mono ?_;rintro e w2 ⟨⟨vk,vi,vt⟩,rfl,hv,hc2,hg2⟩;have HO:=hI (Zeg (cols:=cols) (params:=params) hkd hv);have HC2:=hI hc2;have HG2:=hI (HG1.out.trans hg2);have hres:w2.heap[w.heap.size]?=some (.cells #[.int .i64 0,.int .i64 0,.int .i64 0,.int .i64 0,.string ⟨#[]⟩] 98 (0,0)):=(hg2.block _ (by omega) (by intro e;injection e with e;omega)).trans HRES.out;clear y0 y1 y2 y3 y4 f0 f1 f2 f3 f4;have HRES2:=hI hres;have f0:w2.frozen? ⟨w.heap.size,0,none⟩=false:=(by simp [World.frozen?,hres]);have f1:w2.frozen? ⟨w.heap.size,1,none⟩=false:=(by simp [World.frozen?,hres]);have f2:w2.frozen? ⟨w.heap.size,2,none⟩=false:=(by simp [World.frozen?,hres]);have f3:w2.frozen? ⟨w.heap.size,3,none⟩=false:=(by simp [World.frozen?,hres]);have f4:w2.frozen? ⟨w.heap.size,4,none⟩=false:=(by simp [World.frozen?,hres]);have y0:w2.cell? ⟨w.heap.size,0,none⟩=some (.int .i64 0):=Zaa hres 0 _ rfl;have y1:w2.cell? ⟨w.heap.size,1,none⟩=some (.int .i64 0):=Zaa hres 1 _ rfl;have y2:w2.cell? ⟨w.heap.size,2,none⟩=some (.int .i64 0):=Zaa hres 2 _ rfl;have y3:w2.cell? ⟨w.heap.size,3,none⟩=some (.int .i64 0):=Zaa hres 3 _ rfl;have y4:w2.cell? ⟨w.heap.size,4,none⟩=some (.string ⟨#[]⟩):=Zaa hres 4 _ rfl;have hz2':w.heap.size<w2.heap.size:=(by have:=hg2.size;omega);clear hv hc2 hg2 hres
         go_wp2_with fail
         have hb5:=put5 (a:=.int .i64 3) (b:=.int .i64 0) (c:=.int .i64 vk) (d:=.int .i64 vi) (e:=.string vt) HRES2.out;have u0:=Zaa hb5 0 _ rfl;have u1:=Zaa hb5 1 _ rfl;have u2:=Zaa hb5 2 _ rfl;have u3:=Zaa hb5 3 _ rfl;have u4:=Zaa hb5 4 _ rfl;exact bodyPost_ret (v:=.agg #[.int .i64 3,.int .i64 0,.int .i64 vk,.int .i64 vi,.string vt]) (by simp [results,Try.results105,go_sem,u0,u1,u2,u3,u4]) rfl ⟨⟨3,0,⟨vk,vi,vt⟩⟩,rfl,HO.out,Zab (Zab (Zab (Zab (Zab HC2.out hgl) hgl) hgl) hgl) hgl,Zac (Zac (Zac (Zac (Zac HG2.out nR) nR) nR) nR) nR⟩
end Go.Proofs.Ytkpjjfhfbpfjpaa
