import Derived.Test.YtkpjjfhfbpfjpaaK70ce45
set_option linter.unusedVariables false
set_option linter.unusedSimpArgs false
set_option maxRecDepth 100000
set_option maxHeartbeats 8000000
namespace Go.Proofs.Ytkpjjfhfbpfjpaa
open Go.RowKit
theorem rcolKind_any (k:Int) (w:World):Calls Try.prog 124 #[.int .i64 k] w (fun e w'=>e=.returned (.bool (Zbd k))∧w'=w):=by
 by_cases h3:k=3
 · subst h3;go_enter Try.func124,Try.ntmps124
   go_wp2_with fail
   go_ret;exact⟨rfl,rfl⟩
 · have e3:(k == 3)=false:=beq_eq_false_iff_ne.2 h3
   by_cases h4:k=4
   · subst h4;go_enter Try.func124,Try.ntmps124
     go_wp2_with fail
     go_ret;exact⟨rfl,rfl⟩
   · have e4:(k == 4)=false:=beq_eq_false_iff_ne.2 h4;have HF:=hI (show Zbd k=(k == 5) by unfold Zbd;simp [h3,h4];rfl);clear h3 h4;go_enter Try.func124,Try.ntmps124
     go_wp2_with fail
     go_ret;exact⟨by rw [HF.out];rfl,rfl⟩
theorem Zbi (A:Option Addr) (ca:Nat) (l:List Int) (S:Nat→Prop) (w:World) (h:IntS w S A l):Calls Try.prog 106 #[.slice A l.length ca] w (fun e w'=>e=.returned (.bool (ZaB l))∧w'=w):=by
 have hl:=h.len;have HI:=hI h;clear h;go_enter Try.func106,Try.ntmps106
 go_wp2_with fail
 go_loopw [7] (fun i wr=>∃ k:Nat,k≤l.length∧i=.int .i64 k∧ZaB l=ZaB (l.drop k)∧wr=w) (fun i _=>l.length - (intOf i).toNat)
 case atStart=>exact⟨0,Nat.zero_le _,rfl,by simp,rfl⟩
 case round =>
  obtain⟨k,hk,rfl,ht,rfl⟩:=hrel;have HT:=hI ht;clear ht
  by_cases hkl:k<l.length
  · obtain⟨b1,o1,rfl,hb1,d1⟩:=HI.out.at_ hkl;have HSTEP:=hI (Zev l k hkl);generalize l.getD k 0=x at d1 HSTEP
    go_wp2_with fail
    refine(rcolKind_any x _).mono ?_;rintro e w1 ⟨rfl,rfl⟩;obtain⟨bb,hbb⟩:∃ bb,Zbd x=bb:=⟨_,rfl⟩;rw [hbb] at HSTEP ⊢;clear hbb;cases bb
    · go_wp2_with fail
      go_ret;exact⟨by rw [HT.out,HSTEP.out];rfl,rfl⟩
    · go_wp2_with fail
      go_roundw
      case rel=>exact⟨k+1,by omega,by go_num,by rw [HT.out,HSTEP.out];rfl,trivial⟩
      case measure=>simp [intOf];omega
  · have HF:=hI (show ZaB l=true by rw [HT.out,show k=l.length by omega,List.drop_length];rfl)
    go_wp2_with fail
    go_ret;exact⟨by rw [HF.out];rfl,rfl⟩
theorem nodesP_range (p:Pred) (n:Int) (h0:0≤n) (h:n≤24):0≤nodesP p n∧nodesP p n≤25:=by
 have h2:=nodesP_spec p n h
 by_cases h3:cntP p+n≤24
 · rw [h2.1 h3];omega
 · rw [h2.2 (by omega)];omega
theorem rnodes_any:∀ (n:Nat) (op cmp:Int) (l r:Opd) (args:List Pred) (A:Option Addr) (c:Nat) (m:Int) (S:Nat→Prop) (w:World),SizeOf.sizeOf (Pred.mk op cmp l r args)≤n→PredS w S A args→(∀ x,S x→x<w.heap.size)→0≤m→m≤24 →
  Calls Try.prog 107 #[pAgg op cmp l r A args.length c,.int .i64 m] w (ZbV (nodesP (.mk op cmp l r args) m) w):=by
 intro n;induction n with
 | zero=>intro op cmp l r args A c m S w hn;simp at hn
 | succ n ih =>
  intro op cmp l r args A c m S w hn hp hS hm0 hm1;have hal:=hp.len;have HP:=hI hp;have IH:=hI ih;have HN:=hI (show SizeOf.sizeOf args≤n by simp at hn;omega);have HF:=hI (show nodesP (.mk op cmp l r args) m=nodesL args (m+1) by unfold nodesP;rfl);clear hp ih hn;have HB0:=hI ((Below.refl w.heap.size w).alloc nR (.cells #[.int .i64 op,.int .i64 cmp,.int .i64 l.kind,.int .i64 l.index,.int .i64 l.value.k,.int .i64 l.value.i,.string l.value.t,.int .i64 r.kind,.int .i64 r.index,.int .i64 r.value.k,.int .i64 r.value.i,.string r.value.t,.slice A args.length c] 100));go_enter Try.func107,Try.ntmps107
  go_wp2_with fail
  go_loopw [1,5] (fun v i wr=>∃ (k:Nat) (x:Int),k≤args.length∧i=.int .i64 k∧v=.int .i64 x∧0≤x∧x≤25∧nodesL args (m+1)=nodesL (args.drop k) x∧Below w.heap.size w wr∧wr.cell? ⟨w.heap.size,12,none⟩=some (.slice A args.length c)∧w.heap.size<wr.heap.size) (fun _ i _=>args.length - (intOf i).toNat)
  case atStart=>exact⟨0,m+1,Nat.zero_le _,rfl,rfl,by omega,by omega,by simp,HB0.out,Zae rfl rfl,by simp⟩
  case round =>
   obtain⟨k,x,hk,rfl,rfl,hx0,hx1,ht,hbel,q0,q1⟩:=hrel;have HT:=hI ht;have HB:=hI hbel;have hsz:=hbel.size;clear ht hbel
   by_cases hkl:k<args.length
   · by_cases hx:x≤24
     · have HSTEP:=hI (nodesL_drop args x k hkl);obtain⟨b2,o2,rfl,hb2,op',cmp',lf,rt,args',A',c',hpe,hpa⟩:=(HP.out.keep (Same.of_below HB.out hS)).at_ hkl;have f1:=hpa.fop;have f2:=hpa.fcmp;have f3:=hpa.lk;have f4:=hpa.li;have f5:=hpa.lvk;have f6:=hpa.lvi;have f7:=hpa.lvt;have f8:=hpa.rk;have f9:=hpa.ri;have f10:=hpa.rvk;have f11:=hpa.rvi;have f12:=hpa.rvt;have f13:=hpa.fargs;have HPA:=hI hpa;have HSZ:=hI (Zcc hkl hpe);have hl2:b2<wr.heap.size:=(by have:=hS b2 hb2;omega);have hal':=hpa.pS.len;rw [hpe] at HSTEP;have HRG:=hI (nodesP_range (.mk op' cmp' lf rt args') x hx0 hx);clear hpa hpe
       go_wp2_with fail
       refine(IH.out op' cmp' lf rt args' A' c' x S _ (by have:=HSZ.out;have:=HN.out;omega) HPA.out.pS (fun b hb=>by have:=hS b hb;omega) hx0 hx).mono ?_;rintro e w2 ⟨rfl,hb3⟩;have HB3:=hI (HB.out.trans (hb3.mono hsz));have q2:=c9Q hb3 q1 q0;have q3:w.heap.size<w2.heap.size:=(by have:=hb3.size;omega);clear hb3 q0;obtain⟨y,hy⟩:∃ y,nodesP (.mk op' cmp' lf rt args') x=y:=⟨_,rfl⟩;rw [hy] at HSTEP HRG ⊢;clear hy;obtain⟨hy0,hy1⟩:=HRG.out
       go_wp2_with fail
       go_roundw
       case rel=>exact⟨k+1,y,by omega,by go_num,rfl,hy0,hy1,by rw [HT.out,HSTEP.out,if_pos hx],HB3.out,q2,q3⟩
       case measure=>simp [intOf];omega
     · have HE:=hI (show nodesL args (m+1)=x by rw [HT.out,Zeh _ _ (by omega)]);have hd:decide (x≤24)=false:=decide_eq_false hx
       go_wp2_with fail
       go_ret;exact⟨by rw [HF.out,HE.out];rfl,HB.out⟩
   · have HE:=hI (show nodesL args (m+1)=x by rw [HT.out,show k=args.length by omega,List.drop_length];unfold nodesL;rfl)
     go_wp2_with fail
     go_ret;exact⟨by rw [HF.out,HE.out];rfl,HB.out⟩
theorem rdeep_any:∀ (n:Nat) (op cmp:Int) (l r:Opd) (args:List Pred) (A:Option Addr) (c:Nat) (m:Int) (S:Nat→Prop) (w:World),SizeOf.sizeOf (Pred.mk op cmp l r args)≤n→PredS w S A args→(∀ x,S x→x<w.heap.size)→0≤m→m≤100 →
  Calls Try.prog 108 #[pAgg op cmp l r A args.length c,.int .i64 m] w (ZaS (deepP (.mk op cmp l r args) m) w):=by
 intro n;induction n with
 | zero=>intro op cmp l r args A c m S w hn;simp at hn
 | succ n ih =>
  intro op cmp l r args A c m S w hn hp hS hm0 hm1;have hal:=hp.len;have HP:=hI hp;have IH:=hI ih;have HN:=hI (show SizeOf.sizeOf args≤n by simp at hn;omega);clear hp ih hn;have HB0:=hI ((Below.refl w.heap.size w).alloc nR (.cells #[.int .i64 op,.int .i64 cmp,.int .i64 l.kind,.int .i64 l.index,.int .i64 l.value.k,.int .i64 l.value.i,.string l.value.t,.int .i64 r.kind,.int .i64 r.index,.int .i64 r.value.k,.int .i64 r.value.i,.string r.value.t,.slice A args.length c] 100))
  by_cases hz:m=0
  · have HF:=hI (show deepP (.mk op cmp l r args) m=true by unfold deepP;rw [if_pos hz]);subst hz;go_enter Try.func108,Try.ntmps108
    go_wp2_with fail
    go_ret;exact⟨by rw [HF.out];rfl,HB0.out⟩
  · have HF:=hI (show deepP (.mk op cmp l r args) m=deepL args (m - 1) by unfold deepP;rw [if_neg hz]);have hd:(m == 0)=false:=beq_eq_false_iff_ne.2 hz;have hm2:1≤m:=(by omega);go_enter Try.func108,Try.ntmps108
    go_wp2_with fail
    go_loopw [11] (fun i wr=>∃ (k:Nat),k≤args.length∧i=.int .i64 k∧deepL args (m - 1)=deepL (args.drop k) (m - 1)∧Below w.heap.size w wr∧wr.cell? ⟨w.heap.size,12,none⟩=some (.slice A args.length c)∧w.heap.size<wr.heap.size) (fun i _=>args.length - (intOf i).toNat)
    case atStart=>exact⟨0,Nat.zero_le _,rfl,by simp,HB0.out,Zae rfl rfl,by simp⟩
    case round =>
     obtain⟨k,hk,rfl,ht,hbel,q0,q1⟩:=hrel;have HT:=hI ht;have HB:=hI hbel;have hsz:=hbel.size;clear ht hbel
     by_cases hkl:k<args.length
     · have HSTEP:=hI (deepL_drop args (m - 1) k hkl);obtain⟨b2,o2,rfl,hb2,op',cmp',lf,rt,args',A',c',hpe,hpa⟩:=(HP.out.keep (Same.of_below HB.out hS)).at_ hkl;have f1:=hpa.fop;have f2:=hpa.fcmp;have f3:=hpa.lk;have f4:=hpa.li;have f5:=hpa.lvk;have f6:=hpa.lvi;have f7:=hpa.lvt;have f8:=hpa.rk;have f9:=hpa.ri;have f10:=hpa.rvk;have f11:=hpa.rvi;have f12:=hpa.rvt;have f13:=hpa.fargs;have HPA:=hI hpa;have HSZ:=hI (Zcc hkl hpe);have hl2:b2<wr.heap.size:=(by have:=hS b2 hb2;omega);have hal':=hpa.pS.len;rw [hpe] at HSTEP;clear hpa hpe
       go_wp2_with fail
       refine(IH.out op' cmp' lf rt args' A' c' (m - 1) S _ (by have:=HSZ.out;have:=HN.out;omega) HPA.out.pS (fun b hb=>by have:=hS b hb;omega) (by omega) (by omega)).mono ?_;rintro e w2 ⟨rfl,hb3⟩;have HB3:=hI (HB.out.trans (hb3.mono hsz));have q2:=c9Q hb3 q1 q0;have q3:w.heap.size<w2.heap.size:=(by have:=hb3.size;omega);clear hb3 q0;obtain⟨y,hy⟩:∃ y,deepP (.mk op' cmp' lf rt args') (m - 1)=y:=⟨_,rfl⟩;rw [hy] at HSTEP ⊢;clear hy;cases y
       · go_wp2_with fail
         go_roundw
         case rel=>exact⟨k+1,by omega,by go_num,by rw [HT.out,HSTEP.out];rfl,HB3.out,q2,q3⟩
         case measure=>simp [intOf];omega
       · go_wp2_with fail
         go_ret;exact⟨by rw [HF.out,HT.out,HSTEP.out];rfl,HB3.out⟩
     · have HE:=hI (show deepL args (m - 1)=false by rw [HT.out,show k=args.length by omega,List.drop_length];unfold deepL;rfl)
       go_wp2_with fail
       go_ret;exact⟨by rw [HF.out,HE.out];rfl,HB.out⟩
theorem Zcy (op cmp l1 l2 l3 l4 r1 r2 r3 r4:Int) (l5 r5:ByteArray) (A:Option Addr) (n c:Nat) (w:World) :
  Calls Try.prog 125 #[pAgg op cmp ⟨l1,l2,⟨l3,l4,l5⟩⟩ ⟨r1,r2,⟨r3,r4,r5⟩⟩ A n c] w (ZaS (Zdr cmp ⟨l1,l2,⟨l3,l4,l5⟩⟩ ⟨r1,r2,⟨r3,r4,r5⟩⟩) w):=by
 go_enter Try.func125,Try.ntmps125
 go_wp2_with fail
 all_goals
  go_ret;exact⟨by rw [ZbR];simp [*],(Below.refl _ _).alloc nR _⟩
theorem rvalid_cmp (A1 A2:Option Addr) (ca cb:Nat) (cols params:List Int) (cmp:Int) (l r:Opd) (args:List Pred) (A:Option Addr) (c:Nat) (S:Nat→Prop) (w:World) (hA:IntS w S A1 cols) (hB:IntS w S A2 params) (hp:PredS w S A args) (hS:∀ x,S x→x<w.heap.size) (hlt:l.value.t.size≤9223372036854775807) (hrt:r.value.t.size≤9223372036854775807) :
  Calls Try.prog 109 #[.slice A1 cols.length ca,.slice A2 params.length cb,pAgg 3 cmp l r A args.length c] w (ZaS (predOk cols params (.mk 3 cmp l r args)) w):=by
 obtain⟨l1,l2,⟨l3,l4,l5⟩⟩:=l;obtain⟨r1,r2,⟨r3,r4,r5⟩⟩:=r;simp only at hlt hrt;have hal:=hp.len;have hcl:=hA.len;have hpl:=hB.len;have HA1:=hI hA;have HA2:=hI hB;clear hp hA hB;have HB0:=hI ((Below.refl w.heap.size w).alloc nR (.cells #[.int .i64 3,.int .i64 cmp,.int .i64 l1,.int .i64 l2,.int .i64 l3,.int .i64 l4,.string l5,.int .i64 r1,.int .i64 r2,.int .i64 r3,.int .i64 r4,.string r5,.slice A args.length c] 100));go_enter Try.func109,Try.ntmps109
 go_wp2_with fail
 refine(ZgA A1 A2 ca cb cols params ⟨l1,l2,⟨l3,l4,l5⟩⟩ S _ (HA1.out.keep (Same.of_below HB0.out hS)) (HA2.out.keep (Same.of_below HB0.out hS)) (fun x hx=>by have:=hS x hx;simp;omega) hlt).mono ?_;rintro e w1 ⟨rfl,hb1⟩;have HB1:=hI (HB0.out.trans (hb1.mono (by simp)));have hz1:w.heap.size<w1.heap.size:=(by have:=hb1.size;simp at this;omega);have y1:=(hb1.cell (p:=⟨w.heap.size,1,none⟩) (by simp)).trans (Zae (w:=w) (cs:=#[.int .i64 3,.int .i64 cmp,.int .i64 l1,.int .i64 l2,.int .i64 l3,.int .i64 l4,.string l5,.int .i64 r1,.int .i64 r2,.int .i64 r3,.int .i64 r4,.string r5,.slice A args.length c]) (t:=100) (k:=1) rfl rfl);have y7:=(hb1.cell (p:=⟨w.heap.size,7,none⟩) (by simp)).trans (Zae (w:=w) (cs:=#[.int .i64 3,.int .i64 cmp,.int .i64 l1,.int .i64 l2,.int .i64 l3,.int .i64 l4,.string l5,.int .i64 r1,.int .i64 r2,.int .i64 r3,.int .i64 r4,.string r5,.slice A args.length c]) (t:=100) (k:=7) rfl rfl);have y8:=(hb1.cell (p:=⟨w.heap.size,8,none⟩) (by simp)).trans (Zae (w:=w) (cs:=#[.int .i64 3,.int .i64 cmp,.int .i64 l1,.int .i64 l2,.int .i64 l3,.int .i64 l4,.string l5,.int .i64 r1,.int .i64 r2,.int .i64 r3,.int .i64 r4,.string r5,.slice A args.length c]) (t:=100) (k:=8) rfl rfl);have y9:=(hb1.cell (p:=⟨w.heap.size,9,none⟩) (by simp)).trans (Zae (w:=w) (cs:=#[.int .i64 3,.int .i64 cmp,.int .i64 l1,.int .i64 l2,.int .i64 l3,.int .i64 l4,.string l5,.int .i64 r1,.int .i64 r2,.int .i64 r3,.int .i64 r4,.string r5,.slice A args.length c]) (t:=100) (k:=9) rfl rfl);have y10:=(hb1.cell (p:=⟨w.heap.size,10,none⟩) (by simp)).trans (Zae (w:=w) (cs:=#[.int .i64 3,.int .i64 cmp,.int .i64 l1,.int .i64 l2,.int .i64 l3,.int .i64 l4,.string l5,.int .i64 r1,.int .i64 r2,.int .i64 r3,.int .i64 r4,.string r5,.slice A args.length c]) (t:=100) (k:=10) rfl rfl);have y11:=(hb1.cell (p:=⟨w.heap.size,11,none⟩) (by simp)).trans (Zae (w:=w) (cs:=#[.int .i64 3,.int .i64 cmp,.int .i64 l1,.int .i64 l2,.int .i64 l3,.int .i64 l4,.string l5,.int .i64 r1,.int .i64 r2,.int .i64 r3,.int .i64 r4,.string r5,.slice A args.length c]) (t:=100) (k:=11) rfl rfl);have y12:=(hb1.cell (p:=⟨w.heap.size,12,none⟩) (by simp)).trans (Zae (w:=w) (cs:=#[.int .i64 3,.int .i64 cmp,.int .i64 l1,.int .i64 l2,.int .i64 l3,.int .i64 l4,.string l5,.int .i64 r1,.int .i64 r2,.int .i64 r3,.int .i64 r4,.string r5,.slice A args.length c]) (t:=100) (k:=12) rfl rfl);obtain⟨lk,hlk⟩:∃ lk,Zai cols params ⟨l1,l2,⟨l3,l4,l5⟩⟩=lk:=⟨_,rfl⟩;obtain⟨rk,hrk⟩:∃ rk,Zai cols params ⟨r1,r2,⟨r3,r4,r5⟩⟩=rk:=⟨_,rfl⟩;have HF:=hI (show predOk cols params (.mk 3 cmp ⟨l1,l2,⟨l3,l4,l5⟩⟩ ⟨r1,r2,⟨r3,r4,r5⟩⟩ args)=(decide (args.length=0)&&decide (1≤cmp)&&decide (cmp≤6)&&decide (lk≠0)&&decide (lk=rk)) by rw [ok_cmp,hlk,hrk]);have HRK:=hI hrk;rw [hlk];clear hb1 hlk hrk
 by_cases h0:args.length=0
 · have h0':((args.length:Int) == 0)=true:=(by simp [h0]);have H0:=hI h0;clear h0
   by_cases h1:1≤cmp
   · by_cases h6:cmp≤6
     · by_cases hl:lk=0
       · have hl':(lk != 0)=false:=(by simp [hl]);have HG:=hI (show (decide (args.length=0)&&decide (1≤cmp)&&decide (cmp≤6)&&decide (lk≠0)&&decide (lk=rk))=false by simp [hl]);clear hl
         go_wp2_with fail
         go_ret;exact⟨by rw [HF.out,HG.out];rfl,HB1.out⟩
       · have hl':(lk != 0)=true:=(by simp [hl]);have HG:=hI (show (decide (args.length=0)&&decide (1≤cmp)&&decide (cmp≤6)&&decide (lk≠0)&&decide (lk=rk))=(lk == rk) by simp [H0.out,hl,h1,h6];rfl);clear hl
         go_wp2_with fail
         refine(ZgA A1 A2 ca cb cols params ⟨r1,r2,⟨r3,r4,r5⟩⟩ S _ (HA1.out.keep (Same.of_below HB1.out hS)) (HA2.out.keep (Same.of_below HB1.out hS)) (fun x hx=>by have:=hS x hx;omega) hrt).mono ?_;rintro e w2 ⟨rfl,hb2⟩;have HB2:=hI (HB1.out.trans (hb2.mono (by omega)));clear hb2;rw [HRK.out]
         go_wp2_with fail
         go_ret;exact⟨by rw [HF.out,HG.out];rfl,HB2.out⟩
     · have HG:=hI (show (decide (args.length=0)&&decide (1≤cmp)&&decide (cmp≤6)&&decide (lk≠0)&&decide (lk=rk))=false by simp [h6]);have h6':decide (cmp≤6)=false:=decide_eq_false h6
       go_wp2_with fail
       go_ret;exact⟨by rw [HF.out,HG.out];rfl,HB1.out⟩
   · have HG:=hI (show (decide (args.length=0)&&decide (1≤cmp)&&decide (cmp≤6)&&decide (lk≠0)&&decide (lk=rk))=false by simp [h1]);have h1':decide (1≤cmp)=false:=decide_eq_false h1
     go_wp2_with fail
     go_ret;exact⟨by rw [HF.out,HG.out];rfl,HB1.out⟩
 · have h0':((args.length:Int) == 0)=false:=(by rw [beq_eq_false_iff_ne];omega);have HG:=hI (show (decide (args.length=0)&&decide (1≤cmp)&&decide (cmp≤6)&&decide (lk≠0)&&decide (lk=rk))=false by simp [h0]);clear h0
   go_wp2_with fail
   go_ret;exact⟨by rw [HF.out,HG.out];rfl,HB1.out⟩
theorem ok_leaf (cols params:List Int) {op cmp:Int} {l r:Opd} {args:List Pred} (h:op=1∨op=2):predOk cols params (.mk op cmp l r args)=(Zdr cmp l r&&decide (args.length=0)):=by
 unfold predOk;rcases h with rfl | rfl<;>simp [Bool.and_comm]
theorem rvalid_p (A1 A2:Option Addr) (ca cb:Nat) (cols params:List Int):∀ (n:Nat) (op cmp:Int) (l r:Opd) (args:List Pred) (A:Option Addr) (c:Nat) (S:Nat→Prop) (w:World),SizeOf.sizeOf (Pred.mk op cmp l r args)≤n→IntS w S A1 cols→IntS w S A2 params→PredS w S A args→(∀ x,S x→x<w.heap.size)→l.value.t.size≤9223372036854775807→r.value.t.size≤9223372036854775807 →
  Calls Try.prog 109 #[.slice A1 cols.length ca,.slice A2 params.length cb,pAgg op cmp l r A args.length c] w (ZaS (predOk cols params (.mk op cmp l r args)) w):=by
 intro n;induction n with
 | zero=>intro op cmp l r args A c S w hn;simp at hn
 | succ n ih =>
  intro op cmp l r args A c S w hn hA hB hp hS hlt hrt
  by_cases o3:op=3
  · subst o3;exact rvalid_cmp A1 A2 ca cb cols params cmp l r args A c S w hA hB hp hS hlt hrt
  obtain⟨l1,l2,⟨l3,l4,l5⟩⟩:=l;obtain⟨r1,r2,⟨r3,r4,r5⟩⟩:=r;simp only at hlt hrt;have hal:=hp.len;have hcl:=hA.len;have hpl:=hB.len;have HP:=hI hp;have HA1:=hI hA;have HA2:=hI hB;have IH:=hI ih;have HN:=hI (show SizeOf.sizeOf args≤n by simp at hn;omega);clear hp hA hB ih hn;have n3:(op == 3)=false:=beq_eq_false_iff_ne.2 o3;have HB0:=hI ((Below.refl w.heap.size w).alloc nR (.cells #[.int .i64 op,.int .i64 cmp,.int .i64 l1,.int .i64 l2,.int .i64 l3,.int .i64 l4,.string l5,.int .i64 r1,.int .i64 r2,.int .i64 r3,.int .i64 r4,.string r5,.slice A args.length c] 100));have HCE:=hI (fun (k:Nat) (v:Value) (hk:(#[.int .i64 op,.int .i64 cmp,.int .i64 l1,.int .i64 l2,.int .i64 l3,.int .i64 l4,.string l5,.int .i64 r1,.int .i64 r2,.int .i64 r3,.int .i64 r4,.string r5,.slice A args.length c]:Array Value)[k]?=some v)=>(Zae (w:=w) (cs:=#[.int .i64 op,.int .i64 cmp,.int .i64 l1,.int .i64 l2,.int .i64 l3,.int .i64 l4,.string l5,.int .i64 r1,.int .i64 r2,.int .i64 r3,.int .i64 r4,.string r5,.slice A args.length c]) (t:=100) (k:=k) rfl hk:(w.alloc (.cells #[.int .i64 op,.int .i64 cmp,.int .i64 l1,.int .i64 l2,.int .i64 l3,.int .i64 l4,.string l5,.int .i64 r1,.int .i64 r2,.int .i64 r3,.int .i64 r4,.string r5,.slice A args.length c] 100)).cell? ⟨w.heap.size,k,none⟩=some v))
  by_cases o1:op=1
  · subst o1;clear o3;obtain⟨bb,hbb⟩:∃ bb,Zdr cmp ⟨l1,l2,⟨l3,l4,l5⟩⟩ ⟨r1,r2,⟨r3,r4,r5⟩⟩=bb:=⟨_,rfl⟩;have HF:=hI (show predOk cols params (.mk 1 cmp ⟨l1,l2,⟨l3,l4,l5⟩⟩ ⟨r1,r2,⟨r3,r4,r5⟩⟩ args)=(bb&&decide (args.length=0)) by rw [ok_leaf _ _ (.inl rfl),hbb]);have HBB:=hI hbb;clear hbb;go_enter Try.func109,Try.ntmps109
    go_wp2_with fail
    refine(Zcy 1 cmp l1 l2 l3 l4 r1 r2 r3 r4 l5 r5 A args.length c _).mono ?_;rintro e w1 ⟨rfl,hb1⟩;have HB1:=hI (HB0.out.trans (hb1.mono (by simp)));have q0:=(hb1.cell (p:=⟨w.heap.size,12,none⟩) (by simp)).trans (HCE.out 12 _ rfl);have q1:w.heap.size<w1.heap.size:=(by have:=hb1.size;simp at this;omega);rw [HBB.out];clear hb1;cases bb
    · go_wp2_with fail
      go_ret;exact⟨by rw [HF.out];rfl,HB1.out⟩
    · by_cases h0:args.length=0
      · have h0':((args.length:Int) == 0)=true:=(by simp [h0]);have HG:=hI (show (true&&decide (args.length=0))=true by simp [h0]);clear h0
        go_wp2_with fail
        go_ret;exact⟨by rw [HF.out,HG.out];rfl,HB1.out⟩
      · have h0':((args.length:Int) == 0)=false:=(by rw [beq_eq_false_iff_ne];omega);have HG:=hI (show (true&&decide (args.length=0))=false by simp [h0]);clear h0
        go_wp2_with fail
        go_ret;exact⟨by rw [HF.out,HG.out];rfl,HB1.out⟩
  · have n1:(op == 1)=false:=beq_eq_false_iff_ne.2 o1
    by_cases o2:op=2
    · subst o2;clear o3;obtain⟨bb,hbb⟩:∃ bb,Zdr cmp ⟨l1,l2,⟨l3,l4,l5⟩⟩ ⟨r1,r2,⟨r3,r4,r5⟩⟩=bb:=⟨_,rfl⟩;have HF:=hI (show predOk cols params (.mk 2 cmp ⟨l1,l2,⟨l3,l4,l5⟩⟩ ⟨r1,r2,⟨r3,r4,r5⟩⟩ args)=(bb&&decide (args.length=0)) by rw [ok_leaf _ _ (.inr rfl),hbb]);have HBB:=hI hbb;clear hbb;go_enter Try.func109,Try.ntmps109
      go_wp2_with fail
      refine(Zcy 2 cmp l1 l2 l3 l4 r1 r2 r3 r4 l5 r5 A args.length c _).mono ?_;rintro e w1 ⟨rfl,hb1⟩;have HB1:=hI (HB0.out.trans (hb1.mono (by simp)));have q0:=(hb1.cell (p:=⟨w.heap.size,12,none⟩) (by simp)).trans (HCE.out 12 _ rfl);have q1:w.heap.size<w1.heap.size:=(by have:=hb1.size;simp at this;omega);rw [HBB.out];clear hb1;cases bb
      · go_wp2_with fail
        go_ret;exact⟨by rw [HF.out];rfl,HB1.out⟩
      · by_cases h0:args.length=0
        · have h0':((args.length:Int) == 0)=true:=(by simp [h0]);have HG:=hI (show (true&&decide (args.length=0))=true by simp [h0]);clear h0
          go_wp2_with fail
          go_ret;exact⟨by rw [HF.out,HG.out];rfl,HB1.out⟩
        · have h0':((args.length:Int) == 0)=false:=(by rw [beq_eq_false_iff_ne];omega);have HG:=hI (show (true&&decide (args.length=0))=false by simp [h0]);clear h0
          go_wp2_with fail
          go_ret;exact⟨by rw [HF.out,HG.out];rfl,HB1.out⟩
    · have n2:(op == 2)=false:=beq_eq_false_iff_ne.2 o2
      by_cases o6:op=6
      · subst o6;clear o3 o1 o2
        by_cases h0:args.length=1
        · have h0':((args.length:Int) != 1)=false:=(by simp [h0]);have H0:=hI h0;clear h0;go_enter Try.func109,Try.ntmps109
          go_wp2_with fail
          refine(Zcy 6 cmp l1 l2 l3 l4 r1 r2 r3 r4 l5 r5 A args.length c _).mono ?_;rintro e w1 ⟨rfl,hb1⟩;have HB1:=hI (HB0.out.trans (hb1.mono (by simp)));have q0:=(hb1.cell (p:=⟨w.heap.size,12,none⟩) (by simp)).trans (HCE.out 12 _ rfl);have q1:w.heap.size<w1.heap.size:=(by have:=hb1.size;simp at this;omega);clear hb1;cases hbb:Zdr cmp ⟨l1,l2,⟨l3,l4,l5⟩⟩ ⟨r1,r2,⟨r3,r4,r5⟩⟩
          · have HF:=hI (ZcY (cols:=cols) (params:=params) (args:=args) (op:=6) (.inr (.inr (.inr (.inr rfl)))) hbb);clear hbb
            go_wp2_with fail
            go_ret;exact⟨by rw [HF.out];rfl,HB1.out⟩
          · have HF:=hI (ZcZ (cols:=cols) (params:=params) (args:=args) (op:=6) (.inr (.inr (.inr (.inr ⟨rfl,H0.out⟩)))) hbb);clear hbb
            go_wp2_with fail
            go_loopw [71] (fun i wr=>∃ k:Nat,k≤args.length∧i=.int .i64 k∧predsOk cols params args=predsOk cols params (args.drop k)∧Below w.heap.size w wr∧wr.cell? ⟨w.heap.size,12,none⟩=some (.slice A args.length c)∧w.heap.size<wr.heap.size) (fun i _=>args.length - (intOf i).toNat)
            case atStart=>exact⟨0,Nat.zero_le _,rfl,by simp,HB1.out,q0,q1⟩
            case round =>
             obtain⟨k,hk,rfl,ht,hbel,q0,q1⟩:=hrel;have HT:=hI ht;have HB:=hI hbel;have hsz:=hbel.size;clear ht hbel
             by_cases hkl:k<args.length
             · obtain⟨b2,o2,rfl,hb2,op',cmp',⟨m1,m2,⟨m3,m4,m5⟩⟩,⟨n1,n2,⟨n3,n4,n5⟩⟩,args',A',c',hpe,hpa⟩:=(HP.out.keep (Same.of_below HB.out hS)).at_ hkl;have HSTEP:=hI (ZbJ cols params args k hkl);rw [hpe] at HSTEP;have HSZ:=hI (Zcc hkl hpe);have f1:=hpa.fop;have f2:=hpa.fcmp;have f3:=hpa.lk;have f4:=hpa.li;have f5:=hpa.lvk;have f6:=hpa.lvi;have f7:=hpa.lvt;have f8:=hpa.rk;have f9:=hpa.ri;have f10:=hpa.rvk;have f11:=hpa.rvi;have f12:=hpa.rvt;have f13:=hpa.fargs;have HPA:=hI hpa;have hl2:b2<wr.heap.size:=(by have:=hS b2 hb2;omega);have hal':=hpa.pS.len;clear hpa hpe;simp only at f1 f2 f3 f4 f5 f6 f7 f8 f9 f10 f11 f12 f13
               go_wp2_with fail
               refine(IH.out op' cmp' ⟨m1,m2,⟨m3,m4,m5⟩⟩ ⟨n1,n2,⟨n3,n4,n5⟩⟩ args' A' c' S _ (by have:=HSZ.out;have:=HN.out;omega) (HA1.out.keep (Same.of_below HB.out hS)) (HA2.out.keep (Same.of_below HB.out hS)) HPA.out.pS (fun x hx=>by have:=hS x hx;omega) HPA.out.lt HPA.out.rt).mono ?_;rintro e w2 ⟨rfl,hb3⟩;have HB3:=hI (HB.out.trans (hb3.mono hsz));have q2:=c9Q hb3 q1 q0;have q3:w.heap.size<w2.heap.size:=(by have:=hb3.size;omega);clear hb3 q0;obtain⟨bb,hbb⟩:∃ bb,predOk cols params (.mk op' cmp' ⟨m1,m2,⟨m3,m4,m5⟩⟩ ⟨n1,n2,⟨n3,n4,n5⟩⟩ args')=bb:=⟨_,rfl⟩;rw [hbb] at HSTEP ⊢;clear hbb;cases bb
               · go_wp2_with fail
                 go_ret;exact⟨by rw [HF.out,HT.out,HSTEP.out];rfl,HB3.out⟩
               · go_wp2_with fail
                 go_roundw
                 case rel=>exact⟨k+1,by omega,by go_num,by rw [HT.out,HSTEP.out];rfl,HB3.out,q2,q3⟩
                 case measure=>simp [intOf];omega
             · have HE:=hI (show predsOk cols params args=true by rw [HT.out,show k=args.length by omega,List.drop_length];unfold predsOk;rfl)
               go_wp2_with fail
               go_ret;exact⟨by rw [HF.out,HE.out];rfl,HB.out⟩
        · have h0':((args.length:Int) != 1)=true:=(by rw [bne_iff_ne];omega);have HF:=hI (show predOk cols params (.mk 6 cmp ⟨l1,l2,⟨l3,l4,l5⟩⟩ ⟨r1,r2,⟨r3,r4,r5⟩⟩ args)=false from Zhs (.inr (.inr ⟨rfl,h0⟩)));clear h0;go_enter Try.func109,Try.ntmps109
          go_wp2_with fail
          go_ret;exact⟨by rw [HF.out];rfl,HB0.out⟩
      · have n6:(op == 6)=false:=beq_eq_false_iff_ne.2 o6
        by_cases o4:op=4
        · subst o4;clear o3 o1 o2 o6;go_enter Try.func109,Try.ntmps109
          go_wp2_with fail
          refine(Zcy 4 cmp l1 l2 l3 l4 r1 r2 r3 r4 l5 r5 A args.length c _).mono ?_;rintro e w1 ⟨rfl,hb1⟩;have HB1:=hI (HB0.out.trans (hb1.mono (by simp)));have q0:=(hb1.cell (p:=⟨w.heap.size,12,none⟩) (by simp)).trans (HCE.out 12 _ rfl);have q1:w.heap.size<w1.heap.size:=(by have:=hb1.size;simp at this;omega);clear hb1;cases hbb:Zdr cmp ⟨l1,l2,⟨l3,l4,l5⟩⟩ ⟨r1,r2,⟨r3,r4,r5⟩⟩
          · have HF:=hI (ZcY (cols:=cols) (params:=params) (args:=args) (op:=4) (.inr (.inr (.inl rfl))) hbb);clear hbb
            go_wp2_with fail
            go_ret;exact⟨by rw [HF.out];rfl,HB1.out⟩
          · have HF:=hI (ZcZ (cols:=cols) (params:=params) (args:=args) (op:=4) (.inr (.inr (.inl rfl))) hbb);clear hbb
            go_wp2_with fail
            go_loopw [71] (fun i wr=>∃ k:Nat,k≤args.length∧i=.int .i64 k∧predsOk cols params args=predsOk cols params (args.drop k)∧Below w.heap.size w wr∧wr.cell? ⟨w.heap.size,12,none⟩=some (.slice A args.length c)∧w.heap.size<wr.heap.size) (fun i _=>args.length - (intOf i).toNat)
            case atStart=>exact⟨0,Nat.zero_le _,rfl,by simp,HB1.out,q0,q1⟩
            case round =>
             obtain⟨k,hk,rfl,ht,hbel,q0,q1⟩:=hrel;have HT:=hI ht;have HB:=hI hbel;have hsz:=hbel.size;clear ht hbel
             by_cases hkl:k<args.length
             · obtain⟨b2,o2,rfl,hb2,op',cmp',⟨m1,m2,⟨m3,m4,m5⟩⟩,⟨n1,n2,⟨n3,n4,n5⟩⟩,args',A',c',hpe,hpa⟩:=(HP.out.keep (Same.of_below HB.out hS)).at_ hkl;have HSTEP:=hI (ZbJ cols params args k hkl);rw [hpe] at HSTEP;have HSZ:=hI (Zcc hkl hpe);have f1:=hpa.fop;have f2:=hpa.fcmp;have f3:=hpa.lk;have f4:=hpa.li;have f5:=hpa.lvk;have f6:=hpa.lvi;have f7:=hpa.lvt;have f8:=hpa.rk;have f9:=hpa.ri;have f10:=hpa.rvk;have f11:=hpa.rvi;have f12:=hpa.rvt;have f13:=hpa.fargs;have HPA:=hI hpa;have hl2:b2<wr.heap.size:=(by have:=hS b2 hb2;omega);have hal':=hpa.pS.len;clear hpa hpe;simp only at f1 f2 f3 f4 f5 f6 f7 f8 f9 f10 f11 f12 f13
               go_wp2_with fail
               refine(IH.out op' cmp' ⟨m1,m2,⟨m3,m4,m5⟩⟩ ⟨n1,n2,⟨n3,n4,n5⟩⟩ args' A' c' S _ (by have:=HSZ.out;have:=HN.out;omega) (HA1.out.keep (Same.of_below HB.out hS)) (HA2.out.keep (Same.of_below HB.out hS)) HPA.out.pS (fun x hx=>by have:=hS x hx;omega) HPA.out.lt HPA.out.rt).mono ?_;rintro e w2 ⟨rfl,hb3⟩;have HB3:=hI (HB.out.trans (hb3.mono hsz));have q2:=c9Q hb3 q1 q0;have q3:w.heap.size<w2.heap.size:=(by have:=hb3.size;omega);clear hb3 q0;obtain⟨bb,hbb⟩:∃ bb,predOk cols params (.mk op' cmp' ⟨m1,m2,⟨m3,m4,m5⟩⟩ ⟨n1,n2,⟨n3,n4,n5⟩⟩ args')=bb:=⟨_,rfl⟩;rw [hbb] at HSTEP ⊢;clear hbb;cases bb
               · go_wp2_with fail
                 go_ret;exact⟨by rw [HF.out,HT.out,HSTEP.out];rfl,HB3.out⟩
               · go_wp2_with fail
                 go_roundw
                 case rel=>exact⟨k+1,by omega,by go_num,by rw [HT.out,HSTEP.out];rfl,HB3.out,q2,q3⟩
                 case measure=>simp [intOf];omega
             · have HE:=hI (show predsOk cols params args=true by rw [HT.out,show k=args.length by omega,List.drop_length];unfold predsOk;rfl)
               go_wp2_with fail
               go_ret;exact⟨by rw [HF.out,HE.out];rfl,HB.out⟩
        · have n4:(op == 4)=false:=beq_eq_false_iff_ne.2 o4
          by_cases o5:op=5
          · subst o5;clear o3 o1 o2 o6;go_enter Try.func109,Try.ntmps109
            go_wp2_with fail
            refine(Zcy 5 cmp l1 l2 l3 l4 r1 r2 r3 r4 l5 r5 A args.length c _).mono ?_;rintro e w1 ⟨rfl,hb1⟩;have HB1:=hI (HB0.out.trans (hb1.mono (by simp)));have q0:=(hb1.cell (p:=⟨w.heap.size,12,none⟩) (by simp)).trans (HCE.out 12 _ rfl);have q1:w.heap.size<w1.heap.size:=(by have:=hb1.size;simp at this;omega);clear hb1;cases hbb:Zdr cmp ⟨l1,l2,⟨l3,l4,l5⟩⟩ ⟨r1,r2,⟨r3,r4,r5⟩⟩
            · have HF:=hI (ZcY (cols:=cols) (params:=params) (args:=args) (op:=5) (.inr (.inr (.inr (.inl rfl)))) hbb);clear hbb
              go_wp2_with fail
              go_ret;exact⟨by rw [HF.out];rfl,HB1.out⟩
            · have HF:=hI (ZcZ (cols:=cols) (params:=params) (args:=args) (op:=5) (.inr (.inr (.inr (.inl rfl)))) hbb);clear hbb
              go_wp2_with fail
              go_loopw [71] (fun i wr=>∃ k:Nat,k≤args.length∧i=.int .i64 k∧predsOk cols params args=predsOk cols params (args.drop k)∧Below w.heap.size w wr∧wr.cell? ⟨w.heap.size,12,none⟩=some (.slice A args.length c)∧w.heap.size<wr.heap.size) (fun i _=>args.length - (intOf i).toNat)
              case atStart=>exact⟨0,Nat.zero_le _,rfl,by simp,HB1.out,q0,q1⟩
              case round =>
               obtain⟨k,hk,rfl,ht,hbel,q0,q1⟩:=hrel;have HT:=hI ht;have HB:=hI hbel;have hsz:=hbel.size;clear ht hbel
               by_cases hkl:k<args.length
               · obtain⟨b2,o2,rfl,hb2,op',cmp',⟨m1,m2,⟨m3,m4,m5⟩⟩,⟨n1,n2,⟨n3,n4,n5⟩⟩,args',A',c',hpe,hpa⟩:=(HP.out.keep (Same.of_below HB.out hS)).at_ hkl;have HSTEP:=hI (ZbJ cols params args k hkl);rw [hpe] at HSTEP;have HSZ:=hI (Zcc hkl hpe);have f1:=hpa.fop;have f2:=hpa.fcmp;have f3:=hpa.lk;have f4:=hpa.li;have f5:=hpa.lvk;have f6:=hpa.lvi;have f7:=hpa.lvt;have f8:=hpa.rk;have f9:=hpa.ri;have f10:=hpa.rvk;have f11:=hpa.rvi;have f12:=hpa.rvt;have f13:=hpa.fargs;have HPA:=hI hpa;have hl2:b2<wr.heap.size:=(by have:=hS b2 hb2;omega);have hal':=hpa.pS.len;clear hpa hpe;simp only at f1 f2 f3 f4 f5 f6 f7 f8 f9 f10 f11 f12 f13
                 go_wp2_with fail
                 refine(IH.out op' cmp' ⟨m1,m2,⟨m3,m4,m5⟩⟩ ⟨n1,n2,⟨n3,n4,n5⟩⟩ args' A' c' S _ (by have:=HSZ.out;have:=HN.out;omega) (HA1.out.keep (Same.of_below HB.out hS)) (HA2.out.keep (Same.of_below HB.out hS)) HPA.out.pS (fun x hx=>by have:=hS x hx;omega) HPA.out.lt HPA.out.rt).mono ?_;rintro e w2 ⟨rfl,hb3⟩;have HB3:=hI (HB.out.trans (hb3.mono hsz));have q2:=c9Q hb3 q1 q0;have q3:w.heap.size<w2.heap.size:=(by have:=hb3.size;omega);clear hb3 q0;obtain⟨bb,hbb⟩:∃ bb,predOk cols params (.mk op' cmp' ⟨m1,m2,⟨m3,m4,m5⟩⟩ ⟨n1,n2,⟨n3,n4,n5⟩⟩ args')=bb:=⟨_,rfl⟩;rw [hbb] at HSTEP ⊢;clear hbb;cases bb
                 · go_wp2_with fail
                   go_ret;exact⟨by rw [HF.out,HT.out,HSTEP.out];rfl,HB3.out⟩
                 · go_wp2_with fail
                   go_roundw
                   case rel=>exact⟨k+1,by omega,by go_num,by rw [HT.out,HSTEP.out];rfl,HB3.out,q2,q3⟩
                   case measure=>simp [intOf];omega
               · have HE:=hI (show predsOk cols params args=true by rw [HT.out,show k=args.length by omega,List.drop_length];unfold predsOk;rfl)
                 go_wp2_with fail
                 go_ret;exact⟨by rw [HF.out,HE.out];rfl,HB.out⟩
          · have n5:(op == 5)=false:=beq_eq_false_iff_ne.2 o5;have HF:=hI (ok_else (cols:=cols) (params:=params) (cmp:=cmp) (l:=⟨l1,l2,⟨l3,l4,l5⟩⟩) (r:=⟨r1,r2,⟨r3,r4,r5⟩⟩) (args:=args) o1 o2 o3 o4 o5 o6);clear o1 o2 o3 o4 o5 o6;go_enter Try.func109,Try.ntmps109
            go_wp2_with fail
            go_ret;exact⟨by rw [HF.out];rfl,HB0.out⟩
theorem rpcheck_any (K B:Option Addr) (ck cb:Nat) (ks ps:List Int) (op cmp:Int) (l r:Opd) (args:List Pred) (A:Option Addr) (c:Nat) (S:Nat→Prop) (w:World) (hK:IntS w S K ks) (hB:IntS w S B ps) (hp:PredS w S A args) (hS:∀ b,S b→b<w.heap.size) (hlt:l.value.t.size≤9223372036854775807) (hrt:r.value.t.size≤9223372036854775807) :
  Calls Try.prog 89 #[.slice K ks.length ck,.slice B ps.length cb,pAgg op cmp l r A args.length c] w (ZbV (pcFF ks ps (.mk op cmp l r args)) w):=by
 have hkl:=hK.len;have hbl:=hB.len;have hal:=hp.len;have HK:=hI hK;have HBB:=hI hB;have HP:=hI hp;clear hK hB hp;have hB1:Below w.heap.size w (w.alloc (.cells #[.int .i64 op,.int .i64 cmp,.int .i64 l.kind,.int .i64 l.index,.int .i64 l.value.k,.int .i64 l.value.i,.string l.value.t,.int .i64 r.kind,.int .i64 r.index,.int .i64 r.value.k,.int .i64 r.value.i,.string r.value.t,.slice A args.length c] 100)):=(Below.refl _ _).alloc nR _;have HCE:=hI (fun (k:Nat) (v:Value) (hk:(#[.int .i64 op,.int .i64 cmp,.int .i64 l.kind,.int .i64 l.index,.int .i64 l.value.k,.int .i64 l.value.i,.string l.value.t,.int .i64 r.kind,.int .i64 r.index,.int .i64 r.value.k,.int .i64 r.value.i,.string r.value.t,.slice A args.length c]:Array Value)[k]?=some v)=>(Zae (w:=w) (cs:=#[.int .i64 op,.int .i64 cmp,.int .i64 l.kind,.int .i64 l.index,.int .i64 l.value.k,.int .i64 l.value.i,.string l.value.t,.int .i64 r.kind,.int .i64 r.index,.int .i64 r.value.k,.int .i64 r.value.i,.string r.value.t,.slice A args.length c]) (t:=100) (k:=k) rfl hk:(w.alloc (.cells #[.int .i64 op,.int .i64 cmp,.int .i64 l.kind,.int .i64 l.index,.int .i64 l.value.k,.int .i64 l.value.i,.string l.value.t,.int .i64 r.kind,.int .i64 r.index,.int .i64 r.value.k,.int .i64 r.value.i,.string r.value.t,.slice A args.length c] 100)).cell? ⟨w.heap.size,k,none⟩=some v));have hND:=rnodes_any (SizeOf.sizeOf (Pred.mk op cmp l r args)) op cmp l r args A c 0 S _ nR (HP.out.keep (Same.of_below hB1 hS)) (fun x hx=>by have:=hS x hx;simp;omega) (by omega) (by omega);have hDP:=fun w2 (hb:Below w.heap.size w w2)=>rdeep_any (SizeOf.sizeOf (Pred.mk op cmp l r args)) op cmp l r args A c 8 S w2 nR (HP.out.keep (Same.of_below hb hS)) (fun x hx=>by have:=hS x hx;have:=hb.size;omega) (by omega) (by omega);have hVA:=fun w2 (hb:Below w.heap.size w w2)=>rvalid_p K B ck cb ks ps (SizeOf.sizeOf (Pred.mk op cmp l r args)) op cmp l r args A c S w2 nR (HK.out.keep (Same.of_below hb hS)) (HBB.out.keep (Same.of_below hb hS)) (HP.out.keep (Same.of_below hb hS)) (fun x hx=>by have:=hS x hx;have:=hb.size;omega) hlt hrt;obtain⟨p,hpe⟩:∃ p,Pred.mk op cmp l r args=p:=⟨_,rfl⟩;rw [hpe] at hND hDP hVA ⊢;clear hpe;have HND:=hI hND;have HDP:=hI hDP;have HVA:=hI hVA;have HB1:=hI hB1;have HBK:=hI (HK.out.keep (Same.of_below hB1 hS));have HBP:=hI (HBB.out.keep (Same.of_below hB1 hS));clear hB1 hND hDP hVA;rw [←rpcFF_eq];cases hk:ZaB ks with
 | false =>
  have HF:=hI (show Zed ks ps p=1 by unfold Zed;rw [if_pos (.inl hk)]);have HKK:=hI hk;clear hk;go_enter Try.func89,Try.ntmps89
  go_wp2_with fail
  refine(Zbi K ck ks S _ HBK.out).mono ?_;rintro e w1 ⟨rfl,rfl⟩;rw [HKK.out]
  go_wp2_with fail
  go_ret;exact⟨by rw [HF.out];rfl,HB1.out⟩
 | true =>
  have HKK:=hI hk;cases hq:ZaB ps with
  | false =>
   have HF:=hI (show Zed ks ps p=1 by unfold Zed;rw [if_pos (.inr hq)]);have HQQ:=hI hq;clear hk hq;go_enter Try.func89,Try.ntmps89
   go_wp2_with fail
   refine(Zbi K ck ks S _ HBK.out).mono ?_;rintro e w1 ⟨rfl,rfl⟩;rw [HKK.out]
   go_wp2_with fail
   refine(Zbi B cb ps S _ HBP.out).mono ?_;rintro e w1 ⟨rfl,rfl⟩;rw [HQQ.out]
   go_wp2_with fail
   go_ret;exact⟨by rw [HF.out];rfl,HB1.out⟩
  | true =>
   have HQQ:=hI hq;have HF0:=hI (show Zed ks ps p=if 24<nodesP p 0∨deepP p 8=true then 2 else if predOk ks ps p=false then 50 else 0 by unfold Zed;rw [if_neg (by simp [hk,hq])]);clear hk hq;go_enter Try.func89,Try.ntmps89
   go_wp2_with fail
   refine(Zbi K ck ks S _ HBK.out).mono ?_;rintro e w1 ⟨rfl,rfl⟩;rw [HKK.out]
   go_wp2_with fail
   refine(Zbi B cb ps S _ HBP.out).mono ?_;rintro e w1 ⟨rfl,rfl⟩;rw [HQQ.out]
   go_wp2_with fail
   refine HND.out.mono ?_;rintro e w2 ⟨rfl,hb2⟩;have HB2:=hI (HB1.out.trans (hb2.mono (by simp)));have y0:=(hb2.cell (p:=⟨w.heap.size,0,none⟩) (by simp)).trans (HCE.out 0 _ rfl);have y1:=(hb2.cell (p:=⟨w.heap.size,1,none⟩) (by simp)).trans (HCE.out 1 _ rfl);have y2:=(hb2.cell (p:=⟨w.heap.size,2,none⟩) (by simp)).trans (HCE.out 2 _ rfl);have y3:=(hb2.cell (p:=⟨w.heap.size,3,none⟩) (by simp)).trans (HCE.out 3 _ rfl);have y4:=(hb2.cell (p:=⟨w.heap.size,4,none⟩) (by simp)).trans (HCE.out 4 _ rfl);have y5:=(hb2.cell (p:=⟨w.heap.size,5,none⟩) (by simp)).trans (HCE.out 5 _ rfl);have y6:=(hb2.cell (p:=⟨w.heap.size,6,none⟩) (by simp)).trans (HCE.out 6 _ rfl);have y7:=(hb2.cell (p:=⟨w.heap.size,7,none⟩) (by simp)).trans (HCE.out 7 _ rfl);have y8:=(hb2.cell (p:=⟨w.heap.size,8,none⟩) (by simp)).trans (HCE.out 8 _ rfl);have y9:=(hb2.cell (p:=⟨w.heap.size,9,none⟩) (by simp)).trans (HCE.out 9 _ rfl);have y10:=(hb2.cell (p:=⟨w.heap.size,10,none⟩) (by simp)).trans (HCE.out 10 _ rfl);have y11:=(hb2.cell (p:=⟨w.heap.size,11,none⟩) (by simp)).trans (HCE.out 11 _ rfl);have y12:=(hb2.cell (p:=⟨w.heap.size,12,none⟩) (by simp)).trans (HCE.out 12 _ rfl);have hz2:w.heap.size<w2.heap.size:=(by have:=hb2.size;simp at this;omega);clear hb2;obtain⟨nn,hnn⟩:∃ nn,nodesP p 0=nn:=⟨_,rfl⟩;rw [hnn] at HF0 ⊢;clear hnn
   by_cases hn24:24<nn
   · have HF:=hI (show Zed ks ps p=2 by rw [HF0.out,if_pos (.inl hn24)])
     go_wp2_with fail
     go_ret;exact⟨by rw [HF.out];rfl,HB2.out⟩
   · have hd:decide (24<nn)=false:=decide_eq_false hn24;have HN24:=hI hn24
     go_wp2_with fail
     refine(HDP.out _ HB2.out).mono ?_;rintro e w3 ⟨rfl,hb3⟩;have HB3:=hI (HB2.out.trans (hb3.mono (by omega)));have z0:=c9Q hb3 hz2 y0;have z1:=c9Q hb3 hz2 y1;have z2:=c9Q hb3 hz2 y2;have z3:=c9Q hb3 hz2 y3;have z4:=c9Q hb3 hz2 y4;have z5:=c9Q hb3 hz2 y5;have z6:=c9Q hb3 hz2 y6;have z7:=c9Q hb3 hz2 y7;have z8:=c9Q hb3 hz2 y8;have z9:=c9Q hb3 hz2 y9;have z10:=c9Q hb3 hz2 y10;have z11:=c9Q hb3 hz2 y11;have z12:=c9Q hb3 hz2 y12;have hz3:w.heap.size<w3.heap.size:=(by have:=hb3.size;omega);clear hb3 y0 y1 y2 y3 y4 y5 y6 y7 y8 y9 y10 y11 y12;cases hdp:deepP p 8 with
     | true =>
      have HF:=hI (show Zed ks ps p=2 by rw [HF0.out,if_pos (.inr hdp)]);clear hdp
      go_wp2_with fail
      go_ret;exact⟨by rw [HF.out];rfl,HB3.out⟩
     | false =>
      have HF1:=hI (show Zed ks ps p=if predOk ks ps p=false then 50 else 0 by rw [HF0.out,if_neg (by rw [hdp];simp;have:=HN24.out;omega)]);clear hdp
      go_wp2_with fail
      refine(HVA.out _ HB3.out).mono ?_;rintro e w4 ⟨rfl,hb4⟩;have HB4:=hI (HB3.out.trans (hb4.mono (by omega)));clear hb4 z0 z1 z2 z3 z4 z5 z6 z7 z8 z9 z10 z11 z12;cases hv:predOk ks ps p with
      | false =>
       have HF:=hI (show Zed ks ps p=50 by rw [HF1.out,if_pos hv]);clear hv
       go_wp2_with fail
       go_ret;exact⟨by rw [HF.out];rfl,HB4.out⟩
      | true =>
       have HF:=hI (show Zed ks ps p=0 by rw [HF1.out,if_neg (by simp [hv])]);clear hv
       go_wp2_with fail
       go_ret;exact⟨by rw [HF.out];rfl,HB4.out⟩
end Go.Proofs.Ytkpjjfhfbpfjpaa
