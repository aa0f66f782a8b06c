import Derived.Test.YtkpjjfhfbpfjpaaGreatK70ce45
import Derived.Test.YtkpjjfhfbpfjpaaGreatKda88f1
set_option linter.unusedVariables false
set_option linter.unusedSimpArgs false
set_option maxRecDepth 100000
set_option maxHeartbeats 8000000
namespace Go.Proofs.YtkpjjfhfbpfjpaaGreat
open Go.RowKit
theorem Zet (k:Int) (w:World):Calls Tryz.prog 126 #[.int .i64 k] w (fun e w'=>e=.returned (.bool (Zba k))∧w'=w):=by
 by_cases h3:k=3
 · subst h3;go_enter Tryz.func126,Tryz.ntmps126
   go_wp2_with fail
   go_ret;exact⟨rfl,rfl⟩
 · have e3:(k == 3)=false:=beq_eq_false_iff_ne.2 h3
   by_cases h4:k=4
   · subst h4;go_enter Tryz.func126,Tryz.ntmps126
     go_wp2_with fail
     go_ret;exact⟨rfl,rfl⟩
   · have e4:(k == 4)=false:=beq_eq_false_iff_ne.2 h4;have HF:=hI (show Zba k=(k == 5) by unfold Zba;simp [h3,h4];rfl);clear h3 h4;go_enter Tryz.func126,Tryz.ntmps126
     go_wp2_with fail
     go_ret;exact⟨by rw [HF.out];rfl,rfl⟩
theorem Zbm (A:Option Addr) (ca:Nat) (l:List Int) (S:Nat→Prop) (w:World) (h:IntS w S A l):Calls Tryz.prog 114 #[.slice A l.length ca] w (fun e w'=>e=.returned (.bool (ZaG l))∧w'=w):=by
 have hl:=h.len;have HI:=hI h;clear h;go_enter Tryz.func114,Tryz.ntmps114
 go_wp2_with fail
 go_loopw [7] (fun i wr=>∃ k:Nat,k≤l.length∧i=.int .i64 k∧ZaG l=ZaG (l.drop k)∧wr=w) (fun i _=>l.length - (intOf i).toNat)
 case atStart=>exact⟨0,Nat.zero_le _,rfl,by simp,rfl⟩
 case round =>
  obtain⟨k,hk,rfl,ht,rfl⟩:=hrel;have HT:=hI ht;clear ht
  by_cases hkl:k<l.length
  · obtain⟨b1,o1,rfl,hb1,d1⟩:=HI.out.at_ hkl;have HSTEP:=hI (Zev l k hkl);generalize l.getD k 0=x at d1 HSTEP
    go_wp2_with fail
    refine(Zet x _).mono ?_;rintro e w1 ⟨rfl,rfl⟩;obtain⟨bb,hbb⟩:∃ bb,Zba x=bb:=⟨_,rfl⟩;rw [hbb] at HSTEP ⊢;clear hbb;cases bb
    · go_wp2_with fail
      go_ret;exact⟨by rw [HT.out,HSTEP.out];rfl,rfl⟩
    · go_wp2_with fail
      go_roundw
      case rel=>exact⟨k+1,by omega,by go_num,by rw [HT.out,HSTEP.out];rfl,trivial⟩
      case measure=>simp [intOf];omega
  · have HF:=hI (show ZaG l=true by rw [HT.out,show k=l.length by omega,List.drop_length];rfl)
    go_wp2_with fail
    go_ret;exact⟨by rw [HF.out];rfl,rfl⟩
theorem nodesP_range (p:Pred) (n:Int) (h0:0≤n) (h:n≤24):0≤nodesP p n∧nodesP p n≤25:=by
 have h2:=nodesP_spec p n h
 by_cases h3:cntP p+n≤24
 · rw [h2.1 h3];omega
 · rw [h2.2 (by omega)];omega
theorem rnodes_any:∀ (n:Nat) (op cmp:Int) (l r:Opd) (args:List Pred) (A:Option Addr) (c:Nat) (m:Int) (S:Nat→Prop) (w:World),SizeOf.sizeOf (Pred.mk op cmp l r args)≤n→PredS w S A args→(∀ x,S x→x<w.heap.size)→0≤m→m≤24 →
  Calls Tryz.prog 115 #[pAgg op cmp l r A args.length c,.int .i64 m] w (ZbH (nodesP (.mk op cmp l r args) m) w):=by
 intro n;induction n with
 | zero=>intro op cmp l r args A c m S w hn;simp at hn
 | succ n ih =>
  intro op cmp l r args A c m S w hn hp hS hm0 hm1;have hal:=hp.len;have HP:=hI hp;have IH:=hI ih;have HN:=hI (show SizeOf.sizeOf args≤n by simp at hn;omega);have HF:=hI (show nodesP (.mk op cmp l r args) m=nodesL args (m+1) by unfold nodesP;rfl);clear hp ih hn;have HB0:=hI ((Below.refl w.heap.size w).alloc nR (.cells #[.int .i64 op,.int .i64 cmp,.int .i64 l.kind,.int .i64 l.index,.int .i64 l.value.k,.int .i64 l.value.i,.string l.value.t,.int .i64 r.kind,.int .i64 r.index,.int .i64 r.value.k,.int .i64 r.value.i,.string r.value.t,.slice A args.length c] 93));go_enter Tryz.func115,Tryz.ntmps115
  go_wp2_with fail
  go_loopw [1,5] (fun v i wr=>∃ (k:Nat) (x:Int),k≤args.length∧i=.int .i64 k∧v=.int .i64 x∧0≤x∧x≤25∧nodesL args (m+1)=nodesL (args.drop k) x∧Below w.heap.size w wr∧wr.cell? ⟨w.heap.size,12,none⟩=some (.slice A args.length c)∧w.heap.size<wr.heap.size) (fun _ i _=>args.length - (intOf i).toNat)
  case atStart=>exact⟨0,m+1,Nat.zero_le _,rfl,rfl,by omega,by omega,by simp,HB0.out,Zah rfl rfl,by simp⟩
  case round =>
   obtain⟨k,x,hk,rfl,rfl,hx0,hx1,ht,hbel,q0,q1⟩:=hrel;have HT:=hI ht;have HB:=hI hbel;have hsz:=hbel.size;clear ht hbel
   by_cases hkl:k<args.length
   · by_cases hx:x≤24
     · have HSTEP:=hI (nodesL_drop args x k hkl);obtain⟨b2,o2,rfl,hb2,op',cmp',lf,rt,args',A',c',hpe,hpa⟩:=(HP.out.keep (Same.of_below HB.out hS)).at_ hkl;have f1:=hpa.fop;have f2:=hpa.fcmp;have f3:=hpa.lk;have f4:=hpa.li;have f5:=hpa.lvk;have f6:=hpa.lvi;have f7:=hpa.lvt;have f8:=hpa.rk;have f9:=hpa.ri;have f10:=hpa.rvk;have f11:=hpa.rvi;have f12:=hpa.rvt;have f13:=hpa.fargs;have HPA:=hI hpa;have HSZ:=hI (Zce hkl hpe);have hl2:b2<wr.heap.size:=(by have:=hS b2 hb2;omega);have hal':=hpa.pS.len;rw [hpe] at HSTEP;have HRG:=hI (nodesP_range (.mk op' cmp' lf rt args') x hx0 hx);clear hpa hpe
       go_wp2_with fail
       refine(IH.out op' cmp' lf rt args' A' c' x S _ (by have:=HSZ.out;have:=HN.out;omega) HPA.out.pS (fun b hb=>by have:=hS b hb;omega) hx0 hx).mono ?_;rintro e w2 ⟨rfl,hb3⟩;have HB3:=hI (HB.out.trans (hb3.mono hsz));have q2:=cQ hb3 q1 q0;have q3:w.heap.size<w2.heap.size:=(by have:=hb3.size;omega);clear hb3 q0;obtain⟨y,hy⟩:∃ y,nodesP (.mk op' cmp' lf rt args') x=y:=⟨_,rfl⟩;rw [hy] at HSTEP HRG ⊢;clear hy;obtain⟨hy0,hy1⟩:=HRG.out
       go_wp2_with fail
       go_roundw
       case rel=>exact⟨k+1,y,by omega,by go_num,rfl,hy0,hy1,by rw [HT.out,HSTEP.out,if_pos hx],HB3.out,q2,q3⟩
       case measure=>simp [intOf];omega
     · have HE:=hI (show nodesL args (m+1)=x by rw [HT.out,Zee _ _ (by omega)]);have hd:decide (x≤24)=false:=decide_eq_false hx
       go_wp2_with fail
       go_ret;exact⟨by rw [HF.out,HE.out];rfl,HB.out⟩
   · have HE:=hI (show nodesL args (m+1)=x by rw [HT.out,show k=args.length by omega,List.drop_length];unfold nodesL;rfl)
     go_wp2_with fail
     go_ret;exact⟨by rw [HF.out,HE.out];rfl,HB.out⟩
theorem rdeep_any:∀ (n:Nat) (op cmp:Int) (l r:Opd) (args:List Pred) (A:Option Addr) (c:Nat) (m:Int) (S:Nat→Prop) (w:World),SizeOf.sizeOf (Pred.mk op cmp l r args)≤n→PredS w S A args→(∀ x,S x→x<w.heap.size)→0≤m→m≤100 →
  Calls Tryz.prog 116 #[pAgg op cmp l r A args.length c,.int .i64 m] w (ZaI (deepP (.mk op cmp l r args) m) w):=by
 intro n;induction n with
 | zero=>intro op cmp l r args A c m S w hn;simp at hn
 | succ n ih =>
  intro op cmp l r args A c m S w hn hp hS hm0 hm1;have hal:=hp.len;have HP:=hI hp;have IH:=hI ih;have HN:=hI (show SizeOf.sizeOf args≤n by simp at hn;omega);clear hp ih hn;have HB0:=hI ((Below.refl w.heap.size w).alloc nR (.cells #[.int .i64 op,.int .i64 cmp,.int .i64 l.kind,.int .i64 l.index,.int .i64 l.value.k,.int .i64 l.value.i,.string l.value.t,.int .i64 r.kind,.int .i64 r.index,.int .i64 r.value.k,.int .i64 r.value.i,.string r.value.t,.slice A args.length c] 93))
  by_cases hz:m=0
  · have HF:=hI (show deepP (.mk op cmp l r args) m=true by unfold deepP;rw [if_pos hz]);subst hz;go_enter Tryz.func116,Tryz.ntmps116
    go_wp2_with fail
    go_ret;exact⟨by rw [HF.out];rfl,HB0.out⟩
  · have HF:=hI (show deepP (.mk op cmp l r args) m=deepL args (m - 1) by unfold deepP;rw [if_neg hz]);have hd:(m == 0)=false:=beq_eq_false_iff_ne.2 hz;have hm2:1≤m:=(by omega);go_enter Tryz.func116,Tryz.ntmps116
    go_wp2_with fail
    go_loopw [11] (fun i wr=>∃ (k:Nat),k≤args.length∧i=.int .i64 k∧deepL args (m - 1)=deepL (args.drop k) (m - 1)∧Below w.heap.size w wr∧wr.cell? ⟨w.heap.size,12,none⟩=some (.slice A args.length c)∧w.heap.size<wr.heap.size) (fun i _=>args.length - (intOf i).toNat)
    case atStart=>exact⟨0,Nat.zero_le _,rfl,by simp,HB0.out,Zah rfl rfl,by simp⟩
    case round =>
     obtain⟨k,hk,rfl,ht,hbel,q0,q1⟩:=hrel;have HT:=hI ht;have HB:=hI hbel;have hsz:=hbel.size;clear ht hbel
     by_cases hkl:k<args.length
     · have HSTEP:=hI (deepL_drop args (m - 1) k hkl);obtain⟨b2,o2,rfl,hb2,op',cmp',lf,rt,args',A',c',hpe,hpa⟩:=(HP.out.keep (Same.of_below HB.out hS)).at_ hkl;have f1:=hpa.fop;have f2:=hpa.fcmp;have f3:=hpa.lk;have f4:=hpa.li;have f5:=hpa.lvk;have f6:=hpa.lvi;have f7:=hpa.lvt;have f8:=hpa.rk;have f9:=hpa.ri;have f10:=hpa.rvk;have f11:=hpa.rvi;have f12:=hpa.rvt;have f13:=hpa.fargs;have HPA:=hI hpa;have HSZ:=hI (Zce hkl hpe);have hl2:b2<wr.heap.size:=(by have:=hS b2 hb2;omega);have hal':=hpa.pS.len;rw [hpe] at HSTEP;clear hpa hpe
       go_wp2_with fail
       refine(IH.out op' cmp' lf rt args' A' c' (m - 1) S _ (by have:=HSZ.out;have:=HN.out;omega) HPA.out.pS (fun b hb=>by have:=hS b hb;omega) (by omega) (by omega)).mono ?_;rintro e w2 ⟨rfl,hb3⟩;have HB3:=hI (HB.out.trans (hb3.mono hsz));have q2:=cQ hb3 q1 q0;have q3:w.heap.size<w2.heap.size:=(by have:=hb3.size;omega);clear hb3 q0;obtain⟨y,hy⟩:∃ y,deepP (.mk op' cmp' lf rt args') (m - 1)=y:=⟨_,rfl⟩;rw [hy] at HSTEP ⊢;clear hy;cases y
       · go_wp2_with fail
         go_roundw
         case rel=>exact⟨k+1,by omega,by go_num,by rw [HT.out,HSTEP.out];rfl,HB3.out,q2,q3⟩
         case measure=>simp [intOf];omega
       · go_wp2_with fail
         go_ret;exact⟨by rw [HF.out,HT.out,HSTEP.out];rfl,HB3.out⟩
     · have HE:=hI (show deepL args (m - 1)=false by rw [HT.out,show k=args.length by omega,List.drop_length];unfold deepL;rfl)
       go_wp2_with fail
       go_ret;exact⟨by rw [HF.out,HE.out];rfl,HB.out⟩
def ZbM (l:List ByteArray) (k:Nat):List ByteArray:=(l.take k).reverse
theorem Zfy {l:List ByteArray} {k:Nat} (h:k<l.length):ZbM l (k+1)=l[k] :: ZbM l k:=by
 unfold ZbM;rw [List.take_succ_eq_append_getElem h];simp
theorem ZgQ {l:List ByteArray} {k j:Nat} (h:j<k) (hj:j<l.length):inS (ZbM l k) l[j]=true:=by
 rw [Zhx];unfold ZbM;rw [List.mem_reverse,List.mem_take_iff_getElem];exact⟨j,by omega,rfl⟩
theorem Zgn {l:List ByteArray} {k:Nat} {s:ByteArray} (h:∀ j (hj:j<l.length),j<k→l[j]≠s):inS (ZbM l k) s=false:=by
 cases h9:inS (ZbM l k) s with
 | false=>rfl
 | true =>
  rw [Zhx] at h9;unfold ZbM at h9;rw [List.mem_reverse,List.mem_take_iff_getElem] at h9;obtain⟨j,hj,e⟩:=h9;exact absurd e (h j (by omega) (by omega))
def Zdk (seen:List ByteArray) (t:Tab):Bool:=Zbs t.name&&!inS seen t.name&&decide (1≤t.key)&&decide (t.key≤t.cols.length)&&ZaF [] t.cols
abbrev ZeF (l:List Tab):List ByteArray:=l.map (·.name)
abbrev Zfv (l:List Col):List ByteArray:=l.map (·.name)
theorem ZfT {l:List Tab} {k:Nat} (h:k<l.length):(ZeF l)[k]'(by simpa using h)=(l.getD k t0).name:=by simp [List.getD,h]
theorem Zga {l:List Col} {k:Nat} (h:k<l.length):(Zfv l)[k]'(by simpa using h)=(l.getD k c0).name:=by simp [List.getD,h]
theorem named_step (l:List Tab) (k:Nat) (h:k<l.length):Zax (ZbM (ZeF l) k) (l.drop k)=(Zdk (ZbM (ZeF l) k) (l.getD k t0)&&Zax (ZbM (ZeF l) (k+1)) (l.drop (k+1))):=by
 rw [Zdr _ _ _ h,Zfy (by simpa using h),ZfT h];rfl
theorem cols_step (l:List Col) (k:Nat) (h:k<l.length):ZaF (ZbM (Zfv l) k) (l.drop k)=(Zbs (l.getD k c0).name&&!inS (ZbM (Zfv l) k) (l.getD k c0).name&&Zba (l.getD k c0).kind&&ZaF (ZbM (Zfv l) (k+1)) (l.drop (k+1))):=by
 rw [ZdT _ _ _ h,Zfy (by simpa using h),Zga h]
theorem rtable_any (A0:Option Addr) (c0':Nat) (s:Sch) (k:Nat) (S:Nat→Prop) (w:World) (hs:TabS w S A0 s.tabs) (hS:∀ b,S b→b<w.heap.size) (hk:k<s.tabs.length) :
  Calls Tryz.prog 101 #[sAgg s.version A0 s.tabs.length c0',.int .i64 (k:Int)] w (ZaI (Zdk (ZbM (ZeF s.tabs) k) (s.tabs.getD k t0)) w):=by
 obtain⟨ver,tabs⟩:=s;simp only at hs hk ⊢;have hsl:=hs.len;have HS:=hI hs;obtain⟨b2,o2,rfl,hb2,A1,A2,A3,c1,c2,c3,hta⟩:=hs.at_ hk;obtain⟨k1,k2,k3,k4,k5,cS,rS,pS,-,-,-,htx⟩:=hta;have hcl:=cS.len;have HCS:=hI cS;have hl2:b2<w.heap.size:=hS b2 hb2
 have HSN:=hI (show ∀ j,j<k→(tabs.getD j t0).name=(tabs.getD k t0).name→inS (ZbM (ZeF tabs) k) (tabs.getD k t0).name=true from fun j hj e=>by
  rw [←e,←ZfT (by omega)];exact ZgQ hj (by simp;omega))
 have HNN:=hI (show (∀ j,j<k→(tabs.getD j t0).name≠(tabs.getD k t0).name)→inS (ZbM (ZeF tabs) k) (tabs.getD k t0).name=false from fun h=>Zgn fun j hj hjk e=>by
  rw [ZfT (by omega)] at e;exact h j hjk e)
 clear hs cS rS pS;generalize tabs.getD k t0=tb at k1 k2 k3 k4 k5 HCS htx hcl HSN HNN ⊢;generalize ZbM (ZeF tabs) k=sn at HSN HNN ⊢;obtain⟨tn,tc,tk,tr,tp⟩:=tb;simp only at k1 k2 k3 k4 k5 HCS htx hcl HSN HNN;have hki:(k:Int)<tabs.length:=(by omega);have HB0:=hI (((Below.refl w.heap.size w).alloc nR (.cells #[.int .i64 ver,.slice (some ⟨b2,o2,none⟩) tabs.length c0'] 28)).alloc (by simp) (.cells #[.string tn,.slice A1 tc.length c1,.int .i64 tk,.slice A2 tr.length c2,.slice A3 tp.length c3] 72));go_enter Tryz.func101,Tryz.ntmps101
 go_wp2_with fail
 refine(Zgt tn _ htx).mono ?_;rintro e w3 ⟨rfl,hb3⟩;have hz3:w.heap.size+1<w3.heap.size:=(by have:=hb3.size;simp at this;omega);have x1:w3.cell? ⟨w.heap.size,1,none⟩=some (.slice (some ⟨b2,o2,none⟩) tabs.length c0'):=cK hb3 (by simp);have x2:w3.cell? ⟨w.heap.size+1,0,none⟩=some (.string tn):=cQ hb3 (by simp) (by simp);have x3:w3.cell? ⟨w.heap.size+1,1,none⟩=some (.slice A1 tc.length c1):=cQ hb3 (by simp) (by simp);have x4:w3.cell? ⟨w.heap.size+1,2,none⟩=some (.int .i64 tk):=cQ hb3 (by simp) (by simp);have HB3:=hI (HB0.out.trans (hb3.mono (by simp;omega)));clear hb3 k1 k2 k3 k4 k5 HB0
 by_cases hn:Zbs tn=true
 · have HN:=hI hn;rw [hn];clear hn
   by_cases hc0:tc.length=0
   · have hd1:((tc.length:Int) == 0)=true:=(by simp [hc0])
     have HF:=hI (show Zdk sn ⟨tn,tc,tk,tr,tp⟩=false by
      unfold Zdk
      by_cases h:1≤tk
      · rw [show decide (tk≤((⟨tn,tc,tk,tr,tp⟩:Tab).cols.length:Int))=false from decide_eq_false (by simp only;omega)];simp
      · rw [show decide (1≤(⟨tn,tc,tk,tr,tp⟩:Tab).key)=false from decide_eq_false (by simp only;omega)];simp)
     clear hc0
     go_wp2_with fail
     go_ret;exact⟨by rw [HF.out];rfl,HB3.out⟩
   have hd1:((tc.length:Int) == 0)=false:=beq_false_of_ne (by omega)
   by_cases hk1:tk<1
   · have hd2:decide (tk<1)=true:=decide_eq_true hk1
     have HF:=hI (show Zdk sn ⟨tn,tc,tk,tr,tp⟩=false by
      unfold Zdk;rw [show decide (1≤(⟨tn,tc,tk,tr,tp⟩:Tab).key)=false from decide_eq_false (by simp only;omega)];simp)
     go_wp2_with fail
     go_ret;exact⟨by rw [HF.out];rfl,HB3.out⟩
   have hd2:decide (tk<1)=false:=decide_eq_false hk1
   by_cases hk2:(tc.length:Int)<tk
   · have hd3:decide ((tc.length:Int)<tk)=true:=decide_eq_true hk2
     have HF:=hI (show Zdk sn ⟨tn,tc,tk,tr,tp⟩=false by
      unfold Zdk;rw [show decide (tk≤((⟨tn,tc,tk,tr,tp⟩:Tab).cols.length:Int))=false from decide_eq_false (by simp only;omega)];simp)
     go_wp2_with fail
     go_ret;exact⟨by rw [HF.out];rfl,HB3.out⟩
   have hd3:decide ((tc.length:Int)<tk)=false:=decide_eq_false hk2
   have HOK:=hI (show Zdk sn ⟨tn,tc,tk,tr,tp⟩=(!inS sn tn&&ZaF [] tc) by
    unfold Zdk;rw [show Zbs (⟨tn,tc,tk,tr,tp⟩:Tab).name=true from HN.out,show decide (tk≤((⟨tn,tc,tk,tr,tp⟩:Tab).cols.length:Int))=true from decide_eq_true (by simp only;omega),show decide (1≤(⟨tn,tc,tk,tr,tp⟩:Tab).key)=true from decide_eq_true (by simp only;omega)];simp)
   clear HN
   go_wp2_with fail
   clear hd1 hd2 hd3 hk1 hk2
   go_loopw [6] (fun i wr=>∃ j:Nat,j≤k∧i=.int .i64 j∧(∀ q,q<j→(tabs.getD q t0).name≠tn)∧Below w3.heap.size w3 wr) (fun i _=>k - (intOf i).toNat)
   case atStart=>exact⟨0,Nat.zero_le _,rfl,fun q hq=>absurd hq (by omega),Below.refl _ _⟩
   case round =>
    obtain⟨j,hjk,rfl,hnq,hbel⟩:=hrel;have HNQ:=hI hnq;have HB:=hI hbel;have HBW:=hI (HB3.out.trans (hbel.mono (by omega)));have hzr:=hbel.size;have x1:=cJ hbel x1;have x2:=cJ hbel x2;have x3:=cJ hbel x3;clear hnq hbel
    by_cases hj:j<k
    · have hji:(j:Int)<k:=(by omega);have hjl:(j:Int)<tabs.length:=(by omega);obtain⟨b4,o4,eA0,hb4,B1,B2,B3,e1,e2,e3,hta⟩:=(HS.out.keep (Same.of_below HBW.out hS)).at_ (k:=j) (by omega);injection eA0 with eA0;injection eA0 with ea eb;subst ea eb;have l1:=hta.name;have hl4:b2<wr.heap.size:=(by omega);clear hta;have HQ:=hI (HSN.out j hj)
      have HS2:=hI (show (tabs.getD j t0).name≠tn→∀ q,q<j+1→(tabs.getD q t0).name≠tn from fun h q hq=>by
       rcases Nat.lt_or_ge q j with h9 | h9
       · exact HNQ.out q h9
       · obtain rfl:q=j:=(by omega);exact h)
      generalize (tabs.getD j t0).name=jn at l1 HQ HS2
      by_cases he:jn=tn
      · subst he;have HF:=hI (show Zdk sn ⟨jn,tc,tk,tr,tp⟩=false by rw [HOK.out,HQ.out rfl];rfl)
        go_wp2_with fail
        go_quiet (fail)
        go_wp2_with fail
        go_ret;exact⟨by rw [HF.out];rfl,Zag HBW.out _⟩
      · have hne:=ZcB he;have HC:=hI (HS2.out he);clear he
        go_wp2_with fail
        go_quiet (fail)
        go_wp2_with fail
        go_roundw
        case rel=>exact⟨j+1,by omega,by go_num,HC.out,Zag HB.out _⟩
        case measure=>simp [intOf];omega
    · have hji:¬ (j:Int)<k:=(by omega)
      have HI:=hI (show Zdk sn ⟨tn,tc,tk,tr,tp⟩=ZaF [] tc by
       rw [HOK.out,HNN.out fun q hq=>HNQ.out q (by omega)];rfl)
      clear HOK HNN HSN HNQ
      go_wp2_with fail
      obtain⟨w4,hw4⟩:∃ w4,wr=w4:=⟨_,rfl⟩;subst hw4
      go_loopw [54] (fun i wq=>∃ j:Nat,j≤tc.length∧i=.int .i64 j∧ZaF [] tc=ZaF (ZbM (Zfv tc) j) (tc.drop j)∧Below wr.heap.size wr wq) (fun i _=>tc.length - (intOf i).toNat)
      case atStart=>exact⟨0,Nat.zero_le _,rfl,by simp [ZbM],Below.refl _ _⟩
      case round =>
       obtain⟨q,hq,rfl,hcf,hbel⟩:=hrel;have HCF:=hI hcf;have HB2:=hI hbel;have HBW2:=hI (HBW.out.trans (hbel.mono (by omega)));have hzq:=hbel.size;have x3:=cJ hbel x3;clear hcf hbel
       by_cases hql:q<tc.length
       · have hqi:(q:Int)<tc.length:=(by omega);have HCQ:=hI (HCS.out.keep (Same.of_below HBW2.out hS));obtain⟨b5,o5,rfl,hb5,m0,m1⟩:=HCQ.out.at_ hql;have htq:=HCQ.out.txt hql;have hl5:b5<w.heap.size:=hS b5 hb5;have HSTEP:=hI (cols_step tc q hql)
         have HSC:=hI (show ∀ j,j<q→(tc.getD j c0).name=(tc.getD q c0).name→inS (ZbM (Zfv tc) q) (tc.getD q c0).name=true from fun j hj e=>by
          rw [←e,←Zga (by omega)];exact ZgQ hj (by simp;omega))
         have HNC:=hI (show (∀ j,j<q→(tc.getD j c0).name≠(tc.getD q c0).name)→inS (ZbM (Zfv tc) q) (tc.getD q c0).name=false from fun h=>Zgn fun j hj hjk e=>by
          rw [Zga (by omega)] at e;exact h j hjk e)
         generalize ZbM (Zfv tc) q=sc at HSTEP HSC HNC HCF;generalize tc.getD q c0=cq at m0 m1 htq HSTEP HSC HNC;obtain⟨cn,ck⟩:=cq;simp only at m0 m1 htq HSTEP HSC HNC
         go_wp2_with fail
         refine(Zgt cn _ htq).mono ?_;rintro e w5 ⟨rfl,hb6⟩;have HB5:=hI (HB2.out.trans (hb6.mono (by omega)));have HBW5:=hI (HBW2.out.trans (hb6.mono (by omega)));have hz5:=hb6.size;have x3:=cJ hb6 x3;have m1:=cJ hb6 m1;have m0:=cJ hb6 m0;clear hb6
         by_cases hn:Zbs cn=true
         · have HN:=hI hn;rw [hn];clear hn
           go_wp2_with fail
           refine(Zet ck _).mono ?_;rintro e w6 ⟨rfl,rfl⟩
           by_cases hck:Zba ck=true
           · have HST:=hI (show ZaF sc (tc.drop q)=(!inS sc cn&&ZaF (ZbM (Zfv tc) (q+1)) (tc.drop (q+1))) by rw [HSTEP.out,HN.out,hck];simp);rw [hck];clear hck HSTEP HN
             go_wp2_with fail
             go_loopw [8] (fun i wp=>∃ p:Nat,p≤q∧i=.int .i64 p∧(∀ j,j<p→(tc.getD j c0).name≠cn)∧Below w6.heap.size w6 wp) (fun i _=>q - (intOf i).toNat)
             case atStart=>exact⟨0,Nat.zero_le _,rfl,fun q hq=>absurd hq (by omega),Below.refl _ _⟩
             case round =>
              obtain⟨p,hp,rfl,hnp,hbel⟩:=hrel;have HNP:=hI hnp;have HB6:=hI hbel;have HBW6:=hI (HBW5.out.trans (hbel.mono (by omega)));have HB56:=hI (HB5.out.trans (hbel.mono (by omega)));have hz6:=hbel.size;have x3:=cJ hbel x3;have m0:=cJ hbel m0;clear hnp hbel
              by_cases hpq:p<q
              · have hpi:(p:Int)<q:=(by omega);have hpl:(p:Int)<tc.length:=(by omega);obtain⟨b7,o7,eA7,hb7,n0,n1⟩:=(HCS.out.keep (Same.of_below HBW6.out hS)).at_ (k:=p) (by omega);injection eA7 with eA7;injection eA7 with ea eb;subst ea eb;have HQ:=hI (HSC.out p hpq)
                have HS2:=hI (show (tc.getD p c0).name≠cn→∀ q,q<p+1→(tc.getD q c0).name≠cn from fun h q hq=>by
                 rcases Nat.lt_or_ge q p with h9 | h9
                 · exact HNP.out q h9
                 · obtain rfl:q=p:=(by omega);exact h)
                clear n1;generalize (tc.getD p c0).name=pn at n0 HQ HS2
                by_cases he:pn=cn
                · subst he;have HF:=hI (show ZaF [] tc=false by rw [HCF.out,HST.out,HQ.out rfl];rfl)
                  go_wp2_with fail
                  go_quiet (fail)
                  go_wp2_with fail
                  go_ret;exact⟨by rw [HI.out,HF.out];rfl,Zag HBW6.out _⟩
                · have hne:=ZcB he;have HC:=hI (HS2.out he);clear he
                  go_wp2_with fail
                  go_quiet (fail)
                  go_wp2_with fail
                  go_roundw
                  case rel=>exact⟨p+1,by omega,by go_num,HC.out,Zag HB6.out _⟩
                  case measure=>simp [intOf];omega
              · have hpi:¬ (p:Int)<q:=(by omega)
                have HC:=hI (show ZaF [] tc=ZaF (ZbM (Zfv tc) (q+1)) (tc.drop (q+1)) by
                 rw [HCF.out,HST.out,HNC.out fun j hj=>HNP.out j (by omega)];rfl)
                go_wp2_with fail
                go_roundw
                case rel=>exact⟨q+1,by omega,by go_num,HC.out,HB56.out⟩
                case measure=>simp [intOf];omega
           · have hck':Zba ck=false:=(by simpa using hck);have HF:=hI (show ZaF [] tc=false by rw [HCF.out,HSTEP.out,hck'];simp);rw [hck'];clear hck hck'
             go_wp2_with fail
             go_ret;exact⟨by rw [HI.out,HF.out];rfl,HBW5.out⟩
         · have hn':Zbs cn=false:=(by simpa using hn);have HF:=hI (show ZaF [] tc=false by rw [HCF.out,HSTEP.out,hn'];simp);rw [hn'];clear hn hn'
           go_wp2_with fail
           go_ret;exact⟨by rw [HI.out,HF.out];rfl,HBW5.out⟩
       · have hqi:¬ (q:Int)<tc.length:=(by omega);have HC:=hI (show ZaF [] tc=true by rw [HCF.out,List.drop_eq_nil_of_le (by omega)];rfl)
         go_wp2_with fail
         go_ret;exact⟨by rw [HI.out,HC.out];rfl,HBW2.out⟩
 · have hn':Zbs tn=false:=(by simpa using hn)
   have HF:=hI (show Zdk sn ⟨tn,tc,tk,tr,tp⟩=false by
    unfold Zdk;rw [show Zbs (⟨tn,tc,tk,tr,tp⟩:Tab).name=false from hn'];rfl)
   rw [hn'];clear hn hn'
   go_wp2_with fail
   go_ret;exact⟨by rw [HF.out];rfl,HB3.out⟩
end Go.Proofs.YtkpjjfhfbpfjpaaGreat
