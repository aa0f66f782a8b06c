import Derived.Test.YtkpjjfhfbpfjpaaGreatK42e91f
set_option linter.unusedVariables false
set_option linter.unusedSimpArgs false
set_option maxRecDepth 100000
set_option maxHeartbeats 8000000
namespace Go.Proofs.YtkpjjfhfbpfjpaaGreat
open Go.RowKit
theorem set_first {w:World} {g:Nat} {b b':Int} (hb:w.heap[g]?=some (.cells #[.int .i64 b] 3 (0,0))) (o:Obj) :
  ((w.setCell ⟨g,0,none⟩ (.int .i64 b')).alloc o).heap[g]?=some (.cells #[.int .i64 b'] 3 (0,0))∧w.grownBy ((w.setCell ⟨g,0,none⟩ (.int .i64 b')).alloc o) (some g):=by
 have hlt:g<(w.setCell ⟨g,0,none⟩ (.int .i64 b')).heap.size:=(by have:=Zad hb;simpa using this);refine⟨(Below.heap_alloc _ _ _ hlt).trans (by simp [World.setCell,Array.getElem?_modify,hb]),?_⟩;refine⟨rfl,rfl,rfl,by simp,fun k hk hne=>?_⟩;rw [Below.heap_alloc _ _ _ (by simpa using hk)];exact Below.heap_setCell w ⟨g,0,none⟩ _ k (fun e=>hne (by rw [e]))
theorem ZbV {l:List Pred} {k:Nat} {p:Pred} (hk:k<l.length) (e:l.getD k p0=p):SizeOf.sizeOf p<SizeOf.sizeOf l:=by
 subst e;have:l.getD k p0=l[k]:=(by simp [List.getD,hk]);rw [this];exact List.sizeOf_lt_of_mem (List.getElem_mem _)
theorem small_any:∀ (n:Nat) (op cmp:Int) (l r:Opd) (args:List Pred) (A:Option Addr) (c:Nat) (lv b:Int) (g:Nat) (S:Nat→Prop) (w:World),SizeOf.sizeOf (Pred.mk op cmp l r args)≤n→PredS w S A args→(∀ x,S x→x<w.heap.size∧x≠g)→w.heap[g]?=some (.cells #[.int .i64 b] 3 (0,0))→1≤lv→lv≤9→0≤b→b≤1000 →
  Calls Tryz.prog 129 #[pAgg op cmp l r A args.length c,.int .i64 lv,.pointer (some ⟨g,0,none⟩)] w (SmallPost g (smallP (.mk op cmp l r args) lv b) w):=by
 intro n;induction n with
 | zero=>intro op cmp l r args A c lv b g S w hn;simp at hn
 | succ n ih =>
  intro op cmp l r args A c lv b g S w hn hp hS hb hlv1 hlv2 hb0 hb1;have hgl:g<w.heap.size:=Zad hb;have hal:=hp.len;have HP:=hI hp;have IH:=hI ih;have HN:=hI (show SizeOf.sizeOf args≤n by simp at hn;omega);have HW:=hI (set_first (b':=b - 1) hb (.cells #[.int .i64 op,.int .i64 cmp,.int .i64 l.kind,.int .i64 l.index,.int .i64 l.value.k,.int .i64 l.value.i,.string l.value.t,.int .i64 r.kind,.int .i64 r.index,.int .i64 r.value.k,.int .i64 r.value.i,.string r.value.t,.slice A args.length c] 93));have g0:w.cell? ⟨g,0,none⟩=some (.int .i64 b):=(by simp [World.cell?,hb]);have gf:w.frozen? ⟨g,0,none⟩=false:=(by simp [World.frozen?,hb]);clear hp hb ih hn
  by_cases hs:b - 1<0
  · have HF:=hI (show smallP (.mk op cmp l r args) lv b=(false,b - 1) by unfold smallP;rw [if_pos (.inl hs)]);go_enter Tryz.func129,Tryz.ntmps129
    go_wp2_with fail
    go_ret;rw [HF.out];exact⟨rfl,HW.out.1,HW.out.2⟩
  · by_cases hv:8<lv
    · have HF:=hI (show smallP (.mk op cmp l r args) lv b=(false,b - 1) by unfold smallP;rw [if_pos (.inr hv)]);go_enter Tryz.func129,Tryz.ntmps129
      go_wp2_with fail
      go_ret;rw [HF.out];exact⟨rfl,HW.out.1,HW.out.2⟩
    · have HF:=hI (show smallP (.mk op cmp l r args) lv b=smallL args (lv+1) (b - 1) by unfold smallP;rw [if_neg (by omega)]);go_enter Tryz.func129,Tryz.ntmps129
      go_wp2_with fail
      go_loopw [25] (fun i wr=>∃ (k:Nat) (bk:Int),k≤args.length∧i=.int .i64 k∧smallL args (lv+1) (b - 1)=smallL (args.drop k) (lv+1) bk∧0≤bk∧bk≤1000∧wr.heap[g]?=some (.cells #[.int .i64 bk] 3 (0,0))∧w.grownBy wr (some g)) (fun i _=>args.length - (intOf i).toNat)
      case atStart=>exact⟨0,b - 1,Nat.zero_le _,rfl,by simp,by omega,by omega,HW.out.1,HW.out.2⟩
      case round =>
       obtain⟨k,bk,hk,rfl,ht,hk0,hk1,hbk,hg⟩:=hrel;have HT:=hI ht;have HBK:=hI hbk;have HG:=hI hg;have hsz:=hg.size;clear ht hbk hg g0 gf
       by_cases hkl:k<args.length
       · have HPS:=hI (HP.out.keep (Same.of_grown HG.out (fun x hx=>⟨(hS x hx).1,fun e=>(hS x hx).2 (Option.some.inj e)⟩)));obtain⟨b2,o2,rfl,hb2,op',cmp',lf,rt,args',A',c',hpe,hpa⟩:=HPS.out.at_ hkl;have HSTEP:=hI (smallL_drop args (lv+1) bk k hkl);rw [hpe] at HSTEP;have HSZ:=hI (ZbV hkl hpe);have HLE:=hI (smallP_le (.mk op' cmp' lf rt args') (lv+1) bk hk0);have f1:=hpa.fop;have f2:=hpa.fcmp;have f3:=hpa.lk;have f4:=hpa.li;have f6:=hpa.lvk;have f7:=hpa.lvi;have f8:=hpa.lvt;have f9:=hpa.rk;have f10:=hpa.ri;have f11:=hpa.rvk;have f12:=hpa.rvi;have f13:=hpa.rvt;have f5:=hpa.fargs;have HPA:=hI hpa.pS;have hl2:b2<wr.heap.size:=(by have:=(hS b2 hb2).1;omega);clear hpa hpe
         go_wp2_with fail
         refine(IH.out op' cmp' lf rt args' A' c' (lv+1) bk g S _ (by have:=HSZ.out;have:=HN.out;omega) (HPA.out.keep (fun x hx=>Below.heap_alloc _ _ _ (by have:=(hS x hx).1;omega))) (fun x hx=>⟨by have:=(hS x hx).1;simp;omega,(hS x hx).2⟩) ((Below.heap_alloc _ _ _ (by omega)).trans HBK.out) (by omega) (by omega) hk0 hk1).mono ?_;rintro e w2 ⟨rfl,hb3,hg3⟩;have HG3:=hI ((HG.out.trans (World.grownBy_alloc wr _ (some g))).trans hg3);have HB3:=hI hb3;clear hb3 hg3
         by_cases hr:(smallP (.mk op' cmp' lf rt args') (lv+1) bk).1=true
         · have HR:=hI hr;rw [hr];clear hr
           go_wp2_with fail
           go_roundw
           case rel=>exact⟨k+1,_,by omega,by go_num,by rw [HT.out,HSTEP.out,if_pos HR.out],HLE.out.2 HR.out,by have:=HLE.out.1;omega,HB3.out,HG3.out⟩
           case measure=>simp [intOf];omega
         · have HR:=hI (show (smallP (.mk op' cmp' lf rt args') (lv+1) bk).1=false by simpa using hr);rw [HR.out];clear hr
           go_wp2_with fail
           go_ret;rw [HF.out,HT.out,HSTEP.out,if_neg (by rw [HR.out];simp)];exact⟨rfl,HB3.out,HG3.out⟩
       · have HE:=hI (show smallL args (lv+1) (b - 1)=(true,bk) by rw [HT.out,show k=args.length by omega,List.drop_length];unfold smallL;rfl)
         go_wp2_with fail
         go_ret;rw [HF.out,HE.out];exact⟨rfl,HBK.out,HG.out⟩
end Go.Proofs.YtkpjjfhfbpfjpaaGreat
