import Derived.Test.YtkpjjfhfbpfjpaaK75686c
import Derived.Test.YtkpjjfhfbpfjpaaK64d55c
set_option linter.unusedVariables false
set_option linter.unusedSimpArgs false
set_option maxRecDepth 100000
set_option maxHeartbeats 8000000
namespace Go.Proofs.Ytkpjjfhfbpfjpaa
section
variable {α:Type} {f:α→α→Int}
def seg (l:List α) (i n:Nat):List α:=(l.drop i).take n
theorem ZfY {l:List α} {i n:Nat} (h:i+n≤l.length):(seg l i n).length=n:=by unfold seg;rw [List.length_take,List.length_drop];omega
theorem ZdH {P R:List α} {i n:Nat} (h:i+n≤P.length):seg (P++R) i n=seg P i n:=by
 unfold seg;rw [List.drop_append_of_le_length (by omega),List.take_append_of_le_length (by rw [List.length_drop];omega)]
theorem ZdG {P R:List α} {i n:Nat} (h:P.length≤i):seg (P++R) i n=seg R (i - P.length) n:=by
 unfold seg;rw [List.drop_append,List.drop_eq_nil_of_le h,List.nil_append]
theorem seg_here (P M Q:List α) {i n:Nat} (hi:P.length=i) (hn:M.length=n):seg (P++M++Q) i n=M:=by
 subst hi hn;rw [List.append_assoc,ZdG nR,Nat.sub_self,ZdH (by omega)];unfold seg;rw [List.drop_zero,List.take_length]
theorem seg_tail (P M:List α) {i n:Nat} (hi:P.length=i) (hn:M.length≤n):seg (P++M) i n=M:=by
 subst hi;rw [ZdG nR,Nat.sub_self];unfold seg;rw [List.drop_zero,List.take_of_length_le hn]
theorem seg_nil {l:List α} {i n:Nat} (h:l.length≤i):seg l i n=[]:=by unfold seg;rw [List.drop_eq_nil_of_le h];simp
theorem ZeQ {l:List α} {i n:Nat} (h:i+n≤l.length):l=l.take i++seg l i n++l.drop (i+n):=by
 unfold seg;rw [List.append_assoc,show l.drop (i+n)=(l.drop i).drop n by rw [List.drop_drop],List.take_append_drop,List.take_append_drop]
theorem ZeI (h:TPre f) (P M Q:List α):SameC f (P++Zaq f M++Q) (P++M++Q):=((SameC.refl P).app (ZbP h M).2).app (SameC.refl Q)
def SegsTo (f:α→α→Int) (n t:Nat) (l:List α):Prop:=∀ k,k<t→Std f (seg l (n*k) n)
def SegsFrom (f:α→α→Int) (n t:Nat) (l:List α):Prop:=∀ k,t≤k→Std f (seg l (n*k) n)
theorem SegsTo.step (h:TPre f) {n t:Nat} {l:List α} (hs:SegsTo f n t l) (hl:n*t+n≤l.length) {P M Q:List α} (e:l=P++M++Q) (hP:P.length=n*t) (hM:M.length=n):SegsTo f n (t+1) (P++Zaq f M++Q):=by
 intro k hk;rcases Nat.lt_or_ge k t with h1 | h1
 · have h2:n*k+n≤n*t:=(by rw [←Nat.mul_succ];exact Nat.mul_le_mul_left _ h1);have h3:=hs k h1;rw [e,List.append_assoc,ZdH (by omega)] at h3;rw [List.append_assoc,ZdH (by omega)];exact h3
 · have e1:k=t:=(by omega);subst e1;rw [seg_here P (Zaq f M) Q hP (by rw [ZaW,hM])];exact(ZbP h M).1
theorem SegsTo.last (h:TPre f) {n t:Nat} {l:List α} (hn:0<n) (hs:SegsTo f n t l) (hl:l.length≤n*t+n) {P M:List α} (e:l=P++M++[]) (hP:P.length=n*t):SegsFrom f n 0 (P++Zaq f M++[]):=by
 intro k _;rw [List.append_nil] at e ⊢;have hM:M.length≤n:=(by rw [e,List.length_append] at hl;omega);rcases Nat.lt_trichotomy k t with h1 | h1 | h1
 · have h2:n*k+n≤n*t:=(by rw [←Nat.mul_succ];exact Nat.mul_le_mul_left _ h1);have h3:=hs k h1;rw [e,ZdH (by omega)] at h3;rw [ZdH (by omega)];exact h3
 · subst h1;rw [seg_tail P (Zaq f M) hP (by rw [ZaW];exact hM)];exact(ZbP h M).1
 · have h2:n*t+n≤n*k:=(by rw [←Nat.mul_succ];exact Nat.mul_le_mul_left _ h1);rw [seg_nil (by rw [List.length_append,ZaW];omega)];exact List.Pairwise.nil
theorem SegsTo.skip {n t:Nat} {l:List α} (hs:SegsTo f n t l) (hf:Std f (l.drop (n*t))) (hl:l.length≤n*t+n):SegsFrom f n 0 l:=by
 intro k _;rcases Nat.lt_trichotomy k t with h1 | h1 | h1
 · exact hs k h1
 · subst h1;unfold seg;exact ZdF hf n
 · have h2:n*t+n≤n*k:=(by rw [←Nat.mul_succ];exact Nat.mul_le_mul_left _ h1);rw [seg_nil (by omega)];exact List.Pairwise.nil
theorem SegsFrom.step {n t:Nat} {l:List α} (hs:SegsFrom f n t l) {P M M' Q:List α} {u:Nat} (e:l=P++M++Q) (hm:M'.length=M.length) (hu:(P++M).length≤n*u) (ht:t≤u):SegsFrom f n u (P++M'++Q):=by
 intro k hk;have h2:n*u≤n*k:=Nat.mul_le_mul_left _ hk;have h3:=hs k (by omega);rw [List.length_append] at hu;rw [e,ZdG (by rw [List.length_append];omega)] at h3;rw [ZdG (by rw [List.length_append];omega)];rw [List.length_append] at h3 ⊢;rw [hm];exact h3
theorem segs_done (h:TPre f) {n:Nat} {l r:List α} (hs:SegsFrom f n 0 r) (hl:r.length≤n) (hc:SameC f r l):r=Zaq f l:=by
 refine Zel h ?_ hc;have h1:=hs 0 nR;rw [Nat.mul_zero] at h1;unfold seg at h1;rw [List.drop_zero,List.take_of_length_le hl] at h1;exact h1
end
open Go.RowKit
theorem sw_pair {P r T Q:List Chg} {x y:Chg} {z:Nat} (hz:P.length+r.length=z):sw chg0 (z+1) z (P++(r++[y]++x :: T)++Q)=P++(r++x :: (y :: T))++Q:=by
 have h1:=Zhl (d:=chg0) (P++r) [] (T++Q) y x;rw [List.length_append,hz] at h1
 have e:sw chg0 (z+1) z (P++(r++[y]++x :: T)++Q)=sw chg0 z (z+1) (P++(r++[y]++x :: T)++Q):=by
  unfold sw;rw [List.set_comm _ _ (by omega)]
 rw [e];simp only [List.length_nil,Nat.add_zero,List.append_assoc,List.cons_append,List.nil_append] at h1 ⊢;exact h1
theorem pair_at {P r T Q:List Chg} {x y:Chg} {z:Nat} (hz:P.length+r.length=z):(P++(r++[y]++x :: T)++Q).getD z chg0=y∧(P++(r++[y]++x :: T)++Q).getD (z+1) chg0=x:=by
 have e1:P++(r++[y]++x :: T)++Q=(P++r)++y :: (x :: T++Q):=(by simp);have e2:P++(r++[y]++x :: T)++Q=(P++r++[y])++x :: (T++Q):=(by simp);constructor
 · rw [e1,←hz,←List.length_append];exact Zgg _ _ _
 · rw [e2,show z+1=(P++r++[y]).length by simp;omega];exact Zgg _ _ _
theorem Zdt (A0:Option Addr) (c0':Nat) (s:Sch) (gs g c N base:Nat) (S:Nat→Prop) (hg:gs≠g) (hN1:N≤1000) (P l Q:List Chg) (na nb:Nat) (w:World) (hP:P.length=na) (hb:na+l.length=nb) (hN:(P++l++Q).length=N) (ht:∀ x ∈ l,0≤x.table∧x.table≤1000000) (hc:CapS w s A0 c0' gs) (hs:TabS w S A0 s.tabs) (ho:OwnD w base 53 3 S (.slice (some ⟨g,0,none⟩) N c) ((P++l++Q).map Zal)) :
  Calls Try.prog 122 #[.slice (some ⟨g,0,none⟩) N c,.int .i64 na,.int .i64 nb,.func (.func 80) #[] #[.pointer (some ⟨gs,0,none⟩)]] w (Zbw base S (.slice (some ⟨g,0,none⟩) N c) (P++Zaq (cmpC s) l++Q) w):=by
 have HC:=hI hc;have HS:=hI hs;have HO:=hI ho;have HTT:=hI ht;have HP:=hI hP;have HNL:=hI hN;have hnN:nb≤N:=(by rw [←hN];simp;omega);have hSw:∀ b,S b→b<w.heap.size:=(fun b hb=>by obtain⟨_,_,_,h3⟩:=ho;exact(h3 b hb).1);have HNS:=hI (show ∀ b,S b→b≠g from fun b hb e=>by obtain⟨_,_,_,h3⟩:=ho;exact(h3 b hb).2 (by subst e;rfl));obtain⟨nl,hnl⟩:∃ nl,l.length=nl:=⟨_,rfl⟩;have HLL:=hI hnl;rw [hnl] at hb;clear hc hs ho ht hP hN hnl;go_enter Try.func122,Try.ntmps122
 go_wp2_with fail
 go_loopw [8] (fun i wr=>∃ k z:Nat,1≤k∧(k≤nl∨k=1)∧na+k=z∧i=.int .i64 z∧OwnD wr base 53 3 S (.slice (some ⟨g,0,none⟩) N c) ((P++(Zaq (cmpC s) (l.take k)++l.drop k)++Q).map Zal)∧Fr (fun b=>some b=(Value.slice (some ⟨g,0,none⟩) N c).ownBlock) w wr) (fun i _=>nb - (intOf i).toNat)
 case atStart =>
  refine⟨1,na+1,by omega,.inr rfl,rfl,by go_num,?_,Fr.refl _ _⟩;have e:Zaq (cmpC s) (l.take 1)=l.take 1:=(by cases l<;>rfl);rw [e,List.take_append_drop];exact HO.out
 case round =>
  obtain⟨k,z,hk1,hk2,hz,rfl,hown,hfr⟩:=hrel;have HOW:=hI hown;have HFR:=hI hfr;have hsz:=hfr.size;clear hown hfr HO
  by_cases hkl:k<nl
  · have hzn:z<nb:=(by omega);have hdz:decide (z<nb)=true:=decide_eq_true hzn;have hkl':k<l.length:=(by rw [HLL.out];exact hkl);have HSN:=hI (show Zaq (cmpC s) (l.take (k+1))=ins (cmpC s) (l.getD k chg0) (Zaq (cmpC s) (l.take k)) by rw [List.take_succ_eq_append_getElem hkl',ZfE];simp [List.getD,hkl']);have HDK:=hI (Zgh hkl');have HLK:=hI (show (Zaq (cmpC s) (l.take k)).length=k by rw [ZaW,List.length_take,HLL.out];omega);have HTX0:=hI (HTT.out (l.getD k chg0) (by simp [List.getD,hkl']));have HTP:=hI (show ∀ y ∈ Zaq (cmpC s) (l.take k),0≤y.table∧y.table≤1000000 from fun y hy=>HTT.out y (List.mem_of_mem_take ((ZeV _ _ _).1 hy)));have HRL:=hI (show (l.drop (k+1)).length=nl - (k+1) by rw [List.length_drop,HLL.out]);rw [HDK.out] at HOW;generalize Zaq (cmpC s) (l.take k)=pre at HSN HLK HTP HOW;generalize l.getD k chg0=x at HSN HTX0 HOW HDK;clear hkl'
    go_wp2_with fail
    go_loopw [9] (fun i wq=>∃ j z':Nat,na+j=z'∧i=.int .i64 z'∧∃ p q:List Chg,p.length=j∧p++q=pre∧(∀ y ∈ q,cmpC s x y<0)∧OwnD wq base 53 3 S (.slice (some ⟨g,0,none⟩) N c) ((P++(p++x :: (q++l.drop (k+1)))++Q).map Zal)∧Fr (fun b=>some b=(Value.slice (some ⟨g,0,none⟩) N c).ownBlock) w wq) (fun i _=>(intOf i).toNat)
    case atStart=>exact⟨k,z,hz,rfl,pre,[],HLK.out,by simp,fun y hy=>by simp at hy,by simpa using HOW.out,HFR.out⟩
    case round =>
     clear HOW HFR hsz;obtain⟨j,zj,hzj,rfl,p,q,hpj,hpq,hlt,hown,hfr⟩:=hrel;have HOW:=hI hown;have HFR:=hI hfr;have hsz:=hfr.size;have HPQ:=hI hpq;have HLT:=hI hlt;have HPJ:=hI hpj;have hjk:j≤k:=(by have:=HLK.out;rw [←hpq,List.length_append] at this;omega)
     have HLEN:=hI (show (P++(p++x :: (q++l.drop (k+1)))++Q).length=N by
      have h1:=HLK.out;rw [←hpq,List.length_append] at h1;rw [←HNL.out];simp only [List.length_append,List.length_cons];have:=HRL.out;have:=HLL.out;omega)
     clear hown hfr hpq hlt hpj
     by_cases hj0:j=0
     · subst hj0;have hp0:p=[]:=List.eq_nil_of_length_eq_zero HPJ.out;subst hp0;have HFIN:=hI (show Zaq (cmpC s) (l.take (k+1))++l.drop (k+1)=[]++x :: (q++l.drop (k+1)) by rw [HSN.out,←HPQ.out,ZfG (cmpC s) x [] q HLT.out (by simp)];simp);have ez:zj=na:=(by omega);subst ez;have hd:decide ((zj:Int)<(zj:Int))=false:=by simp
       go_wp2_with fail
       go_quiet (fail)
       go_wp2_with fail
       go_roundw
       case rel=>exact⟨k+1,z+1,by omega,.inl hkl,by omega,by go_num,by rw [HFIN.out];exact HOW.out.keep nR (fun _ _=>rfl) (fun _ _=>rfl),HFR.out.drewN _⟩
       case measure=>(simp [intOf];omega)
     · obtain⟨i,rfl⟩:∃ i,j=i+1:=⟨j - 1,by omega⟩
       obtain⟨r,y,hpr⟩:∃ r y,p=r++[y]:=by
        rcases List.eq_nil_or_concat p with h | ⟨r,y,h⟩
        · rw [h] at HPJ;exact absurd HPJ.out (by simp)
        · exact⟨r,y,by simpa using h⟩
       subst hpr;have HRI:=hI (show r.length=i by have:=HPJ.out;simp at this;omega);obtain⟨z',rfl⟩:∃ z',zj=z'+1:=⟨na+i,by omega⟩;have HZ:=hI (show P.length+r.length=z' by rw [HP.out,HRI.out];omega);obtain⟨ey,ex⟩:=pair_at (P:=P) (r:=r) (T:=q++l.drop (k+1)) (Q:=Q) (x:=x) (y:=y) HZ.out;have HSWL:=hI (sw_pair (P:=P) (r:=r) (T:=q++l.drop (k+1)) (Q:=Q) (x:=x) (y:=y) HZ.out);obtain⟨LL,hLL⟩:∃ LL,P++(r++[y]++x :: (q++l.drop (k+1)))++Q=LL:=⟨_,rfl⟩;have HLLE:=hI hLL;rw [hLL] at ey ex HOW HSWL HLEN;clear hLL;obtain⟨XA,Xc,XB,Xe,d0,d1,d2,hX,hgl,hfz⟩:=OwnD.el HOW.out (i:=z'+1) (by rw [HLEN.out];omega);obtain⟨YA,Yc,YB,Ye,f0,f1,f2,hY,-,-⟩:=OwnD.el HOW.out (i:=z') (by rw [HLEN.out];omega);rw [ex] at d0 d1 d2 hX;rw [ey] at f0 f1 f2 hY;have HEX:=hI ex;have HEY:=hI ey;have HVX:=hI hX;have HVY:=hI hY;have hy1:=hX.r1.len;have hy2:=hX.r2.len;have hx1:=hY.r1.len;have hx2:=hY.r2.len;have HTY:=hI (HTP.out y (by rw [←HPQ.out];simp));have HTX:=HTX0;have HFZ:=hI hfz;clear hX hY ex ey hfz hj0;have HCr:=hI (HC.out.keep (HFR.out.block gs HC.out.ls (fun e=>hg (by simpa [Value.ownBlock] using e))) HFR.out.size);have HSr:=hI (HS.out.keep (HFR.out.same (fun b hb=>⟨hSw b hb,fun e=>HNS.out b hb (by simpa [Value.ownBlock] using e)⟩)));have hSr:∀ b,S b→b<wr.heap.size:=(fun b hb=>by have:=hSw b hb;omega);obtain⟨cv,hcv⟩:∃ cv,cmpC s x y=cv:=⟨_,rfl⟩;have HCV:=hI hcv;clear hcv;obtain⟨tx,ox,nx'⟩:=x;obtain⟨ty,oy,ny'⟩:=y;simp only at d0 d1 d2 f0 f1 f2 hy1 hy2 hx1 hx2;have hd:decide ((na:Int)<(z':Int)+1)=true:=decide_eq_true (by omega);have q3:IntKind.i64.wrap ((z':Int)+1 - 1)=z':=(by rw [show (z':Int)+1 - 1=(z':Int) by omega];exact IntWalk.i64_in _ (by omega));have q4:IntKind.i64.wrap (z':Int)=z':=IntWalk.i64_in _ (by omega);have p0:(0:Int)≤(z':Int):=(by omega);have p1:(z':Int)<(N:Int):=(by omega);have p2:(0:Int)≤(z':Int)+1:=(by omega);have p3:(z':Int)+1<(N:Int):=by omega
       go_wp2_with fail
       go_region_held3 (fun w'=>Below wr.heap.size wr w'∧w'.cell? ⟨g,(z'+1)*3,none⟩=some (.int .i64 tx)∧w'.cell? ⟨g,(z'+1)*3+1,none⟩=some (.slice XA ox.length Xc)∧w'.cell? ⟨g,(z'+1)*3+2,none⟩=some (.slice XB nx'.length Xe)∧w'.cell? ⟨g,z'*3,none⟩=some (.int .i64 ty)∧w'.cell? ⟨g,z'*3+1,none⟩=some (.slice YA oy.length Yc)∧w'.cell? ⟨g,z'*3+2,none⟩=some (.slice YB ny'.length Ye))
        (first | exact⟨(Below.refl _ _).drew,d0,d1,d2,f0,f1,f2⟩ | exact⟨hv1,c9Q hv1 hgl d0,c9Q hv1 hgl d1,c9Q hv1 hgl d2,c9Q hv1 hgl f0,c9Q hv1 hgl f1,c9Q hv1 hgl f2⟩)
        ((go_at_call 80;refine(ZdM A0 c0' s gs ⟨tx,ox,nx'⟩ XA Xc XB Xe ⟨ty,oy,ny'⟩ YA Yc YB Ye S wr.drew (HCr.out.keep rfl nR) (HSr.out.keep (fun _ _=>rfl)) (HVX.out.keep_ (fun _ _=>rfl)) (HVY.out.keep_ (fun _ _=>rfl)) hSr HTX.out HTY.out).mono ?_;rintro e w5 ⟨rfl,hv1'⟩;have hv1:Below wr.heap.size wr w5:=(Below.refl _ wr).drew.trans hv1'))
       have d0':=c9Q hv1 hgl d0;have d1':=c9Q hv1 hgl d1;have d2':=c9Q hv1 hgl d2;have f0':=c9Q hv1 hgl f0;have f1':=c9Q hv1 hgl f1;have f2':=c9Q hv1 hgl f2;have hz0:w5.frozen? ⟨g,(z'+1)*3,none⟩=false:=(hv1.frozen (p:=⟨g,(z'+1)*3,none⟩) hgl).trans (HFZ.out _);have hz1:w5.frozen? ⟨g,(z'+1)*3+1,none⟩=false:=(hv1.frozen (p:=⟨g,(z'+1)*3+1,none⟩) hgl).trans (HFZ.out _);have hz2:w5.frozen? ⟨g,(z'+1)*3+2,none⟩=false:=(hv1.frozen (p:=⟨g,(z'+1)*3+2,none⟩) hgl).trans (HFZ.out _);have hz3:w5.frozen? ⟨g,z'*3,none⟩=false:=(hv1.frozen (p:=⟨g,z'*3,none⟩) hgl).trans (HFZ.out _);have hz4:w5.frozen? ⟨g,z'*3+1,none⟩=false:=(hv1.frozen (p:=⟨g,z'*3+1,none⟩) hgl).trans (HFZ.out _);have hz5:w5.frozen? ⟨g,z'*3+2,none⟩=false:=(hv1.frozen (p:=⟨g,z'*3+2,none⟩) hgl).trans (HFZ.out _);have HFR5:=hI (HFR.out.trans (Y:=fun _=>False) (Fr.of_below hv1) (fun _ _ h=>h.elim));have HOW5:=hI (OwnD.belowC HOW.out hv1);have HVX5:=hI (HVX.out.keep_ (fun b hb=>hv1.block b (hSr b hb)));have HVY5:=hI (HVY.out.keep_ (fun b hb=>hv1.block b (hSr b hb)));clear hv1 hv1' d0 d1 d2 f0 f1 f2;rw [HCV.out]
       by_cases hneg:cv<0
       · have hdn:decide (cv<0)=true:=decide_eq_true hneg;have HSP:=hI (OwnD.swap2 HOW5.out (by rw [HLEN.out];omega) (by rw [HLEN.out];omega) HEX.out HEY.out HVX5.out HVY5.out);have HF6:=hI (ZhB HFR5.out (g:=g) rfl (z'+1) z' (.int .i64 ty) (.slice YA oy.length Yc) (.slice YB ny'.length Ye) (.int .i64 tx) (.slice XA ox.length Xc) (.slice XB nx'.length Xe));rw [HSWL.out] at HSP
         have HLT2:=hI (show ∀ u ∈ (⟨ty,oy,ny'⟩ :: q:List Chg),cmpC s ⟨tx,ox,nx'⟩ u<0 from fun u hu=>by
          rcases List.mem_cons.1 hu with rfl | hu
          · rw [HCV.out];exact hneg
          · exact HLT.out u hu)
         clear HCV hneg;rw [hdn]
         go_wp2_with fail
         have n00:z'*3≠(z'+1)*3:=by omega
         go_region
         go_wp2_with fail
         have HPQ2:=hI (show r++⟨ty,oy,ny'⟩ :: q=pre by rw [←HPQ.out];simp);have HSP2:=hI (OwnD.drew HSP.out);have HFR6:=hI (Fr.drew HF6.out);go_roundw
         case rel=>first | exact⟨i,z',by omega,by go_num,r,⟨ty,oy,ny'⟩ :: q,HRI.out,HPQ2.out,HLT2.out,HSP2.out,HFR6.out⟩ | ((repeat apply Exists.intro);exact⟨⟨i,z',by omega,by go_num,r,⟨ty,oy,ny'⟩ :: q,HRI.out,HPQ2.out,HLT2.out,HSP2.out,HFR6.out⟩,rfl⟩)
         case measure=>simp [intOf]
       · have hdn:decide (cv<0)=false:=decide_eq_false hneg
         have HFIN:=hI (show P++(Zaq (cmpC s) (l.take (k+1))++l.drop (k+1))++Q=LL by
          rw [HSN.out,←HPQ.out,ZfG (cmpC s) _ (r++[(⟨ty,oy,ny'⟩:Chg)]) q HLT.out (fun u hu=>by simp at hu;subst hu;rw [HCV.out];omega),←HLLE.out];simp)
         clear HCV hneg;rw [hdn]
         go_wp2_with fail
         go_roundw
         case rel=>exact⟨k+1,z+1,by omega,.inl hkl,by omega,by go_num,by rw [HFIN.out];exact HOW5.out,HFR5.out⟩
         case measure=>(simp [intOf];omega)
  · have hzn:¬ z<nb:=(by omega);have hdz:decide (z<nb)=false:=decide_eq_false hzn;have HE:=hI (show Zaq (cmpC s) (l.take k)++l.drop k=Zaq (cmpC s) l by rw [List.take_of_length_le (by rw [HLL.out];omega),List.drop_eq_nil_of_le (by rw [HLL.out];omega),List.append_nil])
    go_wp2_with fail
    go_end0
    exact⟨⟨_,rfl⟩,by rw [←HE.out];exact HOW.out,HFR.out⟩
end Go.Proofs.Ytkpjjfhfbpfjpaa
