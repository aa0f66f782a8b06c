import Derived.Test.YtkpjjfhfbpfjpaaK75686c
import Derived.Test.YtkpjjfhfbpfjpaaK64d55c
import Derived.Deep.Cut
import Derived.Deep.CutRange
import Derived.Deep.DeepCutAuto
import Derived.Test.YtkpjjfhfbpfjpaaK555281
import Derived.Test.YtkpjjfhfbpfjpaaK33bc0a
set_option linter.unusedVariables false
set_option linter.unusedSimpArgs false
set_option maxRecDepth 100000
set_option maxHeartbeats 8000000
namespace Go.Proofs.Ytkpjjfhfbpfjpaa
open Go.RowKit
set_option pp.deepTerms true
set_option pp.maxSteps 1000000
theorem ZbN (s:Sch):TPre (cmpC s):=⟨fun a b=>Zbe a b,fun a b c h1 h2=>ZbQ h1 h2⟩
section
variable {α:Type} {d:α}
theorem sw_comm {i j:Nat} (h:i≠j) (l:List α):sw d i j l=sw d j i l:=by
 unfold sw;rw [List.set_comm _ _ h]
theorem sw_fwd {P y Q:List α} {x0:α} {t z:Nat} (ht:t<y.length) (hz:P.length+t=z):sw d z (z+1) (P++y.take t++x0 :: y.drop t++Q)=P++y.take (t+1)++x0 :: y.drop (t+1)++Q:=by
 have h1:=Zhl (d:=d) (P++y.take t) [] (y.drop (t+1)++Q) x0 (y[t]);rw [List.length_append,List.length_take,Nat.min_eq_left (by omega),hz] at h1;rw [List.drop_eq_getElem_cons ht,List.take_succ_eq_append_getElem ht];simp only [List.length_nil,Nat.add_zero,List.append_assoc,List.cons_append,List.nil_append] at h1 ⊢;exact h1
theorem sw_bwd {P x Q:List α} {y0:α} {r z:Nat} (hr:r<x.length) (hz:P.length+r=z):sw d (z+1) z (P++x.take (r+1)++y0 :: x.drop (r+1)++Q)=P++x.take r++y0 :: x.drop r++Q:=by
 have h1:=Zhl (d:=d) (P++x.take r) [] (x.drop (r+1)++Q) (x[r]) y0;rw [List.length_append,List.length_take,Nat.min_eq_left (by omega),hz] at h1;rw [sw_comm (by omega),List.drop_eq_getElem_cons hr,List.take_succ_eq_append_getElem hr];simp only [List.length_nil,Nat.add_zero,List.append_assoc,List.cons_append,List.nil_append] at h1 ⊢;exact h1
end
theorem symMerge1 (A0:Option Addr) (c0':Nat) (s:Sch) (gs g c N base:Nat) (S:Nat→Prop) (hg:gs≠g) (hl:N≤1000) (P x y Q:List Chg) (na nm nb:Nat) (w:World) (hP:P.length=na) (hm:na+x.length=nm) (hb:nm+y.length=nb) (hx0:0<x.length) (hy0:0<y.length) (hsx:Std (cmpC s) x) (hsy:Std (cmpC s) y) (hN:(P++x++y++Q).length=N) (ht:∀ z ∈ x++y,0≤z.table∧z.table≤1000000) (hc:CapS w s A0 c0' gs) (hs:TabS w S A0 s.tabs) (ho:OwnD w base 53 3 S (.slice (some ⟨g,0,none⟩) N c) ((P++x++y++Q).map Zal)) (h1:x.length=1) :
  Calls Try.prog 123 #[.slice (some ⟨g,0,none⟩) N c,.int .i64 na,.int .i64 nm,.int .i64 nb,.func (.func 80) #[] #[.pointer (some ⟨gs,0,none⟩)]] w (Zbw base S (.slice (some ⟨g,0,none⟩) N c) (P++Zaq (cmpC s) (x++y)++Q) w):=by
 have HSX:=hI hsx;have HSY:=hI hsy;have HT:=hI ht;have HC:=hI hc;have HS:=hI hs;have HO:=hI ho;have HN:=hI hN;have HP:=hI hP;have HM:=hI hm;have HBB:=hI hb;have hSw:∀ b,S b→b<w.heap.size:=(fun b hb=>by obtain⟨_,_,_,h3⟩:=ho;exact(h3 b hb).1);have HNS:=hI (show ∀ b,S b→b≠g from fun b hb e=>by obtain⟨_,_,_,h3⟩:=ho;exact(h3 b hb).2 (by subst e;rfl));have hNb:nb≤N:=(by rw [←hN];simp;omega);have hnam:na<nm:=(by omega);have hnmb:nm<nb:=(by omega);have HGX:=hI (show ∀ h,na≤h→h<nm→(P++x++y++Q).getD h chg0=x.getD (h - na) chg0 from fun h h1 h2=>Zhz P x y Q hP h1 (by omega));have HGY:=hI (show ∀ h,nm≤h→h<nb→(P++x++y++Q).getD h chg0=y.getD (h - nm) chg0 from fun h h1 h2=>Zhy P x y Q hP hm h1 (by omega))
 have HTL:=hI (show ∀ h,na≤h→h<nb→0≤((P++x++y++Q).getD h chg0).table∧((P++x++y++Q).getD h chg0).table≤1000000 from fun h h1 h2=>by
  by_cases h3:h<nm
  · rw [HGX.out h h1 h3];exact ht _ (List.mem_append_left _ (by rw [List.getD_eq_getElem?_getD,List.getElem?_eq_getElem (show h - na<x.length by omega)];exact List.getElem_mem _))
  · rw [HGY.out h (by omega) h2];exact ht _ (List.mem_append_right _ (by rw [List.getD_eq_getElem?_getD,List.getElem?_eq_getElem (show h - nm<y.length by omega)];exact List.getElem_mem _)))
 clear hsx hsy ht hc hs ho hN hP;obtain⟨nx,hnx⟩:∃ nx,x.length=nx:=⟨_,rfl⟩;obtain⟨ny,hny⟩:∃ ny,y.length=ny:=⟨_,rfl⟩;have HNX:=hI hnx;have HNY:=hI hny;rw [hnx] at hm hx0;rw [hny] at hb hy0;clear hnx hny;have q1:IntKind.i64.wrap ((nm:Int) - (na:Int))=nx:=(by rw [show (nm:Int) - (na:Int)=(nx:Int) by omega];exact IntWalk.i64_in _ (by omega));have q2:IntKind.i64.wrap ((nb:Int) - (nm:Int))=ny:=(by rw [show (nb:Int) - (nm:Int)=(ny:Int) by omega];exact IntWalk.i64_in _ (by omega));go_enter Try.func123,Try.ntmps123;rw [HNX.out] at h1;have hd1:((nx:Int) == 1)=true:=(by simp;omega);obtain⟨x0,hx0'⟩:=List.length_eq_one_iff.1 (show x.length=1 by rw [HNX.out];exact h1);obtain⟨k,hk1,hk2,hk3⟩:=merge1 (d:=chg0) (ZbN s) (x:=x0) HSY.out;rw [HNY.out] at hk1 hk2;have HK3:=hI hk3;obtain⟨p,hp⟩:∃ p,nm+k=p:=⟨_,rfl⟩
 have HD:=hI (show ∀ h,nm≤h→h<nb→(cmpC s ((P++x++y++Q).getD h chg0) ((P++x++y++Q).getD na chg0)<0↔h<p) from fun h a b=>by
  rw [HGY.out h a b,HGX.out na (by omega) hnam,hx0',Nat.sub_self];refine(hk2 (h - nm) (by omega)).trans ⟨fun _=>by omega,fun _=>by omega⟩)
 clear hk2 hk3;have HX1:=hI hx0';clear hx0'
 go_wp2_with fail
 go_loopw [10,11] (fun i j wr=>∃ a b:Nat,i=.int .i64 a∧j=.int .i64 b∧nm≤a∧a≤p∧p≤b∧b≤nb∧Below w.heap.size w wr) (fun i j _=>(intOf j).toNat - (intOf i).toNat)
 case atStart=>exact⟨nm,nb,rfl,rfl,by omega,by omega,by omega,by omega,Below.refl _ _⟩
 case round =>
  obtain⟨a,b,rfl,rfl,ha0,ha,hb',hb1,hbel⟩:=hrel;have HB:=hI hbel;have hsz:=hbel.size;have HOr:=hI (OwnD.below HO.out hbel);have HCr:=hI (HC.out.below hbel);have HSr:=hI (HS.out.keep (Same.of_below hbel hSw));have hSr:∀ b,S b→b<wr.heap.size:=(fun b hb=>by have:=hSw b hb;omega);clear hbel
  by_cases hab:a<b
  · have hdab:decide ((a:Int)<(b:Int))=true:=decide_eq_true (by omega);obtain⟨h,hh⟩:∃ h,(a+b) / 2=h:=⟨_,rfl⟩;have hhI:((a:Int)+(b:Int)) / 2=(h:Int):=(by omega);have hha:a≤h:=(by omega);have hhb:h<b:=(by omega);have hdc:=HD.out h (by omega) (by omega);obtain⟨XA,Xc,XB,Xe,d0,d1,d2,hX,hgl,hfz⟩:=OwnD.el HOr.out (i:=h) (by rw [HN.out];omega);clear hgl hfz;obtain⟨YA,Yc,YB,Ye,f0,f1,f2,hY,hgl,hfz⟩:=OwnD.el HOr.out (i:=na) (by rw [HN.out];omega);clear hfz;have HTX:=hI (HTL.out h (by omega) (by omega));have HTY:=hI (HTL.out na (by omega) (by omega));have HDC:=hI hdc;obtain⟨X,eX⟩:∃ X,(P++x++y++Q).getD h chg0=X:=⟨_,rfl⟩;obtain⟨Y,eY⟩:∃ Y,(P++x++y++Q).getD na chg0=Y:=⟨_,rfl⟩;rw [eX] at d0 d1 d2 hX HTX HDC;rw [eY] at f0 f1 f2 hY HTY HDC;have HVX:=hI hX;have HVY:=hI hY;have hy1:=hX.r1.len;have hy2:=hX.r2.len;have hx1:=hY.r1.len;have hx2:=hY.r2.len;clear hX hY eX eY hdc;obtain⟨cv,hcv⟩:∃ cv,cmpC s X Y=cv:=⟨_,rfl⟩;rw [hcv] at HDC;have HCV:=hI hcv;clear hcv;obtain⟨tx,ox,nx'⟩:=X;obtain⟨ty,oy,ny'⟩:=Y;simp only at d0 d1 d2 f0 f1 f2 hy1 hy2 hx1 hx2;have p0:(0:Int)≤(h:Nat):=(by omega);have p1:((h:Nat):Int)<(N:Int):=(by omega);have p2:(0:Int)≤(na:Nat):=(by omega);have p3:((na:Nat):Int)<(N:Int):=by omega
    go_wp2_with fail
    go_region_held3 (fun w'=>Below wr.heap.size wr w'∧w'.cell? ⟨g,h*3,none⟩=some (.int .i64 tx)∧w'.cell? ⟨g,h*3+1,none⟩=some (.slice XA ox.length Xc)∧w'.cell? ⟨g,h*3+2,none⟩=some (.slice XB nx'.length Xe)∧w'.cell? ⟨g,na*3,none⟩=some (.int .i64 ty)∧w'.cell? ⟨g,na*3+1,none⟩=some (.slice YA oy.length Yc)∧w'.cell? ⟨g,na*3+2,none⟩=some (.slice YB ny'.length Ye))
     (first | exact⟨(Below.refl _ _).drew,d0,d1,d2,f0,f1,f2⟩ | exact⟨hv1,c9Q hv1 hgl d0,c9Q hv1 hgl d1,c9Q hv1 hgl d2,c9Q hv1 hgl f0,c9Q hv1 hgl f1,c9Q hv1 hgl f2⟩)
     ((go_at_call 80;refine(ZdM A0 c0' s gs ⟨tx,ox,nx'⟩ XA Xc XB Xe ⟨ty,oy,ny'⟩ YA Yc YB Ye S wr.drew (HCr.out.keep rfl nR) (HSr.out.keep (fun _ _=>rfl)) (HVX.out.keep_ (fun _ _=>rfl)) (HVY.out.keep_ (fun _ _=>rfl)) hSr HTX.out HTY.out).mono ?_;rintro e w5 ⟨rfl,hv1'⟩;have hv1:Below wr.heap.size wr w5:=(Below.refl _ wr).drew.trans hv1'))
    have HB5:=hI (HB.out.trans (hv1.mono hsz));clear hv1 hv1' d0 d1 d2 f0 f1 f2;rw [HCV.out]
    by_cases hneg:cv<0
    · have hdn:decide (cv<0)=true:=decide_eq_true hneg;have hhp:h<p:=HDC.out.1 hneg;clear HDC HCV hneg;rw [hdn]
      go_wp2_with fail
      go_roundw
      case rel=>exact⟨h+1,b,by go_num,rfl,by omega,by omega,by omega,by omega,HB5.out⟩
      case measure=>(simp [intOf];omega)
    · have hdn:decide (cv<0)=false:=decide_eq_false hneg;have hhp:¬ h<p:=fun hh'=>hneg (HDC.out.2 hh');clear HDC HCV hneg;rw [hdn]
      go_wp2_with fail
      go_roundw
      case rel=>exact⟨a,h,rfl,by go_num,by omega,by omega,by omega,by omega,HB5.out⟩
      case measure=>(simp [intOf];omega)
  · have hdab:decide ((a:Int)<(b:Int))=false:=decide_eq_false (by omega);have eap:a=p:=(by omega);subst eap;have ebp:b=a:=(by omega);subst ebp;obtain⟨pm,hpm⟩:∃ pm,b - 1=pm:=⟨_,rfl⟩;have q3:IntKind.i64.wrap ((b:Int) - 1)=pm:=by rw [show (b:Int) - 1=(pm:Int) by omega];exact IntWalk.i64_in _ (by omega)
    go_wp2_with fail
    go_loopw [13] (fun i wq=>∃ t z:Nat,t≤k∧na+t=z∧i=.int .i64 z∧OwnD wq base 53 3 S (.slice (some ⟨g,0,none⟩) N c) ((P++y.take t++x0 :: y.drop t++Q).map Zal)∧Fr (fun b=>some b=(Value.slice (some ⟨g,0,none⟩) N c).ownBlock) w wq) (fun i _=>pm - (intOf i).toNat)
    case atStart=>exact⟨0,na,Nat.zero_le _,rfl,rfl,by have h9:=HOr.out;rw [HX1.out] at h9;simpa using h9,Fr.of_below HB.out⟩
    case round =>
     clear HOr HCr HSr hSr hsz HB;obtain⟨t,z,htk,hz,rfl,hown,hfr⟩:=hrel;have HOW:=hI hown;have HFR:=hI hfr;clear hown hfr
     by_cases htl:t<k
     · have hdt:decide ((z:Int)<(pm:Int))=true:=decide_eq_true (by omega);have HSWL:=hI (sw_fwd (d:=chg0) (P:=P) (y:=y) (Q:=Q) (x0:=x0) (t:=t) (z:=z) (by rw [HNY.out];omega) (by rw [HP.out];exact hz));obtain⟨LL,hLL⟩:∃ LL,P++y.take t++x0 :: y.drop t++Q=LL:=⟨_,rfl⟩;rw [hLL] at HOW HSWL;have HLL:=hI (show LL.length=N by rw [←hLL,←HN.out,HX1.out];simp;have:=HNY.out;omega);clear hLL;obtain⟨XA,Xc,XB,Xe,d0,d1,d2,hX,hgl,hfz⟩:=OwnD.el HOW.out (i:=z) (by rw [HLL.out];omega);obtain⟨YA,Yc,YB,Ye,f0,f1,f2,hY,-,-⟩:=OwnD.el HOW.out (i:=z+1) (by rw [HLL.out];omega);obtain⟨X,eX⟩:∃ X,LL.getD (z) chg0=X:=⟨_,rfl⟩;obtain⟨Y,eY⟩:∃ Y,LL.getD (z+1) chg0=Y:=⟨_,rfl⟩;rw [eX] at d0 d1 d2 hX;rw [eY] at f0 f1 f2 hY;have HSP:=hI (OwnD.swap2 HOW.out (by rw [HLL.out];omega) (by rw [HLL.out];omega) eX eY hX hY);have HF6:=hI (ZhB HFR.out (g:=g) rfl (z) (z+1) (.int .i64 Y.table) (.slice YA Y.old.length Yc) (.slice YB Y.new.length Ye) (.int .i64 X.table) (.slice XA X.old.length Xc) (.slice XB X.new.length Xe));have z0:=hfz ((z)*3);have z1:=hfz ((z)*3+1);have z2:=hfz ((z)*3+2);have z3:=hfz ((z+1)*3);have z4:=hfz ((z+1)*3+1);have z5:=hfz ((z+1)*3+2);have p0:(0:Int)≤(z:Nat):=(by omega);have p1:((z:Nat):Int)<(N:Int):=(by omega);have p2:(0:Int)≤(z+1:Nat):=(by omega);have p3:((z+1:Nat):Int)<(N:Int):=(by omega);rw [HSWL.out] at HSP;clear hX hY hfz eX eY HOW HFR;obtain⟨tx,ox,nx'⟩:=X;obtain⟨ty,oy,ny'⟩:=Y;simp only at d0 d1 d2 f0 f1 f2
       go_wp2_with fail
       have n00:(z+1)*3≠(z)*3:=by omega
       go_region
       go_wp2_with fail
       go_roundw
       case rel=>exact⟨t+1,z+1,by omega,by omega,by go_num,OwnD.drew HSP.out,Fr.drew HF6.out⟩
       case measure=>(simp [intOf];omega)
     · have hdt:decide ((z:Int)<(pm:Int))=false:=decide_eq_false (by omega);have etk:t=k:=(by omega);subst etk
       go_wp2_with fail
       go_end0
       exact⟨⟨_,rfl⟩,by rw [HX1.out,show Zaq (cmpC s) ([x0]++y)=_ from HK3.out];simpa using HOW.out,HFR.out⟩
theorem symMerge2 (A0:Option Addr) (c0':Nat) (s:Sch) (gs g c N base:Nat) (S:Nat→Prop) (hg:gs≠g) (hl:N≤1000) (P x y Q:List Chg) (na nm nb:Nat) (w:World) (hP:P.length=na) (hm:na+x.length=nm) (hb:nm+y.length=nb) (hx0:0<x.length) (hy0:0<y.length) (hsx:Std (cmpC s) x) (hsy:Std (cmpC s) y) (hN:(P++x++y++Q).length=N) (ht:∀ z ∈ x++y,0≤z.table∧z.table≤1000000) (hc:CapS w s A0 c0' gs) (hs:TabS w S A0 s.tabs) (ho:OwnD w base 53 3 S (.slice (some ⟨g,0,none⟩) N c) ((P++x++y++Q).map Zal)) (h1:x.length≠1) (h2:y.length=1) :
  Calls Try.prog 123 #[.slice (some ⟨g,0,none⟩) N c,.int .i64 na,.int .i64 nm,.int .i64 nb,.func (.func 80) #[] #[.pointer (some ⟨gs,0,none⟩)]] w (Zbw base S (.slice (some ⟨g,0,none⟩) N c) (P++Zaq (cmpC s) (x++y)++Q) w):=by
 have HSX:=hI hsx;have HSY:=hI hsy;have HT:=hI ht;have HC:=hI hc;have HS:=hI hs;have HO:=hI ho;have HN:=hI hN;have HP:=hI hP;have HM:=hI hm;have HBB:=hI hb;have hSw:∀ b,S b→b<w.heap.size:=(fun b hb=>by obtain⟨_,_,_,h3⟩:=ho;exact(h3 b hb).1);have HNS:=hI (show ∀ b,S b→b≠g from fun b hb e=>by obtain⟨_,_,_,h3⟩:=ho;exact(h3 b hb).2 (by subst e;rfl));have hNb:nb≤N:=(by rw [←hN];simp;omega);have hnam:na<nm:=(by omega);have hnmb:nm<nb:=(by omega);have HGX:=hI (show ∀ h,na≤h→h<nm→(P++x++y++Q).getD h chg0=x.getD (h - na) chg0 from fun h h1 h2=>Zhz P x y Q hP h1 (by omega));have HGY:=hI (show ∀ h,nm≤h→h<nb→(P++x++y++Q).getD h chg0=y.getD (h - nm) chg0 from fun h h1 h2=>Zhy P x y Q hP hm h1 (by omega))
 have HTL:=hI (show ∀ h,na≤h→h<nb→0≤((P++x++y++Q).getD h chg0).table∧((P++x++y++Q).getD h chg0).table≤1000000 from fun h h1 h2=>by
  by_cases h3:h<nm
  · rw [HGX.out h h1 h3];exact ht _ (List.mem_append_left _ (by rw [List.getD_eq_getElem?_getD,List.getElem?_eq_getElem (show h - na<x.length by omega)];exact List.getElem_mem _))
  · rw [HGY.out h (by omega) h2];exact ht _ (List.mem_append_right _ (by rw [List.getD_eq_getElem?_getD,List.getElem?_eq_getElem (show h - nm<y.length by omega)];exact List.getElem_mem _)))
 clear hsx hsy ht hc hs ho hN hP;obtain⟨nx,hnx⟩:∃ nx,x.length=nx:=⟨_,rfl⟩;obtain⟨ny,hny⟩:∃ ny,y.length=ny:=⟨_,rfl⟩;have HNX:=hI hnx;have HNY:=hI hny;rw [hnx] at hm hx0;rw [hny] at hb hy0;clear hnx hny;have q1:IntKind.i64.wrap ((nm:Int) - (na:Int))=nx:=(by rw [show (nm:Int) - (na:Int)=(nx:Int) by omega];exact IntWalk.i64_in _ (by omega));have q2:IntKind.i64.wrap ((nb:Int) - (nm:Int))=ny:=(by rw [show (nb:Int) - (nm:Int)=(ny:Int) by omega];exact IntWalk.i64_in _ (by omega));go_enter Try.func123,Try.ntmps123;rw [HNX.out] at h1;rw [HNY.out] at h2;have hd1:((nx:Int) == 1)=false:=(by simp;omega);have hd2:((ny:Int) == 1)=true:=(by simp;omega);obtain⟨y0,hy0'⟩:=List.length_eq_one_iff.1 (show y.length=1 by rw [HNY.out];exact h2);obtain⟨k,hk1,hk2,hk3⟩:=merge2 (d:=chg0) (ZbN s) (y:=y0) HSX.out;rw [HNX.out] at hk1 hk2;have HK3:=hI hk3;obtain⟨p,hp⟩:∃ p,na+k=p:=⟨_,rfl⟩
 have HD:=hI (show ∀ h,na≤h→h<nm→(¬ cmpC s ((P++x++y++Q).getD nm chg0) ((P++x++y++Q).getD h chg0)<0↔h<p) from fun h a b=>by
  rw [HGX.out h a b,HGY.out nm (by omega) hnmb,hy0',Nat.sub_self];refine(hk2 (h - na) (by omega)).trans ⟨fun _=>by omega,fun _=>by omega⟩)
 clear hk2 hk3;have HX1:=hI hy0';clear hy0'
 go_wp2_with fail
 go_loopw [14,15] (fun i j wr=>∃ a b:Nat,i=.int .i64 a∧j=.int .i64 b∧na≤a∧a≤p∧p≤b∧b≤nm∧Below w.heap.size w wr) (fun i j _=>(intOf j).toNat - (intOf i).toNat)
 case atStart=>exact⟨na,nm,rfl,rfl,by omega,by omega,by omega,by omega,Below.refl _ _⟩
 case round =>
  obtain⟨a,b,rfl,rfl,ha0,ha,hb',hb1,hbel⟩:=hrel;have HB:=hI hbel;have hsz:=hbel.size;have HOr:=hI (OwnD.below HO.out hbel);have HCr:=hI (HC.out.below hbel);have HSr:=hI (HS.out.keep (Same.of_below hbel hSw));have hSr:∀ b,S b→b<wr.heap.size:=(fun b hb=>by have:=hSw b hb;omega);clear hbel
  by_cases hab:a<b
  · have hdab:decide ((a:Int)<(b:Int))=true:=decide_eq_true (by omega);obtain⟨h,hh⟩:∃ h,(a+b) / 2=h:=⟨_,rfl⟩;have hhI:((a:Int)+(b:Int)) / 2=(h:Int):=(by omega);have hha:a≤h:=(by omega);have hhb:h<b:=(by omega);have hdc:=HD.out h (by omega) (by omega);obtain⟨XA,Xc,XB,Xe,d0,d1,d2,hX,hgl,hfz⟩:=OwnD.el HOr.out (i:=nm) (by rw [HN.out];omega);clear hgl hfz;obtain⟨YA,Yc,YB,Ye,f0,f1,f2,hY,hgl,hfz⟩:=OwnD.el HOr.out (i:=h) (by rw [HN.out];omega);clear hfz;have HTX:=hI (HTL.out nm (by omega) (by omega));have HTY:=hI (HTL.out h (by omega) (by omega));have HDC:=hI hdc;obtain⟨X,eX⟩:∃ X,(P++x++y++Q).getD nm chg0=X:=⟨_,rfl⟩;obtain⟨Y,eY⟩:∃ Y,(P++x++y++Q).getD h chg0=Y:=⟨_,rfl⟩;rw [eX] at d0 d1 d2 hX HTX HDC;rw [eY] at f0 f1 f2 hY HTY HDC;have HVX:=hI hX;have HVY:=hI hY;have hy1:=hX.r1.len;have hy2:=hX.r2.len;have hx1:=hY.r1.len;have hx2:=hY.r2.len;clear hX hY eX eY hdc;obtain⟨cv,hcv⟩:∃ cv,cmpC s X Y=cv:=⟨_,rfl⟩;rw [hcv] at HDC;have HCV:=hI hcv;clear hcv;obtain⟨tx,ox,nx'⟩:=X;obtain⟨ty,oy,ny'⟩:=Y;simp only at d0 d1 d2 f0 f1 f2 hy1 hy2 hx1 hx2;have p0:(0:Int)≤(nm:Nat):=(by omega);have p1:((nm:Nat):Int)<(N:Int):=(by omega);have p2:(0:Int)≤(h:Nat):=(by omega);have p3:((h:Nat):Int)<(N:Int):=by omega
    go_wp2_with fail
    go_region_held3 (fun w'=>Below wr.heap.size wr w'∧w'.cell? ⟨g,nm*3,none⟩=some (.int .i64 tx)∧w'.cell? ⟨g,nm*3+1,none⟩=some (.slice XA ox.length Xc)∧w'.cell? ⟨g,nm*3+2,none⟩=some (.slice XB nx'.length Xe)∧w'.cell? ⟨g,h*3,none⟩=some (.int .i64 ty)∧w'.cell? ⟨g,h*3+1,none⟩=some (.slice YA oy.length Yc)∧w'.cell? ⟨g,h*3+2,none⟩=some (.slice YB ny'.length Ye))
     (first | exact⟨(Below.refl _ _).drew,d0,d1,d2,f0,f1,f2⟩ | exact⟨hv1,c9Q hv1 hgl d0,c9Q hv1 hgl d1,c9Q hv1 hgl d2,c9Q hv1 hgl f0,c9Q hv1 hgl f1,c9Q hv1 hgl f2⟩)
     ((go_at_call 80;refine(ZdM A0 c0' s gs ⟨tx,ox,nx'⟩ XA Xc XB Xe ⟨ty,oy,ny'⟩ YA Yc YB Ye S wr.drew (HCr.out.keep rfl nR) (HSr.out.keep (fun _ _=>rfl)) (HVX.out.keep_ (fun _ _=>rfl)) (HVY.out.keep_ (fun _ _=>rfl)) hSr HTX.out HTY.out).mono ?_;rintro e w5 ⟨rfl,hv1'⟩;have hv1:Below wr.heap.size wr w5:=(Below.refl _ wr).drew.trans hv1'))
    have HB5:=hI (HB.out.trans (hv1.mono hsz));clear hv1 hv1' d0 d1 d2 f0 f1 f2;rw [HCV.out]
    by_cases hneg:cv<0
    · have hdn:decide (cv<0)=true:=decide_eq_true hneg;have hhp:¬ h<p:=(fun hh'=>by have:=HDC.out.2 hh';omega);clear HDC HCV hneg;rw [hdn]
      go_wp2_with fail
      go_roundw
      case rel=>exact⟨a,h,rfl,by go_num,by omega,by omega,by omega,by omega,HB5.out⟩
      case measure=>(simp [intOf];omega)
    · have hdn:decide (cv<0)=false:=decide_eq_false hneg;have hhp:h<p:=HDC.out.1 (by omega);clear HDC HCV hneg;rw [hdn]
      go_wp2_with fail
      go_roundw
      case rel=>exact⟨h+1,b,by go_num,rfl,by omega,by omega,by omega,by omega,HB5.out⟩
      case measure=>(simp [intOf];omega)
  · have hdab:decide ((a:Int)<(b:Int))=false:=decide_eq_false (by omega);have eap:a=p:=(by omega);subst eap;have ebp:b=a:=(by omega);subst ebp
    go_wp2_with fail
    go_loopw [17] (fun i wq=>∃ r z:Nat,k≤r∧r≤nx∧na+r=z∧i=.int .i64 z∧OwnD wq base 53 3 S (.slice (some ⟨g,0,none⟩) N c) ((P++x.take r++y0 :: x.drop r++Q).map Zal)∧Fr (fun b=>some b=(Value.slice (some ⟨g,0,none⟩) N c).ownBlock) w wq) (fun i _=>(intOf i).toNat)
    case atStart=>exact⟨nx,nm,by omega,Nat.le_refl _,by omega,rfl,by have h9:=HOr.out;rw [HX1.out] at h9;rw [List.take_of_length_le (by rw [HNX.out];omega),List.drop_eq_nil_of_le (by rw [HNX.out];omega)];simpa using h9,Fr.of_below HB.out⟩
    case round =>
     clear HOr HCr HSr hSr hsz HB;obtain⟨r,z,hkr,hrx,hz,rfl,hown,hfr⟩:=hrel;have HOW:=hI hown;have HFR:=hI hfr;clear hown hfr
     by_cases htl:k<r
     · have hdt:decide ((b:Int)<(z:Int))=true:=decide_eq_true (by omega);obtain⟨r',rfl⟩:∃ r',r=r'+1:=⟨r - 1,by omega⟩;obtain⟨z',rfl⟩:∃ z',z=z'+1:=⟨z - 1,by omega⟩;have q3:IntKind.i64.wrap ((z':Int)+1 - 1)=z':=(by rw [show (z':Int)+1 - 1=(z':Int) by omega];exact IntWalk.i64_in _ (by omega));have q4:IntKind.i64.wrap (z':Int)=z':=IntWalk.i64_in _ (by omega);have HSWL:=hI (sw_bwd (d:=chg0) (P:=P) (x:=x) (Q:=Q) (y0:=y0) (r:=r') (z:=z') (by rw [HNX.out];omega) (by rw [HP.out];omega));obtain⟨LL,hLL⟩:∃ LL,P++x.take (r'+1)++y0 :: x.drop (r'+1)++Q=LL:=⟨_,rfl⟩;rw [hLL] at HOW HSWL;have HLL:=hI (show LL.length=N by rw [←hLL,←HN.out,HX1.out];simp;have:=HNX.out;omega);clear hLL;obtain⟨XA,Xc,XB,Xe,d0,d1,d2,hX,hgl,hfz⟩:=OwnD.el HOW.out (i:=z'+1) (by rw [HLL.out];omega);obtain⟨YA,Yc,YB,Ye,f0,f1,f2,hY,-,-⟩:=OwnD.el HOW.out (i:=z') (by rw [HLL.out];omega);obtain⟨X,eX⟩:∃ X,LL.getD (z'+1) chg0=X:=⟨_,rfl⟩;obtain⟨Y,eY⟩:∃ Y,LL.getD (z') chg0=Y:=⟨_,rfl⟩;rw [eX] at d0 d1 d2 hX;rw [eY] at f0 f1 f2 hY;have HSP:=hI (OwnD.swap2 HOW.out (by rw [HLL.out];omega) (by rw [HLL.out];omega) eX eY hX hY);have HF6:=hI (ZhB HFR.out (g:=g) rfl (z'+1) (z') (.int .i64 Y.table) (.slice YA Y.old.length Yc) (.slice YB Y.new.length Ye) (.int .i64 X.table) (.slice XA X.old.length Xc) (.slice XB X.new.length Xe));have z0:=hfz ((z'+1)*3);have z1:=hfz ((z'+1)*3+1);have z2:=hfz ((z'+1)*3+2);have z3:=hfz ((z')*3);have z4:=hfz ((z')*3+1);have z5:=hfz ((z')*3+2);have p0:(0:Int)≤(z'+1:Nat):=(by omega);have p1:((z'+1:Nat):Int)<(N:Int):=(by omega);have p2:(0:Int)≤(z':Nat):=(by omega);have p3:((z':Nat):Int)<(N:Int):=(by omega);rw [HSWL.out] at HSP;clear hX hY hfz eX eY HOW HFR;obtain⟨tx,ox,nx'⟩:=X;obtain⟨ty,oy,ny'⟩:=Y;simp only at d0 d1 d2 f0 f1 f2
       go_wp2_with fail
       have n00:(z')*3≠(z'+1)*3:=by omega
       go_region
       go_wp2_with fail
       go_roundw
       case rel=>exact⟨r',z',by omega,by omega,by omega,by go_num,OwnD.drew HSP.out,Fr.drew HF6.out⟩
       case measure=>(simp [intOf])
     · have hdt:decide ((b:Int)<(z:Int))=false:=decide_eq_false (by omega);have etk:r=k:=(by omega);subst etk
       go_wp2_with fail
       go_end0
       exact⟨⟨_,rfl⟩,by rw [HX1.out,HK3.out];simpa using HOW.out,HFR.out⟩
theorem symMerge3 (A0:Option Addr) (c0':Nat) (s:Sch) (gs g c N base:Nat) (S:Nat→Prop) (hg:gs≠g) (hl:N≤1000) (P x y Q:List Chg) (na nm nb:Nat) (w:World) (hP:P.length=na) (hm:na+x.length=nm) (hb:nm+y.length=nb) (hx0:0<x.length) (hy0:0<y.length) (hsx:Std (cmpC s) x) (hsy:Std (cmpC s) y) (hN:(P++x++y++Q).length=N) (ht:∀ z ∈ x++y,0≤z.table∧z.table≤1000000) (hc:CapS w s A0 c0' gs) (hs:TabS w S A0 s.tabs) (ho:OwnD w base 53 3 S (.slice (some ⟨g,0,none⟩) N c) ((P++x++y++Q).map Zal)) (fuel:Nat) (hf:x.length+y.length≤fuel+1) (ih:∀ (P x y Q:List Chg) (na nm nb:Nat) (w:World),x.length+y.length≤fuel→P.length=na→na+x.length=nm→nm+y.length=nb→0<x.length→0<y.length→Std (cmpC s) x→Std (cmpC s) y→(P++x++y++Q).length=N→(∀ z ∈ x++y,0≤z.table∧z.table≤1000000)→CapS w s A0 c0' gs→TabS w S A0 s.tabs→OwnD w base 53 3 S (.slice (some ⟨g,0,none⟩) N c) ((P++x++y++Q).map Zal) →
  Calls Try.prog 123 #[.slice (some ⟨g,0,none⟩) N c,.int .i64 na,.int .i64 nm,.int .i64 nb,.func (.func 80) #[] #[.pointer (some ⟨gs,0,none⟩)]] w (Zbw base S (.slice (some ⟨g,0,none⟩) N c) (P++Zaq (cmpC s) (x++y)++Q) w)) (h1:x.length≠1) (h2:y.length≠1) :
  Calls Try.prog 123 #[.slice (some ⟨g,0,none⟩) N c,.int .i64 na,.int .i64 nm,.int .i64 nb,.func (.func 80) #[] #[.pointer (some ⟨gs,0,none⟩)]] w (Zbw base S (.slice (some ⟨g,0,none⟩) N c) (P++Zaq (cmpC s) (x++y)++Q) w):=by
 have HIH:=hI ih;have HSX:=hI hsx;have HSY:=hI hsy;have HT:=hI ht;have HC:=hI hc;have HS:=hI hs;have HO:=hI ho;have HN:=hI hN;have HP:=hI hP;have HM:=hI hm;have HBB:=hI hb;have hSw:∀ b,S b→b<w.heap.size:=(fun b hb=>by obtain⟨_,_,_,h3⟩:=ho;exact(h3 b hb).1);have HNS:=hI (show ∀ b,S b→b≠g from fun b hb e=>by obtain⟨_,_,_,h3⟩:=ho;exact(h3 b hb).2 (by subst e;rfl));have hNb:nb≤N:=(by rw [←hN];simp;omega);have hnam:na<nm:=(by omega);have hnmb:nm<nb:=(by omega);have HGX:=hI (show ∀ h,na≤h→h<nm→(P++x++y++Q).getD h chg0=x.getD (h - na) chg0 from fun h h1 h2=>Zhz P x y Q hP h1 (by omega));have HGY:=hI (show ∀ h,nm≤h→h<nb→(P++x++y++Q).getD h chg0=y.getD (h - nm) chg0 from fun h h1 h2=>Zhy P x y Q hP hm h1 (by omega))
 have HTL:=hI (show ∀ h,na≤h→h<nb→0≤((P++x++y++Q).getD h chg0).table∧((P++x++y++Q).getD h chg0).table≤1000000 from fun h h1 h2=>by
  by_cases h3:h<nm
  · rw [HGX.out h h1 h3];exact ht _ (List.mem_append_left _ (by rw [List.getD_eq_getElem?_getD,List.getElem?_eq_getElem (show h - na<x.length by omega)];exact List.getElem_mem _))
  · rw [HGY.out h (by omega) h2];exact ht _ (List.mem_append_right _ (by rw [List.getD_eq_getElem?_getD,List.getElem?_eq_getElem (show h - nm<y.length by omega)];exact List.getElem_mem _)))
 clear ih hsx hsy ht hc hs ho hN hP;obtain⟨nx,hnx⟩:∃ nx,x.length=nx:=⟨_,rfl⟩;obtain⟨ny,hny⟩:∃ ny,y.length=ny:=⟨_,rfl⟩;have HNX:=hI hnx;have HNY:=hI hny;rw [hnx] at hf hm hx0;rw [hny] at hf hb hy0;clear hnx hny;have q1:IntKind.i64.wrap ((nm:Int) - (na:Int))=nx:=(by rw [show (nm:Int) - (na:Int)=(nx:Int) by omega];exact IntWalk.i64_in _ (by omega));have q2:IntKind.i64.wrap ((nb:Int) - (nm:Int))=ny:=(by rw [show (nb:Int) - (nm:Int)=(ny:Int) by omega];exact IntWalk.i64_in _ (by omega));go_enter Try.func123,Try.ntmps123;rw [HNX.out] at h1;rw [HNY.out] at h2;have hd1:((nx:Int) == 1)=false:=(by simp;omega);have hd2:((ny:Int) == 1)=false:=(by simp;omega);obtain⟨mid,hmid⟩:∃ mid,(na+nb) / 2=mid:=⟨_,rfl⟩;have hhI:((na:Int)+(nb:Int)) / 2=(mid:Int):=(by omega);obtain⟨n,hn⟩:∃ n,mid+nm=n:=⟨_,rfl⟩;obtain⟨lo,hlo⟩:∃ lo,lo=(if mid<nm then n - nb else na):=⟨_,rfl⟩;obtain⟨hi,hhi⟩:∃ hi,hi=(if mid<nm then mid else nm):=⟨_,rfl⟩;obtain⟨p,p1',p2',p3',p4,p5,p6,p7,p8,p9⟩:=merge3 (d:=chg0) (ZbN s) (Q:=Q) HSX.out HSY.out HP.out HM.out HBB.out hmid hn hlo hhi;have HP9:=hI p9;clear p9;obtain⟨en,hen⟩:∃ en,n - p=en:=⟨_,rfl⟩;obtain⟨n1,hn1⟩:∃ n1,n - 1=n1:=⟨_,rfl⟩;rw [hen] at p6 p7 HP9;rw [hn1] at p3';have HD:=hI p3';clear p3';have hma:na<mid:=(by omega);have hmb:mid<nb:=(by omega)
 have hlh:na≤lo∧hi≤nm∧(∀ c,lo≤c→c<hi→nm≤n1 - c∧n1 - c<nb∧c≤n1):=by
  by_cases hc:mid<nm
  · rw [if_pos hc] at hlo hhi;exact⟨by omega,by omega,fun c h1 h2=>⟨by omega,by omega,by omega⟩⟩
  · rw [if_neg hc] at hlo hhi;exact⟨by omega,by omega,fun c h1 h2=>⟨by omega,by omega,by omega⟩⟩
 obtain⟨l1,l2,l3⟩:=hlh;have HL3:=hI l3;clear l3;have q3:IntKind.i64.wrap ((mid:Int)+(nm:Int))=n:=(by rw [show (mid:Int)+(nm:Int)=(n:Int) by omega];exact IntWalk.i64_in _ (by omega));have q4:IntKind.i64.wrap ((n:Int) - 1)=n1:=(by rw [show (n:Int) - 1=(n1:Int) by omega];exact IntWalk.i64_in _ (by omega));have q5:IntKind.i64.wrap ((n:Int) - (p:Int))=en:=(by rw [show (n:Int) - (p:Int)=(en:Int) by omega];exact IntWalk.i64_in _ (by omega));have HLO:=hI hlo;have HHI:=hI hhi;clear hlo hhi;go_upto_if 140 with fail
 go_cut [20,21] from 140 to 146 (fun u v W=>W=w∧u=.int .i64 lo∧v=.int .i64 hi)
 case first =>
  by_cases hc:mid<nm
  · have hdc:decide ((mid:Int)<(nm:Int))=true:=decide_eq_true (by omega);have e1:lo=n - nb:=(by rw [HLO.out,if_pos hc]);have e2:hi=mid:=(by rw [HHI.out,if_pos hc]);have q6:IntKind.i64.wrap ((n:Int) - (nb:Int))=lo:=(by rw [show (n:Int) - (nb:Int)=(lo:Int) by omega];exact IntWalk.i64_in _ (by omega));subst e2;clear e1 HLO HHI
    go_wp2_with fail
    go_meet;exact⟨rfl,rfl,rfl⟩
  · have hdc:decide ((mid:Int)<(nm:Int))=false:=decide_eq_false (by omega);have e1:lo=na:=(by rw [HLO.out,if_neg hc]);have e2:hi=nm:=(by rw [HHI.out,if_neg hc]);subst e1 e2;clear HLO HHI
    go_wp2_with fail
    go_meet;exact⟨rfl,rfl,rfl⟩
 case rest =>
  obtain⟨hW,rfl,rfl⟩:=hcut;have hW:=hW.symm;subst hW;clear HLO HHI
  go_wp2_with fail
  go_loopw [20,21] (fun i j wr=>∃ a b:Nat,i=.int .i64 a∧j=.int .i64 b∧lo≤a∧a≤p∧p≤b∧b≤hi∧Below w.heap.size w wr) (fun i j _=>(intOf j).toNat - (intOf i).toNat)
  case atStart=>exact⟨lo,hi,rfl,rfl,by omega,by omega,by omega,by omega,Below.refl _ _⟩
  case round =>
   obtain⟨a,b,rfl,rfl,ha0,ha,hb',hb1,hbel⟩:=hrel;have HB:=hI hbel;have hsz:=hbel.size;have HOr:=hI (OwnD.below HO.out hbel);have HCr:=hI (HC.out.below hbel);have HSr:=hI (HS.out.keep (Same.of_below hbel hSw));have hSr:∀ b,S b→b<wr.heap.size:=(fun b hb=>by have:=hSw b hb;omega);clear hbel
   by_cases hab:a<b
   · have hdab:decide ((a:Int)<(b:Int))=true:=decide_eq_true (by omega);obtain⟨h,hh⟩:∃ h,(a+b) / 2=h:=⟨_,rfl⟩;have hhI:((a:Int)+(b:Int)) / 2=(h:Int):=(by omega);have hha:a≤h:=(by omega);have hhb:h<b:=(by omega);have hdc:=HD.out h (by omega) (by omega);have hl3:=HL3.out h (by omega) (by omega);obtain⟨hc,hhc⟩:∃ hc,n1 - h=hc:=⟨_,rfl⟩;rw [hhc] at hdc hl3;have q7:IntKind.i64.wrap ((n1:Int) - (h:Int))=hc:=(by rw [show (n1:Int) - (h:Int)=(hc:Int) by omega];exact IntWalk.i64_in _ (by omega));obtain⟨XA,Xc,XB,Xe,d0,d1,d2,hX,hgl,hfz⟩:=OwnD.el HOr.out (i:=hc) (by rw [HN.out];omega);clear hgl hfz;obtain⟨YA,Yc,YB,Ye,f0,f1,f2,hY,hgl,hfz⟩:=OwnD.el HOr.out (i:=h) (by rw [HN.out];omega);clear hfz;have HTX:=hI (HTL.out hc (by omega) (by omega));have HTY:=hI (HTL.out h (by omega) (by omega));have HDC:=hI hdc;obtain⟨X,eX⟩:∃ X,(P++x++y++Q).getD hc chg0=X:=⟨_,rfl⟩;obtain⟨Y,eY⟩:∃ Y,(P++x++y++Q).getD h chg0=Y:=⟨_,rfl⟩;rw [eX] at d0 d1 d2 hX HTX HDC;rw [eY] at f0 f1 f2 hY HTY HDC;have HVX:=hI hX;have HVY:=hI hY;have hy1:=hX.r1.len;have hy2:=hX.r2.len;have hx1:=hY.r1.len;have hx2:=hY.r2.len;clear hX hY eX eY hdc;obtain⟨cv,hcv⟩:∃ cv,cmpC s X Y=cv:=⟨_,rfl⟩;rw [hcv] at HDC;have HCV:=hI hcv;clear hcv;obtain⟨tx,ox,nx'⟩:=X;obtain⟨ty,oy,ny'⟩:=Y;simp only at d0 d1 d2 f0 f1 f2 hy1 hy2 hx1 hx2;have p0:(0:Int)≤(hc:Nat):=(by omega);have p1:((hc:Nat):Int)<(N:Int):=(by omega);have p2:(0:Int)≤(h:Nat):=(by omega);have p3:((h:Nat):Int)<(N:Int):=by omega
     go_wp2_with fail
     go_region_held3 (fun w'=>Below wr.heap.size wr w'∧w'.cell? ⟨g,hc*3,none⟩=some (.int .i64 tx)∧w'.cell? ⟨g,hc*3+1,none⟩=some (.slice XA ox.length Xc)∧w'.cell? ⟨g,hc*3+2,none⟩=some (.slice XB nx'.length Xe)∧w'.cell? ⟨g,h*3,none⟩=some (.int .i64 ty)∧w'.cell? ⟨g,h*3+1,none⟩=some (.slice YA oy.length Yc)∧w'.cell? ⟨g,h*3+2,none⟩=some (.slice YB ny'.length Ye))
      (first | exact⟨(Below.refl _ _).drew,d0,d1,d2,f0,f1,f2⟩ | exact⟨hv1,c9Q hv1 hgl d0,c9Q hv1 hgl d1,c9Q hv1 hgl d2,c9Q hv1 hgl f0,c9Q hv1 hgl f1,c9Q hv1 hgl f2⟩)
      ((go_at_call 80;refine(ZdM A0 c0' s gs ⟨tx,ox,nx'⟩ XA Xc XB Xe ⟨ty,oy,ny'⟩ YA Yc YB Ye S wr.drew (HCr.out.keep rfl nR) (HSr.out.keep (fun _ _=>rfl)) (HVX.out.keep_ (fun _ _=>rfl)) (HVY.out.keep_ (fun _ _=>rfl)) hSr HTX.out HTY.out).mono ?_;rintro e w5 ⟨rfl,hv1'⟩;have hv1:Below wr.heap.size wr w5:=(Below.refl _ wr).drew.trans hv1'))
     have HB5:=hI (HB.out.trans (hv1.mono hsz));clear hv1 hv1' d0 d1 d2 f0 f1 f2;rw [HCV.out]
     by_cases hneg:cv<0
     · have hdn:decide (cv<0)=true:=decide_eq_true hneg;have hhp:¬ h<p:=(fun hh'=>by have:=HDC.out.2 hh';omega);clear HDC HCV hneg;rw [hdn]
       go_wp2_with fail
       go_roundw
       case rel=>exact⟨a,h,rfl,by go_num,by omega,by omega,by omega,by omega,HB5.out⟩
       case measure=>(simp [intOf];omega)
     · have hdn:decide (cv<0)=false:=decide_eq_false hneg;have hhp:h<p:=HDC.out.1 (by omega);clear HDC HCV hneg;rw [hdn]
       go_wp2_with fail
       go_roundw
       case rel=>exact⟨h+1,b,by go_num,rfl,by omega,by omega,by omega,by omega,HB5.out⟩
       case measure=>(simp [intOf];omega)
   · have hdab:decide ((a:Int)<(b:Int))=false:=decide_eq_false (by omega);have eap:a=p:=(by omega);subst eap;have ebp:b=a:=(by omega);subst ebp;clear HD HL3 HCr HSr hSr;have HU:=hI (show (x.take (b - na)).length=b - na by rw [List.length_take,HNX.out];omega);have HU':=hI (show (x.drop (b - na)).length=nm - b by rw [List.length_drop,HNX.out];omega);have HV:=hI (show (y.take (en - nm)).length=en - nm by rw [List.length_take,HNY.out];omega);have HV':=hI (show (y.drop (en - nm)).length=nb - en by rw [List.length_drop,HNY.out];omega);have HXE:=hI (show x.take (b - na)++x.drop (b - na)=x from List.take_append_drop _ _);have HYE:=hI (show y.take (en - nm)++y.drop (en - nm)=y from List.take_append_drop _ _);have HSU:=hI (ZdF HSX.out (b - na));have HSU':=hI (ZeG HSX.out (b - na));have HSV:=hI (ZdF HSY.out (en - nm));have HSV':=hI (ZeG HSY.out (en - nm));obtain⟨u,hu⟩:∃ u,x.take (b - na)=u:=⟨_,rfl⟩;obtain⟨u',hu'⟩:∃ u',x.drop (b - na)=u':=⟨_,rfl⟩;obtain⟨v,hv⟩:∃ v,y.take (en - nm)=v:=⟨_,rfl⟩;obtain⟨v',hv'⟩:∃ v',y.drop (en - nm)=v':=⟨_,rfl⟩;rw [hu] at HU HXE HSU HP9;rw [hu'] at HU' HXE HSU' HP9;rw [hv] at HV HYE HSV HP9;rw [hv'] at HV' HYE HSV' HP9;clear hu hu' hv hv';have HTU:=hI (show ∀ z,z ∈ u∨z ∈ u'∨z ∈ v∨z ∈ v'→0≤z.table∧z.table≤1000000 from fun z hz=>HT.out z (by rw [←HXE.out,←HYE.out];simp only [List.mem_append];rcases hz with h | h | h | h<;>simp [h]));have HO0:=hI (show OwnD wr base 53 3 S (.slice (some ⟨g,0,none⟩) N c) ((P++u++u'++v++(v'++Q)).map Zal) by have h9:=HOr.out;rw [←HXE.out,←HYE.out] at h9;simpa using h9);have HFR:=hI (show Fr (fun b=>some b=(Value.slice (some ⟨g,0,none⟩) N c).ownBlock) w wr from Fr.of_below HB.out);have HN0:=hI (show (P++u++u'++v++(v'++Q)).length=N by rw [←HN.out,←HXE.out,←HYE.out];simp);clear HOr HB HGX HGY HTL;go_upto_region 39 with fail
     go_cut [185] from 178 to 185 (fun z W=>W=wr∧z=.bool (decide (b<nm∧nm<en)))
     case first =>
      by_cases k1:b<nm
      · have e1:decide ((b:Int)<(nm:Int))=true:=decide_eq_true (by omega)
        by_cases k2:nm<en
        · have e2:decide ((nm:Int)<(en:Int))=true:=decide_eq_true (by omega)
          go_wp2_with fail
          go_meet;exact⟨rfl,by rw [decide_eq_true ⟨k1,k2⟩]⟩
        · have e2:decide ((nm:Int)<(en:Int))=false:=decide_eq_false (by omega)
          go_wp2_with fail
          go_meet;exact⟨rfl,by rw [decide_eq_false (fun h=>k2 h.2)]⟩
      · have e1:decide ((b:Int)<(nm:Int))=false:=decide_eq_false (by omega)
        go_wp2_with fail
        go_meet;exact⟨rfl,by rw [decide_eq_false (fun h=>k1 h.1)]⟩
     case rest =>
      obtain⟨hW,rfl⟩:=hcut;have hW:=hW.symm;subst hW;go_upto_if 185 with fail
      go_cut [] from 178 to 191 (fun W=>OwnD W base 53 3 S (.slice (some ⟨g,0,none⟩) N c) ((P++u++v++(u'++v'++Q)).map Zal)∧Fr (fun b=>some b=(Value.slice (some ⟨g,0,none⟩) N c).ownBlock) w W)
      case first =>
       by_cases kk:b<nm∧nm<en
       · have ek:=decide_eq_true kk;obtain⟨k1,k2⟩:=kk;rw [ek]
         go_wp2_with fail
         refine(rotate_any _ _ c N base S _ (P++u) u' v (v'++Q) b nm en (by rw [List.length_append,HP.out,HU.out];omega) (by rw [HU'.out];omega) (by rw [HV.out];omega) (by rw [HU'.out];omega) (by rw [HV.out];omega) HN0.out HO0.out hl).mono ?_;rintro e w5 ⟨⟨z,rfl⟩,h1,h2⟩;have h1:OwnD w5 base 53 3 S (.slice (some ⟨g,0,none⟩) N c) ((P++u++v++(u'++v'++Q)).map Zal):=(by simpa using h1);have H1:=hI h1;have H2:=hI (HFR.out.trans h2 (fun b _ h=>h));clear h1 h2
         go_wp2_with fail
         go_meet;exact⟨H1.out,H2.out⟩
       · have ek:=decide_eq_false kk;rw [ek]
         go_wp2_with fail
         go_meet;refine⟨?_,HFR.out⟩;have h9:=HO0.out
         by_cases k1:b<nm
         · have ev:v=[]:=List.length_eq_zero_iff.1 (by rw [HV.out];omega);rw [ev] at h9 ⊢;simpa using h9
         · have ev:u'=[]:=List.length_eq_zero_iff.1 (by rw [HU'.out];omega);rw [ev] at h9 ⊢;simpa using h9
      case rest =>
       obtain⟨hO,hF⟩:=hcut;have HFR:=hI hF;have HO1:=hI hO;clear hO hF;obtain⟨wp,rfl⟩:∃ wp:World,wp=wc:=⟨_,rfl⟩;go_upto_region 41 with fail
       go_cut [199] from 192 to 199 (fun z W=>W=wp∧z=.bool (decide (na<b∧b<mid)))
       case first =>
        by_cases k1:na<b
        · have e1:decide ((na:Int)<(b:Int))=true:=decide_eq_true (by omega)
          by_cases k2:b<mid
          · have e2:decide ((b:Int)<(mid:Int))=true:=decide_eq_true (by omega)
            go_wp2_with fail
            go_meet;exact⟨rfl,by rw [decide_eq_true ⟨k1,k2⟩]⟩
          · have e2:decide ((b:Int)<(mid:Int))=false:=decide_eq_false (by omega)
            go_wp2_with fail
            go_meet;exact⟨rfl,by rw [decide_eq_false (fun h=>k2 h.2)]⟩
        · have e1:decide ((na:Int)<(b:Int))=false:=decide_eq_false (by omega)
          go_wp2_with fail
          go_meet;exact⟨rfl,by rw [decide_eq_false (fun h=>k1 h.1)]⟩
       case rest =>
        obtain⟨hW,rfl⟩:=hcut;have hW:=hW.symm;subst hW;go_upto_if 199 with fail
        go_cut [] from 192 to 205 (fun W=>OwnD W base 53 3 S (.slice (some ⟨g,0,none⟩) N c) ((P++Zaq (cmpC s) (u++v)++u'++v'++Q).map Zal)∧Fr (fun b=>some b=(Value.slice (some ⟨g,0,none⟩) N c).ownBlock) w W)
        case first =>
         by_cases kk:na<b∧b<mid
         · have ek:=decide_eq_true kk;obtain⟨k1,k2⟩:=kk;rw [ek]
           go_wp2_with fail
           refine(HIH.out P u v (u'++v'++Q) na b mid wp (by rw [HU.out,HV.out];omega) HP.out (by rw [HU.out];omega) (by rw [HV.out];omega) (by rw [HU.out];omega) (by rw [HV.out];omega) HSU.out HSV.out (by rw [←HN0.out];simp;omega) (fun z hz=>HTU.out z (by rcases List.mem_append.1 hz with h | h;exact .inl h;exact .inr (.inr (.inl h)))) (HC.out.keep (HFR.out.block gs HC.out.ls (fun e=>hg (by simpa [Value.ownBlock] using e))) HFR.out.size) (HS.out.keep (HFR.out.same (fun b hb=>⟨hSw b hb,fun e=>HNS.out b hb (by simpa [Value.ownBlock] using e)⟩))) HO1.out).mono ?_;rintro e w5 ⟨⟨z,rfl⟩,h1,h2⟩;have h1:OwnD w5 base 53 3 S (.slice (some ⟨g,0,none⟩) N c) ((P++Zaq (cmpC s) (u++v)++u'++v'++Q).map Zal):=(by simpa using h1);have H1:=hI h1;have H2:=hI (HFR.out.trans h2 (fun b _ h=>h));clear h1 h2
           go_wp2_with fail
           go_meet;exact⟨H1.out,H2.out⟩
         · have ek:=decide_eq_false kk;rw [ek]
           go_wp2_with fail
           go_meet;refine⟨?_,HFR.out⟩;have h9:=HO1.out
           have he:Zaq (cmpC s) (u++v)=u++v:=by
            by_cases k1:na<b
            · have ev:v=[]:=List.length_eq_zero_iff.1 (by rw [HV.out];omega);rw [ev,List.append_nil];exact Zbf (ZbN s) HSU.out
            · have ev:u=[]:=List.length_eq_zero_iff.1 (by rw [HU.out];omega);rw [ev,List.nil_append];exact Zbf (ZbN s) HSV.out
           rw [he];simpa using h9
        case rest =>
         obtain⟨hO,hF⟩:=hcut;have HFR:=hI hF;have HO2:=hI hO;clear hO hF;obtain⟨wq,rfl⟩:∃ wq:World,wq=wc:=⟨_,rfl⟩;go_upto_region 43 with fail
         go_cut [213] from 206 to 213 (fun z W=>W=wq∧z=.bool (decide (mid<en∧en<nb)))
         case first =>
          by_cases k1:mid<en
          · have e1:decide ((mid:Int)<(en:Int))=true:=decide_eq_true (by omega)
            by_cases k2:en<nb
            · have e2:decide ((en:Int)<(nb:Int))=true:=decide_eq_true (by omega)
              go_wp2_with fail
              go_meet;exact⟨rfl,by rw [decide_eq_true ⟨k1,k2⟩]⟩
            · have e2:decide ((en:Int)<(nb:Int))=false:=decide_eq_false (by omega)
              go_wp2_with fail
              go_meet;exact⟨rfl,by rw [decide_eq_false (fun h=>k2 h.2)]⟩
          · have e1:decide ((mid:Int)<(en:Int))=false:=decide_eq_false (by omega)
            go_wp2_with fail
            go_meet;exact⟨rfl,by rw [decide_eq_false (fun h=>k1 h.1)]⟩
         case rest =>
          obtain⟨hW,rfl⟩:=hcut;have hW:=hW.symm;subst hW
          by_cases kk:mid<en∧en<nb
          · have ek:=decide_eq_true kk;obtain⟨k1,k2⟩:=kk;rw [ek]
            go_wp2_with fail
            refine(HIH.out (P++Zaq (cmpC s) (u++v)) u' v' Q mid en nb wq (by rw [HU'.out,HV'.out];omega) (by rw [List.length_append,ZaW,List.length_append,HP.out,HU.out,HV.out];omega) (by rw [HU'.out];omega) (by rw [HV'.out];omega) (by rw [HU'.out];omega) (by rw [HV'.out];omega) HSU'.out HSV'.out (by rw [←HN0.out];simp [ZaW];omega) (fun z hz=>HTU.out z (by rcases List.mem_append.1 hz with h | h;exact .inr (.inl h);exact .inr (.inr (.inr h)))) (HC.out.keep (HFR.out.block gs HC.out.ls (fun e=>hg (by simpa [Value.ownBlock] using e))) HFR.out.size) (HS.out.keep (HFR.out.same (fun b hb=>⟨hSw b hb,fun e=>HNS.out b hb (by simpa [Value.ownBlock] using e)⟩))) HO2.out).mono ?_;rintro e w5 ⟨⟨z,rfl⟩,h1,h2⟩;have H1:=hI h1;have H2:=hI (HFR.out.trans h2 (fun b _ h=>h));clear h1 h2
            go_wp2_with fail
            go_end0
            exact⟨⟨_,rfl⟩,by rw [HP9.out];simpa using H1.out,H2.out⟩
          · have ek:=decide_eq_false kk;rw [ek]
            have he:Zaq (cmpC s) (u'++v')=u'++v':=by
             by_cases k1:mid<en
             · have ev:v'=[]:=List.length_eq_zero_iff.1 (by rw [HV'.out];omega);rw [ev,List.append_nil];exact Zbf (ZbN s) HSU'.out
             · have ev:u'=[]:=List.length_eq_zero_iff.1 (by rw [HU'.out];omega);rw [ev,List.nil_append];exact Zbf (ZbN s) HSV'.out
            have HE:=hI he;clear he
            go_wp2_with fail
            go_end0
            exact⟨⟨_,rfl⟩,by rw [HP9.out,HE.out];simpa using HO2.out,HFR.out⟩
theorem Zet (A0:Option Addr) (c0':Nat) (s:Sch) (gs g c N base:Nat) (S:Nat→Prop) (hg:gs≠g) (hl:N≤1000):∀ (fuel:Nat) (P x y Q:List Chg) (na nm nb:Nat) (w:World),x.length+y.length≤fuel→P.length=na→na+x.length=nm→nm+y.length=nb→0<x.length→0<y.length→Std (cmpC s) x→Std (cmpC s) y→(P++x++y++Q).length=N→(∀ z ∈ x++y,0≤z.table∧z.table≤1000000)→CapS w s A0 c0' gs→TabS w S A0 s.tabs→OwnD w base 53 3 S (.slice (some ⟨g,0,none⟩) N c) ((P++x++y++Q).map Zal) →
  Calls Try.prog 123 #[.slice (some ⟨g,0,none⟩) N c,.int .i64 na,.int .i64 nm,.int .i64 nb,.func (.func 80) #[] #[.pointer (some ⟨gs,0,none⟩)]] w (Zbw base S (.slice (some ⟨g,0,none⟩) N c) (P++Zaq (cmpC s) (x++y)++Q) w):=by
 intro fuel;induction fuel with
 | zero=>intro P x y Q na nm nb w hf _ _ _ h0 _;omega
 | succ fuel ih =>
  intro P x y Q na nm nb w hf hP hm hb hx0 hy0 hsx hsy hN ht hc hs ho
  by_cases h1:x.length=1
  · exact symMerge1 A0 c0' s gs g c N base S hg hl P x y Q na nm nb w hP hm hb hx0 hy0 hsx hsy hN ht hc hs ho h1
  · by_cases h2:y.length=1
    · exact symMerge2 A0 c0' s gs g c N base S hg hl P x y Q na nm nb w hP hm hb hx0 hy0 hsx hsy hN ht hc hs ho h1 h2
    · exact symMerge3 A0 c0' s gs g c N base S hg hl P x y Q na nm nb w hP hm hb hx0 hy0 hsx hsy hN ht hc hs ho fuel hf ih h1 h2
theorem seg_two {α:Type} (l:List α) (i n m:Nat):seg l i (n+m)=seg l i n++seg l (i+n) m:=by
 unfold seg;rw [List.take_add,List.drop_drop]
theorem Zhe {α:Type} {l:List α} {i n:Nat} {x:α} (h:x ∈ seg l i n):x ∈ l:=List.mem_of_mem_drop (List.mem_of_mem_take h)
theorem stableG_any (A0:Option Addr) (c0':Nat) (s:Sch) (gs g c N base:Nat) (S:Nat→Prop) (hg:gs≠g) (hN1:N≤1000) (l:List Chg) (w:World) (hN:l.length=N) (ht:∀ x ∈ l,0≤x.table∧x.table≤1000000) (hc:CapS w s A0 c0' gs) (hs:TabS w S A0 s.tabs) (ho:OwnD w base 53 3 S (.slice (some ⟨g,0,none⟩) N c) (l.map Zal)) :
  Calls Try.prog 102 #[(.slice (some ⟨g,0,none⟩) N c),.int .i64 N,.func (.func 80) #[] #[.pointer (some ⟨gs,0,none⟩)]] w (Zbw base S (.slice (some ⟨g,0,none⟩) N c) (Zaq (cmpC s) l) w):=by
 have HC:=hI hc;have HS:=hI hs;have HO:=hI ho;have HTT:=hI ht;have HNL:=hI hN;have hSw:∀ b,S b→b<w.heap.size:=(fun b hb=>by obtain⟨_,_,_,h3⟩:=ho;exact(h3 b hb).1);have HNS:=hI (show ∀ b,S b→b≠g from fun b hb e=>by obtain⟨_,_,_,h3⟩:=ho;exact(h3 b hb).2 (by subst e;rfl));have HPRE:=hI (ZbN s);have HCAP:=hI (show ∀ wx,Fr (fun b=>some b=(Value.slice (some ⟨g,0,none⟩) N c).ownBlock) w wx→CapS wx s A0 c0' gs from fun wx hf=>hc.keep (hf.block gs hc.ls (fun e=>hg (by simpa [Value.ownBlock] using e))) hf.size);have HTAB:=hI (show ∀ wx,Fr (fun b=>some b=(Value.slice (some ⟨g,0,none⟩) N c).ownBlock) w wx→TabS wx S A0 s.tabs from fun wx hf=>hs.keep (hf.same (fun b hb=>⟨hSw b hb,fun e=>HNS.out b hb (by simpa [Value.ownBlock] using e)⟩)));have HBND:=hI (show ∀ L:List Chg,SameC (cmpC s) L l→∀ x ∈ L,0≤x.table∧x.table≤1000000 from fun L hL x hx=>ht x (hL.mem (ZbN s) hx));clear hc hs ho ht hN;go_enter Try.func102,Try.ntmps102
 go_wp2_with fail
 go_loopw [7,8] (fun a b wr=>∃ (t x y:Nat) (L:List Chg),20*t=x∧x+20=y∧a=.int .i64 x∧b=.int .i64 y∧x≤N∧L.length=N∧SameC (cmpC s) L l∧SegsTo (cmpC s) 20 t L∧OwnD wr base 53 3 S (.slice (some ⟨g,0,none⟩) N c) (L.map Zal)∧Fr (fun b=>some b=(Value.slice (some ⟨g,0,none⟩) N c).ownBlock) w wr) (fun _ b _=>N+20 - (intOf b).toNat)
 case atStart=>exact⟨0,0,20,l,rfl,rfl,rfl,rfl,Nat.zero_le _,HNL.out,SameC.refl _,fun k hk=>by omega,HO.out,Fr.refl _ _⟩
 case round =>
  obtain⟨t,x,y,L,hx,hy,rfl,rfl,hxN,hLN,hsc,hsg,hown,hfr⟩:=hrel;have HLN:=hI hLN;have HSC:=hI hsc;have HSG:=hI hsg;have HOW:=hI hown;have HFR:=hI hfr;clear hLN hsc hsg hown hfr HO
  by_cases hyN:y≤N
  · have hd:decide (y≤N)=true:=decide_eq_true hyN;have HE:=hI (ZeQ (l:=L) (i:=x) (n:=20) (by rw [HLN.out];omega));have HPL:=hI (show (L.take x).length=x by rw [List.length_take,HLN.out];omega);have HML:=hI (show (seg L x 20).length=20 from ZfY (by rw [HLN.out];omega));have HMB:=hI (show ∀ z ∈ seg L x 20,0≤z.table∧z.table≤1000000 from fun z hz=>HBND.out L HSC.out z (Zhe hz));obtain⟨P,hP⟩:∃ P,L.take x=P:=⟨_,rfl⟩;obtain⟨M,hM⟩:∃ M,seg L x 20=M:=⟨_,rfl⟩;obtain⟨Q,hQ⟩:∃ Q,L.drop (x+20)=Q:=⟨_,rfl⟩;rw [hP,hM,hQ] at HE;rw [hP] at HPL;rw [hM] at HML HMB;clear hP hM hQ
    go_wp2_with fail
    refine(Zdt A0 c0' s gs g c N base S hg hN1 P M Q x y _ HPL.out (by rw [HML.out];omega) (by rw [←HE.out];exact HLN.out) HMB.out (HCAP.out _ HFR.out) (HTAB.out _ HFR.out) (by rw [←HE.out];exact HOW.out)).mono ?_;rintro e w5 ⟨⟨z,rfl⟩,h1,h2⟩;have H1:=hI h1;have H2:=hI (HFR.out.trans h2 (fun b _ h=>h));have HSC2:=hI (show SameC (cmpC s) (P++Zaq (cmpC s) M++Q) l from (ZeI HPRE.out P M Q).trans (by rw [←HE.out];exact HSC.out));have HSG2:=hI (HSG.out.step HPRE.out (by rw [HLN.out];omega) HE.out (by rw [HPL.out];omega) HML.out);have HLN2:=hI (show (P++Zaq (cmpC s) M++Q).length=N by rw [←HLN.out,HE.out];simp [ZaW]);clear h1 h2
    go_wp2_with fail
    go_roundw
    case rel=>exact⟨t+1,y,y+20,P++Zaq (cmpC s) M++Q,by omega,rfl,rfl,by go_num,hyN,HLN2.out,HSC2.out,HSG2.out,H1.out,H2.out⟩
    case measure=>(simp [intOf];omega)
  · have hd:decide (y≤N)=false:=decide_eq_false hyN;have HE:=hI (show L=L.take x++L.drop x++[] by rw [List.append_nil,List.take_append_drop]);have HPL:=hI (show (L.take x).length=x by rw [List.length_take,HLN.out];omega);have HML:=hI (show (L.drop x).length=N - x by rw [List.length_drop,HLN.out]);have HMB:=hI (show ∀ z ∈ L.drop x,0≤z.table∧z.table≤1000000 from fun z hz=>HBND.out L HSC.out z (List.mem_of_mem_drop hz));obtain⟨P,hP⟩:∃ P,L.take x=P:=⟨_,rfl⟩;obtain⟨M,hM⟩:∃ M,L.drop x=M:=⟨_,rfl⟩;rw [hP,hM] at HE;rw [hP] at HPL;rw [hM] at HML HMB;clear hP hM
    go_wp2_with fail
    refine(Zdt A0 c0' s gs g c N base S hg hN1 P M [] x N _ HPL.out (by rw [HML.out];omega) (by rw [←HE.out];exact HLN.out) HMB.out (HCAP.out _ HFR.out) (HTAB.out _ HFR.out) (by rw [←HE.out];exact HOW.out)).mono ?_;rintro e w5 ⟨⟨z,rfl⟩,h1,h2⟩;have H1:=hI h1;have H2:=hI (HFR.out.trans h2 (fun b _ h=>h));have HSC2:=hI (show SameC (cmpC s) (P++Zaq (cmpC s) M++[]) l from (ZeI HPRE.out P M []).trans (by rw [←HE.out];exact HSC.out));have HSG2:=hI (HSG.out.last HPRE.out (by omega) (by rw [HLN.out];omega) HE.out (by rw [HPL.out];omega));have HLN2:=hI (show (P++Zaq (cmpC s) M++[]).length=N by rw [←HLN.out,HE.out];simp [ZaW]);clear h1 h2 HFR HOW HSC HSG
    go_wp2_with fail
    go_loopw [6] (fun i wq=>∃ (B:Nat) (L:List Chg),i=.int .i64 B∧0<B∧B≤2000∧L.length=N∧SameC (cmpC s) L l∧SegsFrom (cmpC s) B 0 L∧OwnD wq base 53 3 S (.slice (some ⟨g,0,none⟩) N c) (L.map Zal)∧Fr (fun b=>some b=(Value.slice (some ⟨g,0,none⟩) N c).ownBlock) w wq) (fun i _=>N - (intOf i).toNat)
    case atStart=>exact⟨20,P++Zaq (cmpC s) M++[],rfl,by omega,by omega,HLN2.out,HSC2.out,HSG2.out,H1.out,H2.out⟩
    case round =>
     clear HE HPL HML HMB H1 H2 HSC2 HSG2 HLN2 HLN;obtain⟨B,L0,rfl,hB0,hB2,hLN,hsc,hsg,hown,hfr⟩:=hrel;have HLN:=hI hLN;have HSC:=hI hsc;have HSF:=hI hsg;have HOW:=hI hown;have HFR:=hI hfr;clear hLN hsc hsg hown hfr
     by_cases hBN:B<N
     · have hd2:decide (B<N)=true:=decide_eq_true hBN;obtain⟨BB,hBB⟩:∃ BB,B+B=BB:=⟨_,rfl⟩;have q1:IntKind.i64.wrap (2*(B:Int))=BB:=(by rw [show 2*(B:Int)=(BB:Int) by omega];exact IntWalk.i64_in _ (by omega));have q2:IntKind.i64.wrap ((B:Int)*2)=BB:=by rw [show (B:Int)*2=(BB:Int) by omega];exact IntWalk.i64_in _ (by omega)
       go_wp2_with fail
       go_loopw [7,8] (fun a b wr=>∃ (t x y:Nat) (L:List Chg),BB*t=x∧x+BB=y∧a=.int .i64 x∧b=.int .i64 y∧x≤N∧L.length=N∧SameC (cmpC s) L l∧SegsTo (cmpC s) BB t L∧SegsFrom (cmpC s) B (2*t) L∧OwnD wr base 53 3 S (.slice (some ⟨g,0,none⟩) N c) (L.map Zal)∧Fr (fun b=>some b=(Value.slice (some ⟨g,0,none⟩) N c).ownBlock) w wr) (fun _ b _=>N+BB - (intOf b).toNat)
       case atStart=>exact⟨0,0,BB,L0,Nat.mul_zero _,by omega,rfl,rfl,Nat.zero_le _,HLN.out,HSC.out,fun k hk=>by omega,HSF.out,HOW.out,HFR.out⟩
       case round =>
        clear HLN HSC HSF HOW HFR;obtain⟨t,x,y,L,hx,hy,rfl,rfl,hxN,hLN,hsc,hsg,hsf,hown,hfr⟩:=hrel;have HLN:=hI hLN;have HSC:=hI hsc;have HSG:=hI hsg;have HSF:=hI hsf;have HOW:=hI hown;have HFR:=hI hfr;have HB1:=hI (show B*(2*t)=x by rw [←hx,←hBB,Nat.add_mul,Nat.mul_left_comm];omega);have HB2:=hI (show B*(2*t+1)=x+B by rw [Nat.mul_add,HB1.out];omega);have HBX:=hI hx;clear hLN hsc hsg hsf hown hfr;obtain⟨m,hm⟩:∃ m,x+B=m:=⟨_,rfl⟩;have q3:IntKind.i64.wrap ((x:Int)+(B:Int))=m:=(by rw [show (x:Int)+(B:Int)=(m:Int) by omega];exact IntWalk.i64_in _ (by omega));have HXS:=hI (show Std (cmpC s) (seg L x B) by have:=HSF.out (2*t) nR;rw [HB1.out] at this;exact this);have HYS:=hI (show Std (cmpC s) (seg L m B) by have:=HSF.out (2*t+1) (by omega);rw [HB2.out,hm] at this;exact this);have HPL:=hI (show (L.take x).length=x by rw [List.length_take,HLN.out];omega)
        by_cases hyN:y≤N
        · have hd:decide (y≤N)=true:=decide_eq_true hyN;obtain⟨y2,hy2⟩:∃ y2,y+BB=y2:=⟨_,rfl⟩;have q4:IntKind.i64.wrap ((y:Int)+(BB:Int))=y2:=(by rw [show (y:Int)+(BB:Int)=(y2:Int) by omega];exact IntWalk.i64_in _ (by omega))
          have HE:=hI (show L=L.take x++seg L x B++seg L m B++L.drop (x+BB) by
           have h9:=ZeQ (l:=L) (i:=x) (n:=BB) (by rw [HLN.out];omega);rw [show seg L x BB=seg L x B++seg L m B by rw [←hBB,seg_two,hm]] at h9;simpa using h9)
          have HXL:=hI (show (seg L x B).length=B from ZfY (by rw [HLN.out];omega));have HYL:=hI (show (seg L m B).length=B from ZfY (by rw [HLN.out];omega));have HMB:=hI (show ∀ z ∈ seg L x B++seg L m B,0≤z.table∧z.table≤1000000 from fun z hz=>HBND.out L HSC.out z (by rcases List.mem_append.1 hz with h | h<;>exact Zhe h));obtain⟨P,hP⟩:∃ P,L.take x=P:=⟨_,rfl⟩;obtain⟨X,hX⟩:∃ X,seg L x B=X:=⟨_,rfl⟩;obtain⟨Y,hY⟩:∃ Y,seg L m B=Y:=⟨_,rfl⟩;obtain⟨Q,hQ⟩:∃ Q,L.drop (x+BB)=Q:=⟨_,rfl⟩;rw [hP,hX,hY,hQ] at HE;rw [hP] at HPL;rw [hX] at HXL HXS;rw [hY] at HYL HYS;rw [hX,hY] at HMB;clear hP hX hY hQ;have HE2:=hI (show L=P++(X++Y)++Q by rw [←List.append_assoc];exact HE.out)
          go_wp2_with fail
          refine(Zet A0 c0' s gs g c N base S hg hN1 (X.length+Y.length) P X Y Q x m y _ nR HPL.out (by rw [HXL.out];exact hm) (by rw [HYL.out];omega) (by rw [HXL.out];exact hB0) (by rw [HYL.out];exact hB0) HXS.out HYS.out (by rw [←HE.out];exact HLN.out) HMB.out (HCAP.out _ HFR.out) (HTAB.out _ HFR.out) (by rw [←HE.out];exact HOW.out)).mono ?_;rintro e w5 ⟨⟨z,rfl⟩,h1,h2⟩;have H1:=hI h1;have H2:=hI (HFR.out.trans h2 (fun b _ h=>h));have HSC2:=hI (show SameC (cmpC s) (P++Zaq (cmpC s) (X++Y)++Q) l from (ZeI HPRE.out P (X++Y) Q).trans (by rw [←HE2.out];exact HSC.out));have HML:=hI (show (X++Y).length=BB by rw [List.length_append,HXL.out,HYL.out];exact hBB);have HSG2:=hI (HSG.out.step HPRE.out (by rw [HLN.out,HBX.out];omega) HE2.out (by rw [HPL.out,HBX.out]) HML.out);have HSF2:=hI (HSF.out.step (M':=Zaq (cmpC s) (X++Y)) (u:=2*(t+1)) HE2.out (by rw [ZaW]) (by rw [List.length_append,HPL.out,HML.out];have:=HB1.out;rw [show 2*(t+1)=2*t+2 by omega,Nat.mul_add,this];omega) (by omega));have HLN2:=hI (show (P++Zaq (cmpC s) (X++Y)++Q).length=N by rw [←HLN.out,HE2.out];simp [ZaW]<;>omega);have HNX:=hI (show BB*(t+1)=y by rw [Nat.mul_succ,HBX.out];exact hy);clear h1 h2
          go_wp2_with fail
          go_roundw
          case rel=>exact⟨t+1,y,y2,P++Zaq (cmpC s) (X++Y)++Q,HNX.out,hy2,rfl,by go_num,hyN,HLN2.out,HSC2.out,HSG2.out,HSF2.out,H1.out,H2.out⟩
          case measure=>(simp [intOf];omega)
        · have hd:decide (y≤N)=false:=decide_eq_false hyN
          by_cases hmN:m<N
          · have hd3:decide (m<N)=true:=decide_eq_true hmN
            have HE:=hI (show L=L.take x++seg L x B++L.drop m++[] by
             have h9:=ZeQ (l:=L) (i:=x) (n:=B) (by rw [HLN.out];omega);rw [hm] at h9;simpa using h9)
            have HXL:=hI (show (seg L x B).length=B from ZfY (by rw [HLN.out];omega));have HYE:=hI (show seg L m B=L.drop m by unfold seg;rw [List.take_of_length_le (by rw [List.length_drop,HLN.out];omega)]);rw [HYE.out] at HYS;have HYL:=hI (show (L.drop m).length=N - m by rw [List.length_drop,HLN.out]);have HMB:=hI (show ∀ z ∈ seg L x B++L.drop m,0≤z.table∧z.table≤1000000 from fun z hz=>HBND.out L HSC.out z (by rcases List.mem_append.1 hz with h | h;exact Zhe h;exact List.mem_of_mem_drop h));obtain⟨P,hP⟩:∃ P,L.take x=P:=⟨_,rfl⟩;obtain⟨X,hX⟩:∃ X,seg L x B=X:=⟨_,rfl⟩;obtain⟨Y,hY⟩:∃ Y,L.drop m=Y:=⟨_,rfl⟩;rw [hP,hX,hY] at HE;rw [hP] at HPL;rw [hX] at HXL HXS;rw [hY] at HYL HYS;rw [hX,hY] at HMB;clear hP hX hY HYE;have HE2:=hI (show L=P++(X++Y)++[] by rw [←List.append_assoc];exact HE.out)
            go_wp2_with fail
            refine(Zet A0 c0' s gs g c N base S hg hN1 (X.length+Y.length) P X Y [] x m N _ nR HPL.out (by rw [HXL.out];exact hm) (by rw [HYL.out];omega) (by rw [HXL.out];exact hB0) (by rw [HYL.out];omega) HXS.out HYS.out (by rw [←HE.out];exact HLN.out) HMB.out (HCAP.out _ HFR.out) (HTAB.out _ HFR.out) (by rw [←HE.out];exact HOW.out)).mono ?_;rintro e w5 ⟨⟨z,rfl⟩,h1,h2⟩;have H1:=hI h1;have H2:=hI (HFR.out.trans h2 (fun b _ h=>h));have HSC2:=hI (show SameC (cmpC s) (P++Zaq (cmpC s) (X++Y)++[]) l from (ZeI HPRE.out P (X++Y) []).trans (by rw [←HE2.out];exact HSC.out));have HSF2:=hI (HSG.out.last HPRE.out (by omega) (by rw [HLN.out,HBX.out];omega) HE2.out (by rw [HPL.out,HBX.out]));have HLN2:=hI (show (P++Zaq (cmpC s) (X++Y)++[]).length=N by rw [←HLN.out,HE2.out];simp [ZaW]<;>omega);clear h1 h2
            go_wp2_with fail
            go_roundw
            case rel=>exact⟨BB,P++Zaq (cmpC s) (X++Y)++[],by go_num,by omega,by omega,HLN2.out,HSC2.out,HSF2.out,H1.out,H2.out⟩
            case measure=>(simp [intOf];omega)
          · have hd3:decide (m<N)=false:=decide_eq_false hmN
            have HSF2:=hI (HSG.out.skip (by
             rw [HBX.out];have h9:=HXS.out;unfold seg at h9;rw [List.take_of_length_le (by rw [List.length_drop,HLN.out];omega)] at h9;exact h9) (by rw [HLN.out,HBX.out];omega))
            go_wp2_with fail
            go_roundw
            case rel=>exact⟨BB,L,by go_num,by omega,by omega,HLN.out,HSC.out,HSF2.out,HOW.out,HFR.out⟩
            case measure=>(simp [intOf];omega)
     · have hd2:decide (B<N)=false:=decide_eq_false hBN;have HDN:=hI (show L0=Zaq (cmpC s) l from segs_done HPRE.out HSF.out (by rw [HLN.out];omega) HSC.out)
       go_wp2_with fail
       go_end0
       exact⟨⟨_,rfl⟩,by rw [←HDN.out];exact HOW.out,HFR.out⟩
theorem Zds (A0:Option Addr) (c0':Nat) (s:Sch) (gs:Nat) (A:Option Addr) (c:Nat) (l:List Chg) (base:Nat) (S:Nat→Prop) (w:World) (hc:CapS w s A0 c0' gs) (hs:TabS w S A0 s.tabs) (ho:OwnD w base 53 3 S (.slice A l.length c) (l.map Zal)) (hg:some gs≠(Value.slice A l.length c).ownBlock) (ht:∀ x ∈ l,0≤x.table∧x.table≤1000000) (hl:l.length≤1000) :
  Calls Try.prog 79 #[.slice A l.length c,.func (.func 80) #[] #[.pointer (some ⟨gs,0,none⟩)]] w (Zbw base S (.slice A l.length c) (Zaq (cmpC s) l) w):=by
 by_cases h19:l.length≤19
 · exact sortStable_few A0 c0' s gs A c l base S w hc hs ho hg ht h19
 · obtain⟨g,rfl⟩:=OwnD.some_ ho (by omega);have HX:=hI (stableG_any A0 c0' s gs g c l.length base S (fun e=>hg (by rw [e];rfl)) hl l w rfl ht hc hs ho);clear hc hs ho hg ht;go_enter Try.func79,Try.ntmps79
   go_wp2_with fail
   refine HX.out.mono ?_;rintro e w1 ⟨⟨u,rfl⟩,h1,h2⟩;have H1:=hI h1;have H2:=hI h2;clear h1 h2
   go_wp2_with fail
   go_end0
   exact⟨⟨_,rfl⟩,H1.out,H2.out⟩
end Go.Proofs.Ytkpjjfhfbpfjpaa
