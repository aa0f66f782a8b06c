import Derived.Test.YtkpjjfhfbpfjpaaK740de7
set_option linter.unusedVariables false
set_option linter.unusedSimpArgs false
set_option maxRecDepth 100000
set_option maxHeartbeats 8000000
namespace Go.Proofs.Ytkpjjfhfbpfjpaa
open Go.RowKit
section
variable {w:World} {base n c g:Nat} {S:Nat→Prop}
theorem OwnD.chgs {v:Value} {A:Option Addr} {l:List Chg} (h:OwnD w base 53 3 S (.slice A n c) (l.map Zal)) (hl:l.length≤2513169434916):n=l.length∧n≤c∧ChgS w (fun b=>S b∨some b=(Value.slice A n c).ownBlock) A l:=by
 have:=h.slice (S':=fun b=>S b∨some b=(Value.slice A n c).ownBlock) (by rw [Zag (n:=56) (fun _=>rfl)];omega) (fun b hb=>.inl hb) (fun g _ _ e=>.inr e.symm);rw [List.length_map] at this;exact this
theorem vals3 {ch:Chg} {vs:List Value} (h:Dat.Vals w S (Zal ch) vs):∃ x y z,vs=[x,y,z]:=by
 have:=Dat.Vals.len _ _ h;rw [ZaL] at this
 match vs,this with
 | [x,y,z],_=>exact⟨x,y,z,rfl⟩
theorem set6 (p q:List Value) (x0 x1 x2 y0 y1 y2:Value) :
  ((((((p++x0 :: x1 :: x2 :: y0 :: y1 :: y2 :: q).set (p.length+3) x0).set (p.length+3+1) x1).set (p.length+3+2) x2).set p.length y0).set (p.length+1) y1).set (p.length+2) y2=p++y0 :: y1 :: y2 :: x0 :: x1 :: x2 :: q:=by
 induction p with
 | nil=>rfl
 | cons a p ih =>
  rw [List.length_cons,show p.length+1+3=p.length+3+1 by omega,show p.length+3+1+1=(p.length+3+1)+1 by omega,show p.length+3+1+2=(p.length+3+2)+1 by omega,show p.length+1+1=(p.length+1)+1 by omega,show p.length+1+2=(p.length+2)+1 by omega];simp only [List.cons_append,List.set_cons_succ];rw [ih]
theorem OwnD.swap {p q:List Chg} {a b:Chg} {x0 x1 x2 y0 y1 y2:Value} (h:OwnD w base 53 3 S (.slice (some ⟨g,0,none⟩) n c) ((p++a :: b :: q).map Zal)) (hn:n=(p++a :: b :: q).length)
  (hx0:w.cell? ⟨g,p.length*3,none⟩=some x0) (hx1:w.cell? ⟨g,p.length*3+1,none⟩=some x1) (hx2:w.cell? ⟨g,p.length*3+2,none⟩=some x2)
  (hy0:w.cell? ⟨g,(p.length+1)*3,none⟩=some y0) (hy1:w.cell? ⟨g,(p.length+1)*3+1,none⟩=some y1) (hy2:w.cell? ⟨g,(p.length+1)*3+2,none⟩=some y2) :
  OwnD ((((((w.setCell ⟨g,(p.length+1)*3,none⟩ x0).setCell ⟨g,(p.length+1)*3+1,none⟩ x1).setCell ⟨g,(p.length+1)*3+2,none⟩ x2).setCell ⟨g,p.length*3,none⟩ y0).setCell ⟨g,p.length*3+1,none⟩ y1).setCell ⟨g,p.length*3+2,none⟩ y2)
   base 53 3 S (.slice (some ⟨g,0,none⟩) n c) ((p++b :: a :: q).map Zal):=by
 rw [show (p.length+1)*3=p.length*3+3 by omega] at *;obtain⟨vals,h1,h2,h3⟩:=h;rw [List.length_map,←hn] at h1;have hl:(p++b :: a :: q).length=n:=(by rw [hn];simp);rw [List.map_append,List.map_cons,List.map_cons] at h2;obtain⟨vp,v',e1,h4,h5⟩:=ZbM h2;unfold Dat.ValsAll at h5;obtain⟨va,v'',e2,h6,h7⟩:=h5;unfold Dat.ValsAll at h7;obtain⟨vb,vq,e3,h8,h9⟩:=h7;obtain⟨z0,z1,z2,e4⟩:=vals3 h6;obtain⟨u0,u1,u2,e5⟩:=vals3 h8;subst e4 e5 e3 e2 e1;have hpl:vp.length=p.length*3:=(by rw [Dat.ValsAll.len _ _ h4,ZaZ ZaL]);have hbnd:p.length*3+6≤n*3:=(by rw [hn];simp;omega)
 have hc:∀ i,i<6→w.cell? ⟨g,p.length*3+i,none⟩=([z0,z1,z2,u0,u1,u2]++vq)[i]?:=fun i hi=>by
  rw [h1.cellAt _ (by omega),List.getElem?_append_right (by omega)];simp [hpl]
 have e0:z0=x0:=(by have:=(hc 0 (by omega)).symm.trans hx0;simpa using this);have e1:z1=x1:=(by have:=(hc 1 (by omega)).symm.trans hx1;simpa using this);have e2:z2=x2:=(by have:=(hc 2 (by omega)).symm.trans hx2;simpa using this);have e3:u0=y0:=(by have:=(hc 3 (by omega)).symm.trans hy0;simpa using this);have e4:u1=y1:=(by have:=(hc 4 (by omega)).symm.trans hy1;simpa using this);have e5:u2=y2:=(by have:=(hc 5 (by omega)).symm.trans hy2;simpa using this);subst e0 e1 e2 e3 e4 e5;have hst:=((((((h1.stored (p.length*3+3) z0).1.stored (p.length*3+3+1) z1).1.stored (p.length*3+3+2) z2).1.stored (p.length*3) u0).1.stored (p.length*3+1) u1).1.stored (p.length*3+2) u2).1
 have hk:Same S w ((((((w.setCell ⟨g,p.length*3+3,none⟩ z0).setCell ⟨g,p.length*3+3+1,none⟩ z1).setCell ⟨g,p.length*3+3+2,none⟩ z2).setCell ⟨g,p.length*3,none⟩ u0).setCell ⟨g,p.length*3+1,none⟩ u1).setCell ⟨g,p.length*3+2,none⟩ u2):=fun b hb=>by
  have hne:b≠g:=fun e=>(h3 b hb).2 (by subst e;rfl)
  iterate 6 rw [Below.heap_setCell _ _ _ b hne]
 rw [←hpl] at hst;simp only [List.cons_append,List.nil_append] at hst;rw [set6] at hst;rw [hpl] at hst;refine⟨_,by rw [List.length_map,hl];exact hst,?_,fun b hb=>⟨by simpa using (h3 b hb).1,(h3 b hb).2⟩⟩;rw [List.map_append,List.map_cons,List.map_cons];refine Zav (Dat.ValsAll.keep hk _ _ h4) ?_;unfold Dat.ValsAll;refine⟨[u0,u1,u2],z0 :: z1 :: z2 :: vq,rfl,Dat.Vals.keep hk _ _ h8,?_⟩;unfold Dat.ValsAll;exact⟨[z0,z1,z2],vq,rfl,Dat.Vals.keep hk _ _ h6,Dat.ValsAll.keep hk _ _ h9⟩
end
def Zbw (base:Nat) (S:Nat→Prop) (v:Value) (l:List Chg) (w:World) (e:Ending) (w':World):Prop:=(∃ u,e=.returned u)∧OwnD w' base 53 3 S v (l.map Zal)∧Fr (fun b=>some b=v.ownBlock) w w'
theorem OwnD.belowC {w w':World} {base n c:Nat} {S:Nat→Prop} {A:Option Addr} {l:List Dat} (h:OwnD w base 53 3 S (.slice A n c) l) (hb:Below w.heap.size w w'):OwnD w' base 53 3 S (.slice A n c) l:=h.below hb
theorem OwnD.drew {w:World} {base size:Nat} {e:TypeId} {S:Nat→Prop} {v:Value} {l:List Dat} (h:OwnD w base e size S v l):OwnD w.drew base e size S v l:=h.keep nR (fun _ _=>rfl) (fun _ _=>rfl)
theorem Zgg (p q:List Chg) (x:Chg):(p++x :: q).getD p.length chg0=x:=by simp [List.getD]
theorem getD_pre (p q:List Chg) (x y:Chg):(p++[x]++y :: q).getD p.length chg0=x:=by simp [List.getD]
theorem insertion_any (A0:Option Addr) (c0':Nat) (s:Sch) (gs:Nat) (A:Option Addr) (c:Nat) (l:List Chg) (base:Nat) (S:Nat→Prop) (w:World) (hc:CapS w s A0 c0' gs) (hs:TabS w S A0 s.tabs) (ho:OwnD w base 53 3 S (.slice A l.length c) (l.map Zal)) (hg:some gs≠(Value.slice A l.length c).ownBlock) (ht:∀ x ∈ l,0≤x.table∧x.table≤1000000) (hl:l.length≤1000) :
  Calls Try.prog 122 #[.slice A l.length c,.int .i64 0,.int .i64 l.length,.func (.func 80) #[] #[.pointer (some ⟨gs,0,none⟩)]] w (Zbw base S (.slice A l.length c) (Zaq (cmpC s) l) w):=by
 have HC:=hI hc;have HS:=hI hs;have HO:=hI ho;have HG:=hI hg;have HTT:=hI ht;have hSw:∀ b,S b→b<w.heap.size:=(fun b hb=>by obtain⟨_,_,_,h3⟩:=ho;exact(h3 b hb).1);have HNS:=hI (show ∀ b,S b→some b≠(Value.slice A l.length c).ownBlock from fun b hb=>by obtain⟨_,_,_,h3⟩:=ho;exact(h3 b hb).2);clear hc hs ho hg ht;go_enter Try.func122,Try.ntmps122
 go_wp2_with fail
 go_loopw [8] (fun i wr=>∃ k:Nat,1≤k∧(k≤l.length∨k=1)∧i=.int .i64 k∧OwnD wr base 53 3 S (.slice A l.length c) ((Zaq (cmpC s) (l.take k)++l.drop k).map Zal)∧Fr (fun b=>some b=(Value.slice A l.length c).ownBlock) w wr) (fun i _=>l.length - (intOf i).toNat)
 case atStart =>
  refine⟨1,by omega,.inr rfl,rfl,?_,Fr.refl _ _⟩;have e:Zaq (cmpC s) (l.take 1)=l.take 1:=(by cases l<;>rfl);rw [e,List.take_append_drop];exact HO.out
 case round =>
  obtain⟨k,hk1,hk2,rfl,hown,hfr⟩:=hrel;have HOW:=hI hown;have HFR:=hI hfr;have hsz:=hfr.size;clear hown hfr
  by_cases hkl:k<l.length
  · have HSN:=hI (show Zaq (cmpC s) (l.take (k+1))=ins (cmpC s) (l.getD k chg0) (Zaq (cmpC s) (l.take k)) by rw [List.take_succ_eq_append_getElem hkl,ZfE];simp [List.getD,hkl]);have HDK:=hI (Zgh hkl);have HLK:=hI (show (Zaq (cmpC s) (l.take k)).length=k by rw [ZaW,List.length_take];omega);have HTX:=hI (HTT.out (l.getD k chg0) (by simp [List.getD,hkl]));have HTP:=hI (show ∀ y ∈ Zaq (cmpC s) (l.take k),0≤y.table∧y.table≤1000000 from fun y hy=>HTT.out y (List.mem_of_mem_take ((ZeV _ _ _).1 hy)));rw [HDK.out] at HOW;generalize Zaq (cmpC s) (l.take k)=pre at HSN HLK HTP HOW;generalize l.getD k chg0=x at HSN HTX HOW HDK
    go_wp2_with fail
    go_loopw [9] (fun i wq=>∃ j:Nat,i=.int .i64 j∧∃ p q:List Chg,p.length=j∧p++q=pre∧(∀ y ∈ q,cmpC s x y<0)∧OwnD wq base 53 3 S (.slice A l.length c) ((p++x :: (q++l.drop (k+1))).map Zal)∧Fr (fun b=>some b=(Value.slice A l.length c).ownBlock) w wq) (fun i _=>(intOf i).toNat)
    case atStart=>exact⟨k,rfl,pre,[],HLK.out,by simp,fun y hy=>by simp at hy,by simpa using HOW.out,HFR.out⟩
    case round =>
     clear HOW HFR hsz;obtain⟨j,rfl,p,q,hpj,hpq,hlt,hown,hfr⟩:=hrel;have HOW:=hI hown;have HFR:=hI hfr;have hsz:=hfr.size;have HPQ:=hI hpq;have HLT:=hI hlt;have HPJ:=hI hpj;have hjk:j≤k:=(by have:=HLK.out;rw [←hpq,List.length_append] at this;omega);have hlen:(p++x :: (q++l.drop (k+1))).length=l.length:=(by have:=HLK.out;rw [←hpq,List.length_append] at this;simp;omega);have HLEN:=hI hlen;clear hown hfr hpq hlt hpj hlen
     by_cases hj0:j=0
     · subst hj0;have hp0:p=[]:=List.eq_nil_of_length_eq_zero HPJ.out;subst hp0;have HFIN:=hI (show Zaq (cmpC s) (l.take (k+1))++l.drop (k+1)=[]++x :: (q++l.drop (k+1)) by rw [HSN.out,←HPQ.out,ZfG (cmpC s) x [] q HLT.out (by simp)];simp);have hd:decide ((0:Int)<0)=false:=by decide
       go_wp2_with fail
       go_quiet (fail)
       go_wp2_with fail
       go_roundw
       case rel=>exact⟨k+1,by omega,.inl hkl,by go_num,by rw [HFIN.out];exact HOW.out.keep nR (fun _ _=>rfl) (fun _ _=>rfl),HFR.out.drewN _⟩
       case measure=>simp [intOf];omega
     · obtain⟨i,rfl⟩:∃ i,j=i+1:=⟨j - 1,by omega⟩
       obtain⟨r,y,hpr⟩:∃ r y,p=r++[y]:=by
        rcases List.eq_nil_or_concat p with h | ⟨r,y,h⟩
        · rw [h] at HPJ;exact absurd HPJ.out (by simp)
        · exact⟨r,y,by simpa using h⟩
       subst hpr;have HRI:=hI (show r.length=i by have:=HPJ.out;simp at this;omega);have hil:i+1<l.length:=(by omega);obtain⟨hn1,hn2,hch⟩:=OwnD.chgs (v:=.slice A l.length c) HOW.out (by rw [HLEN.out];omega);obtain⟨b2,o2,eA,hb2,d0,A1,c1,A2,c2,d1,e1,hR1,d2,e2,hR2⟩:=hch.at_ (k:=i) (by rw [HLEN.out];omega);obtain⟨b3,o3,eA3,hb3,f0,B1,k1,B2,k2,f1,g1,hR3,f2,g2,hR4⟩:=hch.at_ (k:=i+1) (by rw [HLEN.out];omega);have ey:((r++[y])++x :: (q++l.drop (k+1))).getD i chg0=y:=(by rw [←HRI.out];exact getD_pre _ _ _ _);have ex:((r++[y])++x :: (q++l.drop (k+1))).getD (i+1) chg0=x:=(by rw [←HPJ.out];exact Zgg _ _ _);rw [ey] at d0 d1 d2 e1 e2 hR1 hR2;rw [ex] at f0 f1 f2 g1 g2 hR3 hR4;obtain⟨vals,hov,hva,hsv⟩:=HOW.out;obtain⟨g,cap,ev,hbg,hgl⟩:=hov.form (by simp;omega);have e9:A=some ⟨g,0,none⟩:=(by injection ev);rw [e9] at eA eA3;injection eA with eA;injection eA with eA1 eA2;injection eA3 with eA3;injection eA3 with eA31 eA32;subst eA1 eA2 eA31 eA32 e9;have hfz:∀ z,wr.frozen? ⟨g,z,none⟩=false:=(fun z=>by rw [List.length_map,HLEN.out] at hov;exact hov.frozenAt z);clear hov hva hsv ev hn1 hn2 hch ex ey hbg;have HVY:=hI (show ChV wr (fun b=>S b∨some b=(Value.slice (some ⟨g,0,none⟩) l.length c).ownBlock) y A1 c1 A2 c2 from ⟨hR1,e1,hR2,e2⟩);have HVX:=hI (show ChV wr (fun b=>S b∨some b=(Value.slice (some ⟨g,0,none⟩) l.length c).ownBlock) x B1 k1 B2 k2 from ⟨hR3,g1,hR4,g2⟩);have hy1:=hR1.len;have hy2:=hR2.len;have hx1:=hR3.len;have hx2:=hR4.len;clear hR1 hR2 hR3 hR4 e1 e2 g1 g2 hb2 hb3;have HTY:=hI (HTP.out y (by rw [←HPQ.out];simp))
       have hS4:∀ b,(S b∨some b=(Value.slice (some ⟨g,0,none⟩) l.length c).ownBlock)→b<wr.heap.size:=fun b hb=>by
        rcases hb with hb | hb
        · have:=hSw b hb;omega
        · have:b=g:=(by simpa [Value.ownBlock] using hb);omega
       have HCQ:=hI (HC.out.keep (HFR.out.block gs HC.out.ls HG.out) hsz);have HSQ:=hI ((HS.out.keep (HFR.out.same (fun b hb=>⟨hSw b hb,HNS.out b hb⟩))).more (S':=fun b=>S b∨some b=(Value.slice (some ⟨g,0,none⟩) l.length c).ownBlock) (fun b hb=>.inl hb));rw [Nat.zero_add] at d0 d1 d2 f0 f1 f2;obtain⟨cv,hcv⟩:∃ cv,cmpC s x y=cv:=⟨_,rfl⟩;have HCV:=hI hcv;clear hcv hj0;have HSWAP:=hI (fun (x0 x1 x2 y0 y1 y2:Value)=>OwnD.swap (w:=wr) (p:=r) (a:=y) (b:=x) (q:=q++l.drop (k+1)) (x0:=x0) (x1:=x1) (x2:=x2) (y0:=y0) (y1:=y1) (y2:=y2) (by simpa using HOW.out) (by have:=HLEN.out;simp at this ⊢;omega));rw [HRI.out] at HSWAP;obtain⟨tx,ox,nx⟩:=x;obtain⟨ty,oy,ny⟩:=y;simp only at d0 d1 d2 f0 f1 f2 hy1 hy2 hx1 hx2;have hd:decide ((0:Int)<(i:Int)+1)=true:=decide_eq_true (by omega);have q1:IntKind.i64.wrap ((i:Int)+1 - 1)=i:=(by rw [show ((i:Int)+1 - 1)=i by omega];exact IntWalk.i64_in _ (by omega));have q5:IntKind.i64.wrap (i:Int)=i:=IntWalk.i64_in _ (by omega);have q2:(0:Int)≤i:=(by omega);have q3:(i:Int)<l.length:=(by omega);have q6:(i:Int)+1<l.length:=(by omega);have q7:(0:Int)≤(i:Int)+1:=by omega
       go_wp2_with fail
       go_region_held3 (fun w'=>Below wr.heap.size wr w'∧w'.cell? ⟨g,i*3,none⟩=some (.int .i64 ty)∧w'.cell? ⟨g,i*3+1,none⟩=some (.slice A1 oy.length c1)∧w'.cell? ⟨g,i*3+2,none⟩=some (.slice A2 ny.length c2)∧w'.cell? ⟨g,(i+1)*3,none⟩=some (.int .i64 tx)∧w'.cell? ⟨g,(i+1)*3+1,none⟩=some (.slice B1 ox.length k1)∧w'.cell? ⟨g,(i+1)*3+2,none⟩=some (.slice B2 nx.length k2))
        (first | exact⟨(Below.refl _ _).drew,d0,d1,d2,f0,f1,f2⟩ | exact⟨hv1,c9Q hv1 hgl d0,c9Q hv1 hgl d1,c9Q hv1 hgl d2,c9Q hv1 hgl f0,c9Q hv1 hgl f1,c9Q hv1 hgl f2⟩)
        ((go_at_call 80;refine(ZdM A0 c0' s gs ⟨tx,ox,nx⟩ B1 k1 B2 k2 ⟨ty,oy,ny⟩ A1 c1 A2 c2 (fun b=>S b∨some b=(Value.slice (some ⟨g,0,none⟩) l.length c).ownBlock) wr.drew (HCQ.out.keep rfl nR) (HSQ.out.keep (fun _ _=>rfl)) (HVX.out.keep (fun _ _=>rfl)) (HVY.out.keep (fun _ _=>rfl)) hS4 HTX.out HTY.out).mono ?_;rintro e w5 ⟨rfl,hv1'⟩;have hv1:Below wr.heap.size wr w5:=(Below.refl _ wr).drew.trans hv1'))
       have d0':=c9Q hv1 hgl d0;have d1':=c9Q hv1 hgl d1;have d2':=c9Q hv1 hgl d2;have f0':=c9Q hv1 hgl f0;have f1':=c9Q hv1 hgl f1;have f2':=c9Q hv1 hgl f2;have hz0:w5.frozen? ⟨g,i*3,none⟩=false:=(hv1.frozen (p:=⟨g,i*3,none⟩) hgl).trans (hfz _);have hz1:w5.frozen? ⟨g,i*3+1,none⟩=false:=(hv1.frozen (p:=⟨g,i*3+1,none⟩) hgl).trans (hfz _);have hz2:w5.frozen? ⟨g,i*3+2,none⟩=false:=(hv1.frozen (p:=⟨g,i*3+2,none⟩) hgl).trans (hfz _);have hz3:w5.frozen? ⟨g,(i+1)*3,none⟩=false:=(hv1.frozen (p:=⟨g,(i+1)*3,none⟩) hgl).trans (hfz _);have hz4:w5.frozen? ⟨g,(i+1)*3+1,none⟩=false:=(hv1.frozen (p:=⟨g,(i+1)*3+1,none⟩) hgl).trans (hfz _);have hz5:w5.frozen? ⟨g,(i+1)*3+2,none⟩=false:=(hv1.frozen (p:=⟨g,(i+1)*3+2,none⟩) hgl).trans (hfz _);have HFR5:=hI (HFR.out.trans (Y:=fun _=>False) (Fr.of_below hv1) (fun _ _ h=>h.elim));have HOW5:=hI (OwnD.belowC HOW.out hv1);clear hv1 hv1' d0 d1 d2 f0 f1 f2 hfz;rw [HCV.out]
       by_cases hneg:cv<0
       · have hdn:decide (cv<0)=true:=decide_eq_true hneg;have HSW:=hI (OwnD.swap (w:=w5) (p:=r) (a:=⟨ty,oy,ny⟩) (b:=⟨tx,ox,nx⟩) (q:=q++l.drop (k+1)) (by simpa using HOW5.out) (by have:=HLEN.out;simp at this ⊢;omega) (by rw [HRI.out];exact d0') (by rw [HRI.out];exact d1') (by rw [HRI.out];exact d2') (by rw [HRI.out];exact f0') (by rw [HRI.out];exact f1') (by rw [HRI.out];exact f2'));rw [HRI.out] at HSW
         have HLT2:=hI (show ∀ z ∈ (⟨ty,oy,ny⟩ :: q:List Chg),cmpC s ⟨tx,ox,nx⟩ z<0 from fun z hz=>by
          rcases List.mem_cons.1 hz with rfl | hz
          · rw [HCV.out];exact hneg
          · exact HLT.out z hz)
         clear HCV hneg HSWAP;rw [hdn]
         go_wp2_with fail
         have hne1:(i+1)*3≠i*3:=by omega
         go_region
         go_wp2_with fail
         go_roundw
         case rel =>
          refine⟨i,by go_num,r,⟨ty,oy,ny⟩ :: q,HRI.out,by rw [←HPQ.out];simp,HLT2.out,?_,?_⟩
          · rw [List.cons_append];exact OwnD.drew HSW.out
          · exact Fr.drew ((((((HFR5.out.setCell _ (fun _=>rfl)).setCell _ (fun _=>rfl)).setCell _ (fun _=>rfl)).setCell _ (fun _=>rfl)).setCell _ (fun _=>rfl)).setCell _ (fun _=>rfl))
         case measure=>simp [intOf]
       · have hdn:decide (cv<0)=false:=decide_eq_false hneg
         have HFIN:=hI (show Zaq (cmpC s) (l.take (k+1))++l.drop (k+1)=(r++[(⟨ty,oy,ny⟩:Chg)])++⟨tx,ox,nx⟩ :: (q++l.drop (k+1)) by
          rw [HSN.out,←HPQ.out,ZfG (cmpC s) _ (r++[(⟨ty,oy,ny⟩:Chg)]) q HLT.out (fun z hz=>by simp at hz;subst hz;rw [HCV.out];omega)];simp)
         clear HCV hneg HSWAP;rw [hdn]
         go_wp2_with fail
         go_roundw
         case rel=>exact⟨k+1,by omega,.inl hkl,by go_num,by rw [HFIN.out];exact HOW5.out,HFR5.out⟩
         case measure=>simp [intOf];omega
  · have HE:=hI (show Zaq (cmpC s) (l.take k)++l.drop k=Zaq (cmpC s) l by rw [List.take_of_length_le (by omega),List.drop_eq_nil_of_le (by omega),List.append_nil])
    go_wp2_with fail
    go_end0
    exact⟨⟨_,rfl⟩,by rw [←HE.out];exact HOW.out,HFR.out⟩
theorem stable_few (A0:Option Addr) (c0':Nat) (s:Sch) (gs:Nat) (A:Option Addr) (c:Nat) (l:List Chg) (base:Nat) (S:Nat→Prop) (w:World) (hc:CapS w s A0 c0' gs) (hs:TabS w S A0 s.tabs) (ho:OwnD w base 53 3 S (.slice A l.length c) (l.map Zal)) (hg:some gs≠(Value.slice A l.length c).ownBlock) (ht:∀ x ∈ l,0≤x.table∧x.table≤1000000) (hl:l.length≤19) :
  Calls Try.prog 102 #[.slice A l.length c,.int .i64 l.length,.func (.func 80) #[] #[.pointer (some ⟨gs,0,none⟩)]] w (Zbw base S (.slice A l.length c) (Zaq (cmpC s) l) w):=by
 have HX:=hI (insertion_any A0 c0' s gs A c l base S w hc hs ho hg ht (by omega));clear hc hs ho hg ht;have hd1:decide ((20:Int)≤(l.length:Int))=false:=decide_eq_false (by omega);have hd2:decide ((20:Int)<(l.length:Int))=false:=decide_eq_false (by omega);go_enter Try.func102,Try.ntmps102
 go_wp2_with fail
 go_loopw [7,8] (fun a b wr=>a=.int .i64 0∧b=.int .i64 20∧wr=w) (fun _ _ _=>0)
 case atStart=>exact⟨rfl,rfl,rfl⟩
 case round =>
  obtain⟨rfl,rfl,rfl⟩:=hrel
  go_wp2_with fail
  refine HX.out.mono ?_;rintro e w1 ⟨⟨u,rfl⟩,h1,h2⟩;have H1:=hI h1;have H2:=hI h2;clear h1 h2
  go_wp2_with fail
  go_loopw [6] (fun a wq=>a=.int .i64 20∧wq=w1) (fun _ _=>0)
  case atStart=>exact⟨rfl,rfl⟩
  case round =>
   obtain⟨rfl,rfl⟩:=hrel
   go_wp2_with fail
   go_end0
   exact⟨⟨_,rfl⟩,H1.out,H2.out⟩
theorem sortStable_few (A0:Option Addr) (c0':Nat) (s:Sch) (gs:Nat) (A:Option Addr) (c:Nat) (l:List Chg) (base:Nat) (S:Nat→Prop) (w:World) (hc:CapS w s A0 c0' gs) (hs:TabS w S A0 s.tabs) (ho:OwnD w base 53 3 S (.slice A l.length c) (l.map Zal)) (hg:some gs≠(Value.slice A l.length c).ownBlock) (ht:∀ x ∈ l,0≤x.table∧x.table≤1000000) (hl:l.length≤19) :
  Calls Try.prog 79 #[.slice A l.length c,.func (.func 80) #[] #[.pointer (some ⟨gs,0,none⟩)]] w (Zbw base S (.slice A l.length c) (Zaq (cmpC s) l) w):=by
 have HX:=hI (stable_few A0 c0' s gs A c l base S w hc hs ho hg ht hl);clear hc hs ho hg ht;go_enter Try.func79,Try.ntmps79
 go_wp2_with fail
 refine HX.out.mono ?_;rintro e w1 ⟨⟨u,rfl⟩,h1,h2⟩;have H1:=hI h1;have H2:=hI h2;clear h1 h2
 go_wp2_with fail
 go_end0
 exact⟨⟨_,rfl⟩,H1.out,H2.out⟩
end Go.Proofs.Ytkpjjfhfbpfjpaa
