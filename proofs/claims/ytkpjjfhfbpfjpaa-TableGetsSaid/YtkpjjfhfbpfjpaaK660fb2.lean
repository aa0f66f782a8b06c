import Derived.Test.YtkpjjfhfbpfjpaaKa64ff6
set_option linter.unusedVariables false
set_option linter.unusedSimpArgs false
set_option maxRecDepth 100000
namespace Go.Proofs.Ytkpjjfhfbpfjpaa
open Go.RowKit
def NetPost (r:Int × List Chg) (w:World) (e:Ending) (w':World):Prop:=∃ A c,e=.returned (.tuple #[.slice A r.2.length c,.int .i64 r.1])∧r.2.length≤c∧ChgS w' (New w w') A r.2∧Below w.heap.size w w'
theorem NetPost.err {w w':World} {n:Int} {r:Int × List Chg} (h:r=(n,[])) (hb:Below w.heap.size w w'):NetPost r w (.returned (.tuple #[.slice none 0 0,.int .i64 n])) w':=by
 subst h
 exact⟨none,0,rfl,Nat.le_refl _,ChgS.nil_,hb⟩
def Outs (w:World) (W0:Nat) (v:Value) (l:List Chg):Prop:=OwnD w W0 53 3 (Beh W0 w v) v (l.map encChg)
theorem Outs.below {w w':World} {W0:Nat} {v:Value} {l:List Chg} (h:Outs w W0 v l) (hb:Below w.heap.size w w'):Outs w' W0 v l :=
 (OwnD.below h hb).more (fun b hb'=>⟨hb'.1,Nat.lt_of_lt_of_le hb'.2.1 hb.size,hb'.2.2⟩) (fun b hb'=>⟨hb'.2.1,hb'.2.2⟩)
theorem vals_chg {w:World} {S:Nat→Prop} {t:Int} {old new:Row} {A B:Option Addr} {c d:Nat} (h1:old.length≤c∧RowS w S A old) (h2:new.length≤d∧RowS w S B new):Dat.Vals w S (encChg ⟨t,old,new⟩) [.int .i64 t,.slice A old.length c,.slice B new.length d]:=by
 unfold encChg Dat.Vals Dat.ValsAll
 refine⟨[.int .i64 t],[.slice A old.length c,.slice B new.length d],rfl,by unfold Dat.Vals;exact⟨rfl,trivial⟩,?_⟩
 unfold Dat.ValsAll
 refine⟨[.slice A old.length c],[.slice B new.length d],rfl,vals_row h1.1 h1.2,?_⟩
 unfold Dat.ValsAll
 exact⟨[.slice B new.length d],[],rfl,vals_row h2.1 h2.2,by unfold Dat.ValsAll;rfl⟩
theorem outs_push {w wb w7:World} {W0 n g cap:Nat} {v:Value} {l:List Chg} {t:Int} {old new:Row} {A B:Option Addr} {c d:Nat} {vals:List Value} (hv:Dat.ValsAll w (Beh W0 w v) (l.map encChg) vals) (hvb:∀ g',v.ownBlock=some g'→W0≤g'∧g'<w.heap.size) (hW:W0≤w.heap.size) (hb:Below w.heap.size w wb) (h1:old.length≤c∧RowS wb (fun b=>w.heap.size≤b∧b<wb.heap.size) A old) (h2:new.length≤d∧RowS wb (fun b=>w.heap.size≤b∧b<wb.heap.size) B new) (hg:wb.grownBy w7 v.ownBlock) (hat:v.ownBlock=some g∨g=wb.heap.size) (hn:n=l.length+1) (hown:w7.ownsRow W0 53 3 (.slice (some ⟨g,0,none⟩) n cap) n (vals++[.int .i64 t,.slice A old.length c,.slice B new.length d])) :
  Outs w7 W0 (.slice (some ⟨g,0,none⟩) n cap) (l++[⟨t,old,new⟩]):=by
 have hbs:=hb.size
 have hs7:=hg.size
 have hT:∀ b,(Beh W0 w v b∨(w.heap.size≤b∧b<wb.heap.size))→Beh W0 wb v b:=fun b hb'=>by
  rcases hb' with hb' | hb'
  · exact⟨hb'.1,Nat.lt_of_lt_of_le hb'.2.1 hbs,hb'.2.2⟩
  · exact⟨by omega,hb'.2,fun e=>by have:=(hvb b e.symm).2;omega⟩
 have hk:Same (Beh W0 w v) w wb:=fun b hb'=>hb.block b hb'.2.1
 have h:=own_push (S:=Beh W0 wb v) (l:=l.map encChg) (Dat.ValsAll.more (fun b hb'=>hT b (.inl hb')) _ _ (Dat.ValsAll.keep hk _ _ hv)) (vals_chg (t:=t) ⟨h1.1,h1.2.more (fun b hb'=>hT b (.inr hb'))⟩ ⟨h2.1,h2.2.more (fun b hb'=>hT b (.inr hb'))⟩) (fun b hb'=>⟨hb'.2.1,hb'.2.2⟩) (by rw [List.length_map];exact hn) hown hg hat
 unfold Outs
 rw [List.map_append]
 refine h.more (fun b hb'=>⟨hb'.1,Nat.lt_of_lt_of_le hb'.2.1 hs7,fun e=>?_⟩) (fun b hb'=>⟨hb'.2.1,hb'.2.2⟩)
 have e':b=g:=by simpa [Value.ownBlock] using e
 rcases hat with hat | hat
 · exact hb'.2.2 (by rw [hat,e'])
 · have:=hb'.2.1;omega
theorem Outs.slice {w:World} {W0 n c:Nat} {A:Option Addr} {l:List Chg} {S':Nat→Prop} (h:Outs w W0 (.slice A n c) l) (hl:l.length≤2513169434916) (hS':∀ b,W0≤b→b<w.heap.size→S' b):n=l.length∧n≤c∧ChgS w S' A l:=by
 have:=OwnD.slice (S':=S') h (by rw [bytesAll_map (n:=56) (fun _=>rfl)];omega) (fun b hb=>hS' b hb.1 hb.2.1) (fun g h1 h2 _=>hS' g h1 h2)
 rw [List.length_map] at this
 exact this
section
variable {w:World} {B:Nat} {x0 x1 x2 a b c:Value}
theorem set3_2 (h0:w.cell? ⟨B,0,none⟩=some x0) (h1:w.cell? ⟨B,1,none⟩=some x1) (h2:w.cell? ⟨B,2,none⟩=some x2):(((w.setCell ⟨B,0,none⟩ a).setCell ⟨B,1,none⟩ b).setCell ⟨B,2,none⟩ c).cell? ⟨B,2,none⟩=some c :=
 World.cell?_setCell_same _ _ _ (u:=x2) (by rw [World.cell?_setCell_other _ _ _ _ (by simp),World.cell?_setCell_other _ _ _ _ (by simp)];exact h2)
theorem set3_1 (h0:w.cell? ⟨B,0,none⟩=some x0) (h1:w.cell? ⟨B,1,none⟩=some x1) (h2:w.cell? ⟨B,2,none⟩=some x2):(((w.setCell ⟨B,0,none⟩ a).setCell ⟨B,1,none⟩ b).setCell ⟨B,2,none⟩ c).cell? ⟨B,1,none⟩=some b:=by
 rw [World.cell?_setCell_other _ _ _ _ (by simp)]
 exact World.cell?_setCell_same _ _ _ (u:=x1) (by rw [World.cell?_setCell_other _ _ _ _ (by simp)];exact h1)
theorem set3_0 (h0:w.cell? ⟨B,0,none⟩=some x0) (h1:w.cell? ⟨B,1,none⟩=some x1) (h2:w.cell? ⟨B,2,none⟩=some x2):(((w.setCell ⟨B,0,none⟩ a).setCell ⟨B,1,none⟩ b).setCell ⟨B,2,none⟩ c).cell? ⟨B,0,none⟩=some a:=by
 rw [World.cell?_setCell_other _ _ _ _ (by simp),World.cell?_setCell_other _ _ _ _ (by simp)]
 exact World.cell?_setCell_same _ _ _ (u:=x0) h0
end
theorem own_take {w:World} {base c k:Nat} {S:Nat→Prop} {A:Option Addr} {l:List Chg} (h:OwnD w base 53 3 S (.slice A l.length c) (l.map encChg)) (hk:k≤l.length):OwnD w base 53 3 S (.slice A k c) ((l.take k).map encChg):=by
 obtain⟨vals,h1,h2,h3⟩:=h
 have hb:(Value.slice A k c).ownBlock=(Value.slice A l.length c).ownBlock:=by cases A<;>rfl
 refine⟨vals.take (k*3),?_,(valsAll_take encChg_size h2 k hk).1,fun b hb'=>⟨(h3 b hb').1,by rw [hb];exact(h3 b hb').2⟩⟩
 rw [List.length_map,List.length_take,Nat.min_eq_left hk]
 rw [List.length_map] at h1
 refine⟨by rw [List.length_take,h1.1];omega,?_⟩
 rcases h1.2 with ⟨e,h0⟩ | ⟨g,cap,cur,e,h4,h5,h6,h7,h8,h9⟩
 · injection e with e1 e2 e3
   left
   exact⟨by rw [e1,e3,show k=0 by omega],by omega⟩
 · injection e with e1 e2 e3
   right
   refine⟨g,cap,cur,by rw [e1,e3],h4,h5,by omega,h7,h8,?_⟩
   rw [←h9,List.take_take]
   congr 1
   omega
set_option maxHeartbeats 4000000 in
theorem net_any (pc:List Int→Pred→Int) (A0:Option Addr) (c0':Nat) (s:Sch) (m:Int) (AC:Option Addr) (cc:Nat) (l:List Chg) (S:Nat→Prop) (w:World) (hs:TabS w S A0 s.tabs) (hch:ChgS w S AC l) (hS:∀ b,S b→b<w.heap.size) (hpc:SchPreds pc s) (htl:s.tabs.length≤1000000) (hll:l.length≤19) :
  Calls Try.prog 37 #[sAgg s.version A0 s.tabs.length c0',.int .i64 m,.slice AC l.length cc] w (NetPost (netF (schF pc s) s m l) w):=by
 have hsl:=hs.len
 have HS:=Lib.hid hs
 have HCH:=Lib.hid hch
 obtain⟨i0,hi,hz0,hz1,hz2⟩:=info_parts infoC
 obtain⟨er,her⟩:∃ er,modeF (schF pc s) m=er:=⟨_,rfl⟩
 have HER:=Lib.hid her
 clear hs hch her
 have HB0:=Lib.hid (((Below.refl w.heap.size w).alloc (Nat.le_refl _) (.cells #[.int .i64 s.version,.slice A0 s.tabs.length c0'] 25)).alloc (by simp) (.cells #[.int .i64 m] 3))
 go_enter Try.func37,Try.ntmps37
 go_wp2_with fail
 refine(mode_any pc A0 c0' s m S _ (HS.out.keep (Same.of_below HB0.out hS)) (fun b hb=>by have:=hS b hb;simp;omega) hpc).mono ?_
 rintro e w1 ⟨rfl,hb1⟩
 rw [HER.out]
 have HB1:=Lib.hid (HB0.out.trans (hb1.mono (by simp;omega)))
 have HCAP:=Lib.hid (show CapS w1 s A0 c0' w.heap.size from ⟨(hb1.cell (p:=⟨w.heap.size,0,none⟩) (by simp;omega)).trans ((cell_old (by simp)).trans (cell_new rfl rfl)),(hb1.cell (p:=⟨w.heap.size,1,none⟩) (by simp;omega)).trans ((cell_old (by simp)).trans (cell_new rfl rfl)),by have:=hb1.size;simp at this;omega⟩)
 have HCM:=Lib.hid ((hb1.cell (p:=⟨w.heap.size+1,0,none⟩) (by simp)).trans (cell_new (by simp) rfl))
 have hw1:w.heap.size+1<w1.heap.size:=by have:=hb1.size;simp at this;omega
 clear hb1 HB0
 by_cases he:er=0
 · subst he
   go_wp2_with fail
   refine(index_any A0 c0' s m w.heap.size (w.heap.size+1) AC cc l S _ HCAP.out HCM.out hw1 (HS.out.keep (Same.of_below HB1.out hS)) (HCH.out.keep (Same.of_below HB1.out hS)) (fun b hb=>by have:=hS b hb;omega)).mono ?_
   rintro e w2 ⟨rfl,hb2⟩
   have HB2:=Lib.hid (HB1.out.trans (hb2.mono (by omega)))
   have HCAP2:=Lib.hid (HCAP.out.below hb2)
   have hw2:w.heap.size+1<w2.heap.size:=by have:=hb2.size;omega
   clear hb2 HB1 HCAP HCM hw1
   go_wp2_with fail
   refine(cloneC_any AC cc l S _ (HCH.out.keep (Same.of_below HB2.out hS)) (fun b hb=>by have:=hS b hb;omega)).mono ?_
   rintro e w3 ⟨AS,cS,rfl,hown3,hb3⟩
   have HB3:=Lib.hid (HB2.out.trans (hb3.mono (by omega)))
   have HCAP3:=Lib.hid (HCAP2.out.below hb3)
   have hw3:w.heap.size+1<w3.heap.size:=by have:=hb3.size;omega
   have HOW3:=Lib.hid hown3
   have HW23:=Lib.hid hb3.size
   clear hb3 HB2 HCAP2 hown3
   have hgl:=goodN_le s m l
   have HGV:=Lib.hid (goodN_valid s m l)
   obtain⟨gn,hgn⟩:∃ gn,goodN s m l=gn:=⟨_,rfl⟩
   have HBI:=Lib.hid (show badI s m l=if gn<l.length then (gn:Int) else -1 by unfold badI;rw [hgn])
   have HGN:=Lib.hid hgn
   rw [hgn] at hgl HGV
   clear hgn
   have HFINAL:=Lib.hid (show ∀ (bi:Int) (good:Bool),bi=badI s m l→good=decide (gn<l.length)→∀ r,netGo s none (isort (cmpC s) (l.take gn))=r→netF (schF pc s) s m l=(match r with | none=>(81,[]) | some o=>if good then (71,[]) else (0,o)) from fun bi good _ hgd r hr=>by
    subst hgd
    rw [←HGN.out] at hr ⊢
    cases r with
    | none=>rw [netF_conflict HER.out hr]
    | some o =>
     by_cases h3:goodN s m l<l.length
     · rw [netF_row HER.out hr h3];simp [h3]
     · rw [netF_ok HER.out hr h3];simp [h3])
   have HGD:=Lib.hid (show OwnD w3 w2.heap.size 53 3 S (.slice AS gn cS) ((l.take gn).map encChg) from own_take HOW3.out hgl)
   have HTG:=Lib.hid (show ∀ x ∈ l.take gn,0≤x.table∧x.table≤1000000 from fun x hx=>by
    obtain⟨i,hi',e⟩:=List.mem_iff_getElem.1 hx
    rw [List.length_take] at hi'
    have h1:=HGV.out i (by omega)
    have h2:l.getD i chg0=x:=by rw [←e];simp [List.getD,show i<l.length by omega]
    rw [h2] at h1
    obtain⟨tt,h3,h4⟩:=valid_table h1
    rw [h3]
    omega)
   have HNG:=Lib.hid (show some w.heap.size≠(Value.slice AS (l.take gn).length cS).ownBlock from fun e=>by
    obtain⟨vals,h1,_⟩:=HOW3.out
    have e':(Value.slice AS l.length cS).ownBlock=some w.heap.size:=by cases AS<;>simpa [Value.ownBlock] using e.symm
    have:=own_base h1 e'
    omega)
   have HTKL:=Lib.hid (show (l.take gn).length=gn by rw [List.length_take];omega)
   by_cases hgd:gn<l.length
   · rw [HBI.out,if_pos hgd]
     have HFIN2:=Lib.hid (HFINAL.out (gn:Int) true (by rw [HBI.out,if_pos hgd]) (by simp [hgd]))
     have hdb:decide ((0:Int)≤(gn:Int))=true:=decide_eq_true (by omega)
     have hcs:gn≤cS:=by
      obtain⟨vals,h1,_⟩:=HOW3.out
      rw [List.length_map] at h1
      have:=own_cap h1 rfl
      omega
     clear HFINAL HBI
     have hgl1:(l.take gn).length=gn:=HTKL.out
     generalize l.take gn=gl at HGD HTG HNG HFIN2 hgl1
     subst hgl1
     clear HTKL
     go_wp2_with fail
     refine(sortStable_any A0 c0' s w.heap.size AS cS gl w2.heap.size S _ HCAP3.out (HS.out.keep (Same.of_below HB3.out hS)) HGD.out HNG.out HTG.out (by omega)).mono ?_
     rintro e w4 ⟨⟨u,rfl⟩,hO4,hF4⟩
     have HLS:=Lib.hid (isort_len (cmpC s) gl)
     generalize isort (cmpC s) gl=srt at hO4 HFIN2 HLS
     obtain⟨hq1,hq2,hsrt⟩:=OwnD.chgs (v:=.slice AS gl.length cS) hO4 (by rw [HLS.out];omega)
     obtain⟨SS,hSSd⟩:∃ SS:Nat→Prop,SS=(fun b=>S b∨some b=(Value.slice AS gl.length cS).ownBlock):=⟨_,rfl⟩
     rw [←hSSd] at hsrt
     have HSR:=Lib.hid hsrt
     have HBK:=Lib.hid (show ∀ g,(Value.slice AS gl.length cS).ownBlock=some g→w2.heap.size≤g∧g<w4.heap.size from fun g hg=>by obtain⟨_,h1,_⟩:=hO4;rw [List.length_map,HLS.out] at h1;exact⟨own_base h1 hg,own_lt h1 hg⟩)
     have HB4:=Lib.hid (show Below w.heap.size w w4 from ⟨hF4.os.trans HB3.out.os,hF4.tape.trans HB3.out.tape,hF4.output.trans HB3.out.output,Nat.le_trans HB3.out.size hF4.size,fun b hb=>(hF4.block b (by omega) (fun e=>by have:=(HBK.out b e.symm).1;omega)).trans (HB3.out.block b hb)⟩)
     have HCAP4:=Lib.hid (HCAP3.out.keep (hF4.block w.heap.size HCAP3.out.ls (fun e=>by have:=(HBK.out _ e.symm).1;omega)) hF4.size)
     have hw4:w.heap.size+1<w4.heap.size:=by have:=hF4.size;omega
     have hSS4:∀ b,SS b→b<w4.heap.size:=fun b hb=>by
      rw [hSSd] at hb
      rcases hb with hb | hb
      · have:=hS b hb;omega
      · exact(HBK.out b hb.symm).2
     have HST:=Lib.hid ((HS.out.keep (Same.of_below HB4.out hS)).more (S':=SS) (fun b hb=>by rw [hSSd];exact .inl hb))
     have hsl4:srt.length=gl.length:=HLS.out
     have HSL4:=Lib.hid hsl4
     rw [←hsl4]
     have hs19:srt.length≤19:=by omega
     clear hO4 hF4 hq1 hq2 hsrt hSSd hsl4 HGD HCAP3 HB3 HTG HNG HBK HOW3 HLS
     go_wp2_with fail
     go_loopw [12,13] (fun o i wr=>∃ (k:Nat) (outs:List Chg) (AO:Option Addr) (cO:Nat),k≤srt.length∧i=.int .i64 k∧o=.slice AO outs.length cO∧outs.length≤k∧Outs wr w4.heap.size (.slice AO outs.length cO) outs∧netGo s none srt=(netGo s none (srt.drop k)).map (outs++·)∧Below w4.heap.size w4 wr) (fun _ i _=>srt.length - (intOf i).toNat)
     case atStart=>exact⟨0,[],none,0,Nat.zero_le _,rfl,rfl,Nat.le_refl _,OwnD.nil_ (fun b hb=>hb.2.1),by simp,Below.refl _ _⟩
     case round =>
      obtain⟨k,outs,AO,cO,hk,rfl,rfl,hok,hout,hnet,hbo⟩:=hrel
      have HOUT:=Lib.hid hout
      have HNET:=Lib.hid hnet
      have HBO:=Lib.hid hbo
      have hso:=hbo.size
      clear hout hnet hbo
      obtain⟨wo,rfl⟩:∃ wo:World,wo=wr:=⟨_,rfl⟩
      by_cases hkl:k<srt.length
      · obtain⟨b2,o2,rfl,hb2,d0,A1,c1,A2,c2,d1,e1,hR1,d2,e2,hR2⟩:=(HSR.out.keep (Same.of_below HBO.out hSS4)).at_ hkl
        have HVF0:=Lib.hid (show ChV wo SS (srt.getD k chg0) A1 c1 A2 c2 from ⟨hR1,e1,hR2,e2⟩)
        have HFST:=Lib.hid (net_first s hkl)
        have hl2:b2<wo.heap.size:=by have:=hSS4 b2 hb2;omega
        have hn1:=hR1.len
        have hn2:=hR2.len
        clear hR1 hR2 e1 e2
        generalize srt.getD k chg0=fc at d0 d1 d2 HVF0 HFST hn1 hn2
        obtain⟨tf,of,nf⟩:=fc
        simp only at d0 d1 d2 hn1 hn2
        go_wp2_with fail
        clear d0 d1 d2
        go_loopw [13] (fun i wq=>∃ (j:Nat) (la:Chg) (A3:Option Addr) (c3:Nat) (A4:Option Addr) (c4:Nat),k+1≤j∧j≤srt.length∧i=.int .i64 j∧netGo s none srt=(netGo s (some (⟨tf,of,nf⟩,la)) (srt.drop j)).map (outs++·)∧Below wo.heap.size wo wq∧ChV wq SS la A3 c3 A4 c4∧wo.heap.size+1<wq.heap.size∧wq.cell? ⟨wo.heap.size,0,none⟩=some (.int .i64 tf)∧wq.cell? ⟨wo.heap.size,1,none⟩=some (.slice A1 of.length c1)∧wq.cell? ⟨wo.heap.size,2,none⟩=some (.slice A2 nf.length c2)∧wq.cell? ⟨wo.heap.size+1,0,none⟩=some (.int .i64 la.table)∧wq.cell? ⟨wo.heap.size+1,1,none⟩=some (.slice A3 la.old.length c3)∧wq.cell? ⟨wo.heap.size+1,2,none⟩=some (.slice A4 la.new.length c4)∧wq.frozen? ⟨wo.heap.size+1,0,none⟩=false∧wq.frozen? ⟨wo.heap.size+1,1,none⟩=false∧wq.frozen? ⟨wo.heap.size+1,2,none⟩=false) (fun i _=>srt.length - (intOf i).toNat)
        case atStart=>exact⟨k+1,⟨tf,of,nf⟩,A1,c1,A2,c2,Nat.le_refl _,hkl,by go_num,by rw [HNET.out,HFST.out],((Below.refl wo.heap.size wo).alloc (Nat.le_refl _) _).alloc (by simp) _,HVF0.out.keep (fun b hb=>(Below.heap_alloc _ _ b (by have:=hSS4 b hb;simp;omega)).trans (Below.heap_alloc _ _ b (by have:=hSS4 b hb;omega))),by simp,(cell_old (by simp)).trans (cell_new rfl rfl),(cell_old (by simp)).trans (cell_new rfl rfl),(cell_old (by simp)).trans (cell_new rfl rfl),cell_new (by simp) rfl,cell_new (by simp) rfl,cell_new (by simp) rfl,frozen_new (by simp),frozen_new (by simp),frozen_new (by simp)⟩
        case round =>
         obtain⟨j,la,A3,c3,A4,c4,hj1,hj2,rfl,hnx,hbq,hvl,hwq,u0,u1,u2,u3,u4,u5,u6,u7,u8⟩:=hrel
         have HNX:=Lib.hid hnx
         have HBQ:=Lib.hid hbq
         have hsq:=hbq.size
         have HVL:=Lib.hid hvl
         have hnl1:=hvl.r1.len
         have hnl2:=hvl.r2.len
         have HVF:=Lib.hid (HVF0.out.keep (w':=wr) (fun b hb=>hbq.block b (by have:=hSS4 b hb;omega)))
         have hSSr:∀ b,SS b→b<wr.heap.size:=fun b hb=>by have:=hSS4 b hb;omega
         have hw0:wo.heap.size<wr.heap.size:=by omega
         have hw1:wo.heap.size+1<wr.heap.size:=by omega
         clear hnx hbq hvl
         by_cases hjl:j<srt.length
         · obtain⟨b5,o5,eA,hb5,f0,B1,k1,B2,k2,f1,g1,hR3,f2,g2,hR4⟩:=(HSR.out.keep (w':=wr) (fun b hb=>(HBQ.out.block b (by have:=hSS4 b hb;omega)).trans (HBO.out.block b (hSS4 b hb)))).at_ hjl
           injection eA with eA
           injection eA with eA1 eA2
           subst eA1 eA2
           have HVX:=Lib.hid (show ChV wr SS (srt.getD j chg0) B1 k1 B2 k2 from ⟨hR3,g1,hR4,g2⟩)
           have HNXT:=Lib.hid (net_next s ⟨tf,of,nf⟩ la hjl)
           have hl5:b2<wr.heap.size:=by have:=hSS4 b2 hb5;omega
           have hx1:=hR3.len
           have hx2:=hR4.len
           clear hR3 hR4 g1 g2
           generalize srt.getD j chg0=x at f0 f1 f2 HVX HNXT hx1 hx2
           obtain⟨tx,ox,nx⟩:=x
           simp only at f0 f1 f2 hx1 hx2 HNXT
           have hd:decide ((j:Int)<(srt.length:Int))=true:=decide_eq_true (by omega)
           have hd':decide (j<srt.length)=true:=decide_eq_true hjl
           have q2:(0:Int)≤j:=by omega
           have q3:(j:Int)<srt.length:=by omega
           have HCQ:=Lib.hid (HCAP4.out.keep (w':=wr) ((HBQ.out.block _ (by omega)).trans (HBO.out.block _ (by omega))) (by omega))
           have HSQ:=Lib.hid (HST.out.keep (w':=wr) (fun b hb=>(HBQ.out.block b (by have:=hSS4 b hb;omega)).trans (HBO.out.block b (hSS4 b hb))))
           go_wp2_with fail
           go_region_held3 (fun w'=>Below wr.heap.size wr w'∧w'.cell? ⟨wo.heap.size,0,none⟩=some (.int .i64 tf)∧w'.cell? ⟨wo.heap.size,1,none⟩=some (.slice A1 of.length c1)∧w'.cell? ⟨wo.heap.size,2,none⟩=some (.slice A2 nf.length c2)∧w'.cell? ⟨b2,o2+j*3,none⟩=some (.int .i64 tx)∧w'.cell? ⟨b2,o2+j*3+1,none⟩=some (.slice B1 ox.length k1)∧w'.cell? ⟨b2,o2+j*3+2,none⟩=some (.slice B2 nx.length k2))
            (first | exact⟨(Below.refl _ _).drew,u0,u1,u2,f0,f1,f2⟩ | exact⟨hv1,(hv1.cell (p:=⟨wo.heap.size,0,none⟩) hw0).trans u0,(hv1.cell (p:=⟨wo.heap.size,1,none⟩) hw0).trans u1,(hv1.cell (p:=⟨wo.heap.size,2,none⟩) hw0).trans u2,(hv1.cell (p:=⟨b2,o2+j*3,none⟩) hl5).trans f0,(hv1.cell (p:=⟨b2,o2+j*3+1,none⟩) hl5).trans f1,(hv1.cell (p:=⟨b2,o2+j*3+2,none⟩) hl5).trans f2⟩)
            ((go_at_call 76;refine(net2_any A0 c0' s w.heap.size ⟨tf,of,nf⟩ A1 c1 A2 c2 ⟨tx,ox,nx⟩ B1 k1 B2 k2 SS wr.drew (HCQ.out.keep rfl (Nat.le_refl _)) (HSQ.out.keep (fun _ _=>rfl)) (HVF.out.keep (fun _ _=>rfl)) (HVX.out.keep (fun _ _=>rfl)) hSSr).mono ?_;rintro e w5 ⟨rfl,hv1'⟩;have hv1:Below wr.heap.size wr w5:=(Below.refl _ wr).drew.trans hv1'))
           have u0:=(hv1.cell (p:=⟨wo.heap.size,0,none⟩) hw0).trans u0
           have u1:=(hv1.cell (p:=⟨wo.heap.size,1,none⟩) hw0).trans u1
           have u2:=(hv1.cell (p:=⟨wo.heap.size,2,none⟩) hw0).trans u2
           have u3:=(hv1.cell (p:=⟨wo.heap.size+1,0,none⟩) hw1).trans u3
           have u4:=(hv1.cell (p:=⟨wo.heap.size+1,1,none⟩) hw1).trans u4
           have u5:=(hv1.cell (p:=⟨wo.heap.size+1,2,none⟩) hw1).trans u5
           have u6:=(hv1.frozen (p:=⟨wo.heap.size+1,0,none⟩) hw1).trans u6
           have u7:=(hv1.frozen (p:=⟨wo.heap.size+1,1,none⟩) hw1).trans u7
           have u8:=(hv1.frozen (p:=⟨wo.heap.size+1,2,none⟩) hw1).trans u8
           have f0:=(hv1.cell (p:=⟨b2,o2+j*3,none⟩) hl5).trans f0
           have f1:=(hv1.cell (p:=⟨b2,o2+j*3+1,none⟩) hl5).trans f1
           have f2:=(hv1.cell (p:=⟨b2,o2+j*3+2,none⟩) hl5).trans f2
           have HBQ:=Lib.hid (HBQ.out.trans (hv1.mono hsq))
           have HVL:=Lib.hid (HVL.out.keep (Same.of_below hv1 hSSr))
           have HVF:=Lib.hid (HVF.out.keep (Same.of_below hv1 hSSr))
           have HVX:=Lib.hid (HVX.out.keep (Same.of_below hv1 hSSr))
           have hs5:=hv1.size
           have hSSr:∀ b,SS b→b<w5.heap.size:=fun b hb=>by have:=hSS4 b hb;omega
           have hw0:wo.heap.size<w5.heap.size:=by omega
           have hw1:wo.heap.size+1<w5.heap.size:=by omega
           have hl5:b2<w5.heap.size:=by omega
           have hsq:wo.heap.size≤w5.heap.size:=by omega
           clear hv1 hv1'
           obtain⟨wr,rfl⟩:∃ wr:World,wr=w5:=⟨_,rfl⟩
           by_cases hsm:sameC s ⟨tf,of,nf⟩ ⟨tx,ox,nx⟩=true
           · rw [hsm]
             have HNXT2:=Lib.hid (show netGo s (some (⟨tf,of,nf⟩,la)) (srt.drop j)=if cmpR la.new ox=0 then netGo s (some (⟨tf,of,nf⟩,⟨tx,ox,nx⟩)) (srt.drop (j+1)) else none by rw [HNXT.out,if_pos hsm])
             clear hsm HNXT
             go_wp2_with fail
             go_region_held3 (fun w'=>Below wr.heap.size wr w'∧w'.cell? ⟨wo.heap.size+1,2,none⟩=some (.slice A4 la.new.length c4)∧w'.cell? ⟨b2,o2+j*3+1,none⟩=some (.slice B1 ox.length k1))
              (first | exact⟨(Below.refl _ _).drew,u5,f1⟩ | exact⟨hv1,(hv1.cell (p:=⟨wo.heap.size+1,2,none⟩) hw1).trans u5,(hv1.cell (p:=⟨b2,o2+j*3+1,none⟩) hl5).trans f1⟩)
              ((go_at_call 77;refine(equal_any A4 B1 c4 k1 la.new ox SS wr.drew (HVL.out.r2.keep (fun _ _=>rfl)) (HVX.out.r1.keep (fun _ _=>rfl)) hSSr).mono ?_;rintro e w6 ⟨rfl,hv1'⟩;have hv1:Below wr.heap.size wr w6:=(Below.refl _ wr).drew.trans hv1'))
             have u0:=(hv1.cell (p:=⟨wo.heap.size,0,none⟩) hw0).trans u0
             have u1:=(hv1.cell (p:=⟨wo.heap.size,1,none⟩) hw0).trans u1
             have u2:=(hv1.cell (p:=⟨wo.heap.size,2,none⟩) hw0).trans u2
             have u3:=(hv1.cell (p:=⟨wo.heap.size+1,0,none⟩) hw1).trans u3
             have u4:=(hv1.cell (p:=⟨wo.heap.size+1,1,none⟩) hw1).trans u4
             have u5:=(hv1.cell (p:=⟨wo.heap.size+1,2,none⟩) hw1).trans u5
             have u6:=(hv1.frozen (p:=⟨wo.heap.size+1,0,none⟩) hw1).trans u6
             have u7:=(hv1.frozen (p:=⟨wo.heap.size+1,1,none⟩) hw1).trans u7
             have u8:=(hv1.frozen (p:=⟨wo.heap.size+1,2,none⟩) hw1).trans u8
             have f0:=(hv1.cell (p:=⟨b2,o2+j*3,none⟩) hl5).trans f0
             have f1:=(hv1.cell (p:=⟨b2,o2+j*3+1,none⟩) hl5).trans f1
             have f2:=(hv1.cell (p:=⟨b2,o2+j*3+2,none⟩) hl5).trans f2
             have HBQ:=Lib.hid (HBQ.out.trans (hv1.mono hsq))
             have HVX:=Lib.hid (HVX.out.keep (Same.of_below hv1 hSSr))
             have hs6:=hv1.size
             have hSS6:∀ b,SS b→b<w6.heap.size∧b≠wo.heap.size+1:=fun b hb=>⟨by have:=hSS4 b hb;omega,by have:=hSS4 b hb;omega⟩
             have hw1:wo.heap.size+1<w6.heap.size:=by omega
             have hl5:b2≠wo.heap.size+1:=by omega
             clear hv1 hv1'
             by_cases hcf:cmpR la.new ox=0
             · rw [show (cmpR la.new ox == 0)=true by rw [hcf];rfl]
               have HN2:=Lib.hid (show netGo s none srt=(netGo s (some (⟨tf,of,nf⟩,⟨tx,ox,nx⟩)) (srt.drop (j+1))).map (outs++·) by rw [HNX.out,HNXT2.out,if_pos hcf])
               clear hcf HNXT2
               go_wp2_with fail
               go_roundw
               case rel =>
                have hk9:∀ b,b≠wo.heap.size+1→(((w6.setCell ⟨wo.heap.size+1,0,none⟩ (.int .i64 tx)).setCell ⟨wo.heap.size+1,1,none⟩ (.slice B1 ox.length k1)).setCell ⟨wo.heap.size+1,2,none⟩ (.slice B2 nx.length k2)).heap[b]?=w6.heap[b]?:=fun b hb=>by iterate 3 rw [Below.heap_setCell _ _ _ b hb]
                refine⟨j+1,⟨tx,ox,nx⟩,B1,k1,B2,k2,by omega,hjl,by go_num,HN2.out,⟨HBQ.out.os,HBQ.out.tape,HBQ.out.output,by have:=HBQ.out.size;simp;omega,fun b hb=>(hk9 b (by omega)).trans (HBQ.out.block b hb)⟩,HVX.out.keep (fun b hb=>hk9 b (hSS6 b hb).2),by simp;omega,(World.cell?_of_block (hk9 _ (by simp))).trans u0,(World.cell?_of_block (hk9 _ (by simp))).trans u1,(World.cell?_of_block (hk9 _ (by simp))).trans u2,?_,?_,?_,?_,?_,?_⟩
                · exact set3_0 u3 u4 u5
                · exact set3_1 u3 u4 u5
                · exact set3_2 u3 u4 u5
                · rw [World.frozen?_setCell,World.frozen?_setCell,World.frozen?_setCell];exact u6
                · rw [World.frozen?_setCell,World.frozen?_setCell,World.frozen?_setCell];exact u7
                · rw [World.frozen?_setCell,World.frozen?_setCell,World.frozen?_setCell];exact u8
               case measure=>simp [intOf];omega
             · rw [show (cmpR la.new ox == 0)=false from beq_eq_false_iff_ne.2 hcf]
               have HF:=Lib.hid (show netF (schF pc s) s m l=(81,[]) by rw [HFIN2.out none (by rw [HNX.out,HNXT2.out,if_neg hcf];rfl)])
               clear hcf HNXT2
               go_wp2_with fail
               go_ret2
               exact NetPost.err HF.out (HB4.out.trans ((HBO.out.trans (HBQ.out.mono HBO.out.size)).mono (by omega)))
           · have hsm':sameC s ⟨tf,of,nf⟩ ⟨tx,ox,nx⟩=false:=by simpa using hsm
             have HX:=Lib.hid (show netGo s none srt=(netGo s none (srt.drop j)).map ((outs++netOut ⟨tf,of,nf⟩ la)++·) by rw [HNX.out,HNXT.out,if_neg hsm,map_map_app])
             rw [hsm']
             clear hsm hsm' HNXT f0 f1 f2
             obtain⟨tl,ol,nl⟩:=la
             simp only at u3 u4 u5 hnl1 hnl2
             have HSO:=Lib.hid HOUT.out
             go_wp2_with fail
             refine(equal_any A1 A4 c1 c4 of nl SS _ (HVF.out.r1) (HVL.out.r2) hSSr).mono ?_
             rintro e wz ⟨rfl,hbz⟩
             have z0:=(hbz.cell (p:=⟨wo.heap.size,0,none⟩) hw0).trans u0
             have z1:=(hbz.cell (p:=⟨wo.heap.size,1,none⟩) hw0).trans u1
             have z2:=(hbz.cell (p:=⟨wo.heap.size,2,none⟩) hw0).trans u2
             have z3:=(hbz.cell (p:=⟨wo.heap.size+1,0,none⟩) hw1).trans u3
             have z4:=(hbz.cell (p:=⟨wo.heap.size+1,1,none⟩) hw1).trans u4
             have z5:=(hbz.cell (p:=⟨wo.heap.size+1,2,none⟩) hw1).trans u5
             have hzz:=hbz.size
             have HBZ:=Lib.hid (HBQ.out.trans (hbz.mono hsq))
             have HVFZ:=Lib.hid (HVF.out.keep (Same.of_below hbz hSSr))
             have HVLZ:=Lib.hid (HVL.out.keep (Same.of_below hbz hSSr))
             clear hbz u0 u1 u2 u3 u4 u5 u6 u7 u8 HVF HVL
             by_cases heq:cmpR of nl=0
             · rw [show (cmpR of nl == 0)=true by rw [heq];rfl]
               have HN:=Lib.hid (show netGo s none srt=(netGo s none (srt.drop j)).map (outs++·) by rw [HX.out,show netOut ⟨tf,of,nf⟩ ⟨tl,ol,nl⟩=[] by unfold netOut;rw [if_pos heq],List.append_nil])
               clear heq
               go_wp2_with fail
               go_roundw
               case rel=>exact⟨j,outs,AO,cO,by omega,rfl,rfl,by omega,HSO.out.below HBZ.out,HN.out,HBO.out.trans (HBZ.out.mono HBO.out.size)⟩
               case measure=>simp [intOf];omega
             · rw [show (cmpR of nl == 0)=false from beq_eq_false_iff_ne.2 heq]
               have HN:=Lib.hid (show netGo s none srt=(netGo s none (srt.drop j)).map ((outs++[⟨tf,of,nl⟩])++·) by rw [HX.out,show netOut ⟨tf,of,nf⟩ ⟨tl,ol,nl⟩=[⟨tf,of,nl⟩] by unfold netOut;rw [if_neg heq]])
               clear heq
               obtain⟨wr,rfl⟩:∃ wr:World,wr=wz:=⟨_,rfl⟩
               obtain⟨valsO,hvo1,hvo2,hvo3⟩:=HSO.out.below HBZ.out
               rw [List.length_map] at hvo1
               have HVO2:=Lib.hid hvo2
               have HVOB:=Lib.hid (show ∀ g',(Value.slice AO outs.length cO).ownBlock=some g'→w4.heap.size≤g'∧g'<wr.heap.size from fun g' hg'=>⟨own_base hvo1 hg',own_lt hvo1 hg'⟩)
               have HOLT:=Lib.hid (show ∀ g',(Value.slice AO outs.length cO).ownBlock=some g'→g'<wo.heap.size from fun g' hg'=>by obtain⟨_,h1,_⟩:=HSO.out;rw [List.length_map] at h1;exact own_lt h1 hg')
               have HNV1:=Lib.hid (show some wo.heap.size≠(Value.slice AO outs.length cO).ownBlock from fun e=>by have:=HOLT.out _ e.symm;omega)
               have HNV2:=Lib.hid (show some (wo.heap.size+1)≠(Value.slice AO outs.length cO).ownBlock from fun e=>by have:=HOLT.out _ e.symm;omega)
               have HOWN6:=Lib.hid (show ∀ wa,Below wr.heap.size wr wa→∀ wb,Below wa.heap.size wa wb→∀ AR n c BR k d,(wb.alloc (.cells #[.int .i64 tf,.slice AR n c,.slice BR k d] 53)).ownsRow w4.heap.size 53 3 (.slice AO outs.length cO) outs.length valsO from fun wa hba wb hbb AR n c BR k d=>ownsRow_keep hvo1 (fun g hg=>(Below.heap_alloc wb _ g (by have:=own_lt hvo1 hg;have:=hba.size;have:=hbb.size;omega)).trans ((hbb.block g (by have:=own_lt hvo1 hg;have:=hba.size;omega)).trans (hba.block g (own_lt hvo1 hg)))))
               clear hvo1 hvo2 hvo3
               have hSS:∀ b,SS b→b<wr.heap.size:=fun b hb=>Nat.lt_of_lt_of_le (hSSr b hb) hzz
               have u0:=z0
               have u1:=z1
               have u2:=z5
               have HVF:=Lib.hid HVFZ.out
               have HVL:=Lib.hid HVLZ.out
               have hw4o:=HBO.out.size
               have HVLO:=HVF.out.r1.len'
               have HVLN:=HVL.out.r2.len'
               go_wp2_with fail
               clear z0 z1 z2 z3 z4 z5
               refine hideQ (fun c a d v w h=>by cases d<;>exact h) (fun Q' HQ HP=>?_)
               refine regionT_until (fun w'=>w'.cell? ⟨wo.heap.size,0,none⟩=some (.int .i64 tf)∧w'.cell? ⟨wo.heap.size,1,none⟩=some (.slice A1 of.length c1)∧w'.cell? ⟨wo.heap.size+1,2,none⟩=some (.slice A4 nl.length c4)) 13 13 (bA 13 0) (by kernel_rfl) (by kernel_rfl) (by kernel_rfl) ?_
               refine tk 0 81 (bA 13 1) _ rfl (by kernel_rfl) (by kernel_rfl) HP.out (by rfl) (fun w' hSw=>by (try dsimp only at hSw);go_simp;(try with_reducible rfl)) ⟨u0,u1,u2⟩ ?_
               simp only [psA,psB,psC]
               refine tk 1 82 (bA 13 3) _ rfl (by kernel_rfl) (by kernel_rfl) HP.out (by rfl) (fun w' hSw=>by (try dsimp only at hSw);go_simp;(try with_reducible rfl)) ⟨u0,u1,u2⟩ ?_
               simp only [psA,psB,psC]
               refine tk 2 83 (bA 13 7) _ rfl (by kernel_rfl) (by kernel_rfl) HP.out (by rfl) (fun w' hSw=>by (try dsimp only at hSw);go_simp;(try with_reducible rfl)) ⟨u0,u1,u2⟩ ?_
               simp only [psA,psB,psC]
               refine tk 3 84 (bA 13 15) _ rfl (by kernel_rfl) (by kernel_rfl) HP.out (by rfl) (fun w' hSw=>by (try dsimp only at hSw);go_simp;(try with_reducible rfl)) ⟨u0,u1,u2⟩ ?_
               simp only [psA,psB,psC]
               refine tk 4 85 (bA 13 31) _ rfl (by kernel_rfl) (by kernel_rfl) HP.out (by rfl) (fun w' hSw=>by (try dsimp only at hSw);go_simp;(try with_reducible rfl)) ⟨u0,u1,u2⟩ ?_
               simp only [psA,psB,psC]
               refine tk 6 87 (bA 13 95) _ rfl (by kernel_rfl) (by kernel_rfl) HP.out (by rfl) (fun w' hSw=>by (try dsimp only at hSw);go_simp;(try with_reducible rfl)) ⟨u0,u1,u2⟩ ?_
               simp only [psA,psB,psC]
               refine tk 7 88 (bA 13 223) _ rfl (by kernel_rfl) (by kernel_rfl) HP.out (by rfl) (fun w' hSw=>by (try dsimp only at hSw);go_simp;(try with_reducible rfl)) ⟨u0,u1,u2⟩ ?_
               simp only [psA,psB,psC]
               refine anyT_one (i:=5) (o:=⟨some 86,_,_,_,_,_⟩) (L':=(bA 13 255)) rfl (by kernel_rfl) (by kernel_rfl) (fun K hK=>?_)
               have HK:=Lib.hid hK
               clear hK
               go_simp
               refine(clone_any A1 c1 of SS _ (by exact HVF.out.r1.keep (fun _ _=>rfl))).mono ?_
               rintro e wa ⟨AR,cr,rfl,howna,hba⟩
               have hba':Below wr.heap.size wr wa:=(by first | exact(Below.refl _ wr).drew.trans hba | exact hba)
               have p0:=(hba'.cell (p:=⟨wo.heap.size,0,none⟩) (by simp;omega)).trans u0
               have p1:=(hba'.cell (p:=⟨wo.heap.size,1,none⟩) (by simp;omega)).trans u1
               have p2:=(hba'.cell (p:=⟨wo.heap.size+1,2,none⟩) (by simp;omega)).trans u2
               have hzwa:wr.heap.size≤wa.heap.size:=hba'.size
               refine HK.out _ _ (fun _=>⟨p0,p1,p2⟩) ?_
               clear HK K
               try simp only [Act.put,psA,psB,psC]
               refine anyT_one (i:=8) (o:=⟨some 89,_,_,_,_,_⟩) (L':=(bA 13 511)) rfl (by kernel_rfl) (by kernel_rfl) (fun K hK=>?_)
               have HK:=Lib.hid hK
               clear hK
               go_simp
               refine(clone_any A4 c4 nl SS _ (by exact HVL.out.r2.keep (Same.of_below hba' hSS))).mono ?_
               rintro e wb ⟨BR,dr,rfl,hownb,hbb⟩
               have hbb':Below wa.heap.size wa wb:=(by first | exact(Below.refl _ wa).drew.trans hbb | exact hbb)
               have q0:=(hbb'.cell (p:=⟨wo.heap.size,0,none⟩) (by simp;omega)).trans p0
               have q1:=(hbb'.cell (p:=⟨wo.heap.size,1,none⟩) (by simp;omega)).trans p1
               have q2:=(hbb'.cell (p:=⟨wo.heap.size+1,2,none⟩) (by simp;omega)).trans p2
               have hzwb:wa.heap.size≤wb.heap.size:=hbb'.size
               refine HK.out _ _ (fun _=>⟨q0,q1,q2⟩) ?_
               clear HK K
               try simp only [Act.put,psA,psB,psC]
               refine tk 9 90 (bA 13 1023) _ rfl (by kernel_rfl) (by kernel_rfl) HP.out (by rfl) (fun w' hSw=>by (try dsimp only at hSw);go_simp;(try with_reducible rfl)) ⟨q0,q1,q2⟩ ?_
               simp only [psA,psB,psC]
               refine anyT_one (i:=10) (o:=⟨some 91,_,_,_,_,_⟩) (L':=(bA 13 2047)) rfl (by kernel_rfl) (by kernel_rfl) (fun K hK=>?_)
               have HK:=Lib.hid hK
               clear hK
               go_simp
               have r0:(wb.alloc (.cells #[.int .i64 tf,.slice AR of.length cr,.slice BR nl.length dr] 53)).cell? ⟨wo.heap.size,0,none⟩=_:=(cell_old (by omega)).trans q0
               have r1:(wb.alloc (.cells #[.int .i64 tf,.slice AR of.length cr,.slice BR nl.length dr] 53)).cell? ⟨wo.heap.size,1,none⟩=_:=(cell_old (by omega)).trans q1
               have r2:(wb.alloc (.cells #[.int .i64 tf,.slice AR of.length cr,.slice BR nl.length dr] 53)).cell? ⟨wo.heap.size+1,2,none⟩=_:=(cell_old (by omega)).trans q2
               refine HK.out _ _ (fun _=>⟨r0,r1,r2⟩) ?_
               clear HK K
               try simp only [Act.put,psA,psB,psC]
               refine anyT_one (i:=11) (o:=⟨some 92,_,_,_,_,_⟩) (L':=(bA 13 4095)) rfl (by kernel_rfl) (by kernel_rfl) (fun K hK=>?_)
               refine step_append_lies _ (by rfl) (.tmp 81) (.tmp 91) _ (by rfl) w4.heap.size 53 i0 _ 3 56 Try.underlying48 hi hz0 hz1 hz2 rfl (by decide) (.slice AO outs.length cO) outs.length valsO (by rfl) (by exact HOWN6.out wa hba' wb hbb' AR of.length cr BR nl.length dr) ⟨wb.heap.size,0,none⟩ 1 1 [.int .i64 tf,.slice AR of.length cr,.slice BR nl.length dr] (by rfl) (by rfl) (World.news_of_block (cs:=#[.int .i64 tf,.slice AR of.length cr,.slice BR nl.length dr]) (t:=53) (fr:=(0,0)) (heap_alloc_new wb _)) (by simp [Value.oneCell']) (by omega) (by unfold maxLen;omega) (by omega) (by simp;omega) (wb.heap.size+1) (by simp) ?_
               intro g7 c7 w7 hown7 hgr7 hat7 hlt7
               have m0:=(hgr7.cell_far ⟨wo.heap.size,0,none⟩ (by simp;omega) HNV1.out).trans r0
               have m1:=(hgr7.cell_far ⟨wo.heap.size,1,none⟩ (by simp;omega) HNV1.out).trans r1
               have m2:=(hgr7.cell_far ⟨wo.heap.size+1,2,none⟩ (by simp;omega) HNV2.out).trans r2
               have HO7:=Lib.hid hown7
               have HG7:=Lib.hid hgr7
               have HAT7:=Lib.hid hat7
               clear hown7 hgr7 hat7
               refine hK _ _ (fun _=>⟨m0,m1,m2⟩) ?_
               clear hK K
               try simp only [Act.put,psA,psB,psC]
               refine tk 12 12 (bA 13 8191) _ rfl (by kernel_rfl) (by kernel_rfl) HP.out (by rfl) (fun w' hSw=>by (try dsimp only at hSw);go_simp;(try with_reducible rfl)) ⟨m0,m1,m2⟩ ?_
               simp only [psA,psB,psC]
               refine anyU_done (by kernel_rfl) ?_
               rw [HQ.out]
               clear HQ HP Q'
               have HBB:=Lib.hid (show Below wr.heap.size wr wb from hba'.trans (hbb'.mono hba'.size))
               have HN1:=Lib.hid (new_row (n:=wr.heap.size) howna HVF.out.r1.ok (Nat.le_refl _))
               have HN2:=Lib.hid (new_row (n:=wr.heap.size) hownb HVL.out.r2.ok hzwa)
               have HFIN:=Lib.hid (outs_push (wb:=wb.alloc (.cells #[.int .i64 tf,.slice AR of.length cr,.slice BR nl.length dr] 53)) (t:=tf) HVO2.out HVOB.out (by omega) (HBB.out.alloc HBB.out.size _) ⟨HN1.out.1,(HN1.out.2.keep (fun b hb=>(Below.heap_alloc wb _ b (by have:=hb.2;omega)).trans (hbb'.block b hb.2))).more (fun b hb=>⟨hb.1,by have:=hb.2;simp;omega⟩)⟩ ⟨HN2.out.1,(HN2.out.2.keep (fun b hb=>Below.heap_alloc wb _ b hb.2)).more (fun b hb=>⟨hb.1,by have:=hb.2;simp;omega⟩)⟩ HG7.out (HAT7.out.imp id (fun h=>by rw [h];simp)) rfl HO7.out)
               have HBF:=Lib.hid (show Below w4.heap.size w4 w7 from (((HBO.out.trans (HBZ.out.mono HBO.out.size)).trans (HBB.out.mono (by omega))).alloc (Nat.le_trans (by omega) HBB.out.size) (.cells #[.int .i64 tf,.slice AR of.length cr,.slice BR nl.length dr] 53)).grown HG7.out (by have:=HBB.out.size;simp;omega) (fun k e=>(HVOB.out k e).1))
               clear hba' hbb' hba hbb howna hownb HO7 HG7 HAT7 HOWN6 HVO2 m0 m1 m2 r0 r1 r2 q0 q1 q2 p0 p1 p2 u0 u1 u2 HN1 HN2 HVF HVL HVFZ HVLZ
               go_wp2_with fail
               go_roundw
               case rel=>exact⟨j,outs++[⟨tf,of,nl⟩],some ⟨g7,0,none⟩,c7,by omega,rfl,by simp,by simp;omega,by simpa using HFIN.out,HN.out,HBF.out⟩
               case measure=>simp [intOf];omega
         · have HX:=Lib.hid (show netGo s none srt=(netGo s none (srt.drop j)).map ((outs++netOut ⟨tf,of,nf⟩ la)++·) by rw [HNX.out,net_end s _ _ (by omega),map_map_app])
           have hd:decide ((j:Int)<(srt.length:Int))=false:=decide_eq_false (by omega)
           have hd':decide (j<srt.length)=false:=decide_eq_false hjl
           go_wp2_with fail
           go_quiet (fail)
           obtain⟨w5,hw5⟩:∃ w5,wr.drewN nq=w5:=⟨_,rfl⟩
           have hv1:Below wr.heap.size wr w5:=by rw [←hw5];exact below_drewN (Below.refl _ _) _
           rw [hw5]
           clear hw5
           have u0:=(hv1.cell (p:=⟨wo.heap.size,0,none⟩) hw0).trans u0
           have u1:=(hv1.cell (p:=⟨wo.heap.size,1,none⟩) hw0).trans u1
           have u2:=(hv1.cell (p:=⟨wo.heap.size,2,none⟩) hw0).trans u2
           have u3:=(hv1.cell (p:=⟨wo.heap.size+1,0,none⟩) hw1).trans u3
           have u4:=(hv1.cell (p:=⟨wo.heap.size+1,1,none⟩) hw1).trans u4
           have u5:=(hv1.cell (p:=⟨wo.heap.size+1,2,none⟩) hw1).trans u5
           have u6:=(hv1.frozen (p:=⟨wo.heap.size+1,0,none⟩) hw1).trans u6
           have u7:=(hv1.frozen (p:=⟨wo.heap.size+1,1,none⟩) hw1).trans u7
           have u8:=(hv1.frozen (p:=⟨wo.heap.size+1,2,none⟩) hw1).trans u8
           have HBQ:=Lib.hid (HBQ.out.trans (hv1.mono hsq))
           have HVL:=Lib.hid (HVL.out.keep (Same.of_below hv1 hSSr))
           have HVF:=Lib.hid (HVF.out.keep (Same.of_below hv1 hSSr))
           have hs5:=hv1.size
           have hSSr:∀ b,SS b→b<w5.heap.size:=fun b hb=>by have:=hSS4 b hb;omega
           have hw0:wo.heap.size<w5.heap.size:=by omega
           have hw1:wo.heap.size+1<w5.heap.size:=by omega
           have hsq:wo.heap.size≤w5.heap.size:=by omega
           clear hv1
           obtain⟨wr,rfl⟩:∃ wr:World,wr=w5:=⟨_,rfl⟩
           obtain⟨tl,ol,nl⟩:=la
           simp only at u3 u4 u5 hnl1 hnl2
           have HSO:=Lib.hid HOUT.out
           go_wp2_with fail
           refine(equal_any A1 A4 c1 c4 of nl SS _ (HVF.out.r1) (HVL.out.r2) hSSr).mono ?_
           rintro e wz ⟨rfl,hbz⟩
           have z0:=(hbz.cell (p:=⟨wo.heap.size,0,none⟩) hw0).trans u0
           have z1:=(hbz.cell (p:=⟨wo.heap.size,1,none⟩) hw0).trans u1
           have z2:=(hbz.cell (p:=⟨wo.heap.size,2,none⟩) hw0).trans u2
           have z3:=(hbz.cell (p:=⟨wo.heap.size+1,0,none⟩) hw1).trans u3
           have z4:=(hbz.cell (p:=⟨wo.heap.size+1,1,none⟩) hw1).trans u4
           have z5:=(hbz.cell (p:=⟨wo.heap.size+1,2,none⟩) hw1).trans u5
           have hzz:=hbz.size
           have HBZ:=Lib.hid (HBQ.out.trans (hbz.mono hsq))
           have HVFZ:=Lib.hid (HVF.out.keep (Same.of_below hbz hSSr))
           have HVLZ:=Lib.hid (HVL.out.keep (Same.of_below hbz hSSr))
           clear hbz u0 u1 u2 u3 u4 u5 u6 u7 u8 HVF HVL
           by_cases heq:cmpR of nl=0
           · rw [show (cmpR of nl == 0)=true by rw [heq];rfl]
             have HN:=Lib.hid (show netGo s none srt=(netGo s none (srt.drop j)).map (outs++·) by rw [HX.out,show netOut ⟨tf,of,nf⟩ ⟨tl,ol,nl⟩=[] by unfold netOut;rw [if_pos heq],List.append_nil])
             clear heq
             go_wp2_with fail
             go_roundw
             case rel=>exact⟨j,outs,AO,cO,by omega,rfl,rfl,by omega,HSO.out.below HBZ.out,HN.out,HBO.out.trans (HBZ.out.mono HBO.out.size)⟩
             case measure=>simp [intOf];omega
           · rw [show (cmpR of nl == 0)=false from beq_eq_false_iff_ne.2 heq]
             have HN:=Lib.hid (show netGo s none srt=(netGo s none (srt.drop j)).map ((outs++[⟨tf,of,nl⟩])++·) by rw [HX.out,show netOut ⟨tf,of,nf⟩ ⟨tl,ol,nl⟩=[⟨tf,of,nl⟩] by unfold netOut;rw [if_neg heq]])
             clear heq
             obtain⟨wr,rfl⟩:∃ wr:World,wr=wz:=⟨_,rfl⟩
             obtain⟨valsO,hvo1,hvo2,hvo3⟩:=HSO.out.below HBZ.out
             rw [List.length_map] at hvo1
             have HVO2:=Lib.hid hvo2
             have HVOB:=Lib.hid (show ∀ g',(Value.slice AO outs.length cO).ownBlock=some g'→w4.heap.size≤g'∧g'<wr.heap.size from fun g' hg'=>⟨own_base hvo1 hg',own_lt hvo1 hg'⟩)
             have HOLT:=Lib.hid (show ∀ g',(Value.slice AO outs.length cO).ownBlock=some g'→g'<wo.heap.size from fun g' hg'=>by obtain⟨_,h1,_⟩:=HSO.out;rw [List.length_map] at h1;exact own_lt h1 hg')
             have HNV1:=Lib.hid (show some wo.heap.size≠(Value.slice AO outs.length cO).ownBlock from fun e=>by have:=HOLT.out _ e.symm;omega)
             have HNV2:=Lib.hid (show some (wo.heap.size+1)≠(Value.slice AO outs.length cO).ownBlock from fun e=>by have:=HOLT.out _ e.symm;omega)
             have HOWN6:=Lib.hid (show ∀ wa,Below wr.heap.size wr wa→∀ wb,Below wa.heap.size wa wb→∀ AR n c BR k d,(wb.alloc (.cells #[.int .i64 tf,.slice AR n c,.slice BR k d] 53)).ownsRow w4.heap.size 53 3 (.slice AO outs.length cO) outs.length valsO from fun wa hba wb hbb AR n c BR k d=>ownsRow_keep hvo1 (fun g hg=>(Below.heap_alloc wb _ g (by have:=own_lt hvo1 hg;have:=hba.size;have:=hbb.size;omega)).trans ((hbb.block g (by have:=own_lt hvo1 hg;have:=hba.size;omega)).trans (hba.block g (own_lt hvo1 hg)))))
             clear hvo1 hvo2 hvo3
             have hSS:∀ b,SS b→b<wr.heap.size:=fun b hb=>Nat.lt_of_lt_of_le (hSSr b hb) hzz
             have u0:=z0
             have u1:=z1
             have u2:=z5
             have HVF:=Lib.hid HVFZ.out
             have HVL:=Lib.hid HVLZ.out
             have hw4o:=HBO.out.size
             have HVLO:=HVF.out.r1.len'
             have HVLN:=HVL.out.r2.len'
             go_wp2_with fail
             clear z0 z1 z2 z3 z4 z5
             refine hideQ (fun c a d v w h=>by cases d<;>exact h) (fun Q' HQ HP=>?_)
             refine regionT_until (fun w'=>w'.cell? ⟨wo.heap.size,0,none⟩=some (.int .i64 tf)∧w'.cell? ⟨wo.heap.size,1,none⟩=some (.slice A1 of.length c1)∧w'.cell? ⟨wo.heap.size+1,2,none⟩=some (.slice A4 nl.length c4)) 13 13 (bA 13 0) (by kernel_rfl) (by kernel_rfl) (by kernel_rfl) ?_
             refine tk 0 81 (bA 13 1) _ rfl (by kernel_rfl) (by kernel_rfl) HP.out (by rfl) (fun w' hSw=>by (try dsimp only at hSw);go_simp;(try with_reducible rfl)) ⟨u0,u1,u2⟩ ?_
             simp only [psA,psB,psC]
             refine tk 1 82 (bA 13 3) _ rfl (by kernel_rfl) (by kernel_rfl) HP.out (by rfl) (fun w' hSw=>by (try dsimp only at hSw);go_simp;(try with_reducible rfl)) ⟨u0,u1,u2⟩ ?_
             simp only [psA,psB,psC]
             refine tk 2 83 (bA 13 7) _ rfl (by kernel_rfl) (by kernel_rfl) HP.out (by rfl) (fun w' hSw=>by (try dsimp only at hSw);go_simp;(try with_reducible rfl)) ⟨u0,u1,u2⟩ ?_
             simp only [psA,psB,psC]
             refine tk 3 84 (bA 13 15) _ rfl (by kernel_rfl) (by kernel_rfl) HP.out (by rfl) (fun w' hSw=>by (try dsimp only at hSw);go_simp;(try with_reducible rfl)) ⟨u0,u1,u2⟩ ?_
             simp only [psA,psB,psC]
             refine tk 4 85 (bA 13 31) _ rfl (by kernel_rfl) (by kernel_rfl) HP.out (by rfl) (fun w' hSw=>by (try dsimp only at hSw);go_simp;(try with_reducible rfl)) ⟨u0,u1,u2⟩ ?_
             simp only [psA,psB,psC]
             refine tk 6 87 (bA 13 95) _ rfl (by kernel_rfl) (by kernel_rfl) HP.out (by rfl) (fun w' hSw=>by (try dsimp only at hSw);go_simp;(try with_reducible rfl)) ⟨u0,u1,u2⟩ ?_
             simp only [psA,psB,psC]
             refine tk 7 88 (bA 13 223) _ rfl (by kernel_rfl) (by kernel_rfl) HP.out (by rfl) (fun w' hSw=>by (try dsimp only at hSw);go_simp;(try with_reducible rfl)) ⟨u0,u1,u2⟩ ?_
             simp only [psA,psB,psC]
             refine anyT_one (i:=5) (o:=⟨some 86,_,_,_,_,_⟩) (L':=(bA 13 255)) rfl (by kernel_rfl) (by kernel_rfl) (fun K hK=>?_)
             have HK:=Lib.hid hK
             clear hK
             go_simp
             refine(clone_any A1 c1 of SS _ (by exact HVF.out.r1.keep (fun _ _=>rfl))).mono ?_
             rintro e wa ⟨AR,cr,rfl,howna,hba⟩
             have hba':Below wr.heap.size wr wa:=(by first | exact(Below.refl _ wr).drew.trans hba | exact hba)
             have p0:=(hba'.cell (p:=⟨wo.heap.size,0,none⟩) (by simp;omega)).trans u0
             have p1:=(hba'.cell (p:=⟨wo.heap.size,1,none⟩) (by simp;omega)).trans u1
             have p2:=(hba'.cell (p:=⟨wo.heap.size+1,2,none⟩) (by simp;omega)).trans u2
             have hzwa:wr.heap.size≤wa.heap.size:=hba'.size
             refine HK.out _ _ (fun _=>⟨p0,p1,p2⟩) ?_
             clear HK K
             try simp only [Act.put,psA,psB,psC]
             refine anyT_one (i:=8) (o:=⟨some 89,_,_,_,_,_⟩) (L':=(bA 13 511)) rfl (by kernel_rfl) (by kernel_rfl) (fun K hK=>?_)
             have HK:=Lib.hid hK
             clear hK
             go_simp
             refine(clone_any A4 c4 nl SS _ (by exact HVL.out.r2.keep (Same.of_below hba' hSS))).mono ?_
             rintro e wb ⟨BR,dr,rfl,hownb,hbb⟩
             have hbb':Below wa.heap.size wa wb:=(by first | exact(Below.refl _ wa).drew.trans hbb | exact hbb)
             have q0:=(hbb'.cell (p:=⟨wo.heap.size,0,none⟩) (by simp;omega)).trans p0
             have q1:=(hbb'.cell (p:=⟨wo.heap.size,1,none⟩) (by simp;omega)).trans p1
             have q2:=(hbb'.cell (p:=⟨wo.heap.size+1,2,none⟩) (by simp;omega)).trans p2
             have hzwb:wa.heap.size≤wb.heap.size:=hbb'.size
             refine HK.out _ _ (fun _=>⟨q0,q1,q2⟩) ?_
             clear HK K
             try simp only [Act.put,psA,psB,psC]
             refine tk 9 90 (bA 13 1023) _ rfl (by kernel_rfl) (by kernel_rfl) HP.out (by rfl) (fun w' hSw=>by (try dsimp only at hSw);go_simp;(try with_reducible rfl)) ⟨q0,q1,q2⟩ ?_
             simp only [psA,psB,psC]
             refine anyT_one (i:=10) (o:=⟨some 91,_,_,_,_,_⟩) (L':=(bA 13 2047)) rfl (by kernel_rfl) (by kernel_rfl) (fun K hK=>?_)
             have HK:=Lib.hid hK
             clear hK
             go_simp
             have r0:(wb.alloc (.cells #[.int .i64 tf,.slice AR of.length cr,.slice BR nl.length dr] 53)).cell? ⟨wo.heap.size,0,none⟩=_:=(cell_old (by omega)).trans q0
             have r1:(wb.alloc (.cells #[.int .i64 tf,.slice AR of.length cr,.slice BR nl.length dr] 53)).cell? ⟨wo.heap.size,1,none⟩=_:=(cell_old (by omega)).trans q1
             have r2:(wb.alloc (.cells #[.int .i64 tf,.slice AR of.length cr,.slice BR nl.length dr] 53)).cell? ⟨wo.heap.size+1,2,none⟩=_:=(cell_old (by omega)).trans q2
             refine HK.out _ _ (fun _=>⟨r0,r1,r2⟩) ?_
             clear HK K
             try simp only [Act.put,psA,psB,psC]
             refine anyT_one (i:=11) (o:=⟨some 92,_,_,_,_,_⟩) (L':=(bA 13 4095)) rfl (by kernel_rfl) (by kernel_rfl) (fun K hK=>?_)
             refine step_append_lies _ (by rfl) (.tmp 81) (.tmp 91) _ (by rfl) w4.heap.size 53 i0 _ 3 56 Try.underlying48 hi hz0 hz1 hz2 rfl (by decide) (.slice AO outs.length cO) outs.length valsO (by rfl) (by exact HOWN6.out wa hba' wb hbb' AR of.length cr BR nl.length dr) ⟨wb.heap.size,0,none⟩ 1 1 [.int .i64 tf,.slice AR of.length cr,.slice BR nl.length dr] (by rfl) (by rfl) (World.news_of_block (cs:=#[.int .i64 tf,.slice AR of.length cr,.slice BR nl.length dr]) (t:=53) (fr:=(0,0)) (heap_alloc_new wb _)) (by simp [Value.oneCell']) (by omega) (by unfold maxLen;omega) (by omega) (by simp;omega) (wb.heap.size+1) (by simp) ?_
             intro g7 c7 w7 hown7 hgr7 hat7 hlt7
             have m0:=(hgr7.cell_far ⟨wo.heap.size,0,none⟩ (by simp;omega) HNV1.out).trans r0
             have m1:=(hgr7.cell_far ⟨wo.heap.size,1,none⟩ (by simp;omega) HNV1.out).trans r1
             have m2:=(hgr7.cell_far ⟨wo.heap.size+1,2,none⟩ (by simp;omega) HNV2.out).trans r2
             have HO7:=Lib.hid hown7
             have HG7:=Lib.hid hgr7
             have HAT7:=Lib.hid hat7
             clear hown7 hgr7 hat7
             refine hK _ _ (fun _=>⟨m0,m1,m2⟩) ?_
             clear hK K
             try simp only [Act.put,psA,psB,psC]
             refine tk 12 12 (bA 13 8191) _ rfl (by kernel_rfl) (by kernel_rfl) HP.out (by rfl) (fun w' hSw=>by (try dsimp only at hSw);go_simp;(try with_reducible rfl)) ⟨m0,m1,m2⟩ ?_
             simp only [psA,psB,psC]
             refine anyU_done (by kernel_rfl) ?_
             rw [HQ.out]
             clear HQ HP Q'
             have HBB:=Lib.hid (show Below wr.heap.size wr wb from hba'.trans (hbb'.mono hba'.size))
             have HN1:=Lib.hid (new_row (n:=wr.heap.size) howna HVF.out.r1.ok (Nat.le_refl _))
             have HN2:=Lib.hid (new_row (n:=wr.heap.size) hownb HVL.out.r2.ok hzwa)
             have HFIN:=Lib.hid (outs_push (wb:=wb.alloc (.cells #[.int .i64 tf,.slice AR of.length cr,.slice BR nl.length dr] 53)) (t:=tf) HVO2.out HVOB.out (by omega) (HBB.out.alloc HBB.out.size _) ⟨HN1.out.1,(HN1.out.2.keep (fun b hb=>(Below.heap_alloc wb _ b (by have:=hb.2;omega)).trans (hbb'.block b hb.2))).more (fun b hb=>⟨hb.1,by have:=hb.2;simp;omega⟩)⟩ ⟨HN2.out.1,(HN2.out.2.keep (fun b hb=>Below.heap_alloc wb _ b hb.2)).more (fun b hb=>⟨hb.1,by have:=hb.2;simp;omega⟩)⟩ HG7.out (HAT7.out.imp id (fun h=>by rw [h];simp)) rfl HO7.out)
             have HBF:=Lib.hid (show Below w4.heap.size w4 w7 from (((HBO.out.trans (HBZ.out.mono HBO.out.size)).trans (HBB.out.mono (by omega))).alloc (Nat.le_trans (by omega) HBB.out.size) (.cells #[.int .i64 tf,.slice AR of.length cr,.slice BR nl.length dr] 53)).grown HG7.out (by have:=HBB.out.size;simp;omega) (fun k e=>(HVOB.out k e).1))
             clear hba' hbb' hba hbb howna hownb HO7 HG7 HAT7 HOWN6 HVO2 m0 m1 m2 r0 r1 r2 q0 q1 q2 p0 p1 p2 u0 u1 u2 HN1 HN2 HVF HVL HVFZ HVLZ
             go_wp2_with fail
             go_roundw
             case rel=>exact⟨j,outs++[⟨tf,of,nl⟩],some ⟨g7,0,none⟩,c7,by omega,rfl,by simp,by simp;omega,by simpa using HFIN.out,HN.out,HBF.out⟩
             case measure=>simp [intOf];omega
      · have HNE:=Lib.hid (show netGo s none srt=some outs by rw [HNET.out,List.drop_eq_nil_of_le (by omega),netGo];simp)
        have HF:=Lib.hid (show netF (schF pc s) s m l=(71,[]) by rw [HFIN2.out (some outs) HNE.out];rfl)
        go_wp2_with fail
        go_ret2
        exact NetPost.err HF.out (HB4.out.trans (HBO.out.mono (by omega)))
   · rw [HBI.out,if_neg hgd]
     have HFIN2:=Lib.hid (HFINAL.out (-1) false (by rw [HBI.out,if_neg hgd]) (by simp [hgd]))
     have hgn':gn=l.length:=by omega
     subst hgn'
     clear HFINAL HBI
     rw [List.take_length] at HGD HTG HNG HFIN2
     go_wp2_with fail
     refine(sortStable_any A0 c0' s w.heap.size AS cS l w2.heap.size S _ HCAP3.out (HS.out.keep (Same.of_below HB3.out hS)) HGD.out HNG.out HTG.out (by omega)).mono ?_
     rintro e w4 ⟨⟨u,rfl⟩,hO4,hF4⟩
     have HLS:=Lib.hid (isort_len (cmpC s) l)
     generalize isort (cmpC s) l=srt at hO4 HFIN2 HLS
     obtain⟨hq1,hq2,hsrt⟩:=OwnD.chgs (v:=.slice AS l.length cS) hO4 (by rw [HLS.out];omega)
     obtain⟨SS,hSSd⟩:∃ SS:Nat→Prop,SS=(fun b=>S b∨some b=(Value.slice AS l.length cS).ownBlock):=⟨_,rfl⟩
     rw [←hSSd] at hsrt
     have HSR:=Lib.hid hsrt
     have HBK:=Lib.hid (show ∀ g,(Value.slice AS l.length cS).ownBlock=some g→w2.heap.size≤g∧g<w4.heap.size from fun g hg=>by obtain⟨_,h1,_⟩:=hO4;rw [List.length_map,HLS.out] at h1;exact⟨own_base h1 hg,own_lt h1 hg⟩)
     have HB4:=Lib.hid (show Below w.heap.size w w4 from ⟨hF4.os.trans HB3.out.os,hF4.tape.trans HB3.out.tape,hF4.output.trans HB3.out.output,Nat.le_trans HB3.out.size hF4.size,fun b hb=>(hF4.block b (by omega) (fun e=>by have:=(HBK.out b e.symm).1;omega)).trans (HB3.out.block b hb)⟩)
     have HCAP4:=Lib.hid (HCAP3.out.keep (hF4.block w.heap.size HCAP3.out.ls (fun e=>by have:=(HBK.out _ e.symm).1;omega)) hF4.size)
     have hw4:w.heap.size+1<w4.heap.size:=by have:=hF4.size;omega
     have hSS4:∀ b,SS b→b<w4.heap.size:=fun b hb=>by
      rw [hSSd] at hb
      rcases hb with hb | hb
      · have:=hS b hb;omega
      · exact(HBK.out b hb.symm).2
     have HST:=Lib.hid ((HS.out.keep (Same.of_below HB4.out hS)).more (S':=SS) (fun b hb=>by rw [hSSd];exact .inl hb))
     have hsl4:srt.length=l.length:=HLS.out
     have HSL4:=Lib.hid hsl4
     rw [←hsl4]
     have hs19:srt.length≤19:=by omega
     clear hO4 hF4 hq1 hq2 hsrt hSSd hsl4 HGD HCAP3 HB3 HTG HNG HBK HOW3 HLS
     go_wp2_with fail
     go_loopw [12,13] (fun o i wr=>∃ (k:Nat) (outs:List Chg) (AO:Option Addr) (cO:Nat),k≤srt.length∧i=.int .i64 k∧o=.slice AO outs.length cO∧outs.length≤k∧Outs wr w4.heap.size (.slice AO outs.length cO) outs∧netGo s none srt=(netGo s none (srt.drop k)).map (outs++·)∧Below w4.heap.size w4 wr) (fun _ i _=>srt.length - (intOf i).toNat)
     case atStart=>exact⟨0,[],none,0,Nat.zero_le _,rfl,rfl,Nat.le_refl _,OwnD.nil_ (fun b hb=>hb.2.1),by simp,Below.refl _ _⟩
     case round =>
      obtain⟨k,outs,AO,cO,hk,rfl,rfl,hok,hout,hnet,hbo⟩:=hrel
      have HOUT:=Lib.hid hout
      have HNET:=Lib.hid hnet
      have HBO:=Lib.hid hbo
      have hso:=hbo.size
      clear hout hnet hbo
      obtain⟨wo,rfl⟩:∃ wo:World,wo=wr:=⟨_,rfl⟩
      by_cases hkl:k<srt.length
      · obtain⟨b2,o2,rfl,hb2,d0,A1,c1,A2,c2,d1,e1,hR1,d2,e2,hR2⟩:=(HSR.out.keep (Same.of_below HBO.out hSS4)).at_ hkl
        have HVF0:=Lib.hid (show ChV wo SS (srt.getD k chg0) A1 c1 A2 c2 from ⟨hR1,e1,hR2,e2⟩)
        have HFST:=Lib.hid (net_first s hkl)
        have hl2:b2<wo.heap.size:=by have:=hSS4 b2 hb2;omega
        have hn1:=hR1.len
        have hn2:=hR2.len
        clear hR1 hR2 e1 e2
        generalize srt.getD k chg0=fc at d0 d1 d2 HVF0 HFST hn1 hn2
        obtain⟨tf,of,nf⟩:=fc
        simp only at d0 d1 d2 hn1 hn2
        go_wp2_with fail
        clear d0 d1 d2
        go_loopw [13] (fun i wq=>∃ (j:Nat) (la:Chg) (A3:Option Addr) (c3:Nat) (A4:Option Addr) (c4:Nat),k+1≤j∧j≤srt.length∧i=.int .i64 j∧netGo s none srt=(netGo s (some (⟨tf,of,nf⟩,la)) (srt.drop j)).map (outs++·)∧Below wo.heap.size wo wq∧ChV wq SS la A3 c3 A4 c4∧wo.heap.size+1<wq.heap.size∧wq.cell? ⟨wo.heap.size,0,none⟩=some (.int .i64 tf)∧wq.cell? ⟨wo.heap.size,1,none⟩=some (.slice A1 of.length c1)∧wq.cell? ⟨wo.heap.size,2,none⟩=some (.slice A2 nf.length c2)∧wq.cell? ⟨wo.heap.size+1,0,none⟩=some (.int .i64 la.table)∧wq.cell? ⟨wo.heap.size+1,1,none⟩=some (.slice A3 la.old.length c3)∧wq.cell? ⟨wo.heap.size+1,2,none⟩=some (.slice A4 la.new.length c4)∧wq.frozen? ⟨wo.heap.size+1,0,none⟩=false∧wq.frozen? ⟨wo.heap.size+1,1,none⟩=false∧wq.frozen? ⟨wo.heap.size+1,2,none⟩=false) (fun i _=>srt.length - (intOf i).toNat)
        case atStart=>exact⟨k+1,⟨tf,of,nf⟩,A1,c1,A2,c2,Nat.le_refl _,hkl,by go_num,by rw [HNET.out,HFST.out],((Below.refl wo.heap.size wo).alloc (Nat.le_refl _) _).alloc (by simp) _,HVF0.out.keep (fun b hb=>(Below.heap_alloc _ _ b (by have:=hSS4 b hb;simp;omega)).trans (Below.heap_alloc _ _ b (by have:=hSS4 b hb;omega))),by simp,(cell_old (by simp)).trans (cell_new rfl rfl),(cell_old (by simp)).trans (cell_new rfl rfl),(cell_old (by simp)).trans (cell_new rfl rfl),cell_new (by simp) rfl,cell_new (by simp) rfl,cell_new (by simp) rfl,frozen_new (by simp),frozen_new (by simp),frozen_new (by simp)⟩
        case round =>
         obtain⟨j,la,A3,c3,A4,c4,hj1,hj2,rfl,hnx,hbq,hvl,hwq,u0,u1,u2,u3,u4,u5,u6,u7,u8⟩:=hrel
         have HNX:=Lib.hid hnx
         have HBQ:=Lib.hid hbq
         have hsq:=hbq.size
         have HVL:=Lib.hid hvl
         have hnl1:=hvl.r1.len
         have hnl2:=hvl.r2.len
         have HVF:=Lib.hid (HVF0.out.keep (w':=wr) (fun b hb=>hbq.block b (by have:=hSS4 b hb;omega)))
         have hSSr:∀ b,SS b→b<wr.heap.size:=fun b hb=>by have:=hSS4 b hb;omega
         have hw0:wo.heap.size<wr.heap.size:=by omega
         have hw1:wo.heap.size+1<wr.heap.size:=by omega
         clear hnx hbq hvl
         by_cases hjl:j<srt.length
         · obtain⟨b5,o5,eA,hb5,f0,B1,k1,B2,k2,f1,g1,hR3,f2,g2,hR4⟩:=(HSR.out.keep (w':=wr) (fun b hb=>(HBQ.out.block b (by have:=hSS4 b hb;omega)).trans (HBO.out.block b (hSS4 b hb)))).at_ hjl
           injection eA with eA
           injection eA with eA1 eA2
           subst eA1 eA2
           have HVX:=Lib.hid (show ChV wr SS (srt.getD j chg0) B1 k1 B2 k2 from ⟨hR3,g1,hR4,g2⟩)
           have HNXT:=Lib.hid (net_next s ⟨tf,of,nf⟩ la hjl)
           have hl5:b2<wr.heap.size:=by have:=hSS4 b2 hb5;omega
           have hx1:=hR3.len
           have hx2:=hR4.len
           clear hR3 hR4 g1 g2
           generalize srt.getD j chg0=x at f0 f1 f2 HVX HNXT hx1 hx2
           obtain⟨tx,ox,nx⟩:=x
           simp only at f0 f1 f2 hx1 hx2 HNXT
           have hd:decide ((j:Int)<(srt.length:Int))=true:=decide_eq_true (by omega)
           have hd':decide (j<srt.length)=true:=decide_eq_true hjl
           have q2:(0:Int)≤j:=by omega
           have q3:(j:Int)<srt.length:=by omega
           have HCQ:=Lib.hid (HCAP4.out.keep (w':=wr) ((HBQ.out.block _ (by omega)).trans (HBO.out.block _ (by omega))) (by omega))
           have HSQ:=Lib.hid (HST.out.keep (w':=wr) (fun b hb=>(HBQ.out.block b (by have:=hSS4 b hb;omega)).trans (HBO.out.block b (hSS4 b hb))))
           go_wp2_with fail
           go_region_held3 (fun w'=>Below wr.heap.size wr w'∧w'.cell? ⟨wo.heap.size,0,none⟩=some (.int .i64 tf)∧w'.cell? ⟨wo.heap.size,1,none⟩=some (.slice A1 of.length c1)∧w'.cell? ⟨wo.heap.size,2,none⟩=some (.slice A2 nf.length c2)∧w'.cell? ⟨b2,o2+j*3,none⟩=some (.int .i64 tx)∧w'.cell? ⟨b2,o2+j*3+1,none⟩=some (.slice B1 ox.length k1)∧w'.cell? ⟨b2,o2+j*3+2,none⟩=some (.slice B2 nx.length k2))
            (first | exact⟨(Below.refl _ _).drew,u0,u1,u2,f0,f1,f2⟩ | exact⟨hv1,(hv1.cell (p:=⟨wo.heap.size,0,none⟩) hw0).trans u0,(hv1.cell (p:=⟨wo.heap.size,1,none⟩) hw0).trans u1,(hv1.cell (p:=⟨wo.heap.size,2,none⟩) hw0).trans u2,(hv1.cell (p:=⟨b2,o2+j*3,none⟩) hl5).trans f0,(hv1.cell (p:=⟨b2,o2+j*3+1,none⟩) hl5).trans f1,(hv1.cell (p:=⟨b2,o2+j*3+2,none⟩) hl5).trans f2⟩)
            ((go_at_call 76;refine(net2_any A0 c0' s w.heap.size ⟨tf,of,nf⟩ A1 c1 A2 c2 ⟨tx,ox,nx⟩ B1 k1 B2 k2 SS wr.drew (HCQ.out.keep rfl (Nat.le_refl _)) (HSQ.out.keep (fun _ _=>rfl)) (HVF.out.keep (fun _ _=>rfl)) (HVX.out.keep (fun _ _=>rfl)) hSSr).mono ?_;rintro e w5 ⟨rfl,hv1'⟩;have hv1:Below wr.heap.size wr w5:=(Below.refl _ wr).drew.trans hv1'))
           have u0:=(hv1.cell (p:=⟨wo.heap.size,0,none⟩) hw0).trans u0
           have u1:=(hv1.cell (p:=⟨wo.heap.size,1,none⟩) hw0).trans u1
           have u2:=(hv1.cell (p:=⟨wo.heap.size,2,none⟩) hw0).trans u2
           have u3:=(hv1.cell (p:=⟨wo.heap.size+1,0,none⟩) hw1).trans u3
           have u4:=(hv1.cell (p:=⟨wo.heap.size+1,1,none⟩) hw1).trans u4
           have u5:=(hv1.cell (p:=⟨wo.heap.size+1,2,none⟩) hw1).trans u5
           have u6:=(hv1.frozen (p:=⟨wo.heap.size+1,0,none⟩) hw1).trans u6
           have u7:=(hv1.frozen (p:=⟨wo.heap.size+1,1,none⟩) hw1).trans u7
           have u8:=(hv1.frozen (p:=⟨wo.heap.size+1,2,none⟩) hw1).trans u8
           have f0:=(hv1.cell (p:=⟨b2,o2+j*3,none⟩) hl5).trans f0
           have f1:=(hv1.cell (p:=⟨b2,o2+j*3+1,none⟩) hl5).trans f1
           have f2:=(hv1.cell (p:=⟨b2,o2+j*3+2,none⟩) hl5).trans f2
           have HBQ:=Lib.hid (HBQ.out.trans (hv1.mono hsq))
           have HVL:=Lib.hid (HVL.out.keep (Same.of_below hv1 hSSr))
           have HVF:=Lib.hid (HVF.out.keep (Same.of_below hv1 hSSr))
           have HVX:=Lib.hid (HVX.out.keep (Same.of_below hv1 hSSr))
           have hs5:=hv1.size
           have hSSr:∀ b,SS b→b<w5.heap.size:=fun b hb=>by have:=hSS4 b hb;omega
           have hw0:wo.heap.size<w5.heap.size:=by omega
           have hw1:wo.heap.size+1<w5.heap.size:=by omega
           have hl5:b2<w5.heap.size:=by omega
           have hsq:wo.heap.size≤w5.heap.size:=by omega
           clear hv1 hv1'
           obtain⟨wr,rfl⟩:∃ wr:World,wr=w5:=⟨_,rfl⟩
           by_cases hsm:sameC s ⟨tf,of,nf⟩ ⟨tx,ox,nx⟩=true
           · rw [hsm]
             have HNXT2:=Lib.hid (show netGo s (some (⟨tf,of,nf⟩,la)) (srt.drop j)=if cmpR la.new ox=0 then netGo s (some (⟨tf,of,nf⟩,⟨tx,ox,nx⟩)) (srt.drop (j+1)) else none by rw [HNXT.out,if_pos hsm])
             clear hsm HNXT
             go_wp2_with fail
             go_region_held3 (fun w'=>Below wr.heap.size wr w'∧w'.cell? ⟨wo.heap.size+1,2,none⟩=some (.slice A4 la.new.length c4)∧w'.cell? ⟨b2,o2+j*3+1,none⟩=some (.slice B1 ox.length k1))
              (first | exact⟨(Below.refl _ _).drew,u5,f1⟩ | exact⟨hv1,(hv1.cell (p:=⟨wo.heap.size+1,2,none⟩) hw1).trans u5,(hv1.cell (p:=⟨b2,o2+j*3+1,none⟩) hl5).trans f1⟩)
              ((go_at_call 77;refine(equal_any A4 B1 c4 k1 la.new ox SS wr.drew (HVL.out.r2.keep (fun _ _=>rfl)) (HVX.out.r1.keep (fun _ _=>rfl)) hSSr).mono ?_;rintro e w6 ⟨rfl,hv1'⟩;have hv1:Below wr.heap.size wr w6:=(Below.refl _ wr).drew.trans hv1'))
             have u0:=(hv1.cell (p:=⟨wo.heap.size,0,none⟩) hw0).trans u0
             have u1:=(hv1.cell (p:=⟨wo.heap.size,1,none⟩) hw0).trans u1
             have u2:=(hv1.cell (p:=⟨wo.heap.size,2,none⟩) hw0).trans u2
             have u3:=(hv1.cell (p:=⟨wo.heap.size+1,0,none⟩) hw1).trans u3
             have u4:=(hv1.cell (p:=⟨wo.heap.size+1,1,none⟩) hw1).trans u4
             have u5:=(hv1.cell (p:=⟨wo.heap.size+1,2,none⟩) hw1).trans u5
             have u6:=(hv1.frozen (p:=⟨wo.heap.size+1,0,none⟩) hw1).trans u6
             have u7:=(hv1.frozen (p:=⟨wo.heap.size+1,1,none⟩) hw1).trans u7
             have u8:=(hv1.frozen (p:=⟨wo.heap.size+1,2,none⟩) hw1).trans u8
             have f0:=(hv1.cell (p:=⟨b2,o2+j*3,none⟩) hl5).trans f0
             have f1:=(hv1.cell (p:=⟨b2,o2+j*3+1,none⟩) hl5).trans f1
             have f2:=(hv1.cell (p:=⟨b2,o2+j*3+2,none⟩) hl5).trans f2
             have HBQ:=Lib.hid (HBQ.out.trans (hv1.mono hsq))
             have HVX:=Lib.hid (HVX.out.keep (Same.of_below hv1 hSSr))
             have hs6:=hv1.size
             have hSS6:∀ b,SS b→b<w6.heap.size∧b≠wo.heap.size+1:=fun b hb=>⟨by have:=hSS4 b hb;omega,by have:=hSS4 b hb;omega⟩
             have hw1:wo.heap.size+1<w6.heap.size:=by omega
             have hl5:b2≠wo.heap.size+1:=by omega
             clear hv1 hv1'
             by_cases hcf:cmpR la.new ox=0
             · rw [show (cmpR la.new ox == 0)=true by rw [hcf];rfl]
               have HN2:=Lib.hid (show netGo s none srt=(netGo s (some (⟨tf,of,nf⟩,⟨tx,ox,nx⟩)) (srt.drop (j+1))).map (outs++·) by rw [HNX.out,HNXT2.out,if_pos hcf])
               clear hcf HNXT2
               go_wp2_with fail
               go_roundw
               case rel =>
                have hk9:∀ b,b≠wo.heap.size+1→(((w6.setCell ⟨wo.heap.size+1,0,none⟩ (.int .i64 tx)).setCell ⟨wo.heap.size+1,1,none⟩ (.slice B1 ox.length k1)).setCell ⟨wo.heap.size+1,2,none⟩ (.slice B2 nx.length k2)).heap[b]?=w6.heap[b]?:=fun b hb=>by iterate 3 rw [Below.heap_setCell _ _ _ b hb]
                refine⟨j+1,⟨tx,ox,nx⟩,B1,k1,B2,k2,by omega,hjl,by go_num,HN2.out,⟨HBQ.out.os,HBQ.out.tape,HBQ.out.output,by have:=HBQ.out.size;simp;omega,fun b hb=>(hk9 b (by omega)).trans (HBQ.out.block b hb)⟩,HVX.out.keep (fun b hb=>hk9 b (hSS6 b hb).2),by simp;omega,(World.cell?_of_block (hk9 _ (by simp))).trans u0,(World.cell?_of_block (hk9 _ (by simp))).trans u1,(World.cell?_of_block (hk9 _ (by simp))).trans u2,?_,?_,?_,?_,?_,?_⟩
                · exact set3_0 u3 u4 u5
                · exact set3_1 u3 u4 u5
                · exact set3_2 u3 u4 u5
                · rw [World.frozen?_setCell,World.frozen?_setCell,World.frozen?_setCell];exact u6
                · rw [World.frozen?_setCell,World.frozen?_setCell,World.frozen?_setCell];exact u7
                · rw [World.frozen?_setCell,World.frozen?_setCell,World.frozen?_setCell];exact u8
               case measure=>simp [intOf];omega
             · rw [show (cmpR la.new ox == 0)=false from beq_eq_false_iff_ne.2 hcf]
               have HF:=Lib.hid (show netF (schF pc s) s m l=(81,[]) by rw [HFIN2.out none (by rw [HNX.out,HNXT2.out,if_neg hcf];rfl)])
               clear hcf HNXT2
               go_wp2_with fail
               go_ret2
               exact NetPost.err HF.out (HB4.out.trans ((HBO.out.trans (HBQ.out.mono HBO.out.size)).mono (by omega)))
           · have hsm':sameC s ⟨tf,of,nf⟩ ⟨tx,ox,nx⟩=false:=by simpa using hsm
             have HX:=Lib.hid (show netGo s none srt=(netGo s none (srt.drop j)).map ((outs++netOut ⟨tf,of,nf⟩ la)++·) by rw [HNX.out,HNXT.out,if_neg hsm,map_map_app])
             rw [hsm']
             clear hsm hsm' HNXT f0 f1 f2
             obtain⟨tl,ol,nl⟩:=la
             simp only at u3 u4 u5 hnl1 hnl2
             have HSO:=Lib.hid HOUT.out
             go_wp2_with fail
             refine(equal_any A1 A4 c1 c4 of nl SS _ (HVF.out.r1) (HVL.out.r2) hSSr).mono ?_
             rintro e wz ⟨rfl,hbz⟩
             have z0:=(hbz.cell (p:=⟨wo.heap.size,0,none⟩) hw0).trans u0
             have z1:=(hbz.cell (p:=⟨wo.heap.size,1,none⟩) hw0).trans u1
             have z2:=(hbz.cell (p:=⟨wo.heap.size,2,none⟩) hw0).trans u2
             have z3:=(hbz.cell (p:=⟨wo.heap.size+1,0,none⟩) hw1).trans u3
             have z4:=(hbz.cell (p:=⟨wo.heap.size+1,1,none⟩) hw1).trans u4
             have z5:=(hbz.cell (p:=⟨wo.heap.size+1,2,none⟩) hw1).trans u5
             have hzz:=hbz.size
             have HBZ:=Lib.hid (HBQ.out.trans (hbz.mono hsq))
             have HVFZ:=Lib.hid (HVF.out.keep (Same.of_below hbz hSSr))
             have HVLZ:=Lib.hid (HVL.out.keep (Same.of_below hbz hSSr))
             clear hbz u0 u1 u2 u3 u4 u5 u6 u7 u8 HVF HVL
             by_cases heq:cmpR of nl=0
             · rw [show (cmpR of nl == 0)=true by rw [heq];rfl]
               have HN:=Lib.hid (show netGo s none srt=(netGo s none (srt.drop j)).map (outs++·) by rw [HX.out,show netOut ⟨tf,of,nf⟩ ⟨tl,ol,nl⟩=[] by unfold netOut;rw [if_pos heq],List.append_nil])
               clear heq
               go_wp2_with fail
               go_roundw
               case rel=>exact⟨j,outs,AO,cO,by omega,rfl,rfl,by omega,HSO.out.below HBZ.out,HN.out,HBO.out.trans (HBZ.out.mono HBO.out.size)⟩
               case measure=>simp [intOf];omega
             · rw [show (cmpR of nl == 0)=false from beq_eq_false_iff_ne.2 heq]
               have HN:=Lib.hid (show netGo s none srt=(netGo s none (srt.drop j)).map ((outs++[⟨tf,of,nl⟩])++·) by rw [HX.out,show netOut ⟨tf,of,nf⟩ ⟨tl,ol,nl⟩=[⟨tf,of,nl⟩] by unfold netOut;rw [if_neg heq]])
               clear heq
               obtain⟨wr,rfl⟩:∃ wr:World,wr=wz:=⟨_,rfl⟩
               obtain⟨valsO,hvo1,hvo2,hvo3⟩:=HSO.out.below HBZ.out
               rw [List.length_map] at hvo1
               have HVO2:=Lib.hid hvo2
               have HVOB:=Lib.hid (show ∀ g',(Value.slice AO outs.length cO).ownBlock=some g'→w4.heap.size≤g'∧g'<wr.heap.size from fun g' hg'=>⟨own_base hvo1 hg',own_lt hvo1 hg'⟩)
               have HOLT:=Lib.hid (show ∀ g',(Value.slice AO outs.length cO).ownBlock=some g'→g'<wo.heap.size from fun g' hg'=>by obtain⟨_,h1,_⟩:=HSO.out;rw [List.length_map] at h1;exact own_lt h1 hg')
               have HNV1:=Lib.hid (show some wo.heap.size≠(Value.slice AO outs.length cO).ownBlock from fun e=>by have:=HOLT.out _ e.symm;omega)
               have HNV2:=Lib.hid (show some (wo.heap.size+1)≠(Value.slice AO outs.length cO).ownBlock from fun e=>by have:=HOLT.out _ e.symm;omega)
               have HOWN6:=Lib.hid (show ∀ wa,Below wr.heap.size wr wa→∀ wb,Below wa.heap.size wa wb→∀ AR n c BR k d,(wb.alloc (.cells #[.int .i64 tf,.slice AR n c,.slice BR k d] 53)).ownsRow w4.heap.size 53 3 (.slice AO outs.length cO) outs.length valsO from fun wa hba wb hbb AR n c BR k d=>ownsRow_keep hvo1 (fun g hg=>(Below.heap_alloc wb _ g (by have:=own_lt hvo1 hg;have:=hba.size;have:=hbb.size;omega)).trans ((hbb.block g (by have:=own_lt hvo1 hg;have:=hba.size;omega)).trans (hba.block g (own_lt hvo1 hg)))))
               clear hvo1 hvo2 hvo3
               have hSS:∀ b,SS b→b<wr.heap.size:=fun b hb=>Nat.lt_of_lt_of_le (hSSr b hb) hzz
               have u0:=z0
               have u1:=z1
               have u2:=z5
               have HVF:=Lib.hid HVFZ.out
               have HVL:=Lib.hid HVLZ.out
               have hw4o:=HBO.out.size
               have HVLO:=HVF.out.r1.len'
               have HVLN:=HVL.out.r2.len'
               go_wp2_with fail
               clear z0 z1 z2 z3 z4 z5
               refine hideQ (fun c a d v w h=>by cases d<;>exact h) (fun Q' HQ HP=>?_)
               refine regionT_until (fun w'=>w'.cell? ⟨wo.heap.size,0,none⟩=some (.int .i64 tf)∧w'.cell? ⟨wo.heap.size,1,none⟩=some (.slice A1 of.length c1)∧w'.cell? ⟨wo.heap.size+1,2,none⟩=some (.slice A4 nl.length c4)) 13 13 (bA 13 0) (by kernel_rfl) (by kernel_rfl) (by kernel_rfl) ?_
               refine tk 0 81 (bA 13 1) _ rfl (by kernel_rfl) (by kernel_rfl) HP.out (by rfl) (fun w' hSw=>by (try dsimp only at hSw);go_simp;(try with_reducible rfl)) ⟨u0,u1,u2⟩ ?_
               simp only [psA,psB,psC]
               refine tk 1 82 (bA 13 3) _ rfl (by kernel_rfl) (by kernel_rfl) HP.out (by rfl) (fun w' hSw=>by (try dsimp only at hSw);go_simp;(try with_reducible rfl)) ⟨u0,u1,u2⟩ ?_
               simp only [psA,psB,psC]
               refine tk 2 83 (bA 13 7) _ rfl (by kernel_rfl) (by kernel_rfl) HP.out (by rfl) (fun w' hSw=>by (try dsimp only at hSw);go_simp;(try with_reducible rfl)) ⟨u0,u1,u2⟩ ?_
               simp only [psA,psB,psC]
               refine tk 3 84 (bA 13 15) _ rfl (by kernel_rfl) (by kernel_rfl) HP.out (by rfl) (fun w' hSw=>by (try dsimp only at hSw);go_simp;(try with_reducible rfl)) ⟨u0,u1,u2⟩ ?_
               simp only [psA,psB,psC]
               refine tk 4 85 (bA 13 31) _ rfl (by kernel_rfl) (by kernel_rfl) HP.out (by rfl) (fun w' hSw=>by (try dsimp only at hSw);go_simp;(try with_reducible rfl)) ⟨u0,u1,u2⟩ ?_
               simp only [psA,psB,psC]
               refine tk 6 87 (bA 13 95) _ rfl (by kernel_rfl) (by kernel_rfl) HP.out (by rfl) (fun w' hSw=>by (try dsimp only at hSw);go_simp;(try with_reducible rfl)) ⟨u0,u1,u2⟩ ?_
               simp only [psA,psB,psC]
               refine tk 7 88 (bA 13 223) _ rfl (by kernel_rfl) (by kernel_rfl) HP.out (by rfl) (fun w' hSw=>by (try dsimp only at hSw);go_simp;(try with_reducible rfl)) ⟨u0,u1,u2⟩ ?_
               simp only [psA,psB,psC]
               refine anyT_one (i:=5) (o:=⟨some 86,_,_,_,_,_⟩) (L':=(bA 13 255)) rfl (by kernel_rfl) (by kernel_rfl) (fun K hK=>?_)
               have HK:=Lib.hid hK
               clear hK
               go_simp
               refine(clone_any A1 c1 of SS _ (by exact HVF.out.r1.keep (fun _ _=>rfl))).mono ?_
               rintro e wa ⟨AR,cr,rfl,howna,hba⟩
               have hba':Below wr.heap.size wr wa:=(by first | exact(Below.refl _ wr).drew.trans hba | exact hba)
               have p0:=(hba'.cell (p:=⟨wo.heap.size,0,none⟩) (by simp;omega)).trans u0
               have p1:=(hba'.cell (p:=⟨wo.heap.size,1,none⟩) (by simp;omega)).trans u1
               have p2:=(hba'.cell (p:=⟨wo.heap.size+1,2,none⟩) (by simp;omega)).trans u2
               have hzwa:wr.heap.size≤wa.heap.size:=hba'.size
               refine HK.out _ _ (fun _=>⟨p0,p1,p2⟩) ?_
               clear HK K
               try simp only [Act.put,psA,psB,psC]
               refine anyT_one (i:=8) (o:=⟨some 89,_,_,_,_,_⟩) (L':=(bA 13 511)) rfl (by kernel_rfl) (by kernel_rfl) (fun K hK=>?_)
               have HK:=Lib.hid hK
               clear hK
               go_simp
               refine(clone_any A4 c4 nl SS _ (by exact HVL.out.r2.keep (Same.of_below hba' hSS))).mono ?_
               rintro e wb ⟨BR,dr,rfl,hownb,hbb⟩
               have hbb':Below wa.heap.size wa wb:=(by first | exact(Below.refl _ wa).drew.trans hbb | exact hbb)
               have q0:=(hbb'.cell (p:=⟨wo.heap.size,0,none⟩) (by simp;omega)).trans p0
               have q1:=(hbb'.cell (p:=⟨wo.heap.size,1,none⟩) (by simp;omega)).trans p1
               have q2:=(hbb'.cell (p:=⟨wo.heap.size+1,2,none⟩) (by simp;omega)).trans p2
               have hzwb:wa.heap.size≤wb.heap.size:=hbb'.size
               refine HK.out _ _ (fun _=>⟨q0,q1,q2⟩) ?_
               clear HK K
               try simp only [Act.put,psA,psB,psC]
               refine tk 9 90 (bA 13 1023) _ rfl (by kernel_rfl) (by kernel_rfl) HP.out (by rfl) (fun w' hSw=>by (try dsimp only at hSw);go_simp;(try with_reducible rfl)) ⟨q0,q1,q2⟩ ?_
               simp only [psA,psB,psC]
               refine anyT_one (i:=10) (o:=⟨some 91,_,_,_,_,_⟩) (L':=(bA 13 2047)) rfl (by kernel_rfl) (by kernel_rfl) (fun K hK=>?_)
               have HK:=Lib.hid hK
               clear hK
               go_simp
               have r0:(wb.alloc (.cells #[.int .i64 tf,.slice AR of.length cr,.slice BR nl.length dr] 53)).cell? ⟨wo.heap.size,0,none⟩=_:=(cell_old (by omega)).trans q0
               have r1:(wb.alloc (.cells #[.int .i64 tf,.slice AR of.length cr,.slice BR nl.length dr] 53)).cell? ⟨wo.heap.size,1,none⟩=_:=(cell_old (by omega)).trans q1
               have r2:(wb.alloc (.cells #[.int .i64 tf,.slice AR of.length cr,.slice BR nl.length dr] 53)).cell? ⟨wo.heap.size+1,2,none⟩=_:=(cell_old (by omega)).trans q2
               refine HK.out _ _ (fun _=>⟨r0,r1,r2⟩) ?_
               clear HK K
               try simp only [Act.put,psA,psB,psC]
               refine anyT_one (i:=11) (o:=⟨some 92,_,_,_,_,_⟩) (L':=(bA 13 4095)) rfl (by kernel_rfl) (by kernel_rfl) (fun K hK=>?_)
               refine step_append_lies _ (by rfl) (.tmp 81) (.tmp 91) _ (by rfl) w4.heap.size 53 i0 _ 3 56 Try.underlying48 hi hz0 hz1 hz2 rfl (by decide) (.slice AO outs.length cO) outs.length valsO (by rfl) (by exact HOWN6.out wa hba' wb hbb' AR of.length cr BR nl.length dr) ⟨wb.heap.size,0,none⟩ 1 1 [.int .i64 tf,.slice AR of.length cr,.slice BR nl.length dr] (by rfl) (by rfl) (World.news_of_block (cs:=#[.int .i64 tf,.slice AR of.length cr,.slice BR nl.length dr]) (t:=53) (fr:=(0,0)) (heap_alloc_new wb _)) (by simp [Value.oneCell']) (by omega) (by unfold maxLen;omega) (by omega) (by simp;omega) (wb.heap.size+1) (by simp) ?_
               intro g7 c7 w7 hown7 hgr7 hat7 hlt7
               have m0:=(hgr7.cell_far ⟨wo.heap.size,0,none⟩ (by simp;omega) HNV1.out).trans r0
               have m1:=(hgr7.cell_far ⟨wo.heap.size,1,none⟩ (by simp;omega) HNV1.out).trans r1
               have m2:=(hgr7.cell_far ⟨wo.heap.size+1,2,none⟩ (by simp;omega) HNV2.out).trans r2
               have HO7:=Lib.hid hown7
               have HG7:=Lib.hid hgr7
               have HAT7:=Lib.hid hat7
               clear hown7 hgr7 hat7
               refine hK _ _ (fun _=>⟨m0,m1,m2⟩) ?_
               clear hK K
               try simp only [Act.put,psA,psB,psC]
               refine tk 12 12 (bA 13 8191) _ rfl (by kernel_rfl) (by kernel_rfl) HP.out (by rfl) (fun w' hSw=>by (try dsimp only at hSw);go_simp;(try with_reducible rfl)) ⟨m0,m1,m2⟩ ?_
               simp only [psA,psB,psC]
               refine anyU_done (by kernel_rfl) ?_
               rw [HQ.out]
               clear HQ HP Q'
               have HBB:=Lib.hid (show Below wr.heap.size wr wb from hba'.trans (hbb'.mono hba'.size))
               have HN1:=Lib.hid (new_row (n:=wr.heap.size) howna HVF.out.r1.ok (Nat.le_refl _))
               have HN2:=Lib.hid (new_row (n:=wr.heap.size) hownb HVL.out.r2.ok hzwa)
               have HFIN:=Lib.hid (outs_push (wb:=wb.alloc (.cells #[.int .i64 tf,.slice AR of.length cr,.slice BR nl.length dr] 53)) (t:=tf) HVO2.out HVOB.out (by omega) (HBB.out.alloc HBB.out.size _) ⟨HN1.out.1,(HN1.out.2.keep (fun b hb=>(Below.heap_alloc wb _ b (by have:=hb.2;omega)).trans (hbb'.block b hb.2))).more (fun b hb=>⟨hb.1,by have:=hb.2;simp;omega⟩)⟩ ⟨HN2.out.1,(HN2.out.2.keep (fun b hb=>Below.heap_alloc wb _ b hb.2)).more (fun b hb=>⟨hb.1,by have:=hb.2;simp;omega⟩)⟩ HG7.out (HAT7.out.imp id (fun h=>by rw [h];simp)) rfl HO7.out)
               have HBF:=Lib.hid (show Below w4.heap.size w4 w7 from (((HBO.out.trans (HBZ.out.mono HBO.out.size)).trans (HBB.out.mono (by omega))).alloc (Nat.le_trans (by omega) HBB.out.size) (.cells #[.int .i64 tf,.slice AR of.length cr,.slice BR nl.length dr] 53)).grown HG7.out (by have:=HBB.out.size;simp;omega) (fun k e=>(HVOB.out k e).1))
               clear hba' hbb' hba hbb howna hownb HO7 HG7 HAT7 HOWN6 HVO2 m0 m1 m2 r0 r1 r2 q0 q1 q2 p0 p1 p2 u0 u1 u2 HN1 HN2 HVF HVL HVFZ HVLZ
               go_wp2_with fail
               go_roundw
               case rel=>exact⟨j,outs++[⟨tf,of,nl⟩],some ⟨g7,0,none⟩,c7,by omega,rfl,by simp,by simp;omega,by simpa using HFIN.out,HN.out,HBF.out⟩
               case measure=>simp [intOf];omega
         · have HX:=Lib.hid (show netGo s none srt=(netGo s none (srt.drop j)).map ((outs++netOut ⟨tf,of,nf⟩ la)++·) by rw [HNX.out,net_end s _ _ (by omega),map_map_app])
           have hd:decide ((j:Int)<(srt.length:Int))=false:=decide_eq_false (by omega)
           have hd':decide (j<srt.length)=false:=decide_eq_false hjl
           go_wp2_with fail
           go_quiet (fail)
           obtain⟨w5,hw5⟩:∃ w5,wr.drewN nq=w5:=⟨_,rfl⟩
           have hv1:Below wr.heap.size wr w5:=by rw [←hw5];exact below_drewN (Below.refl _ _) _
           rw [hw5]
           clear hw5
           have u0:=(hv1.cell (p:=⟨wo.heap.size,0,none⟩) hw0).trans u0
           have u1:=(hv1.cell (p:=⟨wo.heap.size,1,none⟩) hw0).trans u1
           have u2:=(hv1.cell (p:=⟨wo.heap.size,2,none⟩) hw0).trans u2
           have u3:=(hv1.cell (p:=⟨wo.heap.size+1,0,none⟩) hw1).trans u3
           have u4:=(hv1.cell (p:=⟨wo.heap.size+1,1,none⟩) hw1).trans u4
           have u5:=(hv1.cell (p:=⟨wo.heap.size+1,2,none⟩) hw1).trans u5
           have u6:=(hv1.frozen (p:=⟨wo.heap.size+1,0,none⟩) hw1).trans u6
           have u7:=(hv1.frozen (p:=⟨wo.heap.size+1,1,none⟩) hw1).trans u7
           have u8:=(hv1.frozen (p:=⟨wo.heap.size+1,2,none⟩) hw1).trans u8
           have HBQ:=Lib.hid (HBQ.out.trans (hv1.mono hsq))
           have HVL:=Lib.hid (HVL.out.keep (Same.of_below hv1 hSSr))
           have HVF:=Lib.hid (HVF.out.keep (Same.of_below hv1 hSSr))
           have hs5:=hv1.size
           have hSSr:∀ b,SS b→b<w5.heap.size:=fun b hb=>by have:=hSS4 b hb;omega
           have hw0:wo.heap.size<w5.heap.size:=by omega
           have hw1:wo.heap.size+1<w5.heap.size:=by omega
           have hsq:wo.heap.size≤w5.heap.size:=by omega
           clear hv1
           obtain⟨wr,rfl⟩:∃ wr:World,wr=w5:=⟨_,rfl⟩
           obtain⟨tl,ol,nl⟩:=la
           simp only at u3 u4 u5 hnl1 hnl2
           have HSO:=Lib.hid HOUT.out
           go_wp2_with fail
           refine(equal_any A1 A4 c1 c4 of nl SS _ (HVF.out.r1) (HVL.out.r2) hSSr).mono ?_
           rintro e wz ⟨rfl,hbz⟩
           have z0:=(hbz.cell (p:=⟨wo.heap.size,0,none⟩) hw0).trans u0
           have z1:=(hbz.cell (p:=⟨wo.heap.size,1,none⟩) hw0).trans u1
           have z2:=(hbz.cell (p:=⟨wo.heap.size,2,none⟩) hw0).trans u2
           have z3:=(hbz.cell (p:=⟨wo.heap.size+1,0,none⟩) hw1).trans u3
           have z4:=(hbz.cell (p:=⟨wo.heap.size+1,1,none⟩) hw1).trans u4
           have z5:=(hbz.cell (p:=⟨wo.heap.size+1,2,none⟩) hw1).trans u5
           have hzz:=hbz.size
           have HBZ:=Lib.hid (HBQ.out.trans (hbz.mono hsq))
           have HVFZ:=Lib.hid (HVF.out.keep (Same.of_below hbz hSSr))
           have HVLZ:=Lib.hid (HVL.out.keep (Same.of_below hbz hSSr))
           clear hbz u0 u1 u2 u3 u4 u5 u6 u7 u8 HVF HVL
           by_cases heq:cmpR of nl=0
           · rw [show (cmpR of nl == 0)=true by rw [heq];rfl]
             have HN:=Lib.hid (show netGo s none srt=(netGo s none (srt.drop j)).map (outs++·) by rw [HX.out,show netOut ⟨tf,of,nf⟩ ⟨tl,ol,nl⟩=[] by unfold netOut;rw [if_pos heq],List.append_nil])
             clear heq
             go_wp2_with fail
             go_roundw
             case rel=>exact⟨j,outs,AO,cO,by omega,rfl,rfl,by omega,HSO.out.below HBZ.out,HN.out,HBO.out.trans (HBZ.out.mono HBO.out.size)⟩
             case measure=>simp [intOf];omega
           · rw [show (cmpR of nl == 0)=false from beq_eq_false_iff_ne.2 heq]
             have HN:=Lib.hid (show netGo s none srt=(netGo s none (srt.drop j)).map ((outs++[⟨tf,of,nl⟩])++·) by rw [HX.out,show netOut ⟨tf,of,nf⟩ ⟨tl,ol,nl⟩=[⟨tf,of,nl⟩] by unfold netOut;rw [if_neg heq]])
             clear heq
             obtain⟨wr,rfl⟩:∃ wr:World,wr=wz:=⟨_,rfl⟩
             obtain⟨valsO,hvo1,hvo2,hvo3⟩:=HSO.out.below HBZ.out
             rw [List.length_map] at hvo1
             have HVO2:=Lib.hid hvo2
             have HVOB:=Lib.hid (show ∀ g',(Value.slice AO outs.length cO).ownBlock=some g'→w4.heap.size≤g'∧g'<wr.heap.size from fun g' hg'=>⟨own_base hvo1 hg',own_lt hvo1 hg'⟩)
             have HOLT:=Lib.hid (show ∀ g',(Value.slice AO outs.length cO).ownBlock=some g'→g'<wo.heap.size from fun g' hg'=>by obtain⟨_,h1,_⟩:=HSO.out;rw [List.length_map] at h1;exact own_lt h1 hg')
             have HNV1:=Lib.hid (show some wo.heap.size≠(Value.slice AO outs.length cO).ownBlock from fun e=>by have:=HOLT.out _ e.symm;omega)
             have HNV2:=Lib.hid (show some (wo.heap.size+1)≠(Value.slice AO outs.length cO).ownBlock from fun e=>by have:=HOLT.out _ e.symm;omega)
             have HOWN6:=Lib.hid (show ∀ wa,Below wr.heap.size wr wa→∀ wb,Below wa.heap.size wa wb→∀ AR n c BR k d,(wb.alloc (.cells #[.int .i64 tf,.slice AR n c,.slice BR k d] 53)).ownsRow w4.heap.size 53 3 (.slice AO outs.length cO) outs.length valsO from fun wa hba wb hbb AR n c BR k d=>ownsRow_keep hvo1 (fun g hg=>(Below.heap_alloc wb _ g (by have:=own_lt hvo1 hg;have:=hba.size;have:=hbb.size;omega)).trans ((hbb.block g (by have:=own_lt hvo1 hg;have:=hba.size;omega)).trans (hba.block g (own_lt hvo1 hg)))))
             clear hvo1 hvo2 hvo3
             have hSS:∀ b,SS b→b<wr.heap.size:=fun b hb=>Nat.lt_of_lt_of_le (hSSr b hb) hzz
             have u0:=z0
             have u1:=z1
             have u2:=z5
             have HVF:=Lib.hid HVFZ.out
             have HVL:=Lib.hid HVLZ.out
             have hw4o:=HBO.out.size
             have HVLO:=HVF.out.r1.len'
             have HVLN:=HVL.out.r2.len'
             go_wp2_with fail
             clear z0 z1 z2 z3 z4 z5
             refine hideQ (fun c a d v w h=>by cases d<;>exact h) (fun Q' HQ HP=>?_)
             refine regionT_until (fun w'=>w'.cell? ⟨wo.heap.size,0,none⟩=some (.int .i64 tf)∧w'.cell? ⟨wo.heap.size,1,none⟩=some (.slice A1 of.length c1)∧w'.cell? ⟨wo.heap.size+1,2,none⟩=some (.slice A4 nl.length c4)) 13 13 (bA 13 0) (by kernel_rfl) (by kernel_rfl) (by kernel_rfl) ?_
             refine tk 0 81 (bA 13 1) _ rfl (by kernel_rfl) (by kernel_rfl) HP.out (by rfl) (fun w' hSw=>by (try dsimp only at hSw);go_simp;(try with_reducible rfl)) ⟨u0,u1,u2⟩ ?_
             simp only [psA,psB,psC]
             refine tk 1 82 (bA 13 3) _ rfl (by kernel_rfl) (by kernel_rfl) HP.out (by rfl) (fun w' hSw=>by (try dsimp only at hSw);go_simp;(try with_reducible rfl)) ⟨u0,u1,u2⟩ ?_
             simp only [psA,psB,psC]
             refine tk 2 83 (bA 13 7) _ rfl (by kernel_rfl) (by kernel_rfl) HP.out (by rfl) (fun w' hSw=>by (try dsimp only at hSw);go_simp;(try with_reducible rfl)) ⟨u0,u1,u2⟩ ?_
             simp only [psA,psB,psC]
             refine tk 3 84 (bA 13 15) _ rfl (by kernel_rfl) (by kernel_rfl) HP.out (by rfl) (fun w' hSw=>by (try dsimp only at hSw);go_simp;(try with_reducible rfl)) ⟨u0,u1,u2⟩ ?_
             simp only [psA,psB,psC]
             refine tk 4 85 (bA 13 31) _ rfl (by kernel_rfl) (by kernel_rfl) HP.out (by rfl) (fun w' hSw=>by (try dsimp only at hSw);go_simp;(try with_reducible rfl)) ⟨u0,u1,u2⟩ ?_
             simp only [psA,psB,psC]
             refine tk 6 87 (bA 13 95) _ rfl (by kernel_rfl) (by kernel_rfl) HP.out (by rfl) (fun w' hSw=>by (try dsimp only at hSw);go_simp;(try with_reducible rfl)) ⟨u0,u1,u2⟩ ?_
             simp only [psA,psB,psC]
             refine tk 7 88 (bA 13 223) _ rfl (by kernel_rfl) (by kernel_rfl) HP.out (by rfl) (fun w' hSw=>by (try dsimp only at hSw);go_simp;(try with_reducible rfl)) ⟨u0,u1,u2⟩ ?_
             simp only [psA,psB,psC]
             refine anyT_one (i:=5) (o:=⟨some 86,_,_,_,_,_⟩) (L':=(bA 13 255)) rfl (by kernel_rfl) (by kernel_rfl) (fun K hK=>?_)
             have HK:=Lib.hid hK
             clear hK
             go_simp
             refine(clone_any A1 c1 of SS _ (by exact HVF.out.r1.keep (fun _ _=>rfl))).mono ?_
             rintro e wa ⟨AR,cr,rfl,howna,hba⟩
             have hba':Below wr.heap.size wr wa:=(by first | exact(Below.refl _ wr).drew.trans hba | exact hba)
             have p0:=(hba'.cell (p:=⟨wo.heap.size,0,none⟩) (by simp;omega)).trans u0
             have p1:=(hba'.cell (p:=⟨wo.heap.size,1,none⟩) (by simp;omega)).trans u1
             have p2:=(hba'.cell (p:=⟨wo.heap.size+1,2,none⟩) (by simp;omega)).trans u2
             have hzwa:wr.heap.size≤wa.heap.size:=hba'.size
             refine HK.out _ _ (fun _=>⟨p0,p1,p2⟩) ?_
             clear HK K
             try simp only [Act.put,psA,psB,psC]
             refine anyT_one (i:=8) (o:=⟨some 89,_,_,_,_,_⟩) (L':=(bA 13 511)) rfl (by kernel_rfl) (by kernel_rfl) (fun K hK=>?_)
             have HK:=Lib.hid hK
             clear hK
             go_simp
             refine(clone_any A4 c4 nl SS _ (by exact HVL.out.r2.keep (Same.of_below hba' hSS))).mono ?_
             rintro e wb ⟨BR,dr,rfl,hownb,hbb⟩
             have hbb':Below wa.heap.size wa wb:=(by first | exact(Below.refl _ wa).drew.trans hbb | exact hbb)
             have q0:=(hbb'.cell (p:=⟨wo.heap.size,0,none⟩) (by simp;omega)).trans p0
             have q1:=(hbb'.cell (p:=⟨wo.heap.size,1,none⟩) (by simp;omega)).trans p1
             have q2:=(hbb'.cell (p:=⟨wo.heap.size+1,2,none⟩) (by simp;omega)).trans p2
             have hzwb:wa.heap.size≤wb.heap.size:=hbb'.size
             refine HK.out _ _ (fun _=>⟨q0,q1,q2⟩) ?_
             clear HK K
             try simp only [Act.put,psA,psB,psC]
             refine tk 9 90 (bA 13 1023) _ rfl (by kernel_rfl) (by kernel_rfl) HP.out (by rfl) (fun w' hSw=>by (try dsimp only at hSw);go_simp;(try with_reducible rfl)) ⟨q0,q1,q2⟩ ?_
             simp only [psA,psB,psC]
             refine anyT_one (i:=10) (o:=⟨some 91,_,_,_,_,_⟩) (L':=(bA 13 2047)) rfl (by kernel_rfl) (by kernel_rfl) (fun K hK=>?_)
             have HK:=Lib.hid hK
             clear hK
             go_simp
             have r0:(wb.alloc (.cells #[.int .i64 tf,.slice AR of.length cr,.slice BR nl.length dr] 53)).cell? ⟨wo.heap.size,0,none⟩=_:=(cell_old (by omega)).trans q0
             have r1:(wb.alloc (.cells #[.int .i64 tf,.slice AR of.length cr,.slice BR nl.length dr] 53)).cell? ⟨wo.heap.size,1,none⟩=_:=(cell_old (by omega)).trans q1
             have r2:(wb.alloc (.cells #[.int .i64 tf,.slice AR of.length cr,.slice BR nl.length dr] 53)).cell? ⟨wo.heap.size+1,2,none⟩=_:=(cell_old (by omega)).trans q2
             refine HK.out _ _ (fun _=>⟨r0,r1,r2⟩) ?_
             clear HK K
             try simp only [Act.put,psA,psB,psC]
             refine anyT_one (i:=11) (o:=⟨some 92,_,_,_,_,_⟩) (L':=(bA 13 4095)) rfl (by kernel_rfl) (by kernel_rfl) (fun K hK=>?_)
             refine step_append_lies _ (by rfl) (.tmp 81) (.tmp 91) _ (by rfl) w4.heap.size 53 i0 _ 3 56 Try.underlying48 hi hz0 hz1 hz2 rfl (by decide) (.slice AO outs.length cO) outs.length valsO (by rfl) (by exact HOWN6.out wa hba' wb hbb' AR of.length cr BR nl.length dr) ⟨wb.heap.size,0,none⟩ 1 1 [.int .i64 tf,.slice AR of.length cr,.slice BR nl.length dr] (by rfl) (by rfl) (World.news_of_block (cs:=#[.int .i64 tf,.slice AR of.length cr,.slice BR nl.length dr]) (t:=53) (fr:=(0,0)) (heap_alloc_new wb _)) (by simp [Value.oneCell']) (by omega) (by unfold maxLen;omega) (by omega) (by simp;omega) (wb.heap.size+1) (by simp) ?_
             intro g7 c7 w7 hown7 hgr7 hat7 hlt7
             have m0:=(hgr7.cell_far ⟨wo.heap.size,0,none⟩ (by simp;omega) HNV1.out).trans r0
             have m1:=(hgr7.cell_far ⟨wo.heap.size,1,none⟩ (by simp;omega) HNV1.out).trans r1
             have m2:=(hgr7.cell_far ⟨wo.heap.size+1,2,none⟩ (by simp;omega) HNV2.out).trans r2
             have HO7:=Lib.hid hown7
             have HG7:=Lib.hid hgr7
             have HAT7:=Lib.hid hat7
             clear hown7 hgr7 hat7
             refine hK _ _ (fun _=>⟨m0,m1,m2⟩) ?_
             clear hK K
             try simp only [Act.put,psA,psB,psC]
             refine tk 12 12 (bA 13 8191) _ rfl (by kernel_rfl) (by kernel_rfl) HP.out (by rfl) (fun w' hSw=>by (try dsimp only at hSw);go_simp;(try with_reducible rfl)) ⟨m0,m1,m2⟩ ?_
             simp only [psA,psB,psC]
             refine anyU_done (by kernel_rfl) ?_
             rw [HQ.out]
             clear HQ HP Q'
             have HBB:=Lib.hid (show Below wr.heap.size wr wb from hba'.trans (hbb'.mono hba'.size))
             have HN1:=Lib.hid (new_row (n:=wr.heap.size) howna HVF.out.r1.ok (Nat.le_refl _))
             have HN2:=Lib.hid (new_row (n:=wr.heap.size) hownb HVL.out.r2.ok hzwa)
             have HFIN:=Lib.hid (outs_push (wb:=wb.alloc (.cells #[.int .i64 tf,.slice AR of.length cr,.slice BR nl.length dr] 53)) (t:=tf) HVO2.out HVOB.out (by omega) (HBB.out.alloc HBB.out.size _) ⟨HN1.out.1,(HN1.out.2.keep (fun b hb=>(Below.heap_alloc wb _ b (by have:=hb.2;omega)).trans (hbb'.block b hb.2))).more (fun b hb=>⟨hb.1,by have:=hb.2;simp;omega⟩)⟩ ⟨HN2.out.1,(HN2.out.2.keep (fun b hb=>Below.heap_alloc wb _ b hb.2)).more (fun b hb=>⟨hb.1,by have:=hb.2;simp;omega⟩)⟩ HG7.out (HAT7.out.imp id (fun h=>by rw [h];simp)) rfl HO7.out)
             have HBF:=Lib.hid (show Below w4.heap.size w4 w7 from (((HBO.out.trans (HBZ.out.mono HBO.out.size)).trans (HBB.out.mono (by omega))).alloc (Nat.le_trans (by omega) HBB.out.size) (.cells #[.int .i64 tf,.slice AR of.length cr,.slice BR nl.length dr] 53)).grown HG7.out (by have:=HBB.out.size;simp;omega) (fun k e=>(HVOB.out k e).1))
             clear hba' hbb' hba hbb howna hownb HO7 HG7 HAT7 HOWN6 HVO2 m0 m1 m2 r0 r1 r2 q0 q1 q2 p0 p1 p2 u0 u1 u2 HN1 HN2 HVF HVL HVFZ HVLZ
             go_wp2_with fail
             go_roundw
             case rel=>exact⟨j,outs++[⟨tf,of,nl⟩],some ⟨g7,0,none⟩,c7,by omega,rfl,by simp,by simp;omega,by simpa using HFIN.out,HN.out,HBF.out⟩
             case measure=>simp [intOf];omega
      · have HNE:=Lib.hid (show netGo s none srt=some outs by rw [HNET.out,List.drop_eq_nil_of_le (by omega),netGo];simp)
        have HF:=Lib.hid (show netF (schF pc s) s m l=(0,outs) by rw [HFIN2.out (some outs) HNE.out];rfl)
        go_wp2_with fail
        go_ret2
        rw [HF.out]
        obtain⟨h1,h2,h3⟩:=HOUT.out.slice (S':=New w wo) (by omega) (fun b hb1 hb2=>⟨by omega,hb2⟩)
        exact⟨AO,cO,rfl,h2,h3,HB4.out.trans (HBO.out.mono (by omega))⟩
 · have hd:(er != 0)=true:=by simpa using he
   have HF:=Lib.hid (show netF (schF pc s) s m l=(er,[]) by rw [netF_bad (by rw [HER.out];exact he),HER.out])
   clear he
   go_wp2_with fail
   go_ret2
   exact NetPost.err HF.out HB1.out
end Go.Proofs.Ytkpjjfhfbpfjpaa

