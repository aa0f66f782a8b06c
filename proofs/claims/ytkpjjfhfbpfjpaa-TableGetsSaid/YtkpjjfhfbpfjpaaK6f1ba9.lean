import Derived.Test.YtkpjjfhfbpfjpaaK5e7813
import Derived.Test.YtkpjjfhfbpfjpaaKd51e01
import Derived.Lib.SliceRun
import Derived.Test.YtkpjjfhfbpfjpaaK0b8b95
import Derived.Test.YtkpjjfhfbpfjpaaKb0474c
import Derived.Test.YtkpjjfhfbpfjpaaK660fb2
import Derived.Test.YtkpjjfhfbpfjpaaKf7d106
set_option linter.unusedVariables false
set_option linter.unusedSimpArgs false
set_option maxRecDepth 100000
namespace Go.Proofs.Ytkpjjfhfbpfjpaa
open Go.RowKit
theorem rowVals_snoc (r:Row) (v:V):rowVals (r++[v])=rowVals r++[.int .i64 v.k,.int .i64 v.i,.string v.t]:=by
 induction r with
 | nil=>rfl
 | cons a r ih=>simp [rowVals,ih]
theorem Fr.grown {w w':World} {g:Nat} (h:Fr (fun b=>b=g) w w'):w.grownBy w' (some g):=⟨h.os,h.tape,h.output,h.size,fun k hk hne=>h.block k hk (fun e=>hne (by rw [e]))⟩
theorem fr_of {w w':World} {g:Nat} (h:w.grownBy w' (some g)):Fr (fun b=>b=g) w w':=Fr.of_grown h (fun b _ e=>by injection e)
structure RowI (w wr:World) (g k:Nat) (r:Row) (A:Option Addr) (c:Nat):Prop where
 len:r.length=k
 own:wr.ownsRow w.heap.size 51 3 (.slice A k c) k (rowVals r)
 case:CaseOk wr g
 fr:Fr (fun b=>b=g) w wr
section
variable {w wr w2 w3:World} {g k c c':Nat} {r:Row} {A A':Option Addr} {v:V} {o:Obj}
theorem RowI.start (hc:CaseOk w g):RowI w w g 0 [] none 0:=⟨rfl,World.ownsRow_nil _ _ _ _,hc,Fr.refl _ _⟩
theorem RowI.ready (h:RowI w wr g k r A c) (hg:g<w.heap.size) (h2:wr.grownBy w2 (some g)) (o:Obj):(w2.alloc o).ownsRow w.heap.size 51 3 (.slice A k c) k (rowVals r)∧w.heap.size≤(w2.alloc o).heap.size:=by
 refine⟨(h.own.kept h2 (.inr fun e=>?_)).alloc o,by have:=h.fr.size;have:=h2.size;simp;omega⟩
 have:=own_base h.own e
 omega
theorem RowI.push (h:RowI w wr g k r A c) (hg:g<w.heap.size) (hc2:CaseOk w2 g) (h2:wr.grownBy w2 (some g))
  (hown:w3.ownsRow w.heap.size 51 3 (.slice A' (k+1) c') (k+1) (rowVals r++[.int .i64 v.k,.int .i64 v.i,.string v.t])) (hg3:(w2.alloc o).grownBy w3 (Value.slice A k c).ownBlock):RowI w w3 g (k+1) (r++[v]) A' c':=by
 have hb:=fun b (e:some b=(Value.slice A k c).ownBlock)=>own_base h.own e.symm
 have h0:=h.fr.size
 have h1:=h2.size
 refine⟨by simp [h.len],by rw [rowVals_snoc];exact hown,hc2.keep (fun b hb'=>?_),?_⟩
 · refine(hg3.block b (by simp;omega) (fun e=>?_)).trans (Below.heap_alloc w2 o b (by omega))
   have:=hb b e
   omega
 · refine(h.fr.trans (fr_of h2) (fun _ _ e=>e)).trans (Y:=fun b=>some b=(Value.slice A k c).ownBlock) ?_ (fun b hb' e=>by have:=hb b e;omega)
   exact⟨hg3.os,hg3.tape,hg3.output,by have:=hg3.size;simp at this;omega,fun b hb' hne=>(hg3.block b (by simp;omega) hne).trans (Below.heap_alloc w2 o b hb')⟩
end
def RowGen (key m:Int) (ks:List Int) (r:Row):Prop:=r.length=ks.length∧∀ i,i<ks.length→fitsV m key (kindOf (ks.getD i 0)) i (r.getD i v0)=true
def RowGenK (key m:Int) (ks:List Int) (k:Nat) (r:Row):Prop:=r.length=k∧∀ i,i<k→fitsV m key (kindOf (ks.getD i 0)) i (r.getD i v0)=true
theorem RowGenK.push {key m:Int} {ks:List Int} {k:Nat} {r:Row} {v:V} (h:RowGenK key m ks k r) (hv:fitsV m key (kindOf (ks.getD k 0)) k v=true):RowGenK key m ks (k+1) (r++[v]):=by
 refine⟨by simp [h.1],fun i hi=>?_⟩
 by_cases e:i<k
 · have:(r++[v]).getD i v0=r.getD i v0:=by simp [List.getD,List.getElem?_append_left (show i<r.length by rw [h.1];exact e)]
   rw [this];exact h.2 i e
 · have e':i=k:=by omega
   subst e'
   have:(r++[v]).getD i v0=v:=by simp [List.getD,←h.1]
   rw [this];exact hv
theorem fits_hidden {key m:Int} {kd:Int} {k:Nat} (h1:key≤k) (h2:m≠1):fitsV m key kd k ⟨2,0,⟨#[]⟩⟩=true:=by simp [fitsV,validV,h1,h2]
theorem fits_missing {key m:Int} {kd:Int} {k:Nat} (h1:key≤k) (h2:m=3):fitsV m key kd k ⟨1,0,⟨#[]⟩⟩=true:=by simp [fitsV,validV,h1,h2]
theorem fits_kind {key m kd:Int} {k:Nat} {v:V} (h:OfKind kd v):fitsV m key kd k v=true:=by simp [fitsV,h.1,h.2]
def RowPost (key m:Int) (ks:List Int) (w:World) (g:Nat) (e:Ending) (w':World):Prop :=
 ∃ r A c,e=.returned (.slice A r.length c)∧RowGen key m ks r∧w'.ownsRow w.heap.size 51 3 (.slice A r.length c) r.length (rowVals r)∧CaseOk w' g∧w.grownBy w' (some g)
set_option maxHeartbeats 4000000 in
theorem row_any (g:Nat) (K:Option Addr) (ck:Nat) (ks:List Int) (key m:Int) (S:Nat→Prop) (w:World) (hks:IntS w S K ks) (hS:∀ b,S b→b<w.heap.size∧b≠g) (hl:ks.length≤1000000) (hc:CaseOk w g) :
  Calls Try.prog 14 #[.pointer (some ⟨g,0,none⟩),.slice K ks.length ck,.int .i64 key,.int .i64 m] w (RowPost key m ks w g):=by
 obtain⟨i0,hi,hz0,hz1,hz2⟩:=info_parts infoV
 have hgl:=hc.lt
 have HKS:=Lib.hid hks
 have HI0:=Lib.hid (RowI.start hc)
 clear hks hc
 go_enter Try.func14,Try.ntmps14
 go_wp2_with fail
 go_loopw [9,14] (fun out i wr=>∃ (k:Nat) (r:Row) (A:Option Addr) (c:Nat),k≤ks.length∧i=.int .i64 k∧out=.slice A k c∧RowI w wr g k r A c∧RowGenK key m ks k r) (fun _ i _=>ks.length - (intOf i).toNat)
 case atStart=>exact⟨0,[],none,0,Nat.zero_le _,rfl,rfl,HI0.out,rfl,fun i hi=>by omega⟩
 case round =>
  obtain⟨k,r,A,c,hk,rfl,rfl,hri,hgen⟩:=hrel
  have HRI:=Lib.hid hri
  have HGEN:=Lib.hid hgen
  have hszr:=hri.fr.size
  clear hri hgen
  by_cases hlt:k<ks.length
  · obtain⟨b1,o1,rfl,hb1,d1⟩:=(HKS.out.keep (HRI.out.fr.same (fun b hb=>hS b hb))).at_ hlt
    have hb1l:b1<wr.heap.size:=by have:=(hS b1 hb1).1;omega
    have HC:=Lib.hid HRI.out.case
    generalize hkd:ks.getD k 0=kd at d1
    have HKD:=Lib.hid hkd
    clear hkd
    have FIN:∀ (v:V) (A':Option Addr) (c':Nat) (w3:World),RowI w w3 g (k+1) (r++[v]) A' c'→fitsV m key (kindOf kd) k v=true→∃ (k':Nat) (r':Row) (A'':Option Addr) (c'':Nat),k'≤ks.length∧Value.int .i64 ((k:Int)+1)=.int .i64 k'∧Value.slice A' (k+1) c'=.slice A'' k' c''∧RowI w w3 g k' r' A'' c''∧RowGenK key m ks k' r' :=
     fun v A' c' w3 h1 h2=>⟨k+1,r++[v],A',c',by omega,by go_num,rfl,h1,HGEN.out.push (by rw [HKD.out];exact h2)⟩
    have HFIN:=Lib.hid FIN
    clear FIN
    by_cases h1:key≤(k:Int)
    · by_cases h2:m=1
      · subst h2
        go_wp2_with fail
        have HCV:=HC
        have HGV:=Lib.hid (World.grownBy.refl wr (some g))
        refine(value_any g kd _ HCV.out).mono ?_
        rintro e wv ⟨⟨vk,vi,vt⟩,rfl,hv,hcv,hgv⟩
        have HV:=Lib.hid hv
        have HCW:=Lib.hid hcv
        have HGW:=Lib.hid (HGV.out.trans hgv)
        clear hv hcv hgv
        go_wp2_with (at_builtin;obtain⟨ho,hbs⟩:=HRI.out.ready (w2:=wv) hgl HGW.out (.cells #[.int .i64 vk,.int .i64 vi,.string vt] 51);refine wpList_append_slice _ rfl (.tmp 19) (.tmp 23) 27 rfl w.heap.size 51 i0 _ 3 32 Try.underlying27 hi hz0 hz1 hz2 rfl (by decide) (.slice A k c) k (rowVals r) rfl ho ⟨wv.heap.size,0,none⟩ 1 1 [.int .i64 vk,.int .i64 vi,.string vt] rfl rfl (World.news_of_block (heap_alloc_new wv (.cells #[.int .i64 vk,.int .i64 vi,.string vt] 51))) (by simp [Value.oneCell']) (by unfold maxLen;omega) (by omega) hbs ?_;intro A3 c3 w3 hown3 hg3;have HP:=Lib.hid (HRI.out.push (v:=⟨vk,vi,vt⟩) hgl HCW.out HGW.out hown3 hg3);clear ho hbs hown3 hg3)
        go_roundw
        case rel=>exact HFIN.out _ _ _ _ HP.out (fits_kind HV.out)
        case measure=>simp [intOf];omega
      · have h2':(m != 1)=true:=by simp [h2]
        have h2'':(m == 1)=false:=beq_eq_false_iff_ne.2 h2
        have H2:=Lib.hid h2
        by_cases h3:m=3
        · subst h3
          clear h2
          go_wp2_with fail
          refine(bool_any g 5 _ (by omega) (by omega) HC.out).mono ?_
          rintro e wb ⟨bb,rfl,hcb,hgb,hsb⟩
          have HCW:=Lib.hid hcb
          have HGW:=Lib.hid hgb
          clear hcb hgb hsb
          cases bb
          · go_wp2_with fail
            refine(bool_any g 5 _ (by omega) (by omega) HCW.out).mono ?_
            rintro e wb2 ⟨bb,rfl,hcb,hgb,hsb⟩
            have HCV:=Lib.hid hcb
            have HGV:=Lib.hid (HGW.out.trans hgb)
            clear hcb hgb hsb HCW HGW
            cases bb
            · go_wp2_with fail
              refine(value_any g kd _ HCV.out).mono ?_
              rintro e wv ⟨⟨vk,vi,vt⟩,rfl,hv,hcv,hgv⟩
              have HV:=Lib.hid hv
              have HCW:=Lib.hid hcv
              have HGW:=Lib.hid (HGV.out.trans hgv)
              clear hv hcv hgv
              go_wp2_with (at_builtin;obtain⟨ho,hbs⟩:=HRI.out.ready (w2:=wv) hgl HGW.out (.cells #[.int .i64 vk,.int .i64 vi,.string vt] 51);refine wpList_append_slice _ rfl (.tmp 19) (.tmp 23) 27 rfl w.heap.size 51 i0 _ 3 32 Try.underlying27 hi hz0 hz1 hz2 rfl (by decide) (.slice A k c) k (rowVals r) rfl ho ⟨wv.heap.size,0,none⟩ 1 1 [.int .i64 vk,.int .i64 vi,.string vt] rfl rfl (World.news_of_block (heap_alloc_new wv (.cells #[.int .i64 vk,.int .i64 vi,.string vt] 51))) (by simp [Value.oneCell']) (by unfold maxLen;omega) (by omega) hbs ?_;intro A3 c3 w3 hown3 hg3;have HP:=Lib.hid (HRI.out.push (v:=⟨vk,vi,vt⟩) hgl HCW.out HGW.out hown3 hg3);clear ho hbs hown3 hg3)
              go_roundw
              case rel=>exact HFIN.out _ _ _ _ HP.out (fits_kind HV.out)
              case measure=>simp [intOf];omega
            · have HCW:=HCV
              have HGW:=HGV
              go_wp2_with (at_builtin;obtain⟨ho,hbs⟩:=HRI.out.ready (w2:=wb2) hgl HGW.out (.cells #[.int .i64 1,.int .i64 0,.string ⟨#[]⟩] 51);refine wpList_append_slice _ rfl (.tmp 53) (.tmp 55) 27 rfl w.heap.size 51 i0 _ 3 32 Try.underlying27 hi hz0 hz1 hz2 rfl (by decide) (.slice A k c) k (rowVals r) rfl ho ⟨wb2.heap.size,0,none⟩ 1 1 [.int .i64 1,.int .i64 0,.string ⟨#[]⟩] rfl rfl (World.news_of_block (heap_alloc_new wb2 (.cells #[.int .i64 1,.int .i64 0,.string ⟨#[]⟩] 51))) (by simp [Value.oneCell']) (by unfold maxLen;omega) (by omega) hbs ?_;intro A3 c3 w3 hown3 hg3;have HP:=Lib.hid (HRI.out.push (v:=⟨1,0,⟨#[]⟩⟩) hgl HCW.out HGW.out hown3 hg3);clear ho hbs hown3 hg3)
              go_roundw
              case rel=>exact HFIN.out _ _ _ _ HP.out (fits_missing h1 rfl)
              case measure=>simp [intOf];omega
          · go_wp2_with (at_builtin;obtain⟨ho,hbs⟩:=HRI.out.ready (w2:=wb) hgl HGW.out (.cells #[.int .i64 2,.int .i64 0,.string ⟨#[]⟩] 51);refine wpList_append_slice _ rfl (.tmp 37) (.tmp 39) 27 rfl w.heap.size 51 i0 _ 3 32 Try.underlying27 hi hz0 hz1 hz2 rfl (by decide) (.slice A k c) k (rowVals r) rfl ho ⟨wb.heap.size,0,none⟩ 1 1 [.int .i64 2,.int .i64 0,.string ⟨#[]⟩] rfl rfl (World.news_of_block (heap_alloc_new wb (.cells #[.int .i64 2,.int .i64 0,.string ⟨#[]⟩] 51))) (by simp [Value.oneCell']) (by unfold maxLen;omega) (by omega) hbs ?_;intro A3 c3 w3 hown3 hg3;have HP:=Lib.hid (HRI.out.push (v:=⟨2,0,⟨#[]⟩⟩) hgl HCW.out HGW.out hown3 hg3);clear ho hbs hown3 hg3)
            go_roundw
            case rel=>exact HFIN.out _ _ _ _ HP.out (fits_hidden h1 H2.out)
            case measure=>simp [intOf];omega
        · have h3':(m == 3)=false:=beq_eq_false_iff_ne.2 h3
          clear h2 h3
          go_wp2_with fail
          refine(bool_any g 5 _ (by omega) (by omega) HC.out).mono ?_
          rintro e wb ⟨bb,rfl,hcb,hgb,hsb⟩
          have HCW:=Lib.hid hcb
          have HGW:=Lib.hid hgb
          clear hcb hgb hsb
          cases bb
          · go_wp2_with fail
            have HCV:=HCW
            have HGV:=HGW
            clear HCW HGW
            refine(value_any g kd _ HCV.out).mono ?_
            rintro e wv ⟨⟨vk,vi,vt⟩,rfl,hv,hcv,hgv⟩
            have HV:=Lib.hid hv
            have HCW:=Lib.hid hcv
            have HGW:=Lib.hid (HGV.out.trans hgv)
            clear hv hcv hgv
            go_wp2_with (at_builtin;obtain⟨ho,hbs⟩:=HRI.out.ready (w2:=wv) hgl HGW.out (.cells #[.int .i64 vk,.int .i64 vi,.string vt] 51);refine wpList_append_slice _ rfl (.tmp 19) (.tmp 23) 27 rfl w.heap.size 51 i0 _ 3 32 Try.underlying27 hi hz0 hz1 hz2 rfl (by decide) (.slice A k c) k (rowVals r) rfl ho ⟨wv.heap.size,0,none⟩ 1 1 [.int .i64 vk,.int .i64 vi,.string vt] rfl rfl (World.news_of_block (heap_alloc_new wv (.cells #[.int .i64 vk,.int .i64 vi,.string vt] 51))) (by simp [Value.oneCell']) (by unfold maxLen;omega) (by omega) hbs ?_;intro A3 c3 w3 hown3 hg3;have HP:=Lib.hid (HRI.out.push (v:=⟨vk,vi,vt⟩) hgl HCW.out HGW.out hown3 hg3);clear ho hbs hown3 hg3)
            go_roundw
            case rel=>exact HFIN.out _ _ _ _ HP.out (fits_kind HV.out)
            case measure=>simp [intOf];omega
          · go_wp2_with (at_builtin;obtain⟨ho,hbs⟩:=HRI.out.ready (w2:=wb) hgl HGW.out (.cells #[.int .i64 2,.int .i64 0,.string ⟨#[]⟩] 51);refine wpList_append_slice _ rfl (.tmp 37) (.tmp 39) 27 rfl w.heap.size 51 i0 _ 3 32 Try.underlying27 hi hz0 hz1 hz2 rfl (by decide) (.slice A k c) k (rowVals r) rfl ho ⟨wb.heap.size,0,none⟩ 1 1 [.int .i64 2,.int .i64 0,.string ⟨#[]⟩] rfl rfl (World.news_of_block (heap_alloc_new wb (.cells #[.int .i64 2,.int .i64 0,.string ⟨#[]⟩] 51))) (by simp [Value.oneCell']) (by unfold maxLen;omega) (by omega) hbs ?_;intro A3 c3 w3 hown3 hg3;have HP:=Lib.hid (HRI.out.push (v:=⟨2,0,⟨#[]⟩⟩) hgl HCW.out HGW.out hown3 hg3);clear ho hbs hown3 hg3)
            go_roundw
            case rel=>exact HFIN.out _ _ _ _ HP.out (fits_hidden h1 H2.out)
            case measure=>simp [intOf];omega
    · have hd:decide (key≤(k:Int))=false:=by simpa using h1
      have HCV:=HC
      have HGV:=Lib.hid (World.grownBy.refl wr (some g))
      go_wp2_with fail
      refine(value_any g kd _ HCV.out).mono ?_
      rintro e wv ⟨⟨vk,vi,vt⟩,rfl,hv,hcv,hgv⟩
      have HV:=Lib.hid hv
      have HCW:=Lib.hid hcv
      have HGW:=Lib.hid (HGV.out.trans hgv)
      clear hv hcv hgv
      go_wp2_with (at_builtin;obtain⟨ho,hbs⟩:=HRI.out.ready (w2:=wv) hgl HGW.out (.cells #[.int .i64 vk,.int .i64 vi,.string vt] 51);refine wpList_append_slice _ rfl (.tmp 19) (.tmp 23) 27 rfl w.heap.size 51 i0 _ 3 32 Try.underlying27 hi hz0 hz1 hz2 rfl (by decide) (.slice A k c) k (rowVals r) rfl ho ⟨wv.heap.size,0,none⟩ 1 1 [.int .i64 vk,.int .i64 vi,.string vt] rfl rfl (World.news_of_block (heap_alloc_new wv (.cells #[.int .i64 vk,.int .i64 vi,.string vt] 51))) (by simp [Value.oneCell']) (by unfold maxLen;omega) (by omega) hbs ?_;intro A3 c3 w3 hown3 hg3;have HP:=Lib.hid (HRI.out.push (v:=⟨vk,vi,vt⟩) hgl HCW.out HGW.out hown3 hg3);clear ho hbs hown3 hg3)
      go_roundw
      case rel=>exact HFIN.out _ _ _ _ HP.out (fits_kind HV.out)
      case measure=>simp [intOf];omega
  · go_wp2_with fail
    go_ret
    obtain rfl:k=ks.length:=by omega
    have hl:=HRI.out.len
    refine⟨r,A,c,by rw [hl];rfl,⟨HGEN.out.1,HGEN.out.2⟩,by rw [hl];exact HRI.out.own,HRI.out.case,HRI.out.fr.grown⟩
end Go.Proofs.Ytkpjjfhfbpfjpaa

namespace Go.Proofs.Ytkpjjfhfbpfjpaa
open Go.RowKit
theorem ownsRow_low {w:World} {base base' size n:Nat} {e:TypeId} {v:Value} {xs:List Value} (h:w.ownsRow base e size v n xs) (hb:base'≤base):w.ownsRow base' e size v n xs:=by
 refine⟨h.1,?_⟩
 rcases h.2 with h0 | ⟨g,cap,cur,h1,h2,h3⟩
 · exact .inl h0
 · exact .inr ⟨g,cap,cur,h1,by omega,h3⟩
theorem NewR.low {r:Row} {w wa:World} {e:Ending} {w':World} (h:NewR r wa e w') (hb:Below w.heap.size w wa):NewR r w e w':=by
 obtain⟨A,c,h1,h2,h3⟩:=h
 exact⟨A,c,h1,ownsRow_low h2 hb.size,hb.trans (h3.mono hb.size)⟩
set_option maxHeartbeats 1000000 in
theorem rkey_any (A0:Option Addr) (c0':Nat) (s:Sch) (t:Int) (A:Option Addr) (ca:Nat) (r:Row) (S:Nat→Prop) (w:World) (hs:TabS w S A0 s.tabs) (hr:RowS w S A r) (hca:r.length≤ca) (hS:∀ b,S b→b<w.heap.size) :
  Calls Try.prog 33 #[sAgg s.version A0 s.tabs.length c0',.int .i64 t,.slice A r.length ca] w (NewR (keyF s t r) w):=by
 have hsl:=hs.len
 have hrl:=hr.len
 have HS:=Lib.hid hs
 have HR:=Lib.hid hr
 clear hs hr
 have HB1:=Lib.hid ((Below.refl w.heap.size w).alloc (Nat.le_refl _) (.cells #[.int .i64 s.version,.slice A0 s.tabs.length c0'] 25))
 by_cases hh:hasN s.tabs.length t=true
 · have HKF:=Lib.hid (show keyF s t r=r.take (keyN (s.tabs.getD t.toNat t0).key r) by unfold keyF;rw [if_pos hh])
   have hh0:0≤t∧t<s.tabs.length:=by simpa [hasN] using hh
   clear hh
   obtain⟨tt,rfl⟩:=Int.eq_ofNat_of_zero_le hh0.1
   rw [Int.toNat_natCast] at HKF
   have htl:tt<s.tabs.length:=by omega
   obtain⟨b2,o2,rfl,hb2,A1,A2,A3,c1,c2,c3,hta⟩:=HS.out.at_ htl
   have k1:=hta.key
   have hl2:b2<w.heap.size:=hS b2 hb2
   clear hta
   generalize s.tabs.getD tt t0=tb at k1 HKF
   obtain⟨tn,tc,tk,tr,tp⟩:=tb
   simp only at k1 HKF
   have hd1:decide ((tt:Int)<0)=false:=by simp
   have hd2:decide (s.tabs.length≤tt)=false:=by simp;omega
   have HL:=Lib.hid (show keyN tk r≤r.length by unfold keyN;omega)
   have hCY:=rcopy_any A ca (r.take (keyN tk r)) S (w.alloc (.cells #[.int .i64 s.version,.slice (some ⟨b2,o2,none⟩) s.tabs.length c0'] 25)) ((HR.out.take (keyN tk r) (fun _=>rfl)).keep (fun b hb=>Below.heap_alloc _ _ _ (hS b hb)))
   rw [List.length_take,Nat.min_eq_left HL.out] at hCY
   have HCY:=Lib.hid hCY
   clear hCY
   go_enter Try.func33,Try.ntmps33
   go_wp2_with fail
   refine(show Calls _ _ _ _ _ from HCY.out).mono ?_
   intro e w1 hN
   have hN':=(show NewR (r.take (keyN tk r)) _ e w1 from hN).low HB1.out
   obtain⟨A4,c4,rfl,h4,hb4⟩:=hN'
   have H4:=Lib.hid h4
   have HB4:=Lib.hid hb4
   clear hN h4 hb4
   obtain⟨m4,hm4⟩:∃ m,(r.take (keyN tk r)).length=m:=⟨_,rfl⟩
   rw [hm4]
   have HM4:=Lib.hid hm4
   clear hm4
   go_wp2_with fail
   go_ret
   rw [HKF.out]
   exact⟨A4,c4,by rw [HM4.out];rfl,H4.out,HB4.out⟩
 · have HKF:=Lib.hid (show keyF s t r=[] by unfold keyF;rw [if_neg hh])
   have hh':t<0∨(s.tabs.length:Int)≤t:=by
    have:hasN s.tabs.length t=false:=by simpa using hh
    simp [hasN] at this
    omega
   clear hh
   by_cases h0:t<0
   · have hd1:decide (t<0)=true:=by simp [h0]
     go_enter Try.func33,Try.ntmps33
     go_wp2_with fail
     go_ret
     rw [HKF.out]
     exact⟨none,0,rfl,World.ownsRow_nil _ _ _ _,HB1.out⟩
   · have hd1:decide (t<0)=false:=by simpa using h0
     have hd2:decide ((s.tabs.length:Int)≤t)=true:=by simp;omega
     go_enter Try.func33,Try.ntmps33
     go_wp2_with fail
     go_ret
     rw [HKF.out]
     exact⟨none,0,rfl,World.ownsRow_nil _ _ _ _,HB1.out⟩
def keyKF (s:Sch) (t:Int):List Int:=(kindsF s t).take (max 0 (min (s.tabs.getD t.toNat t0).key (kindsF s t).length)).toNat
theorem IntS.take {w:World} {S:Nat→Prop} {A:Option Addr} {l:List Int} (h:IntS w S A l) (k:Nat):IntS w S A (l.take k):=by
 refine⟨?_,fun hn=>?_⟩
 · have:=h.1
   rw [bytesAll_map (n:=8) (fun _=>rfl)] at this ⊢
   simp only [List.length_take];omega
 · have hn':0<(l.take k).length:=by simpa using hn
   obtain⟨b,off,e,hb,hc⟩:=h.2 (by simp at hn' ⊢;omega)
   refine⟨b,off,e,hb,heldAll_of (n:=1) (fun d hd=>by obtain⟨a,_,rfl⟩:=List.mem_map.1 hd;rfl) (fun j hj=>?_)⟩
   have hj':j<(l.map encInt).length:=by simp at hj ⊢;omega
   have:=heldAll_at (n:=1) (fun d hd=>by obtain⟨a,_,rfl⟩:=List.mem_map.1 hd;rfl) hc j hj'
   simpa using this
end Go.Proofs.Ytkpjjfhfbpfjpaa

namespace Go.Proofs.Ytkpjjfhfbpfjpaa
open Go.RowKit
def inT (s:Sch) (st:St) (t:Int):Bool:=hasN s.tabs.length t&&hasN st.length t
def getS (s:Sch) (st:St) (t:Int) (key:Row):Option Row:=if inT s st t then findK s t key (st.getD t.toNat []) else none
def FindPost (l:List Row) (o:Option Row) (w:World) (e:Ending) (w':World):Prop:=Below w.heap.size w w'∧match o with
 | none=>e=.returned (.int .i64 (-1))
 | some r=>∃ i,i<l.length∧l.getD i []=r∧e=.returned (.int .i64 (i:Int))
set_option maxHeartbeats 2000000 in
theorem rfind_in (A0:Option Addr) (c0':Nat) (s:Sch) (A:Option Addr) (ca:Nat) (st:St) (t:Nat) (AK:Option Addr) (ck:Nat) (key:Row) (S:Nat→Prop) (w:World) (hs:TabS w S A0 s.tabs) (hst:StS w S A st) (hk:RowS w S AK key) (hS:∀ b,S b→b<w.heap.size) (ht1:t<s.tabs.length) (ht2:t<st.length) :
  Calls Try.prog 71 #[sAgg s.version A0 s.tabs.length c0',stAgg A st.length ca,.int .i64 t,.slice AK key.length ck] w (FindPost (st.getD t []) (findK s t key (st.getD t [])) w):=by
 have hsl:=hs.len
 have hstl:=hst.len
 have hkl:=hk.len
 have HS:=Lib.hid hs
 have HST:=Lib.hid hst
 have HK:=Lib.hid hk
 clear hs hst hk
 obtain⟨b1,o1,rfl,hb1,A',c',d1,d2,d3⟩:=HST.out.at_ ht2
 have hl1:b1<w.heap.size:=hS b1 hb1
 have HR:=Lib.hid d3
 have hrl:=d3.len
 clear d2 d3
 generalize st.getD t []=rows at d1 HR hrl
 have hd1:decide ((t:Int)<0)=false:=decide_eq_false (by omega)
 have hd2:decide (s.tabs.length≤t)=false:=decide_eq_false (by omega)
 have hd3:decide (st.length≤t)=false:=decide_eq_false (by omega)
 have HB0:=Lib.hid (((Below.refl w.heap.size w).alloc (Nat.le_refl _) (.cells #[.int .i64 s.version,.slice A0 s.tabs.length c0'] 25)).alloc (by simp) (.cells #[.slice (some ⟨b1,o1,none⟩) st.length ca] 56))
 go_enter Try.func71,Try.ntmps71
 go_wp2_with fail
 go_loopw [33] (fun i wr=>∃ k:Nat,k≤rows.length∧i=.int .i64 k∧findK s t key rows=findK s t key (rows.drop k)∧Below w.heap.size w wr∧wr.cell? ⟨w.heap.size,0,none⟩=some (.int .i64 s.version)∧wr.cell? ⟨w.heap.size,1,none⟩=some (.slice A0 s.tabs.length c0')∧w.heap.size<wr.heap.size) (fun i _=>rows.length - (intOf i).toNat)
 case atStart=>exact⟨0,Nat.zero_le _,rfl,by simp,HB0.out,(cell_old (by simp)).trans (cell_new rfl rfl),(cell_old (by simp)).trans (cell_new rfl rfl),by simp;omega⟩
 case round =>
  obtain⟨k,hk,rfl,hf,hbel,x0,x1,hw⟩:=hrel
  have HF:=Lib.hid hf
  have HB:=Lib.hid hbel
  clear hf hbel d1
  by_cases hkl':k<rows.length
  · obtain⟨b2,o2,rfl,hb2,A2,c2,f1,f2,f3⟩:=(HR.out.keep (Same.of_below HB.out hS)).at_ hkl'
    have hl2:b2<wr.heap.size:=by have:=hS b2 hb2;omega
    have HROW:=Lib.hid f3
    have HC:=Lib.hid f2
    have hrw:=f3.len
    have HSTEP:=Lib.hid (findK_drop s t key hkl')
    have HOK:=Lib.hid f3.ok
    obtain⟨row,hrow⟩:∃ row,rows.getD k []=row:=⟨_,rfl⟩
    have HROWE:=Lib.hid hrow
    clear f2 f3
    rw [hrow] at f1 HROW HC hrw HSTEP HOK
    clear hrow
    have hSr:∀ b,S b→b<wr.heap.size:=fun b hb=>by have:=hS b hb;omega
    go_wp2_with fail
    refine(rkey_any A0 c0' s t A2 c2 row S _ (HS.out.keep (Same.of_below HB.out hS)) HROW.out HC.out hSr).mono ?_
    rintro e w1 ⟨A3,c3,rfl,h3,hb3⟩
    have hokk:RowOk (keyF s t row):=((HROW.out.key s t (A':=A2) (fun _=>rfl))).ok
    have HKR:=Lib.hid ((rows_of_owns hokk h3).more (S':=fun b=>b<w1.heap.size) (fun b hb=>hb.2))
    have HB3:=Lib.hid (HB.out.trans (hb3.mono (by omega)))
    have y0:=(hb3.cell (p:=⟨w.heap.size,0,none⟩) hw).trans x0
    have y1:=(hb3.cell (p:=⟨w.heap.size,1,none⟩) hw).trans x1
    have hw3:w.heap.size<w1.heap.size:=by have:=hb3.size;omega
    have hs3:=hb3.size
    clear hb3 h3 x0 x1 hokk
    go_wp2_with fail
    refine(rcompareRows_any A3 AK c3 ck (keyF s t row) key (fun b=>b<w1.heap.size) _ HKR.out ((HK.out.keep (Same.of_below HB3.out hS)).more (fun b hb=>by have:=hS b hb;omega)) (fun b hb=>hb)).mono ?_
    rintro e w2 ⟨rfl,hb4⟩
    have HB4:=Lib.hid (HB3.out.trans (hb4.mono (by omega)))
    have z0:=(hb4.cell (p:=⟨w.heap.size,0,none⟩) hw3).trans y0
    have z1:=(hb4.cell (p:=⟨w.heap.size,1,none⟩) hw3).trans y1
    have hw4:w.heap.size<w2.heap.size:=by have:=hb4.size;omega
    clear hb4 y0 y1
    by_cases hc:cmpR (keyF s t row) key=0
    · have HFF:=Lib.hid (show findK s t key rows=some row by rw [HF.out,HSTEP.out,if_pos hc])
      rw [hc]
      clear hc HSTEP
      go_wp2_with fail
      go_ret
      rw [HFF.out]
      exact⟨HB4.out,k,hkl',HROWE.out,rfl⟩
    · have HFF:=Lib.hid (show findK s t key rows=findK s t key (rows.drop (k+1)) by rw [HF.out,HSTEP.out,if_neg hc])
      have hd:(cmpR (keyF s t row) key == 0)=false:=beq_eq_false_iff_ne.2 hc
      clear hc HSTEP
      generalize cmpR (keyF s t row) key=cv at hd
      go_wp2_with fail
      go_roundw
      case rel=>exact⟨k+1,by omega,by go_num,HFF.out,HB4.out,z0,z1,hw4⟩
      case measure=>simp [intOf];omega
  · have HFF:=Lib.hid (show findK s t key rows=none by rw [HF.out,List.drop_eq_nil_of_le (by omega)];rfl)
    go_wp2_with fail
    go_ret
    rw [HFF.out]
    exact⟨HB.out,rfl⟩
theorem not_in {s:Sch} {st:St} {t:Int} (h:inT s st t=false):t<0∨(s.tabs.length:Int)≤t∨(st.length:Int)≤t:=by
 unfold inT hasN at h
 by_cases h1:t<0
 · exact .inl h1
 · by_cases h2:(s.tabs.length:Int)≤t
   · exact .inr (.inl h2)
   · refine .inr (.inr ?_)
     have a1:decide (0≤t)=true:=decide_eq_true (by omega)
     have a2:decide (t<s.tabs.length)=true:=decide_eq_true (by omega)
     rw [a1,a2] at h
     simp at h
     exact h
theorem is_in {s:Sch} {st:St} {t:Int} (h:inT s st t=true):∃ k:Nat,t=k∧k<s.tabs.length∧k<st.length:=by
 unfold inT hasN at h
 simp only [Bool.and_eq_true,decide_eq_true_eq] at h
 obtain⟨k,hk⟩:=Int.eq_ofNat_of_zero_le h.1.1
 exact⟨k,hk,by omega,by omega⟩
set_option maxHeartbeats 2000000 in
theorem rfind_out (A0:Option Addr) (c0':Nat) (s:Sch) (A:Option Addr) (ca:Nat) (st:St) (t:Int) (AK:Option Addr) (ck:Nat) (key:Row) (w:World) (hsl:s.tabs.length≤17592186044416) (hstl:st.length≤5864062014805) (hin:inT s st t=false) :
  Calls Try.prog 71 #[sAgg s.version A0 s.tabs.length c0',stAgg A st.length ca,.int .i64 t,.slice AK key.length ck] w (FindPost [] none w):=by
 have HB0:=Lib.hid (((Below.refl w.heap.size w).alloc (Nat.le_refl _) (.cells #[.int .i64 s.version,.slice A0 s.tabs.length c0'] 25)).alloc (by simp) (.cells #[.slice A st.length ca] 56))
 have hor:=not_in hin
 clear hin
 by_cases h0:t<0
 · have hd1:decide (t<0)=true:=decide_eq_true h0
   clear hor
   go_enter Try.func71,Try.ntmps71
   go_wp2_with fail
   go_ret
   exact⟨HB0.out,rfl⟩
 · have hd1:decide (t<0)=false:=decide_eq_false h0
   by_cases h1:(s.tabs.length:Int)≤t
   · have hd2:decide ((s.tabs.length:Int)≤t)=true:=decide_eq_true h1
     clear hor
     go_enter Try.func71,Try.ntmps71
     go_wp2_with fail
     go_ret
     exact⟨HB0.out,rfl⟩
   · have hd2:decide ((s.tabs.length:Int)≤t)=false:=decide_eq_false h1
     have h3:(st.length:Int)≤t:=by omega
     have hd3:decide ((st.length:Int)≤t)=true:=decide_eq_true h3
     clear hor
     go_enter Try.func71,Try.ntmps71
     go_wp2_with fail
     go_ret
     exact⟨HB0.out,rfl⟩
def GetN (o:Option Row) (w:World) (e:Ending) (w':World):Prop:=∃ A c,e=.returned (.tuple #[.slice A (o.getD []).length c,.bool o.isSome])∧w'.ownsRow w.heap.size 51 3 (.slice A (o.getD []).length c) (o.getD []).length (rowVals (o.getD []))∧Below w.heap.size w w'
set_option maxHeartbeats 2000000 in
theorem rget_any (A0:Option Addr) (c0':Nat) (s:Sch) (A:Option Addr) (ca:Nat) (st:St) (t:Int) (AK:Option Addr) (ck:Nat) (key:Row) (S:Nat→Prop) (w:World) (hs:TabS w S A0 s.tabs) (hst:StS w S A st) (hk:RowS w S AK key) (hS:∀ b,S b→b<w.heap.size) :
  Calls Try.prog 35 #[sAgg s.version A0 s.tabs.length c0',stAgg A st.length ca,.int .i64 t,.slice AK key.length ck] w (GetN (getS s st t key) w):=by
 have hsl:=hs.len
 have hstl:=hst.len
 have HS:=Lib.hid hs
 have HST:=Lib.hid hst
 have HK:=Lib.hid hk
 clear hs hst hk
 have HB0:=Lib.hid (((Below.refl w.heap.size w).alloc (Nat.le_refl _) (.cells #[.int .i64 s.version,.slice A0 s.tabs.length c0'] 25)).alloc (by simp) (.cells #[.slice A st.length ca] 56))
 have HSM:=Lib.hid (Same.of_below HB0.out hS)
 by_cases hin:inT s st t=true
 · have HG:=Lib.hid (show getS s st t key=findK s t key (st.getD t.toNat []) by unfold getS;rw [if_pos hin])
   obtain⟨k,rfl,hk1,hk2⟩:=is_in hin
   rw [Int.toNat_natCast] at HG
   clear hin
   go_enter Try.func35,Try.ntmps35
   go_wp2_with fail
   refine(rfind_in A0 c0' s A ca st k AK ck key S _ (HS.out.keep HSM.out) (HST.out.keep HSM.out) (HK.out.keep HSM.out) (fun b hb=>by have:=hS b hb;simp;omega) hk1 hk2).mono ?_
   rintro e w1 ⟨hb1,hm⟩
   have HB1:=Lib.hid (HB0.out.trans (hb1.mono (by simp;omega)))
   have x0:w1.cell? ⟨w.heap.size+1,0,none⟩=some (.slice A st.length ca):=(hb1.cell (p:=⟨w.heap.size+1,0,none⟩) (by simp)).trans (cell_new (by simp) rfl)
   have hw1:w.heap.size+1<w1.heap.size:=by have:=hb1.size;simp at this;omega
   clear hb1
   cases ho:findK s k key (st.getD k []) with
   | none =>
    rw [ho] at hm HG
    obtain rfl:=hm
    clear ho
    go_wp2_with fail
    go_ret2
    rw [HG.out]
    exact⟨none,0,rfl,World.ownsRow_nil _ _ _ _,HB1.out⟩
   | some r =>
    rw [ho] at hm HG
    obtain⟨i,hi,hr,rfl⟩:=hm
    have HR:=Lib.hid hr
    clear ho hr
    obtain⟨b1,o1,rfl,hb1,A',c',d1,d2,d3⟩:=(HST.out.keep (Same.of_below HB1.out hS)).at_ hk2
    have hl1:b1<w.heap.size:=hS b1 hb1
    obtain⟨b2,o2,rfl,hb2,A2,c2,f1,f2,f3⟩:=d3.at_ hi
    have hl2:b2<w.heap.size:=hS b2 hb2
    have hrl:=d3.len
    rw [HR.out] at f1 f2 f3
    have HROW:=Lib.hid f3
    have HC:=Lib.hid f2
    clear d2 d3 f2 f3 HR
    generalize st.getD k []=rows at d1 hi hrl HG
    go_wp2_with fail
    refine(rcopy_any A2 c2 r S _ HROW.out).mono ?_
    rintro e w2 hN
    obtain⟨A3,c3,rfl,h3,hb3⟩:=NewR.low (w:=w) hN HB1.out
    have H3:=Lib.hid h3
    have HB3:=Lib.hid hb3
    clear hN h3 hb3
    go_wp2_with fail
    go_ret2
    rw [HG.out]
    exact⟨A3,c3,rfl,H3.out,HB3.out⟩
 · have hin':inT s st t=false:=by simpa using hin
   have HG:=Lib.hid (show getS s st t key=none by unfold getS;rw [if_neg hin])
   have HIN:=Lib.hid hin'
   clear hin hin'
   go_enter Try.func35,Try.ntmps35
   go_wp2_with fail
   refine(rfind_out A0 c0' s A ca st t AK ck key _ hsl hstl HIN.out).mono ?_
   rintro e w1 ⟨hb1,rfl⟩
   have HB1:=Lib.hid (HB0.out.trans (hb1.mono (by simp;omega)))
   clear hb1
   go_wp2_with fail
   go_ret2
   rw [HG.out]
   exact⟨none,0,rfl,World.ownsRow_nil _ _ _ _,HB1.out⟩
end Go.Proofs.Ytkpjjfhfbpfjpaa

namespace Go.Proofs.Ytkpjjfhfbpfjpaa
open Go.RowKit
def StC (w:World) (S:Nat→Prop) (gt:Nat) (st:St):Prop :=
 ∃ vs:List Value,(∃ rest:List Value,w.heap[gt]?=some (.cells (vs++rest).toArray 49 (0,0)))∧Dat.ValsAll w S (st.map encRows) vs∧∀ b,S b→b<w.heap.size∧b≠gt
section
variable {w w':World} {S S':Nat→Prop} {gt:Nat} {st:St}
theorem StC.keep (h:StC w S gt st) (hs:w.heap.size≤w'.heap.size) (hk:Same S w w') (hg:w'.heap[gt]?=w.heap[gt]?):StC w' S gt st:=by
 obtain⟨vs,⟨rest,h1⟩,h2,h3⟩:=h
 exact⟨vs,⟨rest,hg.trans h1⟩,Dat.ValsAll.keep hk _ _ h2,fun b hb=>⟨Nat.lt_of_lt_of_le (h3 b hb).1 hs,(h3 b hb).2⟩⟩
theorem StC.lt (h:StC w S gt st):gt<w.heap.size:=by
 obtain⟨vs,⟨rest,h1⟩,_⟩:=h
 exact lt_of_heap h1
theorem StC.mem (h:StC w S gt st):∀ b,S b→b<w.heap.size∧b≠gt:=by
 obtain⟨_,_,_,h3⟩:=h
 exact h3
theorem StC.below (h:StC w S gt st) (hb:Below w.heap.size w w'):StC w' S gt st :=
 h.keep hb.size (fun b hb'=>hb.block b (h.mem b hb').1) (hb.block gt h.lt)
theorem StC.fr {X:Nat→Prop} (h:StC w S gt st) (hf:Fr X w w') (hX:∀ b,X b→b<w.heap.size→¬ S b∧b≠gt):StC w' S gt st :=
 h.keep hf.size (fun b hb=>hf.block b (h.mem b hb).1 (fun hx=>(hX b hx (h.mem b hb).1).1 hb)) (hf.block gt h.lt (fun hx=>(hX gt hx h.lt).2 rfl))
theorem StC.more (h:StC w S gt st) (hS:∀ b,S b→S' b) (hS':∀ b,S' b→b<w.heap.size∧b≠gt):StC w S' gt st:=by
 obtain⟨vs,h1,h2,h3⟩:=h
 exact⟨vs,h1,Dat.ValsAll.more hS _ _ h2,hS'⟩
theorem StC.at_ (h:StC w S gt st) {k:Nat} (hk:k<st.length):w.frozen? ⟨gt,k,none⟩=false∧∃ A c,w.cell? ⟨gt,k,none⟩=some (.slice A (st.getD k []).length c)∧(st.getD k []).length≤c∧RowsS w S A (st.getD k []):=by
 obtain⟨vs,⟨rest,h1⟩,h2,h3⟩:=h
 obtain⟨A,c,h4,h5⟩:=vals_at h2 hk
 refine⟨by simp [World.frozen?,h1],A,c,?_,h5⟩
 have hl:k<vs.length:=(List.getElem?_eq_some_iff.1 h4).1
 simp only [World.cell?,h1]
 simpa [List.getElem?_append_left hl] using h4
theorem StC.slice (h:StC w S gt st) (hl:st.length≤5864062014805) (hS:∀ b,S b→S' b) (hg:S' gt):StS w S' (some ⟨gt,0,none⟩) st:=by
 obtain⟨vs,⟨rest,h1⟩,h2,h3⟩:=h
 refine Sl.of_vals (by rw [bytesAll_map (n:=24) (fun _=>rfl)];omega) (Dat.ValsAll.more hS _ _ h2) (fun h0=>⟨gt,0,rfl,hg,fun j u hu=>?_⟩)
 have hj:j<vs.length:=(List.getElem?_eq_some_iff.1 hu).1
 simp only [World.cell?,h1,Nat.zero_add]
 simpa [List.getElem?_append_left hj] using hu
theorem StC.put (h:StC w S gt st) {k:Nat} (hk:k<st.length) {A:Option Addr} {c:Nat} {r:List Row} (hc:r.length≤c) (hr:RowsS w S A r):StC (w.setCell ⟨gt,k,none⟩ (.slice A r.length c)) S gt (st.set k r):=by
 obtain⟨vs,⟨rest,h1⟩,h2,h3⟩:=h
 have hs:Same S w (w.setCell ⟨gt,k,none⟩ (.slice A r.length c)):=fun b hb=>Below.heap_setCell w ⟨gt,k,none⟩ _ b (h3 b hb).2
 have hl:k<vs.length:=by rw [valsAll_len h2];exact hk
 have h4:=setCell_block (k:=k) (v:=.slice A r.length c) h1
 rw [List.set_append,if_pos hl] at h4
 exact⟨_,⟨rest,h4⟩,Dat.ValsAll.keep hs _ _ (vals_set h2 hc hr),fun b hb=>⟨by simpa using (h3 b hb).1,(h3 b hb).2⟩⟩
theorem StC.made {n:Nat} (h:w.heap[gt]?=some (.cells (nilCells n).toArray 49 (0,0))):StC w (fun _=>False) gt (List.replicate n []):=by
 refine⟨nilCells n,⟨[],by simpa using h⟩,?_,fun _ h=>h.elim⟩
 clear h
 induction n with
 | zero=>simp only [List.replicate_zero,List.map_nil,nilCells];unfold Dat.ValsAll;rfl
 | succ n ih =>
  simp only [nilCells,List.replicate_succ,List.map_cons] at ih ⊢
  unfold Dat.ValsAll
  refine⟨[.slice none 0 0],_,rfl,?_,ih⟩
  unfold encRows Dat.Vals
  exact⟨none,0,rfl,by simp,Sl.nil_⟩
end
end Go.Proofs.Ytkpjjfhfbpfjpaa

namespace Go.Proofs.Ytkpjjfhfbpfjpaa
open Go.RowKit
theorem rput_drop (s:Sch) (t:Int) (key row:Row) (d:Bool) {l:List Row} {k:Nat} (h:k<l.length):rput s t key row d (l.drop k)=(if 0≤cmpR (keyF s t (l.getD k [])) key∧d=false then [row] else [])++((if cmpR (keyF s t (l.getD k [])) key≠0 then [l.getD k []] else [])++rput s t key row (d||decide (0≤cmpR (keyF s t (l.getD k [])) key)) (l.drop (k+1))):=by
 have e:l.getD k []=l[k]:=by simp [List.getD,h]
 rw [List.drop_eq_getElem_cons h,e,rput]
structure PutI (w wr:World) (S:Nat→Prop) (s:Sch) (A0:Option Addr) (c0' gt n ca k:Nat) (d:Bool) (P rest:List Row) (A:Option Addr) (m c:Nat) (L:List Row):Prop where
 mkl:Mk wr (w.heap.size+3) S 27 1 (.slice A m c) (L.map encRow)
 le:L.length≤k+d.toNat
 bel:Below w.heap.size w wr
 res:P=L++rest
 s0:wr.cell? ⟨w.heap.size,0,none⟩=some (.int .i64 s.version)
 s1:wr.cell? ⟨w.heap.size,1,none⟩=some (.slice A0 s.tabs.length c0')
 t0:wr.cell? ⟨w.heap.size+1,0,none⟩=some (.slice (some ⟨gt,0,none⟩) n ca)
 r0:wr.cell? ⟨w.heap.size+2,0,none⟩=some (.slice none 0 0)
 fz:wr.frozen? ⟨w.heap.size+2,0,none⟩=false
 sz:w.heap.size+3≤wr.heap.size
section
variable {w wa wb:World} {S:Nat→Prop} {s:Sch} {A0 A A':Option Addr} {c0' gt n ca k k' m m' c c':Nat} {d d':Bool} {P rest rest' L L':List Row}
theorem PutI.len (h:PutI w wa S s A0 c0' gt n ca k d P rest A m c L):m=L.length:=by have:=h.mkl.len;simpa using this
theorem PutI.step (h:PutI w wa S s A0 c0' gt n ca k d P rest A m c L) (hb:Below (w.heap.size+3) wa wb) (hm:Mk wb (w.heap.size+3) S 27 1 (.slice A' m' c') (L'.map encRow)) (hl:L'.length≤k'+d'.toNat) (hr:P=L'++rest'):PutI w wb S s A0 c0' gt n ca k' d' P rest' A' m' c' L' :=
 ⟨hm,hl,h.bel.trans (hb.mono (by omega)),hr,(hb.cell (p:=⟨w.heap.size,0,none⟩) (by show w.heap.size<_;omega)).trans h.s0,(hb.cell (p:=⟨w.heap.size,1,none⟩) (by show w.heap.size<_;omega)).trans h.s1,(hb.cell (p:=⟨w.heap.size+1,0,none⟩) (by show w.heap.size+1<_;omega)).trans h.t0,(hb.cell (p:=⟨w.heap.size+2,0,none⟩) (by show w.heap.size+2<_;omega)).trans h.r0,(hb.frozen (p:=⟨w.heap.size+2,0,none⟩) (by show w.heap.size+2<_;omega)).trans h.fz,Nat.le_trans h.sz hb.size⟩
theorem PutI.below (h:PutI w wa S s A0 c0' gt n ca k d P rest A m c L) (hb:Below wa.heap.size wa wb):PutI w wb S s A0 c0' gt n ca k d P rest A m c L:=h.step (hb.mono h.sz) (h.mkl.below hb) h.le h.res
end
def PutPost (S:Nat→Prop) (gt n ca:Nat) (st:St) (w:World) (e:Ending) (w':World):Prop:=e=.returned (stAgg (some ⟨gt,0,none⟩) n ca)∧StC w' (fun b=>S b∨New w w' b) gt st∧Fr (fun b=>b=gt) w w'
theorem put_fin {w wf:World} {S:Nat→Prop} {s:Sch} {A0 A:Option Addr} {c0' gt ca k m c:Nat} {d:Bool} {P L:List Row} {st:St} {t:Nat} (h:PutI w wf S s A0 c0' gt st.length ca k d P [] A m c L) (hst:StC w S gt st) (ht2:t<st.length) (hl:L.length≤5000000) (u v:Value) :
  StC ((wf.setCell ⟨gt,t,none⟩ (.slice A m c)).setCell ⟨w.heap.size+2,0,none⟩ v) (fun b=>S b∨New w ((wf.setCell ⟨gt,t,none⟩ (.slice A m c)).setCell ⟨w.heap.size+2,0,none⟩ v) b) gt (st.set t P)∧Fr (fun b=>b=gt) w ((wf.setCell ⟨gt,t,none⟩ (.slice A m c)).setCell ⟨w.heap.size+2,0,none⟩ v):=by
 have hgt:=hst.lt
 have hsz:=h.sz
 have hS:∀ b,S b→b<w.heap.size∧b≠gt:=fun b hb=>by obtain⟨_,_,_,h3⟩:=hst;exact h3 b hb
 obtain⟨hn,hc,hrs⟩:=h.mkl.slice (by rw [bytesAll_map (n:=24) (fun _=>rfl)];omega)
 have e:m=L.length:=h.len
 subst e
 have hP:P=L:=by have:=h.res;simpa using this
 subst hP
 have h1:StC wf (fun b=>S b∨(w.heap.size+3≤b∧b<wf.heap.size)) gt st:=(hst.below h.bel).more (fun b hb=>.inl hb) (fun b hb=>by
  rcases hb with hb | hb
  · have:=hS b hb;exact⟨by omega,this.2⟩
  · exact⟨hb.2,by have:=hb.1;omega⟩)
 have h2:=h1.put (k:=t) (by simpa using ht2) hc (show RowsS wf (fun b=>S b∨(w.heap.size+3≤b∧b<wf.heap.size)) A P from hrs)
 have h3:Fr (fun b=>b=gt) w (wf.setCell ⟨gt,t,none⟩ (.slice A P.length c)):=Fr.setCell (X:=fun b=>b=gt) (Fr.of_below h.bel) _ (fun _=>rfl)
 have h4:Fr (fun b=>b=gt) w ((wf.setCell ⟨gt,t,none⟩ (.slice A P.length c)).setCell ⟨w.heap.size+2,0,none⟩ v):=Fr.setCell (X:=fun b=>b=gt) (g:=w.heap.size+2) h3 v (fun hx=>absurd hx (by show ¬ w.heap.size+2<w.heap.size;omega))
 refine⟨(h2.keep (by simp) (fun b hb=>?_) (Below.heap_setCell _ ⟨w.heap.size+2,0,none⟩ _ gt (by show gt≠w.heap.size+2;omega))).more (fun b hb=>hb.imp id (fun hb=>⟨by omega,by have:=hb.2;simpa using this⟩)) (fun b hb=>?_),h4⟩
 · refine Below.heap_setCell _ ⟨w.heap.size+2,0,none⟩ _ b ?_
   rcases hb with hb | hb
   · have:=hS b hb;show b≠w.heap.size+2;omega
   · have:=hb.1;show b≠w.heap.size+2;omega
 · rcases hb with hb | hb
   · have:=hS b hb;simp;omega
   · have h5:=hb.2;simp at h5 ⊢;have:=hb.1;omega
set_option maxHeartbeats 4000000 in
theorem rput_any (A0:Option Addr) (c0':Nat) (s:Sch) (gt ca:Nat) (st:St) (t:Nat) (AK:Option Addr) (ck:Nat) (key:Row) (AR:Option Addr) (cr:Nat) (row0:Row) (S:Nat→Prop) (w:World) (hs:TabS w S A0 s.tabs) (hst:StC w S gt st) (hk:RowS w S AK key) (hr:RowS w S AR row0) (ht1:t<s.tabs.length) (ht2:t<st.length) (hll:(st.getD t []).length≤1000000) (hnl:st.length≤1000000) :
  Calls Try.prog 64 #[sAgg s.version A0 s.tabs.length c0',stAgg (some ⟨gt,0,none⟩) st.length ca,.int .i64 (t:Int),.slice AK key.length ck,.slice AR row0.length cr] w (PutPost S gt st.length ca (st.set t (putR s t key row0 (st.getD t []))) w):=by
 obtain⟨i0,hi,hz0,hz1,hz2⟩:=info_parts infoR
 have hS:∀ b,S b→b<w.heap.size:=fun b hb=>by obtain⟨_,_,_,h3⟩:=hst;exact(h3 b hb).1
 have hgt:=hst.lt
 have hgt1:gt<w.heap.size+1:=by omega
 have hgt2:gt<w.heap.size+1+1:=by omega
 have hsl:=hs.len
 have hkl:=hk.len
 have hrl0:=hr.len
 obtain⟨hfz0,A',c',d1,d2,d3⟩:=hst.at_ ht2
 have HS:=Lib.hid hs
 have HST:=Lib.hid hst
 have HK:=Lib.hid hk
 have HR0:=Lib.hid hr
 have HRS:=Lib.hid d3
 have HFZ:=Lib.hid hfz0
 clear hs hst hk hr d2 d3 hfz0
 obtain⟨rows,hrows⟩:∃ rows,st.getD t []=rows:=⟨_,rfl⟩
 rw [hrows] at d1 HRS hll ⊢
 clear hrows
 have HD1:=Lib.hid d1
 obtain⟨P,hP⟩:∃ P,putR s t key row0 rows=P:=⟨_,rfl⟩
 obtain⟨d0,hd0⟩:∃ d0:Bool,((row0.length:Int) == 0)=d0:=⟨_,rfl⟩
 have hp0:P=rput s t key row0 d0 rows:=by rw [←hP,←hd0,putR];congr 1;rw [Bool.eq_iff_iff];simp
 rw [hP]
 clear hP
 have HB0:=Lib.hid ((((Below.refl w.heap.size w).alloc (Nat.le_refl _) (.cells #[.int .i64 s.version,.slice A0 s.tabs.length c0'] 25)).alloc (by simp) (.cells #[.slice (some ⟨gt,0,none⟩) st.length ca] 56)).alloc (by simp;omega) (.cells #[.slice none 0 0] 56))
 have HI0:=Lib.hid (show PutI w (((w.alloc (.cells #[.int .i64 s.version,.slice A0 s.tabs.length c0'] 25)).alloc (.cells #[.slice (some ⟨gt,0,none⟩) st.length ca] 56)).alloc (.cells #[.slice none 0 0] 56)) S s A0 c0' gt st.length ca 0 d0 P (rput s t key row0 d0 (rows.drop 0)) none 0 0 [] from
  ⟨Mk.start (fun b hb=>by have:=hS b hb;omega) (by simp) _ _,by simp,HB0.out,hp0,(cell_old (by simp;omega)).trans ((cell_old (by simp)).trans (cell_new rfl rfl)),(cell_old (by simp;omega)).trans ((cell_old (by simp)).trans (cell_new rfl rfl)),(cell_old (by simp)).trans (cell_new (by simp) rfl),cell_new (by simp) rfl,frozen_new (by simp),by simp⟩)
 clear hp0
 go_enter Try.func64,Try.ntmps64
 go_wp2_with fail
 go_loopw [11,12,25] (fun out done i wr=>∃ (k:Nat) (d:Bool) (A:Option Addr) (m c:Nat) (L:List Row),k≤rows.length∧i=.int .i64 k∧done=.bool d∧out=.slice A m c∧PutI w wr S s A0 c0' gt st.length ca k d P (rput s t key row0 d (rows.drop k)) A m c L) (fun _ _ i _=>rows.length - (intOf i).toNat)
 case atStart=>exact⟨0,d0,none,0,0,[],Nat.zero_le _,rfl,rfl,rfl,HI0.out⟩
 case round =>
  obtain⟨k,d,A,m,c,L,hk,rfl,rfl,rfl,hpi⟩:=hrel
  have HPI:=Lib.hid hpi
  have s0:=hpi.s0
  have s1:=hpi.s1
  have t0':=hpi.t0
  have hsz:=hpi.sz
  have hml:=hpi.len
  have hle:=hpi.le
  have hdn:d.toNat≤1:=by cases d<;>simp
  have hm1:m≤k+1:=by omega
  have HML:=Lib.hid hml
  clear hpi hml hle d1 hd0
  by_cases hlt:k<rows.length
  · obtain⟨b2,o2,rfl,hb2,A2,c2,f1,f2,f3⟩:=(HRS.out.keep (Same.of_below HPI.out.bel hS)).at_ hlt
    have hl2:b2<wr.heap.size:=by have:=hS b2 hb2;omega
    have HSTEP:=Lib.hid (rput_drop s t key row0 d hlt)
    have HROW:=Lib.hid f3
    have HC:=Lib.hid f2
    have hrw:=f3.len
    obtain⟨row,hrow⟩:∃ row,rows.getD k []=row:=⟨_,rfl⟩
    clear f2 f3
    rw [hrow] at f1 HROW HC hrw HSTEP
    clear hrow
    have hSr:∀ b,S b→b<wr.heap.size:=fun b hb=>by have:=hS b hb;omega
    go_wp2_with fail
    refine(rkey_any A0 c0' s t A2 c2 row S _ (HS.out.keep (Same.of_below HPI.out.bel hS)) HROW.out HC.out hSr).mono ?_
    rintro e w1 ⟨A3,c3,rfl,h3,hb3⟩
    have hokk:RowOk (keyF s t row):=((HROW.out.key s t (A':=A2) (fun _=>rfl))).ok
    have HKR:=Lib.hid ((rows_of_owns hokk h3).more (S':=fun b=>b<w1.heap.size) (fun b hb=>hb.2))
    have HB3:=Lib.hid hb3
    have hz3:=hb3.size
    clear hb3 h3 hokk
    go_wp2_with fail
    refine(rcompareRows_any A3 AK c3 ck (keyF s t row) key (fun b=>b<w1.heap.size) _ HKR.out ((HK.out.keep (Same.of_below (HPI.out.bel.trans (HB3.out.mono (by omega))) hS)).more (fun b hb=>by have:=hS b hb;omega)) (fun b hb=>hb)).mono ?_
    rintro e w2 ⟨rfl,hb4⟩
    have HB4:=Lib.hid (HB3.out.trans (hb4.mono hz3))
    have HX:=Lib.hid (HPI.out.below HB4.out)
    have hz2':=HB4.out.size
    have ROWX:=Lib.hid (HROW.out.keep (Same.of_below HB4.out hSr))
    have R0X:=Lib.hid (HR0.out.keep (Same.of_below HX.out.bel hS))
    have MKX:=Lib.hid HX.out.mkl
    clear hb4 s0 s1 t0' f1
    obtain⟨cv,hcv⟩:∃ cv,cmpR (keyF s t row) key=cv:=⟨_,rfl⟩
    have hrng:=cmpR_is.rng (keyF s t row) key
    rw [hcv] at hrng HSTEP ⊢
    clear hcv
    rcases hrng with rfl | rfl | rfl
    · have HR:=Lib.hid (show P=(L++[row])++rput s t key row0 d (rows.drop (k+1)) by rw [HX.out.res,HSTEP.out];simp)
      go_wp2_with (at_builtin;refine wpList_append_mk rfl (.tmp 48) (.tmp 50) 49 rfl (w.heap.size+3) S 27 i0 _ 1 24 Try.underlying49 hi hz0 hz1 hz2 rfl (by decide) _ _ _ _ _ MKX.out rfl (encRow row) #[.slice A2 row.length c2] (vals_row HC.out (ROWX.out.more (fun b hb=>.inl hb))) (by simp [encRow,Dat.Plain]) rfl 1 rfl (by omega) (by omega) ?_;intro g5 cap5 w5 hm5 hb5 hlt5;have MK5:=Lib.hid hm5;have HB5:=Lib.hid hb5;have hz5:=hb5.size;clear hm5 hb5)
      go_roundw
      case rel=>exact⟨k+1,d,_,_,_,(L++[row]),by omega,by go_num,rfl,rfl,HX.out.step HB5.out (by rw [List.map_append];exact MK5.out) (by have:=HX.out.le;simp at this ⊢;omega) HR.out⟩
      case measure=>simp [intOf];omega
    · cases d
      · have HR:=Lib.hid (show P=(L++[row0])++rput s t key row0 true (rows.drop (k+1)) by rw [HX.out.res,HSTEP.out];simp)
        go_wp2_with fail
        refine(rcopy_any AR cr row0 S _ R0X.out).mono ?_
        rintro e w4 ⟨A4,c4,rfl,h4,hb4⟩
        have HBC:=Lib.hid hb4
        have MKX:=Lib.hid (HX.out.mkl.below hb4)
        have N4:=Lib.hid (new_row h4 R0X.out.ok (Nat.le_refl _))
        have hz4:=hb4.size
        clear h4 hb4
        go_wp2_with (at_builtin;refine wpList_append_mk rfl (.tmp 41) (.tmp 44) 49 rfl (w.heap.size+3) S 27 i0 _ 1 24 Try.underlying49 hi hz0 hz1 hz2 rfl (by decide) _ _ _ _ _ MKX.out rfl (encRow row0) #[.slice A4 row0.length c4] (vals_row N4.out.1 (N4.out.2.more (fun b hb=>.inr ⟨by have:=HX.out.sz;omega,hb.2,fun e=>by have:=(HX.out.mkl.base_le e.symm).2;omega⟩))) (by simp [encRow,Dat.Plain]) rfl 1 rfl (by omega) (by omega) ?_;intro g6 cap6 w6 hm6 hb6 hlt6;have MK6:=Lib.hid hm6;have HB6:=Lib.hid hb6;have hz6:=hb6.size;clear hm6 hb6)
        go_roundw
        case rel=>exact⟨k+1,true,_,_,_,(L++[row0]),by omega,by go_num,rfl,rfl,HX.out.step ((HBC.out.mono (by have:=HX.out.sz;omega)).trans HB6.out) (by rw [List.map_append];exact MK6.out) (by have:=HX.out.le;simp at this ⊢;omega) HR.out⟩
        case measure=>simp [intOf];omega
      · have HR:=Lib.hid (show P=L++rput s t key row0 true (rows.drop (k+1)) by rw [HX.out.res,HSTEP.out];simp)
        go_wp2_with fail
        go_roundw
        case rel=>exact⟨k+1,true,_,_,_,L,by omega,by go_num,rfl,rfl,HX.out.step (Below.refl _ _) HX.out.mkl (by have:=HX.out.le;simp at this ⊢;omega) HR.out⟩
        case measure=>simp [intOf];omega
    · cases d
      · have HR:=Lib.hid (show P=(L++[row0]++[row])++rput s t key row0 true (rows.drop (k+1)) by rw [HX.out.res,HSTEP.out];simp)
        go_wp2_with fail
        refine(rcopy_any AR cr row0 S _ R0X.out).mono ?_
        rintro e w4 ⟨A4,c4,rfl,h4,hb4⟩
        have HBC:=Lib.hid hb4
        have MKX:=Lib.hid (HX.out.mkl.below hb4)
        have N4:=Lib.hid (new_row h4 R0X.out.ok (Nat.le_refl _))
        have hz4:=hb4.size
        clear h4 hb4
        go_wp2_with (first | (at_builtin;refine wpList_append_mk rfl (.tmp 41) (.tmp 44) 49 rfl (w.heap.size+3) S 27 i0 _ 1 24 Try.underlying49 hi hz0 hz1 hz2 rfl (by decide) _ _ _ _ _ MKX.out rfl (encRow row0) #[.slice A4 row0.length c4] (vals_row N4.out.1 (N4.out.2.more (fun b hb=>.inr ⟨by have:=HX.out.sz;omega,hb.2,fun e=>by have:=(HX.out.mkl.base_le e.symm).2;omega⟩))) (by simp [encRow,Dat.Plain]) rfl 1 rfl (by omega) (by omega) ?_;intro g6 cap6 w6 hm6 hb6 hlt6;have MK6:=Lib.hid hm6;have HB6:=Lib.hid hb6;have hz6:=hb6.size;clear hm6 hb6;have ROWX:=Lib.hid (ROWX.out.keep (w':=w6) (Same.of_below (B:=w.heap.size+3) ((HBC.out.mono (by have:=HX.out.sz;omega)).trans HB6.out) (fun b hb=>by have:=hS b hb;omega)))) | (at_builtin;refine wpList_append_mk rfl (.tmp 48) (.tmp 50) 49 rfl (w.heap.size+3) S 27 i0 _ 1 24 Try.underlying49 hi hz0 hz1 hz2 rfl (by decide) _ _ _ _ _ MK6.out rfl (encRow row) #[.slice A2 row.length c2] (vals_row HC.out (ROWX.out.more (fun b hb=>.inl hb))) (by simp [encRow,Dat.Plain]) rfl 1 rfl (by omega) (by omega) ?_;intro g5 cap5 w5 hm5 hb5 hlt5;have MK5:=Lib.hid hm5;have HB5:=Lib.hid hb5;have hz5:=hb5.size;clear hm5 hb5))
        go_roundw
        case rel=>exact⟨k+1,true,_,_,_,(L++[row0]++[row]),by omega,by go_num,rfl,rfl,HX.out.step ((HBC.out.mono (by have:=HX.out.sz;omega)).trans (HB6.out.trans HB5.out)) (by rw [List.map_append,List.map_append];exact MK5.out) (by have:=HX.out.le;simp at this ⊢;omega) HR.out⟩
        case measure=>simp [intOf];omega
      · have HR:=Lib.hid (show P=(L++[row])++rput s t key row0 true (rows.drop (k+1)) by rw [HX.out.res,HSTEP.out];simp)
        go_wp2_with (at_builtin;refine wpList_append_mk rfl (.tmp 48) (.tmp 50) 49 rfl (w.heap.size+3) S 27 i0 _ 1 24 Try.underlying49 hi hz0 hz1 hz2 rfl (by decide) _ _ _ _ _ MKX.out rfl (encRow row) #[.slice A2 row.length c2] (vals_row HC.out (ROWX.out.more (fun b hb=>.inl hb))) (by simp [encRow,Dat.Plain]) rfl 1 rfl (by omega) (by omega) ?_;intro g5 cap5 w5 hm5 hb5 hlt5;have MK5:=Lib.hid hm5;have HB5:=Lib.hid hb5;have hz5:=hb5.size;clear hm5 hb5)
        go_roundw
        case rel=>exact⟨k+1,true,_,_,_,(L++[row]),by omega,by go_num,rfl,rfl,HX.out.step HB5.out (by rw [List.map_append];exact MK5.out) (by have:=HX.out.le;simp at this ⊢;omega) HR.out⟩
        case measure=>simp [intOf];omega
  · have hgc:=(HPI.out.bel.cell (p:=⟨gt,t,none⟩) hgt).trans HD1.out
    have hgf:=(HPI.out.bel.frozen (p:=⟨gt,t,none⟩) hgt).trans HFZ.out
    have hne1:w.heap.size+1≠gt:=by omega
    have hne2:w.heap.size+2≠gt:=by omega
    have hne3:w.heap.size+1+1≠gt:=by omega
    have r0':=HPI.out.r0
    have fz':=HPI.out.fz
    cases d
    · have HRES:=Lib.hid (show P=L++[row0] by rw [HPI.out.res,List.drop_eq_nil_of_le (by omega),rput];rfl)
      have HX:=HPI
      have R0X:=Lib.hid (HR0.out.keep (Same.of_below HX.out.bel hS))
      go_wp2_with fail
      refine(rcopy_any AR cr row0 S _ R0X.out).mono ?_
      rintro e w4 ⟨A4,c4,rfl,h4,hb4⟩
      have HBC:=Lib.hid hb4
      have MKX:=Lib.hid (HX.out.mkl.below hb4)
      have N4:=Lib.hid (new_row h4 R0X.out.ok (Nat.le_refl _))
      have hz4:=hb4.size
      clear h4 hb4
      go_wp2_with (at_builtin;refine wpList_append_mk rfl (.tmp 55) (.tmp 58) 49 rfl (w.heap.size+3) S 27 i0 _ 1 24 Try.underlying49 hi hz0 hz1 hz2 rfl (by decide) _ _ _ _ _ MKX.out rfl (encRow row0) #[.slice A4 row0.length c4] (vals_row N4.out.1 (N4.out.2.more (fun b hb=>.inr ⟨by have:=HX.out.sz;omega,hb.2,fun e=>by have:=(HX.out.mkl.base_le e.symm).2;omega⟩))) (by simp [encRow,Dat.Plain]) rfl 1 rfl (by omega) (by omega) ?_;intro g6 cap6 w6 hm6 hb6 hlt6;have MK6:=Lib.hid hm6;have HB6:=Lib.hid hb6;have hz6:=hb6.size;clear hm6 hb6;have HPF:=Lib.hid (show PutI w w6 S s A0 c0' gt st.length ca k true P [] (some ⟨g6,0,none⟩) (m+1) cap6 (L++[row0]) from HX.out.step ((HBC.out.mono (by have:=HX.out.sz;omega)).trans HB6.out) (by rw [List.map_append];exact MK6.out) (by have:=HX.out.le;simp at this ⊢;omega) (by rw [HRES.out];simp));have hgc:=(HPF.out.bel.cell (p:=⟨gt,t,none⟩) hgt).trans HD1.out;have hgf:=(HPF.out.bel.frozen (p:=⟨gt,t,none⟩) hgt).trans HFZ.out;have r6:=HPF.out.r0;have fz6:=HPF.out.fz;have t6:=HPF.out.t0;have hz6':=HPF.out.sz)
      have x0:(((w6).setCell ⟨gt,t,none⟩ (.slice (some ⟨g6,0,none⟩) (m+1) cap6)).setCell ⟨w.heap.size+2,0,none⟩ (.slice (some ⟨gt,0,none⟩) st.length ca)).cell? ⟨w.heap.size+2,0,none⟩=some (.slice (some ⟨gt,0,none⟩) st.length ca) :=
       World.cell?_setCell_same _ _ _ (u:=.slice none 0 0) (by rw [World.cell?_setCell_other _ _ _ _ (by simp)];exact HPF.out.r0)
      have HF:=put_fin (t:=t) HPF.out HST.out ht2 (by have:=HPF.out.len;omega) (.slice (some ⟨gt,0,none⟩) st.length ca) (.slice (some ⟨gt,0,none⟩) st.length ca)
      exact bodyPost_ret (v:=stAgg (some ⟨gt,0,none⟩) st.length ca) (by simp [results,Try.results64,go_sem,x0]) rfl ⟨rfl,HF⟩
    · have HRES:=Lib.hid (show PutI w wr S s A0 c0' gt st.length ca k true P [] A m c L from HPI.out.step (Below.refl _ _) HPI.out.mkl HPI.out.le (by rw [HPI.out.res,List.drop_eq_nil_of_le (by omega),rput];simp))
      go_wp2_with fail
      have x0:(((wr).setCell ⟨gt,t,none⟩ (.slice A m c)).setCell ⟨w.heap.size+2,0,none⟩ (.slice (some ⟨gt,0,none⟩) st.length ca)).cell? ⟨w.heap.size+2,0,none⟩=some (.slice (some ⟨gt,0,none⟩) st.length ca) :=
       World.cell?_setCell_same _ _ _ (u:=.slice none 0 0) (by rw [World.cell?_setCell_other _ _ _ _ (by simp)];exact HRES.out.r0)
      have HF:=put_fin (t:=t) HRES.out HST.out ht2 (by have:=HPI.out.len;omega) (.slice (some ⟨gt,0,none⟩) st.length ca) (.slice (some ⟨gt,0,none⟩) st.length ca)
      exact bodyPost_ret (v:=stAgg (some ⟨gt,0,none⟩) st.length ca) (by simp [results,Try.results64,go_sem,x0]) rfl ⟨rfl,HF⟩
end Go.Proofs.Ytkpjjfhfbpfjpaa

namespace Go.Proofs.Ytkpjjfhfbpfjpaa
open Go.RowKit
end Go.Proofs.Ytkpjjfhfbpfjpaa

namespace Go.Proofs.Ytkpjjfhfbpfjpaa
open Go.RowKit
instance:DecidableEq Chg:=fun a b=>decidable_of_iff (a.table=b.table∧a.old=b.old∧a.new=b.new) (by cases a;cases b;simp)
end Go.Proofs.Ytkpjjfhfbpfjpaa

namespace Go.Proofs.Ytkpjjfhfbpfjpaa
open Go.RowKit
theorem vals_rows {w:World} {S:Nat→Prop} {A:Option Addr} {c:Nat} {l:List Row} (h1:l.length≤c) (h2:RowsS w S A l):Dat.Vals w S (encRows l) [.slice A l.length c]:=by
 unfold encRows Dat.Vals
 exact⟨A,c,by simp,by simpa using h1,h2⟩
end Go.Proofs.Ytkpjjfhfbpfjpaa

namespace Go.Proofs.Ytkpjjfhfbpfjpaa
open Go.RowKit
end Go.Proofs.Ytkpjjfhfbpfjpaa

namespace Go.Proofs.Ytkpjjfhfbpfjpaa
theorem getD_lt {α:Type} {l:List α} {d:α} {k:Nat} (h:k<l.length):l.getD k d=l[k]:=by simp [List.getD,h]
def TabG (tb:Tab):Prop:=1≤tb.cols.length∧tb.cols.length≤4∧1≤tb.key∧tb.key≤tb.cols.length∧∀ c ∈ tb.cols,c.kind=3∨c.kind=4∨c.kind=5
theorem gen_tabs {id:Int} (hid:id=4∨id=5) (r1 r2 r3:List Rfr) (chk:List Pred):∀ tb ∈ genTabs id r1 r2 r3 chk,TabG tb:=by
 intro tb h
 simp only [genTabs,List.mem_cons,List.not_mem_nil,or_false] at h
 rcases h with rfl | rfl | rfl | rfl
 · refine⟨by decide,by decide,by decide,by decide,fun c hc=>?_⟩
   simp only [gCols1,List.mem_cons,List.not_mem_nil,or_false] at hc
   rcases hc with rfl | rfl<;>simp
 · refine⟨by simp [gCols2],by simp [gCols2],by simp,by simp [gCols2],fun c hc=>?_⟩
   simp only [gCols2,List.mem_cons,List.not_mem_nil,or_false] at hc
   rcases hc with rfl | rfl | rfl | rfl
   · rcases hid with h | h<;>simp [h]
   all_goals simp
 · refine⟨by simp [gCols3],by simp [gCols3],by simp,by simp [gCols3],fun c hc=>?_⟩
   simp only [gCols3,List.mem_cons,List.not_mem_nil,or_false] at hc
   rcases hc with rfl | rfl<;>simp
 · refine⟨by simp [gCols4],by simp [gCols4],by simp,by simp [gCols4],fun c hc=>?_⟩
   simp only [gCols4,List.mem_cons,List.not_mem_nil,or_false] at hc
   rcases hc with rfl
   rcases hid with h | h<;>simp [h]
theorem GenS.len {s:Sch} (h:GenS s):2≤s.tabs.length∧s.tabs.length≤4:=by
 obtain⟨n,v,id,b1,b2,b3,chk,rfl,h2,h4,_⟩:=h
 have:(genTabs id (rf0 b1 1 0) (rf0 b2 0 0) (rf0 b3 0 1) chk).length=4:=rfl
 show 2≤(List.take n _).length∧(List.take n _).length≤4
 rw [List.length_take];omega
theorem GenS.tab {s:Sch} (h:GenS s) {t:Nat} (ht:t<s.tabs.length):TabG (s.tabs.getD t t0):=by
 obtain⟨n,v,id,b1,b2,b3,chk,rfl,h2,h4,_,_,hid,_⟩:=h
 have e:(Sch.tabs ⟨v,(genTabs id (rf0 b1 1 0) (rf0 b2 0 0) (rf0 b3 0 1) chk).take n⟩).getD t t0=(List.take n (genTabs id (rf0 b1 1 0) (rf0 b2 0 0) (rf0 b3 0 1) chk))[t]'ht:=getD_lt ht
 rw [e]
 exact gen_tabs hid _ _ _ _ _ (List.mem_of_mem_take (List.getElem_mem ht))
theorem GenS.wide {s:Sch} (h:GenS s):∀ t,t<s.tabs.length→0<(s.tabs.getD t t0).cols.length:=fun t ht=>(h.tab ht).1
theorem GenS.kinds {s:Sch} (h:GenS s) {t:Nat} (ht:t<s.tabs.length):kindsF s t=(s.tabs.getD t t0).cols.map (·.kind)∧(kindsF s t).length≤4:=by
 have e:kindsF s t=(s.tabs.getD t t0).cols.map (·.kind):=by
  unfold kindsF hasN
  rw [if_pos (by simp;omega),Int.toNat_natCast]
 rw [e,List.length_map]
 exact⟨rfl,(h.tab ht).2.1⟩
theorem fitsFrom_of {m key:Int}:∀ {cs:List Col} {r:Row} {i:Nat},r.length=cs.length→(∀ j,j<cs.length→fitsV m key (cs.getD j c0).kind (i+j) (r.getD j v0)=true)→fitsFrom m key i cs r=true
 | [],r,i,_,_=>by cases r<;>simp [fitsFrom]
 | c :: cs,[],i,h,_=>by simp at h
 | c :: cs,v :: r,i,h,hf=>by
  have h0:=hf 0 (by simp)
  have ih:=fitsFrom_of (m:=m) (key:=key) (cs:=cs) (r:=r) (i:=i+1) (by simpa using h) (fun j hj=>by
   have:=hf (j+1) (by simpa using hj)
   rw [show i+(j+1)=i+1+j by omega] at this
   simpa using this)
  simp only [fitsFrom,Bool.and_eq_true]
  exact⟨by simpa using h0,ih⟩
theorem rowGen_fits {s:Sch} {m:Int} (h:GenS s) (hm:modeOk m=true) {t:Nat} (ht:t<s.tabs.length) {r:Row} (hr:RowGen (s.tabs.getD t t0).key m (kindsF s t) r):fitsF s t r m=true:=by
 obtain⟨h1,h2⟩:=hr
 obtain⟨h3,_⟩:=h.kinds ht
 have hk:=(h.tab ht).2.2.2.2
 rw [h3] at h1 h2
 rw [List.length_map] at h1 h2
 unfold fitsF hasN
 rw [Int.toNat_natCast]
 simp only [Bool.and_eq_true,decide_eq_true_eq]
 refine⟨⟨⟨hm,by omega,by omega⟩,h1⟩,fitsFrom_of h1 (fun j hj=>?_)⟩
 have h4:=h2 j hj
 have e1:((s.tabs.getD t t0).cols.map (·.kind)).getD j 0=((s.tabs.getD t t0).cols.getD j c0).kind:=by rw [getD_lt hj,getD_lt (by simpa using hj),List.getElem_map]
 have e2:kindOf ((s.tabs.getD t t0).cols.getD j c0).kind=((s.tabs.getD t t0).cols.getD j c0).kind:=by
  have hmem:(s.tabs.getD t t0).cols.getD j c0 ∈ (s.tabs.getD t t0).cols:=by
   rw [getD_lt hj];exact List.getElem_mem hj
  rcases hk _ hmem with e | e | e<;>rw [e]<;>rfl
 rw [e1,e2] at h4
 rw [Nat.zero_add]
 exact h4
theorem put_ok {s:Sch} {m:Int} {st:St} (h:StOk s m st) {t:Nat} (ht:t<st.length) {key row:Row} (hk:0<row.length→keyF s t row=key) (hf:0<row.length→fitsF s t row m=true):StOk s m (st.set t (putR s t key row (st.getD t [])))∧putR s t key row (st.getD t [])=putL s t key row (st.getD t []):=by
 have hr:=h.2 t ht
 have e:=putR_eq hr.2 key row
 rw [e]
 exact⟨h.set (rowsOk_put hr hk hf),rfl⟩
theorem putL_len (s:Sch) (t:Int) (row:Row) (l:List Row):(putL s t (keyF s t row) row l).length≤l.length+1:=by
 have:=put_len s ⟨t,[],row⟩ l
 have e:putC s ⟨t,[],row⟩ l=putL s t (keyF s t row) row l:=by rw [putC_eq];simp [keyC]
 rwa [e] at this
theorem stOk_nil {s:Sch} {m:Int} (n:Nat) (h:n=s.tabs.length):StOk s m (List.replicate n []):=by
 refine⟨by simpa using h,fun t ht=>?_⟩
 have e:(List.replicate n ([]:List Row)).getD t []=[]:=by
  have:t<n:=by simpa using ht
  simp [List.getD,this]
 rw [e]
 exact⟨fun r hr=>by simp at hr,fun i j _ hj=>by simp at hj⟩
end Go.Proofs.Ytkpjjfhfbpfjpaa

