import Derived.Test.YtkpjjfhfbpfjpaaK0b8b95
import Derived.Test.YtkpjjfhfbpfjpaaK6f1ba9
import Derived.Test.YtkpjjfhfbpfjpaaKb0474c
import Derived.Deep.Cut
import Derived.Deep.CutRange
import Derived.Deep.DeepCutAuto
set_option linter.unusedVariables false
set_option linter.unusedSimpArgs false
set_option maxRecDepth 100000
namespace Go.Proofs.Ytkpjjfhfbpfjpaa
open Go.RowKit
def Inside (s:Sch) (a b:St):Prop:=∀ t,t<a.length→∀ k,k<(a.getD t []).length→t<s.tabs.length∧t<b.length∧findK s t (keyF s t ((a.getD t []).getD k [])) (b.getD t [])=some ((a.getD t []).getD k [])
set_option maxHeartbeats 4000000 in
theorem within_true (A0:Option Addr) (c0':Nat) (s:Sch) (A:Option Addr) (ca:Nat) (a:St) (B:Option Addr) (cb:Nat) (b:St) (S:Nat→Prop) (w:World) (hs:TabS w S A0 s.tabs) (ha:StS w S A a) (hb:StS w S B b) (hS:∀ b,S b→b<w.heap.size) (hin:Inside s a b) :
  Calls Try.prog 63 #[sAgg s.version A0 s.tabs.length c0',stAgg A a.length ca,stAgg B b.length cb] w (BoolBel true w):=by
 have hsl:=hs.len
 have hal:=ha.len
 have hbl:=hb.len
 have HS:=Lib.hid hs
 have HA:=Lib.hid ha
 have HBB:=Lib.hid hb
 have HIN:=Lib.hid hin
 clear hs ha hb hin
 have HB0:=Lib.hid ((((Below.refl w.heap.size w).alloc (Nat.le_refl _) (.cells #[.int .i64 s.version,.slice A0 s.tabs.length c0'] 25)).alloc (by simp) (.cells #[.slice A a.length ca] 56)).alloc (by simp;omega) (.cells #[.slice B b.length cb] 56))
 go_enter Try.func63,Try.ntmps63
 go_wp2_with fail
 go_loopw [18] (fun i wr=>∃ t:Nat,t≤a.length∧i=.int .i64 t∧Below w.heap.size w wr∧wr.cell? ⟨w.heap.size,0,none⟩=some (.int .i64 s.version)∧wr.cell? ⟨w.heap.size,1,none⟩=some (.slice A0 s.tabs.length c0')∧wr.cell? ⟨w.heap.size+1+1,0,none⟩=some (.slice B b.length cb)∧w.heap.size+1+1<wr.heap.size) (fun i _=>a.length - (intOf i).toNat)
 case atStart=>exact⟨0,Nat.zero_le _,rfl,HB0.out,(cell_old (by simp;omega)).trans ((cell_old (by simp)).trans (cell_new rfl rfl)),(cell_old (by simp;omega)).trans ((cell_old (by simp)).trans (cell_new rfl rfl)),cell_new (by simp) rfl,by simp⟩
 case round =>
  obtain⟨t,ht,rfl,hbel,x0,x1,x2,hw⟩:=hrel
  have HB:=Lib.hid hbel
  clear hbel
  by_cases htl:t<a.length
  · obtain⟨b1,o1,rfl,hb1,A',c',d1,d2,d3⟩:=(HA.out.keep (Same.of_below HB.out hS)).at_ htl
    have hl1:b1<wr.heap.size:=by have:=hS b1 hb1;omega
    have HR:=Lib.hid (d3.keep (w':=w) (fun b hb=>(HB.out.block b (hS b hb)).symm))
    have hrl:=d3.len
    have HINT:=Lib.hid (HIN.out t htl)
    clear d2 d3
    generalize a.getD t []=rows at d1 HR hrl HINT
    have hw0:w.heap.size<wr.heap.size:=by omega
    have hd:∀ (h0:0<rows.length),t<s.tabs.length:=fun h0=>(HINT.out 0 h0).1
    have HD:=Lib.hid hd
    clear hd
    obtain⟨wo,rfl⟩:∃ wo:World,wo=wr:=⟨_,rfl⟩
    rcases Nat.eq_zero_or_pos rows.length with h0 | h0
    · have hr0:rows=[]:=List.length_eq_zero_iff.1 h0
      subst hr0
      go_wp2_with fail
      clear d1
      go_loopw [35] (fun i wr=>i=.int .i64 0∧wr=wo) (fun _ _=>0)
      case atStart=>exact⟨rfl,rfl⟩
      case round =>
       obtain⟨rfl,rfl⟩:=hrel
       go_wp2_with fail
       go_roundw
       case rel=>exact⟨t+1,by omega,by go_num,HB.out,x0,x1,x2,hw⟩
       case measure=>simp [intOf];omega
    · have hts:=HD.out h0
      have hdr:decide (0<rows.length)=true:=decide_eq_true h0
      have hdt:decide (s.tabs.length≤t)=false:=decide_eq_false (by omega)
      go_wp2_with fail
      clear d1
      go_loopw [35] (fun i wr=>∃ k:Nat,k≤rows.length∧i=.int .i64 k∧Below w.heap.size w wr∧wr.cell? ⟨w.heap.size,0,none⟩=some (.int .i64 s.version)∧wr.cell? ⟨w.heap.size,1,none⟩=some (.slice A0 s.tabs.length c0')∧wr.cell? ⟨w.heap.size+1+1,0,none⟩=some (.slice B b.length cb)∧w.heap.size+1+1<wr.heap.size) (fun i _=>rows.length - (intOf i).toNat)
      case atStart=>exact⟨0,Nat.zero_le _,rfl,HB.out,x0,x1,x2,hw⟩
      case round =>
       clear HB x0 x1 x2 hw hl1 hw0
       obtain⟨k,hk,rfl,hbel,x0,x1,x2,hw⟩:=hrel
       have HB:=Lib.hid hbel
       clear hbel
       by_cases hkl:k<rows.length
       · obtain⟨b2,o2,rfl,hb2,A2,c2,f1,f2,f3⟩:=(HR.out.keep (Same.of_below HB.out hS)).at_ hkl
         have hl2:b2<wr.heap.size:=by have:=hS b2 hb2;omega
         have HROW:=Lib.hid f3
         have HC:=Lib.hid f2
         have hrw:=f3.len
         obtain⟨_,htb,hfnd⟩:=HINT.out k hkl
         have HFND:=Lib.hid hfnd
         clear f2 f3 hfnd
         generalize rows.getD k []=row at f1 HROW HC hrw HFND
         have hSr:∀ b,S b→b<wr.heap.size:=fun b hb=>by have:=hS b hb;omega
         have HSr:=Lib.hid (HS.out.keep (Same.of_below HB.out hS))
         have HBr:=Lib.hid (HBB.out.keep (Same.of_below HB.out hS))
         have hw0:w.heap.size<wr.heap.size:=by omega
         go_wp2_with fail
         go_region_held3 (fun w'=>Below wr.heap.size wr w'∧w'.cell? ⟨w.heap.size,0,none⟩=some (.int .i64 s.version)∧w'.cell? ⟨w.heap.size,1,none⟩=some (.slice A0 s.tabs.length c0')∧w'.cell? ⟨w.heap.size+1+1,0,none⟩=some (.slice B b.length cb))
          (first | exact⟨(Below.refl _ _).drew,x0,x1,x2⟩ | exact⟨hv2,(hv2.cell (p:=⟨w.heap.size,0,none⟩) hw0).trans x0,(hv2.cell (p:=⟨w.heap.size,1,none⟩) hw0).trans x1,(hv2.cell (p:=⟨w.heap.size+1+1,0,none⟩) hw).trans x2⟩ | exact⟨hv1,(hv1.cell (p:=⟨w.heap.size,0,none⟩) hw0).trans x0,(hv1.cell (p:=⟨w.heap.size,1,none⟩) hw0).trans x1,(hv1.cell (p:=⟨w.heap.size+1+1,0,none⟩) hw).trans x2⟩)
          (first
           | (go_at_call 61;refine(prefix_any A0 c0' s t A2 c2 row S wr.drew (HSr.out.keep (fun _ _=>rfl)) (HROW.out.keep (fun _ _=>rfl)) HC.out hSr).mono ?_;rintro e w5 ⟨A7,c7,rfl,h7,hv1'⟩;have hv1:Below wr.heap.size wr w5:=(Below.refl _ wr).drew.trans hv1')
           | (go_at_call 70;refine(get_in A0 c0' s B cb b t A7 c7 (keyF s t row) S _ (HSr.out.keep (Same.of_below hv1 hSr)) (HBr.out.keep (Same.of_below hv1 hSr)) ((HROW.out.keep (Same.of_below hv1 hSr)).key s t h7) (fun b hb=>Nat.lt_of_lt_of_le (hSr b hb) hv1.size) hts htb).mono ?_;rw [HFND.out];rintro e w6 ⟨hv2',A8,c8,rfl,h8,hR8⟩;have hv2:Below wr.heap.size wr w6:=hv1.trans (hv2'.mono hv1.size)))
         have HB6:=Lib.hid (HB.out.trans (hv2.mono (by omega)))
         have y0:=(hv2.cell (p:=⟨w.heap.size,0,none⟩) hw0).trans x0
         have y1:=(hv2.cell (p:=⟨w.heap.size,1,none⟩) hw0).trans x1
         have y2:=(hv2.cell (p:=⟨w.heap.size+1+1,0,none⟩) hw).trans x2
         have hw6:w.heap.size+1+1<w6.heap.size:=by have:=hv2.size;omega
         have HRW6:=Lib.hid (HROW.out.keep (Same.of_below hv2 hSr))
         have HOT6:=Lib.hid hR8
         have hS6:∀ b,S b→b<w6.heap.size:=fun b hb=>by have:=hS b hb;omega
         clear hv1 hv2 hv1' hv2' h7 h8 hR8 x0 x1 x2 f1
         go_wp2_with fail
         go_loopw [61] (fun i wq=>∃ j:Nat,j≤row.length∧i=.int .i64 j∧Below w6.heap.size w6 wq) (fun i _=>row.length - (intOf i).toNat)
         case atStart=>exact⟨0,Nat.zero_le _,rfl,Below.refl _ _⟩
         case round =>
          obtain⟨j,hj,rfl,hbq⟩:=hrel
          have HBQ:=Lib.hid hbq
          have hsq:=hbq.size
          clear hbq
          by_cases hjl:j<row.length
          · obtain⟨b3,o3,e3,hb3,g0,g1,g2⟩:=(HRW6.out.keep (Same.of_below HBQ.out hS6)).at_ hjl
            obtain⟨b4,o4,e4,hb4,k0,k1,k2⟩:=(HOT6.out.keep (Same.of_below HBQ.out hS6)).at_ hjl
            subst e3 e4
            have hl3:b3<wr.heap.size:=by have:=hS6 b3 hb3;omega
            have hl4:b4<wr.heap.size:=by have:=hS6 b4 hb4;omega
            generalize row.getD j v0=v at g0 g1 g2 k0 k1 k2
            obtain⟨vk,vi,vt⟩:=v
            simp only at g0 g1 g2 k0 k1 k2
            have q2:(0:Int)≤j:=by omega
            have q3:(j:Int)<row.length:=by omega
            have HBA:=Lib.hid (HBQ.out.alloc (by omega) (.cells #[.int .i64 vk,.int .i64 vi,.string vt] 51))
            by_cases hm:vk=1
            · subst hm
              go_wp2_with fail
              go_quiet (fail)
              go_wp2_with fail
              go_roundw
              case rel=>exact⟨j+1,by omega,by go_num,below_drewN HBA.out _⟩
              case measure=>simp [intOf];omega
            · have hdm:(vk != 1)=true:=by simpa using hm
              go_wp2_with fail
              go_quiet (fail)
              go_wp2_with fail
              go_roundw
              case rel=>exact⟨j+1,by omega,by go_num,below_drewN HBA.out _⟩
              case measure=>simp [intOf];omega
          · go_wp2_with fail
            go_roundw
            case rel =>
             have hb9:Below w6.heap.size w6 wr:=HBQ.out
             exact⟨k+1,by omega,by go_num,HB6.out.trans (hb9.mono (by omega)),(hb9.cell (p:=⟨w.heap.size,0,none⟩) (by simp;omega)).trans y0,(hb9.cell (p:=⟨w.heap.size,1,none⟩) (by simp;omega)).trans y1,(hb9.cell (p:=⟨w.heap.size+1+1,0,none⟩) (by simp;omega)).trans y2,by omega⟩
            case measure=>simp [intOf];omega
       · go_wp2_with fail
         go_roundw
         case rel=>exact⟨t+1,by omega,by go_num,HB.out,x0,x1,x2,hw⟩
         case measure=>simp [intOf];omega
  · go_wp2_with fail
    go_ret
    exact⟨rfl,HB.out⟩
end Go.Proofs.Ytkpjjfhfbpfjpaa

namespace Go.Proofs.Ytkpjjfhfbpfjpaa
open Go.RowKit
theorem allocs_at:∀ (os:List Obj) (w:World) (k:Nat),k<os.length→(os.foldl World.alloc w).heap[w.heap.size+k]?=os[k]?
 | [],_,k,h=>by simp at h
 | o :: os,w,0,_=>by
  have h2:∀ (os:List Obj) (w:World) (b:Nat),b<w.heap.size→(os.foldl World.alloc w).heap[b]?=w.heap[b]?:=by
   intro os
   induction os with
   | nil=>intro w b hb;rfl
   | cons o os ih=>intro w b hb;rw [List.foldl_cons,ih _ _ (by simp;omega)];exact Below.heap_alloc w o b hb
  rw [List.foldl_cons,h2 os _ _ (by simp)]
  exact heap_alloc_new w o
 | o :: os,w,k+1,h=>by
  have:=allocs_at os (w.alloc o) k (by simpa using h)
  rw [World.size_alloc,show w.heap.size+1+k=w.heap.size+(k+1) by omega] at this
  exact this
theorem allocs_below:∀ (os:List Obj) (w:World),Below w.heap.size w (os.foldl World.alloc w)∧(os.foldl World.alloc w).heap.size=w.heap.size+os.length
 | [],w=>⟨Below.refl _ _,rfl⟩
 | o :: os,w=>by
  obtain⟨h1,h2⟩:=allocs_below os (w.alloc o)
  refine⟨((Below.refl _ w).alloc (Nat.le_refl _) o).trans (h1.mono (by simp)),?_⟩
  rw [List.foldl_cons,h2,World.size_alloc,List.length_cons]
  omega
def rowN (i:Int) (t:ByteArray):Row:=[⟨4,i,⟨#[]⟩⟩,⟨5,0,t⟩]
def rowCells (i:Int) (t:ByteArray):Array Value:=#[.int .i64 4,.int .i64 i,.string ⟨#[]⟩,.int .i64 5,.int .i64 0,.string t]
abbrev tA:ByteArray:=⟨#[97]⟩
abbrev tB:ByteArray:=⟨#[98]⟩
abbrev tC:ByteArray:=⟨#[99]⟩
def colsB:List Col:=[⟨⟨#[105,100]⟩,4⟩,⟨⟨#[110,97,109,101]⟩,5⟩]
def sB:Sch:=⟨0,[⟨⟨#[116]⟩,colsB,1,[],[]⟩]⟩
def stB:St:=[[rowN 1 tA]]
def bothC:List Chg:=[⟨0,[],rowN 2 tB⟩,⟨0,rowN 2 tB,[]⟩]
def oneC:List Chg:=[⟨0,[],rowN 1 tC⟩]
def begOs (n:Nat):List Obj:=[
 .cells #[.string ⟨#[105,100]⟩,.int .i64 4,.string ⟨#[110,97,109,101]⟩,.int .i64 5] 34 (0,0),
 .cells #[.string ⟨#[116]⟩,.slice (some ⟨n,0,none⟩) 2 2,.int .i64 1,.slice none 0 0,.slice none 0 0] 39 (0,0),
 .cells #[.int .i64 0,.slice (some ⟨n+1,0,none⟩) 1 1] 25 (0,0),
 .cells (rowCells 1 tA) 51 (0,0),
 .cells #[.slice (some ⟨n+3,0,none⟩) 2 2] 27 (0,0),
 .cells #[.slice (some ⟨n+4,0,none⟩) 1 1] 49 (0,0),
 .cells #[.slice (some ⟨n+5,0,none⟩) 1 1] 56 (0,0),
 .cells (rowCells 2 tB) 51 (0,0),
 .cells (rowCells 2 tB) 51 (0,0),
 .cells #[.int .i64 0,.slice none 0 0,.slice (some ⟨n+7,0,none⟩) 2 2,.int .i64 0,.slice (some ⟨n+8,0,none⟩) 2 2,.slice none 0 0] 53 (0,0)]
section
variable {w:World} {S:Nat→Prop}
theorem cells_of_block {b:Nat} {cs:Array Value} {t:TypeId} (h:w.heap[b]?=some (.cells cs t (0,0))):CellsAt w b 0 cs.toList:=fun j u hu=>by
 rw [Nat.zero_add]
 simp only [World.cell?,h]
 simpa using hu
theorem row_block {b:Nat} {i:Int} {t:ByteArray} (h:w.heap[b]?=some (.cells (rowCells i t) 51 (0,0))) (hS:S b) (ht:t.size≤64):RowS w S (some ⟨b,0,none⟩) (rowN i t):=by
 refine⟨by rw [bytesAll_map (n:=32) (fun _=>rfl)];simp [rowN],fun _=>⟨b,0,rfl,hS,held_of_vals _ b 0 (fun v hv=>?_) (fun j u hu=>cells_of_block h j u hu)⟩⟩
 simp only [rowN,List.mem_cons,List.not_mem_nil,or_false] at hv
 rcases hv with rfl | rfl
 · show (⟨#[]⟩:ByteArray).size≤_;decide
 · show t.size≤_;omega
theorem rows_block {b:Nat} {A:Option Addr} {c:Nat} {r:Row} (h:w.heap[b]?=some (.cells #[.slice A r.length c] 27 (0,0))) (hS:S b) (hc:r.length≤c) (hr:RowS w S A r):RowsS w S (some ⟨b,0,none⟩) [r] :=
 Sl.of_vals (vs:=[.slice A r.length c]) (by rw [bytesAll_map (n:=24) (fun _=>rfl)];simp) (valsAll_one (vals_row hc hr)) (fun _=>⟨b,0,rfl,hS,cells_of_block h⟩)
theorem st_block {b:Nat} {A:Option Addr} {c:Nat} {l:List Row} (h:w.heap[b]?=some (.cells #[.slice A l.length c] 49 (0,0))) (hS:S b) (hc:l.length≤c) (hr:RowsS w S A l):StS w S (some ⟨b,0,none⟩) [l]:=by
 refine Sl.of_vals (vs:=[.slice A l.length c]) (by rw [bytesAll_map (n:=24) (fun _=>rfl)];simp) (valsAll_one ?_) (fun _=>⟨b,0,rfl,hS,cells_of_block h⟩)
 unfold encRows Dat.Vals
 exact⟨A,c,by simp,by simpa using hc,hr⟩
theorem col_block {b:Nat} (h:w.heap[b]?=some (.cells #[.string ⟨#[105,100]⟩,.int .i64 4,.string ⟨#[110,97,109,101]⟩,.int .i64 5] 34 (0,0))) (hS:S b):ColS w S (some ⟨b,0,none⟩) colsB:=by
 have hc:=cells_of_block h
 refine⟨by rw [bytesAll_map (n:=24) (fun _=>rfl)];simp [colsB],fun _=>⟨b,0,rfl,hS,?_⟩⟩
 simp only [colsB,List.map_cons,List.map_nil,encCol,Dat.HeldAll,Dat.Held,Dat.size,Dat.sizes,and_true,litOk_int,litOk_string]
 exact⟨⟨⟨hc 0 _ rfl,by decide⟩,hc 1 _ rfl⟩,⟨hc 2 _ rfl,by decide⟩,hc 3 _ rfl⟩
theorem tab_block {b:Nat} {A:Option Addr} {cols:List Col} {key:Int} {name:ByteArray} {n c:Nat} (h:w.heap[b]?=some (.cells #[.string name,.slice A n c,.int .i64 key,.slice none 0 0,.slice none 0 0] 39 (0,0))) (hn:n=cols.length) (hnm:name.size≤64) (hS:S b) (hc:cols.length≤c) (hr:ColS w S A cols):TabS w S (some ⟨b,0,none⟩) [⟨name,cols,key,[],[]⟩]:=by
 subst hn
 have hh:=cells_of_block h
 refine⟨by rw [bytesAll_map (n:=96) (fun _=>rfl)];simp,fun _=>⟨b,0,rfl,hS,?_⟩⟩
 simp only [List.map_cons,List.map_nil,encTab,Dat.HeldAll,Dat.Held,Dat.size,Dat.sizes,and_true,litOk_int,litOk_string,List.length_map,List.length_nil]
 refine⟨⟨hh 0 _ rfl,by omega⟩,⟨A,c,hh 1 _ rfl,hc,hr.1,fun h0=>hr.2 (by simpa using h0)⟩,hh 2 _ rfl,⟨none,0,hh 3 _ rfl,by omega,by simp [Dat.bytesAll],fun h=>by omega⟩,⟨none,0,hh 4 _ rfl,by omega,by simp [Dat.bytesAll],fun h=>by omega⟩⟩
end
def pc0:List Int→Pred→Int:=fun _ _=>0
theorem preds_sB:SchPreds pc0 sB:=by
 intro t ht p hp
 simp only [sB,List.mem_singleton] at ht
 subst ht
 simp at hp
theorem apply_both:applyF (schF pc0 sB) sB 1 stB bothC=(0,stB):=by kernel_rfl
theorem apply_one:applyF (schF pc0 sB) sB 1 stB oneC=(81,[]):=by kernel_rfl
theorem net_both:netF (schF pc0 sB) sB 1 bothC=(0,[]):=by kernel_rfl
theorem inside_sB:Inside sB stB stB:=by
 intro t ht k hk
 have ht0:t=0:=by simp [stB] at ht;omega
 subst ht0
 have hk0:k=0:=by simp [stB] at hk;omega
 subst hk0
 exact⟨by decide,by decide,rfl⟩
end Go.Proofs.Ytkpjjfhfbpfjpaa

namespace Go.Proofs.Ytkpjjfhfbpfjpaa
open Go.RowKit
end Go.Proofs.Ytkpjjfhfbpfjpaa

namespace Go.Proofs.Ytkpjjfhfbpfjpaa
open Go.RowKit
theorem infoO:(Try.prog.info? 98).map (fun i=>(i.zero,i.size,i.bytes))=some (some (.agg #[.int .i64 0,.int .i64 0,.int .i64 0,.int .i64 0,.string ⟨#[]⟩]),5,48):=by kernel_rfl
theorem encOpd_size (o:Opd):(encOpd o).size=5:=rfl
theorem encOpd_bytes (o:Opd):(encOpd o).bytes=48:=rfl
theorem encOpd_plain (o:Opd):(encOpd o).Plain:=by simp [encOpd,encV,Dat.Plain,Dat.PlainAll,Value.oneCell']
theorem vals_opd {w:World} {S:Nat→Prop} (k i vk vi:Int) (vt:ByteArray) (h:vt.size≤9223372036854775807):Dat.Vals w S (encOpd ⟨k,i,⟨vk,vi,vt⟩⟩) [.int .i64 k,.int .i64 i,.int .i64 vk,.int .i64 vi,.string vt]:=by
 simp only [encOpd,encV,Dat.Vals,Dat.ValsAll,litOk_int,litOk_string]
 exact⟨[.int .i64 k],_,rfl,⟨rfl,trivial⟩,[.int .i64 i],_,rfl,⟨rfl,trivial⟩,[.int .i64 vk,.int .i64 vi,.string vt],[],rfl,⟨[.int .i64 vk],_,rfl,⟨rfl,trivial⟩,[.int .i64 vi],_,rfl,⟨rfl,trivial⟩,[.string vt],[],rfl,⟨rfl,h⟩,rfl⟩,rfl⟩
theorem grown_s {w w1:World} {g n k:Nat} {v:Value} (hg:w.grownBy w1 (some g)) (hl:w.heap.size≤n):w.grownBy (w1.setCell ⟨n,k,none⟩ v) (some g) :=
 ⟨hg.os,hg.tape,hg.output,by have:=hg.size;simpa using this,fun b hb hne=>(Below.heap_setCell w1 ⟨n,k,none⟩ v b (by show b≠n;omega)).trans (hg.block b hb hne)⟩
def OfOpd (cols params:List Int) (kd:Int) (o:Opd):Prop:=opdKind cols params o=kd∧o.value.t.size≤64
theorem opd_col {cols params:List Int} {kd:Int} {k:Nat} (hk:k<cols.length) (h:cols.getD k 0=kd):OfOpd cols params kd ⟨1,k,v0⟩:=by
 refine⟨?_,by show v0.t.size≤64;decide⟩
 have h1:¬ ((k:Int)<0∨(cols.length:Int)≤k∨v0≠v0):=by simp;omega
 have e:opdKind cols params ⟨1,k,v0⟩=if (k:Int)<0∨(cols.length:Int)≤k∨v0≠v0 then 0 else cols.getD (k:Int).toNat 0:=rfl
 rw [e,if_neg h1,Int.toNat_natCast,h]
theorem opd_par {cols params:List Int} {kd:Int} {k:Nat} (hk:k<params.length) (h:params.getD k 0=kd):OfOpd cols params kd ⟨2,k,v0⟩:=by
 refine⟨?_,by show v0.t.size≤64;decide⟩
 have h1:¬ ((k:Int)<0∨(params.length:Int)≤k∨v0≠v0):=by simp;omega
 have e:opdKind cols params ⟨2,k,v0⟩=if (k:Int)<0∨(params.length:Int)≤k∨v0≠v0 then 0 else params.getD (k:Int).toNat 0:=rfl
 rw [e,if_neg h1,Int.toNat_natCast,h]
theorem valid_text64 {v:V} (h:validV v=true):v.t.size≤64:=by
 by_cases h1:v.t.size≤64
 · exact h1
 · exfalso
   obtain⟨k,i,t⟩:=v
   have ht:¬ t=⟨#[]⟩:=by rintro rfl;exact h1 (by show (⟨#[]⟩:ByteArray).size≤64;decide)
   rw [txt_nil] at ht
   simp only at h1
   unfold validV at h
   have hd:decide ((t.size:Int)≤64)=false:=decide_eq_false (by omega)
   revert h
   simp only
   repeat' split
   all_goals simp_all
theorem opd_val {cols params:List Int} {kd:Int} {v:V} (hk:colKind kd=true) (h:OfKind (kindOf kd) v):OfOpd cols params kd ⟨3,0,v⟩:=by
 have hkk:kindOf kd=kd:=by
  simp only [colKind,Bool.or_eq_true,decide_eq_true_eq] at hk
  unfold kindOf
  rcases hk with (h | h) | h<;>simp [h]
 have h3:3≤kd∧kd≤5:=by
  simp only [colKind,Bool.or_eq_true,decide_eq_true_eq] at hk
  omega
 obtain⟨h1,h2⟩:=h
 rw [hkk] at h2
 have hr:realV v=true:=by
  unfold realV
  rw [h1,h2]
  simp;omega
 refine⟨?_,valid_text64 h1⟩
 unfold opdKind
 rw [if_pos rfl,if_neg (by simp [hr]),h2]
def OpdPost (cols params:List Int) (kd:Int) (w:World) (g:Nat) (e:Ending) (w':World):Prop:=∃ o:Opd,e=.returned (oAgg o)∧OfOpd cols params kd o∧CaseOk w' g∧w.grownBy w' (some g)
structure OpI (w wr:World) (cols params:List Int) (kd:Int) (k:Nat) (A:Option Addr) (n c:Nat) (L:List Opd):Prop where
 mkl:Mk wr (w.heap.size+1) (fun _=>False) 98 5 (.slice A n c) (L.map encOpd)
 le:L.length≤k
 ok:∀ o ∈ L,OfOpd cols params kd o
 bel:Below w.heap.size w wr
 res:wr.heap[w.heap.size]?=some (.cells #[.int .i64 0,.int .i64 0,.int .i64 0,.int .i64 0,.string ⟨#[]⟩] 98 (0,0))
theorem OpI.len {w wr:World} {cols params:List Int} {kd:Int} {k:Nat} {A:Option Addr} {n c:Nat} {L:List Opd} (h:OpI w wr cols params kd k A n c L):n=L.length:=by have:=h.mkl.len;simpa using this
theorem OpI.push {w wr wx:World} {cols params:List Int} {kd:Int} {k g:Nat} {A:Option Addr} {n c cap:Nat} {L:List Opd} {o:Opd} (h:OpI w wr cols params kd k A n c L) (hm:Mk wx (w.heap.size+1) (fun _=>False) 98 5 (.slice (some ⟨g,0,none⟩) (n+1) cap) (L.map encOpd++[encOpd o])) (hb:Below (w.heap.size+1) wr wx) (ho:OfOpd cols params kd o):OpI w wx cols params kd (k+1) (some ⟨g,0,none⟩) (n+1) cap (L++[o]) :=
 ⟨by rw [List.map_append];exact hm,by have:=h.le;simp;omega,fun x hx=>by
  rcases List.mem_append.1 hx with hx | hx
  · exact h.ok x hx
  · rw [List.mem_singleton] at hx;rw [hx];exact ho,h.bel.trans (hb.mono (by omega)),(hb.block _ (by omega)).trans h.res⟩
theorem opd_at {w:World} {S:Nat→Prop} {A:Option Addr} {L:List Opd} (h:Sl w S A (L.map encOpd)) {k:Nat} (hk:k<L.length):∃ b off,A=some ⟨b,off,none⟩∧S b∧∃ ok oi vk vi vt,(⟨ok,oi,⟨vk,vi,vt⟩⟩:Opd) ∈ L∧w.cell? ⟨b,off+k*5,none⟩=some (.int .i64 ok)∧w.cell? ⟨b,off+k*5+1,none⟩=some (.int .i64 oi)∧w.cell? ⟨b,off+k*5+2,none⟩=some (.int .i64 vk)∧w.cell? ⟨b,off+k*5+3,none⟩=some (.int .i64 vi)∧w.cell? ⟨b,off+k*5+4,none⟩=some (.string vt):=by
 obtain⟨b,off,e,hb,h1⟩:=Sl.at_ encOpd_size ⟨0,0,v0⟩ h hk
 have hm:L.getD k ⟨0,0,v0⟩ ∈ L:=by simp [List.getD,hk]
 generalize L.getD k ⟨0,0,v0⟩=q at h1 hm
 obtain⟨ok,oi,⟨vk,vi,vt⟩⟩:=q
 simp only [encOpd,encV,Dat.Held,Dat.HeldAll,Dat.size,Dat.sizes,and_true,litOk_int,litOk_string,Nat.add_assoc,Nat.reduceAdd,Nat.add_zero] at h1
 obtain⟨a1,a2,a3,a4,a5,-⟩:=h1
 exact⟨b,off,e,hb,ok,oi,vk,vi,vt,hm,a1,by rw [Nat.add_assoc];exact a2,by rw [Nat.add_assoc];exact a3,by rw [Nat.add_assoc];exact a4,by rw [Nat.add_assoc];exact a5⟩
theorem put5 {w:World} {B:Nat} {t:TypeId} {x0 x1 x2 x3 x4 a b c d e:Value} (h:w.heap[B]?=some (.cells #[x0,x1,x2,x3,x4] t (0,0))):(((((w.setCell ⟨B,0,none⟩ a).setCell ⟨B,1,none⟩ b).setCell ⟨B,2,none⟩ c).setCell ⟨B,3,none⟩ d).setCell ⟨B,4,none⟩ e).heap[B]?=some (.cells #[a,b,c,d,e] t (0,0)):=by
 have h1:w.heap[B]?=some (.cells [x0,x1,x2,x3,x4].toArray t (0,0)):=h
 have h2:=setCell_block (k:=4) (v:=e) (setCell_block (k:=3) (v:=d) (setCell_block (k:=2) (v:=c) (setCell_block (k:=1) (v:=b) (setCell_block (k:=0) (v:=a) h1))))
 simpa using h2
set_option maxHeartbeats 4000000 in
theorem operand_any (g:Nat) (K B:Option Addr) (ck cb:Nat) (cols params:List Int) (kd:Int) (S:Nat→Prop) (w:World) (hK:IntS w S K cols) (hB:IntS w S B params) (hS:∀ b,S b→b<w.heap.size∧b≠g) (hl:cols.length≤100000) (hl2:params.length≤100000) (hkd:colKind kd=true) (hc:CaseOk w g) :
  Calls Try.prog 105 #[.pointer (some ⟨g,0,none⟩),.slice K cols.length ck,.slice B params.length cb,.int .i64 kd] w (OpdPost cols params kd w g):=by
 obtain⟨i0,hi,hz0,hz1,hz2⟩:=info_parts infoO
 have hgl:=hc.lt
 have HK:=Lib.hid hK
 have HBB:=Lib.hid hB
 have HC:=Lib.hid hc
 clear hK hB hc
 have HS1:=Lib.hid (fun b (hb:S b)=>(hS b hb).1)
 have HI0:=Lib.hid (show OpI w (w.alloc (.cells #[.int .i64 0,.int .i64 0,.int .i64 0,.int .i64 0,.string ⟨#[]⟩] 98)) cols params kd 0 none 0 0 [] from ⟨Mk.start (fun _ h=>h.elim) (by simp) _ _,by simp,by simp,(Below.refl _ _).alloc (Nat.le_refl _) _,heap_alloc_new w _⟩)
 go_enter Try.func105,Try.ntmps105
 go_wp2_with fail
 go_loopw [9,17] (fun l i wr=>∃ (k:Nat) (A:Option Addr) (n c:Nat) (L:List Opd),k≤cols.length∧i=.int .i64 k∧l=.slice A n c∧OpI w wr cols params kd k A n c L) (fun _ i _=>cols.length - (intOf i).toNat)
 case atStart=>exact⟨0,none,0,0,[],Nat.zero_le _,rfl,rfl,HI0.out⟩
 case round =>
  obtain⟨k,A,n,c,L,hk,rfl,rfl,hoi⟩:=hrel
  have HOI:=Lib.hid hoi
  have hsz:=hoi.mkl.hi
  have hnl:=hoi.len
  have hle:=hoi.le
  have HNL:=Lib.hid hnl
  have hnk:n≤k:=by omega
  clear hoi hnl hle
  by_cases hlt:k<cols.length
  · obtain⟨b1,o1,rfl,hb1,d1⟩:=(HK.out.keep (Same.of_below HOI.out.bel HS1.out)).at_ hlt
    have hl1:b1<wr.heap.size:=by have:=HS1.out b1 hb1;omega
    obtain⟨x,hx⟩:∃ x,cols.getD k 0=x:=⟨_,rfl⟩
    have HX:=Lib.hid hx
    rw [hx] at d1
    clear hx
    by_cases he:x=kd
    · subst he
      have HO:=Lib.hid (opd_col (params:=params) hlt HX.out)
      go_wp2_with (at_builtin;refine wpList_append_mk rfl (.tmp 25) (.tmp 28) 163 rfl (w.heap.size+1) (fun _=>False) 98 i0 _ 5 48 Try.underlying163 hi hz0 hz1 hz2 rfl (by decide) _ _ _ _ _ HOI.out.mkl rfl (encOpd ⟨1,k,v0⟩) #[.int .i64 1,.int .i64 k,.int .i64 0,.int .i64 0,.string ⟨#[]⟩] (vals_opd _ _ _ _ _ (by decide)) (encOpd_plain _) rfl 1 rfl (by omega) (by omega) ?_;intro g5 cap5 w5 hm5 hb5 hlt5;have HP5:=Lib.hid (HOI.out.push hm5 hb5 HO.out);clear hm5 hb5)
      go_roundw
      case rel=>exact⟨k+1,_,_,_,_,by omega,by go_num,rfl,HP5.out⟩
      case measure=>simp [intOf];omega
    · have hd:(x == kd)=false:=beq_eq_false_iff_ne.2 he
      clear he
      go_wp2_with fail
      go_roundw
      case rel=>exact⟨k+1,_,_,_,_,by omega,by go_num,rfl,⟨HOI.out.mkl,by have:=HOI.out.le;omega,HOI.out.ok,HOI.out.bel,HOI.out.res⟩⟩
      case measure=>simp [intOf];omega
  · obtain rfl:k=cols.length:=by omega
    go_wp2_with fail
    go_loopw [9,33] (fun l i wr=>∃ (k:Nat) (A:Option Addr) (n c:Nat) (L:List Opd),k≤params.length∧i=.int .i64 k∧l=.slice A n c∧OpI w wr cols params kd (cols.length+k) A n c L) (fun _ i _=>params.length - (intOf i).toNat)
    case atStart=>exact⟨0,_,_,_,_,Nat.zero_le _,rfl,rfl,HOI.out⟩
    case round =>
     clear HOI HNL hnk hsz
     obtain⟨k,A,n,c,L,hk,rfl,rfl,hoi⟩:=hrel
     have HOI:=Lib.hid hoi
     have hsz:=hoi.mkl.hi
     have hnl:=hoi.len
     have hle:=hoi.le
     have HNL:=Lib.hid hnl
     have hnk:n≤cols.length+k:=by omega
     clear hoi hnl hle
     by_cases hlt:k<params.length
     · obtain⟨b1,o1,rfl,hb1,d1⟩:=(HBB.out.keep (Same.of_below HOI.out.bel HS1.out)).at_ hlt
       have hl1:b1<wr.heap.size:=by have:=HS1.out b1 hb1;omega
       obtain⟨x,hx⟩:∃ x,params.getD k 0=x:=⟨_,rfl⟩
       have HX:=Lib.hid hx
       rw [hx] at d1
       clear hx
       by_cases he:x=kd
       · subst he
         have HO:=Lib.hid (opd_par (cols:=cols) hlt HX.out)
         go_wp2_with (at_builtin;refine wpList_append_mk rfl (.tmp 41) (.tmp 44) 163 rfl (w.heap.size+1) (fun _=>False) 98 i0 _ 5 48 Try.underlying163 hi hz0 hz1 hz2 rfl (by decide) _ _ _ _ _ HOI.out.mkl rfl (encOpd ⟨2,k,v0⟩) #[.int .i64 2,.int .i64 k,.int .i64 0,.int .i64 0,.string ⟨#[]⟩] (vals_opd _ _ _ _ _ (by decide)) (encOpd_plain _) rfl 1 rfl (by omega) (by omega) ?_;intro g5 cap5 w5 hm5 hb5 hlt5;have HP5:=Lib.hid (HOI.out.push hm5 hb5 HO.out);clear hm5 hb5)
         go_roundw
         case rel=>exact⟨k+1,_,_,_,_,by omega,by go_num,rfl,HP5.out⟩
         case measure=>simp [intOf];omega
       · have hd:(x == kd)=false:=beq_eq_false_iff_ne.2 he
         clear he
         go_wp2_with fail
         go_roundw
         case rel=>exact⟨k+1,_,_,_,_,by omega,by go_num,rfl,⟨HOI.out.mkl,by have:=HOI.out.le;omega,HOI.out.ok,HOI.out.bel,HOI.out.res⟩⟩
         case measure=>simp [intOf];omega
     · have HCR:=Lib.hid (HC.out.keep (w':=wr) (fun b hb=>HOI.out.bel.block b (by omega)))
       go_wp2_with fail
       refine(int_any g (n+1) _ (by omega) HCR.out).mono ?_
       rintro e w1 ⟨r,rfl,h0,h1,-,hc1,hg1,hs1⟩
       have HC1:=Lib.hid hc1
       have HG1:=Lib.hid (show w.grownBy w1 (some g) from (Fr.of_below (X:=fun b=>b=g) HOI.out.bel).grown.trans hg1)
       have hr:=h1 (by omega)
       have hres:w1.heap[w.heap.size]?=some (.cells #[.int .i64 0,.int .i64 0,.int .i64 0,.int .i64 0,.string ⟨#[]⟩] 98 (0,0)):=(hg1.block _ (by omega) (by intro e;injection e with e;omega)).trans HOI.out.res
       have HRES:=Lib.hid hres
       have f0:w1.frozen? ⟨w.heap.size,0,none⟩=false:=by simp [World.frozen?,hres]
       have f1:w1.frozen? ⟨w.heap.size,1,none⟩=false:=by simp [World.frozen?,hres]
       have f2:w1.frozen? ⟨w.heap.size,2,none⟩=false:=by simp [World.frozen?,hres]
       have f3:w1.frozen? ⟨w.heap.size,3,none⟩=false:=by simp [World.frozen?,hres]
       have f4:w1.frozen? ⟨w.heap.size,4,none⟩=false:=by simp [World.frozen?,hres]
       have y0:w1.cell? ⟨w.heap.size,0,none⟩=some (.int .i64 0):=cells_of_block hres 0 _ rfl
       have y1:w1.cell? ⟨w.heap.size,1,none⟩=some (.int .i64 0):=cells_of_block hres 1 _ rfl
       have y2:w1.cell? ⟨w.heap.size,2,none⟩=some (.int .i64 0):=cells_of_block hres 2 _ rfl
       have y3:w1.cell? ⟨w.heap.size,3,none⟩=some (.int .i64 0):=cells_of_block hres 3 _ rfl
       have y4:w1.cell? ⟨w.heap.size,4,none⟩=some (.string ⟨#[]⟩):=cells_of_block hres 4 _ rfl
       have hz1:w.heap.size<w1.heap.size:=by omega
       have HMK:=Lib.hid (HOI.out.mkl.keep (fr_of hg1) (fun b hb=>⟨by omega,fun h=>h⟩))
       clear hc1 hg1 h1 hres
       by_cases hrn:r<n
       · obtain⟨rk,rfl⟩:=Int.eq_ofNat_of_zero_le h0
         have hrl:rk<L.length:=by have:=HNL.out;omega
         obtain⟨-,hnc,hsl⟩:=HMK.out.slice (by rw [bytesAll_map (n:=48) encOpd_bytes];have:=HNL.out;omega)
         obtain⟨b3,o3,rfl,hb3,ok,oi,vk,vi,vt,hmem,m0,m1,m2,m3,m4⟩:=opd_at hsl hrl
         have HOK:=Lib.hid (HOI.out.ok _ hmem)
         have hl3:b3<w1.heap.size:=by rcases hb3 with h | h;{ exact h.elim };exact h.2
         have hne3:b3≠w.heap.size:=by rcases hb3 with h | h;{ exact h.elim };have:=h.1;omega
         clear hsl hmem hb3 h0 hnc
         go_wp2_with fail
         have hb5:=put5 (a:=.int .i64 ok) (b:=.int .i64 oi) (c:=.int .i64 vk) (d:=.int .i64 vi) (e:=.string vt) HRES.out
         have u0:=cells_of_block hb5 0 _ rfl
         have u1:=cells_of_block hb5 1 _ rfl
         have u2:=cells_of_block hb5 2 _ rfl
         have u3:=cells_of_block hb5 3 _ rfl
         have u4:=cells_of_block hb5 4 _ rfl
         exact bodyPost_ret (v:=.agg #[.int .i64 ok,.int .i64 oi,.int .i64 vk,.int .i64 vi,.string vt]) (by simp [results,Try.results105,go_sem,u0,u1,u2,u3,u4]) rfl ⟨⟨ok,oi,⟨vk,vi,vt⟩⟩,rfl,HOK.out,case_set (case_set (case_set (case_set (case_set HC1.out hgl) hgl) hgl) hgl) hgl,grown_s (grown_s (grown_s (grown_s (grown_s HG1.out (Nat.le_refl _)) (Nat.le_refl _)) (Nat.le_refl _)) (Nat.le_refl _)) (Nat.le_refl _)⟩
       · go_wp2_with fail
         refine(value_any g kd _ HC1.out).mono ?_
         rintro e w2 ⟨⟨vk,vi,vt⟩,rfl,hv,hc2,hg2⟩
         have HO:=Lib.hid (opd_val (cols:=cols) (params:=params) hkd hv)
         have HC2:=Lib.hid hc2
         have HG2:=Lib.hid (HG1.out.trans hg2)
         have hres:w2.heap[w.heap.size]?=some (.cells #[.int .i64 0,.int .i64 0,.int .i64 0,.int .i64 0,.string ⟨#[]⟩] 98 (0,0)):=(hg2.block _ (by omega) (by intro e;injection e with e;omega)).trans HRES.out
         clear y0 y1 y2 y3 y4 f0 f1 f2 f3 f4
         have HRES2:=Lib.hid hres
         have f0:w2.frozen? ⟨w.heap.size,0,none⟩=false:=by simp [World.frozen?,hres]
         have f1:w2.frozen? ⟨w.heap.size,1,none⟩=false:=by simp [World.frozen?,hres]
         have f2:w2.frozen? ⟨w.heap.size,2,none⟩=false:=by simp [World.frozen?,hres]
         have f3:w2.frozen? ⟨w.heap.size,3,none⟩=false:=by simp [World.frozen?,hres]
         have f4:w2.frozen? ⟨w.heap.size,4,none⟩=false:=by simp [World.frozen?,hres]
         have y0:w2.cell? ⟨w.heap.size,0,none⟩=some (.int .i64 0):=cells_of_block hres 0 _ rfl
         have y1:w2.cell? ⟨w.heap.size,1,none⟩=some (.int .i64 0):=cells_of_block hres 1 _ rfl
         have y2:w2.cell? ⟨w.heap.size,2,none⟩=some (.int .i64 0):=cells_of_block hres 2 _ rfl
         have y3:w2.cell? ⟨w.heap.size,3,none⟩=some (.int .i64 0):=cells_of_block hres 3 _ rfl
         have y4:w2.cell? ⟨w.heap.size,4,none⟩=some (.string ⟨#[]⟩):=cells_of_block hres 4 _ rfl
         have hz2':w.heap.size<w2.heap.size:=by have:=hg2.size;omega
         clear hv hc2 hg2 hres
         go_wp2_with fail
         have hb5:=put5 (a:=.int .i64 3) (b:=.int .i64 0) (c:=.int .i64 vk) (d:=.int .i64 vi) (e:=.string vt) HRES2.out
         have u0:=cells_of_block hb5 0 _ rfl
         have u1:=cells_of_block hb5 1 _ rfl
         have u2:=cells_of_block hb5 2 _ rfl
         have u3:=cells_of_block hb5 3 _ rfl
         have u4:=cells_of_block hb5 4 _ rfl
         exact bodyPost_ret (v:=.agg #[.int .i64 3,.int .i64 0,.int .i64 vk,.int .i64 vi,.string vt]) (by simp [results,Try.results105,go_sem,u0,u1,u2,u3,u4]) rfl ⟨⟨3,0,⟨vk,vi,vt⟩⟩,rfl,HO.out,case_set (case_set (case_set (case_set (case_set HC2.out hgl) hgl) hgl) hgl) hgl,grown_s (grown_s (grown_s (grown_s (grown_s HG2.out (Nat.le_refl _)) (Nat.le_refl _)) (Nat.le_refl _)) (Nat.le_refl _)) (Nat.le_refl _)⟩
end Go.Proofs.Ytkpjjfhfbpfjpaa

namespace Go.Proofs.Ytkpjjfhfbpfjpaa
open Go.RowKit
set_option maxHeartbeats 1000000 in
theorem column_any (nm:ByteArray) (k:Int) (w:World):Calls Try.prog 45 #[.string nm,.int .i64 k] w (fun e w'=>e=.returned (.agg #[.string nm,.int .i64 k])∧w'=w.alloc (.cells #[.string nm,.int .i64 k] 34)):=by
 go_enter Try.func45,Try.ntmps45
 go_wp2
 exact bodyPost_ret (v:=.agg #[.string nm,.int .i64 k]) (by simp [results,Try.results45,go_sem]) rfl ⟨rfl,rfl⟩
theorem vals_col {w:World} {S:Nat→Prop} {c:Col} (h:c.name.size≤9223372036854775807):Dat.Vals w S (encCol c) [.string c.name,.int .i64 c.kind]:=by
 simp only [encCol,Dat.Vals,Dat.ValsAll,litOk_int,litOk_string]
 exact⟨[.string c.name],_,rfl,⟨rfl,h⟩,[.int .i64 c.kind],[],rfl,⟨rfl,trivial⟩,rfl⟩
def colVals:List Col→List Value
 | []=>[]
 | c :: l=>.string c.name :: .int .i64 c.kind :: colVals l
theorem vals_cols {w:World} {S:Nat→Prop}:∀ {l:List Col},(∀ c ∈ l,c.name.size≤9223372036854775807)→Dat.ValsAll w S (l.map encCol) (colVals l)
 | [],_=>by simp [Dat.ValsAll,colVals]
 | c :: l,h=>by
  simp only [List.map_cons,Dat.ValsAll]
  exact⟨[.string c.name,.int .i64 c.kind],colVals l,rfl,vals_col (h c (by simp)),vals_cols (fun x hx=>h x (by simp [hx]))⟩
theorem cols_block {w:World} {S:Nat→Prop} {b:Nat} {l:List Col} {t:TypeId} (h:w.heap[b]?=some (.cells (colVals l).toArray t (0,0))) (hS:S b) (hl:∀ c ∈ l,c.name.size≤9223372036854775807) (hn:l.length≤100):ColS w S (some ⟨b,0,none⟩) l :=
 Sl.of_vals (by rw [bytesAll_map (n:=24) (fun _=>rfl)];omega) (vals_cols hl) (fun _=>⟨b,0,rfl,hS,by have:=cells_of_block h;simpa using this⟩)
theorem tab_vals {w:World} {S:Nat→Prop} {t:Tab} {A1 A2 A3:Option Addr} {c1 c2 c3:Nat} (h0:t.name.size≤9223372036854775807) (e1:t.cols.length≤c1) (h1:ColS w S A1 t.cols) (e2:t.refs.length≤c2) (h2:RfrS w S A2 t.refs) (e3:t.checks.length≤c3) (h3:PredS w S A3 t.checks) :
  Dat.Vals w S (encTab t) [.string t.name,.slice A1 t.cols.length c1,.int .i64 t.key,.slice A2 t.refs.length c2,.slice A3 t.checks.length c3]:=by
 simp only [encTab,Dat.Vals,Dat.ValsAll,litOk_int,litOk_string,List.length_map]
 exact⟨[.string t.name],_,rfl,⟨rfl,h0⟩,[.slice A1 t.cols.length c1],_,rfl,⟨A1,c1,rfl,e1,h1⟩,[.int .i64 t.key],_,rfl,⟨rfl,trivial⟩,[.slice A2 t.refs.length c2],_,rfl,⟨A2,c2,rfl,e2,h2⟩,[.slice A3 t.checks.length c3],[],rfl,⟨A3,c3,rfl,e3,h3⟩,rfl⟩
theorem tab_parts {w:World} {S:Nat→Prop} {t:Tab} {vs:List Value} (h:Dat.Vals w S (encTab t) vs):∃ A1 A2 A3 c1 c2 c3,vs=[.string t.name,.slice A1 t.cols.length c1,.int .i64 t.key,.slice A2 t.refs.length c2,.slice A3 t.checks.length c3]∧t.name.size≤9223372036854775807∧t.cols.length≤c1∧ColS w S A1 t.cols∧t.refs.length≤c2∧RfrS w S A2 t.refs∧t.checks.length≤c3∧PredS w S A3 t.checks:=by
 simp only [encTab,Dat.Vals,Dat.ValsAll,litOk_int,litOk_string,List.length_map] at h
 obtain⟨a1,b1,rfl,⟨rfl,h0⟩,a2,b2,rfl,⟨A1,c1,rfl,e1,h1⟩,a3,b3,rfl,⟨rfl,-⟩,a4,b4,rfl,⟨A2,c2,rfl,e2,h2⟩,a5,b5,rfl,⟨A3,c3,rfl,e3,h3⟩,rfl⟩:=h
 exact⟨A1,A2,A3,c1,c2,c3,rfl,h0,e1,h1,e2,h2,e3,h3⟩
abbrev SD (w wr:World) (g TB:Nat):Nat→Prop:=fun b=>w.heap.size<b∧b<wr.heap.size∧b≠TB∧b≠TB+1∧b≠g
structure SchI (w wr:World) (g TB n:Nat) (v id:Int) (b1 b2 b3:Bool) (chk:List Pred):Prop where
 tb:∃ vs:List Value,wr.heap[TB]?=some (.cells vs.toArray 39 (0,0))∧Dat.ValsAll wr (SD w wr g TB) ((genTabs id (rf0 b1 1 0) (rf0 b2 0 0) (rf0 b3 0 1) chk).map encTab) vs
 sb:wr.heap[TB+1]?=some (.cells #[.int .i64 v,.slice (some ⟨TB,0,none⟩) n 4] 25 (0,0))
 rb:wr.heap[w.heap.size]?=some (.cells #[.int .i64 0,.slice none 0 0] 25 (0,0))
 case:CaseOk wr g
 gr:w.grownBy wr (some g)
 lo:w.heap.size<TB
 gl:g<w.heap.size
section
variable {w wr wx:World} {g TB n:Nat} {v id:Int} {b1 b2 b3:Bool} {chk:List Pred}
theorem SchI.keep (h:SchI w wr g TB n v id b1 b2 b3 chk) (hg:wr.grownBy wx (some g)) (hc:CaseOk wx g):SchI w wx g TB n v id b1 b2 b3 chk:=by
 obtain⟨vs,h1,h2⟩:=h.tb
 have hlo:=h.lo
 have hgl:=h.gl
 have hs:=hg.size
 have hb:∀ b,b<wr.heap.size→b≠g→wx.heap[b]?=wr.heap[b]?:=fun b hb hne=>hg.block b hb (fun e=>hne (by injection e))
 have l1:=lt_of_heap h1
 have l2:=lt_of_heap h.sb
 have l3:=lt_of_heap h.rb
 exact⟨⟨vs,(hb _ l1 (by omega)).trans h1,Dat.ValsAll.more (fun b hb=>⟨hb.1,by have:=hb.2.1;omega,hb.2.2⟩) _ _ (Dat.ValsAll.keep (fun b hb'=>hb b hb'.2.1 hb'.2.2.2.2) _ _ h2)⟩,(hb _ l2 (by omega)).trans h.sb,(hb _ l3 (by omega)).trans h.rb,hc,h.gr.trans hg,hlo,hgl⟩
theorem SchI.below (h:SchI w wr g TB n v id b1 b2 b3 chk) (hb:Below wr.heap.size wr wx):SchI w wx g TB n v id b1 b2 b3 chk :=
 h.keep (Fr.of_below (X:=fun b=>b=g) hb).grown (h.case.keep (fun b hb'=>hb.block b (by have:=h.case.lt;omega)))
end
def genOs (v idk:Int) (nn n:Nat):List Obj:=[
 .cells #[.string nId,.int .i64 4] 34 (0,0),
 .cells #[.string nOwner,.int .i64 4] 34 (0,0),
 .cells #[.string nId,.int .i64 4,.string nOwner,.int .i64 4] 34 (0,0),
 .cells #[.string nId,.int .i64 idk] 34 (0,0),
 .cells #[.string nProject,.int .i64 4] 34 (0,0),
 .cells #[.string nTitle,.int .i64 5] 34 (0,0),
 .cells #[.string nDone,.int .i64 3] 34 (0,0),
 .cells #[.string nId,.int .i64 idk,.string nProject,.int .i64 4,.string nTitle,.int .i64 5,.string nDone,.int .i64 3] 34 (0,0),
 .cells #[.string nProject,.int .i64 4] 34 (0,0),
 .cells #[.string nPerson,.int .i64 4] 34 (0,0),
 .cells #[.string nProject,.int .i64 4,.string nPerson,.int .i64 4] 34 (0,0),
 .cells #[.string nTask,.int .i64 idk] 34 (0,0),
 .cells #[.string nTask,.int .i64 idk] 34 (0,0),
 .cells #[.string nProjects,.slice (some ⟨n+2,0,none⟩) 2 2,.int .i64 1,.slice none 0 0,.slice none 0 0,.string nTasks,.slice (some ⟨n+7,0,none⟩) 4 4,.int .i64 1,.slice none 0 0,.slice none 0 0,.string nMembers,.slice (some ⟨n+10,0,none⟩) 2 2,.int .i64 2,.slice none 0 0,.slice none 0 0,.string nArchived,.slice (some ⟨n+12,0,none⟩) 1 1,.int .i64 1,.slice none 0 0,.slice none 0 0] 39 (0,0),
 .cells #[.int .i64 v,.slice (some ⟨n+13,0,none⟩) nn 4] 25 (0,0)]
theorem tab_refs {w:World} {S:Nat→Prop} {nm:ByteArray} {cols:List Col} {key:Int} {R R':List Rfr} {ck:List Pred} {vs:List Value} {A:Option Addr} {c:Nat} (h:Dat.Vals w S (encTab ⟨nm,cols,key,R,ck⟩) vs) (hc:R'.length≤c) (hr:RfrS w S A R'):Dat.Vals w S (encTab ⟨nm,cols,key,R',ck⟩) (vs.set 3 (.slice A R'.length c)):=by
 obtain⟨A1,A2,A3,c1,c2,c3,rfl,h0,e1,h1,e2,h2,e3,h3⟩:=tab_parts h
 exact tab_vals (t:=⟨nm,cols,key,R',ck⟩) h0 e1 h1 hc hr e3 h3
theorem tab_chks {w:World} {S:Nat→Prop} {nm:ByteArray} {cols:List Col} {key:Int} {R:List Rfr} {ck ck':List Pred} {vs:List Value} {A:Option Addr} {c:Nat} (h:Dat.Vals w S (encTab ⟨nm,cols,key,R,ck⟩) vs) (hc:ck'.length≤c) (hr:PredS w S A ck'):Dat.Vals w S (encTab ⟨nm,cols,key,R,ck'⟩) (vs.set 4 (.slice A ck'.length c)):=by
 obtain⟨A1,A2,A3,c1,c2,c3,rfl,h0,e1,h1,e2,h2,e3,h3⟩:=tab_parts h
 exact tab_vals (t:=⟨nm,cols,key,R,ck'⟩) h0 e1 h1 e2 h2 hc hr
theorem gen_parts {w:World} {S:Nat→Prop} {id:Int} {R1 R2 R3:List Rfr} {ck:List Pred} {vs:List Value} (h:Dat.ValsAll w S ((genTabs id R1 R2 R3 ck).map encTab) vs):∃ v0 v1 v2 v3,vs=v0++(v1++(v2++v3))∧v0.length=5∧v1.length=5∧v2.length=5∧v3.length=5∧Dat.Vals w S (encTab ⟨nProjects,gCols1,1,[],[]⟩) v0∧Dat.Vals w S (encTab ⟨nTasks,gCols2 id,1,R1,ck⟩) v1∧Dat.Vals w S (encTab ⟨nMembers,gCols3,2,R2,[]⟩) v2∧Dat.Vals w S (encTab ⟨nArchived,gCols4 id,1,R3,[]⟩) v3:=by
 simp only [genTabs,List.map_cons,List.map_nil,Dat.ValsAll] at h
 obtain⟨v0,x,rfl,h0,v1,y,rfl,h1,v2,z,rfl,h2,v3,u,rfl,h3,rfl⟩:=h
 exact⟨v0,v1,v2,v3,by simp,Dat.Vals.len _ _ h0,Dat.Vals.len _ _ h1,Dat.Vals.len _ _ h2,Dat.Vals.len _ _ h3,h0,h1,h2,h3⟩
theorem gen_join {w:World} {S:Nat→Prop} {id:Int} {R1 R2 R3:List Rfr} {ck:List Pred} {v0 v1 v2 v3:List Value} (h0:Dat.Vals w S (encTab ⟨nProjects,gCols1,1,[],[]⟩) v0) (h1:Dat.Vals w S (encTab ⟨nTasks,gCols2 id,1,R1,ck⟩) v1) (h2:Dat.Vals w S (encTab ⟨nMembers,gCols3,2,R2,[]⟩) v2) (h3:Dat.Vals w S (encTab ⟨nArchived,gCols4 id,1,R3,[]⟩) v3):Dat.ValsAll w S ((genTabs id R1 R2 R3 ck).map encTab) (v0++(v1++(v2++v3))):=by
 simp only [genTabs,List.map_cons,List.map_nil,Dat.ValsAll]
 exact⟨v0,_,rfl,h0,v1,_,rfl,h1,v2,_,rfl,h2,v3,[],by simp,h3,rfl⟩
theorem SchI.set {w wr:World} {g TB n k:Nat} {v id:Int} {b1 b2 b3 b1' b2' b3':Bool} {chk chk':List Pred} {x:Value} (h:SchI w wr g TB n v id b1 b2 b3 chk) (hs:∀ vs,Dat.ValsAll wr (SD w wr g TB) ((genTabs id (rf0 b1 1 0) (rf0 b2 0 0) (rf0 b3 0 1) chk).map encTab) vs→Dat.ValsAll wr (SD w wr g TB) ((genTabs id (rf0 b1' 1 0) (rf0 b2' 0 0) (rf0 b3' 0 1) chk').map encTab) (vs.set k x)) :
  SchI w (wr.setCell ⟨TB,k,none⟩ x) g TB n v id b1' b2' b3' chk':=by
 obtain⟨vs,h1,h2⟩:=h.tb
 have hlo:=h.lo
 have hgl:=h.gl
 have hne:∀ b,b≠TB→(wr.setCell ⟨TB,k,none⟩ x).heap[b]?=wr.heap[b]?:=fun b hb=>Below.heap_setCell wr ⟨TB,k,none⟩ x b hb
 refine⟨⟨vs.set k x,setCell_block h1,Dat.ValsAll.more (fun b hb=>⟨hb.1,by have:=hb.2.1;simpa using this,hb.2.2⟩) _ _ (Dat.ValsAll.keep (fun b hb=>hne b hb.2.2.1) _ _ (hs vs h2))⟩,(hne _ (by omega)).trans h.sb,(hne _ (by omega)).trans h.rb,h.case.keep (fun b hb=>hne b (by omega)),?_,hlo,hgl⟩
 exact grown_s h.gr (by omega)
theorem SchI.ref1 {w wr:World} {g TB n c:Nat} {v id:Int} {b2 b3:Bool} {chk:List Pred} {A:Option Addr} (h:SchI w wr g TB n v id false b2 b3 chk) (hc:1≤c) (hr:RfrS wr (SD w wr g TB) A [⟨[1],0⟩]):SchI w (wr.setCell ⟨TB,8,none⟩ (.slice A 1 c)) g TB n v id true b2 b3 chk :=
 h.set (fun vs hv=>by
  obtain⟨v0,v1,v2,v3,rfl,l0,l1,l2,l3,h0,h1,h2,h3⟩:=gen_parts hv
  have e:(v0++(v1++(v2++v3))).set 8 (.slice A 1 c)=v0++(v1.set 3 (.slice A 1 c)++(v2++v3)):=by rw [List.set_append,if_neg (by omega),List.set_append,if_pos (by omega),l0]
  rw [e]
  exact gen_join h0 (tab_refs (R':=[⟨[1],0⟩]) h1 hc hr) h2 h3)
theorem SchI.chk1 {w wr:World} {g TB n c:Nat} {v id:Int} {b1 b2 b3:Bool} {chk:List Pred} {p:Pred} {A:Option Addr} (h:SchI w wr g TB n v id b1 b2 b3 chk) (hc:1≤c) (hr:PredS wr (SD w wr g TB) A [p]):SchI w (wr.setCell ⟨TB,9,none⟩ (.slice A 1 c)) g TB n v id b1 b2 b3 [p] :=
 h.set (fun vs hv=>by
  obtain⟨v0,v1,v2,v3,rfl,l0,l1,l2,l3,h0,h1,h2,h3⟩:=gen_parts hv
  have e:(v0++(v1++(v2++v3))).set 9 (.slice A 1 c)=v0++(v1.set 4 (.slice A 1 c)++(v2++v3)):=by rw [List.set_append,if_neg (by omega),List.set_append,if_pos (by omega),l0]
  rw [e]
  exact gen_join h0 (tab_chks (ck':=[p]) h1 hc hr) h2 h3)
theorem SchI.ref2 {w wr:World} {g TB n c:Nat} {v id:Int} {b1 b3:Bool} {chk:List Pred} {A:Option Addr} (h:SchI w wr g TB n v id b1 false b3 chk) (hc:1≤c) (hr:RfrS wr (SD w wr g TB) A [⟨[0],0⟩]):SchI w (wr.setCell ⟨TB,13,none⟩ (.slice A 1 c)) g TB n v id b1 true b3 chk :=
 h.set (fun vs hv=>by
  obtain⟨v0,v1,v2,v3,rfl,l0,l1,l2,l3,h0,h1,h2,h3⟩:=gen_parts hv
  have e:(v0++(v1++(v2++v3))).set 13 (.slice A 1 c)=v0++(v1++(v2.set 3 (.slice A 1 c)++v3)):=by rw [List.set_append,if_neg (by omega),List.set_append,if_neg (by omega),List.set_append,if_pos (by omega),l0,l1]
  rw [e]
  exact gen_join h0 h1 (tab_refs (R':=[⟨[0],0⟩]) h2 hc hr) h3)
theorem SchI.ref3 {w wr:World} {g TB n c:Nat} {v id:Int} {b1 b2:Bool} {chk:List Pred} {A:Option Addr} (h:SchI w wr g TB n v id b1 b2 false chk) (hc:1≤c) (hr:RfrS wr (SD w wr g TB) A [⟨[0],1⟩]):SchI w (wr.setCell ⟨TB,18,none⟩ (.slice A 1 c)) g TB n v id b1 b2 true chk :=
 h.set (fun vs hv=>by
  obtain⟨v0,v1,v2,v3,rfl,l0,l1,l2,l3,h0,h1,h2,h3⟩:=gen_parts hv
  have e:(v0++(v1++(v2++v3))).set 18 (.slice A 1 c)=v0++(v1++(v2++v3.set 3 (.slice A 1 c))):=by rw [List.set_append,if_neg (by omega),List.set_append,if_neg (by omega),List.set_append,if_neg (by omega),l0,l1,l2]
  rw [e]
  exact gen_join h0 h1 h2 (tab_refs (R':=[⟨[0],1⟩]) h3 hc hr))
theorem ref_new {w wr:World} {g TB:Nat} {x t:Int} (h1:w.heap.size<wr.heap.size) (h2:TB+1<wr.heap.size) (h3:g<w.heap.size) :
  RfrS ((wr.alloc (.cells #[.int .i64 x] 3)).alloc (.cells #[.slice (some ⟨wr.heap.size,0,none⟩) 1 1,.int .i64 t] 96)) (SD w ((wr.alloc (.cells #[.int .i64 x] 3)).alloc (.cells #[.slice (some ⟨wr.heap.size,0,none⟩) 1 1,.int .i64 t] 96)) g TB) (some ⟨wr.heap.size+1,0,none⟩) [⟨[x],t⟩]:=by
 have hb1:=(Below.heap_alloc (wr.alloc (.cells #[.int .i64 x] 3)) (.cells #[.slice (some ⟨wr.heap.size,0,none⟩) 1 1,.int .i64 t] 96) wr.heap.size (by simp)).trans (heap_alloc_new wr (.cells #[.int .i64 x] 3))
 have hb2:=heap_alloc_new (wr.alloc (.cells #[.int .i64 x] 3)) (.cells #[.slice (some ⟨wr.heap.size,0,none⟩) 1 1,.int .i64 t] 96)
 rw [World.size_alloc] at hb2
 have hi:IntS ((wr.alloc (.cells #[.int .i64 x] 3)).alloc (.cells #[.slice (some ⟨wr.heap.size,0,none⟩) 1 1,.int .i64 t] 96)) (SD w ((wr.alloc (.cells #[.int .i64 x] 3)).alloc (.cells #[.slice (some ⟨wr.heap.size,0,none⟩) 1 1,.int .i64 t] 96)) g TB) (some ⟨wr.heap.size,0,none⟩) [x] :=
  Sl.of_vals (by rw [bytesAll_map (n:=8) (fun _=>rfl)];simp) (valsAll_one (show Dat.Vals _ _ (encInt x) [.int .i64 x] by simp [encInt,Dat.Vals])) (fun _=>⟨wr.heap.size,0,rfl,⟨by omega,by simp;omega,by omega,by omega,by omega⟩,cells_of_block hb1⟩)
 refine Sl.of_vals (by rw [bytesAll_map (n:=32) (fun _=>rfl)];simp) (valsAll_one (vs:=[.slice (some ⟨wr.heap.size,0,none⟩) 1 1,.int .i64 t]) ?_) (fun _=>⟨wr.heap.size+1,0,rfl,⟨by omega,by simp,by omega,by omega,by omega⟩,cells_of_block hb2⟩)
 simp only [encRfr,Dat.Vals,Dat.ValsAll,litOk_int]
 exact⟨[.slice (some ⟨wr.heap.size,0,none⟩) 1 1],_,rfl,⟨_,1,rfl,by simp,hi⟩,[.int .i64 t],[],rfl,⟨rfl,trivial⟩,rfl⟩
theorem SchI.tabS {w wr:World} {g TB n:Nat} {v id:Int} {b1 b2 b3:Bool} {chk:List Pred} (h:SchI w wr g TB n v id b1 b2 b3 chk) (hn:n≤4):TabS wr (fun b=>w.heap.size<b∧b<wr.heap.size∧b≠TB+1) (some ⟨TB,0,none⟩) ((genTabs id (rf0 b1 1 0) (rf0 b2 0 0) (rf0 b3 0 1) chk).take n):=by
 obtain⟨vs,h1,h2⟩:=h.tb
 have h3:=(valsAll_take (n:=5) encTab_size h2 n hn).1
 have hlo:=h.lo
 refine Sl.of_vals (by rw [bytesAll_map (n:=96) (fun _=>rfl),List.length_take];have:(genTabs id (rf0 b1 1 0) (rf0 b2 0 0) (rf0 b3 0 1) chk).length=4:=rfl;omega) (Dat.ValsAll.more (fun b hb=>⟨hb.1,hb.2.1,hb.2.2.2.1⟩) _ _ h3) (fun _=>⟨TB,0,rfl,⟨hlo,lt_of_heap h1,by omega⟩,fun j u hu=>?_⟩)
 have:=cells_of_block h1 j u (by simpa using getElem?_of_take hu)
 exact this
theorem schI_start {w w3 W:World} {g n:Nat} {v idk:Int} (hz:w3.heap.size=w.heap.size+1) (hgl:g<w.heap.size) (hW:(genOs v idk n w3.heap.size).foldl World.alloc w3=W) (hc:CaseOk w3 g) (hg:w.grownBy w3 (some g)) (hr:w3.heap[w.heap.size]?=some (.cells #[.int .i64 0,.slice none 0 0] 25 (0,0))) :
  SchI w W g (w3.heap.size+13) n v idk false false false []∧W.heap.size=w3.heap.size+15:=by
 obtain⟨hB,hs⟩:=allocs_below (genOs v idk n w3.heap.size) w3
 have hk:∀ k (hk:k<15),W.heap[w3.heap.size+k]?=(genOs v idk n w3.heap.size)[k]?:=fun k hk=>by rw [←hW];exact allocs_at _ _ _ hk
 rw [hW] at hB hs
 have hs':W.heap.size=w3.heap.size+15:=hs
 have hD:∀ k,k<13→SD w W g (w3.heap.size+13) (w3.heap.size+k):=fun k h=>⟨by omega,by omega,by omega,by omega,by omega⟩
 have n1:∀ l:List Col,(∀ c ∈ l,c.name.size≤100)→∀ c ∈ l,c.name.size≤9223372036854775807:=fun l h c hc=>by have:=h c hc;omega
 have k1:ColS W (SD w W g (w3.heap.size+13)) (some ⟨w3.heap.size+2,0,none⟩) gCols1:=cols_block (l:=gCols1) (hk 2 (by omega)) (hD 2 (by omega)) (n1 _ (by decide)) (by decide)
 have k2:ColS W (SD w W g (w3.heap.size+13)) (some ⟨w3.heap.size+7,0,none⟩) (gCols2 idk):=cols_block (l:=gCols2 idk) (hk 7 (by omega)) (hD 7 (by omega)) (n1 _ (by intro c hc;simp only [gCols2,List.mem_cons,List.not_mem_nil,or_false] at hc;rcases hc with rfl | rfl | rfl | rfl<;>first | (show nId.size≤100;decide) | (show nProject.size≤100;decide) | (show nTitle.size≤100;decide) | (show nDone.size≤100;decide))) (by show 4≤100;omega)
 have k3:ColS W (SD w W g (w3.heap.size+13)) (some ⟨w3.heap.size+10,0,none⟩) gCols3:=cols_block (l:=gCols3) (hk 10 (by omega)) (hD 10 (by omega)) (n1 _ (by decide)) (by decide)
 have k4:ColS W (SD w W g (w3.heap.size+13)) (some ⟨w3.heap.size+12,0,none⟩) (gCols4 idk):=cols_block (l:=gCols4 idk) (hk 12 (by omega)) (hD 12 (by omega)) (n1 _ (by intro c hc;simp only [gCols4,List.mem_cons,List.not_mem_nil,or_false] at hc;rcases hc with rfl;show nTask.size≤100;decide)) (by show 1≤100;omega)
 refine⟨⟨⟨_,hk 13 (by omega),?_⟩,hk 14 (by omega),?_,?_,?_,by omega,hgl⟩,hs'⟩
 · show Dat.ValsAll W (SD w W g (w3.heap.size+13)) _ ([.string nProjects,.slice (some ⟨w3.heap.size+2,0,none⟩) 2 2,.int .i64 1,.slice none 0 0,.slice none 0 0]++([.string nTasks,.slice (some ⟨w3.heap.size+7,0,none⟩) 4 4,.int .i64 1,.slice none 0 0,.slice none 0 0]++([.string nMembers,.slice (some ⟨w3.heap.size+10,0,none⟩) 2 2,.int .i64 2,.slice none 0 0,.slice none 0 0]++([.string nArchived,.slice (some ⟨w3.heap.size+12,0,none⟩) 1 1,.int .i64 1,.slice none 0 0,.slice none 0 0]++[]))))
   simp only [genTabs,List.map_cons,List.map_nil,Dat.ValsAll]
   exact⟨_,_,rfl,tab_vals (t:=⟨nProjects,gCols1,1,[],[]⟩) (by show nProjects.size≤_;decide) (Nat.le_refl _) k1 (Nat.le_refl _) Sl.nil_ (Nat.le_refl _) Sl.nil_,
    _,_,rfl,tab_vals (t:=⟨nTasks,gCols2 idk,1,[],[]⟩) (by show nTasks.size≤_;decide) (Nat.le_refl _) k2 (Nat.le_refl _) Sl.nil_ (Nat.le_refl _) Sl.nil_,
    _,_,rfl,tab_vals (t:=⟨nMembers,gCols3,2,[],[]⟩) (by show nMembers.size≤_;decide) (Nat.le_refl _) k3 (Nat.le_refl _) Sl.nil_ (Nat.le_refl _) Sl.nil_,
    _,_,rfl,tab_vals (t:=⟨nArchived,gCols4 idk,1,[],[]⟩) (by show nArchived.size≤_;decide) (Nat.le_refl _) k4 (Nat.le_refl _) Sl.nil_ (Nat.le_refl _) Sl.nil_,rfl⟩
 · exact(hB.block _ (by omega)).trans hr
 · exact hc.keep (fun b hb=>hB.block b (by omega))
 · exact hg.trans (Fr.of_below (X:=fun b=>b=g) hB).grown
theorem SchI.cell {w wr:World} {g TB n k:Nat} {v id:Int} {b1 b2 b3:Bool} {chk:List Pred} (h:SchI w wr g TB n v id b1 b2 b3 chk) (hk:k<20):(∃ x,wr.cell? ⟨TB,k,none⟩=some x)∧wr.frozen? ⟨TB,k,none⟩=false:=by
 obtain⟨vs,h1,h2⟩:=h.tb
 have hl:vs.length=20:=by rw [Dat.ValsAll.len _ _ h2,sizes_map (n:=5) encTab_size];rfl
 refine⟨⟨vs[k],?_⟩,by simp [World.frozen?,h1]⟩
 have:=cells_of_block h1 k vs[k] (by simp)
 rw [Nat.zero_add] at this
 exact this
end Go.Proofs.Ytkpjjfhfbpfjpaa

