import Derived.Test.YtkpjjfhfbpfjpaaKffbf8f
set_option linter.unusedVariables false
set_option linter.unusedSimpArgs false
set_option maxRecDepth 100000
set_option maxHeartbeats 8000000
namespace Go.Proofs.Ytkpjjfhfbpfjpaa
open Go.RowKit
def Inside (s:Sch) (a b:St):Prop:=∀ t,t<a.length→∀ k,k<(a.getD t []).length→t<s.tabs.length∧t<b.length∧ZaP s t (keyF s t ((a.getD t []).getD k [])) (b.getD t [])=some ((a.getD t []).getD k [])
theorem ZcF (A0:Option Addr) (c0':Nat) (s:Sch) (A:Option Addr) (ca:Nat) (a:St) (B:Option Addr) (cb:Nat) (b:St) (S:Nat→Prop) (w:World) (hs:TabS w S A0 s.tabs) (ha:StS w S A a) (hb:StS w S B b) (hS:∀ b,S b→b<w.heap.size) (hin:Inside s a b) :
  Calls Try.prog 63 #[sAgg s.version A0 s.tabs.length c0',Zay A a.length ca,Zay B b.length cb] w (ZaS true w):=by
 have hsl:=hs.len;have hal:=ha.len;have hbl:=hb.len;have HS:=hI hs;have HA:=hI ha;have HBB:=hI hb;have HIN:=hI hin;clear hs ha hb hin;have HB0:=hI ((((Below.refl w.heap.size w).alloc nR (.cells #[.int .i64 s.version,.slice A0 s.tabs.length c0'] 25)).alloc (by simp) (.cells #[.slice A a.length ca] 56)).alloc (by simp;omega) (.cells #[.slice B b.length cb] 56));go_enter Try.func63,Try.ntmps63
 go_wp2_with fail
 go_loopw [18] (fun i wr=>∃ t:Nat,t≤a.length∧i=.int .i64 t∧Below w.heap.size w wr∧wr.cell? ⟨w.heap.size,0,none⟩=some (.int .i64 s.version)∧wr.cell? ⟨w.heap.size,1,none⟩=some (.slice A0 s.tabs.length c0')∧wr.cell? ⟨w.heap.size+1+1,0,none⟩=some (.slice B b.length cb)∧w.heap.size+1+1<wr.heap.size) (fun i _=>a.length - (intOf i).toNat)
 case atStart=>exact⟨0,Nat.zero_le _,rfl,HB0.out,(Zah (by simp;omega)).trans ((Zah (by simp)).trans (Zae rfl rfl)),(Zah (by simp;omega)).trans ((Zah (by simp)).trans (Zae rfl rfl)),Zae (by simp) rfl,by simp⟩
 case round =>
  obtain⟨t,ht,rfl,hbel,x0,x1,x2,hw⟩:=hrel;have HB:=hI hbel;clear hbel
  by_cases htl:t<a.length
  · obtain⟨b1,o1,rfl,hb1,A',c',d1,d2,d3⟩:=(HA.out.keep (Same.of_below HB.out hS)).at_ htl;have hl1:b1<wr.heap.size:=(by have:=hS b1 hb1;omega);have HR:=hI (d3.keep (w':=w) (fun b hb=>(HB.out.block b (hS b hb)).symm));have hrl:=d3.len;have HINT:=hI (HIN.out t htl);clear d2 d3;generalize a.getD t []=rows at d1 HR hrl HINT;have hw0:w.heap.size<wr.heap.size:=(by omega);have hd:∀ (h0:0<rows.length),t<s.tabs.length:=fun h0=>(HINT.out 0 h0).1;have HD:=hI hd;clear hd;obtain⟨wo,rfl⟩:∃ wo:World,wo=wr:=⟨_,rfl⟩;rcases Nat.eq_zero_or_pos rows.length with h0 | h0
    · have hr0:rows=[]:=List.length_eq_zero_iff.1 h0;subst hr0
      go_wp2_with fail
      clear d1
      go_loopw [35] (fun i wr=>i=.int .i64 0∧wr=wo) (fun _ _=>0)
      case atStart=>exact⟨rfl,rfl⟩
      case round =>
       obtain⟨rfl,rfl⟩:=hrel
       go_wp2_with fail
       go_roundw
       case rel=>exact⟨t+1,by omega,by go_num,HB.out,x0,x1,x2,hw⟩
       case measure=>simp [intOf];omega
    · have hts:=HD.out h0;have hdr:decide (0<rows.length)=true:=decide_eq_true h0;have hdt:decide (s.tabs.length≤t)=false:=decide_eq_false (by omega)
      go_wp2_with fail
      clear d1
      go_loopw [35] (fun i wr=>∃ k:Nat,k≤rows.length∧i=.int .i64 k∧Below w.heap.size w wr∧wr.cell? ⟨w.heap.size,0,none⟩=some (.int .i64 s.version)∧wr.cell? ⟨w.heap.size,1,none⟩=some (.slice A0 s.tabs.length c0')∧wr.cell? ⟨w.heap.size+1+1,0,none⟩=some (.slice B b.length cb)∧w.heap.size+1+1<wr.heap.size) (fun i _=>rows.length - (intOf i).toNat)
      case atStart=>exact⟨0,Nat.zero_le _,rfl,HB.out,x0,x1,x2,hw⟩
      case round =>
       clear HB x0 x1 x2 hw hl1 hw0;obtain⟨k,hk,rfl,hbel,x0,x1,x2,hw⟩:=hrel;have HB:=hI hbel;clear hbel
       by_cases hkl:k<rows.length
       · obtain⟨b2,o2,rfl,hb2,A2,c2,f1,f2,f3⟩:=(HR.out.keep (Same.of_below HB.out hS)).at_ hkl;have hl2:b2<wr.heap.size:=(by have:=hS b2 hb2;omega);have HROW:=hI f3;have HC:=hI f2;have hrw:=f3.len;obtain⟨_,htb,hfnd⟩:=HINT.out k hkl;have HFND:=hI hfnd;clear f2 f3 hfnd;generalize rows.getD k []=row at f1 HROW HC hrw HFND;have hSr:∀ b,S b→b<wr.heap.size:=(fun b hb=>by have:=hS b hb;omega);have HSr:=hI (HS.out.keep (Same.of_below HB.out hS));have HBr:=hI (HBB.out.keep (Same.of_below HB.out hS));have hw0:w.heap.size<wr.heap.size:=by omega
         go_wp2_with fail
         go_region_held3 (fun w'=>Below wr.heap.size wr w'∧w'.cell? ⟨w.heap.size,0,none⟩=some (.int .i64 s.version)∧w'.cell? ⟨w.heap.size,1,none⟩=some (.slice A0 s.tabs.length c0')∧w'.cell? ⟨w.heap.size+1+1,0,none⟩=some (.slice B b.length cb))
          (first | exact⟨(Below.refl _ _).drew,x0,x1,x2⟩ | exact⟨hv2,c9Q hv2 hw0 x0,c9Q hv2 hw0 x1,c9Q hv2 hw x2⟩ | exact⟨hv1,c9Q hv1 hw0 x0,c9Q hv1 hw0 x1,c9Q hv1 hw x2⟩)
          (first
           | (go_at_call 61;refine(Zba A0 c0' s t A2 c2 row S wr.drew (HSr.out.keep (fun _ _=>rfl)) (HROW.out.keep (fun _ _=>rfl)) HC.out hSr).mono ?_;rintro e w5 ⟨A7,c7,rfl,h7,hv1'⟩;have hv1:Below wr.heap.size wr w5:=(Below.refl _ wr).drew.trans hv1')
           | (go_at_call 70;refine(get_in A0 c0' s B cb b t A7 c7 (keyF s t row) S _ (HSr.out.keep (Same.of_below hv1 hSr)) (HBr.out.keep (Same.of_below hv1 hSr)) ((HROW.out.keep (Same.of_below hv1 hSr)).key s t h7) (fun b hb=>Nat.lt_of_lt_of_le (hSr b hb) hv1.size) hts htb).mono ?_;rw [HFND.out];rintro e w6 ⟨hv2',A8,c8,rfl,h8,hR8⟩;have hv2:Below wr.heap.size wr w6:=hv1.trans (hv2'.mono hv1.size)))
         have HB6:=hI (HB.out.trans (hv2.mono (by omega)));have y0:=c9Q hv2 hw0 x0;have y1:=c9Q hv2 hw0 x1;have y2:=c9Q hv2 hw x2;have hw6:w.heap.size+1+1<w6.heap.size:=(by have:=hv2.size;omega);have HRW6:=hI (HROW.out.keep (Same.of_below hv2 hSr));have HOT6:=hI hR8;have hS6:∀ b,S b→b<w6.heap.size:=(fun b hb=>by have:=hS b hb;omega);clear hv1 hv2 hv1' hv2' h7 h8 hR8 x0 x1 x2 f1
         go_wp2_with fail
         go_loopw [61] (fun i wq=>∃ j:Nat,j≤row.length∧i=.int .i64 j∧Below w6.heap.size w6 wq) (fun i _=>row.length - (intOf i).toNat)
         case atStart=>exact⟨0,Nat.zero_le _,rfl,Below.refl _ _⟩
         case round =>
          obtain⟨j,hj,rfl,hbq⟩:=hrel;have HBQ:=hI hbq;have hsq:=hbq.size;clear hbq
          by_cases hjl:j<row.length
          · obtain⟨b3,o3,e3,hb3,g0,g1,g2⟩:=(HRW6.out.keep (Same.of_below HBQ.out hS6)).at_ hjl;obtain⟨b4,o4,e4,hb4,k0,k1,k2⟩:=(HOT6.out.keep (Same.of_below HBQ.out hS6)).at_ hjl;subst e3 e4;have hl3:b3<wr.heap.size:=(by have:=hS6 b3 hb3;omega);have hl4:b4<wr.heap.size:=(by have:=hS6 b4 hb4;omega);generalize row.getD j v0=v at g0 g1 g2 k0 k1 k2;obtain⟨vk,vi,vt⟩:=v;simp only at g0 g1 g2 k0 k1 k2;have q2:(0:Int)≤j:=(by omega);have q3:(j:Int)<row.length:=(by omega);have HBA:=hI (HBQ.out.alloc (by omega) (.cells #[.int .i64 vk,.int .i64 vi,.string vt] 51))
            by_cases hm:vk=1
            · subst hm
              go_wp2_with fail
              go_quiet (fail)
              go_wp2_with fail
              go_roundw
              case rel=>exact⟨j+1,by omega,by go_num,Zaj HBA.out _⟩
              case measure=>simp [intOf];omega
            · have hdm:(vk != 1)=true:=by simpa using hm
              go_wp2_with fail
              go_quiet (fail)
              go_wp2_with fail
              go_roundw
              case rel=>exact⟨j+1,by omega,by go_num,Zaj HBA.out _⟩
              case measure=>simp [intOf];omega
          · go_wp2_with fail
            go_roundw
            case rel =>
             have hb9:Below w6.heap.size w6 wr:=HBQ.out;exact⟨k+1,by omega,by go_num,HB6.out.trans (hb9.mono (by omega)),c9K hb9 y0,c9K hb9 y1,c9K hb9 y2,by omega⟩
            case measure=>simp [intOf];omega
       · go_wp2_with fail
         go_roundw
         case rel=>exact⟨t+1,by omega,by go_num,HB.out,x0,x1,x2,hw⟩
         case measure=>simp [intOf];omega
  · go_wp2_with fail
    go_ret;exact⟨rfl,HB.out⟩
theorem Zfq:∀ (os:List Obj) (w:World) (k:Nat),k<os.length→(os.foldl World.alloc w).heap[w.heap.size+k]?=os[k]?
 | [],_,k,h=>by simp at h
 | o :: os,w,0,_=>by
  have h2:∀ (os:List Obj) (w:World) (b:Nat),b<w.heap.size→(os.foldl World.alloc w).heap[b]?=w.heap[b]?:=by
   intro os;induction os with
   | nil=>intro w b hb;rfl
   | cons o os ih=>intro w b hb;rw [List.foldl_cons,ih _ _ (by simp;omega)];exact Below.heap_alloc w o b hb
  rw [List.foldl_cons,h2 os _ _ (by simp)];exact heap_alloc_new w o
 | o :: os,w,k+1,h=>by
  have:=Zfq os (w.alloc o) k (by simpa using h);rw [World.size_alloc,show w.heap.size+1+k=w.heap.size+(k+1) by omega] at this;exact this
theorem Zdh:∀ (os:List Obj) (w:World),Below w.heap.size w (os.foldl World.alloc w)∧(os.foldl World.alloc w).heap.size=w.heap.size+os.length
 | [],w=>⟨Below.refl _ _,rfl⟩
 | o :: os,w=>by
  obtain⟨h1,h2⟩:=Zdh os (w.alloc o);refine⟨((Below.refl _ w).alloc nR o).trans (h1.mono (by simp)),?_⟩;rw [List.foldl_cons,h2,World.size_alloc,List.length_cons];omega
def rowN (i:Int) (t:ByteArray):Row:=[⟨4,i,⟨#[]⟩⟩,⟨5,0,t⟩]
def Zbn (i:Int) (t:ByteArray):Array Value:=#[.int .i64 4,.int .i64 i,.string ⟨#[]⟩,.int .i64 5,.int .i64 0,.string t]
abbrev tA:ByteArray:=⟨#[97]⟩
abbrev tB:ByteArray:=⟨#[98]⟩
abbrev tC:ByteArray:=⟨#[99]⟩
def colsB:List Col:=[⟨⟨#[105,100]⟩,4⟩,⟨⟨#[110,97,109,101]⟩,5⟩]
def sB:Sch:=⟨0,[⟨⟨#[116]⟩,colsB,1,[],[]⟩]⟩
def stB:St:=[[rowN 1 tA]]
def ZdB:List Chg:=[⟨0,[],rowN 2 tB⟩,⟨0,rowN 2 tB,[]⟩]
def oneC:List Chg:=[⟨0,[],rowN 1 tC⟩]
def begOs (n:Nat):List Obj:=[
 .cells #[.string ⟨#[105,100]⟩,.int .i64 4,.string ⟨#[110,97,109,101]⟩,.int .i64 5] 34 (0,0),
 .cells #[.string ⟨#[116]⟩,.slice (some ⟨n,0,none⟩) 2 2,.int .i64 1,.slice none 0 0,.slice none 0 0] 39 (0,0),
 .cells #[.int .i64 0,.slice (some ⟨n+1,0,none⟩) 1 1] 25 (0,0),
 .cells (Zbn 1 tA) 51 (0,0),
 .cells #[.slice (some ⟨n+3,0,none⟩) 2 2] 27 (0,0),
 .cells #[.slice (some ⟨n+4,0,none⟩) 1 1] 49 (0,0),
 .cells #[.slice (some ⟨n+5,0,none⟩) 1 1] 56 (0,0),
 .cells (Zbn 2 tB) 51 (0,0),
 .cells (Zbn 2 tB) 51 (0,0),
 .cells #[.int .i64 0,.slice none 0 0,.slice (some ⟨n+7,0,none⟩) 2 2,.int .i64 0,.slice (some ⟨n+8,0,none⟩) 2 2,.slice none 0 0] 53 (0,0)]
section
variable {w:World} {S:Nat→Prop}
theorem Zaa {b:Nat} {cs:Array Value} {t:TypeId} (h:w.heap[b]?=some (.cells cs t (0,0))):CellsAt w b 0 cs.toList:=fun j u hu=>by
 rw [Nat.zero_add];simp only [World.cell?,h];simpa using hu
theorem Zcl {b:Nat} {i:Int} {t:ByteArray} (h:w.heap[b]?=some (.cells (Zbn i t) 51 (0,0))) (hS:S b) (ht:t.size≤64):RowS w S (some ⟨b,0,none⟩) (rowN i t):=by
 refine⟨by rw [Zag (n:=32) (fun _=>rfl)];simp [rowN],fun _=>⟨b,0,rfl,hS,ZbK _ b 0 (fun v hv=>?_) (fun j u hu=>Zaa h j u hu)⟩⟩;simp only [rowN,List.mem_cons,List.not_mem_nil,or_false] at hv;rcases hv with rfl | rfl
 · show (⟨#[]⟩:ByteArray).size≤_;decide
 · show t.size≤_;omega
theorem rows_block {b:Nat} {A:Option Addr} {c:Nat} {r:Row} (h:w.heap[b]?=some (.cells #[.slice A r.length c] 27 (0,0))) (hS:S b) (hc:r.length≤c) (hr:RowS w S A r):RowsS w S (some ⟨b,0,none⟩) [r] :=
 Sl.of_vals (vs:=[.slice A r.length c]) (by rw [Zag (n:=24) (fun _=>rfl)];simp) (ZaA (ZbL hc hr)) (fun _=>⟨b,0,rfl,hS,Zaa h⟩)
theorem st_block {b:Nat} {A:Option Addr} {c:Nat} {l:List Row} (h:w.heap[b]?=some (.cells #[.slice A l.length c] 49 (0,0))) (hS:S b) (hc:l.length≤c) (hr:RowsS w S A l):StS w S (some ⟨b,0,none⟩) [l]:=by
 refine Sl.of_vals (vs:=[.slice A l.length c]) (by rw [Zag (n:=24) (fun _=>rfl)];simp) (ZaA ?_) (fun _=>⟨b,0,rfl,hS,Zaa h⟩);unfold ZbA Dat.Vals;exact⟨A,c,by simp,by simpa using hc,hr⟩
theorem col_block {b:Nat} (h:w.heap[b]?=some (.cells #[.string ⟨#[105,100]⟩,.int .i64 4,.string ⟨#[110,97,109,101]⟩,.int .i64 5] 34 (0,0))) (hS:S b):ColS w S (some ⟨b,0,none⟩) colsB:=by
 have hc:=Zaa h;refine⟨by rw [Zag (n:=24) (fun _=>rfl)];simp [colsB],fun _=>⟨b,0,rfl,hS,?_⟩⟩;simp only [colsB,List.map_cons,List.map_nil,ZdV,Dat.HeldAll,Dat.Held,Dat.size,Dat.sizes,and_true,Zbb,ZaQ];exact⟨⟨⟨hc 0 _ rfl,by decide⟩,hc 1 _ rfl⟩,⟨hc 2 _ rfl,by decide⟩,hc 3 _ rfl⟩
theorem tab_block {b:Nat} {A:Option Addr} {cols:List Col} {key:Int} {name:ByteArray} {n c:Nat} (h:w.heap[b]?=some (.cells #[.string name,.slice A n c,.int .i64 key,.slice none 0 0,.slice none 0 0] 39 (0,0))) (hn:n=cols.length) (hnm:name.size≤64) (hS:S b) (hc:cols.length≤c) (hr:ColS w S A cols):TabS w S (some ⟨b,0,none⟩) [⟨name,cols,key,[],[]⟩]:=by
 subst hn;have hh:=Zaa h;refine⟨by rw [Zag (n:=96) (fun _=>rfl)];simp,fun _=>⟨b,0,rfl,hS,?_⟩⟩;simp only [List.map_cons,List.map_nil,Zbj,Dat.HeldAll,Dat.Held,Dat.size,Dat.sizes,and_true,Zbb,ZaQ,List.length_map,List.length_nil];refine⟨⟨hh 0 _ rfl,by omega⟩,⟨A,c,hh 1 _ rfl,hc,hr.1,fun h0=>hr.2 (by simpa using h0)⟩,hh 2 _ rfl,⟨none,0,hh 3 _ rfl,by omega,by simp [Dat.bytesAll],fun h=>by omega⟩,⟨none,0,hh 4 _ rfl,by omega,by simp [Dat.bytesAll],fun h=>by omega⟩⟩
end
def pc0:List Int→Pred→Int:=fun _ _=>0
theorem Zdk:Zcu pc0 sB:=by
 intro t ht p hp;simp only [sB,List.mem_singleton] at ht;subst ht;simp at hp
theorem apply_both:ZcS (schF pc0 sB) sB 1 stB ZdB=(0,stB):=by kernel_rfl
theorem ZdY:ZcS (schF pc0 sB) sB 1 stB oneC=(81,[]):=by kernel_rfl
theorem net_both:netF (schF pc0 sB) sB 1 ZdB=(0,[]):=by kernel_rfl
theorem ZdP:Inside sB stB stB:=by
 intro t ht k hk;have ht0:t=0:=(by simp [stB] at ht;omega);subst ht0;have hk0:k=0:=(by simp [stB] at hk;omega);subst hk0;exact⟨by decide,by decide,rfl⟩
theorem ZdX {w:World} {S:Nat→Prop} {b g:Nat} {i:Int} {t:ByteArray} (h:w.heap[b]?=some (.cells #[.int .i64 0,.slice none 0 0,.slice (some ⟨g,0,none⟩) 2 2] 53 (0,0))) (hS:S b) (hr:RowS w S (some ⟨g,0,none⟩) (rowN i t)):ChgS w S (some ⟨b,0,none⟩) [⟨0,[],rowN i t⟩] :=
 Sl.of_vals (vs:=[.int .i64 0,.slice none 0 0,.slice (some ⟨g,0,none⟩) 2 2]) (by rw [Zag (n:=56) (fun _=>rfl)];simp) (ZaA (Zca (A:=none) (c:=0) (B:=some ⟨g,0,none⟩) (d:=2) ⟨Nat.le_refl _,RowS.nil_⟩ ⟨Nat.le_refl _,hr⟩)) (fun _=>⟨b,0,rfl,hS,Zaa h⟩)
theorem both_block {w:World} {S:Nat→Prop} {b g h:Nat} (hh:w.heap[b]?=some (.cells #[.int .i64 0,.slice none 0 0,.slice (some ⟨g,0,none⟩) 2 2,.int .i64 0,.slice (some ⟨h,0,none⟩) 2 2,.slice none 0 0] 53 (0,0))) (hS:S b) (hr:RowS w S (some ⟨g,0,none⟩) (rowN 2 tB)) (hr':RowS w S (some ⟨h,0,none⟩) (rowN 2 tB)):ChgS w S (some ⟨b,0,none⟩) ZdB :=
 Sl.of_vals (vs:=[.int .i64 0,.slice none 0 0,.slice (some ⟨g,0,none⟩) 2 2]++[.int .i64 0,.slice (some ⟨h,0,none⟩) 2 2,.slice none 0 0]) (by rw [Zag (n:=56) (fun _=>rfl)];simp [ZdB])
  (Zav (l:=[Zal ⟨0,[],rowN 2 tB⟩]) (ZaA (Zca (A:=none) (c:=0) (B:=some ⟨g,0,none⟩) (d:=2) ⟨Nat.le_refl _,RowS.nil_⟩ ⟨Nat.le_refl _,hr⟩)) (ZaA (Zca (A:=some ⟨h,0,none⟩) (c:=2) (B:=none) (d:=0) ⟨Nat.le_refl _,hr'⟩ ⟨Nat.le_refl _,RowS.nil_⟩))) (fun _=>⟨b,0,rfl,hS,by exact Zaa hh⟩)
theorem Zej (i:Int) (t:ByteArray) (w:World):Calls Try.prog 62 #[.int .i64 i,.string t] w fun e w'=>e=.returned (.slice (some ⟨w.heap.size,0,none⟩) 2 2)∧w'=w.alloc (.cells (Zbn i t) 51):=by
 go_enter Try.func62,Try.ntmps62
 go_wp2
 go_ret;exact⟨rfl,rfl⟩
theorem begun8_any (w:World):Calls Try.prog 20 #[] w (ZaS true w):=by
 go_enter Try.func20,Try.ntmps20
 go_wp2_with (go_at_call 62;refine(Zej _ _ _).mono ?_;rintro e w' ⟨rfl,rfl⟩)
 change Calls Try.prog _ _ ((begOs w.heap.size).foldl World.alloc w) _;obtain⟨W,hW⟩:∃ W,(begOs w.heap.size).foldl World.alloc w=W:=⟨_,rfl⟩;obtain⟨hWB,hWs⟩:=Zdh (begOs w.heap.size) w;have hk:∀ k (hk:k<10),W.heap[w.heap.size+k]?=(begOs w.heap.size)[k]?:=(fun k hk=>by rw [←hW];exact Zfq _ _ _ hk);rw [hW] at hWB hWs;have hWs':W.heap.size=w.heap.size+10:=hWs;have HWB0:=hI hWB;have HT:=hI (show TabS W (fun b=>b<W.heap.size) (some ⟨w.heap.size+1,0,none⟩) sB.tabs from tab_block (hk 1 (by omega)) rfl (by decide) (by omega) (by decide) (col_block (hk 0 (by omega)) (by omega)));have HST:=hI (show StS W (fun b=>b<W.heap.size) (some ⟨w.heap.size+1+1+1+1+1,0,none⟩) stB from st_block (hk 5 (by omega)) (by omega) (by decide) (rows_block (hk 4 (by omega)) (by omega) (by decide) (Zcl (hk 3 (by omega)) (by omega) (by decide))));have HBO:=hI (show ChgS W (fun b=>b<W.heap.size) (some ⟨w.heap.size+1+1+1+1+1+1+1+1+1,0,none⟩) ZdB from both_block (hk 9 (by omega)) (by omega) (Zcl (hk 7 (by omega)) (by omega) (by decide)) (Zcl (hk 8 (by omega)) (by omega) (by decide)));have y0:W.cell? ⟨w.heap.size+1+1,0,none⟩=some (.int .i64 0):=(Zaa (hk 2 (by omega))) 0 _ rfl;have y1:W.cell? ⟨w.heap.size+1+1,1,none⟩=some (.slice (some ⟨w.heap.size+1,0,none⟩) 1 1):=(Zaa (hk 2 (by omega))) 1 _ rfl;have y2:W.cell? ⟨w.heap.size+1+1+1+1+1+1,0,none⟩=some (.slice (some ⟨w.heap.size+1+1+1+1+1,0,none⟩) 1 1):=(Zaa (hk 6 (by omega))) 0 _ rfl;rw [hW];have HWS:=hI hWs';clear hW hk hWs hWB;have hl0:w.heap.size+10≤W.heap.size:=(by omega);clear hWs';have hAP:=Zdg pc0 (some ⟨w.heap.size+1,0,none⟩) 1 sB 1 (some ⟨w.heap.size+1+1+1+1+1,0,none⟩) 1 stB (some ⟨w.heap.size+1+1+1+1+1+1+1+1+1,0,none⟩) 2 ZdB (fun b=>b<W.heap.size) W HT.out HST.out HBO.out (fun b hb=>hb) Zdk (by decide);rw [apply_both] at hAP;refine(show Calls _ _ _ _ _ from hAP).mono ?_;rintro e w1 ⟨A4,c4,rfl,hc4,hS4,hb4⟩;clear hAP;have HS4:=hI hS4;have HC4:=hI hc4;have hz1:=hb4.size;have HB1:=hI hb4;have z0:=c9K hb4 y0;have z1:=c9K hb4 y1;have z2:=c9K hb4 y2;have hq0:w.heap.size+1+1<w1.heap.size:=(by omega);have hq1:w.heap.size+1+1+1+1+1+1<w1.heap.size:=(by omega);clear hb4 hS4 hc4;dsimp only
 go_wp2_with fail
 obtain⟨w1',hw1'⟩:∃ w1',w1.alloc (.cells #[.slice A4 1 c4] 56)=w1':=⟨_,rfl⟩;have hbA1:Below w1.heap.size w1 w1':=(by rw [←hw1'];exact(Below.refl _ _).alloc nR _);have hkX1:w1'.heap[w1.heap.size]?=some (.cells #[.slice A4 1 c4] 56 (0,0)):=(by rw [←hw1'];exact heap_alloc_new w1 _);have hz1':=hbA1.size;have hlX1:=Zad hkX1;change Calls Try.prog _ _ (w1.alloc (.cells #[.slice A4 1 c4] 56)) _;rw [hw1'];clear hw1';have HB1':=hI (HB1.out.trans (hbA1.mono hz1));have hNE:=net_any pc0 (some ⟨w.heap.size+1,0,none⟩) 1 sB 1 (some ⟨w.heap.size+1+1+1+1+1+1+1+1+1,0,none⟩) 2 ZdB (fun b=>b<W.heap.size) w1' (HT.out.keep (fun b hb=>HB1'.out.block b hb)) (HBO.out.keep (fun b hb=>HB1'.out.block b hb)) (fun b hb=>by omega) Zdk (by decide) (by decide);rw [net_both] at hNE;refine(show Calls _ _ _ _ _ from hNE).mono ?_;rintro e w2 ⟨A5,c5,rfl,-,-,hb5⟩;clear hNE;have hz2:=hb5.size;have HWB:=hI (HB1'.out.trans (hb5.mono (by omega)));have HWB0:=hI (HWB0.out.trans (HWB.out.mono (by omega)));have x0:=(hb5.cell (p:=⟨w.heap.size+1+1,0,none⟩) (by simp;omega)).trans (c9K hbA1 z0);have x1:=(hb5.cell (p:=⟨w.heap.size+1+1,1,none⟩) (by simp;omega)).trans (c9K hbA1 z1);have x2:=(hb5.cell (p:=⟨w.heap.size+1+1+1+1+1+1,0,none⟩) (by simp;omega)).trans (c9K hbA1 z2);have HKX:=hI ((hb5.block _ hlX1).trans hkX1);have HX4:=hI ((HS4.out.keep (w':=w2) (fun b hb=>(hb5.block b (by have:=hb.2;omega)).trans (hbA1.block b hb.2))).more (S':=fun b=>b<w2.heap.size) (fun b hb=>by have:=hb.2;omega));clear hb5 hbA1 hkX1 z0 z1 z2 y0 y1 y2 HS4;have y0:=x0;have y1:=x1;have y2:=x2;have HBw2:=hI (Below.refl w2.heap.size w2);dsimp only
 go_wp2_with fail
 refine tS (fun w'=>w'.cell? ⟨w.heap.size+1+1,0,none⟩=some (.int .i64 0)∧w'.cell? ⟨w.heap.size+1+1,1,none⟩=some (.slice (some ⟨w.heap.size+1,0,none⟩) 1 1)∧w'.cell? ⟨w.heap.size+1+1+1+1+1+1,0,none⟩=some (.slice (some ⟨w.heap.size+1+1+1+1+1,0,none⟩) 1 1)) 13 12 fun Q' HQ HP=>?_;obtain⟨wd,hwd⟩:∃ wd,w2.drew=wd:=⟨_,rfl⟩;have hbd:Below w2.heap.size w2 wd:=(by rw [←hwd];exact(Below.refl _ w2).drew);rw [hwd];clear hwd;have x0:=c9K hbd x0;have x1:=c9K hbd x1;have x2:=c9K hbd x2;have hzwd:w2.heap.size≤wd.heap.size:=hbd.size;have HBwd:=hI hbd;clear hbd;refine tW 0 39 1 40 (bA 12 3) HP.out ⟨x0,x1,x2⟩ ?_;refine Zbh (i:=2) (j:=9) (oi:=⟨some 41,_,_,_,_,_⟩) (oj:=⟨some 8,_,_,_,_,_⟩) (Li:=(bA 12 7)) (Lj:=(bA 12 515)) rfl rfl (by kernel_rfl) (by kernel_rfl) (by kernel_rfl) (fun K hK=>?_) (fun K hK=>?_)
 · have HK:=hI hK;clear hK;go_simp;refine(Zej 1 tC wd).mono ?_;rintro e w' ⟨rfl,rfl⟩;obtain⟨v1,hv1⟩:∃ v1,wd.alloc (.cells (Zbn 1 tC) 51)=v1:=⟨_,rfl⟩;have hbN:Below wd.heap.size wd v1:=(by rw [←hv1];exact(Below.refl _ _).alloc nR _);have hkN:v1.heap[wd.heap.size]?=some (.cells (Zbn 1 tC) 51 (0,0)):=(by rw [←hv1];exact heap_alloc_new wd _);rw [hv1];clear hv1;have x0:v1.cell? ⟨w.heap.size+1+1,0,none⟩=_:=c9K hbN x0;have x1:v1.cell? ⟨w.heap.size+1+1,1,none⟩=_:=c9K hbN x1;have x2:v1.cell? ⟨w.heap.size+1+1+1+1+1+1,0,none⟩=_:=c9K hbN x2;have hzv1:wd.heap.size≤v1.heap.size:=hbN.size;have HBv1:=hI (show Below w2.heap.size w2 v1 from HBwd.out.trans (hbN.mono (by omega)));have hlN:wd.heap.size<v1.heap.size:=Zad hkN;refine HK.out _ _ (fun _=>⟨x0,x1,x2⟩) ?_;clear HK K
   try simp only [Act.put,psA,psB,psC]
   refine tJ 3 42 (bA 12 15) HP.out ⟨x0,x1,x2⟩ ?_;refine Zbh (i:=4) (j:=9) (oi:=⟨some 43,_,_,_,_,_⟩) (oj:=⟨some 8,_,_,_,_,_⟩) (Li:=(bA 12 31)) (Lj:=(bA 12 527)) rfl rfl (by kernel_rfl) (by kernel_rfl) (by kernel_rfl) (fun K hK=>?_) (fun K hK=>?_)
   · have HK:=hI hK;clear hK;go_simp;obtain⟨v2,hv2⟩:∃ v2,v1.alloc (.cells #[.int .i64 0,.slice none 0 0,.slice (some ⟨wd.heap.size,0,none⟩) 2 2] 53)=v2:=⟨_,rfl⟩;have hbC:Below v1.heap.size v1 v2:=(by rw [←hv2];exact(Below.refl _ _).alloc nR _);have hkC:v2.heap[v1.heap.size]?=some (.cells #[.int .i64 0,.slice none 0 0,.slice (some ⟨wd.heap.size,0,none⟩) 2 2] 53 (0,0)):=(by rw [←hv2];exact heap_alloc_new v1 _);have hkN:v2.heap[wd.heap.size]?=some (.cells (Zbn 1 tC) 51 (0,0)):=(hbC.block _ (by omega)).trans hkN;rw [hv2];clear hv2;have x0:v2.cell? ⟨w.heap.size+1+1,0,none⟩=_:=c9K hbC x0;have x1:v2.cell? ⟨w.heap.size+1+1,1,none⟩=_:=c9K hbC x1;have x2:v2.cell? ⟨w.heap.size+1+1+1+1+1+1,0,none⟩=_:=c9K hbC x2;have hzv2:v1.heap.size≤v2.heap.size:=hbC.size;have HBv2:=hI (show Below w2.heap.size w2 v2 from HBv1.out.trans (hbC.mono (by omega)));have hlC:v1.heap.size<v2.heap.size:=Zad hkC;refine HK.out _ _ (fun _=>⟨x0,x1,x2⟩) ?_;clear HK K
     try simp only [Act.put,psA,psB,psC]
     refine Zbh (i:=5) (j:=9) (oi:=⟨some 44,_,_,_,_,_⟩) (oj:=⟨some 8,_,_,_,_,_⟩) (Li:=(bA 12 63)) (Lj:=(bA 12 543)) rfl rfl (by kernel_rfl) (by kernel_rfl) (by kernel_rfl) (fun K hK=>?_) (fun K hK=>?_)
     · have HK:=hI hK;clear hK;go_simp;have hAP:=Zdg pc0 (some ⟨w.heap.size+1,0,none⟩) 1 sB 1 (some ⟨w.heap.size+1+1+1+1+1,0,none⟩) 1 stB (some ⟨v1.heap.size,0,none⟩) 1 oneC (fun b=>b<v2.heap.size) v2 ((HT.out.keep (fun b hb=>(HBv2.out.block b (by omega)).trans (HWB.out.block b hb))).more (fun b hb=>by omega)) ((HST.out.keep (fun b hb=>(HBv2.out.block b (by omega)).trans (HWB.out.block b hb))).more (fun b hb=>by omega)) (ZdX hkC (by omega) (Zcl hkN (by omega) (by decide))) (fun b hb=>hb) Zdk (by decide);rw [ZdY] at hAP;refine(show Calls _ _ _ _ _ from hAP).mono ?_;rintro e v3 ⟨A9,c9,rfl,-,-,hbP⟩;clear hAP;have x0:v3.cell? ⟨w.heap.size+1+1,0,none⟩=_:=c9K hbP x0;have x1:v3.cell? ⟨w.heap.size+1+1,1,none⟩=_:=c9K hbP x1;have x2:v3.cell? ⟨w.heap.size+1+1+1+1+1+1,0,none⟩=_:=c9K hbP x2;have hzv3:v2.heap.size≤v3.heap.size:=hbP.size;have HBv3:=hI (show Below w2.heap.size w2 v3 from HBv2.out.trans (hbP.mono (by omega)));refine HK.out _ _ (fun _=>⟨x0,x1,x2⟩) ?_;clear HK K
       try simp only [Act.put,psA,psB,psC]
       refine tW 6 38 7 45 (bA 12 255) HP.out ⟨x0,x1,x2⟩ ?_;refine tJ 8 46 (bA 12 511) HP.out ⟨x0,x1,x2⟩ ?_;refine tQ 9 (some 8) (bA 12 1023) fun K HK=>?_;go_simp;obtain⟨v4,hv4⟩:∃ v4,v3.alloc (.cells #[.slice none 0 0] 56)=v4:=⟨_,rfl⟩;have hbA:Below v3.heap.size v3 v4:=(by rw [←hv4];exact(Below.refl _ _).alloc nR _);have hkA:v4.heap[v3.heap.size]?=some (.cells #[.slice none 0 0] 56 (0,0)):=(by rw [←hv4];exact heap_alloc_new v3 _);rw [hv4];clear hv4;have x0:v4.cell? ⟨w.heap.size+1+1,0,none⟩=_:=c9K hbA x0;have x1:v4.cell? ⟨w.heap.size+1+1,1,none⟩=_:=c9K hbA x1;have x2:v4.cell? ⟨w.heap.size+1+1+1+1+1+1,0,none⟩=_:=c9K hbA x2;have hzv4:v3.heap.size≤v4.heap.size:=hbA.size;have HBv4:=hI (show Below w2.heap.size w2 v4 from HBv3.out.trans (hbA.mono (by omega)));have hlA:v3.heap.size<v4.heap.size:=Zad hkA;refine HK.out _ _ (fun _=>⟨x0,x1,x2⟩) ?_;clear HK K
       try simp only [Act.put,psA,psB,psC]
       refine tQ 10 none (bA 12 2047) fun K HK=>?_;have hca:v4.cell? ⟨v3.heap.size,0,none⟩=some (.slice none 0 0):=(by simp [World.cell?,hkA]);have hfa:v4.frozen? ⟨v3.heap.size,0,none⟩=false:=(by simp [World.frozen?,hkA]);go_simp;obtain⟨vE,hvE⟩:∃ vE,v4.setCell ⟨v3.heap.size,0,none⟩ (.slice A9 0 c9)=vE:=⟨_,rfl⟩;have hbE:Below w2.heap.size w2 vE:=(by rw [←hvE];exact HBv4.out.setCell (p:=⟨v3.heap.size,0,none⟩) (by simp;omega) _);have x0:vE.cell? ⟨w.heap.size+1+1,0,none⟩=_:=c9K hbE y0;have x1:vE.cell? ⟨w.heap.size+1+1,1,none⟩=_:=c9K hbE y1;have x2:vE.cell? ⟨w.heap.size+1+1+1+1+1+1,0,none⟩=_:=c9K hbE y2;have hszE:w2.heap.size≤vE.heap.size:=hbE.size;have HBE:=hI hbE;clear hca hfa hkA hbE
       try rw [hvE]
       clear hvE;refine HK.out _ _ (fun _=>⟨x0,x1,x2⟩) ?_;clear HK K
       try simp only [Act.put,psA,psB,psC]
       refine tJ 11 9 (bA 12 4095) HP.out ⟨x0,x1,x2⟩ ?_;refine tE HQ ?_;clear HQ HP Q';have HBEV:=hI (show Below w.heap.size w vE from HWB0.out.trans (HBE.out.mono (by omega)));have HWE:=hI (show Below W.heap.size W vE from HWB.out.trans (HBE.out.mono (by omega)));have hx4:vE.cell? ⟨w1.heap.size,0,none⟩=some (.slice A4 1 c4):=Zaa ((HBE.out.block _ (by omega)).trans HKX.out) 0 _ rfl;have HX4E:=hI (HX4.out.keep (w':=vE) (fun b hb=>HBE.out.block b hb))
       go_wp2_with fail
       refine(show Calls _ _ _ _ _ from ZcC A4 c4 stB (fun b=>b<w2.heap.size) vE HX4E.out (fun b hb=>by omega) (by decide)).mono ?_;rintro e wF ⟨rfl,hbF⟩;rw [show ((Zak stB:Nat):Int)=1 from rfl];have hx4:=c9K hbF hx4;have x0:=c9K hbF x0;have x1:=c9K hbF x1;have x2:=c9K hbF x2;have hzF:vE.heap.size≤wF.heap.size:=hbF.size;have HWF:=hI (HWE.out.trans (hbF.mono (by omega)));have HBF:=hI (HBEV.out.trans (hbF.mono (by omega)));have HX4F:=hI (HX4E.out.keep (w':=wF) (fun b hb=>hbF.block b (by omega)));clear hbF
       go_wp2_with fail
       refine(show Calls _ _ _ _ _ from Zdl (some ⟨w.heap.size+1+1+1+1+1+1+1+1+1,0,none⟩) 2 ZdB (fun b=>b<W.heap.size) wF (HBO.out.keep (fun b hb=>HWF.out.block b hb)) (fun b hb=>by omega)).mono ?_;rintro e wG ⟨A6,c6,rfl,-,-,hbG⟩;rw [show (invF ZdB).length=2 from rfl];have hx4:=c9K hbG hx4;have x0:=c9K hbG x0;have x1:=c9K hbG x1;have x2:=c9K hbG x2;have hzG:wF.heap.size≤wG.heap.size:=hbG.size;have HWG:=hI (HWF.out.trans (hbG.mono (by omega)));have HBG:=hI (HBF.out.trans (hbG.mono (by omega)));have HX4G:=hI (HX4F.out.keep (w':=wG) (fun b hb=>hbG.block b (by omega)));clear hbG
       go_wp2_with fail
       refine(show Calls _ _ _ _ _ from ZcF (some ⟨w.heap.size+1,0,none⟩) 1 sB (some ⟨w.heap.size+1+1+1+1+1,0,none⟩) 1 stB A4 c4 stB (fun b=>b<w2.heap.size) wG ((HT.out.keep (fun b hb=>HWG.out.block b hb)).more (fun b hb=>by omega)) ((HST.out.keep (fun b hb=>HWG.out.block b hb)).more (fun b hb=>by omega)) HX4G.out (fun b hb=>by omega) ZdP).mono ?_;rintro e wH ⟨rfl,hbH⟩;have HBH:=hI (HBG.out.trans (hbH.mono (by omega)));clear hbH
       go_wp2_with fail
       go_ret;exact⟨rfl,HBH.out⟩
     · have HK:=hI hK;clear hK;go_simp;obtain⟨v5,hv5⟩:∃ v5,v2.alloc (.cells #[.slice none 0 0] 56)=v5:=⟨_,rfl⟩;have hbA:Below v2.heap.size v2 v5:=(by rw [←hv5];exact(Below.refl _ _).alloc nR _);have hkA:v5.heap[v2.heap.size]?=some (.cells #[.slice none 0 0] 56 (0,0)):=(by rw [←hv5];exact heap_alloc_new v2 _);have hkN:v5.heap[wd.heap.size]?=some (.cells (Zbn 1 tC) 51 (0,0)):=(hbA.block _ (by omega)).trans hkN;have hkC:v5.heap[v1.heap.size]?=some (.cells #[.int .i64 0,.slice none 0 0,.slice (some ⟨wd.heap.size,0,none⟩) 2 2] 53 (0,0)):=(hbA.block _ (by omega)).trans hkC;rw [hv5];clear hv5;have x0:v5.cell? ⟨w.heap.size+1+1,0,none⟩=_:=c9K hbA x0;have x1:v5.cell? ⟨w.heap.size+1+1,1,none⟩=_:=c9K hbA x1;have x2:v5.cell? ⟨w.heap.size+1+1+1+1+1+1,0,none⟩=_:=c9K hbA x2;have hzv5:v2.heap.size≤v5.heap.size:=hbA.size;have HBv5:=hI (show Below w2.heap.size w2 v5 from HBv2.out.trans (hbA.mono (by omega)));have hlA:v2.heap.size<v5.heap.size:=Zad hkA;refine HK.out _ _ (fun _=>⟨x0,x1,x2⟩) ?_;clear HK K
       try simp only [Act.put,psA,psB,psC]
       refine tQ 5 (some 44) (bA 12 575) fun K HK=>?_;go_simp;have hAP:=Zdg pc0 (some ⟨w.heap.size+1,0,none⟩) 1 sB 1 (some ⟨w.heap.size+1+1+1+1+1,0,none⟩) 1 stB (some ⟨v1.heap.size,0,none⟩) 1 oneC (fun b=>b<v5.heap.size) v5 ((HT.out.keep (fun b hb=>(HBv5.out.block b (by omega)).trans (HWB.out.block b hb))).more (fun b hb=>by omega)) ((HST.out.keep (fun b hb=>(HBv5.out.block b (by omega)).trans (HWB.out.block b hb))).more (fun b hb=>by omega)) (ZdX hkC (by omega) (Zcl hkN (by omega) (by decide))) (fun b hb=>hb) Zdk (by decide);rw [ZdY] at hAP;refine(show Calls _ _ _ _ _ from hAP).mono ?_;rintro e v6 ⟨A9,c9,rfl,-,-,hbP⟩;have hkA:v6.heap[v2.heap.size]?=some (.cells #[.slice none 0 0] 56 (0,0)):=(hbP.block _ (by omega)).trans hkA;clear hAP;have x0:v6.cell? ⟨w.heap.size+1+1,0,none⟩=_:=c9K hbP x0;have x1:v6.cell? ⟨w.heap.size+1+1,1,none⟩=_:=c9K hbP x1;have x2:v6.cell? ⟨w.heap.size+1+1+1+1+1+1,0,none⟩=_:=c9K hbP x2;have hzv6:v5.heap.size≤v6.heap.size:=hbP.size;have HBv6:=hI (show Below w2.heap.size w2 v6 from HBv5.out.trans (hbP.mono (by omega)));refine HK.out _ _ (fun _=>⟨x0,x1,x2⟩) ?_;clear HK K
       try simp only [Act.put,psA,psB,psC]
       refine tW 6 38 7 45 (bA 12 767) HP.out ⟨x0,x1,x2⟩ ?_;refine tJ 8 46 (bA 12 1023) HP.out ⟨x0,x1,x2⟩ ?_;refine tQ 10 none (bA 12 2047) fun K HK=>?_;have hca:v6.cell? ⟨v2.heap.size,0,none⟩=some (.slice none 0 0):=(by simp [World.cell?,hkA]);have hfa:v6.frozen? ⟨v2.heap.size,0,none⟩=false:=(by simp [World.frozen?,hkA]);go_simp;obtain⟨vE,hvE⟩:∃ vE,v6.setCell ⟨v2.heap.size,0,none⟩ (.slice A9 0 c9)=vE:=⟨_,rfl⟩;have hbE:Below w2.heap.size w2 vE:=(by rw [←hvE];exact HBv6.out.setCell (p:=⟨v2.heap.size,0,none⟩) (by simp;omega) _);have x0:vE.cell? ⟨w.heap.size+1+1,0,none⟩=_:=c9K hbE y0;have x1:vE.cell? ⟨w.heap.size+1+1,1,none⟩=_:=c9K hbE y1;have x2:vE.cell? ⟨w.heap.size+1+1+1+1+1+1,0,none⟩=_:=c9K hbE y2;have hszE:w2.heap.size≤vE.heap.size:=hbE.size;have HBE:=hI hbE;clear hca hfa hkA hbE
       try rw [hvE]
       clear hvE;refine HK.out _ _ (fun _=>⟨x0,x1,x2⟩) ?_;clear HK K
       try simp only [Act.put,psA,psB,psC]
       refine tJ 11 9 (bA 12 4095) HP.out ⟨x0,x1,x2⟩ ?_;refine tE HQ ?_;clear HQ HP Q';have HBEV:=hI (show Below w.heap.size w vE from HWB0.out.trans (HBE.out.mono (by omega)));have HWE:=hI (show Below W.heap.size W vE from HWB.out.trans (HBE.out.mono (by omega)));have hx4:vE.cell? ⟨w1.heap.size,0,none⟩=some (.slice A4 1 c4):=Zaa ((HBE.out.block _ (by omega)).trans HKX.out) 0 _ rfl;have HX4E:=hI (HX4.out.keep (w':=vE) (fun b hb=>HBE.out.block b hb))
       go_wp2_with fail
       refine(show Calls _ _ _ _ _ from ZcC A4 c4 stB (fun b=>b<w2.heap.size) vE HX4E.out (fun b hb=>by omega) (by decide)).mono ?_;rintro e wF ⟨rfl,hbF⟩;rw [show ((Zak stB:Nat):Int)=1 from rfl];have hx4:=c9K hbF hx4;have x0:=c9K hbF x0;have x1:=c9K hbF x1;have x2:=c9K hbF x2;have hzF:vE.heap.size≤wF.heap.size:=hbF.size;have HWF:=hI (HWE.out.trans (hbF.mono (by omega)));have HBF:=hI (HBEV.out.trans (hbF.mono (by omega)));have HX4F:=hI (HX4E.out.keep (w':=wF) (fun b hb=>hbF.block b (by omega)));clear hbF
       go_wp2_with fail
       refine(show Calls _ _ _ _ _ from Zdl (some ⟨w.heap.size+1+1+1+1+1+1+1+1+1,0,none⟩) 2 ZdB (fun b=>b<W.heap.size) wF (HBO.out.keep (fun b hb=>HWF.out.block b hb)) (fun b hb=>by omega)).mono ?_;rintro e wG ⟨A6,c6,rfl,-,-,hbG⟩;rw [show (invF ZdB).length=2 from rfl];have hx4:=c9K hbG hx4;have x0:=c9K hbG x0;have x1:=c9K hbG x1;have x2:=c9K hbG x2;have hzG:wF.heap.size≤wG.heap.size:=hbG.size;have HWG:=hI (HWF.out.trans (hbG.mono (by omega)));have HBG:=hI (HBF.out.trans (hbG.mono (by omega)));have HX4G:=hI (HX4F.out.keep (w':=wG) (fun b hb=>hbG.block b (by omega)));clear hbG
       go_wp2_with fail
       refine(show Calls _ _ _ _ _ from ZcF (some ⟨w.heap.size+1,0,none⟩) 1 sB (some ⟨w.heap.size+1+1+1+1+1,0,none⟩) 1 stB A4 c4 stB (fun b=>b<w2.heap.size) wG ((HT.out.keep (fun b hb=>HWG.out.block b hb)).more (fun b hb=>by omega)) ((HST.out.keep (fun b hb=>HWG.out.block b hb)).more (fun b hb=>by omega)) HX4G.out (fun b hb=>by omega) ZdP).mono ?_;rintro e wH ⟨rfl,hbH⟩;have HBH:=hI (HBG.out.trans (hbH.mono (by omega)));clear hbH
       go_wp2_with fail
       go_ret;exact⟨rfl,HBH.out⟩
   · have HK:=hI hK;clear hK;go_simp;obtain⟨v7,hv7⟩:∃ v7,v1.alloc (.cells #[.slice none 0 0] 56)=v7:=⟨_,rfl⟩;have hbA:Below v1.heap.size v1 v7:=(by rw [←hv7];exact(Below.refl _ _).alloc nR _);have hkA:v7.heap[v1.heap.size]?=some (.cells #[.slice none 0 0] 56 (0,0)):=(by rw [←hv7];exact heap_alloc_new v1 _);have hkN:v7.heap[wd.heap.size]?=some (.cells (Zbn 1 tC) 51 (0,0)):=(hbA.block _ (by omega)).trans hkN;rw [hv7];clear hv7;have x0:v7.cell? ⟨w.heap.size+1+1,0,none⟩=_:=c9K hbA x0;have x1:v7.cell? ⟨w.heap.size+1+1,1,none⟩=_:=c9K hbA x1;have x2:v7.cell? ⟨w.heap.size+1+1+1+1+1+1,0,none⟩=_:=c9K hbA x2;have hzv7:v1.heap.size≤v7.heap.size:=hbA.size;have HBv7:=hI (show Below w2.heap.size w2 v7 from HBv1.out.trans (hbA.mono (by omega)));have hlA:v1.heap.size<v7.heap.size:=Zad hkA;refine HK.out _ _ (fun _=>⟨x0,x1,x2⟩) ?_;clear HK K
     try simp only [Act.put,psA,psB,psC]
     refine tQ 4 (some 43) (bA 12 543) fun K HK=>?_;go_simp;obtain⟨v8,hv8⟩:∃ v8,v7.alloc (.cells #[.int .i64 0,.slice none 0 0,.slice (some ⟨wd.heap.size,0,none⟩) 2 2] 53)=v8:=⟨_,rfl⟩;have hbC:Below v7.heap.size v7 v8:=(by rw [←hv8];exact(Below.refl _ _).alloc nR _);have hkC:v8.heap[v7.heap.size]?=some (.cells #[.int .i64 0,.slice none 0 0,.slice (some ⟨wd.heap.size,0,none⟩) 2 2] 53 (0,0)):=(by rw [←hv8];exact heap_alloc_new v7 _);have hkN:v8.heap[wd.heap.size]?=some (.cells (Zbn 1 tC) 51 (0,0)):=(hbC.block _ (by omega)).trans hkN;rw [hv8];clear hv8;have hkA:v8.heap[v1.heap.size]?=some (.cells #[.slice none 0 0] 56 (0,0)):=(hbC.block _ (by omega)).trans hkA;have x0:v8.cell? ⟨w.heap.size+1+1,0,none⟩=_:=c9K hbC x0;have x1:v8.cell? ⟨w.heap.size+1+1,1,none⟩=_:=c9K hbC x1;have x2:v8.cell? ⟨w.heap.size+1+1+1+1+1+1,0,none⟩=_:=c9K hbC x2;have hzv8:v7.heap.size≤v8.heap.size:=hbC.size;have HBv8:=hI (show Below w2.heap.size w2 v8 from HBv7.out.trans (hbC.mono (by omega)));have hlC:v7.heap.size<v8.heap.size:=Zad hkC;refine HK.out _ _ (fun _=>⟨x0,x1,x2⟩) ?_;clear HK K
     try simp only [Act.put,psA,psB,psC]
     refine tQ 5 (some 44) (bA 12 575) fun K HK=>?_;go_simp;have hAP:=Zdg pc0 (some ⟨w.heap.size+1,0,none⟩) 1 sB 1 (some ⟨w.heap.size+1+1+1+1+1,0,none⟩) 1 stB (some ⟨v7.heap.size,0,none⟩) 1 oneC (fun b=>b<v8.heap.size) v8 ((HT.out.keep (fun b hb=>(HBv8.out.block b (by omega)).trans (HWB.out.block b hb))).more (fun b hb=>by omega)) ((HST.out.keep (fun b hb=>(HBv8.out.block b (by omega)).trans (HWB.out.block b hb))).more (fun b hb=>by omega)) (ZdX hkC (by omega) (Zcl hkN (by omega) (by decide))) (fun b hb=>hb) Zdk (by decide);rw [ZdY] at hAP;refine(show Calls _ _ _ _ _ from hAP).mono ?_;rintro e v9 ⟨A9,c9,rfl,-,-,hbP⟩;have hkA:v9.heap[v1.heap.size]?=some (.cells #[.slice none 0 0] 56 (0,0)):=(hbP.block _ (by omega)).trans hkA;clear hAP;have x0:v9.cell? ⟨w.heap.size+1+1,0,none⟩=_:=c9K hbP x0;have x1:v9.cell? ⟨w.heap.size+1+1,1,none⟩=_:=c9K hbP x1;have x2:v9.cell? ⟨w.heap.size+1+1+1+1+1+1,0,none⟩=_:=c9K hbP x2;have hzv9:v8.heap.size≤v9.heap.size:=hbP.size;have HBv9:=hI (show Below w2.heap.size w2 v9 from HBv8.out.trans (hbP.mono (by omega)));refine HK.out _ _ (fun _=>⟨x0,x1,x2⟩) ?_;clear HK K
     try simp only [Act.put,psA,psB,psC]
     refine tW 6 38 7 45 (bA 12 767) HP.out ⟨x0,x1,x2⟩ ?_;refine tJ 8 46 (bA 12 1023) HP.out ⟨x0,x1,x2⟩ ?_;refine tQ 10 none (bA 12 2047) fun K HK=>?_;have hca:v9.cell? ⟨v1.heap.size,0,none⟩=some (.slice none 0 0):=(by simp [World.cell?,hkA]);have hfa:v9.frozen? ⟨v1.heap.size,0,none⟩=false:=(by simp [World.frozen?,hkA]);go_simp;obtain⟨vE,hvE⟩:∃ vE,v9.setCell ⟨v1.heap.size,0,none⟩ (.slice A9 0 c9)=vE:=⟨_,rfl⟩;have hbE:Below w2.heap.size w2 vE:=(by rw [←hvE];exact HBv9.out.setCell (p:=⟨v1.heap.size,0,none⟩) (by simp;omega) _);have x0:vE.cell? ⟨w.heap.size+1+1,0,none⟩=_:=c9K hbE y0;have x1:vE.cell? ⟨w.heap.size+1+1,1,none⟩=_:=c9K hbE y1;have x2:vE.cell? ⟨w.heap.size+1+1+1+1+1+1,0,none⟩=_:=c9K hbE y2;have hszE:w2.heap.size≤vE.heap.size:=hbE.size;have HBE:=hI hbE;clear hca hfa hkA hbE
     try rw [hvE]
     clear hvE;refine HK.out _ _ (fun _=>⟨x0,x1,x2⟩) ?_;clear HK K
     try simp only [Act.put,psA,psB,psC]
     refine tJ 11 9 (bA 12 4095) HP.out ⟨x0,x1,x2⟩ ?_;refine tE HQ ?_;clear HQ HP Q';have HBEV:=hI (show Below w.heap.size w vE from HWB0.out.trans (HBE.out.mono (by omega)));have HWE:=hI (show Below W.heap.size W vE from HWB.out.trans (HBE.out.mono (by omega)));have hx4:vE.cell? ⟨w1.heap.size,0,none⟩=some (.slice A4 1 c4):=Zaa ((HBE.out.block _ (by omega)).trans HKX.out) 0 _ rfl;have HX4E:=hI (HX4.out.keep (w':=vE) (fun b hb=>HBE.out.block b hb))
     go_wp2_with fail
     refine(show Calls _ _ _ _ _ from ZcC A4 c4 stB (fun b=>b<w2.heap.size) vE HX4E.out (fun b hb=>by omega) (by decide)).mono ?_;rintro e wF ⟨rfl,hbF⟩;rw [show ((Zak stB:Nat):Int)=1 from rfl];have hx4:=c9K hbF hx4;have x0:=c9K hbF x0;have x1:=c9K hbF x1;have x2:=c9K hbF x2;have hzF:vE.heap.size≤wF.heap.size:=hbF.size;have HWF:=hI (HWE.out.trans (hbF.mono (by omega)));have HBF:=hI (HBEV.out.trans (hbF.mono (by omega)));have HX4F:=hI (HX4E.out.keep (w':=wF) (fun b hb=>hbF.block b (by omega)));clear hbF
     go_wp2_with fail
     refine(show Calls _ _ _ _ _ from Zdl (some ⟨w.heap.size+1+1+1+1+1+1+1+1+1,0,none⟩) 2 ZdB (fun b=>b<W.heap.size) wF (HBO.out.keep (fun b hb=>HWF.out.block b hb)) (fun b hb=>by omega)).mono ?_;rintro e wG ⟨A6,c6,rfl,-,-,hbG⟩;rw [show (invF ZdB).length=2 from rfl];have hx4:=c9K hbG hx4;have x0:=c9K hbG x0;have x1:=c9K hbG x1;have x2:=c9K hbG x2;have hzG:wF.heap.size≤wG.heap.size:=hbG.size;have HWG:=hI (HWF.out.trans (hbG.mono (by omega)));have HBG:=hI (HBF.out.trans (hbG.mono (by omega)));have HX4G:=hI (HX4F.out.keep (w':=wG) (fun b hb=>hbG.block b (by omega)));clear hbG
     go_wp2_with fail
     refine(show Calls _ _ _ _ _ from ZcF (some ⟨w.heap.size+1,0,none⟩) 1 sB (some ⟨w.heap.size+1+1+1+1+1,0,none⟩) 1 stB A4 c4 stB (fun b=>b<w2.heap.size) wG ((HT.out.keep (fun b hb=>HWG.out.block b hb)).more (fun b hb=>by omega)) ((HST.out.keep (fun b hb=>HWG.out.block b hb)).more (fun b hb=>by omega)) HX4G.out (fun b hb=>by omega) ZdP).mono ?_;rintro e wH ⟨rfl,hbH⟩;have HBH:=hI (HBG.out.trans (hbH.mono (by omega)));clear hbH
     go_wp2_with fail
     go_ret;exact⟨rfl,HBH.out⟩
 · have HK:=hI hK;clear hK;go_simp;obtain⟨v10,hv10⟩:∃ v10,wd.alloc (.cells #[.slice none 0 0] 56)=v10:=⟨_,rfl⟩;have hbA:Below wd.heap.size wd v10:=(by rw [←hv10];exact(Below.refl _ _).alloc nR _);have hkA:v10.heap[wd.heap.size]?=some (.cells #[.slice none 0 0] 56 (0,0)):=(by rw [←hv10];exact heap_alloc_new wd _);rw [hv10];clear hv10;have x0:v10.cell? ⟨w.heap.size+1+1,0,none⟩=_:=c9K hbA x0;have x1:v10.cell? ⟨w.heap.size+1+1,1,none⟩=_:=c9K hbA x1;have x2:v10.cell? ⟨w.heap.size+1+1+1+1+1+1,0,none⟩=_:=c9K hbA x2;have hzv10:wd.heap.size≤v10.heap.size:=hbA.size;have HBv10:=hI (show Below w2.heap.size w2 v10 from HBwd.out.trans (hbA.mono (by omega)));have hlA:wd.heap.size<v10.heap.size:=Zad hkA;refine HK.out _ _ (fun _=>⟨x0,x1,x2⟩) ?_;clear HK K
   try simp only [Act.put,psA,psB,psC]
   refine tQ 2 (some 41) (bA 12 519) fun K HK=>?_;go_simp;refine(Zej 1 tC v10).mono ?_;rintro e w' ⟨rfl,rfl⟩;obtain⟨v11,hv11⟩:∃ v11,v10.alloc (.cells (Zbn 1 tC) 51)=v11:=⟨_,rfl⟩;have hbN:Below v10.heap.size v10 v11:=(by rw [←hv11];exact(Below.refl _ _).alloc nR _);have hkN:v11.heap[v10.heap.size]?=some (.cells (Zbn 1 tC) 51 (0,0)):=(by rw [←hv11];exact heap_alloc_new v10 _);rw [hv11];clear hv11;have hkA:v11.heap[wd.heap.size]?=some (.cells #[.slice none 0 0] 56 (0,0)):=(hbN.block _ (by omega)).trans hkA;have x0:v11.cell? ⟨w.heap.size+1+1,0,none⟩=_:=c9K hbN x0;have x1:v11.cell? ⟨w.heap.size+1+1,1,none⟩=_:=c9K hbN x1;have x2:v11.cell? ⟨w.heap.size+1+1+1+1+1+1,0,none⟩=_:=c9K hbN x2;have hzv11:v10.heap.size≤v11.heap.size:=hbN.size;have HBv11:=hI (show Below w2.heap.size w2 v11 from HBv10.out.trans (hbN.mono (by omega)));have hlN:v10.heap.size<v11.heap.size:=Zad hkN;refine HK.out _ _ (fun _=>⟨x0,x1,x2⟩) ?_;clear HK K
   try simp only [Act.put,psA,psB,psC]
   refine tJ 3 42 (bA 12 527) HP.out ⟨x0,x1,x2⟩ ?_;refine tQ 4 (some 43) (bA 12 543) fun K HK=>?_;go_simp;obtain⟨v12,hv12⟩:∃ v12,v11.alloc (.cells #[.int .i64 0,.slice none 0 0,.slice (some ⟨v10.heap.size,0,none⟩) 2 2] 53)=v12:=⟨_,rfl⟩;have hbC:Below v11.heap.size v11 v12:=(by rw [←hv12];exact(Below.refl _ _).alloc nR _);have hkC:v12.heap[v11.heap.size]?=some (.cells #[.int .i64 0,.slice none 0 0,.slice (some ⟨v10.heap.size,0,none⟩) 2 2] 53 (0,0)):=(by rw [←hv12];exact heap_alloc_new v11 _);have hkN:v12.heap[v10.heap.size]?=some (.cells (Zbn 1 tC) 51 (0,0)):=(hbC.block _ (by omega)).trans hkN;rw [hv12];clear hv12;have hkA:v12.heap[wd.heap.size]?=some (.cells #[.slice none 0 0] 56 (0,0)):=(hbC.block _ (by omega)).trans hkA;have x0:v12.cell? ⟨w.heap.size+1+1,0,none⟩=_:=c9K hbC x0;have x1:v12.cell? ⟨w.heap.size+1+1,1,none⟩=_:=c9K hbC x1;have x2:v12.cell? ⟨w.heap.size+1+1+1+1+1+1,0,none⟩=_:=c9K hbC x2;have hzv12:v11.heap.size≤v12.heap.size:=hbC.size;have HBv12:=hI (show Below w2.heap.size w2 v12 from HBv11.out.trans (hbC.mono (by omega)));have hlC:v11.heap.size<v12.heap.size:=Zad hkC;refine HK.out _ _ (fun _=>⟨x0,x1,x2⟩) ?_;clear HK K
   try simp only [Act.put,psA,psB,psC]
   refine tQ 5 (some 44) (bA 12 575) fun K HK=>?_;go_simp;have hAP:=Zdg pc0 (some ⟨w.heap.size+1,0,none⟩) 1 sB 1 (some ⟨w.heap.size+1+1+1+1+1,0,none⟩) 1 stB (some ⟨v11.heap.size,0,none⟩) 1 oneC (fun b=>b<v12.heap.size) v12 ((HT.out.keep (fun b hb=>(HBv12.out.block b (by omega)).trans (HWB.out.block b hb))).more (fun b hb=>by omega)) ((HST.out.keep (fun b hb=>(HBv12.out.block b (by omega)).trans (HWB.out.block b hb))).more (fun b hb=>by omega)) (ZdX hkC (by omega) (Zcl hkN (by omega) (by decide))) (fun b hb=>hb) Zdk (by decide);rw [ZdY] at hAP;refine(show Calls _ _ _ _ _ from hAP).mono ?_;rintro e v13 ⟨A9,c9,rfl,-,-,hbP⟩;have hkA:v13.heap[wd.heap.size]?=some (.cells #[.slice none 0 0] 56 (0,0)):=(hbP.block _ (by omega)).trans hkA;clear hAP;have x0:v13.cell? ⟨w.heap.size+1+1,0,none⟩=_:=c9K hbP x0;have x1:v13.cell? ⟨w.heap.size+1+1,1,none⟩=_:=c9K hbP x1;have x2:v13.cell? ⟨w.heap.size+1+1+1+1+1+1,0,none⟩=_:=c9K hbP x2;have hzv13:v12.heap.size≤v13.heap.size:=hbP.size;have HBv13:=hI (show Below w2.heap.size w2 v13 from HBv12.out.trans (hbP.mono (by omega)));refine HK.out _ _ (fun _=>⟨x0,x1,x2⟩) ?_;clear HK K
   try simp only [Act.put,psA,psB,psC]
   refine tW 6 38 7 45 (bA 12 767) HP.out ⟨x0,x1,x2⟩ ?_;refine tJ 8 46 (bA 12 1023) HP.out ⟨x0,x1,x2⟩ ?_;refine tQ 10 none (bA 12 2047) fun K HK=>?_;have hca:v13.cell? ⟨wd.heap.size,0,none⟩=some (.slice none 0 0):=(by simp [World.cell?,hkA]);have hfa:v13.frozen? ⟨wd.heap.size,0,none⟩=false:=(by simp [World.frozen?,hkA]);go_simp;obtain⟨vE,hvE⟩:∃ vE,v13.setCell ⟨wd.heap.size,0,none⟩ (.slice A9 0 c9)=vE:=⟨_,rfl⟩;have hbE:Below w2.heap.size w2 vE:=(by rw [←hvE];exact HBv13.out.setCell (p:=⟨wd.heap.size,0,none⟩) (by simp;omega) _);have x0:vE.cell? ⟨w.heap.size+1+1,0,none⟩=_:=c9K hbE y0;have x1:vE.cell? ⟨w.heap.size+1+1,1,none⟩=_:=c9K hbE y1;have x2:vE.cell? ⟨w.heap.size+1+1+1+1+1+1,0,none⟩=_:=c9K hbE y2;have hszE:w2.heap.size≤vE.heap.size:=hbE.size;have HBE:=hI hbE;clear hca hfa hkA hbE
   try rw [hvE]
   clear hvE;refine HK.out _ _ (fun _=>⟨x0,x1,x2⟩) ?_;clear HK K
   try simp only [Act.put,psA,psB,psC]
   refine tJ 11 9 (bA 12 4095) HP.out ⟨x0,x1,x2⟩ ?_;refine tE HQ ?_;clear HQ HP Q';have HBEV:=hI (show Below w.heap.size w vE from HWB0.out.trans (HBE.out.mono (by omega)));have HWE:=hI (show Below W.heap.size W vE from HWB.out.trans (HBE.out.mono (by omega)));have hx4:vE.cell? ⟨w1.heap.size,0,none⟩=some (.slice A4 1 c4):=Zaa ((HBE.out.block _ (by omega)).trans HKX.out) 0 _ rfl;have HX4E:=hI (HX4.out.keep (w':=vE) (fun b hb=>HBE.out.block b hb))
   go_wp2_with fail
   refine(show Calls _ _ _ _ _ from ZcC A4 c4 stB (fun b=>b<w2.heap.size) vE HX4E.out (fun b hb=>by omega) (by decide)).mono ?_;rintro e wF ⟨rfl,hbF⟩;rw [show ((Zak stB:Nat):Int)=1 from rfl];have hx4:=c9K hbF hx4;have x0:=c9K hbF x0;have x1:=c9K hbF x1;have x2:=c9K hbF x2;have hzF:vE.heap.size≤wF.heap.size:=hbF.size;have HWF:=hI (HWE.out.trans (hbF.mono (by omega)));have HBF:=hI (HBEV.out.trans (hbF.mono (by omega)));have HX4F:=hI (HX4E.out.keep (w':=wF) (fun b hb=>hbF.block b (by omega)));clear hbF
   go_wp2_with fail
   refine(show Calls _ _ _ _ _ from Zdl (some ⟨w.heap.size+1+1+1+1+1+1+1+1+1,0,none⟩) 2 ZdB (fun b=>b<W.heap.size) wF (HBO.out.keep (fun b hb=>HWF.out.block b hb)) (fun b hb=>by omega)).mono ?_;rintro e wG ⟨A6,c6,rfl,-,-,hbG⟩;rw [show (invF ZdB).length=2 from rfl];have hx4:=c9K hbG hx4;have x0:=c9K hbG x0;have x1:=c9K hbG x1;have x2:=c9K hbG x2;have hzG:wF.heap.size≤wG.heap.size:=hbG.size;have HWG:=hI (HWF.out.trans (hbG.mono (by omega)));have HBG:=hI (HBF.out.trans (hbG.mono (by omega)));have HX4G:=hI (HX4F.out.keep (w':=wG) (fun b hb=>hbG.block b (by omega)));clear hbG
   go_wp2_with fail
   refine(show Calls _ _ _ _ _ from ZcF (some ⟨w.heap.size+1,0,none⟩) 1 sB (some ⟨w.heap.size+1+1+1+1+1,0,none⟩) 1 stB A4 c4 stB (fun b=>b<w2.heap.size) wG ((HT.out.keep (fun b hb=>HWG.out.block b hb)).more (fun b hb=>by omega)) ((HST.out.keep (fun b hb=>HWG.out.block b hb)).more (fun b hb=>by omega)) HX4G.out (fun b hb=>by omega) ZdP).mono ?_;rintro e wH ⟨rfl,hbH⟩;have HBH:=hI (HBG.out.trans (hbH.mono (by omega)));clear hbH
   go_wp2_with fail
   go_ret;exact⟨rfl,HBH.out⟩
end Go.Proofs.Ytkpjjfhfbpfjpaa
