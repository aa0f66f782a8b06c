import Derived.Test.YtkpjjfhfbpfjpaaGreatK0b8b95
import Derived.Test.YtkpjjfhfbpfjpaaGreatKef29f4
import Derived.Test.YtkpjjfhfbpfjpaaGreatK4e30bf
import Derived.Deep.Cut
import Derived.Deep.CutRange
import Derived.Deep.DeepCutAuto
set_option linter.unusedVariables false
set_option linter.unusedSimpArgs false
set_option maxRecDepth 100000
set_option maxHeartbeats 8000000
namespace Go.Proofs.YtkpjjfhfbpfjpaaGreat
open Go.RowKit
theorem ZfB:∀ (os:List Obj) (w:World) (k:Nat),k<os.length→(os.foldl World.alloc w).heap[w.heap.size+k]?=os[k]?
 | [],_,k,h=>by simp at h
 | o :: os,w,0,_=>by
  have h2:∀ (os:List Obj) (w:World) (b:Nat),b<w.heap.size→(os.foldl World.alloc w).heap[b]?=w.heap[b]?:=by
   intro os;induction os with
   | nil=>intro w b hb;rfl
   | cons o os ih=>intro w b hb;rw [List.foldl_cons,ih _ _ (by simp;omega)];exact Below.heap_alloc w o b hb
  rw [List.foldl_cons,h2 os _ _ (by simp)];exact heap_alloc_new w o
 | o :: os,w,k+1,h=>by
  have:=ZfB os (w.alloc o) k (by simpa using h);rw [World.size_alloc,show w.heap.size+1+k=w.heap.size+(k+1) by omega] at this;exact this
theorem Zdo:∀ (os:List Obj) (w:World),Below w.heap.size w (os.foldl World.alloc w)∧(os.foldl World.alloc w).heap.size=w.heap.size+os.length
 | [],w=>⟨Below.refl _ _,rfl⟩
 | o :: os,w=>by
  obtain⟨h1,h2⟩:=Zdo os (w.alloc o);refine⟨((Below.refl _ w).alloc nR o).trans (h1.mono (by simp)),?_⟩;rw [List.foldl_cons,h2,World.size_alloc,List.length_cons];omega
abbrev tA:ByteArray:=⟨#[97]⟩
abbrev tB:ByteArray:=⟨#[98]⟩
section
variable {w:World} {S:Nat→Prop}
theorem Zaa {b:Nat} {cs:Array Value} {t:TypeId} (h:w.heap[b]?=some (.cells cs t (0,0))):CellsAt w b 0 cs.toList:=fun j u hu=>by
 rw [Nat.zero_add];simp only [World.cell?,h];simpa using hu
theorem tab_block {b:Nat} {A:Option Addr} {cols:List Col} {key:Int} {name:ByteArray} {n c:Nat} (h:w.heap[b]?=some (.cells #[.string name,.slice A n c,.int .i64 key,.slice none 0 0,.slice none 0 0] 72 (0,0))) (hn:n=cols.length) (hnm:name.size≤64) (hS:S b) (hc:cols.length≤c) (hr:ColS w S A cols):TabS w S (some ⟨b,0,none⟩) [⟨name,cols,key,[],[]⟩]:=by
 subst hn;have hh:=Zaa h;refine⟨by rw [Zag (n:=96) (fun _=>rfl)];simp,fun _=>⟨b,0,rfl,hS,?_⟩⟩;simp only [List.map_cons,List.map_nil,ZaZ,Dat.HeldAll,Dat.Held,Dat.size,Dat.sizes,and_true,ZaW,ZaR,List.length_map,List.length_nil];refine⟨⟨hh 0 _ rfl,by omega⟩,⟨A,c,hh 1 _ rfl,hc,hr.1,fun h0=>hr.2 (by simpa using h0)⟩,hh 2 _ rfl,⟨none,0,hh 3 _ rfl,by omega,by simp [Dat.bytesAll],fun h=>by omega⟩,⟨none,0,hh 4 _ rfl,by omega,by simp [Dat.bytesAll],fun h=>by omega⟩⟩
end
def pc0:List Int→Pred→Int:=fun _ _=>0
theorem pcheck_any (K B:Option Addr) (ck cb:Nat) (ks ps:List Int) (op cmp:Int) (l r:Opd) (args:List Pred) (A:Option Addr) (c:Nat) (S:Nat→Prop) (w:World) (hK:IntS w S K ks) (hB:IntS w S B ps) (hp:PredS w S A args) (hS:∀ b,S b→b<w.heap.size) (hcap:args.length≤c) (hlt:l.value.t.size≤9223372036854775807) (hrt:r.value.t.size≤9223372036854775807) :
  Calls Tryz.prog 106 #[.slice K ks.length ck,.slice B ps.length cb,pAgg op cmp l r A args.length c] w (Zbz (pcFF ks ps (.mk op cmp l r args)) w):=by
 have hkl:=hK.len;have hbl:=hB.len;have hal:=hp.len;have HK:=hI hK;have HBB:=hI hB;have HP:=hI hp;clear hK hB hp;obtain⟨p,hpe⟩:∃ p,Pred.mk op cmp l r args=p:=⟨_,rfl⟩;have HPE:=hI hpe;rw [hpe];clear hpe;have hB1:Below w.heap.size w (w.alloc (.cells #[.int .i64 op,.int .i64 cmp,.int .i64 l.kind,.int .i64 l.index,.int .i64 l.value.k,.int .i64 l.value.i,.string l.value.t,.int .i64 r.kind,.int .i64 r.index,.int .i64 r.value.k,.int .i64 r.value.i,.string r.value.t,.slice A args.length c] 93)):=(Below.refl _ _).alloc nR _;have HB1:=hI hB1;have HBK:=hI (HK.out.keep (Same.of_below hB1 hS));have HBP:=hI (HBB.out.keep (Same.of_below hB1 hS));clear hB1;cases hk:ZaB ks with
 | false =>
  have HF:=hI (show pcFF ks ps p=1 by unfold pcFF;rw [if_pos (.inl hk)]);have HKK:=hI hk;clear hk;go_enter Tryz.func106,Tryz.ntmps106
  go_wp2_with fail
  refine(Zbj K ck ks S _ HBK.out).mono ?_;rintro e w1 ⟨rfl,rfl⟩;rw [HKK.out]
  go_wp2_with fail
  go_ret;exact⟨by rw [HF.out];rfl,HB1.out⟩
 | true =>
  have HKK:=hI hk;cases hq:ZaB ps with
  | false =>
   have HF:=hI (show pcFF ks ps p=1 by unfold pcFF;rw [if_pos (.inr hq)]);have HQQ:=hI hq;clear hk hq;go_enter Tryz.func106,Tryz.ntmps106
   go_wp2_with fail
   refine(Zbj K ck ks S _ HBK.out).mono ?_;rintro e w1 ⟨rfl,rfl⟩;rw [HKK.out]
   go_wp2_with fail
   refine(Zbj B cb ps S _ HBP.out).mono ?_;rintro e w1 ⟨rfl,rfl⟩;rw [HQQ.out]
   go_wp2_with fail
   go_ret;exact⟨by rw [HF.out];rfl,HB1.out⟩
  | true =>
   have HQQ:=hI hq;have HF0:=hI (show pcFF ks ps p=if (smallP p 1 24).1=false then 2 else if predOk ks ps p=false then 50 else 0 by unfold pcFF;rw [if_neg (by simp [hk,hq])]);clear hk hq;go_enter Tryz.func106,Tryz.ntmps106
   go_wp2_with fail
   refine(Zbj K ck ks S _ HBK.out).mono ?_;rintro e w1 ⟨rfl,rfl⟩;rw [HKK.out]
   go_wp2_with fail
   refine(Zbj B cb ps S _ HBP.out).mono ?_;rintro e w1 ⟨rfl,rfl⟩;rw [HQQ.out]
   go_wp2_with fail
   obtain⟨W2,hW2⟩:∃ W2,(w.alloc (.cells #[.int .i64 op,.int .i64 cmp,.int .i64 l.kind,.int .i64 l.index,.int .i64 l.value.k,.int .i64 l.value.i,.string l.value.t,.int .i64 r.kind,.int .i64 r.index,.int .i64 r.value.k,.int .i64 r.value.i,.string r.value.t,.slice A args.length c] 93)).alloc (.cells #[.int .i64 24] 3)=W2:=⟨_,rfl⟩;have hb2:Below w.heap.size w W2:=(by rw [←hW2];exact HB1.out.alloc (by simp) _);have hz2:W2.heap.size=w.heap.size+2:=(by rw [←hW2];simp)
   have hg2:W2.heap[w.heap.size+1]?=some (.cells #[.int .i64 24] 3 (0,0)):=by
    rw [←hW2];have h:=heap_alloc_new (w.alloc (.cells #[.int .i64 op,.int .i64 cmp,.int .i64 l.kind,.int .i64 l.index,.int .i64 l.value.k,.int .i64 l.value.i,.string l.value.t,.int .i64 r.kind,.int .i64 r.index,.int .i64 r.value.k,.int .i64 r.value.i,.string r.value.t,.slice A args.length c] 93)) (.cells #[.int .i64 24] 3);rwa [World.size_alloc] at h
   have hp2:W2.heap[w.heap.size]?=some (.cells #[.int .i64 op,.int .i64 cmp,.int .i64 l.kind,.int .i64 l.index,.int .i64 l.value.k,.int .i64 l.value.i,.string l.value.t,.int .i64 r.kind,.int .i64 r.index,.int .i64 r.value.k,.int .i64 r.value.i,.string r.value.t,.slice A args.length c] 93 (0,0)):=(by rw [←hW2];exact(Below.heap_alloc _ _ _ (by simp)).trans (heap_alloc_new w _));have HB2:=hI hb2;have hSM:=small_any (SizeOf.sizeOf (Pred.mk op cmp l r args)) op cmp l r args A c 1 24 (w.heap.size+1) S W2 nR (HP.out.keep (Same.of_below hb2 hS)) (fun x hx=>by have:=hS x hx;omega) hg2 (by omega) (by omega) (by omega) (by omega);rw [HPE.out] at hSM;have HP2:=hI hp2;have HW2:=hI hW2;clear hb2 hg2 hp2 hW2;change Calls Tryz.prog _ _ ((w.alloc (.cells #[.int .i64 op,.int .i64 cmp,.int .i64 l.kind,.int .i64 l.index,.int .i64 l.value.k,.int .i64 l.value.i,.string l.value.t,.int .i64 r.kind,.int .i64 r.index,.int .i64 r.value.k,.int .i64 r.value.i,.string r.value.t,.slice A args.length c] 93)).alloc (.cells #[.int .i64 24] 3)) _;rw [HW2.out];refine(show Calls _ _ _ _ _ from hSM).mono ?_;clear hSM;rintro e w3 ⟨rfl,-,hg3⟩;have HB3:=hI (show Below w.heap.size w w3 from HB2.out.grown hg3 (by omega) (fun g e=>by injection e with e;omega));have hp3:w3.heap[w.heap.size]?=some (.cells #[.int .i64 op,.int .i64 cmp,.int .i64 l.kind,.int .i64 l.index,.int .i64 l.value.k,.int .i64 l.value.i,.string l.value.t,.int .i64 r.kind,.int .i64 r.index,.int .i64 r.value.k,.int .i64 r.value.i,.string r.value.t,.slice A args.length c] 93 (0,0)):=(hg3.block _ (by omega) (by intro e;injection e with e;omega)).trans HP2.out;have y0:w3.cell? ⟨w.heap.size,0,none⟩=some (.int .i64 op):=Zaa hp3 0 _ rfl;have y1:w3.cell? ⟨w.heap.size,1,none⟩=some (.int .i64 cmp):=Zaa hp3 1 _ rfl;have y2:w3.cell? ⟨w.heap.size,2,none⟩=some (.int .i64 l.kind):=Zaa hp3 2 _ rfl;have y3:w3.cell? ⟨w.heap.size,3,none⟩=some (.int .i64 l.index):=Zaa hp3 3 _ rfl;have y4:w3.cell? ⟨w.heap.size,4,none⟩=some (.int .i64 l.value.k):=Zaa hp3 4 _ rfl;have y5:w3.cell? ⟨w.heap.size,5,none⟩=some (.int .i64 l.value.i):=Zaa hp3 5 _ rfl;have y6:w3.cell? ⟨w.heap.size,6,none⟩=some (.string l.value.t):=Zaa hp3 6 _ rfl;have y7:w3.cell? ⟨w.heap.size,7,none⟩=some (.int .i64 r.kind):=Zaa hp3 7 _ rfl;have y8:w3.cell? ⟨w.heap.size,8,none⟩=some (.int .i64 r.index):=Zaa hp3 8 _ rfl;have y9:w3.cell? ⟨w.heap.size,9,none⟩=some (.int .i64 r.value.k):=Zaa hp3 9 _ rfl;have y10:w3.cell? ⟨w.heap.size,10,none⟩=some (.int .i64 r.value.i):=Zaa hp3 10 _ rfl;have y11:w3.cell? ⟨w.heap.size,11,none⟩=some (.string r.value.t):=Zaa hp3 11 _ rfl;have y12:w3.cell? ⟨w.heap.size,12,none⟩=some (.slice A args.length c):=Zaa hp3 12 _ rfl;have hz3:w.heap.size<w3.heap.size:=(by have:=hg3.size;omega);clear hg3 hp3;cases hs:(smallP p 1 24).1 with
   | false =>
    have HF:=hI (show pcFF ks ps p=2 by rw [HF0.out,if_pos hs]);clear hs y0 y1 y2 y3 y4 y5 y6 y7 y8 y9 y10 y11 y12
    go_wp2_with fail
    go_ret;exact⟨by rw [HF.out];rfl,HB3.out⟩
   | true =>
    have HF1:=hI (show pcFF ks ps p=if predOk ks ps p=false then 50 else 0 by rw [HF0.out,if_neg (by simp [hs])]);clear hs;have hVA:=valid_p K B ck cb ks ps (SizeOf.sizeOf (Pred.mk op cmp l r args)) op cmp l r args A c S w3 nR (HK.out.keep (Same.of_below HB3.out hS)) (HBB.out.keep (Same.of_below HB3.out hS)) (HP.out.keep (Same.of_below HB3.out hS)) (fun x hx=>by have:=hS x hx;omega) hcap hlt hrt;rw [HPE.out] at hVA;have HVA:=hI hVA;clear hVA
    go_wp2_with fail
    refine(show Calls _ _ _ _ _ from HVA.out).mono ?_;rintro e w4 ⟨rfl,hb4⟩;have HB4:=hI (HB3.out.trans (hb4.mono (by omega)));clear hb4 y0 y1 y2 y3 y4 y5 y6 y7 y8 y9 y10 y11 y12;cases hv:predOk ks ps p with
    | false =>
     have HF:=hI (show pcFF ks ps p=50 by rw [HF1.out,if_pos hv]);clear hv
     go_wp2_with fail
     go_ret;exact⟨by rw [HF.out];rfl,HB4.out⟩
    | true =>
     have HF:=hI (show pcFF ks ps p=0 by rw [HF1.out,if_neg (by simp [hv])]);clear hv
     go_wp2_with fail
     go_ret;exact⟨by rw [HF.out];rfl,HB4.out⟩
theorem pred_calls (ks:List Int) (p:Pred):ZfD pcF ks p:=by
 intro K ck op cmp l r args A c S w hp hK hA hS hcap hlt hrt;subst hp;exact pcheck_any K none ck 0 ks [] op cmp l r args A c S w hK IntS.nil_ hA hS hcap hlt hrt
theorem Zct (s:Sch):Zee pcF s:=fun t _ p _=>pred_calls _ p
theorem infoO:(Tryz.prog.info? 91).map (fun i=>(i.zero,i.size,i.bytes))=some (some (.agg #[.int .i64 0,.int .i64 0,.int .i64 0,.int .i64 0,.string ⟨#[]⟩]),5,48):=by kernel_rfl
theorem encOpd_size (o:Opd):(ZbG o).size=5:=rfl
theorem encOpd_bytes (o:Opd):(ZbG o).bytes=48:=rfl
theorem ZeK (o:Opd):(ZbG o).Plain:=by simp [ZbG,encV,Dat.Plain,Dat.PlainAll,Value.oneCell']
theorem Zhu {w:World} {S:Nat→Prop} (k i vk vi:Int) (vt:ByteArray) (h:vt.size≤9223372036854775807):Dat.Vals w S (ZbG ⟨k,i,⟨vk,vi,vt⟩⟩) [.int .i64 k,.int .i64 i,.int .i64 vk,.int .i64 vi,.string vt]:=by
 simp only [ZbG,encV,Dat.Vals,Dat.ValsAll,ZaW,ZaR];exact⟨[.int .i64 k],_,rfl,⟨rfl,trivial⟩,[.int .i64 i],_,rfl,⟨rfl,trivial⟩,[.int .i64 vk,.int .i64 vi,.string vt],[],rfl,⟨[.int .i64 vk],_,rfl,⟨rfl,trivial⟩,[.int .i64 vi],_,rfl,⟨rfl,trivial⟩,[.string vt],[],rfl,⟨rfl,h⟩,rfl⟩,rfl⟩
theorem Zac {w w1:World} {g n k:Nat} {v:Value} (hg:w.grownBy w1 (some g)) (hl:w.heap.size≤n):w.grownBy (w1.setCell ⟨n,k,none⟩ v) (some g) :=
 ⟨hg.os,hg.tape,hg.output,by have:=hg.size;simpa using this,fun b hb hne=>(Below.heap_setCell w1 ⟨n,k,none⟩ v b (by show b≠n;omega)).trans (hg.block b hb hne)⟩
def Zgz (cols params:List Int) (kd:Int) (o:Opd):Prop:=Zai cols params o=kd∧o.value.t.size≤64
theorem opd_col {cols params:List Int} {kd:Int} {k:Nat} (hk:k<cols.length) (h:cols.getD k 0=kd):Zgz cols params kd ⟨1,k,v0⟩:=by
 refine⟨?_,by show v0.t.size≤64;decide⟩;have h1:¬ ((k:Int)<0∨(cols.length:Int)≤k∨v0≠v0):=(by simp;omega);have e:Zai cols params ⟨1,k,v0⟩=if (k:Int)<0∨(cols.length:Int)≤k∨v0≠v0 then 0 else cols.getD (k:Int).toNat 0:=rfl;rw [e,if_neg h1,Int.toNat_natCast,h]
theorem opd_par {cols params:List Int} {kd:Int} {k:Nat} (hk:k<params.length) (h:params.getD k 0=kd):Zgz cols params kd ⟨2,k,v0⟩:=by
 refine⟨?_,by show v0.t.size≤64;decide⟩;have h1:¬ ((k:Int)<0∨(params.length:Int)≤k∨v0≠v0):=(by simp;omega);have e:Zai cols params ⟨2,k,v0⟩=if (k:Int)<0∨(params.length:Int)≤k∨v0≠v0 then 0 else params.getD (k:Int).toNat 0:=rfl;rw [e,if_neg h1,Int.toNat_natCast,h]
theorem Zda {v:V} (h:Zak v=true):v.t.size≤64:=by
 by_cases h1:v.t.size≤64
 · exact h1
 · exfalso;obtain⟨k,i,t⟩:=v;have ht:¬ t=⟨#[]⟩:=(by rintro rfl;exact h1 (by show (⟨#[]⟩:ByteArray).size≤64;decide));rw [txt_nil] at ht;simp only at h1;unfold Zak at h;have hd:decide ((t.size:Int)≤64)=false:=decide_eq_false (by omega)
   revert h
   simp only
   repeat' split
   all_goals simp_all
theorem Zem {cols params:List Int} {kd:Int} {v:V} (hk:ZaX kd=true) (h:Zgf (Zdg kd) v):Zgz cols params kd ⟨3,0,v⟩:=by
 have hkk:Zdg kd=kd:=by
  simp only [ZaX,Bool.or_eq_true,decide_eq_true_eq] at hk;unfold Zdg;rcases hk with (h | h) | h<;>simp [h]
 have h3:3≤kd∧kd≤5:=by
  simp only [ZaX,Bool.or_eq_true,decide_eq_true_eq] at hk;omega
 obtain⟨h1,h2⟩:=h;rw [hkk] at h2
 have hr:Zej v=true:=by
  unfold Zej;rw [h1,h2];simp;omega
 refine⟨?_,Zda h1⟩;unfold Zai;rw [if_pos rfl,if_neg (by simp [hr]),h2]
def OpdPost (cols params:List Int) (kd:Int) (w:World) (g:Nat) (e:Ending) (w':World):Prop:=∃ o:Opd,e=.returned (oAgg o)∧Zgz cols params kd o∧CaseOk w' g∧w.grownBy w' (some g)
structure OpI (w wr:World) (cols params:List Int) (kd:Int) (k:Nat) (A:Option Addr) (n c:Nat) (L:List Opd):Prop where
 mkl:Mk wr (w.heap.size+1) (fun _=>False) 91 5 (.slice A n c) (L.map ZbG)
 le:L.length≤k
 ok:∀ o ∈ L,Zgz cols params kd o
 bel:Below w.heap.size w wr
 res:wr.heap[w.heap.size]?=some (.cells #[.int .i64 0,.int .i64 0,.int .i64 0,.int .i64 0,.string ⟨#[]⟩] 91 (0,0))
theorem OpI.len {w wr:World} {cols params:List Int} {kd:Int} {k:Nat} {A:Option Addr} {n c:Nat} {L:List Opd} (h:OpI w wr cols params kd k A n c L):n=L.length:=by have:=h.mkl.len;simpa using this
theorem OpI.push {w wr wx:World} {cols params:List Int} {kd:Int} {k g:Nat} {A:Option Addr} {n c cap:Nat} {L:List Opd} {o:Opd} (h:OpI w wr cols params kd k A n c L) (hm:Mk wx (w.heap.size+1) (fun _=>False) 91 5 (.slice (some ⟨g,0,none⟩) (n+1) cap) (L.map ZbG++[ZbG o])) (hb:Below (w.heap.size+1) wr wx) (ho:Zgz cols params kd o):OpI w wx cols params kd (k+1) (some ⟨g,0,none⟩) (n+1) cap (L++[o]) :=
 ⟨by rw [List.map_append];exact hm,by have:=h.le;simp;omega,fun x hx=>by
  rcases List.mem_append.1 hx with hx | hx
  · exact h.ok x hx
  · rw [List.mem_singleton] at hx;rw [hx];exact ho,h.bel.trans (hb.mono (by omega)),(hb.block _ (by omega)).trans h.res⟩
theorem opd_at {w:World} {S:Nat→Prop} {A:Option Addr} {L:List Opd} (h:Sl w S A (L.map ZbG)) {k:Nat} (hk:k<L.length):∃ b off,A=some ⟨b,off,none⟩∧S b∧∃ ok oi vk vi vt,(⟨ok,oi,⟨vk,vi,vt⟩⟩:Opd) ∈ L∧w.cell? ⟨b,off+k*5,none⟩=some (.int .i64 ok)∧w.cell? ⟨b,off+k*5+1,none⟩=some (.int .i64 oi)∧w.cell? ⟨b,off+k*5+2,none⟩=some (.int .i64 vk)∧w.cell? ⟨b,off+k*5+3,none⟩=some (.int .i64 vi)∧w.cell? ⟨b,off+k*5+4,none⟩=some (.string vt):=by
 obtain⟨b,off,e,hb,h1⟩:=Sl.at_ encOpd_size ⟨0,0,v0⟩ h hk;have hm:L.getD k ⟨0,0,v0⟩ ∈ L:=(by simp [List.getD,hk]);generalize L.getD k ⟨0,0,v0⟩=q at h1 hm;obtain⟨ok,oi,⟨vk,vi,vt⟩⟩:=q;simp only [ZbG,encV,Dat.Held,Dat.HeldAll,Dat.size,Dat.sizes,and_true,ZaW,ZaR,Nat.add_assoc,Nat.reduceAdd,Nat.add_zero] at h1;obtain⟨a1,a2,a3,a4,a5,-⟩:=h1;exact⟨b,off,e,hb,ok,oi,vk,vi,vt,hm,a1,by rw [Nat.add_assoc];exact a2,by rw [Nat.add_assoc];exact a3,by rw [Nat.add_assoc];exact a4,by rw [Nat.add_assoc];exact a5⟩
theorem put5 {w:World} {B:Nat} {t:TypeId} {x0 x1 x2 x3 x4 a b c d e:Value} (h:w.heap[B]?=some (.cells #[x0,x1,x2,x3,x4] t (0,0))):(((((w.setCell ⟨B,0,none⟩ a).setCell ⟨B,1,none⟩ b).setCell ⟨B,2,none⟩ c).setCell ⟨B,3,none⟩ d).setCell ⟨B,4,none⟩ e).heap[B]?=some (.cells #[a,b,c,d,e] t (0,0)):=by
 have h1:w.heap[B]?=some (.cells [x0,x1,x2,x3,x4].toArray t (0,0)):=h;have h2:=Zaf (k:=4) (v:=e) (Zaf (k:=3) (v:=d) (Zaf (k:=2) (v:=c) (Zaf (k:=1) (v:=b) (Zaf (k:=0) (v:=a) h1))));simpa using h2
theorem ZaV (g:Nat) (K B:Option Addr) (ck cb:Nat) (cols params:List Int) (kd:Int) (S:Nat→Prop) (w:World) (hK:IntS w S K cols) (hB:IntS w S B params) (hS:∀ b,S b→b<w.heap.size∧b≠g) (hl:cols.length≤100000) (hl2:params.length≤100000) (hkd:ZaX kd=true) (hc:CaseOk w g) :
  Calls Tryz.prog 113 #[.pointer (some ⟨g,0,none⟩),.slice K cols.length ck,.slice B params.length cb,.int .i64 kd] w (OpdPost cols params kd w g):=by
 obtain⟨i0,hi,hz0,hz1,hz2⟩:=info_parts infoO;have hgl:=hc.lt;have HK:=hI hK;have HBB:=hI hB;have HC:=hI hc;clear hK hB hc;have HS1:=hI (fun b (hb:S b)=>(hS b hb).1);have HI0:=hI (show OpI w (w.alloc (.cells #[.int .i64 0,.int .i64 0,.int .i64 0,.int .i64 0,.string ⟨#[]⟩] 91)) cols params kd 0 none 0 0 [] from ⟨Mk.start (fun _ h=>h.elim) (by simp) _ _,by simp,by simp,(Below.refl _ _).alloc nR _,heap_alloc_new w _⟩);go_enter Tryz.func113,Tryz.ntmps113
 go_wp2_with fail
 go_loopw [9,17] (fun l i wr=>∃ (k:Nat) (A:Option Addr) (n c:Nat) (L:List Opd),k≤cols.length∧i=.int .i64 k∧l=.slice A n c∧OpI w wr cols params kd k A n c L) (fun _ i _=>cols.length - (intOf i).toNat)
 case atStart=>exact⟨0,none,0,0,[],Nat.zero_le _,rfl,rfl,HI0.out⟩
 case round =>
  obtain⟨k,A,n,c,L,hk,rfl,rfl,hoi⟩:=hrel;have HOI:=hI hoi;have hsz:=hoi.mkl.hi;have hnl:=hoi.len;have hle:=hoi.le;have HNL:=hI hnl;have hnk:n≤k:=(by omega);clear hoi hnl hle
  by_cases hlt:k<cols.length
  · obtain⟨b1,o1,rfl,hb1,d1⟩:=(HK.out.keep (Same.of_below HOI.out.bel HS1.out)).at_ hlt;have hl1:b1<wr.heap.size:=(by have:=HS1.out b1 hb1;omega);obtain⟨x,hx⟩:∃ x,cols.getD k 0=x:=⟨_,rfl⟩;have HX:=hI hx;rw [hx] at d1;clear hx
    by_cases he:x=kd
    · subst he;have HO:=hI (opd_col (params:=params) hlt HX.out)
      go_wp2_with (at_builtin;refine Zaq rfl (.tmp 25) (.tmp 28) 177 rfl (w.heap.size+1) (fun _=>False) 91 i0 _ 5 48 Tryz.underlying177 hi hz0 hz1 hz2 rfl (by decide) _ _ _ _ _ HOI.out.mkl rfl (ZbG ⟨1,k,v0⟩) #[.int .i64 1,.int .i64 k,.int .i64 0,.int .i64 0,.string ⟨#[]⟩] (Zhu _ _ _ _ _ (by decide)) (ZeK _) rfl 1 rfl (by omega) (by omega) ?_;intro g5 cap5 w5 hm5 hb5 hlt5;have HP5:=hI (HOI.out.push hm5 hb5 HO.out);clear hm5 hb5)
      go_roundw
      case rel=>exact⟨k+1,_,_,_,_,by omega,by go_num,rfl,HP5.out⟩
      case measure=>simp [intOf];omega
    · have hd:(x == kd)=false:=beq_eq_false_iff_ne.2 he;clear he
      go_wp2_with fail
      go_roundw
      case rel=>exact⟨k+1,_,_,_,_,by omega,by go_num,rfl,⟨HOI.out.mkl,by have:=HOI.out.le;omega,HOI.out.ok,HOI.out.bel,HOI.out.res⟩⟩
      case measure=>simp [intOf];omega
  · obtain rfl:k=cols.length:=by omega
    go_wp2_with fail
    go_loopw [9,33] (fun l i wr=>∃ (k:Nat) (A:Option Addr) (n c:Nat) (L:List Opd),k≤params.length∧i=.int .i64 k∧l=.slice A n c∧OpI w wr cols params kd (cols.length+k) A n c L) (fun _ i _=>params.length - (intOf i).toNat)
    case atStart=>exact⟨0,_,_,_,_,Nat.zero_le _,rfl,rfl,HOI.out⟩
    case round =>
     clear HOI HNL hnk hsz;obtain⟨k,A,n,c,L,hk,rfl,rfl,hoi⟩:=hrel;have HOI:=hI hoi;have hsz:=hoi.mkl.hi;have hnl:=hoi.len;have hle:=hoi.le;have HNL:=hI hnl;have hnk:n≤cols.length+k:=(by omega);clear hoi hnl hle
     by_cases hlt:k<params.length
     · obtain⟨b1,o1,rfl,hb1,d1⟩:=(HBB.out.keep (Same.of_below HOI.out.bel HS1.out)).at_ hlt;have hl1:b1<wr.heap.size:=(by have:=HS1.out b1 hb1;omega);obtain⟨x,hx⟩:∃ x,params.getD k 0=x:=⟨_,rfl⟩;have HX:=hI hx;rw [hx] at d1;clear hx
       by_cases he:x=kd
       · subst he;have HO:=hI (opd_par (cols:=cols) hlt HX.out)
         go_wp2_with (at_builtin;refine Zaq rfl (.tmp 41) (.tmp 44) 177 rfl (w.heap.size+1) (fun _=>False) 91 i0 _ 5 48 Tryz.underlying177 hi hz0 hz1 hz2 rfl (by decide) _ _ _ _ _ HOI.out.mkl rfl (ZbG ⟨2,k,v0⟩) #[.int .i64 2,.int .i64 k,.int .i64 0,.int .i64 0,.string ⟨#[]⟩] (Zhu _ _ _ _ _ (by decide)) (ZeK _) rfl 1 rfl (by omega) (by omega) ?_;intro g5 cap5 w5 hm5 hb5 hlt5;have HP5:=hI (HOI.out.push hm5 hb5 HO.out);clear hm5 hb5)
         go_roundw
         case rel=>exact⟨k+1,_,_,_,_,by omega,by go_num,rfl,HP5.out⟩
         case measure=>simp [intOf];omega
       · have hd:(x == kd)=false:=beq_eq_false_iff_ne.2 he;clear he
         go_wp2_with fail
         go_roundw
         case rel=>exact⟨k+1,_,_,_,_,by omega,by go_num,rfl,⟨HOI.out.mkl,by have:=HOI.out.le;omega,HOI.out.ok,HOI.out.bel,HOI.out.res⟩⟩
         case measure=>simp [intOf];omega
     · have HCR:=hI (HC.out.keep (w':=wr) (fun b hb=>HOI.out.bel.block b (by omega)))
       go_wp2_with fail
       refine(ZaF g (n+1) _ (by omega) HCR.out).mono ?_;rintro e w1 ⟨r,rfl,h0,h1,-,hc1,hg1,hs1⟩;have HC1:=hI hc1;have HG1:=hI (show w.grownBy w1 (some g) from (Fr.of_below (X:=fun b=>b=g) HOI.out.bel).grown.trans hg1);have hr:=h1 (by omega);have hres:w1.heap[w.heap.size]?=some (.cells #[.int .i64 0,.int .i64 0,.int .i64 0,.int .i64 0,.string ⟨#[]⟩] 91 (0,0)):=(hg1.block _ (by omega) (by intro e;injection e with e;omega)).trans HOI.out.res;have HRES:=hI hres;have f0:w1.frozen? ⟨w.heap.size,0,none⟩=false:=(by simp [World.frozen?,hres]);have f1:w1.frozen? ⟨w.heap.size,1,none⟩=false:=(by simp [World.frozen?,hres]);have f2:w1.frozen? ⟨w.heap.size,2,none⟩=false:=(by simp [World.frozen?,hres]);have f3:w1.frozen? ⟨w.heap.size,3,none⟩=false:=(by simp [World.frozen?,hres]);have f4:w1.frozen? ⟨w.heap.size,4,none⟩=false:=(by simp [World.frozen?,hres]);have y0:w1.cell? ⟨w.heap.size,0,none⟩=some (.int .i64 0):=Zaa hres 0 _ rfl;have y1:w1.cell? ⟨w.heap.size,1,none⟩=some (.int .i64 0):=Zaa hres 1 _ rfl;have y2:w1.cell? ⟨w.heap.size,2,none⟩=some (.int .i64 0):=Zaa hres 2 _ rfl;have y3:w1.cell? ⟨w.heap.size,3,none⟩=some (.int .i64 0):=Zaa hres 3 _ rfl;have y4:w1.cell? ⟨w.heap.size,4,none⟩=some (.string ⟨#[]⟩):=Zaa hres 4 _ rfl;have hz1:w.heap.size<w1.heap.size:=(by omega);have HMK:=hI (HOI.out.mkl.keep (ZaU hg1) (fun b hb=>⟨by omega,fun h=>h⟩));clear hc1 hg1 h1 hres
       by_cases hrn:r<n
       · obtain⟨rk,rfl⟩:=Int.eq_ofNat_of_zero_le h0;have hrl:rk<L.length:=(by have:=HNL.out;omega);obtain⟨-,hnc,hsl⟩:=HMK.out.slice (by rw [Zag (n:=48) encOpd_bytes];have:=HNL.out;omega);obtain⟨b3,o3,rfl,hb3,ok,oi,vk,vi,vt,hmem,m0,m1,m2,m3,m4⟩:=opd_at hsl hrl;have HOK:=hI (HOI.out.ok _ hmem);have hl3:b3<w1.heap.size:=(by rcases hb3 with h | h;{ exact h.elim };exact h.2);have hne3:b3≠w.heap.size:=(by rcases hb3 with h | h;{ exact h.elim };have:=h.1;omega);clear hsl hmem hb3 h0 hnc
         go_wp2_with fail
         have hb5:=put5 (a:=.int .i64 ok) (b:=.int .i64 oi) (c:=.int .i64 vk) (d:=.int .i64 vi) (e:=.string vt) HRES.out;have u0:=Zaa hb5 0 _ rfl;have u1:=Zaa hb5 1 _ rfl;have u2:=Zaa hb5 2 _ rfl;have u3:=Zaa hb5 3 _ rfl;have u4:=Zaa hb5 4 _ rfl;exact bodyPost_ret (v:=.agg #[.int .i64 ok,.int .i64 oi,.int .i64 vk,.int .i64 vi,.string vt]) (by simp [results,Tryz.results113,go_sem,u0,u1,u2,u3,u4]) rfl ⟨⟨ok,oi,⟨vk,vi,vt⟩⟩,rfl,HOK.out,Zab (Zab (Zab (Zab (Zab HC1.out hgl) hgl) hgl) hgl) hgl,Zac (Zac (Zac (Zac (Zac HG1.out nR) nR) nR) nR) nR⟩
       · go_wp2_with fail
         refine(Zbp g kd _ HC1.out).mono ?_;rintro e w2 ⟨⟨vk,vi,vt⟩,rfl,hv,hc2,hg2⟩;have HO:=hI (Zem (cols:=cols) (params:=params) hkd hv);have HC2:=hI hc2;have HG2:=hI (HG1.out.trans hg2);have hres:w2.heap[w.heap.size]?=some (.cells #[.int .i64 0,.int .i64 0,.int .i64 0,.int .i64 0,.string ⟨#[]⟩] 91 (0,0)):=(hg2.block _ (by omega) (by intro e;injection e with e;omega)).trans HRES.out;clear y0 y1 y2 y3 y4 f0 f1 f2 f3 f4;have HRES2:=hI hres;have f0:w2.frozen? ⟨w.heap.size,0,none⟩=false:=(by simp [World.frozen?,hres]);have f1:w2.frozen? ⟨w.heap.size,1,none⟩=false:=(by simp [World.frozen?,hres]);have f2:w2.frozen? ⟨w.heap.size,2,none⟩=false:=(by simp [World.frozen?,hres]);have f3:w2.frozen? ⟨w.heap.size,3,none⟩=false:=(by simp [World.frozen?,hres]);have f4:w2.frozen? ⟨w.heap.size,4,none⟩=false:=(by simp [World.frozen?,hres]);have y0:w2.cell? ⟨w.heap.size,0,none⟩=some (.int .i64 0):=Zaa hres 0 _ rfl;have y1:w2.cell? ⟨w.heap.size,1,none⟩=some (.int .i64 0):=Zaa hres 1 _ rfl;have y2:w2.cell? ⟨w.heap.size,2,none⟩=some (.int .i64 0):=Zaa hres 2 _ rfl;have y3:w2.cell? ⟨w.heap.size,3,none⟩=some (.int .i64 0):=Zaa hres 3 _ rfl;have y4:w2.cell? ⟨w.heap.size,4,none⟩=some (.string ⟨#[]⟩):=Zaa hres 4 _ rfl;have hz2':w.heap.size<w2.heap.size:=(by have:=hg2.size;omega);clear hv hc2 hg2 hres
         go_wp2_with fail
         have hb5:=put5 (a:=.int .i64 3) (b:=.int .i64 0) (c:=.int .i64 vk) (d:=.int .i64 vi) (e:=.string vt) HRES2.out;have u0:=Zaa hb5 0 _ rfl;have u1:=Zaa hb5 1 _ rfl;have u2:=Zaa hb5 2 _ rfl;have u3:=Zaa hb5 3 _ rfl;have u4:=Zaa hb5 4 _ rfl;exact bodyPost_ret (v:=.agg #[.int .i64 3,.int .i64 0,.int .i64 vk,.int .i64 vi,.string vt]) (by simp [results,Tryz.results113,go_sem,u0,u1,u2,u3,u4]) rfl ⟨⟨3,0,⟨vk,vi,vt⟩⟩,rfl,HO.out,Zab (Zab (Zab (Zab (Zab HC2.out hgl) hgl) hgl) hgl) hgl,Zac (Zac (Zac (Zac (Zac HG2.out nR) nR) nR) nR) nR⟩
theorem column_any (nm:ByteArray) (k:Int) (w:World):Calls Tryz.prog 40 #[.string nm,.int .i64 k] w (fun e w'=>e=.returned (.agg #[.string nm,.int .i64 k])∧w'=w.alloc (.cells #[.string nm,.int .i64 k] 84)):=by
 go_enter Tryz.func40,Tryz.ntmps40
 go_wp2
 exact bodyPost_ret (v:=.agg #[.string nm,.int .i64 k]) (by simp [results,Tryz.results40,go_sem]) rfl ⟨rfl,rfl⟩
theorem vals_col {w:World} {S:Nat→Prop} {c:Col} (h:c.name.size≤9223372036854775807):Dat.Vals w S (Zea c) [.string c.name,.int .i64 c.kind]:=by
 simp only [Zea,Dat.Vals,Dat.ValsAll,ZaW,ZaR];exact⟨[.string c.name],_,rfl,⟨rfl,h⟩,[.int .i64 c.kind],[],rfl,⟨rfl,trivial⟩,rfl⟩
def Zfu:List Col→List Value
 | []=>[]
 | c :: l=>.string c.name :: .int .i64 c.kind :: Zfu l
theorem ZgB {w:World} {S:Nat→Prop}:∀ {l:List Col},(∀ c ∈ l,c.name.size≤9223372036854775807)→Dat.ValsAll w S (l.map Zea) (Zfu l)
 | [],_=>by simp [Dat.ValsAll,Zfu]
 | c :: l,h=>by
  simp only [List.map_cons,Dat.ValsAll];exact⟨[.string c.name,.int .i64 c.kind],Zfu l,rfl,vals_col (h c (by simp)),ZgB (fun x hx=>h x (by simp [hx]))⟩
theorem Zdw {w:World} {S:Nat→Prop} {b:Nat} {l:List Col} {t:TypeId} (h:w.heap[b]?=some (.cells (Zfu l).toArray t (0,0))) (hS:S b) (hl:∀ c ∈ l,c.name.size≤9223372036854775807) (hn:l.length≤100):ColS w S (some ⟨b,0,none⟩) l :=
 Sl.of_vals (by rw [Zag (n:=24) (fun _=>rfl)];omega) (ZgB hl) (fun _=>⟨b,0,rfl,hS,by have:=Zaa h;simpa using this⟩)
theorem Zdq {w:World} {S:Nat→Prop} {t:Tab} {A1 A2 A3:Option Addr} {c1 c2 c3:Nat} (h0:t.name.size≤9223372036854775807) (e1:t.cols.length≤c1) (h1:ColS w S A1 t.cols) (e2:t.refs.length≤c2) (h2:RfrS w S A2 t.refs) (e3:t.checks.length≤c3) (h3:PredS w S A3 t.checks) :
  Dat.Vals w S (ZaZ t) [.string t.name,.slice A1 t.cols.length c1,.int .i64 t.key,.slice A2 t.refs.length c2,.slice A3 t.checks.length c3]:=by
 simp only [ZaZ,Dat.Vals,Dat.ValsAll,ZaW,ZaR,List.length_map];exact⟨[.string t.name],_,rfl,⟨rfl,h0⟩,[.slice A1 t.cols.length c1],_,rfl,⟨A1,c1,rfl,e1,h1⟩,[.int .i64 t.key],_,rfl,⟨rfl,trivial⟩,[.slice A2 t.refs.length c2],_,rfl,⟨A2,c2,rfl,e2,h2⟩,[.slice A3 t.checks.length c3],[],rfl,⟨A3,c3,rfl,e3,h3⟩,rfl⟩
theorem ZgD {w:World} {S:Nat→Prop} {t:Tab} {vs:List Value} (h:Dat.Vals w S (ZaZ t) vs):∃ A1 A2 A3 c1 c2 c3,vs=[.string t.name,.slice A1 t.cols.length c1,.int .i64 t.key,.slice A2 t.refs.length c2,.slice A3 t.checks.length c3]∧t.name.size≤9223372036854775807∧t.cols.length≤c1∧ColS w S A1 t.cols∧t.refs.length≤c2∧RfrS w S A2 t.refs∧t.checks.length≤c3∧PredS w S A3 t.checks:=by
 simp only [ZaZ,Dat.Vals,Dat.ValsAll,ZaW,ZaR,List.length_map] at h;obtain⟨a1,b1,rfl,⟨rfl,h0⟩,a2,b2,rfl,⟨A1,c1,rfl,e1,h1⟩,a3,b3,rfl,⟨rfl,-⟩,a4,b4,rfl,⟨A2,c2,rfl,e2,h2⟩,a5,b5,rfl,⟨A3,c3,rfl,e3,h3⟩,rfl⟩:=h;exact⟨A1,A2,A3,c1,c2,c3,rfl,h0,e1,h1,e2,h2,e3,h3⟩
abbrev SD (w wr:World) (g TB:Nat):Nat→Prop:=fun b=>w.heap.size<b∧b<wr.heap.size∧b≠TB∧b≠TB+1∧b≠g
structure SchI (w wr:World) (g TB n:Nat) (v id:Int) (b1 b2 b3:Bool) (chk:List Pred):Prop where
 tb:∃ vs:List Value,wr.heap[TB]?=some (.cells vs.toArray 72 (0,0))∧Dat.ValsAll wr (SD w wr g TB) ((Zat id (rf0 b1 1 0) (rf0 b2 0 0) (rf0 b3 0 1) chk).map ZaZ) vs
 sb:wr.heap[TB+1]?=some (.cells #[.int .i64 v,.slice (some ⟨TB,0,none⟩) n 4] 28 (0,0))
 rb:wr.heap[w.heap.size]?=some (.cells #[.int .i64 0,.slice none 0 0] 28 (0,0))
 case:CaseOk wr g
 gr:w.grownBy wr (some g)
 lo:w.heap.size<TB
 gl:g<w.heap.size
section
variable {w wr wx:World} {g TB n:Nat} {v id:Int} {b1 b2 b3:Bool} {chk:List Pred}
theorem SchI.keep (h:SchI w wr g TB n v id b1 b2 b3 chk) (hg:wr.grownBy wx (some g)) (hc:CaseOk wx g):SchI w wx g TB n v id b1 b2 b3 chk:=by
 obtain⟨vs,h1,h2⟩:=h.tb;have hlo:=h.lo;have hgl:=h.gl;have hs:=hg.size;have hb:∀ b,b<wr.heap.size→b≠g→wx.heap[b]?=wr.heap[b]?:=fun b hb hne=>hg.block b hb (fun e=>hne (by injection e));have l1:=Zad h1;have l2:=Zad h.sb;have l3:=Zad h.rb;exact⟨⟨vs,(hb _ l1 (by omega)).trans h1,Dat.ValsAll.more (fun b hb=>⟨hb.1,by have:=hb.2.1;omega,hb.2.2⟩) _ _ (Dat.ValsAll.keep (fun b hb'=>hb b hb'.2.1 hb'.2.2.2.2) _ _ h2)⟩,(hb _ l2 (by omega)).trans h.sb,(hb _ l3 (by omega)).trans h.rb,hc,h.gr.trans hg,hlo,hgl⟩
theorem SchI.below (h:SchI w wr g TB n v id b1 b2 b3 chk) (hb:Below wr.heap.size wr wx):SchI w wx g TB n v id b1 b2 b3 chk :=
 h.keep (Fr.of_below (X:=fun b=>b=g) hb).grown (h.case.keep (fun b hb'=>hb.block b (by have:=h.case.lt;omega)))
end
def genOs (v idk:Int) (nn n:Nat):List Obj:=[
 .cells #[.string nId,.int .i64 4] 84 (0,0),
 .cells #[.string nOwner,.int .i64 4] 84 (0,0),
 .cells #[.string nId,.int .i64 4,.string nOwner,.int .i64 4] 84 (0,0),
 .cells #[.string nId,.int .i64 idk] 84 (0,0),
 .cells #[.string nProject,.int .i64 4] 84 (0,0),
 .cells #[.string nTitle,.int .i64 5] 84 (0,0),
 .cells #[.string nDone,.int .i64 3] 84 (0,0),
 .cells #[.string nId,.int .i64 idk,.string nProject,.int .i64 4,.string nTitle,.int .i64 5,.string nDone,.int .i64 3] 84 (0,0),
 .cells #[.string nProject,.int .i64 4] 84 (0,0),
 .cells #[.string Zhs,.int .i64 4] 84 (0,0),
 .cells #[.string nProject,.int .i64 4,.string Zhs,.int .i64 4] 84 (0,0),
 .cells #[.string nTask,.int .i64 idk] 84 (0,0),
 .cells #[.string nTask,.int .i64 idk] 84 (0,0),
 .cells #[.string nProjects,.slice (some ⟨n+2,0,none⟩) 2 2,.int .i64 1,.slice none 0 0,.slice none 0 0,.string nTasks,.slice (some ⟨n+7,0,none⟩) 4 4,.int .i64 1,.slice none 0 0,.slice none 0 0,.string nMembers,.slice (some ⟨n+10,0,none⟩) 2 2,.int .i64 2,.slice none 0 0,.slice none 0 0,.string nArchived,.slice (some ⟨n+12,0,none⟩) 1 1,.int .i64 1,.slice none 0 0,.slice none 0 0] 72 (0,0),
 .cells #[.int .i64 v,.slice (some ⟨n+13,0,none⟩) nn 4] 28 (0,0)]
theorem Zgj {w:World} {S:Nat→Prop} {nm:ByteArray} {cols:List Col} {key:Int} {R R':List Rfr} {ck:List Pred} {vs:List Value} {A:Option Addr} {c:Nat} (h:Dat.Vals w S (ZaZ ⟨nm,cols,key,R,ck⟩) vs) (hc:R'.length≤c) (hr:RfrS w S A R'):Dat.Vals w S (ZaZ ⟨nm,cols,key,R',ck⟩) (vs.set 3 (.slice A R'.length c)):=by
 obtain⟨A1,A2,A3,c1,c2,c3,rfl,h0,e1,h1,e2,h2,e3,h3⟩:=ZgD h;exact Zdq (t:=⟨nm,cols,key,R',ck⟩) h0 e1 h1 hc hr e3 h3
theorem tab_chks {w:World} {S:Nat→Prop} {nm:ByteArray} {cols:List Col} {key:Int} {R:List Rfr} {ck ck':List Pred} {vs:List Value} {A:Option Addr} {c:Nat} (h:Dat.Vals w S (ZaZ ⟨nm,cols,key,R,ck⟩) vs) (hc:ck'.length≤c) (hr:PredS w S A ck'):Dat.Vals w S (ZaZ ⟨nm,cols,key,R,ck'⟩) (vs.set 4 (.slice A ck'.length c)):=by
 obtain⟨A1,A2,A3,c1,c2,c3,rfl,h0,e1,h1,e2,h2,e3,h3⟩:=ZgD h;exact Zdq (t:=⟨nm,cols,key,R,ck'⟩) h0 e1 h1 e2 h2 hc hr
theorem ZdY {w:World} {S:Nat→Prop} {id:Int} {R1 R2 R3:List Rfr} {ck:List Pred} {vs:List Value} (h:Dat.ValsAll w S ((Zat id R1 R2 R3 ck).map ZaZ) vs):∃ v0 v1 v2 v3,vs=v0++(v1++(v2++v3))∧v0.length=5∧v1.length=5∧v2.length=5∧v3.length=5∧Dat.Vals w S (ZaZ ⟨nProjects,ZeH,1,[],[]⟩) v0∧Dat.Vals w S (ZaZ ⟨nTasks,ZcA id,1,R1,ck⟩) v1∧Dat.Vals w S (ZaZ ⟨nMembers,Zdi,2,R2,[]⟩) v2∧Dat.Vals w S (ZaZ ⟨nArchived,ZcV id,1,R3,[]⟩) v3:=by
 simp only [Zat,List.map_cons,List.map_nil,Dat.ValsAll] at h;obtain⟨v0,x,rfl,h0,v1,y,rfl,h1,v2,z,rfl,h2,v3,u,rfl,h3,rfl⟩:=h;exact⟨v0,v1,v2,v3,by simp,Dat.Vals.len _ _ h0,Dat.Vals.len _ _ h1,Dat.Vals.len _ _ h2,Dat.Vals.len _ _ h3,h0,h1,h2,h3⟩
theorem ZeS {w:World} {S:Nat→Prop} {id:Int} {R1 R2 R3:List Rfr} {ck:List Pred} {v0 v1 v2 v3:List Value} (h0:Dat.Vals w S (ZaZ ⟨nProjects,ZeH,1,[],[]⟩) v0) (h1:Dat.Vals w S (ZaZ ⟨nTasks,ZcA id,1,R1,ck⟩) v1) (h2:Dat.Vals w S (ZaZ ⟨nMembers,Zdi,2,R2,[]⟩) v2) (h3:Dat.Vals w S (ZaZ ⟨nArchived,ZcV id,1,R3,[]⟩) v3):Dat.ValsAll w S ((Zat id R1 R2 R3 ck).map ZaZ) (v0++(v1++(v2++v3))):=by
 simp only [Zat,List.map_cons,List.map_nil,Dat.ValsAll];exact⟨v0,_,rfl,h0,v1,_,rfl,h1,v2,_,rfl,h2,v3,[],by simp,h3,rfl⟩
theorem SchI.set {w wr:World} {g TB n k:Nat} {v id:Int} {b1 b2 b3 b1' b2' b3':Bool} {chk chk':List Pred} {x:Value} (h:SchI w wr g TB n v id b1 b2 b3 chk) (hs:∀ vs,Dat.ValsAll wr (SD w wr g TB) ((Zat id (rf0 b1 1 0) (rf0 b2 0 0) (rf0 b3 0 1) chk).map ZaZ) vs→Dat.ValsAll wr (SD w wr g TB) ((Zat id (rf0 b1' 1 0) (rf0 b2' 0 0) (rf0 b3' 0 1) chk').map ZaZ) (vs.set k x)) :
  SchI w (wr.setCell ⟨TB,k,none⟩ x) g TB n v id b1' b2' b3' chk':=by
 obtain⟨vs,h1,h2⟩:=h.tb;have hlo:=h.lo;have hgl:=h.gl;have hne:∀ b,b≠TB→(wr.setCell ⟨TB,k,none⟩ x).heap[b]?=wr.heap[b]?:=fun b hb=>Below.heap_setCell wr ⟨TB,k,none⟩ x b hb;refine⟨⟨vs.set k x,Zaf h1,Dat.ValsAll.more (fun b hb=>⟨hb.1,by have:=hb.2.1;simpa using this,hb.2.2⟩) _ _ (Dat.ValsAll.keep (fun b hb=>hne b hb.2.2.1) _ _ (hs vs h2))⟩,(hne _ (by omega)).trans h.sb,(hne _ (by omega)).trans h.rb,h.case.keep (fun b hb=>hne b (by omega)),?_,hlo,hgl⟩;exact Zac h.gr (by omega)
theorem SchI.ref1 {w wr:World} {g TB n c:Nat} {v id:Int} {b2 b3:Bool} {chk:List Pred} {A:Option Addr} (h:SchI w wr g TB n v id false b2 b3 chk) (hc:1≤c) (hr:RfrS wr (SD w wr g TB) A [⟨[1],0⟩]):SchI w (wr.setCell ⟨TB,8,none⟩ (.slice A 1 c)) g TB n v id true b2 b3 chk :=
 h.set (fun vs hv=>by
  obtain⟨v0,v1,v2,v3,rfl,l0,l1,l2,l3,h0,h1,h2,h3⟩:=ZdY hv;have e:(v0++(v1++(v2++v3))).set 8 (.slice A 1 c)=v0++(v1.set 3 (.slice A 1 c)++(v2++v3)):=(by rw [List.set_append,if_neg (by omega),List.set_append,if_pos (by omega),l0]);rw [e];exact ZeS h0 (Zgj (R':=[⟨[1],0⟩]) h1 hc hr) h2 h3)
theorem SchI.chk1 {w wr:World} {g TB n c:Nat} {v id:Int} {b1 b2 b3:Bool} {chk:List Pred} {p:Pred} {A:Option Addr} (h:SchI w wr g TB n v id b1 b2 b3 chk) (hc:1≤c) (hr:PredS wr (SD w wr g TB) A [p]):SchI w (wr.setCell ⟨TB,9,none⟩ (.slice A 1 c)) g TB n v id b1 b2 b3 [p] :=
 h.set (fun vs hv=>by
  obtain⟨v0,v1,v2,v3,rfl,l0,l1,l2,l3,h0,h1,h2,h3⟩:=ZdY hv;have e:(v0++(v1++(v2++v3))).set 9 (.slice A 1 c)=v0++(v1.set 4 (.slice A 1 c)++(v2++v3)):=(by rw [List.set_append,if_neg (by omega),List.set_append,if_pos (by omega),l0]);rw [e];exact ZeS h0 (tab_chks (ck':=[p]) h1 hc hr) h2 h3)
theorem SchI.ref2 {w wr:World} {g TB n c:Nat} {v id:Int} {b1 b3:Bool} {chk:List Pred} {A:Option Addr} (h:SchI w wr g TB n v id b1 false b3 chk) (hc:1≤c) (hr:RfrS wr (SD w wr g TB) A [⟨[0],0⟩]):SchI w (wr.setCell ⟨TB,13,none⟩ (.slice A 1 c)) g TB n v id b1 true b3 chk :=
 h.set (fun vs hv=>by
  obtain⟨v0,v1,v2,v3,rfl,l0,l1,l2,l3,h0,h1,h2,h3⟩:=ZdY hv;have e:(v0++(v1++(v2++v3))).set 13 (.slice A 1 c)=v0++(v1++(v2.set 3 (.slice A 1 c)++v3)):=(by rw [List.set_append,if_neg (by omega),List.set_append,if_neg (by omega),List.set_append,if_pos (by omega),l0,l1]);rw [e];exact ZeS h0 h1 (Zgj (R':=[⟨[0],0⟩]) h2 hc hr) h3)
theorem SchI.ref3 {w wr:World} {g TB n c:Nat} {v id:Int} {b1 b2:Bool} {chk:List Pred} {A:Option Addr} (h:SchI w wr g TB n v id b1 b2 false chk) (hc:1≤c) (hr:RfrS wr (SD w wr g TB) A [⟨[0],1⟩]):SchI w (wr.setCell ⟨TB,18,none⟩ (.slice A 1 c)) g TB n v id b1 b2 true chk :=
 h.set (fun vs hv=>by
  obtain⟨v0,v1,v2,v3,rfl,l0,l1,l2,l3,h0,h1,h2,h3⟩:=ZdY hv;have e:(v0++(v1++(v2++v3))).set 18 (.slice A 1 c)=v0++(v1++(v2++v3.set 3 (.slice A 1 c))):=(by rw [List.set_append,if_neg (by omega),List.set_append,if_neg (by omega),List.set_append,if_neg (by omega),l0,l1,l2]);rw [e];exact ZeS h0 h1 h2 (Zgj (R':=[⟨[0],1⟩]) h3 hc hr))
theorem Zhp {w wr:World} {g TB:Nat} {x t:Int} (h1:w.heap.size<wr.heap.size) (h2:TB+1<wr.heap.size) (h3:g<w.heap.size) :
  RfrS ((wr.alloc (.cells #[.int .i64 x] 3)).alloc (.cells #[.slice (some ⟨wr.heap.size,0,none⟩) 1 1,.int .i64 t] 87)) (SD w ((wr.alloc (.cells #[.int .i64 x] 3)).alloc (.cells #[.slice (some ⟨wr.heap.size,0,none⟩) 1 1,.int .i64 t] 87)) g TB) (some ⟨wr.heap.size+1,0,none⟩) [⟨[x],t⟩]:=by
 have hb1:=(Below.heap_alloc (wr.alloc (.cells #[.int .i64 x] 3)) (.cells #[.slice (some ⟨wr.heap.size,0,none⟩) 1 1,.int .i64 t] 87) wr.heap.size (by simp)).trans (heap_alloc_new wr (.cells #[.int .i64 x] 3));have hb2:=heap_alloc_new (wr.alloc (.cells #[.int .i64 x] 3)) (.cells #[.slice (some ⟨wr.heap.size,0,none⟩) 1 1,.int .i64 t] 87);rw [World.size_alloc] at hb2
 have hi:IntS ((wr.alloc (.cells #[.int .i64 x] 3)).alloc (.cells #[.slice (some ⟨wr.heap.size,0,none⟩) 1 1,.int .i64 t] 87)) (SD w ((wr.alloc (.cells #[.int .i64 x] 3)).alloc (.cells #[.slice (some ⟨wr.heap.size,0,none⟩) 1 1,.int .i64 t] 87)) g TB) (some ⟨wr.heap.size,0,none⟩) [x] :=
  Sl.of_vals (by rw [Zag (n:=8) (fun _=>rfl)];simp) (ZaS (show Dat.Vals _ _ (ZcW x) [.int .i64 x] by simp [ZcW,Dat.Vals])) (fun _=>⟨wr.heap.size,0,rfl,⟨by omega,by simp;omega,by omega,by omega,by omega⟩,Zaa hb1⟩)
 refine Sl.of_vals (by rw [Zag (n:=32) (fun _=>rfl)];simp) (ZaS (vs:=[.slice (some ⟨wr.heap.size,0,none⟩) 1 1,.int .i64 t]) ?_) (fun _=>⟨wr.heap.size+1,0,rfl,⟨by omega,by simp,by omega,by omega,by omega⟩,Zaa hb2⟩);simp only [Zhe,Dat.Vals,Dat.ValsAll,ZaW];exact⟨[.slice (some ⟨wr.heap.size,0,none⟩) 1 1],_,rfl,⟨_,1,rfl,by simp,hi⟩,[.int .i64 t],[],rfl,⟨rfl,trivial⟩,rfl⟩
theorem SchI.tabS {w wr:World} {g TB n:Nat} {v id:Int} {b1 b2 b3:Bool} {chk:List Pred} (h:SchI w wr g TB n v id b1 b2 b3 chk) (hn:n≤4):TabS wr (fun b=>w.heap.size<b∧b<wr.heap.size∧b≠TB+1) (some ⟨TB,0,none⟩) ((Zat id (rf0 b1 1 0) (rf0 b2 0 0) (rf0 b3 0 1) chk).take n):=by
 obtain⟨vs,h1,h2⟩:=h.tb;have h3:=(Zbe (n:=5) ZdK h2 n hn).1;have hlo:=h.lo;refine Sl.of_vals (by rw [Zag (n:=96) (fun _=>rfl),List.length_take];have:(Zat id (rf0 b1 1 0) (rf0 b2 0 0) (rf0 b3 0 1) chk).length=4:=rfl;omega) (Dat.ValsAll.more (fun b hb=>⟨hb.1,hb.2.1,hb.2.2.2.1⟩) _ _ h3) (fun _=>⟨TB,0,rfl,⟨hlo,Zad h1,by omega⟩,fun j u hu=>?_⟩);have:=Zaa h1 j u (by simpa using getElem?_of_take hu);exact this
theorem schI_start {w w3 W:World} {g n:Nat} {v idk:Int} (hz:w3.heap.size=w.heap.size+1) (hgl:g<w.heap.size) (hW:(genOs v idk n w3.heap.size).foldl World.alloc w3=W) (hc:CaseOk w3 g) (hg:w.grownBy w3 (some g)) (hr:w3.heap[w.heap.size]?=some (.cells #[.int .i64 0,.slice none 0 0] 28 (0,0))) :
  SchI w W g (w3.heap.size+13) n v idk false false false []∧W.heap.size=w3.heap.size+15:=by
 obtain⟨hB,hs⟩:=Zdo (genOs v idk n w3.heap.size) w3;have hk:∀ k (hk:k<15),W.heap[w3.heap.size+k]?=(genOs v idk n w3.heap.size)[k]?:=(fun k hk=>by rw [←hW];exact ZfB _ _ _ hk);rw [hW] at hB hs;have hs':W.heap.size=w3.heap.size+15:=hs;have hD:∀ k,k<13→SD w W g (w3.heap.size+13) (w3.heap.size+k):=fun k h=>⟨by omega,by omega,by omega,by omega,by omega⟩;have n1:∀ l:List Col,(∀ c ∈ l,c.name.size≤100)→∀ c ∈ l,c.name.size≤9223372036854775807:=(fun l h c hc=>by have:=h c hc;omega);have k1:ColS W (SD w W g (w3.heap.size+13)) (some ⟨w3.heap.size+2,0,none⟩) ZeH:=Zdw (l:=ZeH) (hk 2 (by omega)) (hD 2 (by omega)) (n1 _ (by decide)) (by decide);have k2:ColS W (SD w W g (w3.heap.size+13)) (some ⟨w3.heap.size+7,0,none⟩) (ZcA idk):=Zdw (l:=ZcA idk) (hk 7 (by omega)) (hD 7 (by omega)) (n1 _ (by intro c hc;simp only [ZcA,List.mem_cons,List.not_mem_nil,or_false] at hc;rcases hc with rfl | rfl | rfl | rfl<;>first | (show nId.size≤100;decide) | (show nProject.size≤100;decide) | (show nTitle.size≤100;decide) | (show nDone.size≤100;decide))) (by show 4≤100;omega);have k3:ColS W (SD w W g (w3.heap.size+13)) (some ⟨w3.heap.size+10,0,none⟩) Zdi:=Zdw (l:=Zdi) (hk 10 (by omega)) (hD 10 (by omega)) (n1 _ (by decide)) (by decide);have k4:ColS W (SD w W g (w3.heap.size+13)) (some ⟨w3.heap.size+12,0,none⟩) (ZcV idk):=Zdw (l:=ZcV idk) (hk 12 (by omega)) (hD 12 (by omega)) (n1 _ (by intro c hc;simp only [ZcV,List.mem_cons,List.not_mem_nil,or_false] at hc;rcases hc with rfl;show nTask.size≤100;decide)) (by show 1≤100;omega);refine⟨⟨⟨_,hk 13 (by omega),?_⟩,hk 14 (by omega),?_,?_,?_,by omega,hgl⟩,hs'⟩
 · show Dat.ValsAll W (SD w W g (w3.heap.size+13)) _ ([.string nProjects,.slice (some ⟨w3.heap.size+2,0,none⟩) 2 2,.int .i64 1,.slice none 0 0,.slice none 0 0]++([.string nTasks,.slice (some ⟨w3.heap.size+7,0,none⟩) 4 4,.int .i64 1,.slice none 0 0,.slice none 0 0]++([.string nMembers,.slice (some ⟨w3.heap.size+10,0,none⟩) 2 2,.int .i64 2,.slice none 0 0,.slice none 0 0]++([.string nArchived,.slice (some ⟨w3.heap.size+12,0,none⟩) 1 1,.int .i64 1,.slice none 0 0,.slice none 0 0]++[]))));simp only [Zat,List.map_cons,List.map_nil,Dat.ValsAll]
   exact⟨_,_,rfl,Zdq (t:=⟨nProjects,ZeH,1,[],[]⟩) (by show nProjects.size≤_;decide) nR k1 nR Sl.nil_ nR Sl.nil_,
    _,_,rfl,Zdq (t:=⟨nTasks,ZcA idk,1,[],[]⟩) (by show nTasks.size≤_;decide) nR k2 nR Sl.nil_ nR Sl.nil_,
    _,_,rfl,Zdq (t:=⟨nMembers,Zdi,2,[],[]⟩) (by show nMembers.size≤_;decide) nR k3 nR Sl.nil_ nR Sl.nil_,
    _,_,rfl,Zdq (t:=⟨nArchived,ZcV idk,1,[],[]⟩) (by show nArchived.size≤_;decide) nR k4 nR Sl.nil_ nR Sl.nil_,rfl⟩
 · exact(hB.block _ (by omega)).trans hr
 · exact hc.keep (fun b hb=>hB.block b (by omega))
 · exact hg.trans (Fr.of_below (X:=fun b=>b=g) hB).grown
theorem SchI.cell {w wr:World} {g TB n k:Nat} {v id:Int} {b1 b2 b3:Bool} {chk:List Pred} (h:SchI w wr g TB n v id b1 b2 b3 chk) (hk:k<20):(∃ x,wr.cell? ⟨TB,k,none⟩=some x)∧wr.frozen? ⟨TB,k,none⟩=false:=by
 obtain⟨vs,h1,h2⟩:=h.tb;have hl:vs.length=20:=(by rw [Dat.ValsAll.len _ _ h2,Zbf (n:=5) ZdK];rfl);refine⟨⟨vs[k],?_⟩,by simp [World.frozen?,h1]⟩;have:=Zaa h1 k vs[k] (by simp);rw [Nat.zero_add] at this;exact this
end Go.Proofs.YtkpjjfhfbpfjpaaGreat
