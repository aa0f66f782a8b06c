import Derived.Test.YtkpjjfhfbpfjpaaGreatK50fb0e
import Derived.Test.YtkpjjfhfbpfjpaaGreatKd9b46f
set_option linter.unusedVariables false
set_option linter.unusedSimpArgs false
set_option maxRecDepth 100000
set_option maxHeartbeats 8000000
namespace Go.Proofs.YtkpjjfhfbpfjpaaGreat
open Go.RowKit
def sC:Sch:=⟨0,[⟨tA,[⟨tB,4⟩],1,[],[]⟩]⟩
def rC:Row:=[⟨4,7,⟨#[]⟩⟩]
def oneS:List Chg:=[⟨0,[],rC⟩]
def begS (n:Nat):List Obj:=[
 .cells #[.string tB,.int .i64 4] 84 (0,0),
 .cells #[.string tA,.slice (some ⟨n,0,none⟩) 1 1,.int .i64 1,.slice none 0 0,.slice none 0 0] 72 (0,0),
 .cells #[.int .i64 0,.slice (some ⟨n+1,0,none⟩) 1 1] 28 (0,0),
 .cells #[.int .i64 4,.int .i64 7,.string ⟨#[]⟩] 89 (0,0)]
theorem sch_sC:schF pcF sC=0:=by kernel_rfl
theorem Zhz:ZbR sC 1=0:=by unfold ZbR;rw [if_neg (by omega)];exact sch_sC
theorem home_one (t:Int) (k:Row):Zdy 1 t k=0:=Int.emod_one _
theorem of_sC:ofF sC 1 0 rC=(0,0):=by
 have h1:KeyOk (Zfg sC 0) rC:=⟨by kernel_rfl,fun i hi=>by
  obtain rfl:i=0:=(by simp [rC] at hi;omega);exact⟨by kernel_rfl,by kernel_rfl⟩⟩
 unfold ofF;rw [Zhz,if_neg (by simp),if_neg (by decide),if_pos h1,home_one]
theorem net_sC:netF 0 sC 1 oneS=(0,oneS):=by kernel_rfl
theorem split_sC:Zcs sC 1 oneS=(0,[oneS]):=by
 unfold Zcs;rw [Zhz,if_neg (by simp),sch_sC,net_sC,if_neg (by simp)];have h:∀ c,ZbM sC 1 c=0:=(fun c=>by unfold ZbM;rw [home_one];rfl)
 have e:Zbw (1:Int).toNat (ZbM sC 1) oneS=[oneS]:=by
  show Zbw 1 _ _=_;simp [Zbw,List.range_succ,h,oneS]
 rw [e]
theorem colS_block {w:World} {S:Nat→Prop} {b:Nat} (h:w.heap[b]?=some (.cells #[.string tB,.int .i64 4] 84 (0,0))) (hS:S b):ColS w S (some ⟨b,0,none⟩) [⟨tB,4⟩]:=by
 have hc:=Zaa h;refine⟨by rw [Zag (n:=24) (fun _=>rfl)];simp,fun _=>⟨b,0,rfl,hS,?_⟩⟩;simp only [List.map_cons,List.map_nil,Zea,Dat.HeldAll,Dat.Held,Dat.size,Dat.sizes,and_true,ZaW,ZaR];exact⟨⟨hc 0 _ rfl,by decide⟩,hc 1 _ rfl⟩
theorem rowS_block {w:World} {S:Nat→Prop} {b:Nat} (h:w.heap[b]?=some (.cells #[.int .i64 4,.int .i64 7,.string ⟨#[]⟩] 89 (0,0))) (hS:S b):RowS w S (some ⟨b,0,none⟩) rC:=by
 refine⟨by rw [Zag (n:=32) (fun _=>rfl)];simp [rC],fun _=>⟨b,0,rfl,hS,Zcm _ b 0 (fun v hv=>?_) (fun j u hu=>Zaa h j u hu)⟩⟩;simp only [rC,List.mem_cons,List.not_mem_nil,or_false] at hv;subst hv;show (⟨#[]⟩:ByteArray).size≤_;decide
theorem chgS_block {w:World} {S:Nat→Prop} {b g:Nat} (h:w.heap[b]?=some (.cells #[.int .i64 0,.slice none 0 0,.slice (some ⟨g,0,none⟩) 1 1] 44 (0,0))) (hS:S b) (hr:RowS w S (some ⟨g,0,none⟩) rC):ChgS w S (some ⟨b,0,none⟩) oneS :=
 Sl.of_vals (vs:=[.int .i64 0,.slice none 0 0,.slice (some ⟨g,0,none⟩) 1 1]) (by rw [Zag (n:=56) (fun _=>rfl)];simp [oneS]) (ZaS (ZeQ (A:=none) (c:=0) (B:=some ⟨g,0,none⟩) (d:=1) ⟨Nat.le_refl _,RowS.nil_⟩ ⟨Nat.le_refl _,hr⟩)) (fun _=>⟨b,0,rfl,hS,Zaa h⟩)
theorem begun24_any (w:World):Calls Tryz.prog 37 #[] w (ZaQ true w):=by
 go_enter Tryz.func37,Tryz.ntmps37
 go_wp2_with fail
 change Calls Tryz.prog _ _ ((begS w.heap.size).foldl World.alloc w) _;obtain⟨W,hW⟩:∃ W,(begS w.heap.size).foldl World.alloc w=W:=⟨_,rfl⟩;obtain⟨hWB,hWs⟩:=Zdo (begS w.heap.size) w;have hk:∀ k (hk:k<4),W.heap[w.heap.size+k]?=(begS w.heap.size)[k]?:=(fun k hk=>by rw [←hW];exact ZfB _ _ _ hk);rw [hW] at hWB hWs;have hWs':W.heap.size=w.heap.size+4:=hWs;have HT:=hI (show TabS W (fun b=>b<W.heap.size) (some ⟨w.heap.size+1,0,none⟩) sC.tabs from tab_block (hk 1 (by omega)) rfl (by decide) (by omega) (by decide) (colS_block (hk 0 (by omega)) (by omega)));have HR:=hI (show RowS W (fun b=>b<W.heap.size) (some ⟨w.heap.size+1+1+1,0,none⟩) rC from rowS_block (hk 3 (by omega)) (by omega));have y0:W.cell? ⟨w.heap.size+1+1,0,none⟩=some (.int .i64 0):=(Zaa (hk 2 (by omega))) 0 _ rfl;have y1:W.cell? ⟨w.heap.size+1+1,1,none⟩=some (.slice (some ⟨w.heap.size+1,0,none⟩) 1 1):=(Zaa (hk 2 (by omega))) 1 _ rfl;rw [hW];have HWB:=hI hWB;clear hW hk hWs hWB;have hl0:w.heap.size+4≤W.heap.size:=(by omega);clear hWs';have hOF:=shOf_any (some ⟨w.heap.size+1,0,none⟩) 1 sC 1 0 (some ⟨w.heap.size+1+1+1,0,none⟩) 1 rC (fun b=>b<W.heap.size) W HT.out HR.out (fun b hb=>hb);rw [of_sC] at hOF;refine(show Calls _ _ _ _ _ from hOF).mono ?_;rintro e w1 ⟨rfl,hb1⟩;clear hOF;have hz1:=hb1.size;have HB1:=hI hb1;have z0:=c9K hb1 y0;have z1:=c9K hb1 y1;have hq0:w.heap.size+1+1<w1.heap.size:=(by omega);clear hb1 y0 y1
 go_wp2_with fail
 obtain⟨w2,hw2⟩:∃ w2,w1.alloc (.cells #[.int .i64 0,.slice none 0 0,.slice (some ⟨w.heap.size+1+1+1,0,none⟩) 1 1] 44)=w2:=⟨_,rfl⟩;have hb2:Below w1.heap.size w1 w2:=(by rw [←hw2];exact(Below.refl _ _).alloc nR _);have CB:=hI (show w2.heap[w1.heap.size]?=some (.cells #[.int .i64 0,.slice none 0 0,.slice (some ⟨w.heap.size+1+1+1,0,none⟩) 1 1] 44 (0,0)) by rw [←hw2];exact heap_alloc_new w1 _);have hz2:w1.heap.size<w2.heap.size:=Zad CB.out;change Calls Tryz.prog _ _ (w1.alloc (.cells #[.int .i64 0,.slice none 0 0,.slice (some ⟨w.heap.size+1+1+1,0,none⟩) 1 1] 44)) _;rw [hw2];clear hw2;have HB2:=hI (HB1.out.trans (hb2.mono hz1));have hup:∀ b,b<W.heap.size→b<w2.heap.size:=(fun b hb=>by omega)
 have hSP:=ZeX (some ⟨w.heap.size+1,0,none⟩) 1 sC 1 (some ⟨w1.heap.size,0,none⟩) 1 oneS (fun b=>b<w2.heap.size) w2 ((HT.out.keep (fun b hb=>HB2.out.block b hb)).more hup) (chgS_block CB.out hz2 ((HR.out.keep (fun b hb=>HB2.out.block b hb)).more hup)) (fun b hb=>hb) (by decide)
  (fun _ _ c hc=>by
   rw [net_sC] at hc;simp only [oneS,List.mem_singleton] at hc;subst hc;exact⟨⟨0,rfl,by decide⟩,.inr (by decide),⟨by simp,by simp⟩,⟨fun v hv=>by simp only [rC,List.mem_singleton] at hv;subst hv;kernel_rfl,by decide⟩⟩) (by rw [sch_sC,net_sC];decide)
 rw [split_sC] at hSP;refine(show Calls _ _ _ _ _ from hSP).mono ?_;rintro e w3 ⟨A3,c3,rfl,hc3,hS3,hb3⟩;clear hSP;have HB3:=hI (HWB.out.trans (HB2.out.mono (by omega) |>.trans (hb3.mono (by omega))));obtain⟨b3,o3,rfl,hbb3,hh3⟩:=hS3.2 (by simp);simp only [List.map_cons,List.map_nil,Zdk,Dat.HeldAll,Dat.Held,and_true] at hh3;obtain⟨A4,c4,h4,-⟩:=hh3;have x4:w3.cell? ⟨b3,o3,none⟩=some (.slice A4 1 c4):=h4;clear hb3 hS3 h4 z0 z1 hb2 hup
 go_wp2_with fail
 go_ret;exact⟨rfl,HB3.out⟩
end Go.Proofs.YtkpjjfhfbpfjpaaGreat
