import Derived.Test.YtkpjjfhfbpfjpaaKef29f4
import Derived.Lib.SliceRun
import Derived.Test.YtkpjjfhfbpfjpaaK519b79
import Derived.Test.YtkpjjfhfbpfjpaaK4e30bf
import Derived.Test.YtkpjjfhfbpfjpaaK660fb2
set_option linter.unusedVariables false
set_option linter.unusedSimpArgs false
set_option maxRecDepth 100000
set_option maxHeartbeats 8000000
namespace Go.Proofs.Ytkpjjfhfbpfjpaa
open Go.RowKit
theorem Zdb {w:World} {base base' size n:Nat} {e:TypeId} {v:Value} {xs:List Value} (h:w.ownsRow base e size v n xs) (hb:base'≤base):w.ownsRow base' e size v n xs:=by
 refine⟨h.1,?_⟩;rcases h.2 with h0 | ⟨g,cap,cur,h1,h2,h3⟩
 · exact .inl h0
 · exact .inr ⟨g,cap,cur,h1,by omega,h3⟩
theorem NewR.low {r:Row} {w wa:World} {e:Ending} {w':World} (h:NewR r wa e w') (hb:Below w.heap.size w wa):NewR r w e w':=by
 obtain⟨A,c,h1,h2,h3⟩:=h;exact⟨A,c,h1,Zdb h2 hb.size,hb.trans (h3.mono hb.size)⟩
theorem Zdq (A0:Option Addr) (c0':Nat) (s:Sch) (t:Int) (A:Option Addr) (ca:Nat) (r:Row) (S:Nat→Prop) (w:World) (hs:TabS w S A0 s.tabs) (hr:RowS w S A r) (hca:r.length≤ca) (hS:∀ b,S b→b<w.heap.size) :
  Calls Try.prog 33 #[sAgg s.version A0 s.tabs.length c0',.int .i64 t,.slice A r.length ca] w (NewR (keyF s t r) w):=by
 have hsl:=hs.len;have hrl:=hr.len;have HS:=hI hs;have HR:=hI hr;clear hs hr;have HB1:=hI ((Below.refl w.heap.size w).alloc nR (.cells #[.int .i64 s.version,.slice A0 s.tabs.length c0'] 25))
 by_cases hh:hasN s.tabs.length t=true
 · have HKF:=hI (show keyF s t r=r.take (keyN (s.tabs.getD t.toNat t0).key r) by unfold keyF;rw [if_pos hh]);have hh0:0≤t∧t<s.tabs.length:=(by simpa [hasN] using hh);clear hh;obtain⟨tt,rfl⟩:=Int.eq_ofNat_of_zero_le hh0.1;rw [Int.toNat_natCast] at HKF;have htl:tt<s.tabs.length:=(by omega);obtain⟨b2,o2,rfl,hb2,A1,A2,A3,c1,c2,c3,hta⟩:=HS.out.at_ htl;have k1:=hta.key;have hl2:b2<w.heap.size:=hS b2 hb2;clear hta;generalize s.tabs.getD tt t0=tb at k1 HKF;obtain⟨tn,tc,tk,tr,tp⟩:=tb;simp only at k1 HKF;have hd1:decide ((tt:Int)<0)=false:=(by simp);have hd2:decide (s.tabs.length≤tt)=false:=(by simp;omega);have HL:=hI (show keyN tk r≤r.length by unfold keyN;omega);have hCY:=Zch A ca (r.take (keyN tk r)) S (w.alloc (.cells #[.int .i64 s.version,.slice (some ⟨b2,o2,none⟩) s.tabs.length c0'] 25)) ((HR.out.take (keyN tk r) (fun _=>rfl)).keep (fun b hb=>Below.heap_alloc _ _ _ (hS b hb)));rw [List.length_take,Nat.min_eq_left HL.out] at hCY;have HCY:=hI hCY;clear hCY;go_enter Try.func33,Try.ntmps33
   go_wp2_with fail
   refine(show Calls _ _ _ _ _ from HCY.out).mono ?_;intro e w1 hN;have hN':=(show NewR (r.take (keyN tk r)) _ e w1 from hN).low HB1.out;obtain⟨A4,c4,rfl,h4,hb4⟩:=hN';have H4:=hI h4;have HB4:=hI hb4;clear hN h4 hb4;obtain⟨m4,hm4⟩:∃ m,(r.take (keyN tk r)).length=m:=⟨_,rfl⟩;rw [hm4];have HM4:=hI hm4;clear hm4
   go_wp2_with fail
   go_ret;rw [HKF.out];exact⟨A4,c4,by rw [HM4.out];rfl,H4.out,HB4.out⟩
 · have HKF:=hI (show keyF s t r=[] by unfold keyF;rw [if_neg hh])
   have hh':t<0∨(s.tabs.length:Int)≤t:=by
    have:hasN s.tabs.length t=false:=(by simpa using hh);simp [hasN] at this;omega
   clear hh
   by_cases h0:t<0
   · have hd1:decide (t<0)=true:=(by simp [h0]);go_enter Try.func33,Try.ntmps33
     go_wp2_with fail
     go_ret;rw [HKF.out];exact⟨none,0,rfl,World.ownsRow_nil _ _ _ _,HB1.out⟩
   · have hd1:decide (t<0)=false:=(by simpa using h0);have hd2:decide ((s.tabs.length:Int)≤t)=true:=(by simp;omega);go_enter Try.func33,Try.ntmps33
     go_wp2_with fail
     go_ret;rw [HKF.out];exact⟨none,0,rfl,World.ownsRow_nil _ _ _ _,HB1.out⟩
def inT (s:Sch) (st:St) (t:Int):Bool:=hasN s.tabs.length t&&hasN st.length t
def getS (s:Sch) (st:St) (t:Int) (key:Row):Option Row:=if inT s st t then ZbI s t key (st.getD t.toNat []) else none
def ZgE (l:List Row) (o:Option Row) (w:World) (e:Ending) (w':World):Prop:=Below w.heap.size w w'∧match o with
 | none=>e=.returned (.int .i64 (-1))
 | some r=>∃ i,i<l.length∧l.getD i []=r∧e=.returned (.int .i64 (i:Int))
theorem rfind_in (A0:Option Addr) (c0':Nat) (s:Sch) (A:Option Addr) (ca:Nat) (st:St) (t:Nat) (AK:Option Addr) (ck:Nat) (key:Row) (S:Nat→Prop) (w:World) (hs:TabS w S A0 s.tabs) (hst:StS w S A st) (hk:RowS w S AK key) (hS:∀ b,S b→b<w.heap.size) (ht1:t<s.tabs.length) (ht2:t<st.length) :
  Calls Try.prog 71 #[sAgg s.version A0 s.tabs.length c0',ZbM A st.length ca,.int .i64 t,.slice AK key.length ck] w (ZgE (st.getD t []) (ZbI s t key (st.getD t [])) w):=by
 have hsl:=hs.len;have hstl:=hst.len;have hkl:=hk.len;have HS:=hI hs;have HST:=hI hst;have HK:=hI hk;clear hs hst hk;obtain⟨b1,o1,rfl,hb1,A',c',d1,d2,d3⟩:=HST.out.at_ ht2;have hl1:b1<w.heap.size:=hS b1 hb1;have HR:=hI d3;have hrl:=d3.len;clear d2 d3;generalize st.getD t []=rows at d1 HR hrl;have hd1:decide ((t:Int)<0)=false:=decide_eq_false (by omega);have hd2:decide (s.tabs.length≤t)=false:=decide_eq_false (by omega);have hd3:decide (st.length≤t)=false:=decide_eq_false (by omega);have HB0:=hI (((Below.refl w.heap.size w).alloc nR (.cells #[.int .i64 s.version,.slice A0 s.tabs.length c0'] 25)).alloc (by simp) (.cells #[.slice (some ⟨b1,o1,none⟩) st.length ca] 56));go_enter Try.func71,Try.ntmps71
 go_wp2_with fail
 go_loopw [33] (fun i wr=>∃ k:Nat,k≤rows.length∧i=.int .i64 k∧ZbI s t key rows=ZbI s t key (rows.drop k)∧Below w.heap.size w wr∧wr.cell? ⟨w.heap.size,0,none⟩=some (.int .i64 s.version)∧wr.cell? ⟨w.heap.size,1,none⟩=some (.slice A0 s.tabs.length c0')∧w.heap.size<wr.heap.size) (fun i _=>rows.length - (intOf i).toNat)
 case atStart=>exact⟨0,Nat.zero_le _,rfl,by simp,HB0.out,(Zaf (by simp)).trans (Zad rfl rfl),(Zaf (by simp)).trans (Zad rfl rfl),by simp;omega⟩
 case round =>
  obtain⟨k,hk,rfl,hf,hbel,x0,x1,hw⟩:=hrel;have HF:=hI hf;have HB:=hI hbel;clear hf hbel d1
  by_cases hkl':k<rows.length
  · obtain⟨b2,o2,rfl,hb2,A2,c2,f1,f2,f3⟩:=(HR.out.keep (Same.of_below HB.out hS)).at_ hkl';have hl2:b2<wr.heap.size:=(by have:=hS b2 hb2;omega);have HROW:=hI f3;have HC:=hI f2;have hrw:=f3.len;have HSTEP:=hI (Zfj s t key hkl');have HOK:=hI f3.ok;obtain⟨row,hrow⟩:∃ row,rows.getD k []=row:=⟨_,rfl⟩;have HROWE:=hI hrow;clear f2 f3;rw [hrow] at f1 HROW HC hrw HSTEP HOK;clear hrow;have hSr:∀ b,S b→b<wr.heap.size:=fun b hb=>by have:=hS b hb;omega
    go_wp2_with fail
    refine(Zdq A0 c0' s t A2 c2 row S _ (HS.out.keep (Same.of_below HB.out hS)) HROW.out HC.out hSr).mono ?_;rintro e w1 ⟨A3,c3,rfl,h3,hb3⟩;have hokk:RowOk (keyF s t row):=((HROW.out.key s t (A':=A2) (fun _=>rfl))).ok;have HKR:=hI ((ZcC hokk h3).more (S':=fun b=>b<w1.heap.size) (fun b hb=>hb.2));have HB3:=hI (HB.out.trans (hb3.mono (by omega)));have y0:=c9Q hb3 hw x0;have y1:=c9Q hb3 hw x1;have hw3:w.heap.size<w1.heap.size:=(by have:=hb3.size;omega);have hs3:=hb3.size;clear hb3 h3 x0 x1 hokk
    go_wp2_with fail
    refine(ZbK A3 AK c3 ck (keyF s t row) key (fun b=>b<w1.heap.size) _ HKR.out ((HK.out.keep (Same.of_below HB3.out hS)).more (fun b hb=>by have:=hS b hb;omega)) (fun b hb=>hb)).mono ?_;rintro e w2 ⟨rfl,hb4⟩;have HB4:=hI (HB3.out.trans (hb4.mono (by omega)));have z0:=c9Q hb4 hw3 y0;have z1:=c9Q hb4 hw3 y1;have hw4:w.heap.size<w2.heap.size:=(by have:=hb4.size;omega);clear hb4 y0 y1
    by_cases hc:cmpR (keyF s t row) key=0
    · have HFF:=hI (show ZbI s t key rows=some row by rw [HF.out,HSTEP.out,if_pos hc]);rw [hc];clear hc HSTEP
      go_wp2_with fail
      go_ret;rw [HFF.out];exact⟨HB4.out,k,hkl',HROWE.out,rfl⟩
    · have HFF:=hI (show ZbI s t key rows=ZbI s t key (rows.drop (k+1)) by rw [HF.out,HSTEP.out,if_neg hc]);have hd:(cmpR (keyF s t row) key == 0)=false:=beq_eq_false_iff_ne.2 hc;clear hc HSTEP;generalize cmpR (keyF s t row) key=cv at hd
      go_wp2_with fail
      go_roundw
      case rel=>exact⟨k+1,by omega,by go_num,HFF.out,HB4.out,z0,z1,hw4⟩
      case measure=>simp [intOf];omega
  · have HFF:=hI (show ZbI s t key rows=none by rw [HF.out,List.drop_eq_nil_of_le (by omega)];rfl)
    go_wp2_with fail
    go_ret;rw [HFF.out];exact⟨HB.out,rfl⟩
theorem not_in {s:Sch} {st:St} {t:Int} (h:inT s st t=false):t<0∨(s.tabs.length:Int)≤t∨(st.length:Int)≤t:=by
 unfold inT hasN at h
 by_cases h1:t<0
 · exact .inl h1
 · by_cases h2:(s.tabs.length:Int)≤t
   · exact .inr (.inl h2)
   · refine .inr (.inr ?_);have a1:decide (0≤t)=true:=decide_eq_true (by omega);have a2:decide (t<s.tabs.length)=true:=decide_eq_true (by omega);rw [a1,a2] at h;simp at h;exact h
theorem is_in {s:Sch} {st:St} {t:Int} (h:inT s st t=true):∃ k:Nat,t=k∧k<s.tabs.length∧k<st.length:=by
 unfold inT hasN at h;simp only [Bool.and_eq_true,decide_eq_true_eq] at h;obtain⟨k,hk⟩:=Int.eq_ofNat_of_zero_le h.1.1;exact⟨k,hk,by omega,by omega⟩
theorem rfind_out (A0:Option Addr) (c0':Nat) (s:Sch) (A:Option Addr) (ca:Nat) (st:St) (t:Int) (AK:Option Addr) (ck:Nat) (key:Row) (w:World) (hsl:s.tabs.length≤17592186044416) (hstl:st.length≤5864062014805) (hin:inT s st t=false) :
  Calls Try.prog 71 #[sAgg s.version A0 s.tabs.length c0',ZbM A st.length ca,.int .i64 t,.slice AK key.length ck] w (ZgE [] none w):=by
 have HB0:=hI (((Below.refl w.heap.size w).alloc nR (.cells #[.int .i64 s.version,.slice A0 s.tabs.length c0'] 25)).alloc (by simp) (.cells #[.slice A st.length ca] 56));have hor:=not_in hin;clear hin
 by_cases h0:t<0
 · have hd1:decide (t<0)=true:=decide_eq_true h0;clear hor;go_enter Try.func71,Try.ntmps71
   go_wp2_with fail
   go_ret;exact⟨HB0.out,rfl⟩
 · have hd1:decide (t<0)=false:=decide_eq_false h0
   by_cases h1:(s.tabs.length:Int)≤t
   · have hd2:decide ((s.tabs.length:Int)≤t)=true:=decide_eq_true h1;clear hor;go_enter Try.func71,Try.ntmps71
     go_wp2_with fail
     go_ret;exact⟨HB0.out,rfl⟩
   · have hd2:decide ((s.tabs.length:Int)≤t)=false:=decide_eq_false h1;have h3:(st.length:Int)≤t:=(by omega);have hd3:decide ((st.length:Int)≤t)=true:=decide_eq_true h3;clear hor;go_enter Try.func71,Try.ntmps71
     go_wp2_with fail
     go_ret;exact⟨HB0.out,rfl⟩
def GetN (o:Option Row) (w:World) (e:Ending) (w':World):Prop:=∃ A c,e=.returned (.tuple #[.slice A (o.getD []).length c,.bool o.isSome])∧w'.ownsRow w.heap.size 51 3 (.slice A (o.getD []).length c) (o.getD []).length (Zak (o.getD []))∧Below w.heap.size w w'
theorem rget_any (A0:Option Addr) (c0':Nat) (s:Sch) (A:Option Addr) (ca:Nat) (st:St) (t:Int) (AK:Option Addr) (ck:Nat) (key:Row) (S:Nat→Prop) (w:World) (hs:TabS w S A0 s.tabs) (hst:StS w S A st) (hk:RowS w S AK key) (hS:∀ b,S b→b<w.heap.size) :
  Calls Try.prog 35 #[sAgg s.version A0 s.tabs.length c0',ZbM A st.length ca,.int .i64 t,.slice AK key.length ck] w (GetN (getS s st t key) w):=by
 have hsl:=hs.len;have hstl:=hst.len;have HS:=hI hs;have HST:=hI hst;have HK:=hI hk;clear hs hst hk;have HB0:=hI (((Below.refl w.heap.size w).alloc nR (.cells #[.int .i64 s.version,.slice A0 s.tabs.length c0'] 25)).alloc (by simp) (.cells #[.slice A st.length ca] 56));have HSM:=hI (Same.of_below HB0.out hS)
 by_cases hin:inT s st t=true
 · have HG:=hI (show getS s st t key=ZbI s t key (st.getD t.toNat []) by unfold getS;rw [if_pos hin]);obtain⟨k,rfl,hk1,hk2⟩:=is_in hin;rw [Int.toNat_natCast] at HG;clear hin;go_enter Try.func35,Try.ntmps35
   go_wp2_with fail
   refine(rfind_in A0 c0' s A ca st k AK ck key S _ (HS.out.keep HSM.out) (HST.out.keep HSM.out) (HK.out.keep HSM.out) (fun b hb=>by have:=hS b hb;simp;omega) hk1 hk2).mono ?_;rintro e w1 ⟨hb1,hm⟩;have HB1:=hI (HB0.out.trans (hb1.mono (by simp;omega)));have x0:w1.cell? ⟨w.heap.size+1,0,none⟩=some (.slice A st.length ca):=c9Q hb1 (by simp) (Zad (by simp) rfl);have hw1:w.heap.size+1<w1.heap.size:=(by have:=hb1.size;simp at this;omega);clear hb1;cases ho:ZbI s k key (st.getD k []) with
   | none =>
    rw [ho] at hm HG;obtain rfl:=hm;clear ho
    go_wp2_with fail
    go_ret2;rw [HG.out];exact⟨none,0,rfl,World.ownsRow_nil _ _ _ _,HB1.out⟩
   | some r =>
    rw [ho] at hm HG;obtain⟨i,hi,hr,rfl⟩:=hm;have HR:=hI hr;clear ho hr;obtain⟨b1,o1,rfl,hb1,A',c',d1,d2,d3⟩:=(HST.out.keep (Same.of_below HB1.out hS)).at_ hk2;have hl1:b1<w.heap.size:=hS b1 hb1;obtain⟨b2,o2,rfl,hb2,A2,c2,f1,f2,f3⟩:=d3.at_ hi;have hl2:b2<w.heap.size:=hS b2 hb2;have hrl:=d3.len;rw [HR.out] at f1 f2 f3;have HROW:=hI f3;have HC:=hI f2;clear d2 d3 f2 f3 HR;generalize st.getD k []=rows at d1 hi hrl HG
    go_wp2_with fail
    refine(Zch A2 c2 r S _ HROW.out).mono ?_;rintro e w2 hN;obtain⟨A3,c3,rfl,h3,hb3⟩:=NewR.low (w:=w) hN HB1.out;have H3:=hI h3;have HB3:=hI hb3;clear hN h3 hb3
    go_wp2_with fail
    go_ret2;rw [HG.out];exact⟨A3,c3,rfl,H3.out,HB3.out⟩
 · have hin':inT s st t=false:=(by simpa using hin);have HG:=hI (show getS s st t key=none by unfold getS;rw [if_neg hin]);have HIN:=hI hin';clear hin hin';go_enter Try.func35,Try.ntmps35
   go_wp2_with fail
   refine(rfind_out A0 c0' s A ca st t AK ck key _ hsl hstl HIN.out).mono ?_;rintro e w1 ⟨hb1,rfl⟩;have HB1:=hI (HB0.out.trans (hb1.mono (by simp;omega)));clear hb1
   go_wp2_with fail
   go_ret2;rw [HG.out];exact⟨none,0,rfl,World.ownsRow_nil _ _ _ _,HB1.out⟩
def StC (w:World) (S:Nat→Prop) (gt:Nat) (st:St):Prop :=
 ∃ vs:List Value,(∃ rest:List Value,w.heap[gt]?=some (.cells (vs++rest).toArray 49 (0,0)))∧Dat.ValsAll w S (st.map ZaL) vs∧∀ b,S b→b<w.heap.size∧b≠gt
section
variable {w w':World} {S S':Nat→Prop} {gt:Nat} {st:St}
theorem StC.keep (h:StC w S gt st) (hs:w.heap.size≤w'.heap.size) (hk:Same S w w') (hg:w'.heap[gt]?=w.heap[gt]?):StC w' S gt st:=by
 obtain⟨vs,⟨rest,h1⟩,h2,h3⟩:=h;exact⟨vs,⟨rest,hg.trans h1⟩,Dat.ValsAll.keep hk _ _ h2,fun b hb=>⟨Nat.lt_of_lt_of_le (h3 b hb).1 hs,(h3 b hb).2⟩⟩
theorem StC.lt (h:StC w S gt st):gt<w.heap.size:=by
 obtain⟨vs,⟨rest,h1⟩,_⟩:=h;exact Zae h1
theorem StC.mem (h:StC w S gt st):∀ b,S b→b<w.heap.size∧b≠gt:=by
 obtain⟨_,_,_,h3⟩:=h;exact h3
theorem StC.below (h:StC w S gt st) (hb:Below w.heap.size w w'):StC w' S gt st :=
 h.keep hb.size (fun b hb'=>hb.block b (h.mem b hb').1) (hb.block gt h.lt)
theorem StC.fr {X:Nat→Prop} (h:StC w S gt st) (hf:Fr X w w') (hX:∀ b,X b→b<w.heap.size→¬ S b∧b≠gt):StC w' S gt st :=
 h.keep hf.size (fun b hb=>hf.block b (h.mem b hb).1 (fun hx=>(hX b hx (h.mem b hb).1).1 hb)) (hf.block gt h.lt (fun hx=>(hX gt hx h.lt).2 rfl))
theorem StC.more (h:StC w S gt st) (hS:∀ b,S b→S' b) (hS':∀ b,S' b→b<w.heap.size∧b≠gt):StC w S' gt st:=by
 obtain⟨vs,h1,h2,h3⟩:=h;exact⟨vs,h1,Dat.ValsAll.more hS _ _ h2,hS'⟩
theorem StC.at_ (h:StC w S gt st) {k:Nat} (hk:k<st.length):w.frozen? ⟨gt,k,none⟩=false∧∃ A c,w.cell? ⟨gt,k,none⟩=some (.slice A (st.getD k []).length c)∧(st.getD k []).length≤c∧RowsS w S A (st.getD k []):=by
 obtain⟨vs,⟨rest,h1⟩,h2,h3⟩:=h;obtain⟨A,c,h4,h5⟩:=Zgd h2 hk;refine⟨by simp [World.frozen?,h1],A,c,?_,h5⟩;have hl:k<vs.length:=(List.getElem?_eq_some_iff.1 h4).1;simp only [World.cell?,h1];simpa [List.getElem?_append_left hl] using h4
theorem StC.slice (h:StC w S gt st) (hl:st.length≤5864062014805) (hS:∀ b,S b→S' b) (hg:S' gt):StS w S' (some ⟨gt,0,none⟩) st:=by
 obtain⟨vs,⟨rest,h1⟩,h2,h3⟩:=h;refine Sl.of_vals (by rw [Zag (n:=24) (fun _=>rfl)];omega) (Dat.ValsAll.more hS _ _ h2) (fun h0=>⟨gt,0,rfl,hg,fun j u hu=>?_⟩);have hj:j<vs.length:=(List.getElem?_eq_some_iff.1 hu).1;simp only [World.cell?,h1,Nat.zero_add];simpa [List.getElem?_append_left hj] using hu
theorem StC.put (h:StC w S gt st) {k:Nat} (hk:k<st.length) {A:Option Addr} {c:Nat} {r:List Row} (hc:r.length≤c) (hr:RowsS w S A r):StC (w.setCell ⟨gt,k,none⟩ (.slice A r.length c)) S gt (st.set k r):=by
 obtain⟨vs,⟨rest,h1⟩,h2,h3⟩:=h;have hs:Same S w (w.setCell ⟨gt,k,none⟩ (.slice A r.length c)):=fun b hb=>Below.heap_setCell w ⟨gt,k,none⟩ _ b (h3 b hb).2;have hl:k<vs.length:=(by rw [valsAll_len h2];exact hk);have h4:=Zah (k:=k) (v:=.slice A r.length c) h1;rw [List.set_append,if_pos hl] at h4;exact⟨_,⟨rest,h4⟩,Dat.ValsAll.keep hs _ _ (Zfn h2 hc hr),fun b hb=>⟨by simpa using (h3 b hb).1,(h3 b hb).2⟩⟩
theorem StC.of_own {base n c:Nat} {A:Option Addr} (h:OwnD w base 49 1 S (.slice A n c) (st.map ZaL)) (hn:0<n):∃ g,A=some ⟨g,0,none⟩∧base≤g∧n=st.length∧n≤c∧StC w S g st:=by
 obtain⟨vals,h1,h2,h3⟩:=h;rcases h1.2 with ⟨e,h0⟩ | ⟨g,cap,cur,e,hb,hh,hc,_,hs,hx⟩
 · injection e with _ e2 _;omega
 · injection e with e1 e2 e3;subst e1 e3;have hl:n=st.length:=(by rw [List.length_map] at e2;exact e2);refine⟨g,rfl,hb,hl,by rw [e2];exact hc,vals,⟨cur.toList.drop vals.length,?_⟩,h2,fun b hb'=>⟨(h3 b hb').1,fun e=>(h3 b hb').2 (by rw [e];rfl)⟩⟩;rw [hh]
   have e4:vals++cur.toList.drop vals.length=cur.toList:=by
    have:vals.length=(List.map ZaL st).length*1:=(by rw [←hx,List.length_take];simp at hs ⊢;simp at hc;omega);rw [this]
    conv=>lhs;rw [←hx]
    exact List.take_append_drop _ _
   rw [e4]
theorem StC.made {n:Nat} (h:w.heap[gt]?=some (.cells (ZaJ n).toArray 49 (0,0))):StC w (fun _=>False) gt (List.replicate n []):=by
 refine⟨ZaJ n,⟨[],by simpa using h⟩,?_,fun _ h=>h.elim⟩;clear h;induction n with
 | zero=>simp only [List.replicate_zero,List.map_nil,ZaJ];unfold Dat.ValsAll;rfl
 | succ n ih =>
  simp only [ZaJ,List.replicate_succ,List.map_cons] at ih ⊢;unfold Dat.ValsAll;refine⟨[.slice none 0 0],_,rfl,?_,ih⟩;unfold ZaL Dat.Vals;exact⟨none,0,rfl,by simp,Sl.nil_⟩
end
theorem rput_drop (s:Sch) (t:Int) (key row:Row) (d:Bool) {l:List Row} {k:Nat} (h:k<l.length):rput s t key row d (l.drop k)=(if 0≤cmpR (keyF s t (l.getD k [])) key∧d=false then [row] else [])++((if cmpR (keyF s t (l.getD k [])) key≠0 then [l.getD k []] else [])++rput s t key row (d||decide (0≤cmpR (keyF s t (l.getD k [])) key)) (l.drop (k+1))):=by
 have e:l.getD k []=l[k]:=(by simp [List.getD,h]);rw [List.drop_eq_getElem_cons h,e,rput]
structure PutI (w wr:World) (S:Nat→Prop) (s:Sch) (A0:Option Addr) (c0' gt n ca k:Nat) (d:Bool) (P rest:List Row) (A:Option Addr) (m c:Nat) (L:List Row):Prop where
 mkl:Mk wr (w.heap.size+3) S 27 1 (.slice A m c) (L.map ZaF)
 le:L.length≤k+d.toNat
 bel:Below w.heap.size w wr
 res:P=L++rest
 s0:wr.cell? ⟨w.heap.size,0,none⟩=some (.int .i64 s.version)
 s1:wr.cell? ⟨w.heap.size,1,none⟩=some (.slice A0 s.tabs.length c0')
 t0:wr.cell? ⟨w.heap.size+1,0,none⟩=some (.slice (some ⟨gt,0,none⟩) n ca)
 r0:wr.cell? ⟨w.heap.size+2,0,none⟩=some (.slice none 0 0)
 fz:wr.frozen? ⟨w.heap.size+2,0,none⟩=false
 sz:w.heap.size+3≤wr.heap.size
section
variable {w wa wb:World} {S:Nat→Prop} {s:Sch} {A0 A A':Option Addr} {c0' gt n ca k k' m m' c c':Nat} {d d':Bool} {P rest rest' L L':List Row}
theorem PutI.len (h:PutI w wa S s A0 c0' gt n ca k d P rest A m c L):m=L.length:=by have:=h.mkl.len;simpa using this
theorem PutI.step (h:PutI w wa S s A0 c0' gt n ca k d P rest A m c L) (hb:Below (w.heap.size+3) wa wb) (hm:Mk wb (w.heap.size+3) S 27 1 (.slice A' m' c') (L'.map ZaF)) (hl:L'.length≤k'+d'.toNat) (hr:P=L'++rest'):PutI w wb S s A0 c0' gt n ca k' d' P rest' A' m' c' L' :=
 ⟨hm,hl,h.bel.trans (hb.mono (by omega)),hr,c9J hb h.s0,c9J hb h.s1,c9J hb h.t0,c9J hb h.r0,(hb.frozen (p:=⟨w.heap.size+2,0,none⟩) (by show w.heap.size+2<_;omega)).trans h.fz,Nat.le_trans h.sz hb.size⟩
theorem PutI.below (h:PutI w wa S s A0 c0' gt n ca k d P rest A m c L) (hb:Below wa.heap.size wa wb):PutI w wb S s A0 c0' gt n ca k d P rest A m c L:=h.step (hb.mono h.sz) (h.mkl.below hb) h.le h.res
end
def PutPost (S:Nat→Prop) (gt n ca:Nat) (st:St) (w:World) (e:Ending) (w':World):Prop:=e=.returned (ZbM (some ⟨gt,0,none⟩) n ca)∧StC w' (fun b=>S b∨New w w' b) gt st∧Fr (fun b=>b=gt) w w'
theorem ZgJ {w wf:World} {S:Nat→Prop} {s:Sch} {A0 A:Option Addr} {c0' gt ca k m c:Nat} {d:Bool} {P L:List Row} {st:St} {t:Nat} (h:PutI w wf S s A0 c0' gt st.length ca k d P [] A m c L) (hst:StC w S gt st) (ht2:t<st.length) (hl:L.length≤5000000) (u v:Value) :
  StC ((wf.setCell ⟨gt,t,none⟩ (.slice A m c)).setCell ⟨w.heap.size+2,0,none⟩ v) (fun b=>S b∨New w ((wf.setCell ⟨gt,t,none⟩ (.slice A m c)).setCell ⟨w.heap.size+2,0,none⟩ v) b) gt (st.set t P)∧Fr (fun b=>b=gt) w ((wf.setCell ⟨gt,t,none⟩ (.slice A m c)).setCell ⟨w.heap.size+2,0,none⟩ v):=by
 have hgt:=hst.lt;have hsz:=h.sz;have hS:∀ b,S b→b<w.heap.size∧b≠gt:=(fun b hb=>by obtain⟨_,_,_,h3⟩:=hst;exact h3 b hb);obtain⟨hn,hc,hrs⟩:=h.mkl.slice (by rw [Zag (n:=24) (fun _=>rfl)];omega);have e:m=L.length:=h.len;subst e;have hP:P=L:=(by have:=h.res;simpa using this);subst hP
 have h1:StC wf (fun b=>S b∨(w.heap.size+3≤b∧b<wf.heap.size)) gt st:=(hst.below h.bel).more (fun b hb=>.inl hb) (fun b hb=>by
  rcases hb with hb | hb
  · have:=hS b hb;exact⟨by omega,this.2⟩
  · exact⟨hb.2,by have:=hb.1;omega⟩)
 have h2:=h1.put (k:=t) (by simpa using ht2) hc (show RowsS wf (fun b=>S b∨(w.heap.size+3≤b∧b<wf.heap.size)) A P from hrs);have h3:Fr (fun b=>b=gt) w (wf.setCell ⟨gt,t,none⟩ (.slice A P.length c)):=Fr.setCell (X:=fun b=>b=gt) (Fr.of_below h.bel) _ (fun _=>rfl);have h4:Fr (fun b=>b=gt) w ((wf.setCell ⟨gt,t,none⟩ (.slice A P.length c)).setCell ⟨w.heap.size+2,0,none⟩ v):=Fr.setCell (X:=fun b=>b=gt) (g:=w.heap.size+2) h3 v (fun hx=>absurd hx (by show ¬ w.heap.size+2<w.heap.size;omega));refine⟨(h2.keep (by simp) (fun b hb=>?_) (Below.heap_setCell _ ⟨w.heap.size+2,0,none⟩ _ gt (by show gt≠w.heap.size+2;omega))).more (fun b hb=>hb.imp id (fun hb=>⟨by omega,by have:=hb.2;simpa using this⟩)) (fun b hb=>?_),h4⟩
 · refine Below.heap_setCell _ ⟨w.heap.size+2,0,none⟩ _ b ?_;rcases hb with hb | hb
   · have:=hS b hb;show b≠w.heap.size+2;omega
   · have:=hb.1;show b≠w.heap.size+2;omega
 · rcases hb with hb | hb
   · have:=hS b hb;simp;omega
   · have h5:=hb.2;simp at h5 ⊢;have:=hb.1;omega
theorem Zgp (A0:Option Addr) (c0':Nat) (s:Sch) (gt ca:Nat) (st:St) (t:Nat) (AK:Option Addr) (ck:Nat) (key:Row) (AR:Option Addr) (cr:Nat) (row0:Row) (S:Nat→Prop) (w:World) (hs:TabS w S A0 s.tabs) (hst:StC w S gt st) (hk:RowS w S AK key) (hr:RowS w S AR row0) (ht1:t<s.tabs.length) (ht2:t<st.length) (hll:(st.getD t []).length≤1000000) (hnl:st.length≤1000000) :
  Calls Try.prog 64 #[sAgg s.version A0 s.tabs.length c0',ZbM (some ⟨gt,0,none⟩) st.length ca,.int .i64 (t:Int),.slice AK key.length ck,.slice AR row0.length cr] w (PutPost S gt st.length ca (st.set t (putR s t key row0 (st.getD t []))) w):=by
 obtain⟨i0,hi,hz0,hz1,hz2⟩:=info_parts Zfw;have hS:∀ b,S b→b<w.heap.size:=(fun b hb=>by obtain⟨_,_,_,h3⟩:=hst;exact(h3 b hb).1);have hgt:=hst.lt;have hgt1:gt<w.heap.size+1:=(by omega);have hgt2:gt<w.heap.size+1+1:=(by omega);have hsl:=hs.len;have hkl:=hk.len;have hrl0:=hr.len;obtain⟨hfz0,A',c',d1,d2,d3⟩:=hst.at_ ht2;have HS:=hI hs;have HST:=hI hst;have HK:=hI hk;have HR0:=hI hr;have HRS:=hI d3;have HFZ:=hI hfz0;clear hs hst hk hr d2 d3 hfz0;obtain⟨rows,hrows⟩:∃ rows,st.getD t []=rows:=⟨_,rfl⟩;rw [hrows] at d1 HRS hll ⊢;clear hrows;have HD1:=hI d1;obtain⟨P,hP⟩:∃ P,putR s t key row0 rows=P:=⟨_,rfl⟩;obtain⟨d0,hd0⟩:∃ d0:Bool,((row0.length:Int) == 0)=d0:=⟨_,rfl⟩;have hp0:P=rput s t key row0 d0 rows:=(by rw [←hP,←hd0,putR];congr 1;rw [Bool.eq_iff_iff];simp);rw [hP];clear hP;have HB0:=hI ((((Below.refl w.heap.size w).alloc nR (.cells #[.int .i64 s.version,.slice A0 s.tabs.length c0'] 25)).alloc (by simp) (.cells #[.slice (some ⟨gt,0,none⟩) st.length ca] 56)).alloc (by simp;omega) (.cells #[.slice none 0 0] 56))
 have HI0:=hI (show PutI w (((w.alloc (.cells #[.int .i64 s.version,.slice A0 s.tabs.length c0'] 25)).alloc (.cells #[.slice (some ⟨gt,0,none⟩) st.length ca] 56)).alloc (.cells #[.slice none 0 0] 56)) S s A0 c0' gt st.length ca 0 d0 P (rput s t key row0 d0 (rows.drop 0)) none 0 0 [] from
  ⟨Mk.start (fun b hb=>by have:=hS b hb;omega) (by simp) _ _,by simp,HB0.out,hp0,(Zaf (by simp;omega)).trans ((Zaf (by simp)).trans (Zad rfl rfl)),(Zaf (by simp;omega)).trans ((Zaf (by simp)).trans (Zad rfl rfl)),(Zaf (by simp)).trans (Zad (by simp) rfl),Zad (by simp) rfl,ZaK (by simp),by simp⟩)
 clear hp0;go_enter Try.func64,Try.ntmps64
 go_wp2_with fail
 go_loopw [11,12,25] (fun out done i wr=>∃ (k:Nat) (d:Bool) (A:Option Addr) (m c:Nat) (L:List Row),k≤rows.length∧i=.int .i64 k∧done=.bool d∧out=.slice A m c∧PutI w wr S s A0 c0' gt st.length ca k d P (rput s t key row0 d (rows.drop k)) A m c L) (fun _ _ i _=>rows.length - (intOf i).toNat)
 case atStart=>exact⟨0,d0,none,0,0,[],Nat.zero_le _,rfl,rfl,rfl,HI0.out⟩
 case round =>
  obtain⟨k,d,A,m,c,L,hk,rfl,rfl,rfl,hpi⟩:=hrel;have HPI:=hI hpi;have s0:=hpi.s0;have s1:=hpi.s1;have t0':=hpi.t0;have hsz:=hpi.sz;have hml:=hpi.len;have hle:=hpi.le;have hdn:d.toNat≤1:=(by cases d<;>simp);have hm1:m≤k+1:=(by omega);have HML:=hI hml;clear hpi hml hle d1 hd0
  by_cases hlt:k<rows.length
  · obtain⟨b2,o2,rfl,hb2,A2,c2,f1,f2,f3⟩:=(HRS.out.keep (Same.of_below HPI.out.bel hS)).at_ hlt;have hl2:b2<wr.heap.size:=(by have:=hS b2 hb2;omega);have HSTEP:=hI (rput_drop s t key row0 d hlt);have HROW:=hI f3;have HC:=hI f2;have hrw:=f3.len;obtain⟨row,hrow⟩:∃ row,rows.getD k []=row:=⟨_,rfl⟩;clear f2 f3;rw [hrow] at f1 HROW HC hrw HSTEP;clear hrow;have hSr:∀ b,S b→b<wr.heap.size:=fun b hb=>by have:=hS b hb;omega
    go_wp2_with fail
    refine(Zdq A0 c0' s t A2 c2 row S _ (HS.out.keep (Same.of_below HPI.out.bel hS)) HROW.out HC.out hSr).mono ?_;rintro e w1 ⟨A3,c3,rfl,h3,hb3⟩;have hokk:RowOk (keyF s t row):=((HROW.out.key s t (A':=A2) (fun _=>rfl))).ok;have HKR:=hI ((ZcC hokk h3).more (S':=fun b=>b<w1.heap.size) (fun b hb=>hb.2));have HB3:=hI hb3;have hz3:=hb3.size;clear hb3 h3 hokk
    go_wp2_with fail
    refine(ZbK A3 AK c3 ck (keyF s t row) key (fun b=>b<w1.heap.size) _ HKR.out ((HK.out.keep (Same.of_below (HPI.out.bel.trans (HB3.out.mono (by omega))) hS)).more (fun b hb=>by have:=hS b hb;omega)) (fun b hb=>hb)).mono ?_;rintro e w2 ⟨rfl,hb4⟩;have HB4:=hI (HB3.out.trans (hb4.mono hz3));have HX:=hI (HPI.out.below HB4.out);have hz2':=HB4.out.size;have ROWX:=hI (HROW.out.keep (Same.of_below HB4.out hSr));have R0X:=hI (HR0.out.keep (Same.of_below HX.out.bel hS));have MKX:=hI HX.out.mkl;clear hb4 s0 s1 t0' f1;obtain⟨cv,hcv⟩:∃ cv,cmpR (keyF s t row) key=cv:=⟨_,rfl⟩;have hrng:=cmpR_is.rng (keyF s t row) key;rw [hcv] at hrng HSTEP ⊢;clear hcv;rcases hrng with rfl | rfl | rfl
    · have HR:=hI (show P=(L++[row])++rput s t key row0 d (rows.drop (k+1)) by rw [HX.out.res,HSTEP.out];simp)
      go_wp2_with (at_builtin;refine Zas rfl (.tmp 48) (.tmp 50) 49 rfl (w.heap.size+3) S 27 i0 _ 1 24 Try.underlying49 hi hz0 hz1 hz2 rfl (by decide) _ _ _ _ _ MKX.out rfl (ZaF row) #[.slice A2 row.length c2] (Zbu HC.out (ROWX.out.more (fun b hb=>.inl hb))) (by simp [ZaF,Dat.Plain]) rfl 1 rfl (by omega) (by omega) ?_;intro g5 cap5 w5 hm5 hb5 hlt5;have MK5:=hI hm5;have HB5:=hI hb5;have hz5:=hb5.size;clear hm5 hb5)
      go_roundw
      case rel=>exact⟨k+1,d,_,_,_,(L++[row]),by omega,by go_num,rfl,rfl,HX.out.step HB5.out (by rw [List.map_append];exact MK5.out) (by have:=HX.out.le;simp at this ⊢;omega) HR.out⟩
      case measure=>simp [intOf];omega
    · cases d
      · have HR:=hI (show P=(L++[row0])++rput s t key row0 true (rows.drop (k+1)) by rw [HX.out.res,HSTEP.out];simp)
        go_wp2_with fail
        refine(Zch AR cr row0 S _ R0X.out).mono ?_;rintro e w4 ⟨A4,c4,rfl,h4,hb4⟩;have HBC:=hI hb4;have MKX:=hI (HX.out.mkl.below hb4);have N4:=hI (ZaQ h4 R0X.out.ok nR);have hz4:=hb4.size;clear h4 hb4
        go_wp2_with (at_builtin;refine Zas rfl (.tmp 41) (.tmp 44) 49 rfl (w.heap.size+3) S 27 i0 _ 1 24 Try.underlying49 hi hz0 hz1 hz2 rfl (by decide) _ _ _ _ _ MKX.out rfl (ZaF row0) #[.slice A4 row0.length c4] (Zbu N4.out.1 (N4.out.2.more (fun b hb=>.inr ⟨by have:=HX.out.sz;omega,hb.2,fun e=>by have:=(HX.out.mkl.base_le e.symm).2;omega⟩))) (by simp [ZaF,Dat.Plain]) rfl 1 rfl (by omega) (by omega) ?_;intro g6 cap6 w6 hm6 hb6 hlt6;have MK6:=hI hm6;have HB6:=hI hb6;have hz6:=hb6.size;clear hm6 hb6)
        go_roundw
        case rel=>exact⟨k+1,true,_,_,_,(L++[row0]),by omega,by go_num,rfl,rfl,HX.out.step ((HBC.out.mono (by have:=HX.out.sz;omega)).trans HB6.out) (by rw [List.map_append];exact MK6.out) (by have:=HX.out.le;simp at this ⊢;omega) HR.out⟩
        case measure=>simp [intOf];omega
      · have HR:=hI (show P=L++rput s t key row0 true (rows.drop (k+1)) by rw [HX.out.res,HSTEP.out];simp)
        go_wp2_with fail
        go_roundw
        case rel=>exact⟨k+1,true,_,_,_,L,by omega,by go_num,rfl,rfl,HX.out.step (Below.refl _ _) HX.out.mkl (by have:=HX.out.le;simp at this ⊢;omega) HR.out⟩
        case measure=>simp [intOf];omega
    · cases d
      · have HR:=hI (show P=(L++[row0]++[row])++rput s t key row0 true (rows.drop (k+1)) by rw [HX.out.res,HSTEP.out];simp)
        go_wp2_with fail
        refine(Zch AR cr row0 S _ R0X.out).mono ?_;rintro e w4 ⟨A4,c4,rfl,h4,hb4⟩;have HBC:=hI hb4;have MKX:=hI (HX.out.mkl.below hb4);have N4:=hI (ZaQ h4 R0X.out.ok nR);have hz4:=hb4.size;clear h4 hb4
        go_wp2_with (first | (at_builtin;refine Zas rfl (.tmp 41) (.tmp 44) 49 rfl (w.heap.size+3) S 27 i0 _ 1 24 Try.underlying49 hi hz0 hz1 hz2 rfl (by decide) _ _ _ _ _ MKX.out rfl (ZaF row0) #[.slice A4 row0.length c4] (Zbu N4.out.1 (N4.out.2.more (fun b hb=>.inr ⟨by have:=HX.out.sz;omega,hb.2,fun e=>by have:=(HX.out.mkl.base_le e.symm).2;omega⟩))) (by simp [ZaF,Dat.Plain]) rfl 1 rfl (by omega) (by omega) ?_;intro g6 cap6 w6 hm6 hb6 hlt6;have MK6:=hI hm6;have HB6:=hI hb6;have hz6:=hb6.size;clear hm6 hb6;have ROWX:=hI (ROWX.out.keep (w':=w6) (Same.of_below (B:=w.heap.size+3) ((HBC.out.mono (by have:=HX.out.sz;omega)).trans HB6.out) (fun b hb=>by have:=hS b hb;omega)))) | (at_builtin;refine Zas rfl (.tmp 48) (.tmp 50) 49 rfl (w.heap.size+3) S 27 i0 _ 1 24 Try.underlying49 hi hz0 hz1 hz2 rfl (by decide) _ _ _ _ _ MK6.out rfl (ZaF row) #[.slice A2 row.length c2] (Zbu HC.out (ROWX.out.more (fun b hb=>.inl hb))) (by simp [ZaF,Dat.Plain]) rfl 1 rfl (by omega) (by omega) ?_;intro g5 cap5 w5 hm5 hb5 hlt5;have MK5:=hI hm5;have HB5:=hI hb5;have hz5:=hb5.size;clear hm5 hb5))
        go_roundw
        case rel=>exact⟨k+1,true,_,_,_,(L++[row0]++[row]),by omega,by go_num,rfl,rfl,HX.out.step ((HBC.out.mono (by have:=HX.out.sz;omega)).trans (HB6.out.trans HB5.out)) (by rw [List.map_append,List.map_append];exact MK5.out) (by have:=HX.out.le;simp at this ⊢;omega) HR.out⟩
        case measure=>simp [intOf];omega
      · have HR:=hI (show P=(L++[row])++rput s t key row0 true (rows.drop (k+1)) by rw [HX.out.res,HSTEP.out];simp)
        go_wp2_with (at_builtin;refine Zas rfl (.tmp 48) (.tmp 50) 49 rfl (w.heap.size+3) S 27 i0 _ 1 24 Try.underlying49 hi hz0 hz1 hz2 rfl (by decide) _ _ _ _ _ MKX.out rfl (ZaF row) #[.slice A2 row.length c2] (Zbu HC.out (ROWX.out.more (fun b hb=>.inl hb))) (by simp [ZaF,Dat.Plain]) rfl 1 rfl (by omega) (by omega) ?_;intro g5 cap5 w5 hm5 hb5 hlt5;have MK5:=hI hm5;have HB5:=hI hb5;have hz5:=hb5.size;clear hm5 hb5)
        go_roundw
        case rel=>exact⟨k+1,true,_,_,_,(L++[row]),by omega,by go_num,rfl,rfl,HX.out.step HB5.out (by rw [List.map_append];exact MK5.out) (by have:=HX.out.le;simp at this ⊢;omega) HR.out⟩
        case measure=>simp [intOf];omega
  · have hgc:=c9Q HPI.out.bel hgt HD1.out;have hgf:=(HPI.out.bel.frozen (p:=⟨gt,t,none⟩) hgt).trans HFZ.out;have hne1:w.heap.size+1≠gt:=(by omega);have hne2:w.heap.size+2≠gt:=(by omega);have hne3:w.heap.size+1+1≠gt:=(by omega);have r0':=HPI.out.r0;have fz':=HPI.out.fz;cases d
    · have HRES:=hI (show P=L++[row0] by rw [HPI.out.res,List.drop_eq_nil_of_le (by omega),rput];rfl);have HX:=HPI;have R0X:=hI (HR0.out.keep (Same.of_below HX.out.bel hS))
      go_wp2_with fail
      refine(Zch AR cr row0 S _ R0X.out).mono ?_;rintro e w4 ⟨A4,c4,rfl,h4,hb4⟩;have HBC:=hI hb4;have MKX:=hI (HX.out.mkl.below hb4);have N4:=hI (ZaQ h4 R0X.out.ok nR);have hz4:=hb4.size;clear h4 hb4
      go_wp2_with (at_builtin;refine Zas rfl (.tmp 55) (.tmp 58) 49 rfl (w.heap.size+3) S 27 i0 _ 1 24 Try.underlying49 hi hz0 hz1 hz2 rfl (by decide) _ _ _ _ _ MKX.out rfl (ZaF row0) #[.slice A4 row0.length c4] (Zbu N4.out.1 (N4.out.2.more (fun b hb=>.inr ⟨by have:=HX.out.sz;omega,hb.2,fun e=>by have:=(HX.out.mkl.base_le e.symm).2;omega⟩))) (by simp [ZaF,Dat.Plain]) rfl 1 rfl (by omega) (by omega) ?_;intro g6 cap6 w6 hm6 hb6 hlt6;have MK6:=hI hm6;have HB6:=hI hb6;have hz6:=hb6.size;clear hm6 hb6;have HPF:=hI (show PutI w w6 S s A0 c0' gt st.length ca k true P [] (some ⟨g6,0,none⟩) (m+1) cap6 (L++[row0]) from HX.out.step ((HBC.out.mono (by have:=HX.out.sz;omega)).trans HB6.out) (by rw [List.map_append];exact MK6.out) (by have:=HX.out.le;simp at this ⊢;omega) (by rw [HRES.out];simp));have hgc:=c9Q HPF.out.bel hgt HD1.out;have hgf:=(HPF.out.bel.frozen (p:=⟨gt,t,none⟩) hgt).trans HFZ.out;have r6:=HPF.out.r0;have fz6:=HPF.out.fz;have t6:=HPF.out.t0;have hz6':=HPF.out.sz)
      have x0:(((w6).setCell ⟨gt,t,none⟩ (.slice (some ⟨g6,0,none⟩) (m+1) cap6)).setCell ⟨w.heap.size+2,0,none⟩ (.slice (some ⟨gt,0,none⟩) st.length ca)).cell? ⟨w.heap.size+2,0,none⟩=some (.slice (some ⟨gt,0,none⟩) st.length ca) :=
       World.cell?_setCell_same _ _ _ (u:=.slice none 0 0) (by rw [World.cell?_setCell_other _ _ _ _ (by simp)];exact HPF.out.r0)
      have HF:=ZgJ (t:=t) HPF.out HST.out ht2 (by have:=HPF.out.len;omega) (.slice (some ⟨gt,0,none⟩) st.length ca) (.slice (some ⟨gt,0,none⟩) st.length ca);exact bodyPost_ret (v:=ZbM (some ⟨gt,0,none⟩) st.length ca) (by simp [results,Try.results64,go_sem,x0]) rfl ⟨rfl,HF⟩
    · have HRES:=hI (show PutI w wr S s A0 c0' gt st.length ca k true P [] A m c L from HPI.out.step (Below.refl _ _) HPI.out.mkl HPI.out.le (by rw [HPI.out.res,List.drop_eq_nil_of_le (by omega),rput];simp))
      go_wp2_with fail
      have x0:(((wr).setCell ⟨gt,t,none⟩ (.slice A m c)).setCell ⟨w.heap.size+2,0,none⟩ (.slice (some ⟨gt,0,none⟩) st.length ca)).cell? ⟨w.heap.size+2,0,none⟩=some (.slice (some ⟨gt,0,none⟩) st.length ca) :=
       World.cell?_setCell_same _ _ _ (u:=.slice none 0 0) (by rw [World.cell?_setCell_other _ _ _ _ (by simp)];exact HRES.out.r0)
      have HF:=ZgJ (t:=t) HRES.out HST.out ht2 (by have:=HPI.out.len;omega) (.slice (some ⟨gt,0,none⟩) st.length ca) (.slice (some ⟨gt,0,none⟩) st.length ca);exact bodyPost_ret (v:=ZbM (some ⟨gt,0,none⟩) st.length ca) (by simp [results,Try.results64,go_sem,x0]) rfl ⟨rfl,HF⟩
theorem ZeU {α:Type} {d:α} {a b:List α} {k:Nat} (ha:k<a.length) (hb:k<b.length) (h:a.take k=b.take k) (hc:a.getD k d=b.getD k d):a.take (k+1)=b.take (k+1):=by
 rw [List.take_succ_eq_append_getElem ha,List.take_succ_eq_append_getElem hb,h];have e1:a.getD k d=a[k]:=(by simp [List.getD,ha]);have e2:b.getD k d=b[k]:=(by simp [List.getD,hb]);rw [←e1,←e2,hc]
theorem ZgW {α:Type} {d:α} {a b:List α} {k:Nat} (hc:a.getD k d≠b.getD k d):a≠b:=fun e=>hc (by rw [e])
theorem ZfG {α:Type} {a b:List α} {k:Nat} (ha:a.length≤k) (hl:a.length=b.length) (h:a.take k=b.take k):a=b:=by
 rwa [List.take_of_length_le ha,List.take_of_length_le (by omega)] at h
theorem rsame01_any (A B:Option Addr) (ca cb:Nat) (a b:List Row) (S:Nat→Prop) (w:World) (ha:RowsS w S A a) (hb:RowsS w S B b) (hS:∀ b,S b→b<w.heap.size) :
  Calls Try.prog 66 #[.slice A a.length ca,.slice B b.length cb] w (ZaN (decide (a=b)) w):=by
 have hal:=ha.len;have hbl:=hb.len;have HA:=hI ha;have HBB:=hI hb;clear ha hb
 by_cases hlen:a.length=b.length
 · have hd0:((a.length:Int) != b.length)=false:=(by simp [hlen]);have HL:=hI hlen;clear hlen;go_enter Try.func66,Try.ntmps66
   go_wp2_with fail
   go_loopw [5,13] (fun _ i wr=>∃ k:Nat,k≤a.length∧i=.int .i64 k∧a.take k=b.take k∧Below w.heap.size w wr) (fun _ i _=>a.length - (intOf i).toNat)
   case atStart=>exact⟨0,Nat.zero_le _,rfl,by simp,Below.refl _ _⟩
   case round =>
    obtain⟨k,hk,rfl,htk,hbel⟩:=hrel;have HT:=hI htk;have HB:=hI hbel;have hsz:=hbel.size;clear htk hbel hd0
    by_cases hlt:k<a.length
    · have hlt2:k<b.length:=(by have:=HL.out;omega);obtain⟨b1,o1,rfl,hb1,A1,c1,f1,f2,f3⟩:=(HA.out.keep (Same.of_below HB.out hS)).at_ hlt;obtain⟨b2,o2,rfl,hb2,A2,c2,e1,e2,e3⟩:=(HBB.out.keep (Same.of_below HB.out hS)).at_ hlt2;have HF3:=hI f3;have HE3:=hI e3;have hfl:=f3.len;have hel:=e3.len;have hl1:b1<wr.heap.size:=(by have:=hS b1 hb1;omega);have hl2:b2<wr.heap.size:=(by have:=hS b2 hb2;omega);have HC:=hI (show a.getD k []≠b.getD k []→decide (a=b)=false from fun h=>decide_eq_false (ZgW h));have HZ:=hI (show a.getD k []=b.getD k []→a.take (k+1)=b.take (k+1) from ZeU hlt hlt2 HT.out);generalize a.getD k []=x at f1 HF3 hfl HC HZ;generalize b.getD k []=y at e1 HE3 hel HC HZ;clear f2 f3 e2 e3
      go_wp2_with fail
      go_region_held3 (fun w'=>Below wr.heap.size wr w'∧w'.cell? ⟨b1,o1+k,none⟩=some (.slice A1 x.length c1)∧w'.cell? ⟨b2,o2+k,none⟩=some (.slice A2 y.length c2))
       (first | exact⟨(Below.refl _ _).drew,f1,e1⟩ | exact⟨hbe,c9Q hbe hl1 f1,c9Q hbe hl2 e1⟩ | go_keep)
       ((go_at_call 36;refine(ZbK A1 A2 c1 c2 x y S wr.drew (HF3.out.keep (fun _ _=>rfl)) (HE3.out.keep (fun _ _=>rfl)) (fun b hb=>by have:=hS b hb;show b<wr.heap.size;omega)).mono ?_;rintro e w1 ⟨rfl,hbe'⟩;have hbe:Below wr.heap.size wr w1:=(Below.refl _ wr).drew.trans hbe'))
      have HB1:=hI (HB.out.trans (hbe.mono hsz));clear hbe hbe' f1 e1
      by_cases hc:cmpR x y=0
      · have HTK:=hI (HZ.out ((cmpR_is.zero x y).1 hc));rw [hc];clear hc
        go_wp2_with fail
        go_roundw
        case rel=>exact⟨k+1,by omega,by go_num,HTK.out,HB1.out⟩
        case measure=>simp [intOf];omega
      · have HF:=hI (HC.out (fun e=>hc ((cmpR_is.zero x y).2 e)));have hd:(cmpR x y != 0)=true:=(by simp [hc]);generalize cmpR x y=cv at hd HF hc
        go_wp2_with fail
        go_ret;exact⟨by rw [HF.out];rfl,HB1.out⟩
    · have HF:=hI (show decide (a=b)=true from decide_eq_true (ZfG (by omega) HL.out HT.out))
      go_wp2_with fail
      go_ret;exact⟨by rw [HF.out];rfl,HB.out⟩
 · have hd0:((a.length:Int) != b.length)=true:=(by simp;omega);have HF:=hI (show decide (a=b)=false from decide_eq_false (fun e=>hlen (by rw [e])));go_enter Try.func66,Try.ntmps66
   go_wp2_with fail
   go_ret;exact⟨by rw [HF.out];rfl,Below.refl _ _⟩
theorem ZfM (A B:Option Addr) (ca cb:Nat) (a b:St) (S:Nat→Prop) (w:World) (ha:StS w S A a) (hb:StS w S B b) (hS:∀ b,S b→b<w.heap.size) :
  Calls Try.prog 25 #[ZbM A a.length ca,ZbM B b.length cb] w (ZaN (decide (a=b)) w):=by
 have hal:=ha.len;have hbl:=hb.len;have HA:=hI ha;have HBB:=hI hb;clear ha hb;have HB0:=hI (((Below.refl w.heap.size w).alloc nR (.cells #[.slice A a.length ca] 56)).alloc (by simp) (.cells #[.slice B b.length cb] 56))
 by_cases hlen:a.length=b.length
 · have hd0:((a.length:Int) != b.length)=false:=(by simp [hlen]);have HL:=hI hlen;clear hlen;go_enter Try.func25,Try.ntmps25
   go_wp2_with fail
   go_loopw [5,16] (fun _ i wr=>∃ k:Nat,k≤a.length∧i=.int .i64 k∧a.take k=b.take k∧Below w.heap.size w wr∧wr.cell? ⟨w.heap.size,0,none⟩=some (.slice A a.length ca)∧wr.cell? ⟨w.heap.size+1,0,none⟩=some (.slice B b.length cb)∧w.heap.size+2≤wr.heap.size) (fun _ i _=>a.length - (intOf i).toNat)
   case atStart=>exact⟨0,Nat.zero_le _,rfl,by simp,HB0.out,(Zaf (by simp)).trans (Zad rfl rfl),Zad (by simp) rfl,by simp⟩
   case round =>
    obtain⟨k,hk,rfl,htk,hbel,x0,x1,hsz2⟩:=hrel;have HT:=hI htk;have HB:=hI hbel;have hsz:=hbel.size;clear htk hbel hd0
    by_cases hlt:k<a.length
    · have hlt2:k<b.length:=(by have:=HL.out;omega);obtain⟨b1,o1,rfl,hb1,A1,c1,f1,f2,f3⟩:=(HA.out.keep (Same.of_below HB.out hS)).at_ hlt;obtain⟨b2,o2,rfl,hb2,A2,c2,e1,e2,e3⟩:=(HBB.out.keep (Same.of_below HB.out hS)).at_ hlt2;have HF3:=hI f3;have HE3:=hI e3;have hfl:=f3.len;have hel:=e3.len;have hl1:b1<wr.heap.size:=(by have:=hS b1 hb1;omega);have hl2:b2<wr.heap.size:=(by have:=hS b2 hb2;omega);have hl3:w.heap.size<wr.heap.size:=(by omega);have hl4:w.heap.size+1<wr.heap.size:=(by omega);have HC:=hI (show a.getD k []≠b.getD k []→decide (a=b)=false from fun h=>decide_eq_false (ZgW h));have HZ:=hI (show a.getD k []=b.getD k []→a.take (k+1)=b.take (k+1) from ZeU hlt hlt2 HT.out);generalize a.getD k []=x at f1 HF3 hfl HC HZ;generalize b.getD k []=y at e1 HE3 hel HC HZ;clear f2 f3 e2 e3
      go_wp2_with fail
      go_region_held3 (fun w'=>Below wr.heap.size wr w'∧w'.cell? ⟨b1,o1+k,none⟩=some (.slice A1 x.length c1)∧w'.cell? ⟨b2,o2+k,none⟩=some (.slice A2 y.length c2)∧w'.cell? ⟨w.heap.size,0,none⟩=some (.slice (some ⟨b1,o1,none⟩) a.length ca)∧w'.cell? ⟨w.heap.size+1,0,none⟩=some (.slice (some ⟨b2,o2,none⟩) b.length cb))
       (first | exact⟨(Below.refl _ _).drew,f1,e1,x0,x1⟩ | exact⟨hbe,c9Q hbe hl1 f1,c9Q hbe hl2 e1,c9Q hbe hl3 x0,c9Q hbe hl4 x1⟩ | go_keep)
       ((go_at_call 66;refine(rsame01_any A1 A2 c1 c2 x y S wr.drew (HF3.out.keep (fun _ _=>rfl)) (HE3.out.keep (fun _ _=>rfl)) (fun b hb=>by have:=hS b hb;show b<wr.heap.size;omega)).mono ?_;rintro e w1 ⟨rfl,hbe'⟩;have hbe:Below wr.heap.size wr w1:=(Below.refl _ wr).drew.trans hbe'))
      have HB1:=hI (HB.out.trans (hbe.mono hsz));have x0':=c9Q hbe hl3 x0;have x1':=c9Q hbe hl4 x1;have hz1:=hbe.size;clear hbe hbe' f1 e1 x0 x1
      by_cases hc:x=y
      · have HTK:=hI (HZ.out hc);have hd:decide (x=y)=true:=decide_eq_true hc;rw [hd];clear hc hd
        go_wp2_with fail
        go_roundw
        case rel=>exact⟨k+1,by omega,by go_num,HTK.out,HB1.out,x0',x1',by omega⟩
        case measure=>simp [intOf];omega
      · have HF:=hI (HC.out hc);have hd:decide (x=y)=false:=decide_eq_false hc;rw [hd];clear hc hd
        go_wp2_with fail
        go_ret;exact⟨by rw [HF.out];rfl,HB1.out⟩
    · have HF:=hI (show decide (a=b)=true from decide_eq_true (ZfG (by omega) HL.out HT.out))
      go_wp2_with fail
      go_ret;exact⟨by rw [HF.out];rfl,HB.out⟩
 · have hd0:((a.length:Int) != b.length)=true:=(by simp;omega);have HF:=hI (show decide (a=b)=false from decide_eq_false (fun e=>hlen (by rw [e])));go_enter Try.func25,Try.ntmps25
   go_wp2_with fail
   go_ret;exact⟨by rw [HF.out];rfl,HB0.out⟩
instance:DecidableEq Chg:=fun a b=>decidable_of_iff (a.table=b.table∧a.old=b.old∧a.new=b.new) (by cases a;cases b;simp)
theorem vals_rows {w:World} {S:Nat→Prop} {A:Option Addr} {c:Nat} {l:List Row} (h1:l.length≤c) (h2:RowsS w S A l):Dat.Vals w S (ZaL l) [.slice A l.length c]:=by
 unfold ZaL Dat.Vals;exact⟨A,c,by simp,by simpa using h1,h2⟩
def CopPost (st:St) (w:World) (e:Ending) (w':World):Prop:=∃ A c,e=.returned (ZbM A st.length c)∧Mk w' w.heap.size (fun _=>False) 49 1 (.slice A st.length c) (st.map ZaL)∧Below w.heap.size w w'
theorem Mk.low {w:World} {base base' size:Nat} {S0:Nat→Prop} {e:TypeId} {v:Value} {l:List Dat} (h:Mk w base S0 e size v l) (hb:base'≤base) (hlo:∀ b,S0 b→b<base'):Mk w base' S0 e size v l:=by
 obtain⟨vals,h1,h2,h3⟩:=h.own;refine⟨⟨vals,Zdb h1 hb,Dat.ValsAll.more (fun b hb'=>hb'.imp id (fun hb'=>⟨Nat.le_trans hb hb'.1,hb'.2⟩)) _ _ h2,fun b hb'=>?_⟩,hlo,Nat.le_trans hb h.hi⟩;rcases hb' with hb' | hb'
 · exact h3 b (.inl hb')
 · exact hb'.2
structure CopI (w wr:World) (st:St) (A:Option Addr) (ca k:Nat) (A1:Option Addr) (c1:Nat):Prop where
 mkl:Mk wr (w.heap.size+3) (fun _=>False) 49 1 (.slice A1 k c1) ((st.take k).map ZaL)
 bel:Below w.heap.size w wr
 a0:wr.cell? ⟨w.heap.size,0,none⟩=some (.slice A st.length ca)
 r0:wr.cell? ⟨w.heap.size+1,0,none⟩=some (.slice none 0 0)
 rf:wr.frozen? ⟨w.heap.size+1,0,none⟩=false
 o0:wr.cell? ⟨w.heap.size+2,0,none⟩=some (.slice A1 k c1)
 fz:wr.frozen? ⟨w.heap.size+2,0,none⟩=false
theorem CopI.below {w wr wx:World} {st:St} {A A1:Option Addr} {ca k c1:Nat} (h:CopI w wr st A ca k A1 c1) (hb:Below wr.heap.size wr wx):CopI w wx st A ca k A1 c1:=by
 have hz:=h.mkl.hi;exact⟨h.mkl.below hb,h.bel.trans (hb.mono (by omega)),c9J hb h.a0,c9J hb h.r0,(hb.frozen (p:=⟨w.heap.size+1,0,none⟩) (by show w.heap.size+1<_;omega)).trans h.rf,c9J hb h.o0,(hb.frozen (p:=⟨w.heap.size+2,0,none⟩) (by show w.heap.size+2<_;omega)).trans h.fz⟩
theorem CopI.next {w wr wx:World} {st:St} {A A1 A2:Option Addr} {ca k c1 c2:Nat} (h:CopI w wr st A ca k A1 c1) (hb:Below (w.heap.size+3) wr wx) (hm:Mk wx (w.heap.size+3) (fun _=>False) 49 1 (.slice A2 (k+1) c2) ((st.take (k+1)).map ZaL)):CopI w (wx.setCell ⟨w.heap.size+2,0,none⟩ (.slice A2 (k+1) c2)) st A ca (k+1) A2 c2:=by
 have hz:=h.mkl.hi;have hne:∀ b,b≠w.heap.size+2→(wx.setCell ⟨w.heap.size+2,0,none⟩ (.slice A2 (k+1) c2)).heap[b]?=wx.heap[b]?:=fun b h=>Below.heap_setCell wx ⟨w.heap.size+2,0,none⟩ _ b h;have hc:∀ b o,b<w.heap.size+2→(wx.setCell ⟨w.heap.size+2,0,none⟩ (.slice A2 (k+1) c2)).cell? ⟨b,o,none⟩=wr.cell? ⟨b,o,none⟩:=fun b o hb'=>(World.cell?_of_block (hne b (by omega))).trans (hb.cell (p:=⟨b,o,none⟩) (by show b<_;omega));have ho:=c9J hb h.o0;have hfr:Fr (fun b=>b=w.heap.size+2) wx (wx.setCell ⟨w.heap.size+2,0,none⟩ (.slice A2 (k+1) c2)):=(Fr.refl _ wx).setCell _ (fun _=>rfl);refine⟨hm.keep hfr (fun b hb'=>⟨by omega,fun h=>h⟩),(h.bel.trans (hb.mono (by omega))).trans (hfr.below (n:=w.heap.size) (by have:=hb.size;omega) (fun b hb' e=>by omega)),(hc _ _ (by omega)).trans h.a0,(hc _ _ (by omega)).trans h.r0,?_,World.cell?_setCell_same _ _ _ ho,?_⟩
 · exact(World.frozen?_of_block (hne (w.heap.size+1) (by omega))).trans ((hb.frozen (p:=⟨w.heap.size+1,0,none⟩) (by show w.heap.size+1<_;omega)).trans h.rf)
 · rw [World.frozen?_setCell];exact(hb.frozen (p:=⟨w.heap.size+2,0,none⟩) (by show w.heap.size+2<_;omega)).trans h.fz
theorem ZeT {α:Type} {d:α} {l:List α} {k:Nat} (h:k<l.length):l.take (k+1)=l.take k++[l.getD k d]:=by
 rw [List.take_succ_eq_append_getElem h];simp [List.getD,h]
theorem Zeu (A:Option Addr) (ca:Nat) (st:St) (S:Nat→Prop) (w:World) (hst:StS w S A st) (hS:∀ b,S b→b<w.heap.size) :
  Calls Try.prog 28 #[ZbM A st.length ca] w (CopPost st w):=by
 obtain⟨i0,hi,hz0,hz1,hz2⟩:=info_parts Zfw;obtain⟨j0,hj,hj0,hj1,hj2⟩:=info_parts Zhj;have hsl:=hst.len;have HST:=hI hst;clear hst;have HB0:=hI ((((Below.refl w.heap.size w).alloc nR (.cells #[.slice A st.length ca] 56)).alloc (by simp) (.cells #[.slice none 0 0] 56)).alloc (by simp;omega) (.cells #[.slice none 0 0] 56))
 have HI0:=hI (show CopI w (((w.alloc (.cells #[.slice A st.length ca] 56)).alloc (.cells #[.slice none 0 0] 56)).alloc (.cells #[.slice none 0 0] 56)) st A ca 0 none 0 from
  ⟨Mk.start (fun b hb=>hb.elim) (by simp) _ _,HB0.out,(Zaf (by simp;omega)).trans ((Zaf (by simp)).trans (Zad rfl rfl)),(Zaf (by simp)).trans (Zad (by simp) rfl),(Zbn (by simp)).trans (ZaK (by simp)),Zad (by simp) rfl,ZaK (by simp)⟩)
 go_enter Try.func28,Try.ntmps28
 go_wp2_with fail
 go_loopw [12] (fun i wr=>∃ (k:Nat) (A1:Option Addr) (c1:Nat),k≤st.length∧i=.int .i64 k∧CopI w wr st A ca k A1 c1) (fun i _=>st.length - (intOf i).toNat)
 case atStart=>exact⟨0,none,0,Nat.zero_le _,rfl,HI0.out⟩
 case round =>
  obtain⟨wo,rfl⟩:∃ wo:World,wo=wr:=⟨_,rfl⟩;obtain⟨k,A1,c1,hk,rfl,hci⟩:=hrel;have HCI:=hI hci;have hwz:=hci.mkl.hi;clear hci
  by_cases hlt:k<st.length
  · have hSw:∀ b,S b→b<wo.heap.size:=(fun b hb=>by have:=hS b hb;omega);obtain⟨b1,o1,rfl,hb1,A',c',d1,d2,d3⟩:=(HST.out.keep (Same.of_below HCI.out.bel hS)).at_ hlt;have hl1:b1<wo.heap.size:=hSw b1 hb1;have HR:=hI d3;have hrl:=d3.len;have HTK:=hI (show st.take (k+1)=st.take k++[st.getD k []] from ZeT hlt);clear d2 d3;generalize st.getD k []=rows at d1 HR hrl HTK
    go_wp2_with fail
    go_loopw [6,18] (fun out i wi=>∃ (j:Nat) (A2:Option Addr) (c2:Nat),j≤rows.length∧i=.int .i64 j∧out=.slice A2 j c2∧Mk wi wo.heap.size (fun _=>False) 27 1 (.slice A2 j c2) ((rows.take j).map ZaF)∧Below wo.heap.size wo wi) (fun _ i _=>rows.length - (intOf i).toNat)
    case atStart=>exact⟨0,none,0,Nat.zero_le _,rfl,rfl,Mk.start (fun b hb=>hb.elim) nR _ _,Below.refl _ _⟩
    case round =>
     obtain⟨j,A2,c2,hj',rfl,rfl,hmk,hbi⟩:=hrel;have HMK:=hI hmk;have HBI:=hI hbi;have hzi:=hbi.size;clear hmk hbi d1
     by_cases hlj:j<rows.length
     · obtain⟨b3,o3,rfl,hb3,A3,c3,f1,f2,f3⟩:=(HR.out.keep (Same.of_below HBI.out hSw)).at_ hlj;have hl3:b3<wr.heap.size:=(by have:=hSw b3 hb3;omega);have HROW:=hI f3;have hrw:=f3.len;have HTJ:=hI (show rows.take (j+1)=rows.take j++[rows.getD j []] from ZeT hlj);clear f2 f3;generalize rows.getD j []=row at f1 HROW hrw HTJ
       go_wp2_with fail
       refine(Zch A3 c3 row S _ HROW.out).mono ?_;rintro e w4 ⟨A4,c4,rfl,h4,hb4⟩;have HBC:=hI hb4;have MKX:=hI (HMK.out.below hb4);have N4:=hI (ZaQ h4 HROW.out.ok nR);have hz4:=hb4.size;clear h4 hb4
       go_wp2_with (at_builtin;refine Zas rfl (.tmp 22) (.tmp 25) 49 rfl wo.heap.size (fun _=>False) 27 i0 _ 1 24 Try.underlying49 hi hz0 hz1 hz2 rfl (by decide) _ _ _ _ _ MKX.out rfl (ZaF row) #[.slice A4 row.length c4] (Zbu N4.out.1 (N4.out.2.more (fun b hb=>.inr ⟨by omega,hb.2,fun e=>by have:=(HMK.out.base_le e.symm).2;omega⟩))) (by simp [ZaF,Dat.Plain]) rfl 1 rfl (by omega) (by omega) ?_;intro g6 cap6 w6 hm6 hb6 hlt6;have MK6:=hI hm6;have HB6:=hI hb6;have hz6:=hb6.size;clear hm6 hb6)
       go_roundw
       case rel=>exact⟨j+1,_,_,by omega,by go_num,rfl,by rw [HTJ.out,List.map_append];exact MK6.out,HBI.out.trans ((HBC.out.mono (by omega)).trans HB6.out)⟩
       case measure=>simp [intOf];omega
     · have HE:=hI (show rows.take j=rows from List.take_of_length_le (by omega));have hje:j=rows.length:=(by omega);subst hje;obtain⟨-,q2,q3⟩:=HMK.out.slice (by rw [HE.out,Zag (n:=24) (fun _=>rfl)];omega);rw [HE.out] at q3;have Q3:=hI q3;clear q3;have HX:=hI (HCI.out.below HBI.out);have o0:=HX.out.o0;have fz:=HX.out.fz;have hw2:w.heap.size+2<wr.heap.size:=by omega
       go_wp2_with (at_builtin;refine Zas rfl (.tmp 29) (.tmp 31) 54 rfl (w.heap.size+3) (fun _=>False) 49 j0 _ 1 24 Try.underlying54 hj hj0 hj1 hj2 rfl (by decide) _ _ _ _ _ HX.out.mkl rfl (ZaL rows) #[.slice A2 rows.length c2] (vals_rows q2 (Sl.more Q3.out (fun b hb=>hb.elim (fun h=>h.elim) (fun hb=>.inr ⟨by omega,hb.2,fun e=>by have:=(HCI.out.mkl.base_le e.symm).2;omega⟩)))) (by simp [ZaL,Dat.Plain]) rfl 1 rfl (by omega) (by omega) ?_;intro g6 cap6 w6 hm6 hb6 hlt6;have MK6:=hI hm6;have HB6:=hI hb6;have hz6:=hb6.size;clear hm6 hb6;have o6:=c9J HB6.out o0;have fz6:=(HB6.out.frozen (p:=⟨w.heap.size+2,0,none⟩) (by show w.heap.size+2<_;omega)).trans fz;have hw6:w.heap.size+2<w6.heap.size:=by omega)
       go_roundw
       case rel=>exact⟨k+1,_,_,by omega,by go_num,HX.out.next HB6.out (by rw [HTK.out,List.map_append];exact MK6.out)⟩
       case measure=>simp [intOf];omega
  · have hke:k=st.length:=(by omega);subst hke;have o0:=HCI.out.o0;have r0:=HCI.out.r0;have rf:=HCI.out.rf;have hw2:w.heap.size+2<wo.heap.size:=(by omega);have hw1:w.heap.size+1<wo.heap.size:=by omega
    go_wp2_with fail
    have x0:(wo.setCell ⟨w.heap.size+1,0,none⟩ (.slice A1 st.length c1)).cell? ⟨w.heap.size+1,0,none⟩=some (.slice A1 st.length c1):=World.cell?_setCell_same _ _ _ r0;have hfr:Fr (fun b=>b=w.heap.size+1) wo (wo.setCell ⟨w.heap.size+1,0,none⟩ (.slice A1 st.length c1)):=(Fr.refl _ wo).setCell _ (fun _=>rfl);have hm:=HCI.out.mkl;rw [List.take_length] at hm;exact bodyPost_ret (v:=ZbM A1 st.length c1) (by simp [results,Try.results28,go_sem,x0]) rfl ⟨A1,c1,rfl,(hm.keep hfr (fun b hb=>⟨by omega,fun h=>h⟩)).low (by omega) (fun b hb=>hb.elim),HCI.out.bel.trans (hfr.below (by omega) (fun b hb e=>by omega))⟩
theorem ZbY {α:Type} {l:List α} {d:α} {k:Nat} (h:k<l.length):l.getD k d=l[k]:=by simp [List.getD,h]
def TabG (tb:Tab):Prop:=1≤tb.cols.length∧tb.cols.length≤4∧1≤tb.key∧tb.key≤tb.cols.length∧∀ c ∈ tb.cols,c.kind=3∨c.kind=4∨c.kind=5
theorem gen_tabs {id:Int} (hid:id=4∨id=5) (r1 r2 r3:List Rfr) (chk:List Pred):∀ tb ∈ Zar id r1 r2 r3 chk,TabG tb:=by
 intro tb h;simp only [Zar,List.mem_cons,List.not_mem_nil,or_false] at h;rcases h with rfl | rfl | rfl | rfl
 · refine⟨by decide,by decide,by decide,by decide,fun c hc=>?_⟩;simp only [Zeb,List.mem_cons,List.not_mem_nil,or_false] at hc;rcases hc with rfl | rfl<;>simp
 · refine⟨by simp [Zci],by simp [Zci],by simp,by simp [Zci],fun c hc=>?_⟩;simp only [Zci,List.mem_cons,List.not_mem_nil,or_false] at hc;rcases hc with rfl | rfl | rfl | rfl
   · rcases hid with h | h<;>simp [h]
   all_goals simp
 · refine⟨by simp [ZcK],by simp [ZcK],by simp,by simp [ZcK],fun c hc=>?_⟩;simp only [ZcK,List.mem_cons,List.not_mem_nil,or_false] at hc;rcases hc with rfl | rfl<;>simp
 · refine⟨by simp [Zcz],by simp [Zcz],by simp,by simp [Zcz],fun c hc=>?_⟩;simp only [Zcz,List.mem_cons,List.not_mem_nil,or_false] at hc;rcases hc with rfl;rcases hid with h | h<;>simp [h]
theorem GenS.len {s:Sch} (h:GenS s):2≤s.tabs.length∧s.tabs.length≤4:=by
 obtain⟨n,v,id,b1,b2,b3,chk,rfl,h2,h4,_⟩:=h;have:(Zar id (rf0 b1 1 0) (rf0 b2 0 0) (rf0 b3 0 1) chk).length=4:=rfl;show 2≤(List.take n _).length∧(List.take n _).length≤4;rw [List.length_take];omega
theorem GenS.tab {s:Sch} (h:GenS s) {t:Nat} (ht:t<s.tabs.length):TabG (s.tabs.getD t t0):=by
 obtain⟨n,v,id,b1,b2,b3,chk,rfl,h2,h4,_,_,hid,_⟩:=h;have e:(Sch.tabs ⟨v,(Zar id (rf0 b1 1 0) (rf0 b2 0 0) (rf0 b3 0 1) chk).take n⟩).getD t t0=(List.take n (Zar id (rf0 b1 1 0) (rf0 b2 0 0) (rf0 b3 0 1) chk))[t]'ht:=ZbY ht;rw [e];exact gen_tabs hid _ _ _ _ _ (List.mem_of_mem_take (List.getElem_mem ht))
theorem GenS.wide {s:Sch} (h:GenS s):∀ t,t<s.tabs.length→0<(s.tabs.getD t t0).cols.length:=fun t ht=>(h.tab ht).1
theorem GenS.kinds {s:Sch} (h:GenS s) {t:Nat} (ht:t<s.tabs.length):ZaZ s t=(s.tabs.getD t t0).cols.map (·.kind)∧(ZaZ s t).length≤4:=by
 have e:ZaZ s t=(s.tabs.getD t t0).cols.map (·.kind):=by
  unfold ZaZ hasN;rw [if_pos (by simp;omega),Int.toNat_natCast]
 rw [e,List.length_map];exact⟨rfl,(h.tab ht).2.1⟩
theorem Zde {m key:Int}:∀ {cs:List Col} {r:Row} {i:Nat},r.length=cs.length→(∀ j,j<cs.length→Zax m key (cs.getD j c0).kind (i+j) (r.getD j v0)=true)→ZaM m key i cs r=true
 | [],r,i,_,_=>by cases r<;>simp [ZaM]
 | c :: cs,[],i,h,_=>by simp at h
 | c :: cs,v :: r,i,h,hf=>by
  have h0:=hf 0 (by simp)
  have ih:=Zde (m:=m) (key:=key) (cs:=cs) (r:=r) (i:=i+1) (by simpa using h) (fun j hj=>by
   have:=hf (j+1) (by simpa using hj);rw [show i+(j+1)=i+1+j by omega] at this;simpa using this)
  simp only [ZaM,Bool.and_eq_true];exact⟨by simpa using h0,ih⟩
theorem Zet {s:Sch} {m:Int} (h:GenS s) (hm:ZcG m=true) {t:Nat} (ht:t<s.tabs.length) {r:Row} (hr:Zgc (s.tabs.getD t t0).key m (ZaZ s t) r):ZaE s t r m=true:=by
 obtain⟨h1,h2⟩:=hr;obtain⟨h3,_⟩:=h.kinds ht;have hk:=(h.tab ht).2.2.2.2;rw [h3] at h1 h2;rw [List.length_map] at h1 h2;unfold ZaE hasN;rw [Int.toNat_natCast];simp only [Bool.and_eq_true,decide_eq_true_eq];refine⟨⟨⟨hm,by omega,by omega⟩,h1⟩,Zde h1 (fun j hj=>?_)⟩;have h4:=h2 j hj;have e1:((s.tabs.getD t t0).cols.map (·.kind)).getD j 0=((s.tabs.getD t t0).cols.getD j c0).kind:=(by rw [ZbY hj,ZbY (by simpa using hj),List.getElem_map])
 have e2:ZcI ((s.tabs.getD t t0).cols.getD j c0).kind=((s.tabs.getD t t0).cols.getD j c0).kind:=by
  have hmem:(s.tabs.getD t t0).cols.getD j c0 ∈ (s.tabs.getD t t0).cols:=by
   rw [ZbY hj];exact List.getElem_mem hj
  rcases hk _ hmem with e | e | e<;>rw [e]<;>rfl
 rw [e1,e2] at h4;rw [Nat.zero_add];exact h4
theorem put_ok {s:Sch} {m:Int} {st:St} (h:StOk s m st) {t:Nat} (ht:t<st.length) {key row:Row} (hk:0<row.length→keyF s t row=key) (hf:0<row.length→ZaE s t row m=true):StOk s m (st.set t (putR s t key row (st.getD t [])))∧putR s t key row (st.getD t [])=putL s t key row (st.getD t []):=by
 have hr:=h.2 t ht;have e:=ZgK hr.2 key row;rw [e];exact⟨h.set (ZeW hr hk hf),rfl⟩
theorem putL_len (s:Sch) (t:Int) (row:Row) (l:List Row):(putL s t (keyF s t row) row l).length≤l.length+1:=by
 have:=Zgg s ⟨t,[],row⟩ l;have e:putC s ⟨t,[],row⟩ l=putL s t (keyF s t row) row l:=(by rw [ZgL];simp [keyC]);rwa [e] at this
theorem stOk_nil {s:Sch} {m:Int} (n:Nat) (h:n=s.tabs.length):StOk s m (List.replicate n []):=by
 refine⟨by simpa using h,fun t ht=>?_⟩
 have e:(List.replicate n ([]:List Row)).getD t []=[]:=by
  have:t<n:=(by simpa using ht);simp [List.getD,this]
 rw [e];exact⟨fun r hr=>by simp at hr,fun i j _ hj=>by simp at hj⟩
end Go.Proofs.Ytkpjjfhfbpfjpaa
