import Derived.Test.YtkpjjfhfbpfjpaaK13ff61
import Derived.Test.YtkpjjfhfbpfjpaaK194535
set_option linter.unusedVariables false
set_option linter.unusedSimpArgs false
set_option maxRecDepth 100000
set_option maxHeartbeats 8000000
namespace Go.Proofs.Ytkpjjfhfbpfjpaa
open Go.RowKit
def ZbO (tc:List Col):List Col→List Int→Bool
 | c' :: cs,c :: r=>decide (0≤c)&&decide (c<tc.length)&&decide ((tc.getD c.toNat c0).kind=c'.kind)&&ZbO tc cs r
 | _,_=>true
def ZgB (tabs:List Tab) (tc:List Col) (r:Rfr):Bool :=
 hasN tabs.length r.table&&decide ((r.cols.length:Int)=(tabs.getD r.table.toNat t0).key)&&ZbO tc (tabs.getD r.table.toNat t0).cols r.cols
def Zcr (tabs:List Tab) (tc:List Col):List Rfr→Bool
 | []=>true
 | r :: l=>ZgB tabs tc r&&Zcr tabs tc l
def Zbr (tabs:List Tab):List Tab→Bool
 | []=>true
 | t :: l=>Zcr tabs t.cols t.refs&&Zbr tabs l
theorem referFrom_drop (tabs l:List Tab) (k:Nat) (h:k<l.length):Zbr tabs (l.drop k)=(Zcr tabs (l.getD k t0).cols (l.getD k t0).refs&&Zbr tabs (l.drop (k+1))):=by
 rw [List.drop_eq_getElem_cons h];have e1:l.getD k t0=l[k]:=(by simp [List.getD,h]);rw [e1];rfl
theorem refsFrom_drop (tabs:List Tab) (tc:List Col) (l:List Rfr) (k:Nat) (h:k<l.length):Zcr tabs tc (l.drop k)=(ZgB tabs tc (l.getD k r0)&&Zcr tabs tc (l.drop (k+1))):=by
 rw [List.drop_eq_getElem_cons h];have e1:l.getD k r0=l[k]:=(by simp [List.getD,h]);rw [e1];rfl
theorem rcolsFrom_drop (tc cs:List Col) (l:List Int) (k:Nat) (h:k<l.length) (h':k<cs.length):ZbO tc (cs.drop k) (l.drop k)=(decide (0≤l.getD k 0)&&decide (l.getD k 0<tc.length)&&decide ((tc.getD (l.getD k 0).toNat c0).kind=(cs.getD k c0).kind)&&ZbO tc (cs.drop (k+1)) (l.drop (k+1))):=by
 rw [List.drop_eq_getElem_cons h,List.drop_eq_getElem_cons h'];have e1:l.getD k 0=l[k]:=(by simp [List.getD,h]);have e2:cs.getD k c0=cs[k]:=(by simp [List.getD,h']);rw [e1,e2];rfl
theorem referring_any (A0:Option Addr) (c0':Nat) (s:Sch) (S:Nat→Prop) (w:World) (hs:TabS w S A0 s.tabs) (hS:∀ b,S b→b<w.heap.size) (hkc:∀ t ∈ s.tabs,t.key≤t.cols.length) :
  Calls Try.prog 111 #[sAgg s.version A0 s.tabs.length c0'] w (ZaS (Zbr s.tabs s.tabs) w):=by
 have hsl:=hs.len;have HS:=hI hs;have HKC:=hI hkc;clear hs hkc;go_enter Try.func111,Try.ntmps111
 go_wp2_with fail
 go_loopw [13] (fun i wr=>∃ k:Nat,k≤s.tabs.length∧i=.int .i64 k∧Zbr s.tabs s.tabs=Zbr s.tabs (s.tabs.drop k)∧Below w.heap.size w wr∧wr.cell? ⟨w.heap.size,1,none⟩=some (.slice A0 s.tabs.length c0')∧w.heap.size<wr.heap.size) (fun i _=>s.tabs.length - (intOf i).toNat)
 case atStart=>exact⟨0,Nat.zero_le _,rfl,by simp,(Below.refl _ _).alloc nR _,by simp [cell_of_row _ _ _ _ _ _ (heap_alloc_new w _)],by simp⟩
 case round =>
  obtain⟨k,hk,rfl,hnf,hbel,x1,hw1⟩:=hrel;have HT:=hI hnf;have HB:=hI hbel;clear hnf hbel
  by_cases hkl:k<s.tabs.length
  · obtain⟨b2,o2,rfl,hb2,A1,A2,A3,c1,c2,c3,hta⟩:=(HS.out.keep (Same.of_below HB.out hS)).at_ hkl;obtain⟨k1,k2,k3,k4,k5,cS,rS,pS,-,-,-,-⟩:=hta;have HCS:=hI cS;have HRS:=hI rS;have hcl:=cS.len;have hrl:=rS.len;have hl2:b2<w.heap.size:=hS b2 hb2;have HSTEP:=hI (referFrom_drop s.tabs s.tabs k hkl);clear cS rS pS;generalize s.tabs.getD k t0=tb at k1 k2 k3 k4 k5 HCS HRS HSTEP hcl hrl;obtain⟨tn,tc,tk,tr,tp⟩:=tb;simp only at k1 k2 k3 k4 k5 HCS HRS HSTEP hcl hrl;obtain⟨g1,hg1⟩:∃ g1,g1=wr.heap.size:=⟨_,rfl⟩;have HG1:=hI hg1;clear hg1
    go_wp2_with fail
    go_loopw [20] (fun i wq=>∃ j:Nat,j≤tr.length∧i=.int .i64 j∧Zcr s.tabs tc tr=Zcr s.tabs tc (tr.drop j)∧Below w.heap.size w wq∧wq.cell? ⟨w.heap.size,1,none⟩=some (.slice (some ⟨b2,o2,none⟩) s.tabs.length c0')∧wq.cell? ⟨g1,1,none⟩=some (.slice A1 tc.length c1)∧w.heap.size<wq.heap.size∧g1<wq.heap.size) (fun i _=>tr.length - (intOf i).toNat)
    case atStart=>exact⟨0,Nat.zero_le _,rfl,by simp,HB.out.alloc (by omega) _,by rw [World.cell?_of_block (Below.heap_alloc _ _ _ hw1)];exact x1,by rw [HG1.out];simp [cell_of_row _ _ _ _ _ _ (heap_alloc_new _ _)],by simp;omega,by rw [HG1.out];simp⟩
    case round =>
     obtain⟨j,hj,rfl,ht2,hbb,x1,x2,hw1,hw2⟩:=hrel;have HT2:=hI ht2;have HB2:=hI hbb;have x2':=x2;have hw2':=hw2;rw [HG1.out] at x2' hw2';clear ht2 hbb
     by_cases hjl:j<tr.length
     · obtain⟨b3,o3,rfl,hb3,⟨A4,c4,f1,f1c,iS⟩,f2⟩:=(HRS.out.keep (fun b hb=>(HB2.out.block b (hS b hb)).trans (HB.out.block b (hS b hb)).symm)).at_ hjl;have hl3:b3<wr.heap.size:=(by have:=hS b3 hb3;omega);have HSTEP2:=hI (refsFrom_drop s.tabs tc tr j hjl);have HIS:=hI iS;have hil:=iS.len;clear iS;generalize tr.getD j r0=rr at f1 f1c f2 HIS HSTEP2 hil;obtain⟨rc,rt⟩:=rr;simp only at f1 f1c f2 HIS HSTEP2 hil
       by_cases hh:hasN s.tabs.length rt=true
       · have hh0:0≤rt∧rt<s.tabs.length:=(by simpa [hasN] using hh);obtain⟨tt,rfl⟩:=Int.eq_ofNat_of_zero_le hh0.1;have htl:tt<s.tabs.length:=(by omega);have hd1:decide ((tt:Int)<0)=false:=(by simp);have hd2:decide (s.tabs.length≤tt)=false:=(by simp;omega);obtain⟨b4,o4,eA0,hb4,B1,B2,B3,d1,d2,d3,hta⟩:=(HS.out.keep (Same.of_below HB2.out hS)).at_ htl;obtain⟨l1,l2,l3,l4,l5,uS,_,_,-,-,-,-⟩:=hta;injection eA0 with eA0;injection eA0 with e1 e2;subst e1 e2;have hl4:b2<wr.heap.size:=(by omega);have HUS:=hI uS;have huk:(s.tabs.getD tt t0).key≤(s.tabs.getD tt t0).cols.length:=HKC.out _ (by simp [List.getD,htl]);have HOK':=hI (show ZgB s.tabs tc ⟨rc,tt⟩=(decide ((rc.length:Int)=(s.tabs.getD tt t0).key)&&ZbO tc (s.tabs.getD tt t0).cols rc) by unfold ZgB;simp only [hh,Int.toNat_natCast,Bool.true_and]);have hul:=uS.len;clear uS hh;generalize s.tabs.getD tt t0=ub at l1 l2 l3 l4 l5 HUS huk HOK' hul;obtain⟨un,uc,uk,ur,up⟩:=ub;simp only at l1 l2 l3 l4 l5 HUS huk HOK' hul
         by_cases hk:(rc.length:Int)=uk
         · have hd3:((rc.length:Int) != uk)=false:=(by simp [hk]);have HOK:=hI (show ZgB s.tabs tc ⟨rc,tt⟩=ZbO tc uc rc by rw [HOK'.out];simp [hk]);have HB2a:=hI ((HB2.out.alloc (by omega) (.cells #[.slice A4 rc.length c4,.int .i64 tt] 96)).alloc (by simp;omega) (.cells #[.string un,.slice B1 uc.length d1,.int .i64 uk,.slice B2 ur.length d2,.slice B3 up.length d3] 39));obtain⟨g7,hg7⟩:∃ g7,g7=wr.heap.size+1:=⟨_,rfl⟩;have HG7:=hI hg7;clear hg7
           go_wp2_with fail
           go_loopw [50] (fun i wq=>∃ i3:Nat,i3≤rc.length∧i=.int .i64 i3∧ZbO tc uc rc=ZbO tc (uc.drop i3) (rc.drop i3)∧Below w.heap.size w wq∧wq.cell? ⟨w.heap.size,1,none⟩=some (.slice (some ⟨b2,o2,none⟩) s.tabs.length c0')∧wq.cell? ⟨g1,1,none⟩=some (.slice A1 tc.length c1)∧wq.cell? ⟨g7,1,none⟩=some (.slice B1 uc.length d1)∧w.heap.size<wq.heap.size∧g1<wq.heap.size∧g7<wq.heap.size) (fun i _=>rc.length - (intOf i).toNat)
           case atStart =>
            refine⟨0,Nat.zero_le _,rfl,by simp,HB2a.out,?_,?_,?_,by simp;omega,by simp;omega,by rw [HG7.out];simp⟩
            · rw [World.cell?_of_block (Below.heap_alloc _ _ _ (by simp;omega)),World.cell?_of_block (Below.heap_alloc _ _ _ (by omega))];exact x1
            · rw [World.cell?_of_block (Below.heap_alloc _ _ _ (by simp;omega)),World.cell?_of_block (Below.heap_alloc _ _ _ (by omega))];exact x2
            · rw [HG7.out];simp
           case round =>
            obtain⟨i3,hi3,rfl,ht3,hbb,y1,y2,y3,hw1,hw2,hw3⟩:=hrel;have HT3:=hI ht3;have HB3:=hI hbb;have y2':=y2;have hw2':=hw2;have y3':=y3;have hw3':=hw3;rw [HG1.out] at y2' hw2';rw [HG7.out] at y3' hw3';clear ht3 hbb
            by_cases hil:i3<rc.length
            · have HI:=hI (HIS.out.keep (fun b hb=>(HB3.out.block b (hS b hb)).trans (HB2.out.block b (hS b hb)).symm));obtain⟨b5,o5,rfl,hb5,p1⟩:=HI.out.at_ hil;have hl5:b5<wr.heap.size:=(by have:=hS b5 hb5;omega);have HSTEP3:=hI (rcolsFrom_drop tc uc rc i3 hil (by omega));obtain⟨b7,o7,rfl,hb7,q1,q2⟩:=(HUS.out.keep (fun b hb=>(HB3.out.block b (hS b hb)).trans (HB2.out.block b (hS b hb)).symm)).at_ (show i3<uc.length by omega);have hl7:b7<wr.heap.size:=(by have:=hS b7 hb7;omega);have hiu:(i3:Int)<uc.length:=(by omega);generalize rc.getD i3 0=c at p1 HSTEP3;generalize uc.getD i3 c0=ucl at q1 q2 HSTEP3;obtain⟨ucn,uck⟩:=ucl;simp only at q1 q2 HSTEP3
              by_cases h0:c<0
              · have hd1:decide (c<0)=true:=(by simp [h0]);have HV:=hI (show decide (0≤c)=false by simpa using h0)
                go_wp2_with fail
                go_quiet (fail)
                go_wp2_with fail
                go_ret;exact⟨by rw [HT.out,HSTEP.out,HT2.out,HSTEP2.out,HOK.out,HT3.out,HSTEP3.out];simp [HV.out],Zaj HB3.out _⟩
              · have hd1:decide (c<0)=false:=(by simpa using h0);obtain⟨cc,rfl⟩:=Int.eq_ofNat_of_zero_le (show 0≤c by omega);rw [Int.toNat_natCast] at HSTEP3
                by_cases h1:cc<tc.length
                · have hd2:decide ((tc.length:Int)≤(cc:Int))=false:=(by simp;omega);have hd3:decide (tc.length≤cc)=false:=(by simp;omega);obtain⟨b6,o6,rfl,hb6,r1,r2⟩:=(HCS.out.keep (fun b hb=>(HB3.out.block b (hS b hb)).trans (HB.out.block b (hS b hb)).symm)).at_ h1;have hl6:b6<wr.heap.size:=(by have:=hS b6 hb6;omega);generalize tc.getD cc c0=tcl at r1 r2 HSTEP3;obtain⟨tcn,tck⟩:=tcl;simp only at r1 r2 HSTEP3
                  by_cases hq:tck=uck
                  · have hd4:(tck != uck)=false:=by simp [hq]
                    go_wp2_with fail
                    go_quiet (fail)
                    go_wp2_with fail
                    go_roundw
                    case rel=>exact⟨i3+1,by omega,by go_num,by rw [HT3.out,HSTEP3.out];simp [hq,h1],Zaj HB3.out _,y1,y2,y3,hw1,hw2,hw3⟩
                    case measure=>simp [intOf];omega
                  · have hd4:(tck != uck)=true:=(by simp [hq]);have HV:=hI hq
                    go_wp2_with fail
                    go_quiet (fail)
                    go_wp2_with fail
                    go_ret;exact⟨by rw [HT.out,HSTEP.out,HT2.out,HSTEP2.out,HOK.out,HT3.out,HSTEP3.out];simp [HV.out],Zaj HB3.out _⟩
                · have hd2:decide ((tc.length:Int)≤(cc:Int))=true:=(by simp;omega);have hd3:decide (tc.length≤cc)=true:=(by simp;omega);have HV:=hI h1
                  go_wp2_with fail
                  go_quiet (fail)
                  go_wp2_with fail
                  go_ret;exact⟨by rw [HT.out,HSTEP.out,HT2.out,HSTEP2.out,HOK.out,HT3.out,HSTEP3.out];simp [HV.out],Zaj HB3.out _⟩
            · have HE:=hI (show ZbO tc uc rc=true by rw [HT3.out,show i3=rc.length by omega,List.drop_length];cases (uc.drop rc.length)<;>rfl)
              go_wp2_with fail
              go_roundw
              case rel=>exact⟨j+1,by omega,by go_num,by rw [HT2.out,HSTEP2.out,HOK.out,HE.out];rfl,HB3.out,y1,y2,hw1,hw2⟩
              case measure=>simp [intOf];omega
         · have hd3:((rc.length:Int) != uk)=true:=(by simp [hk]);have HV:=hI (show ZgB s.tabs tc ⟨rc,tt⟩=false by rw [HOK'.out];simp [hk])
           go_wp2_with fail
           go_ret;exact⟨by rw [HT.out,HSTEP.out,HT2.out,HSTEP2.out,HV.out];rfl,(HB2.out.alloc (by omega) _).alloc (by simp;omega) _⟩
       · have HV:=hI (show ZgB s.tabs tc ⟨rc,rt⟩=false by unfold ZgB;simp [hh])
         have hh':rt<0∨(s.tabs.length:Int)≤rt:=by
          have:hasN s.tabs.length rt=false:=(by simpa using hh);simp [hasN] at this;omega
         by_cases h0:rt<0
         · have hd1:decide (rt<0)=true:=by simp [h0]
           go_wp2_with fail
           go_ret;exact⟨by rw [HT.out,HSTEP.out,HT2.out,HSTEP2.out,HV.out];rfl,HB2.out.alloc (by omega) _⟩
         · have hd1:decide (rt<0)=false:=(by simpa using h0);have hd2:decide ((s.tabs.length:Int)≤rt)=true:=by simp;omega
           go_wp2_with fail
           go_ret;exact⟨by rw [HT.out,HSTEP.out,HT2.out,HSTEP2.out,HV.out];rfl,HB2.out.alloc (by omega) _⟩
     · have HE:=hI (show Zcr s.tabs tc tr=true by rw [HT2.out,show j=tr.length by omega,List.drop_length];rfl)
       go_wp2_with fail
       go_roundw
       case rel=>exact⟨k+1,by omega,by go_num,by rw [HT.out,HSTEP.out,HE.out];rfl,HB2.out,x1,hw1⟩
       case measure=>simp [intOf];omega
  · have HKE:=hI (show k=s.tabs.length by omega)
    go_wp2_with fail
    go_ret;exact⟨by rw [HT.out,HKE.out,List.drop_length];rfl,HB.out⟩
abbrev oAgg (o:Opd):Value:=.agg #[.int .i64 o.kind,.int .i64 o.index,.int .i64 o.value.k,.int .i64 o.value.i,.string o.value.t]
abbrev pAgg (op cmp:Int) (l r:Opd) (A:Option Addr) (n c:Nat):Value:=.agg #[.int .i64 op,.int .i64 cmp,.int .i64 l.kind,.int .i64 l.index,.int .i64 l.value.k,.int .i64 l.value.i,.string l.value.t,.int .i64 r.kind,.int .i64 r.index,.int .i64 r.value.k,.int .i64 r.value.i,.string r.value.t,.slice A n c]
abbrev p0:Pred:=.mk 0 0 ⟨0,0,v0⟩ ⟨0,0,v0⟩ []
structure PredAt (w:World) (S:Nat→Prop) (b off:Nat) (op cmp:Int) (l r:Opd) (args:List Pred) (A:Option Addr) (c:Nat):Prop where
 fop:w.cell? ⟨b,off,none⟩=some (.int .i64 op)
 fcmp:w.cell? ⟨b,off+1,none⟩=some (.int .i64 cmp)
 lk:w.cell? ⟨b,off+2,none⟩=some (.int .i64 l.kind)
 li:w.cell? ⟨b,off+3,none⟩=some (.int .i64 l.index)
 lvk:w.cell? ⟨b,off+4,none⟩=some (.int .i64 l.value.k)
 lvi:w.cell? ⟨b,off+5,none⟩=some (.int .i64 l.value.i)
 lvt:w.cell? ⟨b,off+6,none⟩=some (.string l.value.t)
 rk:w.cell? ⟨b,off+7,none⟩=some (.int .i64 r.kind)
 ri:w.cell? ⟨b,off+8,none⟩=some (.int .i64 r.index)
 rvk:w.cell? ⟨b,off+9,none⟩=some (.int .i64 r.value.k)
 rvi:w.cell? ⟨b,off+10,none⟩=some (.int .i64 r.value.i)
 rvt:w.cell? ⟨b,off+11,none⟩=some (.string r.value.t)
 fargs:w.cell? ⟨b,off+12,none⟩=some (.slice A args.length c)
 pS:PredS w S A args
 pc:args.length≤c
 lt:l.value.t.size≤9223372036854775807
 rt:r.value.t.size≤9223372036854775807
theorem PredS.at_ {w:World} {S:Nat→Prop} {A:Option Addr} {l:List Pred} (h:PredS w S A l) {k:Nat} (hk:k<l.length):∃ b off,A=some ⟨b,off,none⟩∧S b∧∃ op cmp lf rt args A' c,l.getD k p0=.mk op cmp lf rt args∧PredAt w S b (off+k*13) op cmp lf rt args A' c:=by
 obtain⟨b,off,e,hb,h1⟩:=Sl.at_ Zez p0 h hk;cases hp:l.getD k p0 with
 | mk op cmp lf rt args =>
  rw [hp] at h1;simp only [encPred,ZbU,encV,Dat.Held,Dat.HeldAll,Dat.size,Dat.sizes,and_true,Zbb,ZaQ,Nat.add_assoc,Nat.reduceAdd,Nat.add_zero] at h1;obtain⟨a1,a2,⟨a3,a4,a5,a6,a7,a7'⟩,⟨b3,b4,b5,b6,b7,b7'⟩,A',c,d1,d2,d3,d4⟩:=h1;rw [Zde] at d1 d2 d3 d4;rw [List.length_map] at d1 d2;exact⟨b,off,e,hb,op,cmp,lf,rt,args,A',c,rfl,a1,a2,a3,a4,a5,a6,a7,b3,b4,b5,b6,b7,d1,⟨d3,d4⟩,d2,a7',b7'⟩
def ZaB:List Int→Bool
 | []=>true
 | k :: r=>Zbd k&&ZaB r
theorem Zev (l:List Int) (k:Nat) (h:k<l.length):ZaB (l.drop k)=(Zbd (l.getD k 0)&&ZaB (l.drop (k+1))):=by
 rw [List.drop_eq_getElem_cons h];have e1:l.getD k 0=l[k]:=(by simp [List.getD,h]);rw [e1];rfl
theorem Zbv (A:Option Addr) (ca:Nat) (l:List Int) (S:Nat→Prop) (w:World) (h:IntS w S A l):Calls Try.prog 128 #[.slice A l.length ca] w (fun e w'=>e=.returned (.bool (ZaB l))∧w'=w):=by
 have hl:=h.len;have HI:=hI h;clear h;go_enter Try.func128,Try.ntmps128
 go_wp2_with fail
 go_loopw [7] (fun i wr=>∃ k:Nat,k≤l.length∧i=.int .i64 k∧ZaB l=ZaB (l.drop k)∧wr=w) (fun i _=>l.length - (intOf i).toNat)
 case atStart=>exact⟨0,Nat.zero_le _,rfl,by simp,rfl⟩
 case round =>
  obtain⟨k,hk,rfl,ht,rfl⟩:=hrel;have HT:=hI ht;clear ht
  by_cases hkl:k<l.length
  · obtain⟨b1,o1,rfl,hb1,d1⟩:=HI.out.at_ hkl;have HSTEP:=hI (Zev l k hkl);generalize l.getD k 0=ck at d1 HSTEP
    by_cases h3:ck=3
    · subst h3
      go_wp2_with fail
      go_roundw
      case rel=>exact⟨k+1,by omega,by go_num,by rw [HT.out,HSTEP.out];rfl,trivial⟩
      case measure=>simp [intOf];omega
    · have e3:(ck != 3)=true:=by simp [h3]
      by_cases h4:ck=4
      · subst h4
        go_wp2_with fail
        go_roundw
        case rel=>exact⟨k+1,by omega,by go_num,by rw [HT.out,HSTEP.out];rfl,trivial⟩
        case measure=>simp [intOf];omega
      · have e4:(ck != 4)=true:=by simp [h4]
        by_cases h5:ck=5
        · subst h5
          go_wp2_with fail
          go_roundw
          case rel=>exact⟨k+1,by omega,by go_num,by rw [HT.out,HSTEP.out];rfl,trivial⟩
          case measure=>simp [intOf];omega
        · have e5:(ck != 5)=true:=(by simp [h5]);have HV:=hI (show Zbd ck=false by simp [Zbd,h3,h4,h5])
          go_wp2_with fail
          go_ret;exact⟨by rw [HT.out,HSTEP.out,HV.out];rfl,rfl⟩
  · have HF:=hI (show ZaB l=true by rw [HT.out,show k=l.length by omega,List.drop_length];rfl)
    go_wp2_with fail
    go_ret;exact⟨by rw [HF.out];rfl,rfl⟩
mutual
def smallP:Pred→Int→Int→Bool × Int
 | .mk _ _ _ _ args,lv,b=>if b - 1<0∨8<lv then (false,b - 1) else smallL args (lv+1) (b - 1)
def smallL:List Pred→Int→Int→Bool × Int
 | [],_,b=>(true,b)
 | p :: r,lv,b=>if (smallP p lv b).1 then smallL r lv (smallP p lv b).2 else (false,(smallP p lv b).2)
end
mutual
theorem smallP_le:∀ (p:Pred) (lv b:Int),0≤b→(smallP p lv b).2≤b∧((smallP p lv b).1=true→0≤(smallP p lv b).2)
 | .mk _ _ _ _ args,lv,b,hb=>by
  unfold smallP;split
  · exact⟨by simp;omega,fun h=>by cases h⟩
  · have:=smallL_le args (lv+1) (b - 1) (by omega);exact⟨by omega,this.2⟩
theorem smallL_le:∀ (l:List Pred) (lv b:Int),0≤b→(smallL l lv b).2≤b∧((smallL l lv b).1=true→0≤(smallL l lv b).2)
 | [],lv,b,hb=>by unfold smallL;exact⟨Int.le_refl _,fun _=>hb⟩
 | p :: r,lv,b,hb=>by
  have h1:=smallP_le p lv b hb;unfold smallL;split
  · rename_i h
    have h2:=smallL_le r lv _ (h1.2 h);exact⟨by omega,h2.2⟩
  · exact⟨h1.1,fun h=>by cases h⟩
end
theorem smallL_drop (l:List Pred) (lv b:Int) (k:Nat) (h:k<l.length):smallL (l.drop k) lv b=if (smallP (l.getD k p0) lv b).1 then smallL (l.drop (k+1)) lv (smallP (l.getD k p0) lv b).2 else (false,(smallP (l.getD k p0) lv b).2):=by
 rw [List.drop_eq_getElem_cons h];have e1:l.getD k p0=l[k]:=(by simp [List.getD,h]);rw [e1]
 conv=>lhs;unfold smallL
def SmallPost (g:Nat) (r:Bool × Int) (w:World) (e:Ending) (w':World):Prop:=e=.returned (.bool r.1)∧w'.heap[g]?=some (.cells #[.int .i64 r.2] 3 (0,0))∧w.grownBy w' (some g)
def bigT (t:Tab):Bool:=decide (8<t.cols.length)||decide (4<t.refs.length)||decide (4<t.checks.length)
def chkL (pc:List Int→Pred→Int) (ks:List Int):List Pred→Int
 | []=>0
 | p :: r=>if pc ks p≠0 then pc ks p else chkL pc ks r
def chkT (pc:List Int→Pred→Int):List Tab→Int
 | []=>0
 | t :: r=>if chkL pc (t.cols.map (·.kind)) t.checks≠0 then chkL pc (t.cols.map (·.kind)) t.checks else chkT pc r
def schF (pc:List Int→Pred→Int) (s:Sch):Int :=
 if 8<s.tabs.length then 2 else if s.tabs.any bigT then 2
 else if s.version<0∨1000<s.version∨ZaR [] s.tabs=false∨Zbr s.tabs s.tabs=false then 70 else chkT pc s.tabs
theorem chkL_drop (pc:List Int→Pred→Int) (ks:List Int) (l:List Pred) (k:Nat) (h:k<l.length):chkL pc ks (l.drop k)=if pc ks (l.getD k p0)≠0 then pc ks (l.getD k p0) else chkL pc ks (l.drop (k+1)):=by
 rw [List.drop_eq_getElem_cons h];have e1:l.getD k p0=l[k]:=(by simp [List.getD,h]);rw [e1];rfl
theorem chkT_drop (pc:List Int→Pred→Int) (l:List Tab) (k:Nat) (h:k<l.length):chkT pc (l.drop k)=if chkL pc ((l.getD k t0).cols.map (·.kind)) (l.getD k t0).checks≠0 then chkL pc ((l.getD k t0).cols.map (·.kind)) (l.getD k t0).checks else chkT pc (l.drop (k+1)):=by
 rw [List.drop_eq_getElem_cons h];have e1:l.getD k t0=l[k]:=(by simp [List.getD,h]);rw [e1];rfl
theorem big_take (l:List Tab) (k:Nat) (h:k<l.length):(l.take (k+1)).any bigT=((l.take k).any bigT||bigT (l.getD k t0)):=by
 have e1:l.getD k t0=l[k]:=(by simp [List.getD,h]);rw [List.take_succ_eq_append_getElem h,List.any_append,e1];simp
theorem big_true (l:List Tab) (k:Nat) (h:k<l.length) (hb:bigT (l.getD k t0)=true):l.any bigT=true:=by
 have e1:l.getD k t0=l[k]:=(by simp [List.getD,h]);rw [e1] at hb;exact List.any_eq_true.2 ⟨_,List.getElem_mem h,hb⟩
theorem ZgE:∀ (l:List Tab) (seen:List ByteArray),ZaR seen l=true→∀ t ∈ l,t.key≤t.cols.length
 | [],_,_,t,ht=>by simp at ht
 | t' :: r,seen,h,t,ht=>by
  simp only [ZaR,Bool.and_eq_true,decide_eq_true_eq] at h;rcases List.mem_cons.1 ht with rfl | ht
  · exact h.1.1.2
  · exact ZgE r _ h.2 t ht
def Zcp (e m:Int):Int:=if e≠0 then e else if Zcm m then 0 else 1
def Zbx (s:Sch) (t m:Int):Option Row→List Row→Bool
 | _,[]=>true
 | p,r :: l=>ZaT s t r m&&(match p with | none=>true | some q=>decide (cmpR (keyF s t q) (keyF s t r)<0))&&Zbx s t m (some r) l
def stOk (s:Sch) (m:Int):Nat→St→Bool
 | _,[]=>true
 | t,l :: r=>Zbx s t m none l&&stOk s m (t+1) r
def Zbo (e:Int) (s:Sch) (m:Int) (st:St):Int :=
 if Zcp e m≠0 then Zcp e m else if 512<Zak st then 2 else if st.length≠s.tabs.length then 80 else if stOk s m 0 st then 0 else 80
theorem stOk_drop (s:Sch) (m:Int) (st:St) (k:Nat) (h:k<st.length):stOk s m k (st.drop k)=(Zbx s k m none (st.getD k [])&&stOk s m (k+1) (st.drop (k+1))):=by
 rw [List.drop_eq_getElem_cons h];have e1:st.getD k []=st[k]:=(by simp [List.getD,h]);rw [e1];rfl
def Zdf (l:List Row):Nat→Option Row
 | 0=>none
 | k+1=>some (l.getD k [])
theorem rowsOk_drop (s:Sch) (t m:Int) (l:List Row) (k:Nat) (h:k<l.length):Zbx s t m (Zdf l k) (l.drop k)=(ZaT s t (l.getD k []) m&&(match Zdf l k with | none=>true | some q=>decide (cmpR (keyF s t q) (keyF s t (l.getD k []))<0))&&Zbx s t m (Zdf l (k+1)) (l.drop (k+1))):=by
 have e1:l.getD k []=l[k]:=(by simp [List.getD,h]);rw [List.drop_eq_getElem_cons h]
 conv=>rhs;rw [show Zdf l (k+1)=some (l.getD k []) from rfl,e1]
 rfl
def keyC (s:Sch) (c:Chg):Row:=if 0<c.old.length then keyF s c.table c.old else keyF s c.table c.new
def Zas (s:Sch) (m:Int) (c:Chg):Bool :=
 hasN s.tabs.length c.table&&!(decide (c.old.length=0)&&decide (c.new.length=0))&&(decide (c.old.length=0)||ZaT s c.table c.old m)&&(decide (c.new.length=0)||ZaT s c.table c.new m)
  && (decide (c.old.length=0)||decide (c.new.length=0)||(cmpR (keyF s c.table c.old) (keyF s c.table c.new) == 0))
def low (s:Sch) (t:Int) (key:Row):List Row→Nat
 | []=>0
 | r :: l=>if cmpR (keyF s t r) key<0 then low s t key l+1 else 0
def Asc (s:Sch) (t:Int) (l:List Row):Prop:=∀ i j,i<j→j<l.length→cmpR (keyF s t (l.getD i [])) (keyF s t (l.getD j []))<0
def ZbT (s:Sch) (c:Chg) (l:List Row):Bool:=decide (low s c.table (keyC s c) l<l.length)&&(cmpR (keyF s c.table (l.getD (low s c.table (keyC s c) l) [])) (keyC s c) == 0)
def Zdq (s:Sch) (c:Chg) (l:List Row):Bool:=(ZbT s c l == decide (0<c.old.length))&&(!ZbT s c l||(cmpR (l.getD (low s c.table (keyC s c) l) []) c.old == 0))
def putC (s:Sch) (c:Chg) (l:List Row):List Row :=
 l.take (low s c.table (keyC s c) l)++(if 0<c.new.length then [c.new] else [])++(if ZbT s c l then l.drop (low s c.table (keyC s c) l+1) else l.drop (low s c.table (keyC s c) l))
def Zco (s:Sch) (m:Int):Int→St→List Chg→Int × St
 | _,st,[]=>(0,st)
 | n,st,c :: r =>
  if Zas s m c=false then (71,[])
  else if Zdq s c (st.getD c.table.toNat [])=false then (81,[])
  else if 512<n+((putC s c (st.getD c.table.toNat [])).length - (st.getD c.table.toNat []).length:Int) then (2,[])
  else Zco s m (n+((putC s c (st.getD c.table.toNat [])).length - (st.getD c.table.toNat []).length:Int)) (st.set c.table.toNat (putC s c (st.getD c.table.toNat []))) r
def ZcS (e:Int) (s:Sch) (m:Int) (st:St) (l:List Chg):Int × St:=if Zbo e s m st≠0 then (Zbo e s m st,[]) else Zco s m (Zak st) st l
theorem Zeu (s:Sch) (t:Int) (key:Row):∀ l:List Row,low s t key l≤l.length
 | []=>Nat.le_refl _
 | r :: l=>by unfold low;have:=Zeu s t key l;split<;>simp<;>omega
theorem low_lt (s:Sch) (t:Int) (key:Row):∀ (l:List Row) (k:Nat),k<low s t key l→cmpR (keyF s t (l.getD k [])) key<0
 | [],k,h=>by simp [low] at h
 | r :: l,k,h=>by
  unfold low at h;split at h
  · rename_i hr
    cases k with
    | zero=>exact hr
    | succ k=>exact low_lt s t key l k (by omega)
  · omega
theorem low_ge (s:Sch) (t:Int) (key:Row):∀ (l:List Row),low s t key l<l.length→0≤cmpR (keyF s t (l.getD (low s t key l) [])) key
 | [],h=>by simp at h
 | r :: l,h=>by
  by_cases hr:cmpR (keyF s t r) key<0
  · have e:low s t key (r :: l)=low s t key l+1:=(by rw [low,if_pos hr]);rw [e] at h ⊢;exact low_ge s t key l (by simpa using h)
  · have e:low s t key (r :: l)=0:=(by rw [low,if_neg hr]);rw [e];simpa using hr
theorem Zek {s:Sch} {t:Int} {l:List Row} (ha:Asc s t l) (key:Row) {k:Nat} (hk:k<l.length):cmpR (keyF s t (l.getD k [])) key<0↔k<low s t key l:=by
 constructor
 · intro h;rcases Nat.lt_or_ge k (low s t key l) with h1 | h1
   · exact h1
   · have h2:=low_ge s t key l (by omega);rcases Nat.lt_or_eq_of_le h1 with h3 | h3
     · have h4:=cmpR_is.lt_trans (ha _ _ h3 hk) h;omega
     · rw [h3] at h2;omega
 · exact low_lt s t key l k
def Zfr (pc:List Int→Pred→Int) (ks:List Int) (p:Pred):Prop :=
 ∀ (K:Option Addr) (ck:Nat) (op cmp:Int) (l r:Opd) (args:List Pred) (A:Option Addr) (c:Nat) (S:Nat→Prop) (w:World),p=.mk op cmp l r args→IntS w S K ks→PredS w S A args→(∀ b,S b→b<w.heap.size)→args.length≤c→l.value.t.size≤9223372036854775807→r.value.t.size≤9223372036854775807 →
  Calls Try.prog 112 #[.slice K ks.length ck,.slice none 0 0,pAgg op cmp l r A args.length c] w (ZbV (pc ks p) w)
theorem kindsF_at (s:Sch) (k:Nat) (h:k<s.tabs.length):Zbs s k=(s.tabs.getD k t0).cols.map (·.kind):=by
 unfold Zbs;rw [if_pos (by simp [hasN];omega)];rfl
theorem tab_mem {l:List Tab} {k:Nat} (h:k<l.length):l.getD k t0 ∈ l:=by simp [List.getD,h]
theorem pred_mem {l:List Pred} {k:Nat} (h:k<l.length):l.getD k p0 ∈ l:=by simp [List.getD,h]
theorem schCheck_any (pc:List Int→Pred→Int) (A0:Option Addr) (c0':Nat) (s:Sch) (S:Nat→Prop) (w:World) (hs:TabS w S A0 s.tabs) (hS:∀ b,S b→b<w.heap.size) (hpc:∀ t ∈ s.tabs,∀ p ∈ t.checks,Zfr pc (t.cols.map (·.kind)) p) :
  Calls Try.prog 90 #[sAgg s.version A0 s.tabs.length c0'] w (ZbV (schF pc s) w):=by
 obtain⟨ver,tabs⟩:=s;simp only at hs hpc ⊢;have hsl:=hs.len;have HS:=hI hs;have HPC:=hI hpc;clear hs hpc;have HB0:=hI ((Below.refl w.heap.size w).alloc nR (.cells #[.int .i64 ver,.slice A0 tabs.length c0'] 25))
 by_cases h8:8<tabs.length
 · have HF:=hI (show schF pc ⟨ver,tabs⟩=2 by unfold schF;rw [if_pos h8]);go_enter Try.func90,Try.ntmps90
   go_wp2_with fail
   go_ret;exact⟨by rw [HF.out];rfl,HB0.out⟩
 · go_enter Try.func90,Try.ntmps90
   go_wp2_with fail
   go_loopw [18] (fun i wr=>∃ k:Nat,k≤tabs.length∧i=.int .i64 k∧(tabs.take k).any bigT=false∧Below w.heap.size w wr∧wr.cell? ⟨w.heap.size,0,none⟩=some (.int .i64 ver)∧wr.cell? ⟨w.heap.size,1,none⟩=some (.slice A0 tabs.length c0')∧w.heap.size<wr.heap.size) (fun i _=>tabs.length - (intOf i).toNat)
   case atStart=>exact⟨0,Nat.zero_le _,rfl,by simp,HB0.out,by simp,by simp,by simp⟩
   case round =>
    obtain⟨k,hk,rfl,hbig,hbel,x0,x1,hw1⟩:=hrel;have HT:=hI hbig;have HB:=hI hbel;clear hbig hbel
    by_cases hkl:k<tabs.length
    · obtain⟨b2,o2,rfl,hb2,A1,A2,A3,c1,c2,c3,hta⟩:=(HS.out.keep (Same.of_below HB.out hS)).at_ hkl;obtain⟨k1,k2,k3,k4,k5,cS,rS,pS,-,-,-,-⟩:=hta;have hcl:=cS.len;have hrl:=rS.len;have hpl:=pS.len;have hl2:b2<w.heap.size:=hS b2 hb2;have HSTEP:=hI (big_take tabs k hkl);have HBT:=hI (big_true tabs k hkl);have HBA:=hI (HB.out.alloc (by omega) (.cells #[.string (tabs.getD k t0).name,.slice A1 (tabs.getD k t0).cols.length c1,.int .i64 (tabs.getD k t0).key,.slice A2 (tabs.getD k t0).refs.length c2,.slice A3 (tabs.getD k t0).checks.length c3] 39));clear cS rS pS;generalize tabs.getD k t0=tb at k1 k2 k3 k4 k5 HSTEP HBT hcl hrl hpl HBA;obtain⟨tn,tc,tk,tr,tp⟩:=tb;simp only at k1 k2 k3 k4 k5 hcl hrl hpl HBA
      by_cases hc8:8<tc.length
      · have hd1:decide (8<(tc.length:Int))=true:=(by simp;omega);have HF:=hI (show schF pc ⟨ver,tabs⟩=2 by unfold schF;rw [if_neg h8,if_pos (HBT.out (by simp [bigT,hc8]))])
        go_wp2_with fail
        go_ret;exact⟨by rw [HF.out];rfl,HBA.out⟩
      · have hd1:decide (8<(tc.length:Int))=false:=by simp;omega
        by_cases hr4:4<tr.length
        · have hd2:decide (4<(tr.length:Int))=true:=(by simp;omega);have HF:=hI (show schF pc ⟨ver,tabs⟩=2 by unfold schF;rw [if_neg h8,if_pos (HBT.out (by simp [bigT,hr4]))])
          go_wp2_with fail
          go_ret;exact⟨by rw [HF.out];rfl,HBA.out⟩
        · have hd2:decide (4<(tr.length:Int))=false:=by simp;omega
          by_cases hp4:4<tp.length
          · have hd3:decide (4<(tp.length:Int))=true:=(by simp;omega);have HF:=hI (show schF pc ⟨ver,tabs⟩=2 by unfold schF;rw [if_neg h8,if_pos (HBT.out (by simp [bigT,hp4]))])
            go_wp2_with fail
            go_ret;exact⟨by rw [HF.out];rfl,HBA.out⟩
          · have hd3:decide (4<(tp.length:Int))=false:=by simp;omega
            go_wp2_with fail
            go_roundw
            case rel=>exact⟨k+1,by omega,by go_num,by rw [HSTEP.out,HT.out];simp [bigT];omega,HBA.out,by rw [World.cell?_of_block (Below.heap_alloc _ _ _ hw1)];exact x0,by rw [World.cell?_of_block (Below.heap_alloc _ _ _ hw1)];exact x1,by simp;omega⟩
            case measure=>simp [intOf];omega
    · have HNB:=hI (show tabs.any bigT=false by have:=HT.out;rwa [List.take_of_length_le (by omega)] at this)
      have HC8:=hI (show ∀ t ∈ tabs,t.cols.length≤8 by
       intro t ht;have:=List.any_eq_false.1 HNB.out t ht;simp [bigT] at this;omega)
      have HSCH:=hI (show schF pc ⟨ver,tabs⟩=if ver<0∨1000<ver∨ZaR [] tabs=false∨Zbr tabs tabs=false then 70 else chkT pc tabs by unfold schF;rw [if_neg h8,if_neg (by rw [HNB.out];simp)]);clear HT
      by_cases hv0:ver<0
      · have hd1:decide (ver<0)=true:=(by simp [hv0]);have HF:=hI (show schF pc ⟨ver,tabs⟩=70 by rw [HSCH.out,if_pos (.inl hv0)])
        go_wp2_with fail
        go_ret;exact⟨by rw [HF.out];rfl,HB.out⟩
      · have hd1:decide (ver<0)=false:=by simpa using hv0
        by_cases hv1:1000<ver
        · have hd2:decide (1000<ver)=true:=(by simp [hv1]);have HF:=hI (show schF pc ⟨ver,tabs⟩=70 by rw [HSCH.out,if_pos (.inr (.inl hv1))])
          go_wp2_with fail
          go_ret;exact⟨by rw [HF.out];rfl,HB.out⟩
        · have hd2:decide (1000<ver)=false:=by simpa using hv1
          go_wp2_with fail
          refine(named_any A0 c0' ⟨ver,tabs⟩ S _ (HS.out.keep (Same.of_below HB.out hS)) (fun b hb=>by have:=hS b hb;omega) (by simp only;omega) HC8.out).mono ?_;rintro e w1 ⟨rfl,hb1⟩;have HB1:=hI (HB.out.trans (hb1.mono (by omega)));have y0:w1.cell? ⟨w.heap.size,0,none⟩=some (.int .i64 ver):=c9Q hb1 hw1 x0;have y1:w1.cell? ⟨w.heap.size,1,none⟩=some (.slice A0 tabs.length c0'):=c9Q hb1 hw1 x1;have hw2:w.heap.size<w1.heap.size:=(by have:=hb1.size;omega);simp only;clear hb1 x0 x1 HB hw1
          by_cases hn:ZaR [] tabs=true
          · have HKC:=hI (ZgE tabs [] hn);have HN:=hI hn;rw [hn];clear hn
            go_wp2_with fail
            refine(referring_any A0 c0' ⟨ver,tabs⟩ S _ (HS.out.keep (Same.of_below HB1.out hS)) (fun b hb=>by have:=hS b hb;omega) HKC.out).mono ?_;rintro e w2 ⟨rfl,hb2⟩;have HB2:=hI (HB1.out.trans (hb2.mono (by omega)));have z0:w2.cell? ⟨w.heap.size,0,none⟩=some (.int .i64 ver):=c9Q hb2 hw2 y0;have z1:w2.cell? ⟨w.heap.size,1,none⟩=some (.slice A0 tabs.length c0'):=c9Q hb2 hw2 y1;have hw3:w.heap.size<w2.heap.size:=(by have:=hb2.size;omega);simp only;clear hb2 y0 y1 HB1 hw2
            by_cases hr:Zbr tabs tabs=true
            · have HFF:=hI (show schF pc ⟨ver,tabs⟩=chkT pc tabs by rw [HSCH.out,if_neg (by rw [HN.out,hr];simp;omega)]);rw [hr];clear hr
              go_wp2_with fail
              go_loopw [60] (fun i wr=>∃ k:Nat,k≤tabs.length∧i=.int .i64 k∧chkT pc tabs=chkT pc (tabs.drop k)∧Below w.heap.size w wr∧wr.cell? ⟨w.heap.size,0,none⟩=some (.int .i64 ver)∧wr.cell? ⟨w.heap.size,1,none⟩=some (.slice A0 tabs.length c0')∧w.heap.size<wr.heap.size) (fun i _=>tabs.length - (intOf i).toNat)
              case atStart=>exact⟨0,Nat.zero_le _,rfl,by simp,HB2.out,z0,z1,hw3⟩
              case round =>
               clear HB2 z0 z1 hw3;obtain⟨k,hk,rfl,hch,hbel,x0,x1,hw1⟩:=hrel;have HT:=hI hch;have HB:=hI hbel;clear hch hbel
               by_cases hkl:k<tabs.length
               · obtain⟨b2,o2,rfl,hb2,A1,A2,A3,c1,c2,c3,hta⟩:=(HS.out.keep (Same.of_below HB.out hS)).at_ hkl;obtain⟨k1,k2,k3,k4,k5,cS,rS,pS,-,-,-,-⟩:=hta;have hpl:=pS.len;have HPS:=hI pS;have hl2:b2<w.heap.size:=hS b2 hb2;have HSTEP:=hI (chkT_drop pc tabs k hkl);have HKE:=hI (kindsF_at ⟨ver,tabs⟩ k hkl);have HPK:=hI (HPC.out _ (tab_mem hkl));have HBA:=hI (HB.out.alloc (by omega) (.cells #[.string (tabs.getD k t0).name,.slice A1 (tabs.getD k t0).cols.length c1,.int .i64 (tabs.getD k t0).key,.slice A2 (tabs.getD k t0).refs.length c2,.slice A3 (tabs.getD k t0).checks.length c3] 39));clear cS rS pS;simp only at HKE;generalize tabs.getD k t0=tb at k1 k2 k3 k4 k5 HSTEP HPS HKE HPK hpl HBA;obtain⟨tn,tc,tk,tr,tp⟩:=tb;simp only at k1 k2 k3 k4 k5 hpl HBA HPS HKE HPK HSTEP
                 go_wp2_with fail
                 refine(kinds_any _ c0' ⟨ver,tabs⟩ k S _ (HS.out.keep (Same.of_below HBA.out hS)) (fun b hb=>by have:=hS b hb;simp;omega)).mono ?_;rintro e w3 ⟨K,ck,rfl,hIS,hck,-,hb3⟩;rw [HKE.out] at hIS hck ⊢;have HB3:=hI (HBA.out.trans (hb3.mono (by simp;omega)));have y0:w3.cell? ⟨w.heap.size,0,none⟩=some (.int .i64 ver):=c9K hb3 ((World.cell?_of_block (Below.heap_alloc _ _ _ hw1)).trans x0);have y1:w3.cell? ⟨w.heap.size,1,none⟩=some (.slice (some ⟨b2,o2,none⟩) tabs.length c0'):=c9K hb3 ((World.cell?_of_block (Below.heap_alloc _ _ _ hw1)).trans x1);have y2:w3.cell? ⟨wr.heap.size,4,none⟩=some (.slice A3 tp.length c3):=c9Q hb3 (by simp) (by simp);have hw2:w.heap.size<w3.heap.size:=(by have:=hb3.size;simp at this;omega);have hw4:wr.heap.size<w3.heap.size:=(by have:=hb3.size;simp at this;omega);have HIS:=hI hIS;have hksl:=hIS.len;generalize tc.map (·.kind)=ks at HIS HSTEP HPK hck hksl;clear hb3 x0 x1 hIS
                 go_wp2_with fail
                 go_loopw [71] (fun i wq=>∃ j:Nat,j≤tp.length∧i=.int .i64 j∧chkL pc ks tp=chkL pc ks (tp.drop j)∧Below w3.heap.size w3 wq) (fun i _=>tp.length - (intOf i).toNat)
                 case atStart=>exact⟨0,Nat.zero_le _,rfl,by simp,Below.refl _ _⟩
                 case round =>
                  obtain⟨j,hj,rfl,hch,hbq⟩:=hrel;have HT2:=hI hch;have HBQ:=hI hbq;have hsq:=hbq.size;have HBW:=hI (HB3.out.trans (hbq.mono (by omega)));clear hch hbq
                  by_cases hjl:j<tp.length
                  · obtain⟨b5,o5,rfl,hb5,op',cmp',lf,rt,args',A',c',hpe,hpa⟩:=(HPS.out.keep (fun b hb=>(HBW.out.block b (hS b hb)).trans (HB.out.block b (hS b hb)).symm)).at_ hjl;have HSTEP2:=hI (chkL_drop pc ks tp j hjl);have HPM:=hI (HPK.out _ (pred_mem hjl));rw [hpe] at HSTEP2 HPM;have f1:=hpa.fop;have f2:=hpa.fcmp;have f3:=hpa.lk;have f4:=hpa.li;have f6:=hpa.lvk;have f7:=hpa.lvi;have f8:=hpa.lvt;have f9:=hpa.rk;have f10:=hpa.ri;have f11:=hpa.rvk;have f12:=hpa.rvi;have f13:=hpa.rvt;have f5:=hpa.fargs;have HPA:=hI hpa;have hl5:b5<wr.heap.size:=(by have:=hS b5 hb5;omega);clear hpa hpe
                    go_wp2_with fail
                    refine(HPM.out K ck op' cmp' lf rt args' A' c' (fun b=>b<w3.heap.size) _ rfl ((HIS.out.more (fun b hb=>hb.2)).keep (Same.of_below (HBQ.out.alloc (by omega) _) (fun b hb=>hb))) ((HPA.out.pS.more (fun b hb=>by have:=hS b hb;omega)).keep (fun b hb=>Below.heap_alloc _ _ _ (by omega))) (fun b hb=>by simp;omega) HPA.out.pc HPA.out.lt HPA.out.rt).mono ?_;rintro e w4 ⟨rfl,hb4⟩;have HB4:=hI ((HBQ.out.alloc (by omega) _).trans (hb4.mono (by simp;omega)));clear hb4
                    by_cases he:pc ks (.mk op' cmp' lf rt args')=0
                    · rw [he] at HSTEP2 ⊢;clear he
                      go_wp2_with fail
                      go_roundw
                      case rel=>exact⟨j+1,by omega,by go_num,by rw [HT2.out,HSTEP2.out];rfl,HB4.out⟩
                      case measure=>simp [intOf];omega
                    · have HL:=hI (show chkL pc ks tp=pc ks (.mk op' cmp' lf rt args') by rw [HT2.out,HSTEP2.out,if_pos he]);have HTT:=hI (show chkT pc tabs=pc ks (.mk op' cmp' lf rt args') by rw [HT.out,HSTEP.out,HL.out,if_pos he]);have hd:(pc ks (.mk op' cmp' lf rt args') != 0)=true:=(by simp [he]);clear HL HSTEP2;generalize pc ks (.mk op' cmp' lf rt args')=er at hd HTT he;clear he
                      go_wp2_with fail
                      go_ret;exact⟨by rw [HFF.out,HTT.out];rfl,HB3.out.trans (HB4.out.mono (by omega))⟩
                  · have HE:=hI (show chkL pc ks tp=0 by rw [HT2.out,show j=tp.length by omega,List.drop_length];rfl);have y0':wr.cell? ⟨w.heap.size,0,none⟩=some (.int .i64 ver):=c9Q HBQ.out hw2 y0;have y1':wr.cell? ⟨w.heap.size,1,none⟩=some (.slice (some ⟨b2,o2,none⟩) tabs.length c0'):=c9Q HBQ.out hw2 y1
                    go_wp2_with fail
                    go_roundw
                    case rel=>exact⟨k+1,by omega,by go_num,by rw [HT.out,HSTEP.out,HE.out];rfl,HBW.out,y0',y1',by omega⟩
                    case measure=>simp [intOf];omega
               · have HE:=hI (show chkT pc tabs=0 by rw [HT.out,show k=tabs.length by omega,List.drop_length];rfl)
                 go_wp2_with fail
                 go_ret;exact⟨by rw [HFF.out,HE.out];rfl,HB.out⟩
            · have hr':Zbr tabs tabs=false:=(by simpa using hr);have HF:=hI (show schF pc ⟨ver,tabs⟩=70 by rw [HSCH.out,if_pos (.inr (.inr (.inr hr')))]);rw [hr'];clear hr hr'
              go_wp2_with fail
              go_ret;exact⟨by rw [HF.out];rfl,HB2.out⟩
          · have hn':ZaR [] tabs=false:=(by simpa using hn);have HF:=hI (show schF pc ⟨ver,tabs⟩=70 by rw [HSCH.out,if_pos (.inr (.inr (.inl hn')))]);rw [hn'];clear hn hn'
            go_wp2_with fail
            go_ret;exact⟨by rw [HF.out];rfl,HB1.out⟩
def Zcu (pc:List Int→Pred→Int) (s:Sch):Prop:=∀ t ∈ s.tabs,∀ p ∈ t.checks,Zfr pc (t.cols.map (·.kind)) p
theorem Zhw (pc:List Int→Pred→Int) (A0:Option Addr) (c0':Nat) (s:Sch) (m:Int) (S:Nat→Prop) (w:World) (hs:TabS w S A0 s.tabs) (hS:∀ b,S b→b<w.heap.size) (hpc:Zcu pc s) :
  Calls Try.prog 58 #[sAgg s.version A0 s.tabs.length c0',.int .i64 m] w (ZbV (Zcp (schF pc s) m) w):=by
 obtain⟨er,her⟩:∃ er,schF pc s=er:=⟨_,rfl⟩;rw [her];have HER:=hI her;clear her;have HS:=hI hs;have HPC:=hI hpc;have hsl:=hs.len;clear hs hpc;have HB0:=hI ((Below.refl w.heap.size w).alloc nR (.cells #[.int .i64 s.version,.slice A0 s.tabs.length c0'] 25));go_enter Try.func58,Try.ntmps58
 go_wp2_with fail
 refine(schCheck_any pc A0 c0' s S _ (HS.out.keep (Same.of_below HB0.out hS)) (fun b hb=>by have:=hS b hb;simp;omega) HPC.out).mono ?_;rintro e w1 ⟨rfl,hb1⟩;have HB1:=hI (HB0.out.trans (hb1.mono (by simp)));clear hb1 HB0;rw [HER.out];clear HER
 by_cases he:er=0
 · subst he
   by_cases h1:m=1
   · subst h1
     go_wp2_with fail
     go_ret;exact⟨rfl,HB1.out⟩
   · by_cases h2:m=2
     · subst h2
       go_wp2_with fail
       go_ret;exact⟨rfl,HB1.out⟩
     · by_cases h3:m=3
       · subst h3
         go_wp2_with fail
         go_ret;exact⟨rfl,HB1.out⟩
       · have HF:=hI (show Zcp 0 m=1 by simp [Zcp,Zcm,h1,h2,h3]);have hd1:(m != 1)=true:=(by simpa using h1);have hd2:(m != 2)=true:=(by simpa using h2);have hd3:(m != 3)=true:=(by simpa using h3);clear h1 h2 h3
         go_wp2_with fail
         go_ret;exact⟨by rw [HF.out];rfl,HB1.out⟩
 · have HF:=hI (show Zcp er m=er by simp [Zcp,he]);have hd1:(er != 0)=true:=(by simpa using he);clear he
   go_wp2_with fail
   go_ret;exact⟨by rw [HF.out];rfl,HB1.out⟩
theorem Zec (pc:List Int→Pred→Int) (A0:Option Addr) (c0':Nat) (s:Sch) (m:Int) (A:Option Addr) (ca:Nat) (st:St) (S:Nat→Prop) (w:World) (hs:TabS w S A0 s.tabs) (hst:StS w S A st) (hS:∀ b,S b→b<w.heap.size) (hpc:Zcu pc s) (hc:Zak st≤4611686018427387904) :
  Calls Try.prog 19 #[sAgg s.version A0 s.tabs.length c0',.int .i64 m,Zay A st.length ca] w (ZbV (Zbo (schF pc s) s m st) w):=by
 obtain⟨er,her⟩:∃ er,Zcp (schF pc s) m=er:=⟨_,rfl⟩;have HCF:=hI (show Zbo (schF pc s) s m st=if er≠0 then er else if 512<Zak st then 2 else if st.length≠s.tabs.length then 80 else if stOk s m 0 st then 0 else 80 by rw [←her];rfl);have HER:=hI her;clear her;have HS:=hI hs;have HST:=hI hst;have HPC:=hI hpc;have HC:=hI hc;have hsl:=hs.len;have hstl:=hst.len;clear hs hpc hst hc;have HB0:=hI (((Below.refl w.heap.size w).alloc nR (.cells #[.int .i64 s.version,.slice A0 s.tabs.length c0'] 25)).alloc (by simp) (.cells #[.slice A st.length ca] 56));go_enter Try.func19,Try.ntmps19
 go_wp2_with fail
 refine(Zhw pc A0 c0' s m S _ (HS.out.keep (Same.of_below HB0.out hS)) (fun b hb=>by have:=hS b hb;simp;omega) HPC.out).mono ?_;rintro e w1 ⟨rfl,hb1⟩;rw [HER.out];clear HER;have HB1:=hI (HB0.out.trans (hb1.mono (by simp;omega)));have x0:w1.cell? ⟨w.heap.size,0,none⟩=some (.int .i64 s.version):=c9K hb1 (by simp);have x1:w1.cell? ⟨w.heap.size,1,none⟩=some (.slice A0 s.tabs.length c0'):=c9K hb1 (by simp);have x2:w1.cell? ⟨w.heap.size+1,0,none⟩=some (.slice A st.length ca):=c9K hb1 (by simp);have hw1:w.heap.size+1<w1.heap.size:=(by have:=hb1.size;simp at this;omega);clear hb1 HB0
 by_cases he:er=0
 · subst he
   go_wp2_with fail
   refine(ZcC A ca st S _ (HST.out.keep (Same.of_below HB1.out hS)) (fun b hb=>by have:=hS b hb;omega) HC.out).mono ?_;rintro e w2 ⟨rfl,hb2⟩;have HB2:=hI (HB1.out.trans (hb2.mono (by omega)));have y0:w2.cell? ⟨w.heap.size,0,none⟩=some (.int .i64 s.version):=c9K hb2 x0;have y1:w2.cell? ⟨w.heap.size,1,none⟩=some (.slice A0 s.tabs.length c0'):=c9K hb2 x1;have y2:w2.cell? ⟨w.heap.size+1,0,none⟩=some (.slice A st.length ca):=c9K hb2 x2;have hw2:w.heap.size+1<w2.heap.size:=(by have:=hb2.size;omega);clear hb2 HB1 x0 x1 x2 hw1
   by_cases h512:512<Zak st
   · have HF:=hI (show Zbo (schF pc s) s m st=2 by rw [HCF.out,if_neg (by simp),if_pos h512]);have hd1:decide (512<(Zak st:Int))=true:=(by simp;omega);clear h512 HCF;generalize Zak st=cn at hd1
     go_wp2_with fail
     go_ret;exact⟨by rw [HF.out];rfl,HB2.out⟩
   · have hd1:decide (512<(Zak st:Int))=false:=(by simp;omega);have HCF2:=hI (show Zbo (schF pc s) s m st=if st.length≠s.tabs.length then 80 else if stOk s m 0 st then 0 else 80 by rw [HCF.out,if_neg (by simp),if_neg h512]);clear h512 HCF HC;generalize Zak st=cn at hd1
     by_cases hlen:st.length=s.tabs.length
     · have hd2:((st.length:Int) != s.tabs.length)=false:=(by simp [hlen]);have HCF3:=hI (show Zbo (schF pc s) s m st=if stOk s m 0 st then 0 else 80 by rw [HCF2.out,if_neg (by simpa using hlen)]);clear HCF2;have HLEN:=hI hlen;clear hlen
       go_wp2_with fail
       clear hd1 hd2
       go_loopw [31] (fun i wr=>∃ k:Nat,k≤st.length∧i=.int .i64 k∧stOk s m 0 st=stOk s m k (st.drop k)∧Below w.heap.size w wr∧wr.cell? ⟨w.heap.size,0,none⟩=some (.int .i64 s.version)∧wr.cell? ⟨w.heap.size,1,none⟩=some (.slice A0 s.tabs.length c0')∧w.heap.size+1<wr.heap.size) (fun i _=>st.length - (intOf i).toNat)
       case atStart=>exact⟨0,Nat.zero_le _,rfl,by simp,HB2.out,y0,y1,hw2⟩
       case round =>
        clear HB2 y0 y1 y2 hw2;obtain⟨k,hk,rfl,hch,hbel,x0,x1,hw1⟩:=hrel;have HT:=hI hch;have HB:=hI hbel;clear hch hbel
        by_cases hkl:k<st.length
        · obtain⟨b2,o2,rfl,hb2,A',c',d1,d2,d3⟩:=(HST.out.keep (Same.of_below HB.out hS)).at_ hkl;have hl2:b2<wr.heap.size:=(by have:=hS b2 hb2;omega);have HSTEP:=hI (stOk_drop s m st k hkl);have HRS:=hI d3;have hrl:=d3.len;have HD2:=hI d2;clear d2 d3;generalize st.getD k []=rows at d1 HSTEP HRS HD2 hrl
          go_wp2_with fail
          clear d1
          go_loopw [38] (fun i wq=>∃ j:Nat,j≤rows.length∧i=.int .i64 j∧Zbx s k m none rows=Zbx s k m (Zdf rows j) (rows.drop j)∧Below wr.heap.size wr wq) (fun i _=>rows.length - (intOf i).toNat)
          case atStart=>exact⟨0,Nat.zero_le _,rfl,by simp [Zdf],Below.refl _ _⟩
          case round =>
           obtain⟨j,hj,rfl,hch,hbq⟩:=hrel
           rename_i wa
           have HT2:=hI hch;have HBQ:=hI hbq;have hsq:=hbq.size;have HBW:=hI (HB.out.trans (hbq.mono (by omega)));have y0:wr.cell? ⟨w.heap.size,0,none⟩=some (.int .i64 s.version):=c9K hbq x0;have y1:wr.cell? ⟨w.heap.size,1,none⟩=some (.slice A0 s.tabs.length c0'):=c9K hbq x1;clear hch hbq
           by_cases hjl:j<rows.length
           · have HRQ:=hI (HRS.out.keep (w':=wr) (fun b hb=>HBQ.out.block b (by have:=hS b hb;omega)));obtain⟨b5,o5,rfl,hb5,A5,c5,f1,f2,f3⟩:=HRQ.out.at_ hjl;have hl5:b5<wr.heap.size:=(by have:=hS b5 hb5;omega);have HSTEP2:=hI (rowsOk_drop s k m rows j hjl);have HROW:=hI f3;have HC5:=hI f2;have hrw:=f3.len;clear f2 f3
             by_cases hj0:j=0
             · have hd3:decide ((0:Int)<(j:Int))=false:=(by simp;omega);have HSTEP3:=hI (show Zbx s k m none rows=(ZaT s k (rows.getD j []) m&&Zbx s k m (Zdf rows (j+1)) (rows.drop (j+1))) by rw [HT2.out,HSTEP2.out];subst hj0;simp [Zdf]);have HJ0:=hI (show ¬ 0<j by omega);clear HSTEP2 HT2 hj0 hd3;generalize rows.getD j []=row at f1 HSTEP3 HROW HC5 hrw
               go_wp2_with fail
               refine(Zdn A0 c0' s k m A5 c5 row S _ (HS.out.keep (Same.of_below HBW.out hS)) HROW.out (fun b hb=>by have:=hS b hb;omega)).mono ?_;rintro e w4 ⟨rfl,hb4⟩;have HB4:=hI (HBQ.out.trans (hb4.mono (by omega)));clear hb4
               by_cases hf:ZaT s k row m=true
               · rw [hf] at HSTEP3 ⊢;clear hf
                 go_wp2_with fail
                 have hd4:=HJ0.out
                 go_quiet (fail)
                 go_wp2_with fail
                 go_roundw
                 case rel=>exact⟨j+1,by omega,by go_num,by rw [HSTEP3.out];simp,Zaj HB4.out _⟩
                 case measure=>simp [intOf];omega
               · have hf':ZaT s k row m=false:=(by simpa using hf);rw [hf'] at HSTEP3 ⊢;clear hf hf';have HF:=hI (show Zbo (schF pc s) s m st=80 by rw [HCF3.out,HT.out,HSTEP.out,HSTEP3.out];simp)
                 go_wp2_with fail
                 go_ret;exact⟨by rw [HF.out];rfl,HB.out.trans (HB4.out.mono (by omega))⟩
             · obtain⟨i,rfl⟩:∃ i,j=i+1:=⟨j - 1,by omega⟩;obtain⟨b6,o6,e6,hb6,A6,c6,g1,g2,g3⟩:=HRQ.out.at_ (show i<rows.length by omega);injection e6 with e6;injection e6 with e61 e62;subst e61 e62;have HPREV:=hI g3;have HC6:=hI g2;have hrw6:=g3.len;have HSTEP3:=hI (show Zbx s k m none rows=(ZaT s k (rows.getD (i+1) []) m&&decide (cmpR (keyF s k (rows.getD i [])) (keyF s k (rows.getD (i+1) []))<0)&&Zbx s k m (Zdf rows (i+1+1)) (rows.drop (i+1+1))) by rw [HT2.out,HSTEP2.out];rfl);clear g2 g3 hj0 HSTEP2 HT2;generalize rows.getD (i+1) []=row at f1 HSTEP3 HROW HC5 hrw;generalize rows.getD i []=prev at g1 HSTEP3 HPREV HC6 hrw6;have hd3:decide ((0:Int)<((i+1:Nat):Int))=true:=by simp
               go_wp2_with fail
               refine(Zdn A0 c0' s k m A5 c5 row S _ (HS.out.keep (Same.of_below HBW.out hS)) HROW.out (fun b hb=>by have:=hS b hb;omega)).mono ?_;rintro e w4 ⟨rfl,hb4⟩;have HB4:=hI (HBQ.out.trans (hb4.mono (by omega)));have HX4:=hI hb4;have HBW4:=hI (HBW.out.trans (hb4.mono (by omega)));have z0:w4.cell? ⟨w.heap.size,0,none⟩=some (.int .i64 s.version):=c9K hb4 y0;have z1:w4.cell? ⟨w.heap.size,1,none⟩=some (.slice A0 s.tabs.length c0'):=c9K hb4 y1;have z2:w4.cell? ⟨b5,o5+i,none⟩=some (.slice A6 prev.length c6):=c9Q hb4 hl5 g1;have hs4:wr.heap.size≤w4.heap.size:=hb4.size;have hl6:b5<w4.heap.size:=(by omega);clear hb4 f1 g1 y0 y1
               by_cases hf:ZaT s k row m=true
               · rw [hf] at HSTEP3 ⊢;clear hf
                 go_wp2_with fail
                 have q1:IntKind.i64.wrap ((i:Int)+1 - 1)=i:=(by rw [show ((i:Int)+1 - 1)=i by omega];exact IntWalk.i64_in _ (by omega));have q5:IntKind.i64.wrap (i:Int)=i:=IntWalk.i64_in _ (by omega);have q2:(0:Int)≤i:=(by omega);have q3:(i:Int)<rows.length:=(by omega);have q4:(i:Int)≤rows.length:=(by omega);have hS4:∀ b,S b→b<w4.heap.size:=(fun b hb=>by have:=hS b hb;omega);have HS4:=hI (HS.out.keep (Same.of_below HBW4.out hS));have HROW4:=hI (HROW.out.keep (w':=w4) (Same.of_below HX4.out (fun b hb=>by have:=hS b hb;omega)));have HPREV4:=hI (HPREV.out.keep (w':=w4) (Same.of_below HX4.out (fun b hb=>by have:=hS b hb;omega)))
                 go_region_held3 (fun w'=>Below w4.heap.size w4 w'∧w'.cell? ⟨w.heap.size,0,none⟩=some (.int .i64 s.version)∧w'.cell? ⟨w.heap.size,1,none⟩=some (.slice A0 s.tabs.length c0')∧w'.cell? ⟨b5,o5+i,none⟩=some (.slice A6 prev.length c6))
                  (first | exact⟨(Below.refl _ _).drew,z0,z1,z2⟩ | exact⟨hv3,c9K hv3 z0,c9K hv3 z1,c9Q hv3 hl6 z2⟩ | exact⟨hv2,c9K hv2 z0,c9K hv2 z1,c9Q hv2 hl6 z2⟩ | exact⟨hv1,c9K hv1 z0,c9K hv1 z1,c9Q hv1 hl6 z2⟩)
                  (first
                   | (go_at_call 61;have hvx:=hv1;clear hvx;refine(Zba A0 c0' s k A5 c5 row S _ (HS4.out.keep (Same.of_below hv1 hS4)) (HROW4.out.keep (Same.of_below hv1 hS4)) HC5.out (fun b hb=>Nat.lt_of_lt_of_le (hS4 b hb) hv1.size)).mono ?_;rintro e w6 ⟨A8,c8,rfl,h8,hv2'⟩;have hv2:Below w4.heap.size w4 w6:=hv1.trans (hv2'.mono hv1.size))
                   | (go_at_call 61;refine(Zba A0 c0' s k A6 c6 prev S w4.drew (HS4.out.keep (fun _ _=>rfl)) (HPREV4.out.keep (fun _ _=>rfl)) HC6.out hS4).mono ?_;rintro e w5 ⟨A7,c7,rfl,h7,hv1'⟩;have hv1:Below w4.heap.size w4 w5:=(Below.refl _ w4).drew.trans hv1')
                   | (go_at_call 60;refine(Zbc A7 A8 c7 c8 (keyF s k prev) (keyF s k row) S _ ((HPREV4.out.keep (Same.of_below hv2 hS4)).key s k h7) ((HROW4.out.keep (Same.of_below hv2 hS4)).key s k h8) (fun b hb=>Nat.lt_of_lt_of_le (hS4 b hb) hv2.size)).mono ?_;rintro e w7 ⟨rfl,hv3'⟩;have hv3:Below w4.heap.size w4 w7:=hv2.trans (hv3'.mono hv2.size)))
                 have HB7:=hI (HB4.out.trans (hv3.mono (by omega)));clear hv1 hv2 hv3 hv1' hv2' hv3' h7 h8 z0 z1 z2 q1 q5
                 by_cases hcmp:cmpR (keyF s k prev) (keyF s k row)<0
                 · have hd6:decide (0≤cmpR (keyF s k prev) (keyF s k row))=false:=(by simpa using hcmp);have HOK:=hI (show Zbx s k m none rows=Zbx s k m (Zdf rows (i+1+1)) (rows.drop (i+1+1)) by rw [HSTEP3.out];simp [hcmp]);clear hcmp HSTEP3;generalize cmpR (keyF s k prev) (keyF s k row)=cv at hd6 ⊢;rw [hd6]
                   go_wp2_with fail
                   go_roundw
                   case rel=>exact⟨i+1+1,by omega,by go_num,HOK.out,HB7.out⟩
                   case measure=>simp [intOf];omega
                 · have hd6:decide (0≤cmpR (keyF s k prev) (keyF s k row))=true:=(by simpa using hcmp);have HOK:=hI (show Zbx s k m none rows=false by rw [HSTEP3.out];simp [hcmp]);clear hcmp HSTEP3;generalize cmpR (keyF s k prev) (keyF s k row)=cv at hd6 ⊢;rw [hd6];have HF:=hI (show Zbo (schF pc s) s m st=80 by rw [HCF3.out,HT.out,HSTEP.out,HOK.out];simp)
                   go_wp2_with fail
                   go_ret;exact⟨by rw [HF.out];rfl,HB.out.trans (HB7.out.mono (by omega))⟩
               · have hf':ZaT s k row m=false:=(by simpa using hf);rw [hf'] at HSTEP3 ⊢;clear hf hf';have HF:=hI (show Zbo (schF pc s) s m st=80 by rw [HCF3.out,HT.out,HSTEP.out,HSTEP3.out];simp)
                 go_wp2_with fail
                 go_ret;exact⟨by rw [HF.out];rfl,HB.out.trans (HB4.out.mono (by omega))⟩
           · have HE:=hI (show Zbx s k m none rows=true by rw [HT2.out,show j=rows.length by omega,List.drop_length];cases rows.length<;>rfl)
             go_wp2_with fail
             go_roundw
             case rel=>exact⟨k+1,by omega,by go_num,by rw [HT.out,HSTEP.out,HE.out];simp,HBW.out,y0,y1,by omega⟩
             case measure=>simp [intOf];omega
        · have HE:=hI (show Zbo (schF pc s) s m st=0 by rw [HCF3.out,HT.out,show k=st.length by omega,List.drop_length];rfl)
          go_wp2_with fail
          go_ret;exact⟨by rw [HE.out];rfl,HB.out⟩
     · have hd2:((st.length:Int) != s.tabs.length)=true:=(by simp;omega);have HF:=hI (show Zbo (schF pc s) s m st=80 by rw [HCF2.out,if_pos hlen]);clear HCF2 hlen
       go_wp2_with fail
       go_ret;exact⟨by rw [HF.out];rfl,HB2.out⟩
 · have hd:(er != 0)=true:=(by simpa using he);have HF:=hI (show Zbo (schF pc s) s m st=er by rw [HCF.out,if_pos he]);clear he HCF
   go_wp2_with fail
   go_ret;exact⟨by rw [HF.out];rfl,HB1.out⟩
end Go.Proofs.Ytkpjjfhfbpfjpaa
