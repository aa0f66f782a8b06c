import Derived.Test.YtkpjjfhfbpfjpaaKefeab0
import Derived.Maps.Own
import Derived.Maps.Views
import Derived.Lib.OthersKept
import Derived.Lib.DecodeN
import Derived.Laws.RangeString
import Derived.Laws.RangeAny
set_option linter.unusedVariables false
set_option linter.unusedSimpArgs false
set_option maxRecDepth 100000
set_option maxHeartbeats 8000000
namespace Go.Proofs.Ytkpjjfhfbpfjpaa
open Go.RowKit
def Zcm (m:Int):Bool:=decide (m=1)||decide (m=2)||decide (m=3)
def Zaz (m key kind:Int) (i:Nat) (v:V):Bool :=
 Zan v&&(decide (v.k=kind)||(decide (v.k=2)&&decide (m≠1)&&decide (key≤i))||(decide (v.k=1)&&decide (m=3)&&decide (key≤i)))
def ZaX (m key:Int):Nat→List Col→Row→Bool
 | i,c :: cs,v :: r=>Zaz m key c.kind i v&&ZaX m key (i+1) cs r
 | _,_,_=>true
def ZaT (s:Sch) (t:Int) (r:Row) (m:Int):Bool :=
 Zcm m&&hasN s.tabs.length t&&decide (r.length=(s.tabs.getD t.toNat t0).cols.length)&&ZaX m (s.tabs.getD t.toNat t0).key 0 (s.tabs.getD t.toNat t0).cols r
theorem ZcM {m key:Int}:∀ (k i:Nat) (cs:List Col) (r:Row),k<r.length→r.length=cs.length→ZaX m key i (cs.drop k) (r.drop k)=(Zaz m key (cs.getD k c0).kind i (r.getD k v0)&&ZaX m key (i+1) (cs.drop (k+1)) (r.drop (k+1))):=by
 intro k i cs r h1 h2;rw [List.drop_eq_getElem_cons h1,List.drop_eq_getElem_cons (show k<cs.length by omega)];have e1:r.getD k v0=r[k]:=(by simp [List.getD,h1]);have e2:cs.getD k c0=cs[k]:=(by simp [List.getD,show k<cs.length by omega]);rw [e1,e2];rfl
theorem Zdn (A0:Option Addr) (c0':Nat) (s:Sch) (t m:Int) (A:Option Addr) (ca:Nat) (r:Row) (S:Nat→Prop) (w:World) (hs:TabS w S A0 s.tabs) (hr:RowS w S A r) (hS:∀ b,S b→b<w.heap.size) :
  Calls Try.prog 59 #[sAgg s.version A0 s.tabs.length c0',.int .i64 t,.slice A r.length ca,.int .i64 m] w (ZaS (ZaT s t r m) w):=by
 have hsl:=hs.len;have hrl:=hr.len;have HOK:=hI hr.ok;have HS:=hI hs;have HR:=hI hr;clear hs hr;have HB0:=hI ((Below.refl w.heap.size w).alloc nR (.cells #[.int .i64 s.version,.slice A0 s.tabs.length c0'] 25))
 by_cases hm:Zcm m=true
 · have hm':m=1∨m=2∨m=3:=by simpa [Zcm,or_assoc] using hm
   by_cases hh:hasN s.tabs.length t=true
   · have hh0:0≤t∧t<s.tabs.length:=(by simpa [hasN] using hh);have HF:=hI (show ZaT s t r m=(decide (r.length=(s.tabs.getD t.toNat t0).cols.length)&&ZaX m (s.tabs.getD t.toNat t0).key 0 (s.tabs.getD t.toNat t0).cols r) by unfold ZaT;rw [hm,hh];simp);have HH:=hI hh;clear hh hm;obtain⟨tt,rfl⟩:=Int.eq_ofNat_of_zero_le hh0.1;rw [Int.toNat_natCast] at HF;have htl:tt<s.tabs.length:=(by omega);rcases hm' with rfl | rfl | rfl
     · go_enter Try.func59,Try.ntmps59
       go_wp2_with fail
       refine(Zdx _ tt A0 s.tabs.length c0' _ hsl).mono ?_;rintro e w1 ⟨rfl,hb1⟩;rw [HH.out];have HB1:=hI (HB0.out.trans (hb1.mono (by simp)));have cb:w1.cell? ⟨w.heap.size,1,none⟩=some (.slice A0 s.tabs.length c0'):=c9Q hb1 (by simp) (by simp [cell_of_row _ _ _ _ _ _ (heap_alloc_new w _)]);have hz1:w.heap.size<w1.heap.size:=(by have:=hb1.size;simp at this;omega);clear hb1;obtain⟨b2,o2,rfl,hb2,A1,A2,A3,c1,c2,c3,hta⟩:=(HS.out.keep (Same.of_below HB1.out hS)).at_ htl;obtain⟨k1,k2,k3,k4,k5,cS,rS,pS,-,-,-,-⟩:=hta;have HCS:=hI cS;have hcl:=cS.len;have hl2:b2<w1.heap.size:=(by have:=hS b2 hb2;omega);clear cS rS pS;generalize s.tabs.getD tt t0=tb at k1 k2 k3 k4 k5 HCS hcl HF;obtain⟨tn,tc,tk,tr,tp⟩:=tb;simp only at k1 k2 k3 k4 k5 HCS hcl HF
       by_cases hrc:r.length=tc.length
       · have hd:((r.length:Int) != tc.length)=false:=(by simp;omega);have HRC:=hI (show decide (r.length=tc.length)=true by simp [hrc])
         go_wp2_with fail
         go_loopw [43] (fun i wr=>∃ k:Nat,k≤r.length∧i=.int .i64 k∧ZaX 1 tk 0 tc r=ZaX 1 tk k (tc.drop k) (r.drop k)∧Below w1.heap.size w1 wr∧wr.cell? ⟨w1.heap.size,1,none⟩=some (.slice A1 tc.length c1)∧wr.cell? ⟨w1.heap.size,2,none⟩=some (.int .i64 tk)∧w1.heap.size<wr.heap.size) (fun i _=>r.length - (intOf i).toNat)
         case atStart=>exact⟨0,Nat.zero_le _,rfl,by simp,(Below.refl _ _).alloc nR _,by simp [cell_of_row _ _ _ _ _ _ (heap_alloc_new w1 _)],by simp [cell_of_row _ _ _ _ _ _ (heap_alloc_new w1 _)],by simp⟩
         case round =>
          obtain⟨k,hk,rfl,hft,hbel,t1,t2,hw1⟩:=hrel;have HT:=hI hft;have HBEL:=hI hbel;clear hft hbel k1 k2 k3 k4 k5 cb;have HBW:=hI (HB1.out.trans (HBEL.out.mono (by omega)))
          by_cases hkl:k<r.length
          · obtain⟨b3,o3,rfl,hb3,d1,d2,d3⟩:=(HR.out.keep (Same.of_below HBW.out hS)).at_ hkl;obtain⟨b4,o4,rfl,hb4,f1,f2⟩:=(HCS.out.keep (fun b hb=>(HBEL.out.block b (by have:=hS b hb;omega)))).at_ (show k<tc.length by omega);have hl3:b3<wr.heap.size:=(by have:=hS b3 hb3;omega);have hl4:b4<wr.heap.size:=(by have:=hS b4 hb4;omega);have hkt:(k:Int)<tc.length:=(by omega);have HSTEP:=hI (ZcM (m:=1) (key:=tk) k k tc r hkl hrc);have HV:=hI (HOK.out.at_ k);generalize r.getD k v0=v at d1 d2 d3 HSTEP HV;generalize tc.getD k c0=cl at f1 f2 HSTEP;obtain⟨vk,vi,vt⟩:=v;obtain⟨cn,ck⟩:=cl;simp only at d1 d2 d3 HSTEP HV f1 f2
            go_wp2_with fail
            refine(ZdD ⟨vk,vi,vt⟩ _ HV.out).mono ?_;rintro e w2 ⟨rfl,hb2'⟩;have hz2:wr.heap.size<w2.heap.size:=(by have:=hb2'.size;simp at this;omega);have HB3:=hI ((HBEL.out.alloc (by omega) _).trans (hb2'.mono (by simp;omega)));have g1:w2.cell? ⟨wr.heap.size,0,none⟩=some (.int .i64 vk):=c9Q hb2' (by simp) (by simp [cell_of_row _ _ _ _ _ _ (heap_alloc_new wr _)])
            replace t1:w2.cell? ⟨w1.heap.size,1,none⟩=some (.slice (some ⟨b4,o4,none⟩) tc.length c1):=(hb2'.cell (p:=⟨w1.heap.size,1,none⟩) (by simp;omega)).trans ((World.cell?_of_block (Below.heap_alloc _ _ _ hw1)).trans t1)
            replace t2:w2.cell? ⟨w1.heap.size,2,none⟩=some (.int .i64 tk):=(hb2'.cell (p:=⟨w1.heap.size,2,none⟩) (by simp;omega)).trans ((World.cell?_of_block (Below.heap_alloc _ _ _ hw1)).trans t2)
            replace f2:w2.cell? ⟨b4,o4+k*2+1,none⟩=some (.int .i64 ck):=(hb2'.cell (p:=⟨b4,o4+k*2+1,none⟩) (by simp;omega)).trans ((World.cell?_of_block (Below.heap_alloc _ _ _ hl4)).trans f2)
            clear hb2' d1 d2 d3 f1
            by_cases hval:Zan ⟨vk,vi,vt⟩=true
            · have HVT:=hI hval;rw [hval];clear hval
              by_cases hkc:vk=ck
              · subst hkc
                by_cases h2:vk=2
                · subst h2;have ek:((2:Int) != 2)=false:=(by simp);have HVV:=hI (show Zaz 1 tk 2 k ⟨2,vi,vt⟩=true by simp only [Zaz,HVT.out];simp)
                  go_wp2_with fail
                  go_quiet (fail)
                  go_wp2_with fail
                  go_roundw
                  case rel=>exact⟨k+1,by omega,by go_num,by rw [HT.out,HSTEP.out,HVV.out];rfl,Zaj HB3.out _,t1,t2,by show w1.heap.size<w2.heap.size;omega⟩
                  case measure=>simp [intOf];omega
                · have e2:(vk == 2)=false:=beq_eq_false_iff_ne.2 h2
                  by_cases h1:vk=1
                  · subst h1;have ek:((1:Int) != 1)=false:=(by simp);have HVV:=hI (show Zaz 1 tk 1 k ⟨1,vi,vt⟩=true by simp only [Zaz,HVT.out];simp)
                    go_wp2_with fail
                    go_quiet (fail)
                    go_wp2_with fail
                    go_roundw
                    case rel=>exact⟨k+1,by omega,by go_num,by rw [HT.out,HSTEP.out,HVV.out];rfl,Zaj HB3.out _,t1,t2,by show w1.heap.size<w2.heap.size;omega⟩
                    case measure=>simp [intOf];omega
                  · have e1:(vk == 1)=false:=beq_eq_false_iff_ne.2 h1;have ek:(vk != vk)=false:=(by simp);have HVV:=hI (show Zaz 1 tk vk k ⟨vk,vi,vt⟩=true by simp only [Zaz,HVT.out];simp)
                    go_wp2_with fail
                    go_quiet (fail)
                    go_wp2_with fail
                    go_roundw
                    case rel=>exact⟨k+1,by omega,by go_num,by rw [HT.out,HSTEP.out,HVV.out];rfl,Zaj HB3.out _,t1,t2,by show w1.heap.size<w2.heap.size;omega⟩
                    case measure=>simp [intOf];omega
              · by_cases h2:vk=2
                · subst h2;have ek:((2:Int) != ck)=true:=(by simp [hkc]);have HVV:=hI (show Zaz 1 tk ck k ⟨2,vi,vt⟩=false by simp only [Zaz,HVT.out];simp [hkc])
                  go_wp2_with fail
                  go_quiet (fail)
                  go_wp2_with fail
                  go_ret;exact⟨by rw [HF.out,HRC.out,HT.out,HSTEP.out,HVV.out];rfl,HB1.out.trans ((Zaj HB3.out _).mono (show w.heap.size≤w1.heap.size by omega))⟩
                · have e2:(vk == 2)=false:=beq_eq_false_iff_ne.2 h2
                  by_cases h1:vk=1
                  · subst h1;have ek:((1:Int) != ck)=true:=(by simp [hkc]);have HVV:=hI (show Zaz 1 tk ck k ⟨1,vi,vt⟩=false by simp only [Zaz,HVT.out];simp [hkc])
                    go_wp2_with fail
                    go_quiet (fail)
                    go_wp2_with fail
                    go_ret;exact⟨by rw [HF.out,HRC.out,HT.out,HSTEP.out,HVV.out];rfl,HB1.out.trans ((Zaj HB3.out _).mono (show w.heap.size≤w1.heap.size by omega))⟩
                  · have e1:(vk == 1)=false:=beq_eq_false_iff_ne.2 h1;have ek:(vk != ck)=true:=(by simp [hkc]);have HVV:=hI (show Zaz 1 tk ck k ⟨vk,vi,vt⟩=false by simp only [Zaz,HVT.out];simp [hkc,h1,h2])
                    go_wp2_with fail
                    go_quiet (fail)
                    go_wp2_with fail
                    go_ret;exact⟨by rw [HF.out,HRC.out,HT.out,HSTEP.out,HVV.out];rfl,HB1.out.trans ((Zaj HB3.out _).mono (show w.heap.size≤w1.heap.size by omega))⟩
            · have hvf:Zan ⟨vk,vi,vt⟩=false:=(by simpa using hval);have HVV:=hI (show Zaz 1 tk ck k ⟨vk,vi,vt⟩=false by simp [Zaz,hvf]);rw [hvf];clear hval hvf
              go_wp2_with fail
              go_ret;exact⟨by rw [HF.out,HRC.out,HT.out,HSTEP.out,HVV.out];rfl,HB1.out.trans (HB3.out.mono (by omega))⟩
          · have HKE:=hI (show k=r.length by omega)
            go_wp2_with fail
            go_ret;exact⟨by rw [HF.out,HRC.out,HT.out,HKE.out,List.drop_length];rw [show ∀ l,ZaX 1 tk r.length l []=true from fun l=>by cases l<;>rfl];rfl,HBW.out⟩
       · have hd:((r.length:Int) != tc.length)=true:=(by simp;omega);have HRC:=hI (show decide (r.length=tc.length)=false by simp [hrc])
         go_wp2_with fail
         go_ret;exact⟨by rw [HF.out,HRC.out];rfl,HB1.out.alloc (by omega) _⟩
     · go_enter Try.func59,Try.ntmps59
       go_wp2_with fail
       refine(Zdx _ tt A0 s.tabs.length c0' _ hsl).mono ?_;rintro e w1 ⟨rfl,hb1⟩;rw [HH.out];have HB1:=hI (HB0.out.trans (hb1.mono (by simp)));have cb:w1.cell? ⟨w.heap.size,1,none⟩=some (.slice A0 s.tabs.length c0'):=c9Q hb1 (by simp) (by simp [cell_of_row _ _ _ _ _ _ (heap_alloc_new w _)]);have hz1:w.heap.size<w1.heap.size:=(by have:=hb1.size;simp at this;omega);clear hb1;obtain⟨b2,o2,rfl,hb2,A1,A2,A3,c1,c2,c3,hta⟩:=(HS.out.keep (Same.of_below HB1.out hS)).at_ htl;obtain⟨k1,k2,k3,k4,k5,cS,rS,pS,-,-,-,-⟩:=hta;have HCS:=hI cS;have hcl:=cS.len;have hl2:b2<w1.heap.size:=(by have:=hS b2 hb2;omega);clear cS rS pS;generalize s.tabs.getD tt t0=tb at k1 k2 k3 k4 k5 HCS hcl HF;obtain⟨tn,tc,tk,tr,tp⟩:=tb;simp only at k1 k2 k3 k4 k5 HCS hcl HF
       by_cases hrc:r.length=tc.length
       · have hd:((r.length:Int) != tc.length)=false:=(by simp;omega);have HRC:=hI (show decide (r.length=tc.length)=true by simp [hrc])
         go_wp2_with fail
         go_loopw [43] (fun i wr=>∃ k:Nat,k≤r.length∧i=.int .i64 k∧ZaX 2 tk 0 tc r=ZaX 2 tk k (tc.drop k) (r.drop k)∧Below w1.heap.size w1 wr∧wr.cell? ⟨w1.heap.size,1,none⟩=some (.slice A1 tc.length c1)∧wr.cell? ⟨w1.heap.size,2,none⟩=some (.int .i64 tk)∧w1.heap.size<wr.heap.size) (fun i _=>r.length - (intOf i).toNat)
         case atStart=>exact⟨0,Nat.zero_le _,rfl,by simp,(Below.refl _ _).alloc nR _,by simp [cell_of_row _ _ _ _ _ _ (heap_alloc_new w1 _)],by simp [cell_of_row _ _ _ _ _ _ (heap_alloc_new w1 _)],by simp⟩
         case round =>
          obtain⟨k,hk,rfl,hft,hbel,t1,t2,hw1⟩:=hrel;have HT:=hI hft;have HBEL:=hI hbel;clear hft hbel k1 k2 k3 k4 k5 cb;have HBW:=hI (HB1.out.trans (HBEL.out.mono (by omega)))
          by_cases hkl:k<r.length
          · obtain⟨b3,o3,rfl,hb3,d1,d2,d3⟩:=(HR.out.keep (Same.of_below HBW.out hS)).at_ hkl;obtain⟨b4,o4,rfl,hb4,f1,f2⟩:=(HCS.out.keep (fun b hb=>(HBEL.out.block b (by have:=hS b hb;omega)))).at_ (show k<tc.length by omega);have hl3:b3<wr.heap.size:=(by have:=hS b3 hb3;omega);have hl4:b4<wr.heap.size:=(by have:=hS b4 hb4;omega);have hkt:(k:Int)<tc.length:=(by omega);have HSTEP:=hI (ZcM (m:=2) (key:=tk) k k tc r hkl hrc);have HV:=hI (HOK.out.at_ k);generalize r.getD k v0=v at d1 d2 d3 HSTEP HV;generalize tc.getD k c0=cl at f1 f2 HSTEP;obtain⟨vk,vi,vt⟩:=v;obtain⟨cn,ck⟩:=cl;simp only at d1 d2 d3 HSTEP HV f1 f2
            go_wp2_with fail
            refine(ZdD ⟨vk,vi,vt⟩ _ HV.out).mono ?_;rintro e w2 ⟨rfl,hb2'⟩;have hz2:wr.heap.size<w2.heap.size:=(by have:=hb2'.size;simp at this;omega);have HB3:=hI ((HBEL.out.alloc (by omega) _).trans (hb2'.mono (by simp;omega)));have g1:w2.cell? ⟨wr.heap.size,0,none⟩=some (.int .i64 vk):=c9Q hb2' (by simp) (by simp [cell_of_row _ _ _ _ _ _ (heap_alloc_new wr _)])
            replace t1:w2.cell? ⟨w1.heap.size,1,none⟩=some (.slice (some ⟨b4,o4,none⟩) tc.length c1):=(hb2'.cell (p:=⟨w1.heap.size,1,none⟩) (by simp;omega)).trans ((World.cell?_of_block (Below.heap_alloc _ _ _ hw1)).trans t1)
            replace t2:w2.cell? ⟨w1.heap.size,2,none⟩=some (.int .i64 tk):=(hb2'.cell (p:=⟨w1.heap.size,2,none⟩) (by simp;omega)).trans ((World.cell?_of_block (Below.heap_alloc _ _ _ hw1)).trans t2)
            replace f2:w2.cell? ⟨b4,o4+k*2+1,none⟩=some (.int .i64 ck):=(hb2'.cell (p:=⟨b4,o4+k*2+1,none⟩) (by simp;omega)).trans ((World.cell?_of_block (Below.heap_alloc _ _ _ hl4)).trans f2)
            clear hb2' d1 d2 d3 f1
            by_cases hval:Zan ⟨vk,vi,vt⟩=true
            · have HVT:=hI hval;rw [hval];clear hval
              by_cases hkc:vk=ck
              · subst hkc
                by_cases h2:vk=2
                · subst h2;have ek:((2:Int) != 2)=false:=(by simp);have HVV:=hI (show Zaz 2 tk 2 k ⟨2,vi,vt⟩=true by simp only [Zaz,HVT.out];simp)
                  go_wp2_with fail
                  go_quiet (fail)
                  go_wp2_with fail
                  go_roundw
                  case rel=>exact⟨k+1,by omega,by go_num,by rw [HT.out,HSTEP.out,HVV.out];rfl,Zaj HB3.out _,t1,t2,by show w1.heap.size<w2.heap.size;omega⟩
                  case measure=>simp [intOf];omega
                · have e2:(vk == 2)=false:=beq_eq_false_iff_ne.2 h2
                  by_cases h1:vk=1
                  · subst h1;have ek:((1:Int) != 1)=false:=(by simp);have HVV:=hI (show Zaz 2 tk 1 k ⟨1,vi,vt⟩=true by simp only [Zaz,HVT.out];simp)
                    go_wp2_with fail
                    go_quiet (fail)
                    go_wp2_with fail
                    go_roundw
                    case rel=>exact⟨k+1,by omega,by go_num,by rw [HT.out,HSTEP.out,HVV.out];rfl,Zaj HB3.out _,t1,t2,by show w1.heap.size<w2.heap.size;omega⟩
                    case measure=>simp [intOf];omega
                  · have e1:(vk == 1)=false:=beq_eq_false_iff_ne.2 h1;have ek:(vk != vk)=false:=(by simp);have HVV:=hI (show Zaz 2 tk vk k ⟨vk,vi,vt⟩=true by simp only [Zaz,HVT.out];simp)
                    go_wp2_with fail
                    go_quiet (fail)
                    go_wp2_with fail
                    go_roundw
                    case rel=>exact⟨k+1,by omega,by go_num,by rw [HT.out,HSTEP.out,HVV.out];rfl,Zaj HB3.out _,t1,t2,by show w1.heap.size<w2.heap.size;omega⟩
                    case measure=>simp [intOf];omega
              · by_cases h2:vk=2
                · subst h2
                  by_cases hki:tk≤(k:Int)
                  · have ei:decide (tk≤(k:Int))=true:=(by simp [hki]);have ek:((2:Int) != ck)=true:=(by simp [hkc]);have HVV:=hI (show Zaz 2 tk ck k ⟨2,vi,vt⟩=true by simp only [Zaz,HVT.out];simp [hki])
                    go_wp2_with fail
                    go_quiet (fail)
                    go_wp2_with fail
                    go_roundw
                    case rel=>exact⟨k+1,by omega,by go_num,by rw [HT.out,HSTEP.out,HVV.out];rfl,Zaj HB3.out _,t1,t2,by show w1.heap.size<w2.heap.size;omega⟩
                    case measure=>simp [intOf];omega
                  · have ei:decide (tk≤(k:Int))=false:=(by simpa using hki);have ek:((2:Int) != ck)=true:=(by simp [hkc]);have HVV:=hI (show Zaz 2 tk ck k ⟨2,vi,vt⟩=false by simp only [Zaz,HVT.out];simp [hkc,hki])
                    go_wp2_with fail
                    go_quiet (fail)
                    go_wp2_with fail
                    go_ret;exact⟨by rw [HF.out,HRC.out,HT.out,HSTEP.out,HVV.out];rfl,HB1.out.trans ((Zaj HB3.out _).mono (show w.heap.size≤w1.heap.size by omega))⟩
                · have e2:(vk == 2)=false:=beq_eq_false_iff_ne.2 h2
                  by_cases h1:vk=1
                  · subst h1;have ek:((1:Int) != ck)=true:=(by simp [hkc]);have HVV:=hI (show Zaz 2 tk ck k ⟨1,vi,vt⟩=false by simp only [Zaz,HVT.out];simp [hkc])
                    go_wp2_with fail
                    go_quiet (fail)
                    go_wp2_with fail
                    go_ret;exact⟨by rw [HF.out,HRC.out,HT.out,HSTEP.out,HVV.out];rfl,HB1.out.trans ((Zaj HB3.out _).mono (show w.heap.size≤w1.heap.size by omega))⟩
                  · have e1:(vk == 1)=false:=beq_eq_false_iff_ne.2 h1;have ek:(vk != ck)=true:=(by simp [hkc]);have HVV:=hI (show Zaz 2 tk ck k ⟨vk,vi,vt⟩=false by simp only [Zaz,HVT.out];simp [hkc,h1,h2])
                    go_wp2_with fail
                    go_quiet (fail)
                    go_wp2_with fail
                    go_ret;exact⟨by rw [HF.out,HRC.out,HT.out,HSTEP.out,HVV.out];rfl,HB1.out.trans ((Zaj HB3.out _).mono (show w.heap.size≤w1.heap.size by omega))⟩
            · have hvf:Zan ⟨vk,vi,vt⟩=false:=(by simpa using hval);have HVV:=hI (show Zaz 2 tk ck k ⟨vk,vi,vt⟩=false by simp [Zaz,hvf]);rw [hvf];clear hval hvf
              go_wp2_with fail
              go_ret;exact⟨by rw [HF.out,HRC.out,HT.out,HSTEP.out,HVV.out];rfl,HB1.out.trans (HB3.out.mono (by omega))⟩
          · have HKE:=hI (show k=r.length by omega)
            go_wp2_with fail
            go_ret;exact⟨by rw [HF.out,HRC.out,HT.out,HKE.out,List.drop_length];rw [show ∀ l,ZaX 2 tk r.length l []=true from fun l=>by cases l<;>rfl];rfl,HBW.out⟩
       · have hd:((r.length:Int) != tc.length)=true:=(by simp;omega);have HRC:=hI (show decide (r.length=tc.length)=false by simp [hrc])
         go_wp2_with fail
         go_ret;exact⟨by rw [HF.out,HRC.out];rfl,HB1.out.alloc (by omega) _⟩
     · go_enter Try.func59,Try.ntmps59
       go_wp2_with fail
       refine(Zdx _ tt A0 s.tabs.length c0' _ hsl).mono ?_;rintro e w1 ⟨rfl,hb1⟩;rw [HH.out];have HB1:=hI (HB0.out.trans (hb1.mono (by simp)));have cb:w1.cell? ⟨w.heap.size,1,none⟩=some (.slice A0 s.tabs.length c0'):=c9Q hb1 (by simp) (by simp [cell_of_row _ _ _ _ _ _ (heap_alloc_new w _)]);have hz1:w.heap.size<w1.heap.size:=(by have:=hb1.size;simp at this;omega);clear hb1;obtain⟨b2,o2,rfl,hb2,A1,A2,A3,c1,c2,c3,hta⟩:=(HS.out.keep (Same.of_below HB1.out hS)).at_ htl;obtain⟨k1,k2,k3,k4,k5,cS,rS,pS,-,-,-,-⟩:=hta;have HCS:=hI cS;have hcl:=cS.len;have hl2:b2<w1.heap.size:=(by have:=hS b2 hb2;omega);clear cS rS pS;generalize s.tabs.getD tt t0=tb at k1 k2 k3 k4 k5 HCS hcl HF;obtain⟨tn,tc,tk,tr,tp⟩:=tb;simp only at k1 k2 k3 k4 k5 HCS hcl HF
       by_cases hrc:r.length=tc.length
       · have hd:((r.length:Int) != tc.length)=false:=(by simp;omega);have HRC:=hI (show decide (r.length=tc.length)=true by simp [hrc])
         go_wp2_with fail
         go_loopw [43] (fun i wr=>∃ k:Nat,k≤r.length∧i=.int .i64 k∧ZaX 3 tk 0 tc r=ZaX 3 tk k (tc.drop k) (r.drop k)∧Below w1.heap.size w1 wr∧wr.cell? ⟨w1.heap.size,1,none⟩=some (.slice A1 tc.length c1)∧wr.cell? ⟨w1.heap.size,2,none⟩=some (.int .i64 tk)∧w1.heap.size<wr.heap.size) (fun i _=>r.length - (intOf i).toNat)
         case atStart=>exact⟨0,Nat.zero_le _,rfl,by simp,(Below.refl _ _).alloc nR _,by simp [cell_of_row _ _ _ _ _ _ (heap_alloc_new w1 _)],by simp [cell_of_row _ _ _ _ _ _ (heap_alloc_new w1 _)],by simp⟩
         case round =>
          obtain⟨k,hk,rfl,hft,hbel,t1,t2,hw1⟩:=hrel;have HT:=hI hft;have HBEL:=hI hbel;clear hft hbel k1 k2 k3 k4 k5 cb;have HBW:=hI (HB1.out.trans (HBEL.out.mono (by omega)))
          by_cases hkl:k<r.length
          · obtain⟨b3,o3,rfl,hb3,d1,d2,d3⟩:=(HR.out.keep (Same.of_below HBW.out hS)).at_ hkl;obtain⟨b4,o4,rfl,hb4,f1,f2⟩:=(HCS.out.keep (fun b hb=>(HBEL.out.block b (by have:=hS b hb;omega)))).at_ (show k<tc.length by omega);have hl3:b3<wr.heap.size:=(by have:=hS b3 hb3;omega);have hl4:b4<wr.heap.size:=(by have:=hS b4 hb4;omega);have hkt:(k:Int)<tc.length:=(by omega);have HSTEP:=hI (ZcM (m:=3) (key:=tk) k k tc r hkl hrc);have HV:=hI (HOK.out.at_ k);generalize r.getD k v0=v at d1 d2 d3 HSTEP HV;generalize tc.getD k c0=cl at f1 f2 HSTEP;obtain⟨vk,vi,vt⟩:=v;obtain⟨cn,ck⟩:=cl;simp only at d1 d2 d3 HSTEP HV f1 f2
            go_wp2_with fail
            refine(ZdD ⟨vk,vi,vt⟩ _ HV.out).mono ?_;rintro e w2 ⟨rfl,hb2'⟩;have hz2:wr.heap.size<w2.heap.size:=(by have:=hb2'.size;simp at this;omega);have HB3:=hI ((HBEL.out.alloc (by omega) _).trans (hb2'.mono (by simp;omega)));have g1:w2.cell? ⟨wr.heap.size,0,none⟩=some (.int .i64 vk):=c9Q hb2' (by simp) (by simp [cell_of_row _ _ _ _ _ _ (heap_alloc_new wr _)])
            replace t1:w2.cell? ⟨w1.heap.size,1,none⟩=some (.slice (some ⟨b4,o4,none⟩) tc.length c1):=(hb2'.cell (p:=⟨w1.heap.size,1,none⟩) (by simp;omega)).trans ((World.cell?_of_block (Below.heap_alloc _ _ _ hw1)).trans t1)
            replace t2:w2.cell? ⟨w1.heap.size,2,none⟩=some (.int .i64 tk):=(hb2'.cell (p:=⟨w1.heap.size,2,none⟩) (by simp;omega)).trans ((World.cell?_of_block (Below.heap_alloc _ _ _ hw1)).trans t2)
            replace f2:w2.cell? ⟨b4,o4+k*2+1,none⟩=some (.int .i64 ck):=(hb2'.cell (p:=⟨b4,o4+k*2+1,none⟩) (by simp;omega)).trans ((World.cell?_of_block (Below.heap_alloc _ _ _ hl4)).trans f2)
            clear hb2' d1 d2 d3 f1
            by_cases hval:Zan ⟨vk,vi,vt⟩=true
            · have HVT:=hI hval;rw [hval];clear hval
              by_cases hkc:vk=ck
              · subst hkc
                by_cases h2:vk=2
                · subst h2;have ek:((2:Int) != 2)=false:=(by simp);have HVV:=hI (show Zaz 3 tk 2 k ⟨2,vi,vt⟩=true by simp only [Zaz,HVT.out];simp)
                  go_wp2_with fail
                  go_quiet (fail)
                  go_wp2_with fail
                  go_roundw
                  case rel=>exact⟨k+1,by omega,by go_num,by rw [HT.out,HSTEP.out,HVV.out];rfl,Zaj HB3.out _,t1,t2,by show w1.heap.size<w2.heap.size;omega⟩
                  case measure=>simp [intOf];omega
                · have e2:(vk == 2)=false:=beq_eq_false_iff_ne.2 h2
                  by_cases h1:vk=1
                  · subst h1;have ek:((1:Int) != 1)=false:=(by simp);have HVV:=hI (show Zaz 3 tk 1 k ⟨1,vi,vt⟩=true by simp only [Zaz,HVT.out];simp)
                    go_wp2_with fail
                    go_quiet (fail)
                    go_wp2_with fail
                    go_roundw
                    case rel=>exact⟨k+1,by omega,by go_num,by rw [HT.out,HSTEP.out,HVV.out];rfl,Zaj HB3.out _,t1,t2,by show w1.heap.size<w2.heap.size;omega⟩
                    case measure=>simp [intOf];omega
                  · have e1:(vk == 1)=false:=beq_eq_false_iff_ne.2 h1;have ek:(vk != vk)=false:=(by simp);have HVV:=hI (show Zaz 3 tk vk k ⟨vk,vi,vt⟩=true by simp only [Zaz,HVT.out];simp)
                    go_wp2_with fail
                    go_quiet (fail)
                    go_wp2_with fail
                    go_roundw
                    case rel=>exact⟨k+1,by omega,by go_num,by rw [HT.out,HSTEP.out,HVV.out];rfl,Zaj HB3.out _,t1,t2,by show w1.heap.size<w2.heap.size;omega⟩
                    case measure=>simp [intOf];omega
              · by_cases h2:vk=2
                · subst h2
                  by_cases hki:tk≤(k:Int)
                  · have ei:decide (tk≤(k:Int))=true:=(by simp [hki]);have ek:((2:Int) != ck)=true:=(by simp [hkc]);have HVV:=hI (show Zaz 3 tk ck k ⟨2,vi,vt⟩=true by simp only [Zaz,HVT.out];simp [hki])
                    go_wp2_with fail
                    go_quiet (fail)
                    go_wp2_with fail
                    go_roundw
                    case rel=>exact⟨k+1,by omega,by go_num,by rw [HT.out,HSTEP.out,HVV.out];rfl,Zaj HB3.out _,t1,t2,by show w1.heap.size<w2.heap.size;omega⟩
                    case measure=>simp [intOf];omega
                  · have ei:decide (tk≤(k:Int))=false:=(by simpa using hki);have ek:((2:Int) != ck)=true:=(by simp [hkc]);have HVV:=hI (show Zaz 3 tk ck k ⟨2,vi,vt⟩=false by simp only [Zaz,HVT.out];simp [hkc,hki])
                    go_wp2_with fail
                    go_quiet (fail)
                    go_wp2_with fail
                    go_ret;exact⟨by rw [HF.out,HRC.out,HT.out,HSTEP.out,HVV.out];rfl,HB1.out.trans ((Zaj HB3.out _).mono (show w.heap.size≤w1.heap.size by omega))⟩
                · have e2:(vk == 2)=false:=beq_eq_false_iff_ne.2 h2
                  by_cases h1:vk=1
                  · subst h1
                    by_cases hki:tk≤(k:Int)
                    · have ei:decide (tk≤(k:Int))=true:=(by simp [hki]);have ek:((1:Int) != ck)=true:=(by simp [hkc]);have HVV:=hI (show Zaz 3 tk ck k ⟨1,vi,vt⟩=true by simp only [Zaz,HVT.out];simp [hki])
                      go_wp2_with fail
                      go_quiet (fail)
                      go_wp2_with fail
                      go_roundw
                      case rel=>exact⟨k+1,by omega,by go_num,by rw [HT.out,HSTEP.out,HVV.out];rfl,Zaj HB3.out _,t1,t2,by show w1.heap.size<w2.heap.size;omega⟩
                      case measure=>simp [intOf];omega
                    · have ei:decide (tk≤(k:Int))=false:=(by simpa using hki);have ek:((1:Int) != ck)=true:=(by simp [hkc]);have HVV:=hI (show Zaz 3 tk ck k ⟨1,vi,vt⟩=false by simp only [Zaz,HVT.out];simp [hkc,hki])
                      go_wp2_with fail
                      go_quiet (fail)
                      go_wp2_with fail
                      go_ret;exact⟨by rw [HF.out,HRC.out,HT.out,HSTEP.out,HVV.out];rfl,HB1.out.trans ((Zaj HB3.out _).mono (show w.heap.size≤w1.heap.size by omega))⟩
                  · have e1:(vk == 1)=false:=beq_eq_false_iff_ne.2 h1;have ek:(vk != ck)=true:=(by simp [hkc]);have HVV:=hI (show Zaz 3 tk ck k ⟨vk,vi,vt⟩=false by simp only [Zaz,HVT.out];simp [hkc,h1,h2])
                    go_wp2_with fail
                    go_quiet (fail)
                    go_wp2_with fail
                    go_ret;exact⟨by rw [HF.out,HRC.out,HT.out,HSTEP.out,HVV.out];rfl,HB1.out.trans ((Zaj HB3.out _).mono (show w.heap.size≤w1.heap.size by omega))⟩
            · have hvf:Zan ⟨vk,vi,vt⟩=false:=(by simpa using hval);have HVV:=hI (show Zaz 3 tk ck k ⟨vk,vi,vt⟩=false by simp [Zaz,hvf]);rw [hvf];clear hval hvf
              go_wp2_with fail
              go_ret;exact⟨by rw [HF.out,HRC.out,HT.out,HSTEP.out,HVV.out];rfl,HB1.out.trans (HB3.out.mono (by omega))⟩
          · have HKE:=hI (show k=r.length by omega)
            go_wp2_with fail
            go_ret;exact⟨by rw [HF.out,HRC.out,HT.out,HKE.out,List.drop_length];rw [show ∀ l,ZaX 3 tk r.length l []=true from fun l=>by cases l<;>rfl];rfl,HBW.out⟩
       · have hd:((r.length:Int) != tc.length)=true:=(by simp;omega);have HRC:=hI (show decide (r.length=tc.length)=false by simp [hrc])
         go_wp2_with fail
         go_ret;exact⟨by rw [HF.out,HRC.out];rfl,HB1.out.alloc (by omega) _⟩
   · have hh':hasN s.tabs.length t=false:=(by simpa using hh);have HF:=hI (show ZaT s t r m=false by unfold ZaT;rw [hm,hh'];simp);have HH:=hI hh';clear hh hh' hm;rcases hm' with rfl | rfl | rfl
     · go_enter Try.func59,Try.ntmps59
       go_wp2_with fail
       refine(Zdx _ t A0 s.tabs.length c0' _ hsl).mono ?_;rintro e w1 ⟨rfl,hb1⟩;rw [HH.out];have HB1:=hI (HB0.out.trans (hb1.mono (by simp)));clear hb1
       go_wp2_with fail
       go_ret;exact⟨by rw [HF.out];rfl,HB1.out⟩
     · go_enter Try.func59,Try.ntmps59
       go_wp2_with fail
       refine(Zdx _ t A0 s.tabs.length c0' _ hsl).mono ?_;rintro e w1 ⟨rfl,hb1⟩;rw [HH.out];have HB1:=hI (HB0.out.trans (hb1.mono (by simp)));clear hb1
       go_wp2_with fail
       go_ret;exact⟨by rw [HF.out];rfl,HB1.out⟩
     · go_enter Try.func59,Try.ntmps59
       go_wp2_with fail
       refine(Zdx _ t A0 s.tabs.length c0' _ hsl).mono ?_;rintro e w1 ⟨rfl,hb1⟩;rw [HH.out];have HB1:=hI (HB0.out.trans (hb1.mono (by simp)));clear hb1
       go_wp2_with fail
       go_ret;exact⟨by rw [HF.out];rfl,HB1.out⟩
 · have hm':m≠1∧m≠2∧m≠3:=(by simpa [Zcm,and_assoc] using hm);have HF:=hI (show ZaT s t r m=false by unfold ZaT;rw [show Zcm m=false by simpa using hm];simp);have e1:(m != 1)=true:=(by simp [hm'.1]);have e2:(m != 2)=true:=(by simp [hm'.2.1]);have e3:(m != 3)=true:=(by simp [hm'.2.2]);clear hm hm';go_enter Try.func59,Try.ntmps59
   go_wp2_with fail
   go_ret;exact⟨by rw [HF.out];rfl,HB0.out⟩
def inS (l:List ByteArray) (s:ByteArray):Bool:=l.any fun x=>decide (x.data.toList=s.data.toList)
def SetAt (w:World) (B n:Nat) (l:List ByteArray):Prop :=
 ∃ D:DataW Unit,w.ownsMap Try.prog 9 (plainElem Try.prog 4) B n D∧Maps.IsMap D∧∀ s:ByteArray,D.atKey (.string s.data.toList) (.lit (.bool false))=.lit (.bool (inS l s))
theorem SetAt.made (w:World):SetAt (w.alloc (.map #[] 0)) w.heap.size 0 []:=⟨.map [],World.ownsMap_made w _ _ _,⟨[],rfl⟩,fun s=>by simp [DataW.atKey,inS]⟩
theorem SetAt.kept {w w':World} {B n:Nat} {l:List ByteArray} {row:Option Nat} (h:SetAt w B n l) (hg:w.grownBy w' row) (hne:some B≠row):SetAt w' B n l:=by
 obtain⟨D,h1,h2,h3⟩:=h;exact⟨D,h1.kept hg hne,h2,h3⟩
theorem SetAt.alloc {w:World} {B n:Nat} {l:List ByteArray} (h:SetAt w B n l) (o:Obj):SetAt (w.alloc o) B n l:=by
 obtain⟨D,h1,h2,h3⟩:=h;exact⟨D,h1.alloc o,h2,h3⟩
theorem SetAt.below {w w':World} {B n K:Nat} {l:List ByteArray} (h:SetAt w B n l) (hg:Below K w w') (hB:B<K):SetAt w' B n l:=by
 obtain⟨D,⟨es,clock,hb,F,hs,hD⟩,h2,h3⟩:=h;exact⟨D,⟨es,clock,(hg.block B hB).trans hb,F,hs,hD⟩,h2,h3⟩
theorem SetAt.lt {w:World} {B n:Nat} {l:List ByteArray} (h:SetAt w B n l):B<w.heap.size:=by
 obtain⟨D,h1,h2,h3⟩:=h;exact h1.lt
theorem plainElem_bool_inv {H:Type} {P:Program} {e:TypeId} (he:P.underlying e=some .bool) {v:Value} {z:DataW H × List MemPlace} (h:plainElem P e v=some z):∃ a,v=.bool a∧z=(.lit (.bool a),[]):=by
 unfold plainElem at h;rw [he] at h;cases v<;>simp at h
 exact⟨_,rfl,h.symm⟩
theorem SetAt.look {w:World} {B n:Nat} {l:List ByteArray} (h:SetAt w B n l) {s:ByteArray} (hs:s.size≤9223372036854775807):(Instr.lookup 166 (.map (some B)) (.string s) false).run Try.prog w=.ok (.bool (inS l s)) w:=by
 obtain⟨D,h1,h2,h3⟩:=h;have hz:(zeroValue 4).run Try.prog w=.ok (.bool false) w:=(by kernel_rfl);obtain⟨v,ps,hrun,hv⟩:=h1.lookup (Maps.string_keyed Try.underlying9) Try.underlying166 hz (plainElem_bool Try.underlying4 false) (WideMaps.keyOf_string_mk Try.underlying9 (s:=s) (by unfold maxLen;omega));obtain⟨a,rfl,ha⟩:=plainElem_bool_inv Try.underlying4 hv;rw [h3 s] at ha;simp only [Prod.mk.injEq,DataW.lit.injEq,Lit.bool.injEq] at ha;rw [hrun,ha.1]
theorem SetAt.put {w:World} {B n:Nat} {l:List ByteArray} (h:SetAt w B n l) (hn:n≤1000000) {s:ByteArray} (hs:s.size≤9223372036854775807) :
  ∃ w',(Instr.mapUpdate 166 (.map (some B)) (.string s) (.bool true)).run Try.prog w=.ok () w'∧SetAt w' B (n+1) (s :: l)∧w.grownBy w' (some B):=by
 obtain⟨D,h1,h2,h3⟩:=h;obtain⟨w',hrun,ho,hg⟩:=h1.update (Maps.string_keyed Try.underlying9) Try.underlying166 (by unfold maxLen;omega) (WideMaps.keyOf_string_mk Try.underlying9 (s:=s) (by unfold maxLen;omega)) (plainElem_bool Try.underlying4 true);refine⟨w',hrun,⟨_,ho,?_,fun s'=>?_⟩,hg⟩
 · obtain⟨es,rfl⟩:=h2;exact⟨_,rfl⟩
 · by_cases he:s'=s
   · subst he;rw [Maps.atKey_put_same h2 (by simp [WideAt.IsKeyLit]) _ _];simp [inS]
   · rw [Maps.atKey_put_other (by
       intro e;apply he;have e':s'.data.toList=s.data.toList:=(by simpa using e);cases s';cases s;simpa using e') _ _,h3 s']
     have:inS (s :: l) s'=inS l s':=by
      have:decide (s.data.toList=s'.data.toList)=false:=by
       simp only [decide_eq_false_iff_not];intro e;apply he;cases s';cases s;simpa using e.symm
      simp only [inS,List.any_cons,this,Bool.false_or]
     rw [this]
theorem ZbB (w:World) {ops:Array Oper} {rest:List Oper} {o:Oper} {a:Act} {Q:Exit→Act→World→Prop}
  (hg:o.guard=none) (m x v:Operand) (hop:o.op=Op.mapUpdate 166 m x v) (B n:Nat) (l:List ByteArray) (s:ByteArray)
  (hm:a.eval m=.map (some B)) (hx:a.eval x=.string s) (hv:a.eval v=.bool true) (h:SetAt w B n l) (hn:n≤1000000) (hs:s.size≤9223372036854775807)
  (hK:∀ w',SetAt w' B (n+1) (s :: l)→w.grownBy w' (some B)→wpList Try.prog ops Q rest (a.put o.dst undef) w') :
  wpList Try.prog ops Q (o :: rest) a w:=by
 refine wpList_plain hg fun K' hK'=>?_;obtain⟨w',hrun,r1,r2⟩:=h.put hn hs;unfold Oper.wp;simp [execOp,hop,hm,hx,hv,hrun,Result.andThen];exact hK' _ _ (hK w' r1 r2)
def ZcD (t:ByteArray) (i:Nat):Nat:=(t.get! i).toNat
def Zcb (i c:Nat):Bool:=(decide (97≤c)&&decide (c≤122))||(decide (i≠0)&&(decide (c=95)||(decide (48≤c)&&decide (c≤57))))
def ZcI (t:ByteArray):Bool:=decide (1≤t.size)&&decide (t.size≤32)&&(List.range t.size).all fun i=>Zcb i (ZcD t i)
theorem decode_low {t:ByteArray} {i:Nat} (h:i<t.size) (hb:ZcD t i<128):Utf8.decode t i=(ZcD t i,1):=by
 rw [Lib.decode_at];show Lib.decodeN _ (ZcD t i) _ _ _=_;simp [Lib.decodeN,hb]
theorem decode_high {t:ByteArray} {i:Nat} (hb:128≤ZcD t i):128≤(Utf8.decode t i).1:=by
 rw [Lib.decode_at];show 128≤(Lib.decodeN _ (ZcD t i) _ _ _).1;unfold Lib.decodeN
 repeat' split
 all_goals first | omega | (simp only;omega)
theorem decode_name {t:ByteArray} {i:Nat} (h:i<t.size):Zcb i (ZcD t i)=Zcb i (Utf8.decode t i).1∧(Zcb i (Utf8.decode t i).1=true→(Utf8.decode t i).2=1):=by
 rcases Nat.lt_or_ge (ZcD t i) 128 with hb | hb
 · rw [decode_low h hb];exact⟨rfl,fun _=>rfl⟩
 · have hc:=decode_high hb;have e1:Zcb i (ZcD t i)=false:=(by simp [Zcb];omega);have e2:Zcb i (Utf8.decode t i).1=false:=(by simp [Zcb];omega);rw [e1,e2];exact⟨rfl,fun h=>by cases h⟩
theorem nameF_false {t:ByteArray} {i:Nat} (h:i<t.size) (hc:Zcb i (ZcD t i)=false):ZcI t=false:=by
 unfold ZcI;rw [Bool.and_eq_false_iff];right;rw [List.all_eq_false];exact⟨i,List.mem_range.2 h,by simp [hc]⟩
theorem nameF_true {t:ByteArray} (h1:1≤t.size) (h2:t.size≤32) (hc:∀ i,i<t.size→Zcb i (ZcD t i)=true):ZcI t=true:=by
 unfold ZcI;simp only [h1,h2,decide_true,Bool.true_and,List.all_eq_true];exact fun i hi=>hc i (List.mem_range.1 hi)
theorem ZfF (s:ByteArray) (w:World) (hs:s.size≤9223372036854775807):Calls Try.prog 127 #[.string s] w (ZaS (ZcI s) w):=by
 by_cases h1:s.size<1
 · have HF:=hI (show ZcI s=false by simp [ZcI];omega);go_enter Try.func127,Try.ntmps127
   go_wp2_with fail
   go_ret;exact⟨by rw [HF.out];rfl,Below.refl _ _⟩
 by_cases h2:32<s.size
 · have HF:=hI (show ZcI s=false by simp [ZcI];omega);go_enter Try.func127,Try.ntmps127
   go_wp2_with fail
   go_ret;exact⟨by rw [HF.out];rfl,Below.refl _ _⟩
 go_enter Try.func127,Try.ntmps127
 go_wp2_with fail
 go_loopw [] (fun wr=>∃ pos:Nat,pos≤s.size∧(∀ i,i<pos→Zcb i (ZcD s i)=true)∧wr.heap[w.heap.size]?=some (.stringIter s pos)∧Below w.heap.size w wr) (fun wr=>s.size - wr.iterPos w.heap.size)
 case atStart =>
  refine⟨0,Nat.zero_le _,fun i hi=>absurd hi (by omega),?_,?_⟩
  · have:=World.iter_heap w s 0;simpa using this
  · exact(Below.refl _ _).alloc nR _
 case round =>
  obtain⟨pos,hps,hall,hit,hbel⟩:=hrel;have HA:=hI hall;have HI:=hI hit;have HB:=hI hbel;clear hall hbel
  by_cases hp:pos<s.size
  · have hnx:∀ ty,(Instr.next (.pointer (some ⟨w.heap.size,0,none⟩)) true ty).run Try.prog wr=_:=fun ty=>Lib.run_next_any_at wr w.heap.size s pos ty hit hp;have HN:=hI (decode_name hp);have hcl:=decode_le s pos;obtain⟨c,hc⟩:∃ c,(Utf8.decode s pos).1=c:=⟨_,rfl⟩;obtain⟨d,hd⟩:∃ d,(Utf8.decode s pos).2=d:=⟨_,rfl⟩;rw [hc] at hcl HN;rw [hd] at HN;simp only [hc,hd] at hnx;clear hc hd hit;have HB2:=hI (Lib.below_iterAt HB.out (k:=w.heap.size) nR s (pos+d));have HI2:=hI (Lib.iterAt_heap wr w.heap.size s pos (pos+d) HI.out)
    have HM:=hI (show d=1→s.size - (wr.iterAt w.heap.size s (pos+d)).iterPos w.heap.size<s.size - wr.iterPos w.heap.size by
     intro hd1;simp only [World.iterPos,HI2.out,HI.out];omega)
    have HS:=hI (show Zcb pos c=true→∃ p:Nat,p≤s.size∧(∀ i,i<p→Zcb i (ZcD s i)=true)∧(wr.iterAt w.heap.size s (pos+d)).heap[w.heap.size]?=some (.stringIter s p)∧Below w.heap.size w (wr.iterAt w.heap.size s (pos+d)) by
     intro hc;have hd1:=HN.out.2 hc;refine⟨pos+d,by omega,fun i hi=>?_,HI2.out,HB2.out⟩;rcases Nat.lt_or_ge i pos with h | h
     · exact HA.out i h
     · have:i=pos:=(by omega);subst this;exact HN.out.1.trans hc)
    have HFF:=hI (show Zcb pos c=false→ZcI s=false from fun hc=>nameF_false hp (HN.out.1.trans hc))
    by_cases hl:97≤c∧c≤122
    · have HC:=hI (show Zcb pos c=true by simp [Zcb,hl]);have hl1:=hl.1;have hl2:=hl.2;clear hl
      go_wp2_with fail
      go_roundw
      case rel=>exact HS.out HC.out
      case measure=>exact HM.out (HN.out.2 HC.out)
    · by_cases hl1:c<97
      · by_cases h0:pos=0
        · subst h0;have HF:=hI (HFF.out (by simp [Zcb];omega));have HB3:=hI (show Below w.heap.size w (wr.iterAt w.heap.size s d) by have:=HB2.out;rwa [Nat.zero_add] at this)
          go_wp2_with fail
          go_ret;exact⟨by rw [HF.out];rfl,HB3.out⟩
        · have e0:((pos:Int) == 0)=false:=by simp;omega
          by_cases h95:c=95
          · subst h95;have HC:=hI (show Zcb pos 95=true by simp [Zcb];omega)
            go_wp2_with fail
            go_roundw
            case rel=>exact HS.out HC.out
            case measure=>exact HM.out (HN.out.2 HC.out)
          · have e95:((c:Int) != 95)=true:=by simp;omega
            by_cases h48:c<48
            · have e48:decide ((c:Int)<48)=true:=(by simp;omega);have HF:=hI (HFF.out (by simp [Zcb];omega))
              go_wp2_with fail
              go_ret;exact⟨by rw [HF.out];rfl,HB2.out⟩
            · have e48:decide ((c:Int)<48)=false:=by simp;omega
              by_cases h57:57<c
              · have e57:decide ((57:Int)<c)=true:=(by simp;omega);have HF:=hI (HFF.out (by simp [Zcb];omega))
                go_wp2_with fail
                go_ret;exact⟨by rw [HF.out];rfl,HB2.out⟩
              · have e57:decide ((57:Int)<c)=false:=(by simp;omega);have HC:=hI (show Zcb pos c=true by simp [Zcb];omega)
                go_wp2_with fail
                go_roundw
                case rel=>exact HS.out HC.out
                case measure=>exact HM.out (HN.out.2 HC.out)
      · have hl2:122<c:=(by omega);have e97:decide ((97:Int)≤c)=true:=(by simp;omega);have e122:decide ((c:Int)≤122)=false:=by simp;omega
        by_cases h0:pos=0
        · subst h0;have HF:=hI (HFF.out (by simp [Zcb];omega));have HB3:=hI (show Below w.heap.size w (wr.iterAt w.heap.size s d) by have:=HB2.out;rwa [Nat.zero_add] at this)
          go_wp2_with fail
          go_ret;exact⟨by rw [HF.out];rfl,HB3.out⟩
        · have e0:((pos:Int) == 0)=false:=(by simp;omega);have e95:((c:Int) != 95)=true:=(by simp;omega);have e48:decide ((c:Int)<48)=false:=(by simp;omega);have e57:decide ((57:Int)<c)=true:=(by simp;omega);have HF:=hI (HFF.out (by simp [Zcb];omega))
          go_wp2_with fail
          go_ret;exact⟨by rw [HF.out];rfl,HB2.out⟩
  · have HF:=hI (show ZcI s=true from nameF_true (by omega) (by omega) (fun i hi=>HA.out i (by omega)));have hnx:∀ ty,(Instr.next (.pointer (some ⟨w.heap.size,0,none⟩)) true ty).run Try.prog wr=_:=fun ty=>Lib.run_next_end_at wr w.heap.size s pos ty hit hp
    go_wp2_with fail
    go_ret;exact⟨by rw [HF.out];rfl,HB.out⟩
def Zbd (k:Int):Bool:=decide (k=3)||decide (k=4)||decide (k=5)
def Zce (seen:List ByteArray):List Col→Bool
 | []=>true
 | c :: r=>ZcI c.name&&!inS seen c.name&&Zbd c.kind&&Zce (c.name :: seen) r
def ZaR (seen:List ByteArray):List Tab→Bool
 | []=>true
 | t :: r=>ZcI t.name&&!inS seen t.name&&decide (1≤t.key)&&decide (t.key≤t.cols.length)&&Zce [] t.cols&&ZaR (t.name :: seen) r
theorem colsFrom_drop (seen:List ByteArray) (l:List Col) (k:Nat) (h:k<l.length):Zce seen (l.drop k)=(ZcI (l.getD k c0).name&&!inS seen (l.getD k c0).name&&Zbd (l.getD k c0).kind&&Zce ((l.getD k c0).name :: seen) (l.drop (k+1))):=by
 rw [List.drop_eq_getElem_cons h];have e1:l.getD k c0=l[k]:=(by simp [List.getD,h]);rw [e1];rfl
theorem namedFrom_drop (seen:List ByteArray) (l:List Tab) (k:Nat) (h:k<l.length):ZaR seen (l.drop k)=(ZcI (l.getD k t0).name&&!inS seen (l.getD k t0).name&&decide (1≤(l.getD k t0).key)&&decide ((l.getD k t0).key≤(l.getD k t0).cols.length)&&Zce [] (l.getD k t0).cols&&ZaR ((l.getD k t0).name :: seen) (l.drop (k+1))):=by
 rw [List.drop_eq_getElem_cons h];have e1:l.getD k t0=l[k]:=(by simp [List.getD,h]);rw [e1];rfl
theorem named_any (A0:Option Addr) (c0':Nat) (s:Sch) (S:Nat→Prop) (w:World) (hs:TabS w S A0 s.tabs) (hS:∀ b,S b→b<w.heap.size) (hl8:s.tabs.length≤8) (hc8:∀ t ∈ s.tabs,t.cols.length≤8) :
  Calls Try.prog 110 #[sAgg s.version A0 s.tabs.length c0'] w (ZaS (ZaR [] s.tabs) w):=by
 have HS:=hI hs;have HC8:=hI hc8;clear hs hc8
 have hmm:∀ w:World,(Instr.makeMap 166 none).run Try.prog w=.ok (.map (some w.heap.size)) (w.alloc (.map #[] 0)):=fun w=>by
  exact run_makeMap _ w
 go_enter Try.func110,Try.ntmps110
 go_wp2_with fail
 go_loopw [13] (fun i wr=>∃ (k:Nat) (seen:List ByteArray),k≤s.tabs.length∧i=.int .i64 k∧ZaR [] s.tabs=ZaR seen (s.tabs.drop k)∧SetAt wr (w.heap.size+1) k seen∧Below w.heap.size w wr) (fun i _=>s.tabs.length - (intOf i).toNat)
 case atStart =>
  exact⟨0,[],Nat.zero_le _,rfl,by simp,by have:=SetAt.made (w.alloc (.cells #[.int .i64 s.version,.slice A0 s.tabs.length c0'] 25));simpa using this,((Below.refl _ _).alloc nR _).alloc (by simp) _⟩
 case round =>
  obtain⟨k,seen,hk,rfl,hnf,hset,hbel⟩:=hrel;have HT:=hI hnf;have HSET:=hI hset;have HB:=hI hbel;have hsz:=hset.lt;clear hnf hset hbel
  by_cases hkl:k<s.tabs.length
  · obtain⟨b2,o2,rfl,hb2,A1,A2,A3,c1,c2,c3,hta⟩:=(HS.out.keep (Same.of_below HB.out hS)).at_ hkl;obtain⟨k1,k2,k3,k4,k5,cS,rS,pS,-,-,-,htx⟩:=hta;have HCS:=hI cS;have hl2:b2<wr.heap.size:=(by have:=hS b2 hb2;omega);have HSTEP:=hI (namedFrom_drop seen s.tabs k hkl);have hcl:(s.tabs.getD k t0).cols.length≤8:=HC8.out _ (by simp [List.getD,hkl]);clear cS rS pS;generalize s.tabs.getD k t0=tb at k1 k2 k3 k4 k5 HCS htx HSTEP hcl;obtain⟨tn,tc,tk,tr,tp⟩:=tb;simp only at k1 k2 k3 k4 k5 HCS htx HSTEP hcl
    go_wp2_with fail
    refine(ZfF tn _ htx).mono ?_;rintro e w2 ⟨rfl,hb3⟩;have hz2:wr.heap.size<w2.heap.size:=(by have:=hb3.size;simp at this;omega);have HB2:=hI ((HB.out.alloc (by omega) _).trans (hb3.mono (by simp;omega)));have HSET2:=hI ((HSET.out.alloc _).below hb3 (by simp;omega));have g0:w2.cell? ⟨wr.heap.size,0,none⟩=some (.string tn):=c9Q hb3 (by simp) (by simp [cell_of_row _ _ _ _ _ _ (heap_alloc_new wr _)]);have g1:w2.cell? ⟨wr.heap.size,1,none⟩=some (.slice A1 tc.length c1):=c9Q hb3 (by simp) (by simp [cell_of_row _ _ _ _ _ _ (heap_alloc_new wr _)]);have g2:w2.cell? ⟨wr.heap.size,2,none⟩=some (.int .i64 tk):=c9Q hb3 (by simp) (by simp [cell_of_row _ _ _ _ _ _ (heap_alloc_new wr _)]);clear hb3 k1 k2 k3 k4 k5;have hlk:=HSET2.out.look (s:=tn) htx
    by_cases hn:ZcI tn=true
    · have HN:=hI hn;rw [hn];clear hn
      by_cases hi:inS seen tn=true
      · have HV:=hI hi;rw [hi] at hlk;clear hi
        go_wp2_with fail
        go_ret;exact⟨by rw [HT.out,HSTEP.out];simp [HV.out],HB2.out⟩
      · have HI:=hI (show inS seen tn=false by simpa using hi);clear hi
        by_cases hk1:1≤tk
        · by_cases hk2:tk≤tc.length
          · have HSTEP2:=hI (show ZaR [] s.tabs=(Zce [] tc&&ZaR (tn :: seen) (s.tabs.drop (k+1))) by rw [HT.out,HSTEP.out,HN.out,HI.out];simp [hk1,hk2]);have hd1:decide (tk<1)=false:=(by simp;omega);have hd2:decide ((tc.length:Int)<tk)=false:=(by simp;omega);rw [HI.out] at hlk
            go_wp2_with (at_mapUpdate;refine ZbB _ rfl (.tmp 40) (.tmp 42) (.const (.bool true)) rfl (w.heap.size+1) k seen tn rfl rfl rfl HSET2.out (by omega) htx ?_;intro w3 hset3 hg3;have hz3:=hg3.size;have hz3':wr.heap.size<w3.heap.size:=(by omega);have g1':w3.cell? ⟨wr.heap.size,1,none⟩=some (.slice A1 tc.length c1):=(World.cell?_of_block (hg3.block wr.heap.size (by omega) (fun e=>by have:=Option.some.inj e;omega))).trans g1)
            have HSET3:=hI hset3;have HB3:=hI (HB2.out.grown hg3 (by omega) (fun b hb=>by have:=Option.some.inj hb;omega));clear hset3 hg3 g0 g1 g2 hlk
            go_loopw [47] (fun i wr=>∃ (j:Nat) (sc:List ByteArray),j≤tc.length∧i=.int .i64 j∧Zce [] tc=Zce sc (tc.drop j)∧SetAt wr (w.heap.size+1) (k+1) (tn :: seen)∧SetAt wr w3.heap.size j sc∧Below w.heap.size w wr) (fun i _=>tc.length - (intOf i).toNat)
            case atStart=>exact⟨0,[],Nat.zero_le _,rfl,by simp,HSET3.out.alloc _,SetAt.made w3,HB3.out.alloc (by omega) _⟩
            case round =>
             obtain⟨j,sc,hj,rfl,hcf,hs1,hs2,hbi⟩:=hrel;have HCT:=hI hcf;have HS1:=hI hs1;have HS2:=hI hs2;have HBI:=hI hbi;have hzi:=hs2.lt;clear hcf hs1 hs2 hbi g1'
             by_cases hjl:j<tc.length
             · have HCOL:=hI (HCS.out.keep (fun b hb=>(HBI.out.block b (hS b hb)).trans (HB.out.block b (hS b hb)).symm));obtain⟨b4,o4,rfl,hb4,f1,f2⟩:=HCOL.out.at_ hjl;have hcx:=HCOL.out.txt hjl;have hl4:b4<wr.heap.size:=(by have:=hS b4 hb4;omega);have HCSTEP:=hI (colsFrom_drop sc tc j hjl);generalize tc.getD j c0=cl at f1 f2 hcx HCSTEP;obtain⟨cn,ck⟩:=cl;simp only at f1 f2 hcx HCSTEP
               go_wp2_with fail
               refine(ZfF cn _ hcx).mono ?_;rintro e w4 ⟨rfl,hb5⟩;have hz4:wr.heap.size<w4.heap.size:=(by have:=hb5.size;simp at this;omega);have HB4:=hI ((HBI.out.alloc (by omega) _).trans (hb5.mono (by simp;omega)));have HS14:=hI ((HS1.out.alloc _).below hb5 (by simp;omega));have HS24:=hI ((HS2.out.alloc _).below hb5 (by simp;omega));have m0:w4.cell? ⟨wr.heap.size,0,none⟩=some (.string cn):=c9Q hb5 (by simp) (by simp [cell_of_row _ _ _ _ _ _ (heap_alloc_new wr _)]);have m1:w4.cell? ⟨wr.heap.size,1,none⟩=some (.int .i64 ck):=c9Q hb5 (by simp) (by simp [cell_of_row _ _ _ _ _ _ (heap_alloc_new wr _)]);clear hb5 f1 f2;have hlk:=HS24.out.look (s:=cn) hcx
               by_cases hcn:ZcI cn=true
               · have HCN:=hI hcn;rw [hcn];clear hcn
                 by_cases hci:inS sc cn=true
                 · have HV:=hI hci;rw [hci] at hlk;clear hci
                   go_wp2_with fail
                   go_ret;exact⟨by rw [HSTEP2.out,HCT.out,HCSTEP.out];simp [HV.out],HB4.out⟩
                 · have HCI:=hI (show inS sc cn=false by simpa using hci);rw [HCI.out] at hlk;clear hci
                   by_cases h3:ck=3
                   · subst h3
                     go_wp2_with (at_mapUpdate;refine ZbB _ rfl (.tmp 61) (.tmp 63) (.const (.bool true)) rfl w3.heap.size j sc cn rfl rfl rfl HS24.out (by omega) hcx ?_;intro w5 hset5 hg5;have hz5:=hg5.size;have m1':w5.cell? ⟨wr.heap.size,1,none⟩=some (.int .i64 3):=(World.cell?_of_block (hg5.block wr.heap.size (by omega) (fun e=>by have:=Option.some.inj e;omega))).trans m1)
                     have HS25:=hI hset5;have HS15:=hI (HS14.out.kept hg5 (fun e=>by have:=Option.some.inj e;omega));have HB5:=hI (HB4.out.grown hg5 (by omega) (fun b hb=>by have:=Option.some.inj hb;omega));clear hset5 hg5;go_roundw
                     case rel=>exact⟨j+1,cn :: sc,by omega,by go_num,by rw [HCT.out,HCSTEP.out,HCN.out,HCI.out];simp [Zbd],HS15.out,HS25.out,HB5.out⟩
                     case measure=>simp [intOf];omega
                   · have e3:(ck != 3)=true:=by simp [h3]
                     by_cases h4:ck=4
                     · subst h4
                       go_wp2_with (at_mapUpdate;refine ZbB _ rfl (.tmp 61) (.tmp 63) (.const (.bool true)) rfl w3.heap.size j sc cn rfl rfl rfl HS24.out (by omega) hcx ?_;intro w5 hset5 hg5;have hz5:=hg5.size;have m1':w5.cell? ⟨wr.heap.size,1,none⟩=some (.int .i64 4):=(World.cell?_of_block (hg5.block wr.heap.size (by omega) (fun e=>by have:=Option.some.inj e;omega))).trans m1)
                       have HS25:=hI hset5;have HS15:=hI (HS14.out.kept hg5 (fun e=>by have:=Option.some.inj e;omega));have HB5:=hI (HB4.out.grown hg5 (by omega) (fun b hb=>by have:=Option.some.inj hb;omega));clear hset5 hg5;go_roundw
                       case rel=>exact⟨j+1,cn :: sc,by omega,by go_num,by rw [HCT.out,HCSTEP.out,HCN.out,HCI.out];simp [Zbd],HS15.out,HS25.out,HB5.out⟩
                       case measure=>simp [intOf];omega
                     · have e4:(ck != 4)=true:=by simp [h4]
                       by_cases h5:ck=5
                       · subst h5
                         go_wp2_with (at_mapUpdate;refine ZbB _ rfl (.tmp 61) (.tmp 63) (.const (.bool true)) rfl w3.heap.size j sc cn rfl rfl rfl HS24.out (by omega) hcx ?_;intro w5 hset5 hg5;have hz5:=hg5.size;have m1':w5.cell? ⟨wr.heap.size,1,none⟩=some (.int .i64 5):=(World.cell?_of_block (hg5.block wr.heap.size (by omega) (fun e=>by have:=Option.some.inj e;omega))).trans m1)
                         have HS25:=hI hset5;have HS15:=hI (HS14.out.kept hg5 (fun e=>by have:=Option.some.inj e;omega));have HB5:=hI (HB4.out.grown hg5 (by omega) (fun b hb=>by have:=Option.some.inj hb;omega));clear hset5 hg5;go_roundw
                         case rel=>exact⟨j+1,cn :: sc,by omega,by go_num,by rw [HCT.out,HCSTEP.out,HCN.out,HCI.out];simp [Zbd],HS15.out,HS25.out,HB5.out⟩
                         case measure=>simp [intOf];omega
                       · have e5:(ck != 5)=true:=(by simp [h5]);have HV:=hI (show Zbd ck=false by simp [Zbd,h3,h4,h5])
                         go_wp2_with (at_mapUpdate;refine ZbB _ rfl (.tmp 61) (.tmp 63) (.const (.bool true)) rfl w3.heap.size j sc cn rfl rfl rfl HS24.out (by omega) hcx ?_;intro w5 hset5 hg5;have hz5:=hg5.size;have m1':w5.cell? ⟨wr.heap.size,1,none⟩=some (.int .i64 ck):=(World.cell?_of_block (hg5.block wr.heap.size (by omega) (fun e=>by have:=Option.some.inj e;omega))).trans m1)
                         have HS25:=hI hset5;have HS15:=hI (HS14.out.kept hg5 (fun e=>by have:=Option.some.inj e;omega));have HB5:=hI (HB4.out.grown hg5 (by omega) (fun b hb=>by have:=Option.some.inj hb;omega));clear hset5 hg5;go_ret;exact⟨by rw [HSTEP2.out,HCT.out,HCSTEP.out];simp [HV.out],HB5.out⟩
               · have HV:=hI (show ZcI cn=false by simpa using hcn);rw [HV.out];clear hcn
                 go_wp2_with fail
                 go_ret;exact⟨by rw [HSTEP2.out,HCT.out,HCSTEP.out];simp [HV.out],HB4.out⟩
             · have HJE:=hI (show Zce [] tc=true by rw [HCT.out,show j=tc.length by omega,List.drop_length];rfl)
               go_wp2_with fail
               go_roundw
               case rel=>exact⟨k+1,tn :: seen,by omega,by go_num,by rw [HSTEP2.out,HJE.out];rfl,HS1.out,HBI.out⟩
               case measure=>simp [intOf];omega
          · have HV:=hI (show decide (tk≤(tc.length:Int))=false by simpa using hk2);rw [HI.out] at hlk;have hd1:decide (tk<1)=false:=(by simp;omega);have hd2:decide ((tc.length:Int)<tk)=true:=by simp;omega
            go_wp2_with fail
            go_ret;exact⟨by rw [HT.out,HSTEP.out];simp [HV.out],HB2.out⟩
        · have HV:=hI (show decide (1≤tk)=false by simpa using hk1);rw [HI.out] at hlk;have hd1:decide (tk<1)=true:=by simp;omega
          go_wp2_with fail
          go_ret;exact⟨by rw [HT.out,HSTEP.out];simp [HV.out],HB2.out⟩
    · have HV:=hI (show ZcI tn=false by simpa using hn);rw [HV.out];clear hn
      go_wp2_with fail
      go_ret;exact⟨by rw [HT.out,HSTEP.out];simp [HV.out],HB2.out⟩
  · have HKE:=hI (show k=s.tabs.length by omega)
    go_wp2_with fail
    go_ret;exact⟨by rw [HT.out,HKE.out,List.drop_length];rfl,HB.out⟩
end Go.Proofs.Ytkpjjfhfbpfjpaa
