import Derived.Test.YtkpjjfhfbpfjpaaK42e91f
import Derived.Test.YtkpjjfhfbpfjpaaKefeab0
set_option linter.unusedVariables false
set_option linter.unusedSimpArgs false
set_option maxRecDepth 100000
set_option maxHeartbeats 8000000
namespace Go.Proofs.Ytkpjjfhfbpfjpaa
open Go.RowKit
def SubK (S:Nat→Prop) (r:Row) (w:World) (e:Ending) (w':World):Prop:=∃ A' c,e=.returned (.slice A' r.length c)∧RowS w' S A' r∧Below w.heap.size w w'
theorem ZfB {K:Act→World→Prop} {a:Act} {d:Option Tmp} {v v':Value} {w:World} (h:v'=v) (hk:K (a.put d v') w):K (a.put d v) w:=h ▸ hk
theorem ZaG (A0:Option Addr) (c0':Nat) (s:Sch) (ch:Chg) (A:Option Addr) (ca:Nat) (B:Option Addr) (cb:Nat) (S:Nat→Prop) (w:World) (hs:TabS w S A0 s.tabs) (ho:RowS w S A ch.old) (hca:ch.old.length≤ca) (hn:RowS w S B ch.new) (hcb:ch.new.length≤cb) (hS:∀ b,S b→b<w.heap.size) :
  Calls Try.prog 78 #[sAgg s.version A0 s.tabs.length c0',Zfl ch.table A ch.old.length ca B ch.new.length cb] w (SubK S (keyC s ch) w):=by
 have hol:=ho.len;have hnl:=hn.len;have HO:=hI ho;have HN:=hI hn;have HCA:=hI hca;have HCB:=hI hcb;have HS:=hI hs;have HK:=hI (show keyC s ch=if 0<ch.old.length then keyF s ch.table ch.old else keyF s ch.table ch.new from rfl);clear ho hn hca hcb hs;have HB0:=hI (((Below.refl w.heap.size w).alloc nR (.cells #[.int .i64 s.version,.slice A0 s.tabs.length c0'] 25)).alloc (by simp) (.cells #[.int .i64 ch.table,.slice A ch.old.length ca,.slice B ch.new.length cb] 53))
 by_cases h0:0<ch.old.length
 · have hd:decide (0<ch.old.length)=true:=(by simpa using h0);rw [if_pos h0] at HK;clear h0;go_enter Try.func78,Try.ntmps78
   go_wp2_with fail
   refine(Zba A0 c0' s ch.table A ca ch.old S _ (HS.out.keep (Same.of_below HB0.out hS)) (HO.out.keep (Same.of_below HB0.out hS)) HCA.out (fun b hb=>by have:=hS b hb;simp;omega)).mono ?_;rintro e w1 ⟨A',c',rfl,hA',hb1⟩;have HB1:=hI (HB0.out.trans (hb1.mono (by simp;omega)));have HA:=hI hA';clear hb1 hA'
   go_wp2_with fail
   go_ret;refine⟨A',c',by rw [HK.out];rfl,?_,HB1.out⟩;rw [HK.out];exact(HO.out.keep (Same.of_below HB1.out hS)).key s ch.table HA.out
 · have hd:decide (0<ch.old.length)=false:=(by simpa using h0);rw [if_neg h0] at HK;clear h0;go_enter Try.func78,Try.ntmps78
   go_wp2_with fail
   refine(Zba A0 c0' s ch.table B cb ch.new S _ (HS.out.keep (Same.of_below HB0.out hS)) (HN.out.keep (Same.of_below HB0.out hS)) HCB.out (fun b hb=>by have:=hS b hb;simp;omega)).mono ?_;rintro e w1 ⟨A',c',rfl,hA',hb1⟩;have HB1:=hI (HB0.out.trans (hb1.mono (by simp;omega)));have HA:=hI hA';clear hb1 hA'
   go_wp2_with fail
   go_ret;refine⟨A',c',by rw [HK.out];rfl,?_,HB1.out⟩;rw [HK.out];exact(HN.out.keep (Same.of_below HB1.out hS)).key s ch.table HA.out
theorem Zfv (A0:Option Addr) (c0':Nat) (s:Sch) (m:Int) (ch:Chg) (A:Option Addr) (ca:Nat) (B:Option Addr) (cb:Nat) (S:Nat→Prop) (w:World) (hs:TabS w S A0 s.tabs) (ho:RowS w S A ch.old) (hca:ch.old.length≤ca) (hn:RowS w S B ch.new) (hcb:ch.new.length≤cb) (hS:∀ b,S b→b<w.heap.size) :
  Calls Try.prog 56 #[sAgg s.version A0 s.tabs.length c0',.int .i64 m,Zfl ch.table A ch.old.length ca B ch.new.length cb] w (ZaS (Zas s m ch) w):=by
 obtain⟨t,old,new⟩:=ch;simp only at ho hca hn hcb ⊢;have hol:=ho.len;have hnl:=hn.len;have hsl:=hs.len;have HO:=hI ho;have HN:=hI hn;have HCA:=hI hca;have HCB:=hI hcb;have HS:=hI hs;have HK:=hI (show Zas s m ⟨t,old,new⟩=(hasN s.tabs.length t&&!(decide (old.length=0)&&decide (new.length=0))&&(decide (old.length=0)||ZaT s t old m)&&(decide (new.length=0)||ZaT s t new m)&&(decide (old.length=0)||decide (new.length=0)||(cmpR (keyF s t old) (keyF s t new) == 0))) from rfl);clear ho hn hca hcb hs;have HB0:=hI (((Below.refl w.heap.size w).alloc nR (.cells #[.int .i64 s.version,.slice A0 s.tabs.length c0'] 25)).alloc (by simp) (.cells #[.int .i64 t,.slice A old.length ca,.slice B new.length cb] 53))
 by_cases h0:t<0
 · have hd0:decide (t<0)=true:=(by simpa using h0);have HF:=hI (show Zas s m ⟨t,old,new⟩=false by rw [HK.out,show hasN s.tabs.length t=false by simp [hasN];omega];simp);clear h0 HK;go_enter Try.func56,Try.ntmps56
   go_wp2_with fail
   go_ret;exact⟨by rw [HF.out];rfl,HB0.out⟩
 · have hd0:decide (t<0)=false:=by simpa using h0
   by_cases h1:(s.tabs.length:Int)≤t
   · have hd1:decide ((s.tabs.length:Int)≤t)=true:=(by simpa using h1);have HF:=hI (show Zas s m ⟨t,old,new⟩=false by rw [HK.out,show hasN s.tabs.length t=false by simp [hasN];omega];simp);clear h0 h1 HK;go_enter Try.func56,Try.ntmps56
     go_wp2_with fail
     go_ret;exact⟨by rw [HF.out];rfl,HB0.out⟩
   · have hd1:decide ((s.tabs.length:Int)≤t)=false:=(by simpa using h1);have HAS:=hI (show hasN s.tabs.length t=true by simp [hasN];omega);clear h0 h1
     by_cases ho0:old.length=0
     · by_cases hn0:new.length=0
       · have HF:=hI (show Zas s m ⟨t,old,new⟩=false by rw [HK.out];simp [ho0,hn0]);have hqold:((old.length:Int) == 0)=true:=(by rw [ho0];rfl);have hqnew:((new.length:Int) == 0)=true:=(by rw [hn0];rfl);clear ho0 hn0 HK;go_enter Try.func56,Try.ntmps56
         go_wp2_with fail
         go_ret;exact⟨by rw [HF.out];rfl,HB0.out⟩
       · skip
         have HV:=hI (show Zas s m ⟨t,old,new⟩=(ZaT s t new m) by rw [HK.out,HAS.out];simp [ho0,hn0]);have hqold:((old.length:Int) == 0)=true:=(by rw [ho0];rfl);have HQold:=hI (show decide (0<old.length)=false from decide_eq_false (by omega));have hqnew:((new.length:Int) == 0)=false:=(by simpa using hn0);have HQnew:=hI (show decide (0<new.length)=true from decide_eq_true (by omega));clear ho0 hn0 HK;go_enter Try.func56,Try.ntmps56
         go_wp2_with fail
         go_loopw [37] (fun i wr=>∃ k:Nat,k≤2∧i=.int .i64 k∧(1≤k→True)∧(2≤k→ZaT s t new m=true)∧Below w.heap.size w wr∧(wr.cell? ⟨w.heap.size,0,none⟩=some (.int .i64 s.version)∧wr.cell? ⟨w.heap.size,1,none⟩=some (.slice A0 s.tabs.length c0')∧wr.cell? ⟨w.heap.size+1,0,none⟩=some (.int .i64 t)∧wr.cell? ⟨w.heap.size+1,1,none⟩=some (.slice A old.length ca)∧wr.cell? ⟨w.heap.size+1,2,none⟩=some (.slice B new.length cb))∧w.heap.size+1<wr.heap.size) (fun i _=>2 - (intOf i).toNat)
         case atStart=>exact⟨0,by omega,rfl,fun h=>by omega,fun h=>by omega,HB0.out,⟨by simp,by simp,by simp,by simp,by simp⟩,by simp⟩
         case round =>
          obtain⟨k,hk,rfl,hko,hkn,hbel,⟨x0,x1,x2,x3,x4⟩,hw1⟩:=hrel;have HKO:=hI hko;have HKN:=hI hkn;have HB:=hI hbel;clear hko hkn hbel
          by_cases hk0:k=0
          · subst hk0;have hz:=HQold.out
            go_wp2_with fail
            refine ZfB (v':=Value.slice A old.length ca) (by first | rfl | kernel_rfl) ?_
            go_wp2_with fail
            go_roundw
            case rel=>exact⟨1,by omega,rfl,fun _=>trivial,fun h=>by omega,HB.out,⟨x0,x1,x2,x3,x4⟩,hw1⟩
            case measure=>simp [intOf]
          · skip
            by_cases hk1:k=1
            · subst hk1;have hz:=HQnew.out
              go_wp2_with fail
              refine ZfB (v':=Value.slice B new.length cb) (by first | rfl | kernel_rfl) ?_
              go_wp2_with fail
              refine(Zdn A0 c0' s t m B cb new S _ (HS.out.keep (Same.of_below HB.out hS)) (HN.out.keep (Same.of_below HB.out hS)) (fun b hb=>by have:=hS b hb;omega)).mono ?_;rintro e w4 ⟨rfl,hb4⟩;have HB4:=hI (HB.out.trans (hb4.mono (by omega)));have hs4:=hb4.size;have y0:=c9K hb4 x0;have y1:=c9K hb4 x1;have y2:=c9K hb4 x2;have y3:=c9K hb4 x3;have y4:=c9K hb4 x4;clear hb4 x0 x1 x2 x3 x4
              by_cases hf:ZaT s t new m=true
              · have HF:=hI hf;rw [hf];clear hf
                go_wp2_with fail
                go_roundw
                case rel=>exact⟨2,by omega,rfl,fun _=>HKO.out (by omega),fun _=>HF.out,HB4.out,⟨y0,y1,y2,y3,y4⟩,by omega⟩
                case measure=>simp [intOf]
              · have hf':ZaT s t new m=false:=(by simpa using hf);have HF:=hI (show Zas s m ⟨t,old,new⟩=false by rw [HV.out];simp [hf']);rw [hf'];clear hf hf'
                go_wp2_with fail
                go_ret;exact⟨by rw [HF.out];rfl,HB4.out⟩
            · obtain rfl:k=2:=(by omega);have ho2:=HKO.out (by omega);have hn2:=HKN.out (by omega);have HF:=hI (show Zas s m ⟨t,old,new⟩=true by rw [HV.out,hn2]);clear ho2 hn2 HKO HKN HV
              go_wp2_with fail
              go_quiet (fail)
              go_wp2_with fail
              go_ret;exact⟨by rw [HF.out];rfl,Zaj HB.out _⟩
     · by_cases hn0:new.length=0
       · skip
         have HV:=hI (show Zas s m ⟨t,old,new⟩=(ZaT s t old m) by rw [HK.out,HAS.out];simp [ho0,hn0]);have hqold:((old.length:Int) == 0)=false:=(by simpa using ho0);have HQold:=hI (show decide (0<old.length)=true from decide_eq_true (by omega));have hqnew:((new.length:Int) == 0)=true:=(by rw [hn0];rfl);have HQnew:=hI (show decide (0<new.length)=false from decide_eq_false (by omega));clear ho0 hn0 HK;go_enter Try.func56,Try.ntmps56
         go_wp2_with fail
         go_loopw [37] (fun i wr=>∃ k:Nat,k≤2∧i=.int .i64 k∧(1≤k→ZaT s t old m=true)∧(2≤k→True)∧Below w.heap.size w wr∧(wr.cell? ⟨w.heap.size,0,none⟩=some (.int .i64 s.version)∧wr.cell? ⟨w.heap.size,1,none⟩=some (.slice A0 s.tabs.length c0')∧wr.cell? ⟨w.heap.size+1,0,none⟩=some (.int .i64 t)∧wr.cell? ⟨w.heap.size+1,1,none⟩=some (.slice A old.length ca)∧wr.cell? ⟨w.heap.size+1,2,none⟩=some (.slice B new.length cb))∧w.heap.size+1<wr.heap.size) (fun i _=>2 - (intOf i).toNat)
         case atStart=>exact⟨0,by omega,rfl,fun h=>by omega,fun h=>by omega,HB0.out,⟨by simp,by simp,by simp,by simp,by simp⟩,by simp⟩
         case round =>
          obtain⟨k,hk,rfl,hko,hkn,hbel,⟨x0,x1,x2,x3,x4⟩,hw1⟩:=hrel;have HKO:=hI hko;have HKN:=hI hkn;have HB:=hI hbel;clear hko hkn hbel
          by_cases hk0:k=0
          · subst hk0;have hz:=HQold.out
            go_wp2_with fail
            refine ZfB (v':=Value.slice A old.length ca) (by first | rfl | kernel_rfl) ?_
            go_wp2_with fail
            refine(Zdn A0 c0' s t m A ca old S _ (HS.out.keep (Same.of_below HB.out hS)) (HO.out.keep (Same.of_below HB.out hS)) (fun b hb=>by have:=hS b hb;omega)).mono ?_;rintro e w4 ⟨rfl,hb4⟩;have HB4:=hI (HB.out.trans (hb4.mono (by omega)));have hs4:=hb4.size;have y0:=c9K hb4 x0;have y1:=c9K hb4 x1;have y2:=c9K hb4 x2;have y3:=c9K hb4 x3;have y4:=c9K hb4 x4;clear hb4 x0 x1 x2 x3 x4
            by_cases hf:ZaT s t old m=true
            · have HF:=hI hf;rw [hf];clear hf
              go_wp2_with fail
              go_roundw
              case rel=>exact⟨1,by omega,rfl,fun _=>HF.out,fun h=>by omega,HB4.out,⟨y0,y1,y2,y3,y4⟩,by omega⟩
              case measure=>simp [intOf]
            · have hf':ZaT s t old m=false:=(by simpa using hf);have HF:=hI (show Zas s m ⟨t,old,new⟩=false by rw [HV.out];simp [hf']);rw [hf'];clear hf hf'
              go_wp2_with fail
              go_ret;exact⟨by rw [HF.out];rfl,HB4.out⟩
          · skip
            by_cases hk1:k=1
            · subst hk1;have hz:=HQnew.out
              go_wp2_with fail
              refine ZfB (v':=Value.slice B new.length cb) (by first | rfl | kernel_rfl) ?_
              go_wp2_with fail
              go_roundw
              case rel=>exact⟨2,by omega,rfl,fun _=>HKO.out (by omega),fun _=>trivial,HB.out,⟨x0,x1,x2,x3,x4⟩,hw1⟩
              case measure=>simp [intOf]
            · obtain rfl:k=2:=(by omega);have ho2:=HKO.out (by omega);have hn2:=HKN.out (by omega);have HF:=hI (show Zas s m ⟨t,old,new⟩=true by rw [HV.out,ho2]);clear ho2 hn2 HKO HKN HV
              go_wp2_with fail
              go_quiet (fail)
              go_wp2_with fail
              go_ret;exact⟨by rw [HF.out];rfl,Zaj HB.out _⟩
       · skip
         have HV:=hI (show Zas s m ⟨t,old,new⟩=(ZaT s t old m&&ZaT s t new m&&(cmpR (keyF s t old) (keyF s t new) == 0)) by rw [HK.out,HAS.out];simp [ho0,hn0]);have hqold:((old.length:Int) == 0)=false:=(by simpa using ho0);have HQold:=hI (show decide (0<old.length)=true from decide_eq_true (by omega));have hqnew:((new.length:Int) == 0)=false:=(by simpa using hn0);have HQnew:=hI (show decide (0<new.length)=true from decide_eq_true (by omega));clear ho0 hn0 HK;go_enter Try.func56,Try.ntmps56
         go_wp2_with fail
         go_loopw [37] (fun i wr=>∃ k:Nat,k≤2∧i=.int .i64 k∧(1≤k→ZaT s t old m=true)∧(2≤k→ZaT s t new m=true)∧Below w.heap.size w wr∧(wr.cell? ⟨w.heap.size,0,none⟩=some (.int .i64 s.version)∧wr.cell? ⟨w.heap.size,1,none⟩=some (.slice A0 s.tabs.length c0')∧wr.cell? ⟨w.heap.size+1,0,none⟩=some (.int .i64 t)∧wr.cell? ⟨w.heap.size+1,1,none⟩=some (.slice A old.length ca)∧wr.cell? ⟨w.heap.size+1,2,none⟩=some (.slice B new.length cb))∧w.heap.size+1<wr.heap.size) (fun i _=>2 - (intOf i).toNat)
         case atStart=>exact⟨0,by omega,rfl,fun h=>by omega,fun h=>by omega,HB0.out,⟨by simp,by simp,by simp,by simp,by simp⟩,by simp⟩
         case round =>
          obtain⟨k,hk,rfl,hko,hkn,hbel,⟨x0,x1,x2,x3,x4⟩,hw1⟩:=hrel;have HKO:=hI hko;have HKN:=hI hkn;have HB:=hI hbel;clear hko hkn hbel
          by_cases hk0:k=0
          · subst hk0;have hz:=HQold.out
            go_wp2_with fail
            refine ZfB (v':=Value.slice A old.length ca) (by first | rfl | kernel_rfl) ?_
            go_wp2_with fail
            refine(Zdn A0 c0' s t m A ca old S _ (HS.out.keep (Same.of_below HB.out hS)) (HO.out.keep (Same.of_below HB.out hS)) (fun b hb=>by have:=hS b hb;omega)).mono ?_;rintro e w4 ⟨rfl,hb4⟩;have HB4:=hI (HB.out.trans (hb4.mono (by omega)));have hs4:=hb4.size;have y0:=c9K hb4 x0;have y1:=c9K hb4 x1;have y2:=c9K hb4 x2;have y3:=c9K hb4 x3;have y4:=c9K hb4 x4;clear hb4 x0 x1 x2 x3 x4
            by_cases hf:ZaT s t old m=true
            · have HF:=hI hf;rw [hf];clear hf
              go_wp2_with fail
              go_roundw
              case rel=>exact⟨1,by omega,rfl,fun _=>HF.out,fun h=>by omega,HB4.out,⟨y0,y1,y2,y3,y4⟩,by omega⟩
              case measure=>simp [intOf]
            · have hf':ZaT s t old m=false:=(by simpa using hf);have HF:=hI (show Zas s m ⟨t,old,new⟩=false by rw [HV.out];simp [hf']);rw [hf'];clear hf hf'
              go_wp2_with fail
              go_ret;exact⟨by rw [HF.out];rfl,HB4.out⟩
          · skip
            by_cases hk1:k=1
            · subst hk1;have hz:=HQnew.out
              go_wp2_with fail
              refine ZfB (v':=Value.slice B new.length cb) (by first | rfl | kernel_rfl) ?_
              go_wp2_with fail
              refine(Zdn A0 c0' s t m B cb new S _ (HS.out.keep (Same.of_below HB.out hS)) (HN.out.keep (Same.of_below HB.out hS)) (fun b hb=>by have:=hS b hb;omega)).mono ?_;rintro e w4 ⟨rfl,hb4⟩;have HB4:=hI (HB.out.trans (hb4.mono (by omega)));have hs4:=hb4.size;have y0:=c9K hb4 x0;have y1:=c9K hb4 x1;have y2:=c9K hb4 x2;have y3:=c9K hb4 x3;have y4:=c9K hb4 x4;clear hb4 x0 x1 x2 x3 x4
              by_cases hf:ZaT s t new m=true
              · have HF:=hI hf;rw [hf];clear hf
                go_wp2_with fail
                go_roundw
                case rel=>exact⟨2,by omega,rfl,fun _=>HKO.out (by omega),fun _=>HF.out,HB4.out,⟨y0,y1,y2,y3,y4⟩,by omega⟩
                case measure=>simp [intOf]
              · have hf':ZaT s t new m=false:=(by simpa using hf);have HF:=hI (show Zas s m ⟨t,old,new⟩=false by rw [HV.out];simp [hf']);rw [hf'];clear hf hf'
                go_wp2_with fail
                go_ret;exact⟨by rw [HF.out];rfl,HB4.out⟩
            · obtain rfl:k=2:=(by omega);have ho2:=HKO.out (by omega);have hn2:=HKN.out (by omega);have HF:=hI (show Zas s m ⟨t,old,new⟩=(cmpR (keyF s t old) (keyF s t new) == 0) by rw [HV.out,ho2,hn2];simp);clear ho2 hn2 HKO HKN HV
              go_wp2_with fail
              have hSr:∀ b,S b→b<wr.heap.size:=(fun b hb=>by have:=hS b hb;omega);have HSr:=hI (HS.out.keep (Same.of_below HB.out hS));have HOr:=hI (HO.out.keep (Same.of_below HB.out hS));have HNr:=hI (HN.out.keep (Same.of_below HB.out hS))
              go_region_held3 (fun w'=>Below wr.heap.size wr w'∧w'.cell? ⟨w.heap.size,0,none⟩=some (.int .i64 s.version)∧w'.cell? ⟨w.heap.size,1,none⟩=some (.slice A0 s.tabs.length c0')∧w'.cell? ⟨w.heap.size+1,0,none⟩=some (.int .i64 t)∧w'.cell? ⟨w.heap.size+1,1,none⟩=some (.slice A old.length ca)∧w'.cell? ⟨w.heap.size+1,2,none⟩=some (.slice B new.length cb))
               (first | exact⟨(Below.refl _ _).drew,x0,x1,x2,x3,x4⟩ | exact⟨hv3,c9K hv3 x0,c9K hv3 x1,c9K hv3 x2,c9K hv3 x3,c9K hv3 x4⟩ | exact⟨hv2,c9K hv2 x0,c9K hv2 x1,c9K hv2 x2,c9K hv2 x3,c9K hv2 x4⟩ | exact⟨hv1,c9K hv1 x0,c9K hv1 x1,c9K hv1 x2,c9K hv1 x3,c9K hv1 x4⟩)
               (first
                | (go_at_call 61;have hvx:=hv1;clear hvx;refine(Zba A0 c0' s t B cb new S _ (HSr.out.keep (Same.of_below hv1 hSr)) (HNr.out.keep (Same.of_below hv1 hSr)) HCB.out (fun b hb=>Nat.lt_of_lt_of_le (hSr b hb) hv1.size)).mono ?_;rintro e w6 ⟨A8,c8,rfl,h8,hv2'⟩;have hv2:Below wr.heap.size wr w6:=hv1.trans (hv2'.mono hv1.size))
                | (go_at_call 61;refine(Zba A0 c0' s t A ca old S wr.drew (HSr.out.keep (fun _ _=>rfl)) (HOr.out.keep (fun _ _=>rfl)) HCA.out hSr).mono ?_;rintro e w5 ⟨A7,c7,rfl,h7,hv1'⟩;have hv1:Below wr.heap.size wr w5:=(Below.refl _ wr).drew.trans hv1')
                | (go_at_call 77;refine(ZaM A7 A8 c7 c8 (keyF s t old) (keyF s t new) S _ ((HOr.out.keep (Same.of_below hv2 hSr)).key s t h7) ((HNr.out.keep (Same.of_below hv2 hSr)).key s t h8) (fun b hb=>Nat.lt_of_lt_of_le (hSr b hb) hv2.size)).mono ?_;rintro e w7 ⟨rfl,hv3'⟩;have hv3:Below wr.heap.size wr w7:=hv2.trans (hv3'.mono hv2.size)))
              have HB7:=hI (HB.out.trans (hv3.mono (by omega)));clear hv1 hv2 hv3 hv1' hv2' hv3' h7 h8 x0 x1 x2 x3 x4
              go_wp2_with fail
              go_ret;exact⟨by rw [HF.out];rfl,HB7.out⟩
structure Capt (w:World) (s:Sch) (A0:Option Addr) (c0':Nat) (t:Int) (gs gc:Nat):Prop where
 v:w.cell? ⟨gs,0,none⟩=some (.int .i64 s.version)
 a:w.cell? ⟨gs,1,none⟩=some (.slice A0 s.tabs.length c0')
 t:w.cell? ⟨gc,0,none⟩=some (.int .i64 t)
 ls:gs<w.heap.size
 lc:gc<w.heap.size
theorem Capt.keep {w w':World} {s:Sch} {A0:Option Addr} {c0':Nat} {t:Int} {gs gc n:Nat} (h:Capt w s A0 c0' t gs gc) (hb:Below n w w') (h1:gs<n) (h2:gc<n):Capt w' s A0 c0' t gs gc :=
 ⟨c9Q hb h1 h.v,c9Q hb h1 h.a,c9Q hb h2 h.t,Nat.lt_of_lt_of_le h.ls hb.size,Nat.lt_of_lt_of_le h.lc hb.size⟩
theorem ZeD (A0:Option Addr) (c0':Nat) (s:Sch) (t:Int) (gs gc:Nat) (A:Option Addr) (ca:Nat) (r:Row) (B:Option Addr) (cb:Nat) (key:Row) (S:Nat→Prop) (w:World) (hc:Capt w s A0 c0' t gs gc) (hs:TabS w S A0 s.tabs) (hr:RowS w S A r) (hca:r.length≤ca) (hk:RowS w S B key) (hS:∀ b,S b→b<w.heap.size) :
  Calls Try.prog 98 #[.slice A r.length ca,.slice B key.length cb,.pointer (some ⟨gs,0,none⟩),.pointer (some ⟨gc,0,none⟩)] w (ZbV (cmpR (keyF s t r) key) w):=by
 have hrl:=hr.len;have hkl:=hk.len;have x0:=hc.v;have x1:=hc.a;have x2:=hc.t;have HR:=hI hr;have HK:=hI hk;have HCA:=hI hca;have HS:=hI hs;clear hr hk hca hs hc;go_enter Try.func98,Try.ntmps98
 go_wp2_with fail
 refine(Zba A0 c0' s t A ca r S _ HS.out HR.out HCA.out hS).mono ?_;rintro e w1 ⟨A',c',rfl,hA',hb1⟩;have HB1:=hI hb1;have HA:=hI hA';clear hb1 hA'
 go_wp2_with fail
 refine(Zbc A' B c' cb (keyF s t r) key S _ ((HR.out.keep (Same.of_below HB1.out hS)).key s t HA.out) (HK.out.keep (Same.of_below HB1.out hS)) (fun b hb=>Nat.lt_of_lt_of_le (hS b hb) HB1.out.size)).mono ?_;rintro e w2 ⟨rfl,hb2⟩;have HB2:=hI (HB1.out.trans (hb2.mono HB1.out.size));clear hb2
 go_wp2_with fail
 go_ret;exact⟨rfl,HB2.out⟩
def PairBel (n:Int) (b:Bool) (w:World) (e:Ending) (w':World):Prop:=e=.returned (.tuple #[.int .i64 n,.bool b])∧Below w.heap.size w w'
theorem Zcf (A0:Option Addr) (c0':Nat) (s:Sch) (t:Int) (gs gc:Nat) (A:Option Addr) (ca:Nat) (rows:List Row) (B:Option Addr) (cb:Nat) (key:Row) (p:Nat) (S:Nat→Prop) (w:World) (hc:Capt w s A0 c0' t gs gc) (hs:TabS w S A0 s.tabs) (hr:RowsS w S A rows) (hk:RowS w S B key) (hS:∀ b,S b→b<w.heap.size) (hp:p≤rows.length) (hlow:∀ k,k<rows.length→(cmpR (keyF s t (rows.getD k [])) key<0↔k<p)) :
  Calls Try.prog 97 #[.slice A rows.length ca,.slice B key.length cb,.func (.func 98) #[] #[.pointer (some ⟨gs,0,none⟩),.pointer (some ⟨gc,0,none⟩)]] w (PairBel p (decide (p<rows.length)&&(cmpR (keyF s t (rows.getD p [])) key == 0)) w):=by
 have hrl:=hr.len;have hkl:=hk.len;have HC:=hI hc;have HR:=hI hr;have HK:=hI hk;have HS:=hI hs;have HL:=hI hlow;clear hr hk hs hc hlow;go_enter Try.func97,Try.ntmps97
 go_wp2_with fail
 go_loopw [9,10] (fun i j wr=>∃ a b:Nat,i=.int .i64 a∧j=.int .i64 b∧a≤p∧p≤b∧b≤rows.length∧Below w.heap.size w wr) (fun i j _=>(intOf j).toNat - (intOf i).toNat)
 case atStart=>exact⟨0,rows.length,rfl,rfl,by omega,by omega,by omega,Below.refl _ _⟩
 case round =>
  obtain⟨a,b,rfl,rfl,ha,hb,hbl,hbel⟩:=hrel;have HB:=hI hbel;have hsz:=hbel.size;clear hbel;have hSr:∀ b,S b→b<wr.heap.size:=(fun b hb=>by have:=hS b hb;omega);have HSr:=hI (HS.out.keep (Same.of_below HB.out hS));have HRr:=hI (HR.out.keep (Same.of_below HB.out hS));have HKr:=hI (HK.out.keep (Same.of_below HB.out hS));have HCr:=hI (HC.out.keep HB.out HC.out.ls HC.out.lc)
  by_cases hab:a<b
  · obtain⟨h,hh⟩:∃ h,(a+b) / 2=h:=⟨_,rfl⟩;obtain⟨b1,o1,rfl,hb1,A',c',d1,d2,d3⟩:=HRr.out.at_ (show h<rows.length by omega);have HROW:=hI d3;have HC5:=hI d2;have HLL:=hI (HL.out h (by omega));clear d2 d3;generalize rows.getD h []=row at d1 HROW HC5 HLL
    go_wp2_with fail
    refine(ZeD A0 c0' s t gs gc A' c' row B cb key S _ HCr.out HSr.out HROW.out HC5.out HKr.out hSr).mono ?_;rintro e w1 ⟨rfl,hb1'⟩;have HB1:=hI (HB.out.trans (hb1'.mono (by omega)));clear hb1' d1
    by_cases hcv:cmpR (keyF s t row) key<0
    · have hd:decide (cmpR (keyF s t row) key<0)=true:=(by simpa using hcv);have hhp:h<p:=HLL.out.1 hcv;clear HLL hcv;generalize cmpR (keyF s t row) key=cv at hd
      go_wp2_with fail
      go_roundw
      case rel=>exact⟨h+1,b,by go_num,rfl,by omega,by omega,by omega,HB1.out⟩
      case measure=>simp [intOf];omega
    · have hd:decide (cmpR (keyF s t row) key<0)=false:=(by simpa using hcv);have hhp:p≤h:=(by have:=mt HLL.out.2 hcv;omega);clear HLL hcv;generalize cmpR (keyF s t row) key=cv at hd
      go_wp2_with fail
      go_roundw
      case rel=>exact⟨a,h,rfl,by go_num,by omega,by omega,by omega,HB1.out⟩
      case measure=>simp [intOf];omega
  · obtain rfl:a=p:=(by omega);obtain rfl:b=a:=by omega
    by_cases hpl:b<rows.length
    · obtain⟨b1,o1,rfl,hb1,A',c',d1,d2,d3⟩:=HRr.out.at_ hpl;have HROW:=hI d3;have HC5:=hI d2;obtain⟨row,hrow⟩:∃ row,rows.getD b []=row:=⟨_,rfl⟩;obtain⟨cv,hcv⟩:∃ cv,cmpR (keyF s t row) key=cv:=⟨_,rfl⟩;have HF:=hI (show (decide (b<rows.length)&&(cmpR (keyF s t (rows.getD b [])) key == 0))=(cv == 0) by rw [hrow,hcv];simp [hpl]);rw [hrow] at d1 HROW HC5;have HCV:=hI hcv;clear d2 d3 hrow hcv
      go_wp2_with fail
      refine(ZeD A0 c0' s t gs gc A' c' row B cb key S _ HCr.out HSr.out HROW.out HC5.out HKr.out hSr).mono ?_;rintro e w1 ⟨rfl,hb1'⟩;have HB1:=hI (HB.out.trans (hb1'.mono (by omega)));clear hb1' d1;rw [HCV.out];clear HCV
      go_wp2_with fail
      go_ret2;exact⟨by rw [HF.out];rfl,HB1.out⟩
    · have HF:=hI (show (decide (b<rows.length)&&(cmpR (keyF s t (rows.getD b [])) key == 0))=false by simp [hpl])
      go_wp2_with fail
      go_ret2;exact⟨by rw [HF.out];rfl,HB.out⟩
theorem run_append_full {P:Program} (w:World) (t ty e:TypeId) (i:TypeInfo) (z:Value) (size bytes:Nat) (ht:P.underlying t=some (.slice e)) (hi:P.info? e=some i) (hz:i.zero=some z)
  (hsize:i.size=size) (hby:i.bytes=bytes) (hzs:z.cells.size=size) (hsz:0<size)
  (A:Option Addr) (n:Nat) (olds:List Value) (hlo:olds.length=n*size) (hA:0<n→∃ b,A=some b∧∀ j u,olds[j]?=some u→w.cell? (b.add j)=some u)
  (ad:Addr) (m c:Nat) (news:List Value) (hl:news.length=m*size) (hnews:∀ j u,news[j]?=some u→w.cell? (ad.add j)=some u)
  (hm:0<m) (h63:n+m≤maxLen) (hbytes:(n+m)*bytes≤140737488355328) :
  ∃ cap w',(Builtin.append_ #[t,t] ty #[.slice A n n,.slice (some ad) m c]).run P w=.ok (.slice (some ⟨w.heap.size,0,none⟩) (n+m) cap) w' ∧
   w'.ownsRow w.heap.size e size (.slice (some ⟨w.heap.size,0,none⟩) (n+m) cap) (n+m) (olds++news)∧w.grownBy w' none∧w'.heap.size=w.heap.size+1:=by
 subst hsize;subst hby;have hsmall:n+m≤9223372036854775807:=(by simp only [maxLen] at h63;omega);have hlen:(olds++news).length=(n+m)*i.size:=(by rw [List.length_append,hlo,hl,Nat.add_mul]);have hge:=grownCap_ge w (n+m) n e;have hcm:grownCap w (n+m) n e≤maxLen:=grownCap_le_maxLen w (n+m) n e h63
 have hrun:(Builtin.append_ #[t,t] ty #[.slice A n n,.slice (some ad) m c]).run P w=.ok (.slice (some ⟨w.heap.size,0,none⟩) (n+m) (grownCap w (n+m) n e)) (w.drew.alloc (.cells (olds.toArray++news.toArray++Builtin.zeroCells z.cells (grownCap w (n+m) n e - (n+m))) e)):=by
  cases A with
  | none =>
   have hn:n=0:=by
    rcases Nat.eq_zero_or_pos n with h | h
    · exact h
    · obtain⟨b,h1,_⟩:=hA h;cases h1
   subst hn;have ho:olds=[]:=List.eq_nil_of_length_eq_zero (by simpa using hlo);subst ho;have hr:=run_append_nil (P:=P) w t ty e i z ht hi hz ad m c news hl hnews (by omega) (by omega) (by have hb:=hbytes;simp only [Nat.zero_add] at hb;omega);simpa using hr
  | some b =>
   refine run_append_grow (P:=P) w t ty e i z ht hi hz b n n olds hlo ?_ ad m c news hl hnews (by omega) (by omega) (growslice_fits (by omega) hbytes);intro j u hu;rcases Nat.eq_zero_or_pos n with h | h
   · subst h;have ho:olds=[]:=List.eq_nil_of_length_eq_zero (by simpa using hlo);subst ho;simp at hu
   · obtain⟨b',h1,h2⟩:=hA h;injection h1 with h1;subst h1;exact h2 j u hu
 refine⟨_,_,hrun,⟨hlen,.inr ⟨w.heap.size,_,_,rfl,Nat.le_refl _,heap_alloc_new w.drew _,hge,hcm,?_,?_⟩⟩,⟨rfl,rfl,rfl,by simp,fun k hk _=>Below.heap_alloc w.drew _ _ hk⟩,by simp⟩
 · simp only [Array.size_append,List.size_toArray,size_zeroCells,hzs,hlo,hl,←Nat.add_mul]
   congr 1
   omega
 · simp only [Array.toList_append,List.append_assoc];rw [←List.append_assoc,←hlen];exact List.take_left
theorem Zax {P:Program} (w:World) {ops:Array Oper} {rest:List Oper} {o:Oper} {a:Act} {Q:Exit→Act→World→Prop} (hgd:o.guard=none) (s x:Operand) (t:TypeId)
  (ho:o.op=.call { callee:=.builtin .append,args:=#[s,x],argTypes:=#[t,t] })
  (e:TypeId) (i:TypeInfo) (z:Value) (size bytes:Nat) (ht:P.underlying t=some (.slice e)) (hi:P.info? e=some i) (hz:i.zero=some z)
  (hsize:i.size=size) (hby:i.bytes=bytes) (hzs:z.cells.size=size) (hsz:0<size)
  (A:Option Addr) (n:Nat) (olds:List Value) (hs:a.eval s=.slice A n n) (hlo:olds.length=n*size) (hA:0<n→∃ b,A=some b∧∀ j u,olds[j]?=some u→w.cell? (b.add j)=some u)
  (ad:Addr) (m c:Nat) (news:List Value) (hx:a.eval x=.slice (some ad) m c) (hl:news.length=m*size) (hnews:∀ j u,news[j]?=some u→w.cell? (ad.add j)=some u)
  (hm:0<m) (h63:n+m≤maxLen) (hbytes:(n+m)*bytes≤140737488355328)
  (h:∀ cap w',w'.ownsRow w.heap.size e size (.slice (some ⟨w.heap.size,0,none⟩) (n+m) cap) (n+m) (olds++news)→w.grownBy w' none→w'.heap.size=w.heap.size+1→wpList P ops Q rest (a.put o.dst (.slice (some ⟨w.heap.size,0,none⟩) (n+m) cap)) w'):wpList P ops Q (o :: rest) a w:=by
 refine wpList_plain hgd fun K hK=>?_;obtain⟨cap,w',hr,h2,h3,h4⟩:=run_append_full (P:=P) w t o.type e i z size bytes ht hi hz hsize hby hzs hsz A n olds hlo hA ad m c news hl hnews hm h63 hbytes;unfold Oper.wp execOp;simp only [ho,resolve,invoke,builtin,Sem.run_bind,Sem.run_pure,Result.andThen_ok,List.map_toArray,List.map_cons,List.map_nil,hs,hx,hr];exact hK _ _ (h cap w' h2 h3 h4)
theorem run_append_none {P:Program} {w:World} (t ty e:TypeId) (i:TypeInfo) (ht:P.underlying t=some (.slice e)) (hi:P.info? e=some i)
  (A:Option Addr) (n:Nat) (B:Option Addr) (c:Nat) :
  (Builtin.append_ #[t,t] ty #[.slice A n n,.slice B 0 c]).run P w=.ok (.slice A n n) w:=by
 cases A<;>cases B<;>simp [Builtin.append_,run_underlying ht,sizeOf,typeInfo,hi,Builtin.lenOf,Builtin.firstCells,storeCells,loadCells,loadCellsFrom]
theorem Zbm {P:Program} (w:World) {ops:Array Oper} {rest:List Oper} {o:Oper} {a:Act} {Q:Exit→Act→World→Prop} (hgd:o.guard=none) (s x:Operand) (t:TypeId)
  (ho:o.op=.call { callee:=.builtin .append,args:=#[s,x],argTypes:=#[t,t] })
  (e:TypeId) (i:TypeInfo) (ht:P.underlying t=some (.slice e)) (hi:P.info? e=some i)
  (A:Option Addr) (n:Nat) (hs:a.eval s=.slice A n n) (B:Option Addr) (c:Nat) (hx:a.eval x=.slice B 0 c)
  (h:wpList P ops Q rest (a.put o.dst (.slice A n n)) w):wpList P ops Q (o :: rest) a w:=by
 refine wpList_plain hgd fun K hK=>?_;have hrun:=run_append_none (P:=P) (w:=w) t o.type e i ht hi A n B c;unfold Oper.wp;simp [execOp,ho,resolve,invoke,builtin,hs,hx,hrun,Result.andThen];exact hK _ _ h
section
variable {w w':World} {S S':Nat→Prop}
end
mutual
def Dat.Vals (w:World) (S:Nat→Prop):Dat→List Value→Prop
 | .lit v,vs=>vs=[v]∧litOk v
 | .slice l,vs=>∃ A c,vs=[.slice A l.length c]∧l.length≤c∧Sl w S A l
 | .agg l,vs=>Dat.ValsAll w S l vs
def Dat.ValsAll (w:World) (S:Nat→Prop):List Dat→List Value→Prop
 | [],vs=>vs=[]
 | d :: r,vs=>∃ a b,vs=a++b∧Dat.Vals w S d a∧Dat.ValsAll w S r b
end
mutual
def Dat.Plain:Dat→Prop
 | .lit v=>v.oneCell'=true
 | .slice _=>True
 | .agg l=>Dat.PlainAll l
def Dat.PlainAll:List Dat→Prop
 | []=>True
 | d :: r=>Dat.Plain d∧Dat.PlainAll r
end
theorem Zcs {α:Type} {enc:α→Dat} (h:∀ a,(enc a).Plain):∀ l:List α,Dat.PlainAll (l.map enc)
 | []=>by simp [Dat.PlainAll]
 | a :: r=>by simp only [List.map_cons,Dat.PlainAll];exact⟨h a,Zcs h r⟩
section
variable {w w':World} {S S':Nat→Prop}
mutual
theorem Dat.Vals.keep (hk:Same S w w'):∀ (d:Dat) (vs:List Value),Dat.Vals w S d vs→Dat.Vals w' S d vs
 | .lit v,vs,h=>by unfold Dat.Vals at h ⊢;exact h
 | .slice l,vs,h=>by
  unfold Dat.Vals at h ⊢;obtain⟨A,c,h1,h2,h3⟩:=h;exact⟨A,c,h1,h2,h3.keep hk⟩
 | .agg l,vs,h=>by unfold Dat.Vals at h ⊢;exact Dat.ValsAll.keep hk l vs h
theorem Dat.ValsAll.keep (hk:Same S w w'):∀ (l:List Dat) (vs:List Value),Dat.ValsAll w S l vs→Dat.ValsAll w' S l vs
 | [],vs,h=>by unfold Dat.ValsAll at h ⊢;exact h
 | d :: r,vs,h=>by
  unfold Dat.ValsAll at h ⊢;obtain⟨a,b,e,h1,h2⟩:=h;exact⟨a,b,e,Dat.Vals.keep hk d a h1,Dat.ValsAll.keep hk r b h2⟩
end
mutual
theorem Dat.Vals.more (hk:∀ b,S b→S' b):∀ (d:Dat) (vs:List Value),Dat.Vals w S d vs→Dat.Vals w S' d vs
 | .lit v,vs,h=>by unfold Dat.Vals at h ⊢;exact h
 | .slice l,vs,h=>by
  unfold Dat.Vals at h ⊢;obtain⟨A,c,h1,h2,h3⟩:=h;exact⟨A,c,h1,h2,h3.more hk⟩
 | .agg l,vs,h=>by unfold Dat.Vals at h ⊢;exact Dat.ValsAll.more hk l vs h
theorem Dat.ValsAll.more (hk:∀ b,S b→S' b):∀ (l:List Dat) (vs:List Value),Dat.ValsAll w S l vs→Dat.ValsAll w S' l vs
 | [],vs,h=>by unfold Dat.ValsAll at h ⊢;exact h
 | d :: r,vs,h=>by
  unfold Dat.ValsAll at h ⊢;obtain⟨a,b,e,h1,h2⟩:=h;exact⟨a,b,e,Dat.Vals.more hk d a h1,Dat.ValsAll.more hk r b h2⟩
end
mutual
theorem Dat.Vals.len:∀ (d:Dat) (vs:List Value),Dat.Vals w S d vs→vs.length=d.size
 | .lit v,vs,h=>by unfold Dat.Vals at h;rw [h.1];simp [Dat.size]
 | .slice l,vs,h=>by
  unfold Dat.Vals at h;obtain⟨A,c,h1,_⟩:=h;rw [h1];simp [Dat.size]
 | .agg l,vs,h=>by unfold Dat.Vals at h;simp only [Dat.size];exact Dat.ValsAll.len l vs h
theorem Dat.ValsAll.len:∀ (l:List Dat) (vs:List Value),Dat.ValsAll w S l vs→vs.length=Dat.sizes l
 | [],vs,h=>by unfold Dat.ValsAll at h;rw [h];simp [Dat.sizes]
 | d :: r,vs,h=>by
  unfold Dat.ValsAll at h;obtain⟨a,b,e,h1,h2⟩:=h;rw [e,List.length_append,Dat.Vals.len d a h1,Dat.ValsAll.len r b h2];simp [Dat.sizes]
end
mutual
theorem Dat.Vals.one:∀ (d:Dat) (vs:List Value),d.Plain→Dat.Vals w S d vs→∀ u ∈ vs,u.oneCell'=true
 | .lit v,vs,hp,h,u,hu=>by
  unfold Dat.Vals at h;unfold Dat.Plain at hp;rw [h.1] at hu;rw [List.mem_singleton] at hu;rw [hu];exact hp
 | .slice l,vs,hp,h,u,hu=>by
  unfold Dat.Vals at h;obtain⟨A,c,h1,_⟩:=h;rw [h1,List.mem_singleton] at hu;rw [hu];rfl
 | .agg l,vs,hp,h,u,hu=>by
  unfold Dat.Vals at h;unfold Dat.Plain at hp;exact Dat.ValsAll.one l vs hp h u hu
theorem Dat.ValsAll.one:∀ (l:List Dat) (vs:List Value),Dat.PlainAll l→Dat.ValsAll w S l vs→∀ u ∈ vs,u.oneCell'=true
 | [],vs,_,h,u,hu=>by unfold Dat.ValsAll at h;rw [h] at hu;simp at hu
 | d :: r,vs,hp,h,u,hu=>by
  unfold Dat.ValsAll at h;unfold Dat.PlainAll at hp;obtain⟨a,b,e,h1,h2⟩:=h;rw [e,List.mem_append] at hu;rcases hu with hu | hu
  · exact Dat.Vals.one d a hp.1 h1 u hu
  · exact Dat.ValsAll.one r b hp.2 h2 u hu
end
def CellsAt (w:World) (b off:Nat) (vs:List Value):Prop:=∀ j u,vs[j]?=some u→w.cell? ⟨b,off+j,none⟩=some u
theorem CellsAt.left {b off:Nat} {x y:List Value} (h:CellsAt w b off (x++y)):CellsAt w b off x:=fun j u hu=>h j u (by rw [List.getElem?_append_left (List.getElem?_eq_some_iff.1 hu).1];exact hu)
theorem CellsAt.right {b off:Nat} {x y:List Value} (h:CellsAt w b off (x++y)):CellsAt w b (off+x.length) y:=fun j u hu=>by
 have:=h (x.length+j) u (by rw [List.getElem?_append_right (by omega)];simpa using hu);rwa [show off+(x.length+j)=off+x.length+j by omega] at this
theorem CellsAt.join {b off:Nat} {x y:List Value} (h:CellsAt w b off x) (h':CellsAt w b (off+x.length) y):CellsAt w b off (x++y):=fun j u hu=>by
 rcases Nat.lt_or_ge j x.length with hj | hj
 · rw [List.getElem?_append_left hj] at hu;exact h j u hu
 · rw [List.getElem?_append_right hj] at hu;have:=h' (j - x.length) u hu;rwa [show off+x.length+(j - x.length)=off+j by omega] at this
theorem CellsAt.add {b off:Nat} {x:List Value} (h:CellsAt w b off x):∀ j u,x[j]?=some u→w.cell? ((⟨b,off,none⟩:Addr).add j)=some u:=fun j u hu=>by rw [ZbI];exact h j u hu
theorem CellsAt.keep {b off:Nat} {x:List Value} (h:CellsAt w b off x) (hk:w'.heap[b]?=w.heap[b]?):CellsAt w' b off x:=fun j u hu=>(World.cell?_of_block (w:=w) (a:=⟨b,off+j,none⟩) hk).trans (h j u hu)
mutual
theorem held_cells:∀ (d:Dat) (b off:Nat),Dat.Held w S d b off→∃ vs,Dat.Vals w S d vs∧CellsAt w b off vs
 | .lit v,b,off,h=>by
  unfold Dat.Held at h;refine⟨[v],by unfold Dat.Vals;exact⟨rfl,h.2⟩,fun j u hu=>?_⟩;cases j with
  | zero=>simp only [List.getElem?_cons_zero,Option.some.injEq] at hu;subst hu;exact h.1
  | succ j=>simp at hu
 | .slice l,b,off,h=>by
  unfold Dat.Held at h;obtain⟨A,c,h1,h2,h3,h4⟩:=h;refine⟨[.slice A l.length c],by unfold Dat.Vals;exact⟨A,c,rfl,h2,h3,h4⟩,fun j u hu=>?_⟩;cases j with
  | zero=>simp only [List.getElem?_cons_zero,Option.some.injEq] at hu;subst hu;exact h1
  | succ j=>simp at hu
 | .agg l,b,off,h=>by unfold Dat.Held at h;unfold Dat.Vals;exact heldAll_cells l b off h
theorem heldAll_cells:∀ (l:List Dat) (b off:Nat),Dat.HeldAll w S l b off→∃ vs,Dat.ValsAll w S l vs∧CellsAt w b off vs
 | [],b,off,_=>⟨[],by unfold Dat.ValsAll;rfl,fun j u hu=>by simp at hu⟩
 | d :: r,b,off,h=>by
  unfold Dat.HeldAll at h;obtain⟨v1,h1,h2⟩:=held_cells d b off h.1;obtain⟨v2,h3,h4⟩:=heldAll_cells r b _ h.2;refine⟨v1++v2,by unfold Dat.ValsAll;exact⟨v1,v2,rfl,h1,h3⟩,h2.join ?_⟩;rw [Dat.Vals.len d v1 h1];exact h4
end
mutual
theorem held_of_cells:∀ (d:Dat) (vs:List Value) (b off:Nat),Dat.Vals w S d vs→CellsAt w b off vs→Dat.Held w S d b off
 | .lit v,vs,b,off,h,hc=>by
  unfold Dat.Vals at h;unfold Dat.Held;exact⟨hc 0 v (by rw [h.1];rfl),h.2⟩
 | .slice l,vs,b,off,h,hc=>by
  unfold Dat.Vals at h;unfold Dat.Held;obtain⟨A,c,h1,h2,h3,h4⟩:=h;exact⟨A,c,hc 0 _ (by rw [h1];rfl),h2,h3,h4⟩
 | .agg l,vs,b,off,h,hc=>by unfold Dat.Vals at h;unfold Dat.Held;exact heldAll_of_cells l vs b off h hc
theorem heldAll_of_cells:∀ (l:List Dat) (vs:List Value) (b off:Nat),Dat.ValsAll w S l vs→CellsAt w b off vs→Dat.HeldAll w S l b off
 | [],vs,b,off,_,_=>by unfold Dat.HeldAll;trivial
 | d :: r,vs,b,off,h,hc=>by
  unfold Dat.ValsAll at h;unfold Dat.HeldAll;obtain⟨x,y,e,h1,h2⟩:=h;subst e;refine⟨held_of_cells d x b off h1 hc.left,heldAll_of_cells r y b _ h2 ?_⟩;have:=hc.right;rwa [Dat.Vals.len d x h1] at this
end
theorem Sl.vals {A:Option Addr} {l:List Dat} (h:Sl w S A l):∃ vs,Dat.ValsAll w S l vs∧(0<l.length→∃ b off,A=some ⟨b,off,none⟩∧S b∧CellsAt w b off vs):=by
 rcases Nat.eq_zero_or_pos l.length with h0 | h0
 · have:l=[]:=List.eq_nil_of_length_eq_zero h0;subst this;exact⟨[],by unfold Dat.ValsAll;rfl,fun h=>by simp at h⟩
 · obtain⟨b,off,e,hb,hc⟩:=h.2 h0;obtain⟨vs,h1,h2⟩:=heldAll_cells l b off hc;exact⟨vs,h1,fun _=>⟨b,off,e,hb,h2⟩⟩
theorem Sl.of_vals {A:Option Addr} {l:List Dat} {vs:List Value} (hl:Dat.bytesAll l≤140737488355328) (h:Dat.ValsAll w S l vs) (hc:0<l.length→∃ b off,A=some ⟨b,off,none⟩∧S b∧CellsAt w b off vs):Sl w S A l :=
 ⟨hl,fun hn=>by
  obtain⟨b,off,e,hb,h1⟩:=hc hn;exact⟨b,off,e,hb,heldAll_of_cells l vs b off h h1⟩⟩
theorem Zav:∀ {l l':List Dat} {vs vs':List Value},Dat.ValsAll w S l vs→Dat.ValsAll w S l' vs'→Dat.ValsAll w S (l++l') (vs++vs')
 | [],_,_,_,h,h'=>by unfold Dat.ValsAll at h;rw [h];exact h'
 | d :: r,l',vs,vs',h,h'=>by
  unfold Dat.ValsAll at h;obtain⟨a,b,e,h1,h2⟩:=h;rw [List.cons_append];unfold Dat.ValsAll;exact⟨a,b++vs',by rw [e,List.append_assoc],h1,Zav h2 h'⟩
theorem ZaA {d:Dat} {vs:List Value} (h:Dat.Vals w S d vs):Dat.ValsAll w S [d] vs:=by
 unfold Dat.ValsAll;exact⟨vs,[],by simp,h,by unfold Dat.ValsAll;rfl⟩
theorem ZbM:∀ {l l':List Dat} {vs:List Value},Dat.ValsAll w S (l++l') vs→∃ a b,vs=a++b∧Dat.ValsAll w S l a∧Dat.ValsAll w S l' b
 | [],_,vs,h=>⟨[],vs,by simp,by unfold Dat.ValsAll;rfl,h⟩
 | d :: r,l',vs,h=>by
  rw [List.cons_append] at h;unfold Dat.ValsAll at h;obtain⟨a,b,e,h1,h2⟩:=h;obtain⟨x,y,e',h3,h4⟩:=ZbM h2;exact⟨a++x,y,by rw [e,e',List.append_assoc],by unfold Dat.ValsAll;exact⟨a,x,rfl,h1,h3⟩,h4⟩
theorem ZcH {n:Nat}:∀ {l:List Dat},(∀ d ∈ l,d.size=n)→Dat.sizes l=l.length*n
 | [],_=>by simp [Dat.sizes]
 | d :: r,h=>by
  have h1:=h d (by simp);have h2:=ZcH (l:=r) (fun x hx=>h x (by simp [hx]));simp only [Dat.sizes,List.length_cons,Nat.succ_mul,h1,h2];omega
theorem ZaZ {α:Type} {enc:α→Dat} {n:Nat} (h:∀ a,(enc a).size=n) (l:List α):Dat.sizes (l.map enc)=l.length*n:=by
 rw [ZcH (n:=n) (fun d hd=>by obtain⟨a,_,rfl⟩:=List.mem_map.1 hd;exact h a),List.length_map]
theorem Zbq {α:Type} {enc:α→Dat} {n:Nat} (hs:∀ a,(enc a).size=n) {l:List α} {vs:List Value} (h:Dat.ValsAll w S (l.map enc) vs) (k:Nat) (hk:k≤l.length):Dat.ValsAll w S ((l.take k).map enc) (vs.take (k*n))∧Dat.ValsAll w S ((l.drop k).map enc) (vs.drop (k*n)):=by
 rw [←List.take_append_drop k l,List.map_append] at h;obtain⟨a,b,e,h1,h2⟩:=ZbM h;have hl:a.length=k*n:=(by rw [Dat.ValsAll.len _ a h1,ZaZ hs,List.length_take,Nat.min_eq_left hk]);subst e;rw [←hl,List.take_left,List.drop_left];exact⟨h1,h2⟩
end
def OwnD (w:World) (base:Nat) (e:TypeId) (size:Nat) (S:Nat→Prop) (v:Value) (l:List Dat):Prop :=
 ∃ vals,w.ownsRow base e size v l.length vals∧Dat.ValsAll w S l vals∧∀ b,S b→b<w.heap.size∧some b≠v.ownBlock
section
variable {w w':World} {S S':Nat→Prop} {base size:Nat} {e:TypeId} {v v':Value} {l:List Dat}
theorem OwnD.nil_ (hS:∀ b,S b→b<w.heap.size):OwnD w base e size S (.slice none 0 0) [] :=
 ⟨[],World.ownsRow_nil _ _ _ _,by unfold Dat.ValsAll;rfl,fun b hb=>⟨hS b hb,by simp [Value.ownBlock]⟩⟩
theorem ZaU {n:Nat} {xs:List Value} (h:w.ownsRow base e size v n xs) (hk:∀ g,v.ownBlock=some g→w'.heap[g]?=w.heap[g]?):w'.ownsRow base e size v n xs:=by
 refine⟨h.1,?_⟩;rcases h.2 with h0 | ⟨g,cap,cur,rfl,h1,h2,h3⟩
 · exact .inl h0
 · exact .inr ⟨g,cap,cur,rfl,h1,(hk g rfl).trans h2,h3⟩
theorem OwnD.keep (h:OwnD w base e size S v l) (hsz:w.heap.size≤w'.heap.size) (hk:Same S w w') (hv:∀ g,v.ownBlock=some g→w'.heap[g]?=w.heap[g]?):OwnD w' base e size S v l:=by
 obtain⟨vals,h1,h2,h3⟩:=h;exact⟨vals,ZaU h1 hv,Dat.ValsAll.keep hk l vals h2,fun b hb=>⟨Nat.lt_of_lt_of_le (h3 b hb).1 hsz,(h3 b hb).2⟩⟩
theorem ZaE {n:Nat} {xs:List Value} (h:w.ownsRow base e size v n xs) {g:Nat} (hg:v.ownBlock=some g):g<w.heap.size:=by
 obtain⟨_,cur,hh⟩:=Zef h hg;exact Zad hh
theorem OwnD.below (h:OwnD w base e size S v l) (hb:Below w.heap.size w w'):OwnD w' base e size S v l:=by
 obtain⟨vals,h1,h2,h3⟩:=h;exact OwnD.keep ⟨vals,h1,h2,h3⟩ hb.size (fun b hb'=>hb.block b (h3 b hb').1) (fun g hg=>hb.block g (ZaE h1 hg))
theorem OwnD.more (h:OwnD w base e size S v l) (hS:∀ b,S b→S' b) (hS':∀ b,S' b→b<w.heap.size∧some b≠v.ownBlock):OwnD w base e size S' v l:=by
 obtain⟨vals,h1,h2,h3⟩:=h;exact⟨vals,h1,Dat.ValsAll.more hS l vals h2,hS'⟩
theorem Zhr {vals news:List Value} {d:Dat} {g cap n:Nat} (hv:Dat.ValsAll w S l vals) (hd:Dat.Vals w S d news) (hS:∀ b,S b→b<w.heap.size∧some b≠v.ownBlock) (hn:n=l.length+1)
  (hown:w'.ownsRow base e size (.slice (some ⟨g,0,none⟩) n cap) n (vals++news)) (hg:w.grownBy w' v.ownBlock) (hat:v.ownBlock=some g∨g=w.heap.size):OwnD w' base e size S (.slice (some ⟨g,0,none⟩) n cap) (l++[d]):=by
 have hk:Same S w w':=fun b hb=>hg.block b (hS b hb).1 (hS b hb).2;refine⟨vals++news,by rw [List.length_append,List.length_singleton,←hn];exact hown,Zav (Dat.ValsAll.keep hk _ _ hv) (ZaA (Dat.Vals.keep hk _ _ hd)),fun b hb=>⟨Nat.lt_of_lt_of_le (hS b hb).1 hg.size,?_⟩⟩;intro e';have e2:b=g:=(by simpa [Value.ownBlock] using e');rcases hat with hat | hat
 · exact(hS b hb).2 (by rw [hat,e2])
 · have:=(hS b hb).1;omega
theorem OwnD.slice {A:Option Addr} {n c:Nat} (h:OwnD w base e size S (.slice A n c) l) (hl:Dat.bytesAll l≤140737488355328) (hT:∀ b,S b→S' b) (hT':∀ g,base≤g→g<w.heap.size→(Value.slice A n c).ownBlock=some g→S' g):n=l.length∧n≤c∧Sl w S' A l:=by
 obtain⟨vals,h1,h2,h3⟩:=h
 have hn:n=l.length:=by
  rcases h1.2 with ⟨e1,h0⟩ | ⟨g,cap,cur,e1,_⟩
  · injection e1 with _ e2 _;omega
  · injection e1
 subst hn;refine⟨rfl,Zby h1 rfl,Sl.of_vals hl (Dat.ValsAll.more hT l vals h2) (fun h0=>?_)⟩;obtain⟨g,e1,hb,hlt,hc⟩:=Zck h1 h0;exact⟨g,0,e1,hT' g hb hlt (by rw [e1];rfl),fun j u hu=>by rw [Nat.zero_add];exact hc j u hu⟩
end
structure Fr (X:Nat→Prop) (w w':World):Prop where
 os:w'.os=w.os
 tape:w'.tape=w.tape
 output:w'.output=w.output
 size:w.heap.size≤w'.heap.size
 block:∀ b,b<w.heap.size→¬ X b→w'.heap[b]?=w.heap[b]?
section
variable {X Y:Nat→Prop} {w w' w'':World}
theorem Fr.refl (X:Nat→Prop) (w:World):Fr X w w:=⟨rfl,rfl,rfl,Nat.le_refl _,fun _ _ _=>rfl⟩
theorem Fr.trans (h:Fr X w w') (h':Fr Y w' w'') (hY:∀ b,b<w.heap.size→Y b→X b):Fr X w w'' :=
 ⟨h'.os.trans h.os,h'.tape.trans h.tape,h'.output.trans h.output,Nat.le_trans h.size h'.size,fun b hb hx=>(h'.block b (Nat.lt_of_lt_of_le hb h.size) (fun hy=>hx (hY b hb hy))).trans (h.block b hb hx)⟩
theorem Fr.of_below (h:Below w.heap.size w w'):Fr X w w':=⟨h.os,h.tape,h.output,h.size,fun b hb _=>h.block b hb⟩
theorem Fr.of_grown {r:Option Nat} (h:w.grownBy w' r) (hX:∀ b,b<w.heap.size→some b=r→X b):Fr X w w':=⟨h.os,h.tape,h.output,h.size,fun b hb hx=>h.block b hb (fun e=>hx (hX b hb e))⟩
theorem Fr.alloc (h:Fr X w w') (o:Obj):Fr X w (w'.alloc o):=h.trans (Y:=fun _=>False) (Fr.of_below ((Below.refl _ _).alloc nR o)) (fun _ _ h=>h.elim)
theorem Fr.drewN (h:Fr X w w') (n:Nat):Fr X w (w'.drewN n):=⟨h.os,h.tape,h.output,h.size,h.block⟩
theorem Fr.drew (h:Fr X w w'):Fr X w w'.drew:=⟨h.os,h.tape,h.output,h.size,h.block⟩
theorem Fr.same {S:Nat→Prop} (h:Fr X w w') (hS:∀ b,S b→b<w.heap.size∧¬ X b):Same S w w':=fun b hb=>h.block b (hS b hb).1 (hS b hb).2
theorem Fr.cell (h:Fr X w w') {b o:Nat} (hb:b<w.heap.size) (hx:¬ X b):w'.cell? ⟨b,o,none⟩=w.cell? ⟨b,o,none⟩:=World.cell?_of_block (h.block b hb hx)
theorem Fr.setCell (h:Fr X w w') {g o:Nat} (v:Value) (hg:g<w.heap.size→X g):Fr X w (w'.setCell ⟨g,o,none⟩ v) :=
 ⟨h.os,h.tape,h.output,by simpa using h.size,fun b hb hx=>(Below.heap_setCell w' ⟨g,o,none⟩ v b (fun e=>by subst e;exact hx (hg hb))).trans (h.block b hb hx)⟩
end
theorem rowVals_snoc (r:Row) (v:V):Zar (r++[v])=Zar r++[.int .i64 v.k,.int .i64 v.i,.string v.t]:=by
 induction r with
 | nil=>rfl
 | cons a r ih=>simp [Zar,ih]
theorem Fr.grown {w w':World} {g:Nat} (h:Fr (fun b=>b=g) w w'):w.grownBy w' (some g):=⟨h.os,h.tape,h.output,h.size,fun k hk hne=>h.block k hk (fun e=>hne (by rw [e]))⟩
theorem Zbp {w w':World} {g:Nat} (h:w.grownBy w' (some g)):Fr (fun b=>b=g) w w':=Fr.of_grown h (fun b _ e=>by injection e)
structure RowI (w wr:World) (g k:Nat) (r:Row) (A:Option Addr) (c:Nat):Prop where
 len:r.length=k
 own:wr.ownsRow w.heap.size 51 3 (.slice A k c) k (Zar r)
 case:CaseOk wr g
 fr:Fr (fun b=>b=g) w wr
section
variable {w wr w2 w3:World} {g k c c':Nat} {r:Row} {A A':Option Addr} {v:V} {o:Obj}
theorem RowI.start (hc:CaseOk w g):RowI w w g 0 [] none 0:=⟨rfl,World.ownsRow_nil _ _ _ _,hc,Fr.refl _ _⟩
theorem RowI.ready (h:RowI w wr g k r A c) (hg:g<w.heap.size) (h2:wr.grownBy w2 (some g)) (o:Obj):(w2.alloc o).ownsRow w.heap.size 51 3 (.slice A k c) k (Zar r)∧w.heap.size≤(w2.alloc o).heap.size:=by
 refine⟨(h.own.kept h2 (.inr fun e=>?_)).alloc o,by have:=h.fr.size;have:=h2.size;simp;omega⟩;have:=ZaF h.own e;omega
theorem RowI.push (h:RowI w wr g k r A c) (hg:g<w.heap.size) (hc2:CaseOk w2 g) (h2:wr.grownBy w2 (some g))
  (hown:w3.ownsRow w.heap.size 51 3 (.slice A' (k+1) c') (k+1) (Zar r++[.int .i64 v.k,.int .i64 v.i,.string v.t])) (hg3:(w2.alloc o).grownBy w3 (Value.slice A k c).ownBlock):RowI w w3 g (k+1) (r++[v]) A' c':=by
 have hb:=fun b (e:some b=(Value.slice A k c).ownBlock)=>ZaF h.own e.symm;have h0:=h.fr.size;have h1:=h2.size;refine⟨by simp [h.len],by rw [rowVals_snoc];exact hown,hc2.keep (fun b hb'=>?_),?_⟩
 · refine(hg3.block b (by simp;omega) (fun e=>?_)).trans (Below.heap_alloc w2 o b (by omega));have:=hb b e;omega
 · refine(h.fr.trans (Zbp h2) (fun _ _ e=>e)).trans (Y:=fun b=>some b=(Value.slice A k c).ownBlock) ?_ (fun b hb' e=>by have:=hb b e;omega);exact⟨hg3.os,hg3.tape,hg3.output,by have:=hg3.size;simp at this;omega,fun b hb' hne=>(hg3.block b (by simp;omega) hne).trans (Below.heap_alloc w2 o b hb')⟩
end
def ZhI (key m:Int) (ks:List Int) (r:Row):Prop:=r.length=ks.length∧∀ i,i<ks.length→Zaz m key (Zda (ks.getD i 0)) i (r.getD i v0)=true
def RowGenK (key m:Int) (ks:List Int) (k:Nat) (r:Row):Prop:=r.length=k∧∀ i,i<k→Zaz m key (Zda (ks.getD i 0)) i (r.getD i v0)=true
theorem RowGenK.push {key m:Int} {ks:List Int} {k:Nat} {r:Row} {v:V} (h:RowGenK key m ks k r) (hv:Zaz m key (Zda (ks.getD k 0)) k v=true):RowGenK key m ks (k+1) (r++[v]):=by
 refine⟨by simp [h.1],fun i hi=>?_⟩
 by_cases e:i<k
 · have:(r++[v]).getD i v0=r.getD i v0:=(by simp [List.getD,List.getElem?_append_left (show i<r.length by rw [h.1];exact e)]);rw [this];exact h.2 i e
 · have e':i=k:=(by omega);subst e';have:(r++[v]).getD i v0=v:=(by simp [List.getD,←h.1]);rw [this];exact hv
theorem Zfc {key m:Int} {kd:Int} {k:Nat} (h1:key≤k) (h2:m≠1):Zaz m key kd k ⟨2,0,⟨#[]⟩⟩=true:=by simp [Zaz,Zan,h1,h2]
theorem fits_missing {key m:Int} {kd:Int} {k:Nat} (h1:key≤k) (h2:m=3):Zaz m key kd k ⟨1,0,⟨#[]⟩⟩=true:=by simp [Zaz,Zan,h1,h2]
theorem ZdU {key m kd:Int} {k:Nat} {v:V} (h:ZfT kd v):Zaz m key kd k v=true:=by simp [Zaz,h.1,h.2]
def RowPost (key m:Int) (ks:List Int) (w:World) (g:Nat) (e:Ending) (w':World):Prop :=
 ∃ r A c,e=.returned (.slice A r.length c)∧ZhI key m ks r∧w'.ownsRow w.heap.size 51 3 (.slice A r.length c) r.length (Zar r)∧CaseOk w' g∧w.grownBy w' (some g)
theorem row_any (g:Nat) (K:Option Addr) (ck:Nat) (ks:List Int) (key m:Int) (S:Nat→Prop) (w:World) (hks:IntS w S K ks) (hS:∀ b,S b→b<w.heap.size∧b≠g) (hl:ks.length≤1000000) (hc:CaseOk w g) :
  Calls Try.prog 14 #[.pointer (some ⟨g,0,none⟩),.slice K ks.length ck,.int .i64 key,.int .i64 m] w (RowPost key m ks w g):=by
 obtain⟨i0,hi,hz0,hz1,hz2⟩:=info_parts infoV;have hgl:=hc.lt;have HKS:=hI hks;have HI0:=hI (RowI.start hc);clear hks hc;go_enter Try.func14,Try.ntmps14
 go_wp2_with fail
 go_loopw [9,14] (fun out i wr=>∃ (k:Nat) (r:Row) (A:Option Addr) (c:Nat),k≤ks.length∧i=.int .i64 k∧out=.slice A k c∧RowI w wr g k r A c∧RowGenK key m ks k r) (fun _ i _=>ks.length - (intOf i).toNat)
 case atStart=>exact⟨0,[],none,0,Nat.zero_le _,rfl,rfl,HI0.out,rfl,fun i hi=>by omega⟩
 case round =>
  obtain⟨k,r,A,c,hk,rfl,rfl,hri,hgen⟩:=hrel;have HRI:=hI hri;have HGEN:=hI hgen;have hszr:=hri.fr.size;clear hri hgen
  by_cases hlt:k<ks.length
  · obtain⟨b1,o1,rfl,hb1,d1⟩:=(HKS.out.keep (HRI.out.fr.same (fun b hb=>hS b hb))).at_ hlt;have hb1l:b1<wr.heap.size:=(by have:=(hS b1 hb1).1;omega);have HC:=hI HRI.out.case;generalize hkd:ks.getD k 0=kd at d1;have HKD:=hI hkd;clear hkd
    have FIN:∀ (v:V) (A':Option Addr) (c':Nat) (w3:World),RowI w w3 g (k+1) (r++[v]) A' c'→Zaz m key (Zda kd) k v=true→∃ (k':Nat) (r':Row) (A'':Option Addr) (c'':Nat),k'≤ks.length∧Value.int .i64 ((k:Int)+1)=.int .i64 k'∧Value.slice A' (k+1) c'=.slice A'' k' c''∧RowI w w3 g k' r' A'' c''∧RowGenK key m ks k' r' :=
     fun v A' c' w3 h1 h2=>⟨k+1,r++[v],A',c',by omega,by go_num,rfl,h1,HGEN.out.push (by rw [HKD.out];exact h2)⟩
    have HFIN:=hI FIN;clear FIN
    by_cases h1:key≤(k:Int)
    · by_cases h2:m=1
      · subst h2
        go_wp2_with fail
        have HCV:=HC;have HGV:=hI (World.grownBy.refl wr (some g));refine(ZbC g kd _ HCV.out).mono ?_;rintro e wv ⟨⟨vk,vi,vt⟩,rfl,hv,hcv,hgv⟩;have HV:=hI hv;have HCW:=hI hcv;have HGW:=hI (HGV.out.trans hgv);clear hv hcv hgv
        go_wp2_with (at_builtin;obtain⟨ho,hbs⟩:=HRI.out.ready (w2:=wv) hgl HGW.out (.cells #[.int .i64 vk,.int .i64 vi,.string vt] 51);refine Zam _ rfl (.tmp 19) (.tmp 23) 27 rfl w.heap.size 51 i0 _ 3 32 Try.underlying27 hi hz0 hz1 hz2 rfl (by decide) (.slice A k c) k (Zar r) rfl ho ⟨wv.heap.size,0,none⟩ 1 1 [.int .i64 vk,.int .i64 vi,.string vt] rfl rfl (World.news_of_block (heap_alloc_new wv (.cells #[.int .i64 vk,.int .i64 vi,.string vt] 51))) (by simp [Value.oneCell']) (by unfold maxLen;omega) (by omega) hbs ?_;intro A3 c3 w3 hown3 hg3;have HP:=hI (HRI.out.push (v:=⟨vk,vi,vt⟩) hgl HCW.out HGW.out hown3 hg3);clear ho hbs hown3 hg3)
        go_roundw
        case rel=>exact HFIN.out _ _ _ _ HP.out (ZdU HV.out)
        case measure=>simp [intOf];omega
      · have h2':(m != 1)=true:=(by simp [h2]);have h2'':(m == 1)=false:=beq_eq_false_iff_ne.2 h2;have H2:=hI h2
        by_cases h3:m=3
        · subst h3;clear h2
          go_wp2_with fail
          refine(ZaK g 5 _ (by omega) (by omega) HC.out).mono ?_;rintro e wb ⟨bb,rfl,hcb,hgb,hsb⟩;have HCW:=hI hcb;have HGW:=hI hgb;clear hcb hgb hsb;cases bb
          · go_wp2_with fail
            refine(ZaK g 5 _ (by omega) (by omega) HCW.out).mono ?_;rintro e wb2 ⟨bb,rfl,hcb,hgb,hsb⟩;have HCV:=hI hcb;have HGV:=hI (HGW.out.trans hgb);clear hcb hgb hsb HCW HGW;cases bb
            · go_wp2_with fail
              refine(ZbC g kd _ HCV.out).mono ?_;rintro e wv ⟨⟨vk,vi,vt⟩,rfl,hv,hcv,hgv⟩;have HV:=hI hv;have HCW:=hI hcv;have HGW:=hI (HGV.out.trans hgv);clear hv hcv hgv
              go_wp2_with (at_builtin;obtain⟨ho,hbs⟩:=HRI.out.ready (w2:=wv) hgl HGW.out (.cells #[.int .i64 vk,.int .i64 vi,.string vt] 51);refine Zam _ rfl (.tmp 19) (.tmp 23) 27 rfl w.heap.size 51 i0 _ 3 32 Try.underlying27 hi hz0 hz1 hz2 rfl (by decide) (.slice A k c) k (Zar r) rfl ho ⟨wv.heap.size,0,none⟩ 1 1 [.int .i64 vk,.int .i64 vi,.string vt] rfl rfl (World.news_of_block (heap_alloc_new wv (.cells #[.int .i64 vk,.int .i64 vi,.string vt] 51))) (by simp [Value.oneCell']) (by unfold maxLen;omega) (by omega) hbs ?_;intro A3 c3 w3 hown3 hg3;have HP:=hI (HRI.out.push (v:=⟨vk,vi,vt⟩) hgl HCW.out HGW.out hown3 hg3);clear ho hbs hown3 hg3)
              go_roundw
              case rel=>exact HFIN.out _ _ _ _ HP.out (ZdU HV.out)
              case measure=>simp [intOf];omega
            · have HCW:=HCV;have HGW:=HGV
              go_wp2_with (at_builtin;obtain⟨ho,hbs⟩:=HRI.out.ready (w2:=wb2) hgl HGW.out (.cells #[.int .i64 1,.int .i64 0,.string ⟨#[]⟩] 51);refine Zam _ rfl (.tmp 53) (.tmp 55) 27 rfl w.heap.size 51 i0 _ 3 32 Try.underlying27 hi hz0 hz1 hz2 rfl (by decide) (.slice A k c) k (Zar r) rfl ho ⟨wb2.heap.size,0,none⟩ 1 1 [.int .i64 1,.int .i64 0,.string ⟨#[]⟩] rfl rfl (World.news_of_block (heap_alloc_new wb2 (.cells #[.int .i64 1,.int .i64 0,.string ⟨#[]⟩] 51))) (by simp [Value.oneCell']) (by unfold maxLen;omega) (by omega) hbs ?_;intro A3 c3 w3 hown3 hg3;have HP:=hI (HRI.out.push (v:=⟨1,0,⟨#[]⟩⟩) hgl HCW.out HGW.out hown3 hg3);clear ho hbs hown3 hg3)
              go_roundw
              case rel=>exact HFIN.out _ _ _ _ HP.out (fits_missing h1 rfl)
              case measure=>simp [intOf];omega
          · go_wp2_with (at_builtin;obtain⟨ho,hbs⟩:=HRI.out.ready (w2:=wb) hgl HGW.out (.cells #[.int .i64 2,.int .i64 0,.string ⟨#[]⟩] 51);refine Zam _ rfl (.tmp 37) (.tmp 39) 27 rfl w.heap.size 51 i0 _ 3 32 Try.underlying27 hi hz0 hz1 hz2 rfl (by decide) (.slice A k c) k (Zar r) rfl ho ⟨wb.heap.size,0,none⟩ 1 1 [.int .i64 2,.int .i64 0,.string ⟨#[]⟩] rfl rfl (World.news_of_block (heap_alloc_new wb (.cells #[.int .i64 2,.int .i64 0,.string ⟨#[]⟩] 51))) (by simp [Value.oneCell']) (by unfold maxLen;omega) (by omega) hbs ?_;intro A3 c3 w3 hown3 hg3;have HP:=hI (HRI.out.push (v:=⟨2,0,⟨#[]⟩⟩) hgl HCW.out HGW.out hown3 hg3);clear ho hbs hown3 hg3)
            go_roundw
            case rel=>exact HFIN.out _ _ _ _ HP.out (Zfc h1 H2.out)
            case measure=>simp [intOf];omega
        · have h3':(m == 3)=false:=beq_eq_false_iff_ne.2 h3;clear h2 h3
          go_wp2_with fail
          refine(ZaK g 5 _ (by omega) (by omega) HC.out).mono ?_;rintro e wb ⟨bb,rfl,hcb,hgb,hsb⟩;have HCW:=hI hcb;have HGW:=hI hgb;clear hcb hgb hsb;cases bb
          · go_wp2_with fail
            have HCV:=HCW;have HGV:=HGW;clear HCW HGW;refine(ZbC g kd _ HCV.out).mono ?_;rintro e wv ⟨⟨vk,vi,vt⟩,rfl,hv,hcv,hgv⟩;have HV:=hI hv;have HCW:=hI hcv;have HGW:=hI (HGV.out.trans hgv);clear hv hcv hgv
            go_wp2_with (at_builtin;obtain⟨ho,hbs⟩:=HRI.out.ready (w2:=wv) hgl HGW.out (.cells #[.int .i64 vk,.int .i64 vi,.string vt] 51);refine Zam _ rfl (.tmp 19) (.tmp 23) 27 rfl w.heap.size 51 i0 _ 3 32 Try.underlying27 hi hz0 hz1 hz2 rfl (by decide) (.slice A k c) k (Zar r) rfl ho ⟨wv.heap.size,0,none⟩ 1 1 [.int .i64 vk,.int .i64 vi,.string vt] rfl rfl (World.news_of_block (heap_alloc_new wv (.cells #[.int .i64 vk,.int .i64 vi,.string vt] 51))) (by simp [Value.oneCell']) (by unfold maxLen;omega) (by omega) hbs ?_;intro A3 c3 w3 hown3 hg3;have HP:=hI (HRI.out.push (v:=⟨vk,vi,vt⟩) hgl HCW.out HGW.out hown3 hg3);clear ho hbs hown3 hg3)
            go_roundw
            case rel=>exact HFIN.out _ _ _ _ HP.out (ZdU HV.out)
            case measure=>simp [intOf];omega
          · go_wp2_with (at_builtin;obtain⟨ho,hbs⟩:=HRI.out.ready (w2:=wb) hgl HGW.out (.cells #[.int .i64 2,.int .i64 0,.string ⟨#[]⟩] 51);refine Zam _ rfl (.tmp 37) (.tmp 39) 27 rfl w.heap.size 51 i0 _ 3 32 Try.underlying27 hi hz0 hz1 hz2 rfl (by decide) (.slice A k c) k (Zar r) rfl ho ⟨wb.heap.size,0,none⟩ 1 1 [.int .i64 2,.int .i64 0,.string ⟨#[]⟩] rfl rfl (World.news_of_block (heap_alloc_new wb (.cells #[.int .i64 2,.int .i64 0,.string ⟨#[]⟩] 51))) (by simp [Value.oneCell']) (by unfold maxLen;omega) (by omega) hbs ?_;intro A3 c3 w3 hown3 hg3;have HP:=hI (HRI.out.push (v:=⟨2,0,⟨#[]⟩⟩) hgl HCW.out HGW.out hown3 hg3);clear ho hbs hown3 hg3)
            go_roundw
            case rel=>exact HFIN.out _ _ _ _ HP.out (Zfc h1 H2.out)
            case measure=>simp [intOf];omega
    · have hd:decide (key≤(k:Int))=false:=(by simpa using h1);have HCV:=HC;have HGV:=hI (World.grownBy.refl wr (some g))
      go_wp2_with fail
      refine(ZbC g kd _ HCV.out).mono ?_;rintro e wv ⟨⟨vk,vi,vt⟩,rfl,hv,hcv,hgv⟩;have HV:=hI hv;have HCW:=hI hcv;have HGW:=hI (HGV.out.trans hgv);clear hv hcv hgv
      go_wp2_with (at_builtin;obtain⟨ho,hbs⟩:=HRI.out.ready (w2:=wv) hgl HGW.out (.cells #[.int .i64 vk,.int .i64 vi,.string vt] 51);refine Zam _ rfl (.tmp 19) (.tmp 23) 27 rfl w.heap.size 51 i0 _ 3 32 Try.underlying27 hi hz0 hz1 hz2 rfl (by decide) (.slice A k c) k (Zar r) rfl ho ⟨wv.heap.size,0,none⟩ 1 1 [.int .i64 vk,.int .i64 vi,.string vt] rfl rfl (World.news_of_block (heap_alloc_new wv (.cells #[.int .i64 vk,.int .i64 vi,.string vt] 51))) (by simp [Value.oneCell']) (by unfold maxLen;omega) (by omega) hbs ?_;intro A3 c3 w3 hown3 hg3;have HP:=hI (HRI.out.push (v:=⟨vk,vi,vt⟩) hgl HCW.out HGW.out hown3 hg3);clear ho hbs hown3 hg3)
      go_roundw
      case rel=>exact HFIN.out _ _ _ _ HP.out (ZdU HV.out)
      case measure=>simp [intOf];omega
  · go_wp2_with fail
    go_ret;obtain rfl:k=ks.length:=(by omega);have hl:=HRI.out.len;refine⟨r,A,c,by rw [hl];rfl,⟨HGEN.out.1,HGEN.out.2⟩,by rw [hl];exact HRI.out.own,HRI.out.case,HRI.out.fr.grown⟩
end Go.Proofs.Ytkpjjfhfbpfjpaa
