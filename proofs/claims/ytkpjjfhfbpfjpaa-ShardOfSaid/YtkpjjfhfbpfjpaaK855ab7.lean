import Derived.Test.YtkpjjfhfbpfjpaaK6b6f2e
import Derived.Test.YtkpjjfhfbpfjpaaK40cf09
import Derived.Test.YtkpjjfhfbpfjpaaKf89ebb
import Derived.Test.YtkpjjfhfbpfjpaaK64d55c
set_option linter.unusedVariables false
set_option linter.unusedSimpArgs false
set_option maxRecDepth 100000
set_option maxHeartbeats 8000000
namespace Go.Proofs.Ytkpjjfhfbpfjpaa
open Go.RowKit
def SubK (S:Nat→Prop) (r:Row) (w:World) (e:Ending) (w':World):Prop:=∃ A' c,e=.returned (.slice A' r.length c)∧RowS w' S A' r∧Below w.heap.size w w'
theorem ZdU {K:Act→World→Prop} {a:Act} {d:Option Tmp} {v v':Value} {w:World} (h:v'=v) (hk:K (a.put d v') w):K (a.put d v) w:=h ▸ hk
theorem Zbu (A0:Option Addr) (c0':Nat) (s:Sch) (ch:Chg) (A:Option Addr) (ca:Nat) (B:Option Addr) (cb:Nat) (S:Nat→Prop) (w:World) (hs:TabS w S A0 s.tabs) (ho:RowS w S A ch.old) (hca:ch.old.length≤ca) (hn:RowS w S B ch.new) (hcb:ch.new.length≤cb) (hS:∀ b,S b→b<w.heap.size) :
  Calls Try.prog 78 #[sAgg s.version A0 s.tabs.length c0',Zfz ch.table A ch.old.length ca B ch.new.length cb] w (SubK S (keyC s ch) w):=by
 have hol:=ho.len;have hnl:=hn.len;have HO:=hI ho;have HN:=hI hn;have HCA:=hI hca;have HCB:=hI hcb;have HS:=hI hs;have HK:=hI (show keyC s ch=if 0<ch.old.length then keyF s ch.table ch.old else keyF s ch.table ch.new from rfl);clear ho hn hca hcb hs;have HB0:=hI (((Below.refl w.heap.size w).alloc nR (.cells #[.int .i64 s.version,.slice A0 s.tabs.length c0'] 25)).alloc (by simp) (.cells #[.int .i64 ch.table,.slice A ch.old.length ca,.slice B ch.new.length cb] 53))
 by_cases h0:0<ch.old.length
 · have hd:decide (0<ch.old.length)=true:=(by simpa using h0);rw [if_pos h0] at HK;clear h0;go_enter Try.func78,Try.ntmps78
   go_wp2_with fail
   refine(Zck A0 c0' s ch.table A ca ch.old S _ (HS.out.keep (Same.of_below HB0.out hS)) (HO.out.keep (Same.of_below HB0.out hS)) HCA.out (fun b hb=>by have:=hS b hb;simp;omega)).mono ?_;rintro e w1 ⟨A',c',rfl,hA',hb1⟩;have HB1:=hI (HB0.out.trans (hb1.mono (by simp;omega)));have HA:=hI hA';clear hb1 hA'
   go_wp2_with fail
   go_ret;refine⟨A',c',by rw [HK.out];rfl,?_,HB1.out⟩;rw [HK.out];exact(HO.out.keep (Same.of_below HB1.out hS)).key s ch.table HA.out
 · have hd:decide (0<ch.old.length)=false:=(by simpa using h0);rw [if_neg h0] at HK;clear h0;go_enter Try.func78,Try.ntmps78
   go_wp2_with fail
   refine(Zck A0 c0' s ch.table B cb ch.new S _ (HS.out.keep (Same.of_below HB0.out hS)) (HN.out.keep (Same.of_below HB0.out hS)) HCB.out (fun b hb=>by have:=hS b hb;simp;omega)).mono ?_;rintro e w1 ⟨A',c',rfl,hA',hb1⟩;have HB1:=hI (HB0.out.trans (hb1.mono (by simp;omega)));have HA:=hI hA';clear hb1 hA'
   go_wp2_with fail
   go_ret;refine⟨A',c',by rw [HK.out];rfl,?_,HB1.out⟩;rw [HK.out];exact(HN.out.keep (Same.of_below HB1.out hS)).key s ch.table HA.out
theorem validC_any (A0:Option Addr) (c0':Nat) (s:Sch) (m:Int) (ch:Chg) (A:Option Addr) (ca:Nat) (B:Option Addr) (cb:Nat) (S:Nat→Prop) (w:World) (hs:TabS w S A0 s.tabs) (ho:RowS w S A ch.old) (hca:ch.old.length≤ca) (hn:RowS w S B ch.new) (hcb:ch.new.length≤cb) (hS:∀ b,S b→b<w.heap.size) :
  Calls Try.prog 56 #[sAgg s.version A0 s.tabs.length c0',.int .i64 m,Zfz ch.table A ch.old.length ca B ch.new.length cb] w (Zaz (ZaM s m ch) w):=by
 obtain⟨t,old,new⟩:=ch;simp only at ho hca hn hcb ⊢;have hol:=ho.len;have hnl:=hn.len;have hsl:=hs.len;have HO:=hI ho;have HN:=hI hn;have HCA:=hI hca;have HCB:=hI hcb;have HS:=hI hs;have HK:=hI (show ZaM s m ⟨t,old,new⟩=(hasN s.tabs.length t&&!(decide (old.length=0)&&decide (new.length=0))&&(decide (old.length=0)||Zbi s t old m)&&(decide (new.length=0)||Zbi s t new m)&&(decide (old.length=0)||decide (new.length=0)||(cmpR (keyF s t old) (keyF s t new) == 0))) from rfl);clear ho hn hca hcb hs;have HB0:=hI (((Below.refl w.heap.size w).alloc nR (.cells #[.int .i64 s.version,.slice A0 s.tabs.length c0'] 25)).alloc (by simp) (.cells #[.int .i64 t,.slice A old.length ca,.slice B new.length cb] 53))
 by_cases h0:t<0
 · have hd0:decide (t<0)=true:=(by simpa using h0);have HF:=hI (show ZaM s m ⟨t,old,new⟩=false by rw [HK.out,show hasN s.tabs.length t=false by simp [hasN];omega];simp);clear h0 HK;go_enter Try.func56,Try.ntmps56
   go_wp2_with fail
   go_ret;exact⟨by rw [HF.out];rfl,HB0.out⟩
 · have hd0:decide (t<0)=false:=by simpa using h0
   by_cases h1:(s.tabs.length:Int)≤t
   · have hd1:decide ((s.tabs.length:Int)≤t)=true:=(by simpa using h1);have HF:=hI (show ZaM s m ⟨t,old,new⟩=false by rw [HK.out,show hasN s.tabs.length t=false by simp [hasN];omega];simp);clear h0 h1 HK;go_enter Try.func56,Try.ntmps56
     go_wp2_with fail
     go_ret;exact⟨by rw [HF.out];rfl,HB0.out⟩
   · have hd1:decide ((s.tabs.length:Int)≤t)=false:=(by simpa using h1);have HAS:=hI (show hasN s.tabs.length t=true by simp [hasN];omega);clear h0 h1
     by_cases ho0:old.length=0
     · by_cases hn0:new.length=0
       · have HF:=hI (show ZaM s m ⟨t,old,new⟩=false by rw [HK.out];simp [ho0,hn0]);have hqold:((old.length:Int) == 0)=true:=(by rw [ho0];rfl);have hqnew:((new.length:Int) == 0)=true:=(by rw [hn0];rfl);clear ho0 hn0 HK;go_enter Try.func56,Try.ntmps56
         go_wp2_with fail
         go_ret;exact⟨by rw [HF.out];rfl,HB0.out⟩
       · skip
         have HV:=hI (show ZaM s m ⟨t,old,new⟩=(Zbi s t new m) by rw [HK.out,HAS.out];simp [ho0,hn0]);have hqold:((old.length:Int) == 0)=true:=(by rw [ho0];rfl);have HQold:=hI (show decide (0<old.length)=false from decide_eq_false (by omega));have hqnew:((new.length:Int) == 0)=false:=(by simpa using hn0);have HQnew:=hI (show decide (0<new.length)=true from decide_eq_true (by omega));clear ho0 hn0 HK;go_enter Try.func56,Try.ntmps56
         go_wp2_with fail
         go_loopw [37] (fun i wr=>∃ k:Nat,k≤2∧i=.int .i64 k∧(1≤k→True)∧(2≤k→Zbi s t new m=true)∧Below w.heap.size w wr∧(wr.cell? ⟨w.heap.size,0,none⟩=some (.int .i64 s.version)∧wr.cell? ⟨w.heap.size,1,none⟩=some (.slice A0 s.tabs.length c0')∧wr.cell? ⟨w.heap.size+1,0,none⟩=some (.int .i64 t)∧wr.cell? ⟨w.heap.size+1,1,none⟩=some (.slice A old.length ca)∧wr.cell? ⟨w.heap.size+1,2,none⟩=some (.slice B new.length cb))∧w.heap.size+1<wr.heap.size) (fun i _=>2 - (intOf i).toNat)
         case atStart=>exact⟨0,by omega,rfl,fun h=>by omega,fun h=>by omega,HB0.out,⟨by simp,by simp,by simp,by simp,by simp⟩,by simp⟩
         case round =>
          obtain⟨k,hk,rfl,hko,hkn,hbel,⟨x0,x1,x2,x3,x4⟩,hw1⟩:=hrel;have HKO:=hI hko;have HKN:=hI hkn;have HB:=hI hbel;clear hko hkn hbel
          by_cases hk0:k=0
          · subst hk0;have hz:=HQold.out
            go_wp2_with fail
            refine ZdU (v':=Value.slice A old.length ca) (by first | rfl | kernel_rfl) ?_
            go_wp2_with fail
            go_roundw
            case rel=>exact⟨1,by omega,rfl,fun _=>trivial,fun h=>by omega,HB.out,⟨x0,x1,x2,x3,x4⟩,hw1⟩
            case measure=>simp [intOf]
          · skip
            by_cases hk1:k=1
            · subst hk1;have hz:=HQnew.out
              go_wp2_with fail
              refine ZdU (v':=Value.slice B new.length cb) (by first | rfl | kernel_rfl) ?_
              go_wp2_with fail
              refine(Zds A0 c0' s t m B cb new S _ (HS.out.keep (Same.of_below HB.out hS)) (HN.out.keep (Same.of_below HB.out hS)) (fun b hb=>by have:=hS b hb;omega)).mono ?_;rintro e w4 ⟨rfl,hb4⟩;have HB4:=hI (HB.out.trans (hb4.mono (by omega)));have hs4:=hb4.size;have y0:=cK hb4 x0;have y1:=cK hb4 x1;have y2:=cK hb4 x2;have y3:=cK hb4 x3;have y4:=cK hb4 x4;clear hb4 x0 x1 x2 x3 x4
              by_cases hf:Zbi s t new m=true
              · have HF:=hI hf;rw [hf];clear hf
                go_wp2_with fail
                go_roundw
                case rel=>exact⟨2,by omega,rfl,fun _=>HKO.out (by omega),fun _=>HF.out,HB4.out,⟨y0,y1,y2,y3,y4⟩,by omega⟩
                case measure=>simp [intOf]
              · have hf':Zbi s t new m=false:=(by simpa using hf);have HF:=hI (show ZaM s m ⟨t,old,new⟩=false by rw [HV.out];simp [hf']);rw [hf'];clear hf hf'
                go_wp2_with fail
                go_ret;exact⟨by rw [HF.out];rfl,HB4.out⟩
            · obtain rfl:k=2:=(by omega);have ho2:=HKO.out (by omega);have hn2:=HKN.out (by omega);have HF:=hI (show ZaM s m ⟨t,old,new⟩=true by rw [HV.out,hn2]);clear ho2 hn2 HKO HKN HV
              go_wp2_with fail
              go_quiet (fail)
              go_wp2_with fail
              go_ret;exact⟨by rw [HF.out];rfl,Zad HB.out _⟩
     · by_cases hn0:new.length=0
       · skip
         have HV:=hI (show ZaM s m ⟨t,old,new⟩=(Zbi s t old m) by rw [HK.out,HAS.out];simp [ho0,hn0]);have hqold:((old.length:Int) == 0)=false:=(by simpa using ho0);have HQold:=hI (show decide (0<old.length)=true from decide_eq_true (by omega));have hqnew:((new.length:Int) == 0)=true:=(by rw [hn0];rfl);have HQnew:=hI (show decide (0<new.length)=false from decide_eq_false (by omega));clear ho0 hn0 HK;go_enter Try.func56,Try.ntmps56
         go_wp2_with fail
         go_loopw [37] (fun i wr=>∃ k:Nat,k≤2∧i=.int .i64 k∧(1≤k→Zbi s t old m=true)∧(2≤k→True)∧Below w.heap.size w wr∧(wr.cell? ⟨w.heap.size,0,none⟩=some (.int .i64 s.version)∧wr.cell? ⟨w.heap.size,1,none⟩=some (.slice A0 s.tabs.length c0')∧wr.cell? ⟨w.heap.size+1,0,none⟩=some (.int .i64 t)∧wr.cell? ⟨w.heap.size+1,1,none⟩=some (.slice A old.length ca)∧wr.cell? ⟨w.heap.size+1,2,none⟩=some (.slice B new.length cb))∧w.heap.size+1<wr.heap.size) (fun i _=>2 - (intOf i).toNat)
         case atStart=>exact⟨0,by omega,rfl,fun h=>by omega,fun h=>by omega,HB0.out,⟨by simp,by simp,by simp,by simp,by simp⟩,by simp⟩
         case round =>
          obtain⟨k,hk,rfl,hko,hkn,hbel,⟨x0,x1,x2,x3,x4⟩,hw1⟩:=hrel;have HKO:=hI hko;have HKN:=hI hkn;have HB:=hI hbel;clear hko hkn hbel
          by_cases hk0:k=0
          · subst hk0;have hz:=HQold.out
            go_wp2_with fail
            refine ZdU (v':=Value.slice A old.length ca) (by first | rfl | kernel_rfl) ?_
            go_wp2_with fail
            refine(Zds A0 c0' s t m A ca old S _ (HS.out.keep (Same.of_below HB.out hS)) (HO.out.keep (Same.of_below HB.out hS)) (fun b hb=>by have:=hS b hb;omega)).mono ?_;rintro e w4 ⟨rfl,hb4⟩;have HB4:=hI (HB.out.trans (hb4.mono (by omega)));have hs4:=hb4.size;have y0:=cK hb4 x0;have y1:=cK hb4 x1;have y2:=cK hb4 x2;have y3:=cK hb4 x3;have y4:=cK hb4 x4;clear hb4 x0 x1 x2 x3 x4
            by_cases hf:Zbi s t old m=true
            · have HF:=hI hf;rw [hf];clear hf
              go_wp2_with fail
              go_roundw
              case rel=>exact⟨1,by omega,rfl,fun _=>HF.out,fun h=>by omega,HB4.out,⟨y0,y1,y2,y3,y4⟩,by omega⟩
              case measure=>simp [intOf]
            · have hf':Zbi s t old m=false:=(by simpa using hf);have HF:=hI (show ZaM s m ⟨t,old,new⟩=false by rw [HV.out];simp [hf']);rw [hf'];clear hf hf'
              go_wp2_with fail
              go_ret;exact⟨by rw [HF.out];rfl,HB4.out⟩
          · skip
            by_cases hk1:k=1
            · subst hk1;have hz:=HQnew.out
              go_wp2_with fail
              refine ZdU (v':=Value.slice B new.length cb) (by first | rfl | kernel_rfl) ?_
              go_wp2_with fail
              go_roundw
              case rel=>exact⟨2,by omega,rfl,fun _=>HKO.out (by omega),fun _=>trivial,HB.out,⟨x0,x1,x2,x3,x4⟩,hw1⟩
              case measure=>simp [intOf]
            · obtain rfl:k=2:=(by omega);have ho2:=HKO.out (by omega);have hn2:=HKN.out (by omega);have HF:=hI (show ZaM s m ⟨t,old,new⟩=true by rw [HV.out,ho2]);clear ho2 hn2 HKO HKN HV
              go_wp2_with fail
              go_quiet (fail)
              go_wp2_with fail
              go_ret;exact⟨by rw [HF.out];rfl,Zad HB.out _⟩
       · skip
         have HV:=hI (show ZaM s m ⟨t,old,new⟩=(Zbi s t old m&&Zbi s t new m&&(cmpR (keyF s t old) (keyF s t new) == 0)) by rw [HK.out,HAS.out];simp [ho0,hn0]);have hqold:((old.length:Int) == 0)=false:=(by simpa using ho0);have HQold:=hI (show decide (0<old.length)=true from decide_eq_true (by omega));have hqnew:((new.length:Int) == 0)=false:=(by simpa using hn0);have HQnew:=hI (show decide (0<new.length)=true from decide_eq_true (by omega));clear ho0 hn0 HK;go_enter Try.func56,Try.ntmps56
         go_wp2_with fail
         go_loopw [37] (fun i wr=>∃ k:Nat,k≤2∧i=.int .i64 k∧(1≤k→Zbi s t old m=true)∧(2≤k→Zbi s t new m=true)∧Below w.heap.size w wr∧(wr.cell? ⟨w.heap.size,0,none⟩=some (.int .i64 s.version)∧wr.cell? ⟨w.heap.size,1,none⟩=some (.slice A0 s.tabs.length c0')∧wr.cell? ⟨w.heap.size+1,0,none⟩=some (.int .i64 t)∧wr.cell? ⟨w.heap.size+1,1,none⟩=some (.slice A old.length ca)∧wr.cell? ⟨w.heap.size+1,2,none⟩=some (.slice B new.length cb))∧w.heap.size+1<wr.heap.size) (fun i _=>2 - (intOf i).toNat)
         case atStart=>exact⟨0,by omega,rfl,fun h=>by omega,fun h=>by omega,HB0.out,⟨by simp,by simp,by simp,by simp,by simp⟩,by simp⟩
         case round =>
          obtain⟨k,hk,rfl,hko,hkn,hbel,⟨x0,x1,x2,x3,x4⟩,hw1⟩:=hrel;have HKO:=hI hko;have HKN:=hI hkn;have HB:=hI hbel;clear hko hkn hbel
          by_cases hk0:k=0
          · subst hk0;have hz:=HQold.out
            go_wp2_with fail
            refine ZdU (v':=Value.slice A old.length ca) (by first | rfl | kernel_rfl) ?_
            go_wp2_with fail
            refine(Zds A0 c0' s t m A ca old S _ (HS.out.keep (Same.of_below HB.out hS)) (HO.out.keep (Same.of_below HB.out hS)) (fun b hb=>by have:=hS b hb;omega)).mono ?_;rintro e w4 ⟨rfl,hb4⟩;have HB4:=hI (HB.out.trans (hb4.mono (by omega)));have hs4:=hb4.size;have y0:=cK hb4 x0;have y1:=cK hb4 x1;have y2:=cK hb4 x2;have y3:=cK hb4 x3;have y4:=cK hb4 x4;clear hb4 x0 x1 x2 x3 x4
            by_cases hf:Zbi s t old m=true
            · have HF:=hI hf;rw [hf];clear hf
              go_wp2_with fail
              go_roundw
              case rel=>exact⟨1,by omega,rfl,fun _=>HF.out,fun h=>by omega,HB4.out,⟨y0,y1,y2,y3,y4⟩,by omega⟩
              case measure=>simp [intOf]
            · have hf':Zbi s t old m=false:=(by simpa using hf);have HF:=hI (show ZaM s m ⟨t,old,new⟩=false by rw [HV.out];simp [hf']);rw [hf'];clear hf hf'
              go_wp2_with fail
              go_ret;exact⟨by rw [HF.out];rfl,HB4.out⟩
          · skip
            by_cases hk1:k=1
            · subst hk1;have hz:=HQnew.out
              go_wp2_with fail
              refine ZdU (v':=Value.slice B new.length cb) (by first | rfl | kernel_rfl) ?_
              go_wp2_with fail
              refine(Zds A0 c0' s t m B cb new S _ (HS.out.keep (Same.of_below HB.out hS)) (HN.out.keep (Same.of_below HB.out hS)) (fun b hb=>by have:=hS b hb;omega)).mono ?_;rintro e w4 ⟨rfl,hb4⟩;have HB4:=hI (HB.out.trans (hb4.mono (by omega)));have hs4:=hb4.size;have y0:=cK hb4 x0;have y1:=cK hb4 x1;have y2:=cK hb4 x2;have y3:=cK hb4 x3;have y4:=cK hb4 x4;clear hb4 x0 x1 x2 x3 x4
              by_cases hf:Zbi s t new m=true
              · have HF:=hI hf;rw [hf];clear hf
                go_wp2_with fail
                go_roundw
                case rel=>exact⟨2,by omega,rfl,fun _=>HKO.out (by omega),fun _=>HF.out,HB4.out,⟨y0,y1,y2,y3,y4⟩,by omega⟩
                case measure=>simp [intOf]
              · have hf':Zbi s t new m=false:=(by simpa using hf);have HF:=hI (show ZaM s m ⟨t,old,new⟩=false by rw [HV.out];simp [hf']);rw [hf'];clear hf hf'
                go_wp2_with fail
                go_ret;exact⟨by rw [HF.out];rfl,HB4.out⟩
            · obtain rfl:k=2:=(by omega);have ho2:=HKO.out (by omega);have hn2:=HKN.out (by omega);have HF:=hI (show ZaM s m ⟨t,old,new⟩=(cmpR (keyF s t old) (keyF s t new) == 0) by rw [HV.out,ho2,hn2];simp);clear ho2 hn2 HKO HKN HV
              go_wp2_with fail
              have hSr:∀ b,S b→b<wr.heap.size:=(fun b hb=>by have:=hS b hb;omega);have HSr:=hI (HS.out.keep (Same.of_below HB.out hS));have HOr:=hI (HO.out.keep (Same.of_below HB.out hS));have HNr:=hI (HN.out.keep (Same.of_below HB.out hS))
              go_region_held3 (fun w'=>Below wr.heap.size wr w'∧w'.cell? ⟨w.heap.size,0,none⟩=some (.int .i64 s.version)∧w'.cell? ⟨w.heap.size,1,none⟩=some (.slice A0 s.tabs.length c0')∧w'.cell? ⟨w.heap.size+1,0,none⟩=some (.int .i64 t)∧w'.cell? ⟨w.heap.size+1,1,none⟩=some (.slice A old.length ca)∧w'.cell? ⟨w.heap.size+1,2,none⟩=some (.slice B new.length cb))
               (first | exact⟨(Below.refl _ _).drew,x0,x1,x2,x3,x4⟩ | exact⟨hv3,cK hv3 x0,cK hv3 x1,cK hv3 x2,cK hv3 x3,cK hv3 x4⟩ | exact⟨hv2,cK hv2 x0,cK hv2 x1,cK hv2 x2,cK hv2 x3,cK hv2 x4⟩ | exact⟨hv1,cK hv1 x0,cK hv1 x1,cK hv1 x2,cK hv1 x3,cK hv1 x4⟩)
               (first
                | (go_at_call 61;have hvx:=hv1;clear hvx;refine(Zck A0 c0' s t B cb new S _ (HSr.out.keep (Same.of_below hv1 hSr)) (HNr.out.keep (Same.of_below hv1 hSr)) HCB.out (fun b hb=>Nat.lt_of_lt_of_le (hSr b hb) hv1.size)).mono ?_;rintro e w6 ⟨A8,c8,rfl,h8,hv2'⟩;have hv2:Below wr.heap.size wr w6:=hv1.trans (hv2'.mono hv1.size))
                | (go_at_call 61;refine(Zck A0 c0' s t A ca old S wr.drew (HSr.out.keep (fun _ _=>rfl)) (HOr.out.keep (fun _ _=>rfl)) HCA.out hSr).mono ?_;rintro e w5 ⟨A7,c7,rfl,h7,hv1'⟩;have hv1:Below wr.heap.size wr w5:=(Below.refl _ wr).drew.trans hv1')
                | (go_at_call 77;refine(Zbp A7 A8 c7 c8 (keyF s t old) (keyF s t new) S _ ((HOr.out.keep (Same.of_below hv2 hSr)).key s t h7) ((HNr.out.keep (Same.of_below hv2 hSr)).key s t h8) (fun b hb=>Nat.lt_of_lt_of_le (hSr b hb) hv2.size)).mono ?_;rintro e w7 ⟨rfl,hv3'⟩;have hv3:Below wr.heap.size wr w7:=hv2.trans (hv3'.mono hv2.size)))
              have HB7:=hI (HB.out.trans (hv3.mono (by omega)));clear hv1 hv2 hv3 hv1' hv2' hv3' h7 h8 x0 x1 x2 x3 x4
              go_wp2_with fail
              go_ret;exact⟨by rw [HF.out];rfl,HB7.out⟩
theorem run_append_full {P:Program} (w:World) (t ty e:TypeId) (i:TypeInfo) (z:Value) (size bytes:Nat) (ht:P.underlying t=some (.slice e)) (hi:P.info? e=some i) (hz:i.zero=some z)
  (hsize:i.size=size) (hby:i.bytes=bytes) (hzs:z.cells.size=size) (hsz:0<size)
  (A:Option Addr) (n:Nat) (olds:List Value) (hlo:olds.length=n*size) (hA:0<n→∃ b,A=some b∧∀ j u,olds[j]?=some u→w.cell? (b.add j)=some u)
  (ad:Addr) (m c:Nat) (news:List Value) (hl:news.length=m*size) (hnews:∀ j u,news[j]?=some u→w.cell? (ad.add j)=some u)
  (hm:0<m) (h63:n+m≤maxLen) (hbytes:(n+m)*bytes≤140737488355328) :
  ∃ cap w',(Builtin.append_ #[t,t] ty #[.slice A n n,.slice (some ad) m c]).run P w=.ok (.slice (some ⟨w.heap.size,0,none⟩) (n+m) cap) w' ∧
   w'.ownsRow w.heap.size e size (.slice (some ⟨w.heap.size,0,none⟩) (n+m) cap) (n+m) (olds++news)∧w.grownBy w' none∧w'.heap.size=w.heap.size+1:=by
 subst hsize;subst hby;have hsmall:n+m≤9223372036854775807:=(by simp only [maxLen] at h63;omega);have hlen:(olds++news).length=(n+m)*i.size:=(by rw [List.length_append,hlo,hl,Nat.add_mul]);have hge:=grownCap_ge w (n+m) n e;have hcm:grownCap w (n+m) n e≤maxLen:=grownCap_le_maxLen w (n+m) n e h63
 have hrun:(Builtin.append_ #[t,t] ty #[.slice A n n,.slice (some ad) m c]).run P w=.ok (.slice (some ⟨w.heap.size,0,none⟩) (n+m) (grownCap w (n+m) n e)) (w.drew.alloc (.cells (olds.toArray++news.toArray++Builtin.zeroCells z.cells (grownCap w (n+m) n e - (n+m))) e)):=by
  cases A with
  | none =>
   have hn:n=0:=by
    rcases Nat.eq_zero_or_pos n with h | h
    · exact h
    · obtain⟨b,h1,_⟩:=hA h;cases h1
   subst hn;have ho:olds=[]:=List.eq_nil_of_length_eq_zero (by simpa using hlo);subst ho;have hr:=run_append_nil (P:=P) w t ty e i z ht hi hz ad m c news hl hnews (by omega) (by omega) (by have hb:=hbytes;simp only [Nat.zero_add] at hb;omega);simpa using hr
  | some b =>
   refine run_append_grow (P:=P) w t ty e i z ht hi hz b n n olds hlo ?_ ad m c news hl hnews (by omega) (by omega) (growslice_fits (by omega) hbytes);intro j u hu;rcases Nat.eq_zero_or_pos n with h | h
   · subst h;have ho:olds=[]:=List.eq_nil_of_length_eq_zero (by simpa using hlo);subst ho;simp at hu
   · obtain⟨b',h1,h2⟩:=hA h;injection h1 with h1;subst h1;exact h2 j u hu
 refine⟨_,_,hrun,⟨hlen,.inr ⟨w.heap.size,_,_,rfl,Nat.le_refl _,heap_alloc_new w.drew _,hge,hcm,?_,?_⟩⟩,⟨rfl,rfl,rfl,by simp,fun k hk _=>Below.heap_alloc w.drew _ _ hk⟩,by simp⟩
 · simp only [Array.size_append,List.size_toArray,size_zeroCells,hzs,hlo,hl,←Nat.add_mul]
   congr 1
   omega
 · simp only [Array.toList_append,List.append_assoc];rw [←List.append_assoc,←hlen];exact List.take_left
theorem wpList_append_full {P:Program} (w:World) {ops:Array Oper} {rest:List Oper} {o:Oper} {a:Act} {Q:Exit→Act→World→Prop} (hgd:o.guard=none) (s x:Operand) (t:TypeId)
  (ho:o.op=.call { callee:=.builtin .append,args:=#[s,x],argTypes:=#[t,t] })
  (e:TypeId) (i:TypeInfo) (z:Value) (size bytes:Nat) (ht:P.underlying t=some (.slice e)) (hi:P.info? e=some i) (hz:i.zero=some z)
  (hsize:i.size=size) (hby:i.bytes=bytes) (hzs:z.cells.size=size) (hsz:0<size)
  (A:Option Addr) (n:Nat) (olds:List Value) (hs:a.eval s=.slice A n n) (hlo:olds.length=n*size) (hA:0<n→∃ b,A=some b∧∀ j u,olds[j]?=some u→w.cell? (b.add j)=some u)
  (ad:Addr) (m c:Nat) (news:List Value) (hx:a.eval x=.slice (some ad) m c) (hl:news.length=m*size) (hnews:∀ j u,news[j]?=some u→w.cell? (ad.add j)=some u)
  (hm:0<m) (h63:n+m≤maxLen) (hbytes:(n+m)*bytes≤140737488355328)
  (h:∀ cap w',w'.ownsRow w.heap.size e size (.slice (some ⟨w.heap.size,0,none⟩) (n+m) cap) (n+m) (olds++news)→w.grownBy w' none→w'.heap.size=w.heap.size+1→wpList P ops Q rest (a.put o.dst (.slice (some ⟨w.heap.size,0,none⟩) (n+m) cap)) w'):wpList P ops Q (o :: rest) a w:=by
 refine wpList_plain hgd fun K hK=>?_;obtain⟨cap,w',hr,h2,h3,h4⟩:=run_append_full (P:=P) w t o.type e i z size bytes ht hi hz hsize hby hzs hsz A n olds hlo hA ad m c news hl hnews hm h63 hbytes;unfold Oper.wp execOp;simp only [ho,resolve,invoke,builtin,Sem.run_bind,Sem.run_pure,Result.andThen_ok,List.map_toArray,List.map_cons,List.map_nil,hs,hx,hr];exact hK _ _ (h cap w' h2 h3 h4)
theorem run_append_none {P:Program} {w:World} (t ty e:TypeId) (i:TypeInfo) (ht:P.underlying t=some (.slice e)) (hi:P.info? e=some i)
  (A:Option Addr) (n:Nat) (B:Option Addr) (c:Nat) :
  (Builtin.append_ #[t,t] ty #[.slice A n n,.slice B 0 c]).run P w=.ok (.slice A n n) w:=by
 cases A<;>cases B<;>simp [Builtin.append_,run_underlying ht,sizeOf,typeInfo,hi,Builtin.lenOf,Builtin.firstCells,storeCells,loadCells,loadCellsFrom]
theorem wpList_append_none {P:Program} (w:World) {ops:Array Oper} {rest:List Oper} {o:Oper} {a:Act} {Q:Exit→Act→World→Prop} (hgd:o.guard=none) (s x:Operand) (t:TypeId)
  (ho:o.op=.call { callee:=.builtin .append,args:=#[s,x],argTypes:=#[t,t] })
  (e:TypeId) (i:TypeInfo) (ht:P.underlying t=some (.slice e)) (hi:P.info? e=some i)
  (A:Option Addr) (n:Nat) (hs:a.eval s=.slice A n n) (B:Option Addr) (c:Nat) (hx:a.eval x=.slice B 0 c)
  (h:wpList P ops Q rest (a.put o.dst (.slice A n n)) w):wpList P ops Q (o :: rest) a w:=by
 refine wpList_plain hgd fun K hK=>?_;have hrun:=run_append_none (P:=P) (w:=w) t o.type e i ht hi A n B c;unfold Oper.wp;simp [execOp,ho,resolve,invoke,builtin,hs,hx,hrun,Result.andThen];exact hK _ _ h
section
variable {w w':World} {S S':Nat→Prop}
end
mutual
def Dat.Vals (w:World) (S:Nat→Prop):Dat→List Value→Prop
 | .lit v,vs=>vs=[v]∧Zfy v
 | .slice l,vs=>∃ A c,vs=[.slice A l.length c]∧l.length≤c∧Sl w S A l
 | .agg l,vs=>Dat.ValsAll w S l vs
def Dat.ValsAll (w:World) (S:Nat→Prop):List Dat→List Value→Prop
 | [],vs=>vs=[]
 | d :: r,vs=>∃ a b,vs=a++b∧Dat.Vals w S d a∧Dat.ValsAll w S r b
end
mutual
def Dat.Plain:Dat→Prop
 | .lit v=>v.oneCell'=true
 | .slice _=>True
 | .agg l=>Dat.PlainAll l
def Dat.PlainAll:List Dat→Prop
 | []=>True
 | d :: r=>Dat.Plain d∧Dat.PlainAll r
end
theorem Zdh {α:Type} {enc:α→Dat} (h:∀ a,(enc a).Plain):∀ l:List α,Dat.PlainAll (l.map enc)
 | []=>by simp [Dat.PlainAll]
 | a :: r=>by simp only [List.map_cons,Dat.PlainAll];exact⟨h a,Zdh h r⟩
section
variable {w w':World} {S S':Nat→Prop}
mutual
theorem Dat.Vals.keep (hk:Same S w w'):∀ (d:Dat) (vs:List Value),Dat.Vals w S d vs→Dat.Vals w' S d vs
 | .lit v,vs,h=>by unfold Dat.Vals at h ⊢;exact h
 | .slice l,vs,h=>by
  unfold Dat.Vals at h ⊢;obtain⟨A,c,h1,h2,h3⟩:=h;exact⟨A,c,h1,h2,h3.keep hk⟩
 | .agg l,vs,h=>by unfold Dat.Vals at h ⊢;exact Dat.ValsAll.keep hk l vs h
theorem Dat.ValsAll.keep (hk:Same S w w'):∀ (l:List Dat) (vs:List Value),Dat.ValsAll w S l vs→Dat.ValsAll w' S l vs
 | [],vs,h=>by unfold Dat.ValsAll at h ⊢;exact h
 | d :: r,vs,h=>by
  unfold Dat.ValsAll at h ⊢;obtain⟨a,b,e,h1,h2⟩:=h;exact⟨a,b,e,Dat.Vals.keep hk d a h1,Dat.ValsAll.keep hk r b h2⟩
end
mutual
theorem Dat.Vals.more (hk:∀ b,S b→S' b):∀ (d:Dat) (vs:List Value),Dat.Vals w S d vs→Dat.Vals w S' d vs
 | .lit v,vs,h=>by unfold Dat.Vals at h ⊢;exact h
 | .slice l,vs,h=>by
  unfold Dat.Vals at h ⊢;obtain⟨A,c,h1,h2,h3⟩:=h;exact⟨A,c,h1,h2,h3.more hk⟩
 | .agg l,vs,h=>by unfold Dat.Vals at h ⊢;exact Dat.ValsAll.more hk l vs h
theorem Dat.ValsAll.more (hk:∀ b,S b→S' b):∀ (l:List Dat) (vs:List Value),Dat.ValsAll w S l vs→Dat.ValsAll w S' l vs
 | [],vs,h=>by unfold Dat.ValsAll at h ⊢;exact h
 | d :: r,vs,h=>by
  unfold Dat.ValsAll at h ⊢;obtain⟨a,b,e,h1,h2⟩:=h;exact⟨a,b,e,Dat.Vals.more hk d a h1,Dat.ValsAll.more hk r b h2⟩
end
mutual
theorem Dat.Vals.len:∀ (d:Dat) (vs:List Value),Dat.Vals w S d vs→vs.length=d.size
 | .lit v,vs,h=>by unfold Dat.Vals at h;rw [h.1];simp [Dat.size]
 | .slice l,vs,h=>by
  unfold Dat.Vals at h;obtain⟨A,c,h1,_⟩:=h;rw [h1];simp [Dat.size]
 | .agg l,vs,h=>by unfold Dat.Vals at h;simp only [Dat.size];exact Dat.ValsAll.len l vs h
theorem Dat.ValsAll.len:∀ (l:List Dat) (vs:List Value),Dat.ValsAll w S l vs→vs.length=Dat.sizes l
 | [],vs,h=>by unfold Dat.ValsAll at h;rw [h];simp [Dat.sizes]
 | d :: r,vs,h=>by
  unfold Dat.ValsAll at h;obtain⟨a,b,e,h1,h2⟩:=h;rw [e,List.length_append,Dat.Vals.len d a h1,Dat.ValsAll.len r b h2];simp [Dat.sizes]
end
mutual
theorem Dat.Vals.one:∀ (d:Dat) (vs:List Value),d.Plain→Dat.Vals w S d vs→∀ u ∈ vs,u.oneCell'=true
 | .lit v,vs,hp,h,u,hu=>by
  unfold Dat.Vals at h;unfold Dat.Plain at hp;rw [h.1] at hu;rw [List.mem_singleton] at hu;rw [hu];exact hp
 | .slice l,vs,hp,h,u,hu=>by
  unfold Dat.Vals at h;obtain⟨A,c,h1,_⟩:=h;rw [h1,List.mem_singleton] at hu;rw [hu];rfl
 | .agg l,vs,hp,h,u,hu=>by
  unfold Dat.Vals at h;unfold Dat.Plain at hp;exact Dat.ValsAll.one l vs hp h u hu
theorem Dat.ValsAll.one:∀ (l:List Dat) (vs:List Value),Dat.PlainAll l→Dat.ValsAll w S l vs→∀ u ∈ vs,u.oneCell'=true
 | [],vs,_,h,u,hu=>by unfold Dat.ValsAll at h;rw [h] at hu;simp at hu
 | d :: r,vs,hp,h,u,hu=>by
  unfold Dat.ValsAll at h;unfold Dat.PlainAll at hp;obtain⟨a,b,e,h1,h2⟩:=h;rw [e,List.mem_append] at hu;rcases hu with hu | hu
  · exact Dat.Vals.one d a hp.1 h1 u hu
  · exact Dat.ValsAll.one r b hp.2 h2 u hu
end
def CellsAt (w:World) (b off:Nat) (vs:List Value):Prop:=∀ j u,vs[j]?=some u→w.cell? ⟨b,off+j,none⟩=some u
theorem CellsAt.left {b off:Nat} {x y:List Value} (h:CellsAt w b off (x++y)):CellsAt w b off x:=fun j u hu=>h j u (by rw [List.getElem?_append_left (List.getElem?_eq_some_iff.1 hu).1];exact hu)
theorem CellsAt.right {b off:Nat} {x y:List Value} (h:CellsAt w b off (x++y)):CellsAt w b (off+x.length) y:=fun j u hu=>by
 have:=h (x.length+j) u (by rw [List.getElem?_append_right (by omega)];simpa using hu);rwa [show off+(x.length+j)=off+x.length+j by omega] at this
theorem CellsAt.join {b off:Nat} {x y:List Value} (h:CellsAt w b off x) (h':CellsAt w b (off+x.length) y):CellsAt w b off (x++y):=fun j u hu=>by
 rcases Nat.lt_or_ge j x.length with hj | hj
 · rw [List.getElem?_append_left hj] at hu;exact h j u hu
 · rw [List.getElem?_append_right hj] at hu;have:=h' (j - x.length) u hu;rwa [show off+x.length+(j - x.length)=off+j by omega] at this
theorem CellsAt.add {b off:Nat} {x:List Value} (h:CellsAt w b off x):∀ j u,x[j]?=some u→w.cell? ((⟨b,off,none⟩:Addr).add j)=some u:=fun j u hu=>by rw [Zbm];exact h j u hu
theorem CellsAt.keep {b off:Nat} {x:List Value} (h:CellsAt w b off x) (hk:w'.heap[b]?=w.heap[b]?):CellsAt w' b off x:=fun j u hu=>(World.cell?_of_block (w:=w) (a:=⟨b,off+j,none⟩) hk).trans (h j u hu)
mutual
theorem held_cells:∀ (d:Dat) (b off:Nat),Dat.Held w S d b off→∃ vs,Dat.Vals w S d vs∧CellsAt w b off vs
 | .lit v,b,off,h=>by
  unfold Dat.Held at h;refine⟨[v],by unfold Dat.Vals;exact⟨rfl,h.2⟩,fun j u hu=>?_⟩;cases j with
  | zero=>simp only [List.getElem?_cons_zero,Option.some.injEq] at hu;subst hu;exact h.1
  | succ j=>simp at hu
 | .slice l,b,off,h=>by
  unfold Dat.Held at h;obtain⟨A,c,h1,h2,h3,h4⟩:=h;refine⟨[.slice A l.length c],by unfold Dat.Vals;exact⟨A,c,rfl,h2,h3,h4⟩,fun j u hu=>?_⟩;cases j with
  | zero=>simp only [List.getElem?_cons_zero,Option.some.injEq] at hu;subst hu;exact h1
  | succ j=>simp at hu
 | .agg l,b,off,h=>by unfold Dat.Held at h;unfold Dat.Vals;exact heldAll_cells l b off h
theorem heldAll_cells:∀ (l:List Dat) (b off:Nat),Dat.HeldAll w S l b off→∃ vs,Dat.ValsAll w S l vs∧CellsAt w b off vs
 | [],b,off,_=>⟨[],by unfold Dat.ValsAll;rfl,fun j u hu=>by simp at hu⟩
 | d :: r,b,off,h=>by
  unfold Dat.HeldAll at h;obtain⟨v1,h1,h2⟩:=held_cells d b off h.1;obtain⟨v2,h3,h4⟩:=heldAll_cells r b _ h.2;refine⟨v1++v2,by unfold Dat.ValsAll;exact⟨v1,v2,rfl,h1,h3⟩,h2.join ?_⟩;rw [Dat.Vals.len d v1 h1];exact h4
end
mutual
theorem held_of_cells:∀ (d:Dat) (vs:List Value) (b off:Nat),Dat.Vals w S d vs→CellsAt w b off vs→Dat.Held w S d b off
 | .lit v,vs,b,off,h,hc=>by
  unfold Dat.Vals at h;unfold Dat.Held;exact⟨hc 0 v (by rw [h.1];rfl),h.2⟩
 | .slice l,vs,b,off,h,hc=>by
  unfold Dat.Vals at h;unfold Dat.Held;obtain⟨A,c,h1,h2,h3,h4⟩:=h;exact⟨A,c,hc 0 _ (by rw [h1];rfl),h2,h3,h4⟩
 | .agg l,vs,b,off,h,hc=>by unfold Dat.Vals at h;unfold Dat.Held;exact heldAll_of_cells l vs b off h hc
theorem heldAll_of_cells:∀ (l:List Dat) (vs:List Value) (b off:Nat),Dat.ValsAll w S l vs→CellsAt w b off vs→Dat.HeldAll w S l b off
 | [],vs,b,off,_,_=>by unfold Dat.HeldAll;trivial
 | d :: r,vs,b,off,h,hc=>by
  unfold Dat.ValsAll at h;unfold Dat.HeldAll;obtain⟨x,y,e,h1,h2⟩:=h;subst e;refine⟨held_of_cells d x b off h1 hc.left,heldAll_of_cells r y b _ h2 ?_⟩;have:=hc.right;rwa [Dat.Vals.len d x h1] at this
end
theorem Sl.vals {A:Option Addr} {l:List Dat} (h:Sl w S A l):∃ vs,Dat.ValsAll w S l vs∧(0<l.length→∃ b off,A=some ⟨b,off,none⟩∧S b∧CellsAt w b off vs):=by
 rcases Nat.eq_zero_or_pos l.length with h0 | h0
 · have:l=[]:=List.eq_nil_of_length_eq_zero h0;subst this;exact⟨[],by unfold Dat.ValsAll;rfl,fun h=>by simp at h⟩
 · obtain⟨b,off,e,hb,hc⟩:=h.2 h0;obtain⟨vs,h1,h2⟩:=heldAll_cells l b off hc;exact⟨vs,h1,fun _=>⟨b,off,e,hb,h2⟩⟩
theorem Sl.of_vals {A:Option Addr} {l:List Dat} {vs:List Value} (hl:Dat.bytesAll l≤140737488355328) (h:Dat.ValsAll w S l vs) (hc:0<l.length→∃ b off,A=some ⟨b,off,none⟩∧S b∧CellsAt w b off vs):Sl w S A l :=
 ⟨hl,fun hn=>by
  obtain⟨b,off,e,hb,h1⟩:=hc hn;exact⟨b,off,e,hb,heldAll_of_cells l vs b off h h1⟩⟩
theorem Zbk:∀ {l l':List Dat} {vs vs':List Value},Dat.ValsAll w S l vs→Dat.ValsAll w S l' vs'→Dat.ValsAll w S (l++l') (vs++vs')
 | [],_,_,_,h,h'=>by unfold Dat.ValsAll at h;rw [h];exact h'
 | d :: r,l',vs,vs',h,h'=>by
  unfold Dat.ValsAll at h;obtain⟨a,b,e,h1,h2⟩:=h;rw [List.cons_append];unfold Dat.ValsAll;exact⟨a,b++vs',by rw [e,List.append_assoc],h1,Zbk h2 h'⟩
theorem ZaY {d:Dat} {vs:List Value} (h:Dat.Vals w S d vs):Dat.ValsAll w S [d] vs:=by
 unfold Dat.ValsAll;exact⟨vs,[],by simp,h,by unfold Dat.ValsAll;rfl⟩
theorem ZbL:∀ {l l':List Dat} {vs:List Value},Dat.ValsAll w S (l++l') vs→∃ a b,vs=a++b∧Dat.ValsAll w S l a∧Dat.ValsAll w S l' b
 | [],_,vs,h=>⟨[],vs,by simp,by unfold Dat.ValsAll;rfl,h⟩
 | d :: r,l',vs,h=>by
  rw [List.cons_append] at h;unfold Dat.ValsAll at h;obtain⟨a,b,e,h1,h2⟩:=h;obtain⟨x,y,e',h3,h4⟩:=ZbL h2;exact⟨a++x,y,by rw [e,e',List.append_assoc],by unfold Dat.ValsAll;exact⟨a,x,rfl,h1,h3⟩,h4⟩
theorem ZcF {n:Nat}:∀ {l:List Dat},(∀ d ∈ l,d.size=n)→Dat.sizes l=l.length*n
 | [],_=>by simp [Dat.sizes]
 | d :: r,h=>by
  have h1:=h d (by simp);have h2:=ZcF (l:=r) (fun x hx=>h x (by simp [hx]));simp only [Dat.sizes,List.length_cons,Nat.succ_mul,h1,h2];omega
theorem ZcG {α:Type} {enc:α→Dat} {n:Nat} (h:∀ a,(enc a).size=n) (l:List α):Dat.sizes (l.map enc)=l.length*n:=by
 rw [ZcF (n:=n) (fun d hd=>by obtain⟨a,_,rfl⟩:=List.mem_map.1 hd;exact h a),List.length_map]
theorem Zdc {α:Type} {enc:α→Dat} {n:Nat} (hs:∀ a,(enc a).size=n) {l:List α} {vs:List Value} (h:Dat.ValsAll w S (l.map enc) vs) (k:Nat) (hk:k≤l.length):Dat.ValsAll w S ((l.take k).map enc) (vs.take (k*n))∧Dat.ValsAll w S ((l.drop k).map enc) (vs.drop (k*n)):=by
 rw [←List.take_append_drop k l,List.map_append] at h;obtain⟨a,b,e,h1,h2⟩:=ZbL h;have hl:a.length=k*n:=(by rw [Dat.ValsAll.len _ a h1,ZcG hs,List.length_take,Nat.min_eq_left hk]);subst e;rw [←hl,List.take_left,List.drop_left];exact⟨h1,h2⟩
end
def OwnD (w:World) (base:Nat) (e:TypeId) (size:Nat) (S:Nat→Prop) (v:Value) (l:List Dat):Prop :=
 ∃ vals,w.ownsRow base e size v l.length vals∧Dat.ValsAll w S l vals∧∀ b,S b→b<w.heap.size∧some b≠v.ownBlock
section
variable {w w':World} {S S':Nat→Prop} {base size:Nat} {e:TypeId} {v v':Value} {l:List Dat}
theorem OwnD.nil_ (hS:∀ b,S b→b<w.heap.size):OwnD w base e size S (.slice none 0 0) [] :=
 ⟨[],World.ownsRow_nil _ _ _ _,by unfold Dat.ValsAll;rfl,fun b hb=>⟨hS b hb,by simp [Value.ownBlock]⟩⟩
theorem Zba {n:Nat} {xs:List Value} (h:w.ownsRow base e size v n xs) (hk:∀ g,v.ownBlock=some g→w'.heap[g]?=w.heap[g]?):w'.ownsRow base e size v n xs:=by
 refine⟨h.1,?_⟩;rcases h.2 with h0 | ⟨g,cap,cur,rfl,h1,h2,h3⟩
 · exact .inl h0
 · exact .inr ⟨g,cap,cur,rfl,h1,(hk g rfl).trans h2,h3⟩
theorem OwnD.keep (h:OwnD w base e size S v l) (hsz:w.heap.size≤w'.heap.size) (hk:Same S w w') (hv:∀ g,v.ownBlock=some g→w'.heap[g]?=w.heap[g]?):OwnD w' base e size S v l:=by
 obtain⟨vals,h1,h2,h3⟩:=h;exact⟨vals,Zba h1 hv,Dat.ValsAll.keep hk l vals h2,fun b hb=>⟨Nat.lt_of_lt_of_le (h3 b hb).1 hsz,(h3 b hb).2⟩⟩
theorem ZaH {n:Nat} {xs:List Value} (h:w.ownsRow base e size v n xs) {g:Nat} (hg:v.ownBlock=some g):g<w.heap.size:=by
 obtain⟨_,cur,hh⟩:=ZcU h hg;exact Zag hh
theorem OwnD.below (h:OwnD w base e size S v l) (hb:Below w.heap.size w w'):OwnD w' base e size S v l:=by
 obtain⟨vals,h1,h2,h3⟩:=h;exact OwnD.keep ⟨vals,h1,h2,h3⟩ hb.size (fun b hb'=>hb.block b (h3 b hb').1) (fun g hg=>hb.block g (ZaH h1 hg))
theorem OwnD.more (h:OwnD w base e size S v l) (hS:∀ b,S b→S' b) (hS':∀ b,S' b→b<w.heap.size∧some b≠v.ownBlock):OwnD w base e size S' v l:=by
 obtain⟨vals,h1,h2,h3⟩:=h;exact⟨vals,h1,Dat.ValsAll.more hS l vals h2,hS'⟩
theorem Zeq {vals news:List Value} {d:Dat} {g cap n:Nat} (hv:Dat.ValsAll w S l vals) (hd:Dat.Vals w S d news) (hS:∀ b,S b→b<w.heap.size∧some b≠v.ownBlock) (hn:n=l.length+1)
  (hown:w'.ownsRow base e size (.slice (some ⟨g,0,none⟩) n cap) n (vals++news)) (hg:w.grownBy w' v.ownBlock) (hat:v.ownBlock=some g∨g=w.heap.size):OwnD w' base e size S (.slice (some ⟨g,0,none⟩) n cap) (l++[d]):=by
 have hk:Same S w w':=fun b hb=>hg.block b (hS b hb).1 (hS b hb).2;refine⟨vals++news,by rw [List.length_append,List.length_singleton,←hn];exact hown,Zbk (Dat.ValsAll.keep hk _ _ hv) (ZaY (Dat.Vals.keep hk _ _ hd)),fun b hb=>⟨Nat.lt_of_lt_of_le (hS b hb).1 hg.size,?_⟩⟩;intro e';have e2:b=g:=(by simpa [Value.ownBlock] using e');rcases hat with hat | hat
 · exact(hS b hb).2 (by rw [hat,e2])
 · have:=(hS b hb).1;omega
theorem OwnD.slice {A:Option Addr} {n c:Nat} (h:OwnD w base e size S (.slice A n c) l) (hl:Dat.bytesAll l≤140737488355328) (hT:∀ b,S b→S' b) (hT':∀ g,base≤g→g<w.heap.size→(Value.slice A n c).ownBlock=some g→S' g):n=l.length∧n≤c∧Sl w S' A l:=by
 obtain⟨vals,h1,h2,h3⟩:=h
 have hn:n=l.length:=by
  rcases h1.2 with ⟨e1,h0⟩ | ⟨g,cap,cur,e1,_⟩
  · injection e1 with _ e2 _;omega
  · injection e1
 subst hn;refine⟨rfl,ZcV h1 rfl,Sl.of_vals hl (Dat.ValsAll.more hT l vals h2) (fun h0=>?_)⟩;obtain⟨g,e1,hb,hlt,hc⟩:=Zbz h1 h0;exact⟨g,0,e1,hT' g hb hlt (by rw [e1];rfl),fun j u hu=>by rw [Nat.zero_add];exact hc j u hu⟩
end
structure Fr (X:Nat→Prop) (w w':World):Prop where
 os:w'.os=w.os
 tape:w'.tape=w.tape
 output:w'.output=w.output
 size:w.heap.size≤w'.heap.size
 block:∀ b,b<w.heap.size→¬ X b→w'.heap[b]?=w.heap[b]?
section
variable {X Y:Nat→Prop} {w w' w'':World}
theorem Fr.refl (X:Nat→Prop) (w:World):Fr X w w:=⟨rfl,rfl,rfl,Nat.le_refl _,fun _ _ _=>rfl⟩
theorem Fr.trans (h:Fr X w w') (h':Fr Y w' w'') (hY:∀ b,b<w.heap.size→Y b→X b):Fr X w w'' :=
 ⟨h'.os.trans h.os,h'.tape.trans h.tape,h'.output.trans h.output,Nat.le_trans h.size h'.size,fun b hb hx=>(h'.block b (Nat.lt_of_lt_of_le hb h.size) (fun hy=>hx (hY b hb hy))).trans (h.block b hb hx)⟩
theorem Fr.of_below (h:Below w.heap.size w w'):Fr X w w':=⟨h.os,h.tape,h.output,h.size,fun b hb _=>h.block b hb⟩
theorem Fr.of_grown {r:Option Nat} (h:w.grownBy w' r) (hX:∀ b,b<w.heap.size→some b=r→X b):Fr X w w':=⟨h.os,h.tape,h.output,h.size,fun b hb hx=>h.block b hb (fun e=>hx (hX b hb e))⟩
theorem Fr.below {n:Nat} (h:Fr X w w') (hn:n≤w.heap.size) (hX:∀ b,b<n→¬ X b):Below n w w':=⟨h.os,h.tape,h.output,h.size,fun b hb=>h.block b (by omega) (hX b hb)⟩
theorem Fr.drewN (h:Fr X w w') (n:Nat):Fr X w (w'.drewN n):=⟨h.os,h.tape,h.output,h.size,h.block⟩
theorem Fr.drew (h:Fr X w w'):Fr X w w'.drew:=⟨h.os,h.tape,h.output,h.size,h.block⟩
theorem Fr.same {S:Nat→Prop} (h:Fr X w w') (hS:∀ b,S b→b<w.heap.size∧¬ X b):Same S w w':=fun b hb=>h.block b (hS b hb).1 (hS b hb).2
theorem Fr.cell (h:Fr X w w') {b o:Nat} (hb:b<w.heap.size) (hx:¬ X b):w'.cell? ⟨b,o,none⟩=w.cell? ⟨b,o,none⟩:=World.cell?_of_block (h.block b hb hx)
theorem Fr.setCell (h:Fr X w w') {g o:Nat} (v:Value) (hg:g<w.heap.size→X g):Fr X w (w'.setCell ⟨g,o,none⟩ v) :=
 ⟨h.os,h.tape,h.output,by simpa using h.size,fun b hb hx=>(Below.heap_setCell w' ⟨g,o,none⟩ v b (fun e=>by subst e;exact hx (hg hb))).trans (h.block b hb hx)⟩
end
theorem getElem?_of_take {α:Type} {l:List α} {k j:Nat} {u:α} (h:(l.take k)[j]?=some u):l[j]?=some u:=by
 rw [List.getElem?_take] at h;split at h
 · exact h
 · cases h
theorem Zcc {w':World} {A:Option Addr} {c base n:Nat} {r:Row} (h:w'.ownsRow base 51 3 (.slice A r.length c) r.length (Zam r)) (hl:RowOk r) (hn:n≤base):r.length≤c∧RowS w' (fun b=>n≤b∧b<w'.heap.size) A r:=⟨ZcV h rfl,(ZbZ hl h).more (fun b hb=>⟨by omega,hb.2⟩)⟩
theorem ZeU {w:World} {S:Nat→Prop} {A:Option Addr} {c:Nat} {r:Row} (h1:r.length≤c) (h2:RowS w S A r):Dat.Vals w S (Zeg r) [.slice A r.length c]:=by
 unfold Zeg Dat.Vals;exact⟨A,c,by simp,by simpa using h1,h2⟩
def Zbt (n:Nat):List Value:=List.replicate n (Value.slice none 0 0)
section
variable {w w':World} {S S':Nat→Prop} {gt:Nat} {st:St}
theorem Zae {w:World} {g k:Nat} {vs:List Value} {t:TypeId} {v:Value} (h:w.heap[g]?=some (.cells vs.toArray t (0,0))):(w.setCell ⟨g,k,none⟩ v).heap[g]?=some (.cells (vs.set k v).toArray t (0,0)):=by
 simp [World.setCell,Array.getElem?_modify,h]
end
abbrev Beh (base:Nat) (w:World) (v:Value):Nat→Prop:=fun b=>base≤b∧b<w.heap.size∧some b≠v.ownBlock
section
variable {w w':World} {base gt n k:Nat} {st:St} {v v':Value} {l:List Row}
end
theorem Zal {w:World} {o:Obj} {b k:Nat} (h:b<w.heap.size):(w.alloc o).cell? ⟨b,k,none⟩=w.cell? ⟨b,k,none⟩:=World.cell?_of_block (Below.heap_alloc w o b h)
theorem Zef {w:World} {o:Obj} {b k:Nat} (h:b<w.heap.size):(w.alloc o).frozen? ⟨b,k,none⟩=w.frozen? ⟨b,k,none⟩:=World.frozen?_of_block (Below.heap_alloc w o b h)
theorem Zaj {w:World} {cs:Array Value} {t:TypeId} {n k:Nat} {v:Value} (hn:n=w.heap.size) (h:cs[k]?=some v):(w.alloc (.cells cs t)).cell? ⟨n,k,none⟩=some v:=by
 subst hn;rw [cell_of_row _ _ _ _ _ _ (heap_alloc_new w (.cells cs t))];exact h
theorem Zby {w:World} {cs:Array Value} {t:TypeId} {n k:Nat} (hn:n=w.heap.size):(w.alloc (.cells cs t)).frozen? ⟨n,k,none⟩=false:=by
 subst hn;have h:=heap_alloc_new w (.cells cs t);unfold World.frozen?;rw [h];simp
theorem drop_chg {l:List Chg} {k:Nat} (h:k<l.length):l.drop k=l.getD k chg0 :: l.drop (k+1):=by
 rw [List.drop_eq_getElem_cons h];simp [List.getD,h]
theorem valid_table {s:Sch} {m:Int} {c:Chg} (h:ZaM s m c=true):∃ tt:Nat,c.table=tt∧tt<s.tabs.length:=by
 unfold ZaM at h;simp only [Bool.and_eq_true,hasN,decide_eq_true_eq] at h;obtain⟨tt,htt⟩:=Int.eq_ofNat_of_zero_le h.1.1.1.1.1;exact⟨tt,htt,by have:=h.1.1.1.1.2;omega⟩
structure CapS (w:World) (s:Sch) (A0:Option Addr) (c0':Nat) (gs:Nat):Prop where
 v:w.cell? ⟨gs,0,none⟩=some (.int .i64 s.version)
 a:w.cell? ⟨gs,1,none⟩=some (.slice A0 s.tabs.length c0')
 ls:gs<w.heap.size
theorem CapS.keep {w w':World} {s:Sch} {A0:Option Addr} {c0':Nat} {gs:Nat} (h:CapS w s A0 c0' gs) (hk:w'.heap[gs]?=w.heap[gs]?) (hs:w.heap.size≤w'.heap.size):CapS w' s A0 c0' gs :=
 ⟨(World.cell?_of_block (w:=w) (a:=⟨gs,0,none⟩) hk).trans h.v,(World.cell?_of_block (w:=w) (a:=⟨gs,1,none⟩) hk).trans h.a,Nat.lt_of_lt_of_le h.ls hs⟩
theorem CapS.below {w w':World} {s:Sch} {A0:Option Addr} {c0':Nat} {gs:Nat} (h:CapS w s A0 c0' gs) (hb:Below w.heap.size w w'):CapS w' s A0 c0' gs:=h.keep (hb.block gs h.ls) hb.size
structure ChV (w:World) (S:Nat→Prop) (ch:Chg) (A1:Option Addr) (c1:Nat) (A2:Option Addr) (c2:Nat):Prop where
 r1:RowS w S A1 ch.old
 l1:ch.old.length≤c1
 r2:RowS w S A2 ch.new
 l2:ch.new.length≤c2
theorem ChV.keep {w w':World} {S:Nat→Prop} {ch:Chg} {A1:Option Addr} {c1:Nat} {A2:Option Addr} {c2:Nat} (h:ChV w S ch A1 c1 A2 c2) (hk:Same S w w'):ChV w' S ch A1 c1 A2 c2:=⟨h.r1.keep hk,h.l1,h.r2.keep hk,h.l2⟩
abbrev chV (ch:Chg) (A1:Option Addr) (c1:Nat) (A2:Option Addr) (c2:Nat):Value:=Zfz ch.table A1 ch.old.length c1 A2 ch.new.length c2
theorem net1_any (A0:Option Addr) (c0':Nat) (s:Sch) (m:Int) (gs gm:Nat) (ch:Chg) (A1:Option Addr) (c1:Nat) (A2:Option Addr) (c2:Nat) (S:Nat→Prop) (w:World) (hc:CapS w s A0 c0' gs) (hm:w.cell? ⟨gm,0,none⟩=some (.int .i64 m)) (hgm:gm<w.heap.size) (hs:TabS w S A0 s.tabs) (hv:ChV w S ch A1 c1 A2 c2) (hS:∀ b,S b→b<w.heap.size) :
  Calls Try.prog 74 #[chV ch A1 c1 A2 c2,.pointer (some ⟨gs,0,none⟩),.pointer (some ⟨gm,0,none⟩)] w (Zaz (!ZaM s m ch) w):=by
 obtain⟨t,old,new⟩:=ch;have x0:=hc.v;have x1:=hc.a;have hgs:=hc.ls;have HS:=hI hs;have HV:=hI hv;clear hc hs hv;simp only [chV];have HB0:=hI ((Below.refl w.heap.size w).alloc nR (.cells #[.int .i64 t,.slice A1 old.length c1,.slice A2 new.length c2] 53));go_enter Try.func74,Try.ntmps74
 go_wp2_with fail
 refine(validC_any A0 c0' s m ⟨t,old,new⟩ A1 c1 A2 c2 S _ (HS.out.keep (Same.of_below HB0.out hS)) (HV.out.r1.keep (Same.of_below HB0.out hS)) HV.out.l1 (HV.out.r2.keep (Same.of_below HB0.out hS)) HV.out.l2 (fun b hb=>by have:=hS b hb;simp;omega)).mono ?_;rintro e w1 ⟨rfl,hb1⟩;have HB1:=hI (HB0.out.trans (hb1.mono (by simp)));clear hb1;obtain⟨bv,hbv⟩:∃ bv,ZaM s m ⟨t,old,new⟩=bv:=⟨_,rfl⟩;have HBV:=hI hbv;rw [hbv];clear hbv
 go_wp2_with fail
 go_ret;exact⟨by rw [HBV.out];rfl,HB1.out⟩
theorem net3_any (A0:Option Addr) (c0':Nat) (s:Sch) (gs:Nat) (a:Chg) (A1:Option Addr) (c1:Nat) (A2:Option Addr) (c2:Nat) (b:Chg) (B1:Option Addr) (d1:Nat) (B2:Option Addr) (d2:Nat) (S:Nat→Prop) (w:World) (hc:CapS w s A0 c0' gs) (hs:TabS w S A0 s.tabs) (ha:ChV w S a A1 c1 A2 c2) (hb:ChV w S b B1 d1 B2 d2) (hS:∀ b,S b→b<w.heap.size) (hta:0≤a.table∧a.table≤1000000) (htb:0≤b.table∧b.table≤1000000) :
  Calls Try.prog 80 #[chV a A1 c1 A2 c2,chV b B1 d1 B2 d2,.pointer (some ⟨gs,0,none⟩)] w (Zbg (cmpC s a b) w):=by
 obtain⟨ta,oa,na⟩:=a;obtain⟨tb,ob,nb⟩:=b;have x0:=hc.v;have x1:=hc.a;have hgs:=hc.ls;have HS:=hI hs;have HA:=hI ha;have HBV:=hI hb;clear hc hs ha hb;simp only [chV] at hta htb ⊢;obtain⟨hta0,hta1⟩:=hta;obtain⟨htb0,htb1⟩:=htb;have HB0:=hI (((Below.refl w.heap.size w).alloc nR (.cells #[.int .i64 ta,.slice A1 oa.length c1,.slice A2 na.length c2] 53)).alloc (by simp) (.cells #[.int .i64 tb,.slice B1 ob.length d1,.slice B2 nb.length d2] 53))
 by_cases ht:ta=tb
 · subst ht;have HF:=hI (show cmpC s ⟨ta,oa,na⟩ ⟨ta,ob,nb⟩=cmpR (keyC s ⟨ta,oa,na⟩) (keyC s ⟨ta,ob,nb⟩) by unfold cmpC;rw [if_neg (by simp)]);go_enter Try.func80,Try.ntmps80
   go_wp2_with fail
   obtain⟨w0,hw0⟩:∃ w0,((w.alloc (.cells #[.int .i64 ta,.slice A1 oa.length c1,.slice A2 na.length c2] 53)).alloc (.cells #[.int .i64 ta,.slice B1 ob.length d1,.slice B2 nb.length d2] 53))=w0:=⟨_,rfl⟩;have hsz0:w0.heap.size=w.heap.size+1+1:=(by rw [←hw0];simp);rw [hw0] at HB0;have z0:w0.cell? ⟨gs,0,none⟩=some (.int .i64 s.version):=cQ HB0.out hgs x0;have z1:w0.cell? ⟨gs,1,none⟩=some (.slice A0 s.tabs.length c0'):=cQ HB0.out hgs x1;have z2:w0.cell? ⟨w.heap.size,0,none⟩=some (.int .i64 ta):=(by rw [←hw0];exact(Zal (by simp)).trans (Zaj rfl rfl));have z3:w0.cell? ⟨w.heap.size,1,none⟩=some (.slice A1 oa.length c1):=(by rw [←hw0];exact(Zal (by simp)).trans (Zaj rfl rfl));have z4:w0.cell? ⟨w.heap.size,2,none⟩=some (.slice A2 na.length c2):=(by rw [←hw0];exact(Zal (by simp)).trans (Zaj rfl rfl));have z5:w0.cell? ⟨w.heap.size+1,0,none⟩=some (.int .i64 ta):=(by rw [←hw0];exact Zaj (by simp) rfl);have z6:w0.cell? ⟨w.heap.size+1,1,none⟩=some (.slice B1 ob.length d1):=(by rw [←hw0];exact Zaj (by simp) rfl);have z7:w0.cell? ⟨w.heap.size+1,2,none⟩=some (.slice B2 nb.length d2):=(by rw [←hw0];exact Zaj (by simp) rfl);have hl0:gs<w0.heap.size:=(by omega);have hl1:w.heap.size<w0.heap.size:=(by omega);have hl2:w.heap.size+1<w0.heap.size:=(by omega);have hS0:∀ b,S b→b<w0.heap.size:=(fun b hb=>by have:=hS b hb;omega);have HS0:=hI (HS.out.keep (Same.of_below HB0.out hS));have HA0:=hI (HA.out.keep (Same.of_below HB0.out hS));have HV0:=hI (HBV.out.keep (Same.of_below HB0.out hS));have HSZ:=hI hsz0;rw [hw0];clear hw0 hsz0 HS HA HBV x0 x1
   go_region_held3 (fun w'=>Below w0.heap.size w0 w'∧w'.cell? ⟨gs,0,none⟩=some (.int .i64 s.version)∧w'.cell? ⟨gs,1,none⟩=some (.slice A0 s.tabs.length c0')∧w'.cell? ⟨w.heap.size,0,none⟩=some (.int .i64 ta)∧w'.cell? ⟨w.heap.size,1,none⟩=some (.slice A1 oa.length c1)∧w'.cell? ⟨w.heap.size,2,none⟩=some (.slice A2 na.length c2)∧w'.cell? ⟨w.heap.size+1,0,none⟩=some (.int .i64 ta)∧w'.cell? ⟨w.heap.size+1,1,none⟩=some (.slice B1 ob.length d1)∧w'.cell? ⟨w.heap.size+1,2,none⟩=some (.slice B2 nb.length d2))
    (first | exact⟨(Below.refl _ _).drew,z0,z1,z2,z3,z4,z5,z6,z7⟩ | exact⟨hv3,cQ hv3 hl0 z0,cQ hv3 hl0 z1,cQ hv3 hl1 z2,cQ hv3 hl1 z3,cQ hv3 hl1 z4,cQ hv3 hl2 z5,cQ hv3 hl2 z6,cQ hv3 hl2 z7⟩ | exact⟨hv2,cQ hv2 hl0 z0,cQ hv2 hl0 z1,cQ hv2 hl1 z2,cQ hv2 hl1 z3,cQ hv2 hl1 z4,cQ hv2 hl2 z5,cQ hv2 hl2 z6,cQ hv2 hl2 z7⟩ | exact⟨hv1,cQ hv1 hl0 z0,cQ hv1 hl0 z1,cQ hv1 hl1 z2,cQ hv1 hl1 z3,cQ hv1 hl1 z4,cQ hv1 hl2 z5,cQ hv1 hl2 z6,cQ hv1 hl2 z7⟩)
    (first
     | (go_at_call 78;have hvx:=hv1;clear hvx;refine(Zbu A0 c0' s ⟨ta,ob,nb⟩ B1 d1 B2 d2 S _ (HS0.out.keep (Same.of_below hv1 hS0)) (HV0.out.r1.keep (Same.of_below hv1 hS0)) HV0.out.l1 (HV0.out.r2.keep (Same.of_below hv1 hS0)) HV0.out.l2 (fun b hb=>Nat.lt_of_lt_of_le (hS0 b hb) hv1.size)).mono ?_;rintro e w6 ⟨A8,c8,rfl,h8,hv2'⟩;have hv2:Below w0.heap.size w0 w6:=hv1.trans (hv2'.mono hv1.size))
     | (go_at_call 78;refine(Zbu A0 c0' s ⟨ta,oa,na⟩ A1 c1 A2 c2 S w0.drew (HS0.out.keep (fun _ _=>rfl)) (HA0.out.r1.keep (fun _ _=>rfl)) HA0.out.l1 (HA0.out.r2.keep (fun _ _=>rfl)) HA0.out.l2 hS0).mono ?_;rintro e w5 ⟨A7,c7,rfl,h7,hv1'⟩;have hv1:Below w0.heap.size w0 w5:=(Below.refl _ w0).drew.trans hv1')
     | (go_at_call 60;refine(Zch A7 A8 c7 c8 (keyC s ⟨ta,oa,na⟩) (keyC s ⟨ta,ob,nb⟩) S _ (h7.keep (Same.of_below hv2' (fun b hb=>Nat.lt_of_lt_of_le (hS0 b hb) hv1.size))) h8 (fun b hb=>Nat.lt_of_lt_of_le (hS0 b hb) hv2.size)).mono ?_;rintro e w7 ⟨rfl,hv3'⟩;have hv3:Below w0.heap.size w0 w7:=hv2.trans (hv3'.mono hv2.size)))
   have HB7:=hI (HB0.out.trans (hv3.mono (by have:=HSZ.out;omega)));clear hv1 hv2 hv3 hv1' hv2' hv3' h7 h8 z0 z1 z2 z3 z4 z5 z6 z7
   go_wp2_with fail
   go_ret;exact⟨by rw [HF.out];rfl,HB7.out⟩
 · have hd:(ta != tb)=true:=(by simpa using ht);have HF:=hI (show cmpC s ⟨ta,oa,na⟩ ⟨tb,ob,nb⟩=ta - tb by unfold cmpC;rw [if_pos ht]);clear ht;go_enter Try.func80,Try.ntmps80
   go_wp2_with fail
   go_ret;exact⟨by rw [HF.out];rfl,HB0.out⟩
theorem Zff (A0:Option Addr) (c0':Nat) (s:Sch) (gs:Nat) (a:Chg) (A1:Option Addr) (c1:Nat) (A2:Option Addr) (c2:Nat) (b:Chg) (B1:Option Addr) (d1:Nat) (B2:Option Addr) (d2:Nat) (S:Nat→Prop) (w:World) (hc:CapS w s A0 c0' gs) (hs:TabS w S A0 s.tabs) (ha:ChV w S a A1 c1 A2 c2) (hb:ChV w S b B1 d1 B2 d2) (hS:∀ b,S b→b<w.heap.size) :
  Calls Try.prog 76 #[chV a A1 c1 A2 c2,chV b B1 d1 B2 d2,.pointer (some ⟨gs,0,none⟩)] w (Zaz (Zdv s a b) w):=by
 obtain⟨ta,oa,na⟩:=a;obtain⟨tb,ob,nb⟩:=b;have x0:=hc.v;have x1:=hc.a;have hgs:=hc.ls;have HS:=hI hs;have HA:=hI ha;have HBV:=hI hb;clear hc hs ha hb;simp only [chV];have HB0:=hI (((Below.refl w.heap.size w).alloc nR (.cells #[.int .i64 ta,.slice A1 oa.length c1,.slice A2 na.length c2] 53)).alloc (by simp) (.cells #[.int .i64 tb,.slice B1 ob.length d1,.slice B2 nb.length d2] 53))
 by_cases ht:ta=tb
 · subst ht;have HF:=hI (show Zdv s ⟨ta,oa,na⟩ ⟨ta,ob,nb⟩=(cmpR (keyC s ⟨ta,oa,na⟩) (keyC s ⟨ta,ob,nb⟩) == 0) by unfold Zdv;simp);go_enter Try.func76,Try.ntmps76
   go_wp2_with fail
   obtain⟨w0,hw0⟩:∃ w0,((w.alloc (.cells #[.int .i64 ta,.slice A1 oa.length c1,.slice A2 na.length c2] 53)).alloc (.cells #[.int .i64 ta,.slice B1 ob.length d1,.slice B2 nb.length d2] 53))=w0:=⟨_,rfl⟩;have hsz0:w0.heap.size=w.heap.size+1+1:=(by rw [←hw0];simp);rw [hw0] at HB0;have z0:w0.cell? ⟨gs,0,none⟩=some (.int .i64 s.version):=cQ HB0.out hgs x0;have z1:w0.cell? ⟨gs,1,none⟩=some (.slice A0 s.tabs.length c0'):=cQ HB0.out hgs x1;have z2:w0.cell? ⟨w.heap.size,0,none⟩=some (.int .i64 ta):=(by rw [←hw0];exact(Zal (by simp)).trans (Zaj rfl rfl));have z3:w0.cell? ⟨w.heap.size,1,none⟩=some (.slice A1 oa.length c1):=(by rw [←hw0];exact(Zal (by simp)).trans (Zaj rfl rfl));have z4:w0.cell? ⟨w.heap.size,2,none⟩=some (.slice A2 na.length c2):=(by rw [←hw0];exact(Zal (by simp)).trans (Zaj rfl rfl));have z5:w0.cell? ⟨w.heap.size+1,0,none⟩=some (.int .i64 ta):=(by rw [←hw0];exact Zaj (by simp) rfl);have z6:w0.cell? ⟨w.heap.size+1,1,none⟩=some (.slice B1 ob.length d1):=(by rw [←hw0];exact Zaj (by simp) rfl);have z7:w0.cell? ⟨w.heap.size+1,2,none⟩=some (.slice B2 nb.length d2):=(by rw [←hw0];exact Zaj (by simp) rfl);have hl0:gs<w0.heap.size:=(by omega);have hl1:w.heap.size<w0.heap.size:=(by omega);have hl2:w.heap.size+1<w0.heap.size:=(by omega);have hS0:∀ b,S b→b<w0.heap.size:=(fun b hb=>by have:=hS b hb;omega);have HS0:=hI (HS.out.keep (Same.of_below HB0.out hS));have HA0:=hI (HA.out.keep (Same.of_below HB0.out hS));have HV0:=hI (HBV.out.keep (Same.of_below HB0.out hS));have HSZ:=hI hsz0;rw [hw0];clear hw0 hsz0 HS HA HBV x0 x1
   go_region_held3 (fun w'=>Below w0.heap.size w0 w'∧w'.cell? ⟨gs,0,none⟩=some (.int .i64 s.version)∧w'.cell? ⟨gs,1,none⟩=some (.slice A0 s.tabs.length c0')∧w'.cell? ⟨w.heap.size,0,none⟩=some (.int .i64 ta)∧w'.cell? ⟨w.heap.size,1,none⟩=some (.slice A1 oa.length c1)∧w'.cell? ⟨w.heap.size,2,none⟩=some (.slice A2 na.length c2)∧w'.cell? ⟨w.heap.size+1,0,none⟩=some (.int .i64 ta)∧w'.cell? ⟨w.heap.size+1,1,none⟩=some (.slice B1 ob.length d1)∧w'.cell? ⟨w.heap.size+1,2,none⟩=some (.slice B2 nb.length d2))
    (first | exact⟨(Below.refl _ _).drew,z0,z1,z2,z3,z4,z5,z6,z7⟩ | exact⟨hv3,cQ hv3 hl0 z0,cQ hv3 hl0 z1,cQ hv3 hl1 z2,cQ hv3 hl1 z3,cQ hv3 hl1 z4,cQ hv3 hl2 z5,cQ hv3 hl2 z6,cQ hv3 hl2 z7⟩ | exact⟨hv2,cQ hv2 hl0 z0,cQ hv2 hl0 z1,cQ hv2 hl1 z2,cQ hv2 hl1 z3,cQ hv2 hl1 z4,cQ hv2 hl2 z5,cQ hv2 hl2 z6,cQ hv2 hl2 z7⟩ | exact⟨hv1,cQ hv1 hl0 z0,cQ hv1 hl0 z1,cQ hv1 hl1 z2,cQ hv1 hl1 z3,cQ hv1 hl1 z4,cQ hv1 hl2 z5,cQ hv1 hl2 z6,cQ hv1 hl2 z7⟩)
    (first
     | (go_at_call 78;have hvx:=hv1;clear hvx;refine(Zbu A0 c0' s ⟨ta,ob,nb⟩ B1 d1 B2 d2 S _ (HS0.out.keep (Same.of_below hv1 hS0)) (HV0.out.r1.keep (Same.of_below hv1 hS0)) HV0.out.l1 (HV0.out.r2.keep (Same.of_below hv1 hS0)) HV0.out.l2 (fun b hb=>Nat.lt_of_lt_of_le (hS0 b hb) hv1.size)).mono ?_;rintro e w6 ⟨A8,c8,rfl,h8,hv2'⟩;have hv2:Below w0.heap.size w0 w6:=hv1.trans (hv2'.mono hv1.size))
     | (go_at_call 78;refine(Zbu A0 c0' s ⟨ta,oa,na⟩ A1 c1 A2 c2 S w0.drew (HS0.out.keep (fun _ _=>rfl)) (HA0.out.r1.keep (fun _ _=>rfl)) HA0.out.l1 (HA0.out.r2.keep (fun _ _=>rfl)) HA0.out.l2 hS0).mono ?_;rintro e w5 ⟨A7,c7,rfl,h7,hv1'⟩;have hv1:Below w0.heap.size w0 w5:=(Below.refl _ w0).drew.trans hv1')
     | (go_at_call 77;refine(Zbp A7 A8 c7 c8 (keyC s ⟨ta,oa,na⟩) (keyC s ⟨ta,ob,nb⟩) S _ (h7.keep (Same.of_below hv2' (fun b hb=>Nat.lt_of_lt_of_le (hS0 b hb) hv1.size))) h8 (fun b hb=>Nat.lt_of_lt_of_le (hS0 b hb) hv2.size)).mono ?_;rintro e w7 ⟨rfl,hv3'⟩;have hv3:Below w0.heap.size w0 w7:=hv2.trans (hv3'.mono hv2.size)))
   have HB7:=hI (HB0.out.trans (hv3.mono (by have:=HSZ.out;omega)));clear hv1 hv2 hv3 hv1' hv2' hv3' h7 h8 z0 z1 z2 z3 z4 z5 z6 z7
   go_wp2_with fail
   go_ret;exact⟨by rw [HF.out];rfl,HB7.out⟩
 · have hd:(ta == tb)=false:=(by simpa using ht);have HF:=hI (show Zdv s ⟨ta,oa,na⟩ ⟨tb,ob,nb⟩=false by unfold Zdv;simp [ht]);clear ht;go_enter Try.func76,Try.ntmps76
   go_wp2_with fail
   go_quiet (fail)
   go_wp2_with fail
   go_ret;exact⟨by rw [HF.out];rfl,Zad HB0.out _⟩
end Go.Proofs.Ytkpjjfhfbpfjpaa
