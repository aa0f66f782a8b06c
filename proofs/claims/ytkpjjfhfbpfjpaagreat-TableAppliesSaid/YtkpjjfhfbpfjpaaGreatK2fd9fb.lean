import Derived.Test.YtkpjjfhfbpfjpaaGreatK519b79
import Derived.Test.YtkpjjfhfbpfjpaaGreatK185549
set_option linter.unusedVariables false
set_option linter.unusedSimpArgs false
set_option maxRecDepth 100000
set_option maxHeartbeats 8000000
namespace Go.Proofs.YtkpjjfhfbpfjpaaGreat
def cntC (n:Int) (c:Chg):Int:=if c.new.length=0 then (if c.old.length=0 then n+1 else n) - 1 else if c.old.length=0 then n+1 else n
def Zby (s:Sch) (m:Int):Int→St→List Chg→Int × St
 | _,st,[]=>(0,st)
 | n,st,c :: r =>
  if Zan s m c=false then (71,[])
  else if cmpR ((getS s st c.table (keyC s c)).getD []) c.old≠0 then (81,[])
  else if 512<cntC n c then (2,[])
  else Zby s m (cntC n c) (st.set c.table.toNat (putR s c.table (keyC s c) c.new (st.getD c.table.toNat []))) r
theorem Zhk {s:Sch} {m:Int} {c:Chg} (h:Zan s m c=true):∃ k:Nat,c.table=(k:Int)∧k<s.tabs.length:=by
 unfold Zan at h;simp only [Bool.and_eq_true] at h;have h1:=h.1.1.1.1;unfold hasN at h1;simp only [Bool.and_eq_true,decide_eq_true_eq] at h1;obtain⟨k,hk⟩:=Int.eq_ofNat_of_zero_le h1.1;exact⟨k,hk,by omega⟩
theorem ZhI {s:Sch} {m:Int} {st:St} {c:Chg} (hw:∀ t,t<s.tabs.length→0<(s.tabs.getD t t0).cols.length) (h:StOk s m st) (hv:Zan s m c=true) :
  (cmpR ((getS s st c.table (keyC s c)).getD []) c.old=0↔ZbR s c (st.getD c.table.toNat [])=true)∧(ZbR s c (st.getD c.table.toNat [])=true→∀ n:Int,n+((putC s c (st.getD c.table.toNat [])).length - (st.getD c.table.toNat []).length:Int)=cntC n c)∧putR s c.table (keyC s c) c.new (st.getD c.table.toNat [])=putC s c (st.getD c.table.toNat []):=by
 obtain⟨k,hk,hkl⟩:=Zhk hv;have hkt:k<st.length:=(by rw [h.1];exact hkl);have hro:=h.2 k hkt
 have hne:¬ (c.old.length=0∧c.new.length=0):=fun ⟨e1,e2⟩=>by
  unfold Zan at hv;simp [e1,e2] at hv
 have ek:c.table.toNat=k:=(by rw [hk];simp);rw [ek];obtain⟨a,o,b,hcut⟩:=Zcz (keyC s c) hro.2;have hcut':Cut s c.table (keyC s c) (st.getD k []) a o b:=(by rw [hk];exact hcut)
 have hget:getS s st c.table (keyC s c)=o:=by
  unfold getS;have hin:inT s st c.table=true:=(by unfold inT hasN;rw [hk];simp;exact⟨hkl,hkt⟩);rw [if_pos hin,ek];exact hcut'.find
 have hpos:∀ r,o=some r→0<r.length:=fun r hr=>by
  have hm:r ∈ st.getD k []:=(by rw [hcut.eq,hr];simp);have:=Zcj (hro.1 r hm);rw [Int.toNat_natCast] at this;have:=hw k hkl;omega
 refine⟨?_,?_,?_⟩
 · rw [hget];constructor
   · intro hc;have e:=(cmpR_is.zero _ _).1 hc;refine Zfr hcut' ?_;cases o with
     | none =>
      have:c.old=[]:=(by simpa using e.symm);rw [this];simp
     | some r =>
      have e':r=c.old:=(by simpa using e);subst e';rw [if_pos (hpos _ rfl)]
   · intro hf;rw [fit_old hcut' hf];split
     · simp [cmpR_is.self]
     · have:c.old=[]:=List.eq_nil_of_length_eq_zero (by omega);rw [this];exact cmpR_is.self _
 · intro hf n;have ho:=fit_old hcut' hf;rw [Zgn,hcut'.put,hcut.eq,ho];unfold cntC
   by_cases h1:c.old.length=0
   · have h2:¬ c.new.length=0:=fun h2=>hne ⟨h1,h2⟩;rw [if_neg h2,if_pos h1,if_neg (show ¬ 0<c.old.length by omega),if_pos (show 0<c.new.length by omega)];simp only [List.length_append,Option.toList_none,List.length_nil,List.length_cons];omega
   · rw [if_pos (show 0<c.old.length by omega)]
     by_cases h2:c.new.length=0
     · rw [if_pos h2,if_neg h1,if_neg (show ¬ 0<c.new.length by omega)];simp only [List.length_append,Option.toList_some,List.length_nil,List.length_cons];omega
     · rw [if_neg h2,if_neg h1,if_pos (show 0<c.new.length by omega)];simp only [List.length_append,Option.toList_some,List.length_nil,List.length_cons];omega
 · rw [Zgn,hk];exact Zhc hro.2 _ _
theorem ZfS {s:Sch} {m:Int} (hw:∀ t,t<s.tabs.length→0<(s.tabs.getD t t0).cols.length):∀ (l:List Chg) (n:Int) (st:St),StOk s m st→Zby s m n st l=ZbY s m n st l
 | [],n,st,_=>rfl
 | c :: l,n,st,h=>by
  unfold Zby ZbY
  by_cases hv:Zan s m c=false
  · rw [if_pos hv,if_pos hv]
  · have hv':Zan s m c=true:=(by simpa using hv);obtain⟨h1,h2,h3⟩:=ZhI hw h hv';rw [if_neg hv,if_neg hv]
    by_cases hf:ZbR s c (st.getD c.table.toNat [])=true
    · have hc:¬ (cmpR ((getS s st c.table (keyC s c)).getD []) c.old≠0):=fun e=>e (h1.2 hf);have hff:¬ (ZbR s c (st.getD c.table.toNat [])=false):=(by rw [hf];simp);rw [if_neg hc,if_neg hff,h2 hf,h3];have:=ZfS hw l (cntC n c) _ (Zcd h hv').1;unfold Zcl at this;rw [this]
    · have hc:cmpR ((getS s st c.table (keyC s c)).getD []) c.old≠0:=fun e=>hf (h1.1 e)
      have hff:ZbR s c (st.getD c.table.toNat [])=false:=by cases h9:ZbR s c (st.getD c.table.toNat []) with
       | true=>exact absurd h9 hf
       | false=>rfl
      rw [if_pos hc,if_pos hff]
theorem ZfV:∀ (l:List Tab) (seen:List ByteArray),Zau seen l=true→∀ t ∈ l,0<t.cols.length
 | [],_,_,t,ht=>by simp at ht
 | t' :: r,seen,h,t,ht=>by
  simp only [Zau,Bool.and_eq_true,decide_eq_true_eq] at h;rcases List.mem_cons.1 ht with rfl | ht
  · have h1:=h.1.1.1.2;have h2:=h.1.1.2;omega
  · exact ZfV r _ h.2 t ht
theorem Zhp {pc:List Int→Pred→Int} {s:Sch} (h:schF pc s=0):∀ t,t<s.tabs.length→0<(s.tabs.getD t t0).cols.length:=by
 unfold schF at h;split at h
 · cases h
 split at h
 · cases h
 split at h
 · cases h
 rename_i h3
 have h4:Zau [] s.tabs=true:=by
  cases h5:Zau [] s.tabs with
  | true=>rfl
  | false=>exact absurd (.inr (.inr (.inl h5))) h3
 intro t ht;exact ZfV _ _ h4 _ (by simp [List.getD,ht])
def ZcK (e:Int) (s:Sch) (m:Int) (st:St) (l:List Chg):Int × St:=if ZaL e s m st≠0 then (ZaL e s m st,[]) else Zby s m (Zal st) st l
theorem rapplyF_eq (pc:List Int→Pred→Int) (s:Sch) (m:Int) (st:St) (l:List Chg):ZcK (schF pc s) s m st l=Zcc (schF pc s) s m st l:=by
 unfold ZcK Zcc
 by_cases h:ZaL (schF pc s) s m st=0
 · rw [if_neg (by simpa using h),if_neg (by simpa using h)]
   have hs:schF pc s=0:=by
    unfold ZaL Zcq at h
    by_cases he:schF pc s=0
    · exact he
    · rw [if_pos he,if_pos he] at h;exact h
   exact ZfS (Zhp hs) l _ st (StOk.of_check h)
 · rw [if_pos h,if_pos h]
end Go.Proofs.YtkpjjfhfbpfjpaaGreat

