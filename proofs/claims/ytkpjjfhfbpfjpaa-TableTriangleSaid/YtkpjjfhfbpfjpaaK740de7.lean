import Derived.Test.YtkpjjfhfbpfjpaaK42e91f
import Derived.Test.YtkpjjfhfbpfjpaaK4e30bf
import Derived.Test.YtkpjjfhfbpfjpaaK64d55c
set_option linter.unusedVariables false
set_option linter.unusedSimpArgs false
set_option maxRecDepth 100000
set_option maxHeartbeats 8000000
namespace Go.Proofs.Ytkpjjfhfbpfjpaa
theorem Zfy (s:Sch) (t m:Int):∀ (l:List Row) (p:Option Row),Zbx s t m p l=true→(∀ q,p=some q→∀ j,j<l.length→cmpR (keyF s t q) (keyF s t (l.getD j []))<0)∧Asc s t l
 | [],p,_=>⟨fun _ _ j hj=>by simp at hj,fun i j _ hj=>by simp at hj⟩
 | r :: l,p,h=>by
  simp only [Zbx,Bool.and_eq_true] at h;obtain⟨⟨h1,h2⟩,h3⟩:=h;obtain⟨h4,h5⟩:=Zfy s t m l (some r) h3;have h6:∀ q,p=some q→cmpR (keyF s t q) (keyF s t r)<0:=(fun q e=>by subst e;exact of_decide_eq_true h2);refine⟨fun q e j hj=>?_,fun i j hij hj=>?_⟩
  · cases j with
    | zero=>exact h6 q e
    | succ j=>exact cmpR_is.lt_trans (h6 q e) (h4 r rfl j (by simpa using hj))
  · cases j with
    | zero=>omega
    | succ j =>
     cases i with
     | zero=>exact h4 r rfl j (by simpa using hj)
     | succ i=>exact h5 i j (by omega) (by simpa using hj)
theorem Zgq (s:Sch) (m:Int):∀ (st:St) (t k:Nat),stOk s m t st=true→k<st.length→Zbx s ((t+k:Nat):Int) m none (st.getD k [])=true
 | [],t,k,_,hk=>by simp at hk
 | l :: st,t,k,h,hk=>by
  simp only [stOk,Bool.and_eq_true] at h;cases k with
  | zero=>exact h.1
  | succ k =>
   have:=Zgq s m st (t+1) k h.2 (by simpa using hk);rw [show t+1+k=t+(k+1) by omega] at this;exact this
theorem stOk_asc {s:Sch} {m:Int} {st:St} (h:stOk s m 0 st=true) (k:Nat) (hk:k<st.length):Asc s k (st.getD k []):=by
 have:=Zgq s m st 0 k h hk;rw [Nat.zero_add] at this;exact(Zfy s k m _ none this).2
theorem ZfR (st:St) (t:Nat) (l:List Row) (h:t<st.length):(Zak (st.set t l):Int)=Zak st+(l.length - (st.getD t []).length:Int):=by
 induction st generalizing t with
 | nil=>simp at h
 | cons a r ih =>
  cases t with
  | zero=>simp only [List.set_cons_zero,Zak,List.getD_cons_zero];omega
  | succ t =>
   have:=ih t (by simpa using h);simp only [List.set_cons_succ,Zak,List.getD_cons_succ];omega
theorem ZdR (st:St) (t:Nat):(st.getD t []).length≤Zak st:=by
 induction st generalizing t with
 | nil=>simp
 | cons a r ih =>
  cases t with
  | zero=>simp [Zak]
  | succ t=>have:=ih t;simp only [Zak,List.getD_cons_succ];omega
theorem Zhf {s:Sch} {m:Int} {c:Chg} (hv:Zas s m c=true) (hn:0<c.new.length):keyF s c.table c.new=keyC s c:=by
 unfold keyC;split
 · rename_i h0
   unfold Zas at hv;simp only [Bool.and_eq_true,Bool.or_eq_true,decide_eq_true_eq,beq_iff_eq] at hv;rcases hv.2 with (h | h) | h
   · omega
   · omega
   · exact((cmpR_is.zero _ _).1 h).symm
 · rfl
theorem ZeZ (a b:List Row) (i:Nat) (h:i<a.length):(a++b).getD i []=a.getD i []:=by simp [List.getD,List.getElem?_append_left h]
theorem ZeY (a b:List Row) (i:Nat) (h:a.length≤i):(a++b).getD i []=b.getD (i - a.length) []:=by simp [List.getD,List.getElem?_append_right h]
theorem Zci {s:Sch} {t:Int} {a b:List Row} (ha:Asc s t a) (hb:Asc s t b) (hab:∀ x ∈ a,∀ y ∈ b,cmpR (keyF s t x) (keyF s t y)<0):Asc s t (a++b):=by
 intro i j hij hj;rw [List.length_append] at hj
 by_cases h1:j<a.length
 · rw [ZeZ _ _ _ (by omega),ZeZ _ _ _ h1];exact ha i j hij h1
 · by_cases h2:i<a.length
   · rw [ZeZ _ _ _ h2,ZeY _ _ _ (by omega)];refine hab _ ?_ _ ?_
     · simp [List.getD,h2]
     · have:j - a.length<b.length:=(by omega);simp [List.getD,this]
   · rw [ZeY _ _ _ (by omega),ZeY _ _ _ (by omega)];exact hb _ _ (by omega) (by omega)
theorem Zgl {s:Sch} {t:Int} {l:List Row} (h:Asc s t l) (k:Nat):Asc s t (l.take k):=by
 intro i j hij hj;rw [List.length_take] at hj;have e:∀ x,x<k→(l.take k).getD x []=l.getD x []:=(fun x hx=>by simp [List.getD,List.getElem?_take,hx]);rw [e i (by omega),e j (by omega)];exact h i j hij (by omega)
theorem ZdS {l:List Row} (k i:Nat):(l.drop k).getD i []=l.getD (k+i) []:=by simp [List.getD,List.getElem?_drop]
theorem ZhH {s:Sch} {t:Int} {l:List Row} (h:Asc s t l) (k:Nat):Asc s t (l.drop k):=by
 intro i j hij hj;rw [List.length_drop] at hj;rw [ZdS,ZdS];exact h _ _ (by omega) (by omega)
theorem Zgd {l:List Row} {x:Row} (h:x ∈ l):∃ i,i<l.length∧l.getD i []=x:=by
 obtain⟨i,hi,e⟩:=List.mem_iff_getElem.1 h;exact⟨i,hi,by simp [List.getD,hi,e]⟩
theorem asc_one (s:Sch) (t:Int) (r:Row):Asc s t [r]:=fun i j hij hj=>by simp at hj;omega
theorem ZfD {s:Sch} {t:Int} {key:Row} {l:List Row} (ha:Asc s t l) {k:Nat} (hk:k<l.length) (h1:low s t key l≤k) (h2:k=low s t key l→cmpR (keyF s t (l.getD k [])) key≠0):cmpR key (keyF s t (l.getD k []))<0:=by
 have h3:=low_ge s t key l (by omega);have hfl:∀ a b:Row,cmpR b a=- cmpR a b:=cmpR_is.flip;rcases Nat.lt_or_eq_of_le h1 with h4 | h4
 · have h5:=ha _ _ h4 hk;have h6:cmpR key (keyF s t (l.getD (low s t key l) []))≤0:=(by rw [hfl];omega);exact cmpR_is.le_lt_trans h6 h5
 · subst h4;have:=h2 rfl;rw [hfl];omega
theorem asc_put {s:Sch} {m:Int} {c:Chg} {l:List Row} (ha:Asc s c.table l) (hv:Zas s m c=true):Asc s c.table (putC s c l):=by
 unfold putC
 have hlt:∀ x ∈ l.take (low s c.table (keyC s c) l),cmpR (keyF s c.table x) (keyC s c)<0:=by
  intro x hx;obtain⟨i,hi,e⟩:=Zgd hx;rw [List.length_take] at hi;have e2:(l.take (low s c.table (keyC s c) l)).getD i []=l.getD i []:=(by simp [List.getD,List.getElem?_take,show i<low s c.table (keyC s c) l by omega]);rw [←e,e2];exact low_lt s c.table (keyC s c) l i (by omega)
 have hgt:∀ y ∈ (if ZbT s c l then l.drop (low s c.table (keyC s c) l+1) else l.drop (low s c.table (keyC s c) l)),cmpR (keyC s c) (keyF s c.table y)<0:=by
  intro y hy;cases hf:ZbT s c l with
  | true =>
   rw [hf] at hy;obtain⟨i,hi,e⟩:=Zgd hy;simp only [if_true,List.length_drop] at hi;simp only [if_true,ZdS] at e;rw [←e];exact ZfD ha (by omega) (by omega) (fun h=>by omega)
  | false =>
   rw [hf] at hy;obtain⟨i,hi,e⟩:=Zgd hy;simp only [Bool.false_eq_true,if_false,List.length_drop] at hi;simp only [Bool.false_eq_true,if_false,ZdS] at e;rw [←e];refine ZfD ha (by omega) (by omega) (fun h=>?_);have hi0:i=0:=(by omega);subst hi0;unfold ZbT at hf;rw [decide_eq_true (show low s c.table (keyC s c) l<l.length by omega),Bool.true_and] at hf;rw [Nat.add_zero];exact beq_eq_false_iff_ne.1 hf
 have hdr:Asc s c.table (if ZbT s c l then l.drop (low s c.table (keyC s c) l+1) else l.drop (low s c.table (keyC s c) l)):=by split<;>exact ZhH ha _
 by_cases hn:0<c.new.length
 · rw [if_pos hn];have hk:=Zhf hv hn;refine Zci (Zci (Zgl ha _) (asc_one _ _ _) (fun x hx y hy=>?_)) hdr (fun x hx y hy=>?_)
   · rw [List.mem_singleton] at hy;rw [hy,hk];exact hlt x hx
   · rcases List.mem_append.1 hx with hx | hx
     · exact cmpR_is.lt_trans (hlt x hx) (hgt y hy)
     · rw [List.mem_singleton] at hx;rw [hx,hk];exact hgt y hy
 · rw [if_neg hn,List.append_nil];exact Zci (Zgl ha _) hdr (fun x hx y hy=>cmpR_is.lt_trans (hlt x hx) (hgt y hy))
theorem Zhc (s:Sch) (c:Chg) (l:List Row):(putC s c l).length≤l.length+1:=by
 unfold putC;have:=Zeu s c.table (keyC s c) l;simp only [List.length_append,List.length_take];split<;>split<;>simp<;>omega
theorem Zgk {e:Int} {s:Sch} {m:Int} {st:St} (h:Zbo e s m st=0):Zak st≤512∧st.length=s.tabs.length∧stOk s m 0 st=true:=by
 unfold Zbo at h;split at h
 · omega
 · split at h
   · omega
   · split at h
     · omega
     · rename_i h1 h2 h3
       split at h
       · rename_i h4
         exact⟨by omega,by simpa using h3,h4⟩
       · omega
open Go.RowKit
def ApPost (r:Int × St) (w:World) (e:Ending) (w':World):Prop:=∃ A c,e=.returned (.tuple #[.agg #[.slice A r.2.length c],.int .i64 r.1])∧r.2.length≤c∧StS w' (New w w') A r.2∧Below w.heap.size w w'
def ApPostF (r:Int × St) (w:World) (e:Ending) (w':World):Prop:=∃ A c,e=.returned (.tuple #[.agg #[.slice A r.2.length c],.int .i64 r.1])∧r.2.length≤c∧StS w' (NewF w w') A r.2∧Below w.heap.size w w'
theorem ApPostF.err {w w':World} {n:Int} {r:Int × St} (h:r=(n,[])) (hb:Below w.heap.size w w'):ApPostF r w (.returned (.tuple #[.agg #[.slice none 0 0],.int .i64 n])) w':=by
 subst h;exact⟨none,0,rfl,Nat.le_refl _,StS.nil_,hb⟩
theorem ApPostF.post {w w':World} {e:Ending} {r:Int × St} (h:ApPostF r w e w'):ApPost r w e w':=by
 obtain⟨A,c,h1,h2,h3,h4⟩:=h;exact⟨A,c,h1,h2,h3.more (fun b hb=>⟨hb.1,hb.2.1⟩),h4⟩
theorem Zah {w:World} {o:Obj} {b k:Nat} (h:b<w.heap.size):(w.alloc o).cell? ⟨b,k,none⟩=w.cell? ⟨b,k,none⟩:=World.cell?_of_block (Below.heap_alloc w o b h)
theorem ZbX {w:World} {o:Obj} {b k:Nat} (h:b<w.heap.size):(w.alloc o).frozen? ⟨b,k,none⟩=w.frozen? ⟨b,k,none⟩:=World.frozen?_of_block (Below.heap_alloc w o b h)
theorem Zae {w:World} {cs:Array Value} {t:TypeId} {n k:Nat} {v:Value} (hn:n=w.heap.size) (h:cs[k]?=some v):(w.alloc (.cells cs t)).cell? ⟨n,k,none⟩=some v:=by
 subst hn;rw [cell_of_row _ _ _ _ _ _ (heap_alloc_new w (.cells cs t))];exact h
theorem Zbk {w:World} {cs:Array Value} {t:TypeId} {n k:Nat} (hn:n=w.heap.size):(w.alloc (.cells cs t)).frozen? ⟨n,k,none⟩=false:=by
 subst hn;have h:=heap_alloc_new w (.cells cs t);unfold World.frozen?;rw [h];simp
theorem Zgh {l:List Chg} {k:Nat} (h:k<l.length):l.drop k=l.getD k chg0 :: l.drop (k+1):=by
 rw [List.drop_eq_getElem_cons h];simp [List.getD,h]
theorem ZeP {s:Sch} {m:Int} {c:Chg} (h:Zas s m c=true):∃ tt:Nat,c.table=tt∧tt<s.tabs.length:=by
 unfold Zas at h;simp only [Bool.and_eq_true,hasN,decide_eq_true_eq] at h;obtain⟨tt,htt⟩:=Int.eq_ofNat_of_zero_le h.1.1.1.1.1;exact⟨tt,htt,by have:=h.1.1.1.1.2;omega⟩
theorem valid_some {s:Sch} {m:Int} {c:Chg} (h:Zas s m c=true):0<c.old.length∨0<c.new.length:=by
 unfold Zas at h;simp only [Bool.and_eq_true,Bool.not_eq_true',Bool.and_eq_false_iff,decide_eq_false_iff_not] at h;have:=h.1.1.1.2;omega
theorem getD_set_same {st:St} {t:Nat} {r:List Row} (h:t<st.length):(st.set t r).getD t []=r:=by simp [List.getD,h]
theorem getD_set_other {st:St} {t u:Nat} {r:List Row} (h:u≠t):(st.set t r).getD u []=st.getD u []:=by simp [List.getD,List.getElem?_set_ne (Ne.symm h)]
theorem take_snoc {l:List Row} {k:Nat} (h:k<l.length):l.take (k+1)=l.take k++[l.getD k []]:=by
 rw [List.take_succ_eq_append_getElem h];simp [List.getD,h]
theorem apply_fresh (pc:List Int→Pred→Int) (A0:Option Addr) (c0':Nat) (s:Sch) (m:Int) (A:Option Addr) (ca:Nat) (st:St) (AC:Option Addr) (cc:Nat) (l:List Chg) (S:Nat→Prop) (w:World) (hs:TabS w S A0 s.tabs) (hst:StS w S A st) (hch:ChgS w S AC l) (hS:∀ b,S b→b<w.heap.size) (hpc:Zcu pc s) (hc:Zak st≤4611686018427387904) :
  Calls Try.prog 18 #[sAgg s.version A0 s.tabs.length c0',.int .i64 m,Zay A st.length ca,.slice AC l.length cc] w (ApPostF (ZcS (schF pc s) s m st l) w):=by
 have hsl:=hs.len;have hstl:=hst.len;have hcl:=hch.len;have HS:=hI hs;have HST:=hI hst;have HCH:=hI hch;obtain⟨er,her⟩:∃ er,Zbo (schF pc s) s m st=er:=⟨_,rfl⟩;have HCF:=hI her;have HAP:=hI (show ZcS (schF pc s) s m st l=if er≠0 then (er,[]) else Zco s m (Zak st) st l by unfold ZcS;rw [her]);have HMK:=hI (ZdJ st.length hstl);obtain⟨i0,hi,hz0,hz1,hz2⟩:=info_parts ZgH;clear hs hst hch her;have HB0:=hI ((((Below.refl w.heap.size w).alloc nR (.cells #[.int .i64 s.version,.slice A0 s.tabs.length c0'] 25)).alloc (by simp) (.cells #[.slice A st.length ca] 56)).alloc (by simp;omega) (.cells #[.slice none 0 0] 56));go_enter Try.func18,Try.ntmps18
 go_wp2_with fail
 refine(Zec pc A0 c0' s m A ca st S _ (HS.out.keep (Same.of_below HB0.out hS)) (HST.out.keep (Same.of_below HB0.out hS)) (fun b hb=>by have:=hS b hb;simp;omega) hpc hc).mono ?_;rintro e w1 ⟨rfl,hb1⟩;rw [HCF.out];have HB1:=hI (HB0.out.trans (hb1.mono (by simp;omega)));have x0:w1.cell? ⟨w.heap.size,0,none⟩=some (.int .i64 s.version):=c9K hb1 ((Zah (by simp;omega)).trans ((Zah (by simp)).trans (Zae rfl rfl)));have x1:w1.cell? ⟨w.heap.size,1,none⟩=some (.slice A0 s.tabs.length c0'):=c9K hb1 ((Zah (by simp;omega)).trans ((Zah (by simp)).trans (Zae rfl rfl)));have x2:w1.cell? ⟨w.heap.size+1,0,none⟩=some (.slice A st.length ca):=c9Q hb1 (by simp) ((Zah (by simp)).trans (Zae (by simp) rfl));have x3:w1.cell? ⟨w.heap.size+1+1,0,none⟩=some (.slice none 0 0):=c9Q hb1 (by simp) (Zae (by simp) rfl);have x4:w1.frozen? ⟨w.heap.size+1+1,0,none⟩=false:=(hb1.frozen (p:=⟨w.heap.size+1+1,0,none⟩) (by simp)).trans (Zbk (by simp));have hw1:w.heap.size+1+1<w1.heap.size:=(by have:=hb1.size;simp at this;omega);have hw1a:w.heap.size+1<w1.heap.size:=(by omega);have hw1b:w.heap.size<w1.heap.size:=(by omega);clear hb1 HB0
 by_cases he:er=0
 · subst he;have HOK:=hI (Zgk HCF.out);have HAP2:=hI (show ZcS (schF pc s) s m st l=Zco s m (Zak st) st l by rw [HAP.out,if_neg (by simp)]);clear HAP;have hmk:=HMK.out
   go_wp2_with fail
   clear hmk
   have HI:=hI (show ApW w w1.heap.size s A0 c0' st.length ((w1.alloc (.cells (ZaI st.length).toArray 49)).alloc (.cells #[.slice (some ⟨w1.heap.size,0,none⟩) st.length st.length] 56)) from
    ⟨(HB1.out.alloc (by omega) _).alloc (by simp;omega) _,(Zah (by simp;omega)).trans ((Zah hw1b).trans x0),(Zah (by simp;omega)).trans ((Zah hw1b).trans x1),(Zah (by simp;omega)).trans ((Zah hw1).trans x3),(ZbX (by simp;omega)).trans ((ZbX hw1).trans x4),Zae (by simp) rfl,hw1,by simp⟩)
   have HI2:=hI (show CopyO ((w1.alloc (.cells (ZaI st.length).toArray 49)).alloc (.cells #[.slice (some ⟨w1.heap.size,0,none⟩) st.length st.length] 56)) (w1.heap.size+2) w1.heap.size st.length 0 st from CopyO.zero ((Below.heap_alloc _ _ _ (by simp)).trans (heap_alloc_new w1 _)));clear x0 x1 x2 x3 x4
   go_loopw [37] (fun i wr=>∃ k:Nat,k≤st.length∧i=.int .i64 k∧ApW w w1.heap.size s A0 c0' st.length wr∧CopyO wr (w1.heap.size+2) w1.heap.size st.length k st) (fun i _=>st.length - (intOf i).toNat)
   case atStart=>exact⟨0,Nat.zero_le _,rfl,HI.out,HI2.out⟩
   case round =>
    clear HI HI2;obtain⟨k,hk,rfl,haw,hco⟩:=hrel;have HAW:=hI haw;have HCO:=hI hco;have hsz:=haw.sz;clear haw hco
    by_cases hkl:k<st.length
    · obtain⟨b2,o2,rfl,hb2,A',c',d1,d2,d3⟩:=(HST.out.keep (Same.of_below HAW.out.bel hS)).at_ hkl;have hl2:b2<wr.heap.size:=(by have:=hS b2 hb2;omega);have HRS:=hI d3;have hrl:=d3.len;have HCI:=hI (HCO.out.inner hkl);have HGE:=hI (Nat.le_trans (ZdR st k) HOK.out.1);clear d2 d3 HCO;obtain⟨rows,hrows⟩:∃ rows,st.getD k []=rows:=⟨_,rfl⟩;rw [hrows] at d1 HRS hrl HGE;have HROWS:=hI hrows;clear hrows;have hge:=HGE.out
      go_wp2_with fail
      clear d1
      go_loopw [44] (fun i wr=>∃ j:Nat,j≤rows.length∧i=.int .i64 j∧∃ v,ApW w w1.heap.size s A0 c0' st.length wr∧CopyI wr (w1.heap.size+2) w1.heap.size st.length k st v (rows.take j)) (fun i _=>rows.length - (intOf i).toNat)
      case atStart=>exact⟨0,Nat.zero_le _,rfl,_,HAW.out,by rw [List.take_zero];exact HCI.out⟩
      case round =>
       rename_i wo
       have HRO:=hI (HRS.out.keep (w':=w) (fun b hb=>(HAW.out.bel.block b (hS b hb)).symm));clear HAW HCI HRS hsz hl2;obtain⟨j,hj,rfl,v,haw,hci⟩:=hrel;have HAW:=hI haw;have HCI:=hI hci;have hsz:=haw.sz;clear haw hci
       by_cases hjl:j<rows.length
       · obtain⟨AV,cv,hform⟩:=HCI.out.form;rw [List.length_take,Nat.min_eq_left hj] at hform;subst hform;obtain⟨g2,g3⟩:=HCI.out.cell;have g1:=HAW.out.a0;obtain⟨vals,hown,hvals,hvS⟩:=HCI.out.own;rw [List.length_map,List.length_take,Nat.min_eq_left hj] at hown;have HOWN:=hI hown;have HVALS:=hI hvals;have HNV1:=hI (show some (w1.heap.size+1)≠(Value.slice AV j cv).ownBlock from fun e=>by have:=ZaF hown e.symm;omega);have HNV2:=hI (show some w1.heap.size≠(Value.slice AV j cv).ownBlock from fun e=>by have:=ZaF hown e.symm;omega);have HOWN6:=hI (show ∀ w5,Below wr.heap.size wr w5→∀ AR n c,(w5.alloc (.cells #[.slice AR n c] 27)).ownsRow (w1.heap.size+2) 27 1 (.slice AV j cv) j vals from fun w5 hb5 AR n c=>ZaU hown (fun g hg=>(Below.heap_alloc w5 _ g (by have:=ZaE hown hg;have:=hb5.size;omega)).trans (hb5.block g (ZaE hown hg))));clear hown hvals hvS;obtain⟨b5,o5,rfl,hb5,A5,c5,f1,f2,f3⟩:=(HRO.out.keep (Same.of_below HAW.out.bel hS)).at_ hjl;have HROW:=hI f3;have hl5:b5<wr.heap.size:=(by have:=hS b5 hb5;have:=HAW.out.lt;omega);have HTK:=hI (take_snoc hjl);have hrw:=f3.len;clear f2 f3;generalize rows.getD j []=row at f1 HROW hrw HTK;have hki:(k:Int)<st.length:=(by omega);have hk0:(0:Int)≤k:=by omega
         go_wp2_with fail
         clear f1;refine tS (fun w'=>w'.cell? ⟨w1.heap.size+1,0,none⟩=some (.slice (some ⟨w1.heap.size,0,none⟩) st.length st.length)∧w'.cell? ⟨w1.heap.size,k,none⟩=some (.slice AV j cv)∧w'.frozen? ⟨w1.heap.size,k,none⟩=false) 13 14 fun Q' HQ HP=>?_;refine tX 0 48 1 49 2 50 3 51 (bA 14 15) HP.out ⟨g1,g2,g3⟩ ?_;refine tX 4 52 5 53 6 54 7 55 (bA 14 255) HP.out ⟨g1,g2,g3⟩ ?_;refine tJ 8 56 (bA 14 511) HP.out ⟨g1,g2,g3⟩ ?_;refine tQ 9 (some 57) (bA 14 1023) fun K HK=>?_;go_simp;refine(ZaC A5 c5 row S _ (by exact HROW.out.keep (fun _ _=>rfl))).mono ?_;rintro e w5 ⟨AR,cr,rfl,hown5,hb5⟩;have hb5':Below wr.heap.size wr w5:=(Below.refl wr.heap.size wr).drew.trans hb5;have HNR:=hI (Zgc (n:=wr.heap.size) hown5 HROW.out.ok nR);have HB5:=hI hb5';have k1:=c9K hb5' g1;have k2:=c9K hb5' g2;have k3:=(hb5'.frozen (p:=⟨w1.heap.size,k,none⟩) (by simp;omega)).trans g3;have hz5:wr.heap.size≤w5.heap.size:=hb5'.size;clear hb5 hb5' hown5;refine HK.out _ _ (fun _=>⟨k1,k2,k3⟩) ?_;clear HK K
         try simp only [Act.put,psA,psB,psC]
         refine tQ 10 (some 58) (bA 14 2047) fun K HK=>?_;go_simp;have l1:(w5.alloc (.cells #[.slice AR row.length cr] 27)).cell? ⟨w1.heap.size+1,0,none⟩=_:=(Zah (by omega)).trans k1;have l2:(w5.alloc (.cells #[.slice AR row.length cr] 27)).cell? ⟨w1.heap.size,k,none⟩=_:=(Zah (by omega)).trans k2;have l3:(w5.alloc (.cells #[.slice AR row.length cr] 27)).frozen? ⟨w1.heap.size,k,none⟩=_:=(ZbX (by omega)).trans k3;refine HK.out _ _ (fun _=>⟨l1,l2,l3⟩) ?_;clear HK K
         try simp only [Act.put,psA,psB,psC]
         refine anyT_one (i:=11) (o:=⟨some 59,_,_,_,_,_⟩) (L':=(bA 14 4095)) rfl (by kernel_rfl) (by kernel_rfl) (fun K hK=>?_);refine step_append_lies _ (by rfl) (.tmp 55) (.tmp 58) _ (by rfl) (w1.heap.size+2) 27 i0 _ 1 24 Try.underlying49 hi hz0 hz1 hz2 rfl (by decide) (.slice AV j cv) j vals (by rfl) (by exact HOWN6.out w5 HB5.out AR row.length cr) ⟨w5.heap.size,0,none⟩ 1 1 [.slice AR row.length cr] (by rfl) (by rfl) (World.news_of_block (cs:=#[.slice AR row.length cr]) (t:=27) (fr:=(0,0)) (heap_alloc_new w5 _)) (by simp [Value.oneCell']) (by omega) (by unfold maxLen;omega) (by omega) (by simp;omega) (w5.heap.size+1) (by simp) ?_;intro g7 c7 w7 hown7 hgr7 hat7 hlt7;have m1:=(hgr7.cell_far ⟨w1.heap.size+1,0,none⟩ (by simp;omega) HNV1.out).trans l1;have m2:=(hgr7.cell_far ⟨w1.heap.size,k,none⟩ (by simp;omega) HNV2.out).trans l2;have m3:=(hgr7.frozen_far ⟨w1.heap.size,k,none⟩ (by simp;omega) HNV2.out).trans l3;have hz7:w5.heap.size+1≤w7.heap.size:=(by have:=hgr7.size;simp at this;exact this);have HO7:=hI hown7;have HG7:=hI hgr7;have HAT7:=hI hat7;clear hown7 hgr7 hat7;refine hK _ _ (fun _=>⟨m1,m2,m3⟩) ?_;clear hK K
         try simp only [Act.put,psA,psB,psC]
         refine tJ 12 60 (bA 14 8191) HP.out ⟨m1,m2,m3⟩ ?_;refine tQ 13 none (bA 14 16383) fun K HK=>?_;go_simp;refine HK.out _ _ (fun h=>absurd rfl h) ?_;clear HK K;refine tE HQ ?_;clear HQ HP Q';have HFIN:=hI (HCI.out.push (by omega) (by omega) (HB5.out.alloc (Nat.le_trans nR HB5.out.size) (.cells #[.slice AR row.length cr] 27)) ⟨HNR.out.1,(HNR.out.2.keep (fun b hb=>Below.heap_alloc w5 _ b hb.2.1)).more (fun b hb=>⟨hb.1,by simp;omega,hb.2.2.keep (Below.heap_alloc w5 _ b hb.2.1)⟩)⟩ HVALS.out HG7.out (by rw [List.length_take,Nat.min_eq_left hj]) HO7.out (HAT7.out.imp id (fun h=>by simp;omega)) (fun g' hg'=>⟨ZaF HOWN.out hg',ZaE HOWN.out hg'⟩));rw [←HTK.out] at HFIN;have HFR:=hI (show Fr (fun b=>b=w1.heap.size∨w1.heap.size+2≤b) wr (w7.setCell ⟨w1.heap.size,k,none⟩ (.slice (some ⟨g7,0,none⟩) (j+1) c7)) from (((Fr.of_below HB5.out).alloc _).trans (Y:=fun b=>some b=(Value.slice AV j cv).ownBlock) (Fr.of_grown HG7.out (fun b _ h=>h)) (fun b _ h=>.inr (ZaF HOWN.out h.symm))).setCell _ (fun _=>.inl rfl));clear HROW HNR HB5 HO7 HG7 HAT7 HOWN HOWN6 HVALS m1 m2 m3 l1 l2 l3 k1 k2 k3
         go_wp2_with fail
         go_roundw
         case rel=>exact⟨j+1,by omega,by go_num,_,HAW.out.keep HFR.out,HFIN.out⟩
         case measure=>simp [intOf];omega
       · have HEND:=hI (HCI.out);rw [List.take_of_length_le (by omega),←HROWS.out] at HEND
         go_wp2_with fail
         go_roundw
         case rel=>exact⟨k+1,by omega,by go_num,HAW.out,HEND.out.outer hkl hkl (by rw [HROWS.out];omega)⟩
         case measure=>simp [intOf];omega
    · obtain rfl:k=st.length:=(by omega);have HSB:=hI (HCO.out.done rfl (by omega));have a0:=HAW.out.a0;clear HCO
      go_wp2_with fail
      refine(ZcC (some ⟨w1.heap.size,0,none⟩) st.length st (fun b=>w1.heap.size≤b∧b<wr.heap.size) _ (HSB.out.slice hstl (fun b hb=>⟨by omega,hb.2.1⟩) ⟨Nat.le_refl _,by omega⟩) (fun b hb=>hb.2) hc).mono ?_;rintro e w2 ⟨rfl,hb2⟩;have HAW2:=hI (HAW.out.below hb2);have HSB2:=hI ((HSB.out.below hb2).more (S':=fun b=>w1.heap.size+2≤b∧b<w2.heap.size∧Fl w2 b) (fun b hb=>⟨hb.1,Nat.lt_of_lt_of_le hb.2.1 hb2.size,hb.2.2.keep (hb2.block b hb.2.1)⟩) (fun b hb=>⟨hb.2.1,by omega⟩));clear hb2 HAW HSB a0 hsz;have HASC:=hI (fun t ht=>stOk_asc HOK.out.2.2 t ht)
      go_wp2_with fail
      have HI:=hI (show ∃ cur:St,Zak st=Zak cur∧Zco s m (Zak st) st l=Zco s m (Zak cur) cur l∧StB w2 (fun b=>w1.heap.size+2≤b∧b<w2.heap.size∧Fl w2 b) w1.heap.size cur∧cur.length=st.length∧Zak cur≤512∧∀ t,t<cur.length→Asc s t (cur.getD t []) from ⟨st,rfl,rfl,HSB2.out,rfl,HOK.out.1,HASC.out⟩);have HLEN:=hI HOK.out.2.1;have HOKC:=HOK.out.1;clear HSB2 HASC HOK HST HMK
      go_loopw [16,67] (fun n i wr=>∃ k:Nat,k≤l.length∧i=.int .i64 k∧∃ cur:St,n=.int .i64 (Zak cur)∧Zco s m (Zak st) st l=Zco s m (Zak cur) cur (l.drop k)∧ApW w w1.heap.size s A0 c0' st.length wr∧StB wr (fun b=>w1.heap.size+2≤b∧b<wr.heap.size∧Fl wr b) w1.heap.size cur∧cur.length=st.length∧Zak cur≤512∧∀ t,t<cur.length→Asc s t (cur.getD t [])) (fun _ i _=>l.length - (intOf i).toNat)
      case atStart =>
       obtain⟨cur,h1,h2,h3,h4,h5,h6⟩:=HI.out;exact⟨0,Nat.zero_le _,rfl,cur,by rw [h1],by rw [List.drop_zero];exact h2,HAW2.out,h3,h4,h5,h6⟩
      case round =>
       clear HI HAW2
       rename_i wp
       obtain⟨k,hk,rfl,cur,rfl,hap,haw,hsb,hcl',hcc,hasc⟩:=hrel;have HT:=hI hap;have HAW:=hI haw;have HSB:=hI hsb;have HCL:=hI hcl';have HASC:=hI hasc;have hsz:=haw.sz;have hlt:=haw.lt;have v0:=haw.v0;have v1:=haw.v1;have r0:=haw.r0;have r1:=haw.r1;have a0:=haw.a0;clear hap haw hsb hcl' hasc
       by_cases hkl:k<l.length
       · obtain⟨b2,o2,rfl,hb2,d0,A1,c1,A2,c2,d1,e1,hR1,d2,e2,hR2⟩:=(HCH.out.keep (Same.of_below HAW.out.bel hS)).at_ hkl;have HSTEP:=hI (Zgh hkl);have HR1:=hI hR1;have HR2:=hI hR2;have HE1:=hI e1;have HE2:=hI e2;have hn1:=hR1.len;have hn2:=hR2.len;have hl2:b2<wr.heap.size:=(by have:=hS b2 hb2;omega);clear hR1 hR2 e1 e2;generalize l.getD k chg0=ch at d0 d1 d2 HSTEP HR1 HR2 HE1 HE2 hn1 hn2;obtain⟨t,old,new⟩:=ch;simp only at d0 d1 d2 HR1 HR2 HE1 HE2 hn1 hn2;have hw0:w.heap.size<wr.heap.size:=(by omega);have hw1':w.heap.size+1+1<wr.heap.size:=(by omega);have hw2':w1.heap.size+1<wr.heap.size:=(by omega);have hw3':w1.heap.size<wr.heap.size:=(by omega);have HBA:=hI ((Below.refl wr.heap.size wr).alloc nR (.cells #[.int .i64 t,.slice A1 old.length c1,.slice A2 new.length c2] 53))
         go_wp2_with fail
         refine(Zfv A0 c0' s m ⟨t,old,new⟩ A1 c1 A2 c2 S _ (HS.out.keep (fun b hb=>(HBA.out.block b (by have:=hS b hb;omega)).trans (HAW.out.bel.block b (hS b hb)))) (HR1.out.keep (fun b hb=>HBA.out.block b (by have:=hS b hb;omega))) HE1.out (HR2.out.keep (fun b hb=>HBA.out.block b (by have:=hS b hb;omega))) HE2.out (fun b hb=>by have:=hS b hb;simp;omega)).mono ?_;rintro e w3 ⟨rfl,hb3⟩;have hb3':Below wr.heap.size wr w3:=HBA.out.trans (hb3.mono (by simp));have HAW3:=hI (HAW.out.below hb3');have HB3:=hI hb3';have y0:w3.cell? ⟨wr.heap.size,0,none⟩=some (.int .i64 t):=c9Q hb3 (by simp) (Zae rfl rfl);have y1:w3.cell? ⟨wr.heap.size,1,none⟩=some (.slice A1 old.length c1):=c9Q hb3 (by simp) (Zae rfl rfl);have y2:w3.cell? ⟨wr.heap.size,2,none⟩=some (.slice A2 new.length c2):=c9Q hb3 (by simp) (Zae rfl rfl);have hw3:wr.heap.size<w3.heap.size:=(by have:=hb3.size;simp at this;omega);clear hb3 hb3' v0 v1 r0 r1 a0 d0 d1 d2;have v0:=HAW3.out.v0;have v1:=HAW3.out.v1;have r0:=HAW3.out.r0;have r1:=HAW3.out.r1;have a0:=HAW3.out.a0
         by_cases hval:Zas s m ⟨t,old,new⟩=true
         · have HVAL:=hI hval;rw [hval];clear hval;obtain⟨tt,htt⟩:=ZeP HVAL.out;obtain⟨htt1,htt2⟩:=htt;simp only at htt1;subst htt1;have HVO:=hI (valid_some HVAL.out);obtain⟨_,A9,c9,z1,z2,z3⟩:=(HSB.out.keep HB3.out.size (fun b hb=>HB3.out.block b hb.2.1) (HB3.out.block _ (by omega))).at_ (show tt<cur.length by rw [HCL.out,HLEN.out];exact htt2);have hfz:w3.frozen? ⟨w1.heap.size,tt,none⟩=false:=((HSB.out.keep HB3.out.size (fun b hb=>HB3.out.block b hb.2.1) (HB3.out.block _ (by omega))).at_ (show tt<cur.length by rw [HCL.out,HLEN.out];exact htt2)).1;have HZ3:=hI z3;have HZ2:=hI z2;have HRL:=hI (Nat.le_trans (ZdR cur tt) hcc);have HAS:=hI (HASC.out tt (by rw [HCL.out,HLEN.out];exact htt2));have HSTEP2:=hI (show Zco s m (Zak cur) cur (l.drop k)=(if Zdq s ⟨tt,old,new⟩ (cur.getD tt [])=false then (81,[]) else if 512<(Zak cur:Int)+((putC s ⟨tt,old,new⟩ (cur.getD tt [])).length - (cur.getD tt []).length:Int) then (2,[]) else Zco s m ((Zak cur:Int)+((putC s ⟨tt,old,new⟩ (cur.getD tt [])).length - (cur.getD tt []).length:Int)) (cur.set tt (putC s ⟨tt,old,new⟩ (cur.getD tt []))) (l.drop (k+1))) by rw [HSTEP.out,Zco,if_neg (by rw [HVAL.out];simp)];simp only [Int.toNat_natCast]);have HCS:=hI (fun r=>ZfR cur tt r (by rw [HCL.out,HLEN.out];exact htt2));have HPA:=hI (show ∀ r:List Row,Asc s (tt:Int) r→Asc s (tt:Int) (putC s ⟨tt,old,new⟩ r) from fun r h=>asc_put (m:=m) (c:=⟨tt,old,new⟩) h HVAL.out);have HPL:=hI (Zhc s ⟨tt,old,new⟩ (cur.getD tt []));clear HSTEP z2 z3;generalize hrw:cur.getD tt []=rows at z1 HZ2 HZ3 HRL HAS HSTEP2 HCS HPL;have HRW:=hI hrw;clear hrw;have hrl:=HRL.out;have hS3:∀ b,(S b∨(w1.heap.size+2≤b∧b<wr.heap.size∧Fl wr b))→b<w3.heap.size:=(fun b hb=>by rcases hb with hb | hb;have:=hS b hb;omega;omega);have HSQ:=hI ((HS.out.keep (Same.of_below HAW3.out.bel hS)).more (S':=fun b=>S b∨(w1.heap.size+2≤b∧b<wr.heap.size∧Fl wr b)) (fun b hb=>.inl hb));have HR1Q:=hI ((HR1.out.keep (w':=w3) (fun b hb=>HB3.out.block b (by have:=hS b hb;omega))).more (S':=fun b=>S b∨(w1.heap.size+2≤b∧b<wr.heap.size∧Fl wr b)) (fun b hb=>.inl hb));have HR2Q:=hI ((HR2.out.keep (w':=w3) (fun b hb=>HB3.out.block b (by have:=hS b hb;omega))).more (S':=fun b=>S b∨(w1.heap.size+2≤b∧b<wr.heap.size∧Fl wr b)) (fun b hb=>.inl hb));have q1:(0:Int)≤tt:=(by omega);have q2:(tt:Int)<st.length:=(by rw [HLEN.out];omega);have q3:(tt:Int)≤st.length:=(by omega);have hgl:w1.heap.size<w3.heap.size:=(by omega);have hgl1:w1.heap.size+1<w3.heap.size:=(by omega);have hgl2:w.heap.size<w3.heap.size:=by omega
           by_cases hfit:Zdq s ⟨tt,old,new⟩ rows=true
           · have HFIT:=hI hfit;clear hfit
             go_wp2_with fail
             go_region_held3 (fun w'=>Below w3.heap.size w3 w'∧w'.cell? ⟨w.heap.size,0,none⟩=some (.int .i64 s.version)∧w'.cell? ⟨w.heap.size,1,none⟩=some (.slice A0 s.tabs.length c0')∧w'.cell? ⟨w1.heap.size+1,0,none⟩=some (.slice (some ⟨w1.heap.size,0,none⟩) st.length st.length)∧w'.cell? ⟨w1.heap.size,tt,none⟩=some (.slice A9 rows.length c9)∧w'.cell? ⟨wr.heap.size,0,none⟩=some (.int .i64 tt)∧w'.cell? ⟨wr.heap.size,1,none⟩=some (.slice A1 old.length c1)∧w'.cell? ⟨wr.heap.size,2,none⟩=some (.slice A2 new.length c2))
              (first | exact⟨(Below.refl _ _).drew,v0,v1,a0,z1,y0,y1,y2⟩ | exact⟨hv1,c9Q hv1 hgl2 v0,c9Q hv1 hgl2 v1,c9Q hv1 hgl1 a0,c9Q hv1 hgl z1,c9Q hv1 hw3 y0,c9Q hv1 hw3 y1,c9Q hv1 hw3 y2⟩)
              ((go_at_call 57;refine(applied_yes A0 c0' s ⟨tt,old,new⟩ A1 c1 A2 c2 A9 c9 rows (fun b=>S b∨(w1.heap.size+2≤b∧b<wr.heap.size∧Fl wr b)) (fun b=>w1.heap.size+2≤b∧b<wr.heap.size∧Fl wr b) w3.drew (HSQ.out.keep (fun _ _=>rfl)) (HZ3.out.keep (fun _ _=>rfl)) (fun b hb=>.inr hb) HZ2.out (HR1Q.out.keep (fun _ _=>rfl)) HE1.out (HR2Q.out.keep (fun _ _=>rfl)) HE2.out hS3 HAS.out HVO.out HFIT.out (by omega)).mono ?_;rintro e w6 ⟨A8,c8,rfl,h8,hR8,hv1'⟩;have hv1:Below w3.heap.size w3 w6:=(Below.refl _ w3).drew.trans hv1'))
             have HAW6:=hI (HAW3.out.below hv1);have HSB6:=hI ((HSB.out.keep (w':=w6) (Nat.le_trans HB3.out.size hv1.size) (fun b hb=>(hv1.block b (by have:=hb.2;omega)).trans (HB3.out.block b hb.2.1)) ((hv1.block _ (by omega)).trans (HB3.out.block _ (by omega)))).more (S':=fun b=>w1.heap.size+2≤b∧b<w6.heap.size∧Fl w6 b) (fun b hb=>⟨hb.1,by have:=hv1.size;have:=hb.2;omega,hb.2.2.keep ((hv1.block b (by have:=hb.2;omega)).trans (HB3.out.block b hb.2.1))⟩) (fun b hb=>⟨hb.2.1,by omega⟩))
             have HR8:=hI (hR8.more (S':=fun b=>w1.heap.size+2≤b∧b<w6.heap.size∧Fl w6 b) (fun b hb=>by
              rcases hb with hb | hb
              · exact⟨hb.1,by have:=hv1.size;have:=hb.2;omega,hb.2.2.keep ((hv1.block b (by have:=hb.2;omega)).trans (HB3.out.block b hb.2.1))⟩
              · exact⟨by have h0:w3.heap.size≤b:=hb.1;omega,hb.2⟩))
             have H8:=hI h8;have hz6:wr.heap.size<w6.heap.size:=(by have:=hv1.size;omega);have u0:w6.cell? ⟨wr.heap.size,0,none⟩=some (.int .i64 tt):=c9Q hv1 hw3 y0;have u1:w6.cell? ⟨w1.heap.size,tt,none⟩=some (.slice A9 rows.length c9):=c9Q hv1 hgl z1;have u2:w6.frozen? ⟨w1.heap.size,tt,none⟩=false:=(hv1.frozen (p:=⟨w1.heap.size,tt,none⟩) hgl).trans hfz;clear hv1 hv1' hR8 h8 v0 v1 r0 r1 a0 y0 y1 y2 z1 hfz;have r0:=HAW6.out.r0;have r1:=HAW6.out.r1;have a0:=HAW6.out.a0;have hpl:=HPL.out;generalize hrows2:putC s ⟨tt,old,new⟩ rows=rows2 at HR8 H8 hpl HSTEP2 ⊢;have HR2W:=hI hrows2;clear hrows2;have HCS2:=hI (HCS.out rows2);clear HCS HPL
             by_cases hlim:512<(Zak cur:Int)+((rows2.length:Int) - rows.length)
             · have HF:=hI (show ZcS (schF pc s) s m st l=(2,[]) by rw [HAP2.out,HT.out,HSTEP2.out,if_neg (by rw [HFIT.out];simp),if_pos hlim]);have hd9:decide (512<(Zak cur:Int)+((rows2.length:Int) - rows.length))=true:=decide_eq_true hlim;clear hlim HCS2 HSTEP2;generalize Zak cur=cn at hd9 hcc ⊢
               go_wp2_with fail
               refine bodyPost_ret (v:=.tuple #[.agg #[.slice none 0 0],.int .i64 2]) (by simp [results,Try.results18,go_sem,r0]) rfl ?_;exact ApPostF.err HF.out (HAW6.out.bel.setCell (p:=⟨w.heap.size+1+1,0,none⟩) (by simp;omega) _)
             · have hd9:decide (512<(Zak cur:Int)+((rows2.length:Int) - rows.length))=false:=decide_eq_false hlim;have HNXT:=hI (show Zco s m (Zak st) st l=Zco s m (Zak (cur.set tt rows2)) (cur.set tt rows2) (l.drop (k+1)) by rw [HT.out,HSTEP2.out,if_neg (by rw [HFIT.out];simp),if_neg hlim,HCS2.out]);have HCN:=hI (show Zak (cur.set tt rows2)≤512 by have:=HCS2.out;omega)
               have HASN:=hI (show ∀ t,t<(cur.set tt rows2).length→Asc s t ((cur.set tt rows2).getD t []) from fun t' ht'=>by
                rw [List.length_set] at ht'
                by_cases hte:t'=tt
                · subst hte;rw [getD_set_same ht',←HR2W.out];exact HPA.out _ HAS.out
                · rw [getD_set_other hte];exact HASC.out t' ht')
               have HNEW:=hI (HSB6.out.put (k:=tt) H8.out HR8.out);clear hlim HSTEP2;obtain⟨cn,hcn⟩:∃ cn,Zak cur=cn:=⟨_,rfl⟩;rw [hcn] at hd9 hcc HCS2 ⊢;clear hcn
               go_wp2_with fail
               go_roundw
               case rel=>exact⟨k+1,by omega,by go_num,cur.set tt rows2,by rw [HCS2.out],HNXT.out,HAW6.out.keep ((Fr.refl _ _).setCell _ (fun _=>.inl rfl)),HNEW.out.more (fun b hb=>⟨hb.1,by simpa using hb.2.1,hb.2.2.keep (Below.heap_setCell w6 ⟨w1.heap.size,tt,none⟩ _ b (by have:=hb.1;show b≠w1.heap.size;omega))⟩) (fun b hb=>⟨hb.2.1,by have:=hb.1;omega⟩),by rw [List.length_set];exact HCL.out,HCN.out,HASN.out⟩
               case measure=>simp [intOf];omega
           · have hfit':Zdq s ⟨tt,old,new⟩ rows=false:=(by simpa using hfit);have HFIT:=hI hfit';have HF:=hI (show ZcS (schF pc s) s m st l=(81,[]) by rw [HAP2.out,HT.out,HSTEP2.out,if_pos hfit']);clear hfit hfit' HSTEP2 HCS
             go_wp2_with fail
             go_region_held3 (fun w'=>Below w3.heap.size w3 w'∧w'.cell? ⟨w.heap.size,0,none⟩=some (.int .i64 s.version)∧w'.cell? ⟨w.heap.size,1,none⟩=some (.slice A0 s.tabs.length c0')∧w'.cell? ⟨w1.heap.size+1,0,none⟩=some (.slice (some ⟨w1.heap.size,0,none⟩) st.length st.length)∧w'.cell? ⟨w1.heap.size,tt,none⟩=some (.slice A9 rows.length c9)∧w'.cell? ⟨wr.heap.size,0,none⟩=some (.int .i64 tt)∧w'.cell? ⟨wr.heap.size,1,none⟩=some (.slice A1 old.length c1)∧w'.cell? ⟨wr.heap.size,2,none⟩=some (.slice A2 new.length c2))
              (first | exact⟨(Below.refl _ _).drew,v0,v1,a0,z1,y0,y1,y2⟩ | exact⟨hv1,c9Q hv1 hgl2 v0,c9Q hv1 hgl2 v1,c9Q hv1 hgl1 a0,c9Q hv1 hgl z1,c9Q hv1 hw3 y0,c9Q hv1 hw3 y1,c9Q hv1 hw3 y2⟩)
              ((go_at_call 57;refine(applied_not A0 c0' s ⟨tt,old,new⟩ A1 c1 A2 c2 A9 c9 rows (fun b=>S b∨(w1.heap.size+2≤b∧b<wr.heap.size∧Fl wr b)) (fun b=>w1.heap.size+2≤b∧b<wr.heap.size∧Fl wr b) w3.drew (HSQ.out.keep (fun _ _=>rfl)) (HZ3.out.keep (fun _ _=>rfl)) (fun b hb=>.inr hb) HZ2.out (HR1Q.out.keep (fun _ _=>rfl)) HE1.out (HR2Q.out.keep (fun _ _=>rfl)) HE2.out hS3 HAS.out HFIT.out (by omega)).mono ?_;rintro e w6 ⟨rfl,hv1'⟩;have hv1:Below w3.heap.size w3 w6:=(Below.refl _ w3).drew.trans hv1'))
             have HAW6:=hI (HAW3.out.below hv1);clear hv1 hv1' v0 v1 r0 r1 a0 y0 y1 y2 z1 hfz;have r0:=HAW6.out.r0;have r1:=HAW6.out.r1
             go_wp2_with fail
             refine bodyPost_ret (v:=.tuple #[.agg #[.slice none 0 0],.int .i64 81]) (by simp [results,Try.results18,go_sem,r0]) rfl ?_;exact ApPostF.err HF.out (HAW6.out.bel.setCell (p:=⟨w.heap.size+1+1,0,none⟩) (by simp;omega) _)
         · have hval':Zas s m ⟨t,old,new⟩=false:=(by simpa using hval);have HF:=hI (show ZcS (schF pc s) s m st l=(71,[]) by rw [HAP2.out,HT.out,HSTEP.out,Zco,if_pos hval']);rw [hval'];clear hval hval'
           go_wp2_with fail
           refine bodyPost_ret (v:=.tuple #[.agg #[.slice none 0 0],.int .i64 71]) (by simp [results,Try.results18,go_sem,r0]) rfl ?_;exact ApPostF.err HF.out (HAW3.out.bel.setCell (p:=⟨w.heap.size+1+1,0,none⟩) (by simp;omega) _)
       · have HF:=hI (show ZcS (schF pc s) s m st l=(0,cur) by rw [HAP2.out,HT.out,List.drop_eq_nil_of_le (by omega),Zco])
         go_wp2_with fail
         refine bodyPost_ret (v:=.tuple #[.agg #[.slice (some ⟨w1.heap.size,0,none⟩) st.length st.length],.int .i64 0]) (by simp [results,Try.results18,go_sem,r0]) rfl ?_;rw [HF.out];have hb9:Below w.heap.size w (wr.setCell ⟨w.heap.size+1+1,0,none⟩ (.slice (some ⟨w1.heap.size,0,none⟩) st.length st.length)):=HAW.out.bel.setCell (p:=⟨w.heap.size+1+1,0,none⟩) (by simp;omega) _;have hsb9:StB (wr.setCell ⟨w.heap.size+1+1,0,none⟩ (.slice (some ⟨w1.heap.size,0,none⟩) st.length st.length)) (fun b=>w1.heap.size+2≤b∧b<wr.heap.size∧Fl wr b) w1.heap.size cur:=HSB.out.keep (by simp) (fun b hb=>Below.heap_setCell wr ⟨w.heap.size+1+1,0,none⟩ _ b (by show b≠w.heap.size+1+1;omega)) (Below.heap_setCell wr ⟨w.heap.size+1+1,0,none⟩ _ _ (by show w1.heap.size≠w.heap.size+1+1;omega));refine⟨some ⟨w1.heap.size,0,none⟩,st.length,?_,by show cur.length≤_;rw [HCL.out];exact Nat.le_refl _,hsb9.slice (by rw [HCL.out];exact hstl) (fun b hb=>⟨by omega,by simp;omega,hb.2.2.keep (Below.heap_setCell wr ⟨w.heap.size+1+1,0,none⟩ _ b (by show b≠w.heap.size+1+1;omega))⟩) ⟨by omega,by simp;omega,(by obtain⟨vs9,h9,_⟩:=hsb9;exact⟨_,_,h9⟩)⟩,hb9⟩;show _=Ending.returned (.tuple #[.agg #[.slice (some ⟨w1.heap.size,0,none⟩) cur.length st.length],.int .i64 0]);rw [HCL.out]
 · have hd:(er != 0)=true:=(by simpa using he);have HF:=hI (show ZcS (schF pc s) s m st l=(er,[]) by rw [HAP.out,if_pos he]);clear he HAP HMK
   go_wp2_with fail
   refine bodyPost_ret (v:=.tuple #[.agg #[.slice none 0 0],.int .i64 er]) (by simp [results,Try.results18,go_sem,x3]) rfl ?_;exact ApPostF.err HF.out (HB1.out.setCell (p:=⟨w.heap.size+1+1,0,none⟩) (by simp;omega) _)
theorem Zdg (pc:List Int→Pred→Int) (A0:Option Addr) (c0':Nat) (s:Sch) (m:Int) (A:Option Addr) (ca:Nat) (st:St) (AC:Option Addr) (cc:Nat) (l:List Chg) (S:Nat→Prop) (w:World) (hs:TabS w S A0 s.tabs) (hst:StS w S A st) (hch:ChgS w S AC l) (hS:∀ b,S b→b<w.heap.size) (hpc:Zcu pc s) (hc:Zak st≤4611686018427387904) :
  Calls Try.prog 18 #[sAgg s.version A0 s.tabs.length c0',.int .i64 m,Zay A st.length ca,.slice AC l.length cc] w (ApPost (ZcS (schF pc s) s m st l) w) :=
 (apply_fresh pc A0 c0' s m A ca st AC cc l S w hs hst hch hS hpc hc).mono (fun _ _ h=>h.post)
structure CapS (w:World) (s:Sch) (A0:Option Addr) (c0':Nat) (gs:Nat):Prop where
 v:w.cell? ⟨gs,0,none⟩=some (.int .i64 s.version)
 a:w.cell? ⟨gs,1,none⟩=some (.slice A0 s.tabs.length c0')
 ls:gs<w.heap.size
theorem CapS.keep {w w':World} {s:Sch} {A0:Option Addr} {c0':Nat} {gs:Nat} (h:CapS w s A0 c0' gs) (hk:w'.heap[gs]?=w.heap[gs]?) (hs:w.heap.size≤w'.heap.size):CapS w' s A0 c0' gs :=
 ⟨(World.cell?_of_block (w:=w) (a:=⟨gs,0,none⟩) hk).trans h.v,(World.cell?_of_block (w:=w) (a:=⟨gs,1,none⟩) hk).trans h.a,Nat.lt_of_lt_of_le h.ls hs⟩
theorem CapS.below {w w':World} {s:Sch} {A0:Option Addr} {c0':Nat} {gs:Nat} (h:CapS w s A0 c0' gs) (hb:Below w.heap.size w w'):CapS w' s A0 c0' gs:=h.keep (hb.block gs h.ls) hb.size
structure ChV (w:World) (S:Nat→Prop) (ch:Chg) (A1:Option Addr) (c1:Nat) (A2:Option Addr) (c2:Nat):Prop where
 r1:RowS w S A1 ch.old
 l1:ch.old.length≤c1
 r2:RowS w S A2 ch.new
 l2:ch.new.length≤c2
theorem ChV.keep {w w':World} {S:Nat→Prop} {ch:Chg} {A1:Option Addr} {c1:Nat} {A2:Option Addr} {c2:Nat} (h:ChV w S ch A1 c1 A2 c2) (hk:Same S w w'):ChV w' S ch A1 c1 A2 c2:=⟨h.r1.keep hk,h.l1,h.r2.keep hk,h.l2⟩
abbrev chV (ch:Chg) (A1:Option Addr) (c1:Nat) (A2:Option Addr) (c2:Nat):Value:=Zfl ch.table A1 ch.old.length c1 A2 ch.new.length c2
theorem net1_any (A0:Option Addr) (c0':Nat) (s:Sch) (m:Int) (gs gm:Nat) (ch:Chg) (A1:Option Addr) (c1:Nat) (A2:Option Addr) (c2:Nat) (S:Nat→Prop) (w:World) (hc:CapS w s A0 c0' gs) (hm:w.cell? ⟨gm,0,none⟩=some (.int .i64 m)) (hgm:gm<w.heap.size) (hs:TabS w S A0 s.tabs) (hv:ChV w S ch A1 c1 A2 c2) (hS:∀ b,S b→b<w.heap.size) :
  Calls Try.prog 74 #[chV ch A1 c1 A2 c2,.pointer (some ⟨gs,0,none⟩),.pointer (some ⟨gm,0,none⟩)] w (ZaS (!Zas s m ch) w):=by
 obtain⟨t,old,new⟩:=ch;have x0:=hc.v;have x1:=hc.a;have hgs:=hc.ls;have HS:=hI hs;have HV:=hI hv;clear hc hs hv;simp only [chV];have HB0:=hI ((Below.refl w.heap.size w).alloc nR (.cells #[.int .i64 t,.slice A1 old.length c1,.slice A2 new.length c2] 53));go_enter Try.func74,Try.ntmps74
 go_wp2_with fail
 refine(Zfv A0 c0' s m ⟨t,old,new⟩ A1 c1 A2 c2 S _ (HS.out.keep (Same.of_below HB0.out hS)) (HV.out.r1.keep (Same.of_below HB0.out hS)) HV.out.l1 (HV.out.r2.keep (Same.of_below HB0.out hS)) HV.out.l2 (fun b hb=>by have:=hS b hb;simp;omega)).mono ?_;rintro e w1 ⟨rfl,hb1⟩;have HB1:=hI (HB0.out.trans (hb1.mono (by simp)));clear hb1;obtain⟨bv,hbv⟩:∃ bv,Zas s m ⟨t,old,new⟩=bv:=⟨_,rfl⟩;have HBV:=hI hbv;rw [hbv];clear hbv
 go_wp2_with fail
 go_ret;exact⟨by rw [HBV.out];rfl,HB1.out⟩
theorem ZdM (A0:Option Addr) (c0':Nat) (s:Sch) (gs:Nat) (a:Chg) (A1:Option Addr) (c1:Nat) (A2:Option Addr) (c2:Nat) (b:Chg) (B1:Option Addr) (d1:Nat) (B2:Option Addr) (d2:Nat) (S:Nat→Prop) (w:World) (hc:CapS w s A0 c0' gs) (hs:TabS w S A0 s.tabs) (ha:ChV w S a A1 c1 A2 c2) (hb:ChV w S b B1 d1 B2 d2) (hS:∀ b,S b→b<w.heap.size) (hta:0≤a.table∧a.table≤1000000) (htb:0≤b.table∧b.table≤1000000) :
  Calls Try.prog 80 #[chV a A1 c1 A2 c2,chV b B1 d1 B2 d2,.pointer (some ⟨gs,0,none⟩)] w (ZbV (cmpC s a b) w):=by
 obtain⟨ta,oa,na⟩:=a;obtain⟨tb,ob,nb⟩:=b;have x0:=hc.v;have x1:=hc.a;have hgs:=hc.ls;have HS:=hI hs;have HA:=hI ha;have HBV:=hI hb;clear hc hs ha hb;simp only [chV] at hta htb ⊢;obtain⟨hta0,hta1⟩:=hta;obtain⟨htb0,htb1⟩:=htb;have HB0:=hI (((Below.refl w.heap.size w).alloc nR (.cells #[.int .i64 ta,.slice A1 oa.length c1,.slice A2 na.length c2] 53)).alloc (by simp) (.cells #[.int .i64 tb,.slice B1 ob.length d1,.slice B2 nb.length d2] 53))
 by_cases ht:ta=tb
 · subst ht;have HF:=hI (show cmpC s ⟨ta,oa,na⟩ ⟨ta,ob,nb⟩=cmpR (keyC s ⟨ta,oa,na⟩) (keyC s ⟨ta,ob,nb⟩) by unfold cmpC;rw [if_neg (by simp)]);go_enter Try.func80,Try.ntmps80
   go_wp2_with fail
   obtain⟨w0,hw0⟩:∃ w0,((w.alloc (.cells #[.int .i64 ta,.slice A1 oa.length c1,.slice A2 na.length c2] 53)).alloc (.cells #[.int .i64 ta,.slice B1 ob.length d1,.slice B2 nb.length d2] 53))=w0:=⟨_,rfl⟩;have hsz0:w0.heap.size=w.heap.size+1+1:=(by rw [←hw0];simp);rw [hw0] at HB0;have z0:w0.cell? ⟨gs,0,none⟩=some (.int .i64 s.version):=c9Q HB0.out hgs x0;have z1:w0.cell? ⟨gs,1,none⟩=some (.slice A0 s.tabs.length c0'):=c9Q HB0.out hgs x1;have z2:w0.cell? ⟨w.heap.size,0,none⟩=some (.int .i64 ta):=(by rw [←hw0];exact(Zah (by simp)).trans (Zae rfl rfl));have z3:w0.cell? ⟨w.heap.size,1,none⟩=some (.slice A1 oa.length c1):=(by rw [←hw0];exact(Zah (by simp)).trans (Zae rfl rfl));have z4:w0.cell? ⟨w.heap.size,2,none⟩=some (.slice A2 na.length c2):=(by rw [←hw0];exact(Zah (by simp)).trans (Zae rfl rfl));have z5:w0.cell? ⟨w.heap.size+1,0,none⟩=some (.int .i64 ta):=(by rw [←hw0];exact Zae (by simp) rfl);have z6:w0.cell? ⟨w.heap.size+1,1,none⟩=some (.slice B1 ob.length d1):=(by rw [←hw0];exact Zae (by simp) rfl);have z7:w0.cell? ⟨w.heap.size+1,2,none⟩=some (.slice B2 nb.length d2):=(by rw [←hw0];exact Zae (by simp) rfl);have hl0:gs<w0.heap.size:=(by omega);have hl1:w.heap.size<w0.heap.size:=(by omega);have hl2:w.heap.size+1<w0.heap.size:=(by omega);have hS0:∀ b,S b→b<w0.heap.size:=(fun b hb=>by have:=hS b hb;omega);have HS0:=hI (HS.out.keep (Same.of_below HB0.out hS));have HA0:=hI (HA.out.keep (Same.of_below HB0.out hS));have HV0:=hI (HBV.out.keep (Same.of_below HB0.out hS));have HSZ:=hI hsz0;rw [hw0];clear hw0 hsz0 HS HA HBV x0 x1
   go_region_held3 (fun w'=>Below w0.heap.size w0 w'∧w'.cell? ⟨gs,0,none⟩=some (.int .i64 s.version)∧w'.cell? ⟨gs,1,none⟩=some (.slice A0 s.tabs.length c0')∧w'.cell? ⟨w.heap.size,0,none⟩=some (.int .i64 ta)∧w'.cell? ⟨w.heap.size,1,none⟩=some (.slice A1 oa.length c1)∧w'.cell? ⟨w.heap.size,2,none⟩=some (.slice A2 na.length c2)∧w'.cell? ⟨w.heap.size+1,0,none⟩=some (.int .i64 ta)∧w'.cell? ⟨w.heap.size+1,1,none⟩=some (.slice B1 ob.length d1)∧w'.cell? ⟨w.heap.size+1,2,none⟩=some (.slice B2 nb.length d2))
    (first | exact⟨(Below.refl _ _).drew,z0,z1,z2,z3,z4,z5,z6,z7⟩ | exact⟨hv3,c9Q hv3 hl0 z0,c9Q hv3 hl0 z1,c9Q hv3 hl1 z2,c9Q hv3 hl1 z3,c9Q hv3 hl1 z4,c9Q hv3 hl2 z5,c9Q hv3 hl2 z6,c9Q hv3 hl2 z7⟩ | exact⟨hv2,c9Q hv2 hl0 z0,c9Q hv2 hl0 z1,c9Q hv2 hl1 z2,c9Q hv2 hl1 z3,c9Q hv2 hl1 z4,c9Q hv2 hl2 z5,c9Q hv2 hl2 z6,c9Q hv2 hl2 z7⟩ | exact⟨hv1,c9Q hv1 hl0 z0,c9Q hv1 hl0 z1,c9Q hv1 hl1 z2,c9Q hv1 hl1 z3,c9Q hv1 hl1 z4,c9Q hv1 hl2 z5,c9Q hv1 hl2 z6,c9Q hv1 hl2 z7⟩)
    (first
     | (go_at_call 78;have hvx:=hv1;clear hvx;refine(ZaG A0 c0' s ⟨ta,ob,nb⟩ B1 d1 B2 d2 S _ (HS0.out.keep (Same.of_below hv1 hS0)) (HV0.out.r1.keep (Same.of_below hv1 hS0)) HV0.out.l1 (HV0.out.r2.keep (Same.of_below hv1 hS0)) HV0.out.l2 (fun b hb=>Nat.lt_of_lt_of_le (hS0 b hb) hv1.size)).mono ?_;rintro e w6 ⟨A8,c8,rfl,h8,hv2'⟩;have hv2:Below w0.heap.size w0 w6:=hv1.trans (hv2'.mono hv1.size))
     | (go_at_call 78;refine(ZaG A0 c0' s ⟨ta,oa,na⟩ A1 c1 A2 c2 S w0.drew (HS0.out.keep (fun _ _=>rfl)) (HA0.out.r1.keep (fun _ _=>rfl)) HA0.out.l1 (HA0.out.r2.keep (fun _ _=>rfl)) HA0.out.l2 hS0).mono ?_;rintro e w5 ⟨A7,c7,rfl,h7,hv1'⟩;have hv1:Below w0.heap.size w0 w5:=(Below.refl _ w0).drew.trans hv1')
     | (go_at_call 60;refine(Zbc A7 A8 c7 c8 (keyC s ⟨ta,oa,na⟩) (keyC s ⟨ta,ob,nb⟩) S _ (h7.keep (Same.of_below hv2' (fun b hb=>Nat.lt_of_lt_of_le (hS0 b hb) hv1.size))) h8 (fun b hb=>Nat.lt_of_lt_of_le (hS0 b hb) hv2.size)).mono ?_;rintro e w7 ⟨rfl,hv3'⟩;have hv3:Below w0.heap.size w0 w7:=hv2.trans (hv3'.mono hv2.size)))
   have HB7:=hI (HB0.out.trans (hv3.mono (by have:=HSZ.out;omega)));clear hv1 hv2 hv3 hv1' hv2' hv3' h7 h8 z0 z1 z2 z3 z4 z5 z6 z7
   go_wp2_with fail
   go_ret;exact⟨by rw [HF.out];rfl,HB7.out⟩
 · have hd:(ta != tb)=true:=(by simpa using ht);have HF:=hI (show cmpC s ⟨ta,oa,na⟩ ⟨tb,ob,nb⟩=ta - tb by unfold cmpC;rw [if_pos ht]);clear ht;go_enter Try.func80,Try.ntmps80
   go_wp2_with fail
   go_ret;exact⟨by rw [HF.out];rfl,HB0.out⟩
theorem Zhv (A0:Option Addr) (c0':Nat) (s:Sch) (gs:Nat) (a:Chg) (A1:Option Addr) (c1:Nat) (A2:Option Addr) (c2:Nat) (b:Chg) (B1:Option Addr) (d1:Nat) (B2:Option Addr) (d2:Nat) (S:Nat→Prop) (w:World) (hc:CapS w s A0 c0' gs) (hs:TabS w S A0 s.tabs) (ha:ChV w S a A1 c1 A2 c2) (hb:ChV w S b B1 d1 B2 d2) (hS:∀ b,S b→b<w.heap.size) :
  Calls Try.prog 76 #[chV a A1 c1 A2 c2,chV b B1 d1 B2 d2,.pointer (some ⟨gs,0,none⟩)] w (ZaS (ZcT s a b) w):=by
 obtain⟨ta,oa,na⟩:=a;obtain⟨tb,ob,nb⟩:=b;have x0:=hc.v;have x1:=hc.a;have hgs:=hc.ls;have HS:=hI hs;have HA:=hI ha;have HBV:=hI hb;clear hc hs ha hb;simp only [chV];have HB0:=hI (((Below.refl w.heap.size w).alloc nR (.cells #[.int .i64 ta,.slice A1 oa.length c1,.slice A2 na.length c2] 53)).alloc (by simp) (.cells #[.int .i64 tb,.slice B1 ob.length d1,.slice B2 nb.length d2] 53))
 by_cases ht:ta=tb
 · subst ht;have HF:=hI (show ZcT s ⟨ta,oa,na⟩ ⟨ta,ob,nb⟩=(cmpR (keyC s ⟨ta,oa,na⟩) (keyC s ⟨ta,ob,nb⟩) == 0) by unfold ZcT;simp);go_enter Try.func76,Try.ntmps76
   go_wp2_with fail
   obtain⟨w0,hw0⟩:∃ w0,((w.alloc (.cells #[.int .i64 ta,.slice A1 oa.length c1,.slice A2 na.length c2] 53)).alloc (.cells #[.int .i64 ta,.slice B1 ob.length d1,.slice B2 nb.length d2] 53))=w0:=⟨_,rfl⟩;have hsz0:w0.heap.size=w.heap.size+1+1:=(by rw [←hw0];simp);rw [hw0] at HB0;have z0:w0.cell? ⟨gs,0,none⟩=some (.int .i64 s.version):=c9Q HB0.out hgs x0;have z1:w0.cell? ⟨gs,1,none⟩=some (.slice A0 s.tabs.length c0'):=c9Q HB0.out hgs x1;have z2:w0.cell? ⟨w.heap.size,0,none⟩=some (.int .i64 ta):=(by rw [←hw0];exact(Zah (by simp)).trans (Zae rfl rfl));have z3:w0.cell? ⟨w.heap.size,1,none⟩=some (.slice A1 oa.length c1):=(by rw [←hw0];exact(Zah (by simp)).trans (Zae rfl rfl));have z4:w0.cell? ⟨w.heap.size,2,none⟩=some (.slice A2 na.length c2):=(by rw [←hw0];exact(Zah (by simp)).trans (Zae rfl rfl));have z5:w0.cell? ⟨w.heap.size+1,0,none⟩=some (.int .i64 ta):=(by rw [←hw0];exact Zae (by simp) rfl);have z6:w0.cell? ⟨w.heap.size+1,1,none⟩=some (.slice B1 ob.length d1):=(by rw [←hw0];exact Zae (by simp) rfl);have z7:w0.cell? ⟨w.heap.size+1,2,none⟩=some (.slice B2 nb.length d2):=(by rw [←hw0];exact Zae (by simp) rfl);have hl0:gs<w0.heap.size:=(by omega);have hl1:w.heap.size<w0.heap.size:=(by omega);have hl2:w.heap.size+1<w0.heap.size:=(by omega);have hS0:∀ b,S b→b<w0.heap.size:=(fun b hb=>by have:=hS b hb;omega);have HS0:=hI (HS.out.keep (Same.of_below HB0.out hS));have HA0:=hI (HA.out.keep (Same.of_below HB0.out hS));have HV0:=hI (HBV.out.keep (Same.of_below HB0.out hS));have HSZ:=hI hsz0;rw [hw0];clear hw0 hsz0 HS HA HBV x0 x1
   go_region_held3 (fun w'=>Below w0.heap.size w0 w'∧w'.cell? ⟨gs,0,none⟩=some (.int .i64 s.version)∧w'.cell? ⟨gs,1,none⟩=some (.slice A0 s.tabs.length c0')∧w'.cell? ⟨w.heap.size,0,none⟩=some (.int .i64 ta)∧w'.cell? ⟨w.heap.size,1,none⟩=some (.slice A1 oa.length c1)∧w'.cell? ⟨w.heap.size,2,none⟩=some (.slice A2 na.length c2)∧w'.cell? ⟨w.heap.size+1,0,none⟩=some (.int .i64 ta)∧w'.cell? ⟨w.heap.size+1,1,none⟩=some (.slice B1 ob.length d1)∧w'.cell? ⟨w.heap.size+1,2,none⟩=some (.slice B2 nb.length d2))
    (first | exact⟨(Below.refl _ _).drew,z0,z1,z2,z3,z4,z5,z6,z7⟩ | exact⟨hv3,c9Q hv3 hl0 z0,c9Q hv3 hl0 z1,c9Q hv3 hl1 z2,c9Q hv3 hl1 z3,c9Q hv3 hl1 z4,c9Q hv3 hl2 z5,c9Q hv3 hl2 z6,c9Q hv3 hl2 z7⟩ | exact⟨hv2,c9Q hv2 hl0 z0,c9Q hv2 hl0 z1,c9Q hv2 hl1 z2,c9Q hv2 hl1 z3,c9Q hv2 hl1 z4,c9Q hv2 hl2 z5,c9Q hv2 hl2 z6,c9Q hv2 hl2 z7⟩ | exact⟨hv1,c9Q hv1 hl0 z0,c9Q hv1 hl0 z1,c9Q hv1 hl1 z2,c9Q hv1 hl1 z3,c9Q hv1 hl1 z4,c9Q hv1 hl2 z5,c9Q hv1 hl2 z6,c9Q hv1 hl2 z7⟩)
    (first
     | (go_at_call 78;have hvx:=hv1;clear hvx;refine(ZaG A0 c0' s ⟨ta,ob,nb⟩ B1 d1 B2 d2 S _ (HS0.out.keep (Same.of_below hv1 hS0)) (HV0.out.r1.keep (Same.of_below hv1 hS0)) HV0.out.l1 (HV0.out.r2.keep (Same.of_below hv1 hS0)) HV0.out.l2 (fun b hb=>Nat.lt_of_lt_of_le (hS0 b hb) hv1.size)).mono ?_;rintro e w6 ⟨A8,c8,rfl,h8,hv2'⟩;have hv2:Below w0.heap.size w0 w6:=hv1.trans (hv2'.mono hv1.size))
     | (go_at_call 78;refine(ZaG A0 c0' s ⟨ta,oa,na⟩ A1 c1 A2 c2 S w0.drew (HS0.out.keep (fun _ _=>rfl)) (HA0.out.r1.keep (fun _ _=>rfl)) HA0.out.l1 (HA0.out.r2.keep (fun _ _=>rfl)) HA0.out.l2 hS0).mono ?_;rintro e w5 ⟨A7,c7,rfl,h7,hv1'⟩;have hv1:Below w0.heap.size w0 w5:=(Below.refl _ w0).drew.trans hv1')
     | (go_at_call 77;refine(ZaM A7 A8 c7 c8 (keyC s ⟨ta,oa,na⟩) (keyC s ⟨ta,ob,nb⟩) S _ (h7.keep (Same.of_below hv2' (fun b hb=>Nat.lt_of_lt_of_le (hS0 b hb) hv1.size))) h8 (fun b hb=>Nat.lt_of_lt_of_le (hS0 b hb) hv2.size)).mono ?_;rintro e w7 ⟨rfl,hv3'⟩;have hv3:Below w0.heap.size w0 w7:=hv2.trans (hv3'.mono hv2.size)))
   have HB7:=hI (HB0.out.trans (hv3.mono (by have:=HSZ.out;omega)));clear hv1 hv2 hv3 hv1' hv2' hv3' h7 h8 z0 z1 z2 z3 z4 z5 z6 z7
   go_wp2_with fail
   go_ret;exact⟨by rw [HF.out];rfl,HB7.out⟩
 · have hd:(ta == tb)=false:=(by simpa using ht);have HF:=hI (show ZcT s ⟨ta,oa,na⟩ ⟨tb,ob,nb⟩=false by unfold ZcT;simp [ht]);clear ht;go_enter Try.func76,Try.ntmps76
   go_wp2_with fail
   go_quiet (fail)
   go_wp2_with fail
   go_ret;exact⟨by rw [HF.out];rfl,Zaj HB0.out _⟩
theorem Zbg (c:Chg):(Zal c).Plain:=by simp [Zal,ZaJ,Dat.Plain,Dat.PlainAll,Value.oneCell']
theorem ZhJ:(Try.prog.info? 53).map (fun i=>(i.zero,i.size,i.bytes))=some (some (.agg #[.int .i64 0,.slice none 0 0,.slice none 0 0]),3,56):=by kernel_rfl
theorem index_any (A0:Option Addr) (c0':Nat) (s:Sch) (m:Int) (gs gm:Nat) (A:Option Addr) (ca:Nat) (l:List Chg) (S:Nat→Prop) (w:World) (hc:CapS w s A0 c0' gs) (hm:w.cell? ⟨gm,0,none⟩=some (.int .i64 m)) (hgm:gm<w.heap.size) (hs:TabS w S A0 s.tabs) (hl:ChgS w S A l) (hS:∀ b,S b→b<w.heap.size) :
  Calls Try.prog 73 #[.slice A l.length ca,.func (.func 74) #[] #[.pointer (some ⟨gs,0,none⟩),.pointer (some ⟨gm,0,none⟩)]] w (ZbV (badI s m l) w):=by
 have hll:=hl.len;have HC:=hI hc;have HM:=hI hm;have HS:=hI hs;have HL:=hI hl;have hgl:=Zgf s m l;have HGV:=hI (Zdy s m l);have HGS:=hI (ZfL s m l);have HBI:=hI (show badI s m l=if Zbt s m l<l.length then (Zbt s m l:Int) else -1 from rfl);generalize Zbt s m l=gn at hgl HGV HGS HBI;clear hc hm hs hl;go_enter Try.func73,Try.ntmps73
 go_wp2_with fail
 go_loopw [8] (fun i wr=>∃ k:Nat,k≤gn∧i=.int .i64 k∧Below w.heap.size w wr) (fun i _=>l.length - (intOf i).toNat)
 case atStart=>exact⟨0,Nat.zero_le _,rfl,Below.refl _ _⟩
 case round =>
  obtain⟨k,hk,rfl,hbel⟩:=hrel;have HB:=hI hbel;have hsz:=hbel.size;clear hbel
  by_cases hkl:k<l.length
  · obtain⟨b2,o2,rfl,hb2,d0,A1,c1,A2,c2,d1,e1,hR1,d2,e2,hR2⟩:=(HL.out.keep (Same.of_below HB.out hS)).at_ hkl;have HCV:=hI (show ChV wr S (l.getD k chg0) A1 c1 A2 c2 from ⟨hR1,e1,hR2,e2⟩);have HGVk:=hI (HGV.out k);have HSTK:=hI (show k=gn→Zas s m (l.getD k chg0)=false from fun e=>by have:=HGS.out (by omega);rwa [←e] at this);have hl2:b2<wr.heap.size:=(by have:=hS b2 hb2;omega);have hn1:=hR1.len;have hn2:=hR2.len;clear hR1 hR2 e1 e2;generalize l.getD k chg0=ch at d0 d1 d2 HCV HGVk HSTK hn1 hn2;obtain⟨t,old,new⟩:=ch;simp only at d0 d1 d2 hn1 hn2
    go_wp2_with fail
    refine(net1_any A0 c0' s m gs gm ⟨t,old,new⟩ A1 c1 A2 c2 S _ (HC.out.keep (HB.out.block gs HC.out.ls) hsz) (c9Q HB.out hgm HM.out) (by omega) (HS.out.keep (Same.of_below HB.out hS)) HCV.out (fun b hb=>by have:=hS b hb;omega)).mono ?_;rintro e w1 ⟨rfl,hb1⟩;have HB1:=hI (HB.out.trans (hb1.mono hsz));clear hb1 d0 d1 d2
    by_cases hv:Zas s m ⟨t,old,new⟩=true
    · have hkg:k<gn:=by
        rcases Nat.lt_or_eq_of_le hk with h | h
        · exact h
        · have:=HSTK.out h;rw [hv] at this;cases this
      rw [hv];clear hv
      go_wp2_with fail
      go_roundw
      case rel=>exact⟨k+1,by omega,by go_num,HB1.out⟩
      case measure=>simp [intOf];omega
    · have hv':Zas s m ⟨t,old,new⟩=false:=(by simpa using hv)
      have hkg:k=gn:=by
       rcases Nat.lt_or_eq_of_le hk with h | h
       · have:=HGVk.out h;rw [hv'] at this;cases this
       · exact h
      have HF:=hI (show badI s m l=k by rw [HBI.out,if_pos (by omega),hkg]);rw [hv'];clear hv hv' hkg
      go_wp2_with fail
      go_ret;exact⟨by rw [HF.out];rfl,HB1.out⟩
  · have HF:=hI (show badI s m l=-1 by rw [HBI.out,if_neg (by omega)])
    go_wp2_with fail
    go_ret;exact⟨by rw [HF.out];rfl,HB.out⟩
def NewC (S:Nat→Prop) (l:List Chg) (w:World) (e:Ending) (w':World):Prop:=∃ A c,e=.returned (.slice A l.length c)∧OwnD w' w.heap.size 53 3 S (.slice A l.length c) (l.map Zal)∧Below w.heap.size w w'
theorem ownsRow_base {w:World} {base base' size n:Nat} {e:TypeId} {v:Value} {xs:List Value} (h:w.ownsRow base e size v n xs) (hb:base'≤base):w.ownsRow base' e size v n xs:=by
 refine⟨h.1,?_⟩;rcases h.2 with h0 | ⟨g,cap,cur,h1,h2,h3⟩
 · exact .inl h0
 · exact .inr ⟨g,cap,cur,h1,by omega,h3⟩
theorem own_of_row {w w':World} {S:Nat→Prop} {l:List Chg} {vs:List Value} {base g n cap:Nat} (hv:Dat.ValsAll w S (l.map Zal) vs) (hk:Same S w w') (hS:∀ b,S b→b<base∧b<w'.heap.size) (hown:w'.ownsRow base 53 3 (.slice (some ⟨g,0,none⟩) n cap) n vs) (hn:n=l.length):OwnD w' base 53 3 S (.slice (some ⟨g,0,none⟩) n cap) (l.map Zal):=by
 subst hn;refine⟨vs,by rw [List.length_map];exact hown,Dat.ValsAll.keep hk _ _ hv,fun b hb=>⟨(hS b hb).2,fun e=>?_⟩⟩;have e':b=g:=(by simpa [Value.ownBlock] using e);have h1:base≤g:=ZaF hown rfl;have:=(hS b hb).1;omega
theorem cloneC_any (A:Option Addr) (ca:Nat) (l:List Chg) (S:Nat→Prop) (w:World) (hl:ChgS w S A l) (hS:∀ b,S b→b<w.heap.size) :
  Calls Try.prog 75 #[.slice A l.length ca] w (NewC S l w):=by
 have hll:=hl.len;obtain⟨i0,hi,hz0,hz1,hz2⟩:=info_parts ZhJ;have hnil:=fun (w:World) (a:Option Addr) (n c:Nat)=>Lib.run_eql_slice_nil (P:=Try.prog) w 48 53 a n c 0 0 Try.underlying48;cases A with
 | none =>
  have h0:l=[]:=by
   cases l with
   | nil=>rfl
   | cons c r=>obtain⟨b,off,e,_⟩:=hl.2 (by simp);cases e
  subst h0;clear hl;go_enter Try.func75,Try.ntmps75
  go_wp2_with fail
  go_ret;exact⟨none,0,rfl,OwnD.nil_ hS,Below.refl _ _⟩
 | some ad =>
  rcases Nat.eq_zero_or_pos l.length with h0 | h0
  · have hr:l=[]:=List.length_eq_zero_iff.1 h0;subst hr;clear hl;go_enter Try.func75,Try.ntmps75
    go_wp2_with (at_builtin;refine Zbm _ rfl (.tmp 5) (.tmp 6) 48 rfl 53 i0 Try.underlying48 hi _ 0 rfl _ ca rfl ?_)
    go_ret;refine⟨some ⟨w.heap.size,0,none⟩,0,rfl,⟨[],⟨rfl,.inr ⟨w.heap.size,0,#[],rfl,Nat.le_refl _,heap_alloc_new w _,Nat.le_refl _,by unfold maxLen;omega,rfl,rfl⟩⟩,by simp only [List.map_nil];unfold Dat.ValsAll;rfl,fun b hb=>⟨by have:=hS b hb;simp;omega,fun e=>?_⟩⟩,(Below.refl _ _).alloc nR _⟩;have e':b=w.heap.size:=(by simpa [Value.ownBlock] using e);have:=hS b hb;omega
  · obtain⟨vs,hvs,hvc⟩:=Sl.vals hl;obtain⟨b,off,e,hb,hc⟩:=hvc (by simpa using h0);injection e with e;subst e;have hvl:vs.length=l.length*3:=(by rw [Dat.ValsAll.len _ _ hvs,ZaZ ZaL]);have HVS:=hI hvs;have HVL:=hI hvl;have HONE:=hI (Dat.ValsAll.one _ _ (Zcs Zbg l) hvs);have HCC:=hI hc;clear hl hvs hvc hvl hc;go_enter Try.func75,Try.ntmps75;have HNEWS:=hI ((HCC.out.keep (w':=w.alloc (.cells #[] 53)) (Below.heap_alloc w _ b (hS b hb))).add)
    go_wp2_with (at_builtin;refine Zax _ rfl (.tmp 5) (.tmp 6) 48 rfl 53 i0 _ 3 56 Try.underlying48 hi hz0 hz1 hz2 rfl (by decide) (some ⟨w.heap.size,0,none⟩) 0 [] rfl rfl (fun h=>absurd h (by omega)) ⟨b,off,none⟩ l.length ca vs rfl HVL.out HNEWS.out h0 (by unfold maxLen;omega) (by omega) ?_;intro cap4 w4 hown4 hg4 hs4)
    rw [List.nil_append,Nat.zero_add] at hown4;go_ret;have hb4:Below w.heap.size w w4:=((Below.refl w.heap.size w).alloc nR _).grown hg4 (by simp) (fun _ h=>by cases h);have hs4':w4.heap.size=w.heap.size+1+1:=(by rw [hs4,World.size_alloc]);have h9:=own_of_row HVS.out (Same.of_below hb4 hS) (fun b hb=>⟨by have:=hS b hb;simp;omega,by have:=hS b hb;omega⟩) hown4 rfl;rw [World.size_alloc] at h9;obtain⟨vals,q1,q2,q3⟩:=h9;exact⟨some ⟨w.heap.size+1,0,none⟩,cap4,rfl,⟨vals,ownsRow_base q1 (by omega),q2,q3⟩,hb4⟩
end Go.Proofs.Ytkpjjfhfbpfjpaa
