import Derived.Test.YtkpjjfhfbpfjpaaGreatK42e91f
import Derived.Test.YtkpjjfhfbpfjpaaGreatKd80d2e
set_option linter.unusedVariables false
set_option linter.unusedSimpArgs false
set_option maxRecDepth 100000
set_option maxHeartbeats 8000000
namespace Go.Proofs.YtkpjjfhfbpfjpaaGreat
section
variable {α:Type} (f:α→α→Int)
def ZcY (x:α):List α→List α
 | []=>[x]
 | y :: r=>if f x y<0 then y :: ZcY x r else x :: y :: r
def ins (x:α) (p:List α):List α:=(ZcY f x p.reverse).reverse
def Zbz (l:List α):List α:=l.foldl (fun p x=>ins f x p) []
theorem ZfU (x:α):∀ (r s:List α),(∀ y ∈ r,f x y<0)→ZcY f x (r++s)=r++ZcY f x s
 | [],s,_=>rfl
 | y :: r,s,h=>by
  rw [List.cons_append,ZcY,if_pos (h y (by simp)),ZfU x r s (fun z hz=>h z (by simp [hz]))];rfl
theorem ins_at (x:α) (p q:List α) (hq:∀ y ∈ q,f x y<0) (hp:∀ y,p.getLast?=some y→0≤f x y):ins f x (p++q)=p++x :: q:=by
 unfold ins;rw [List.reverse_append,ZfU f x _ _ (fun y hy=>hq y (by simpa using hy))]
 have:ZcY f x p.reverse=x :: p.reverse:=by
  cases hr:p.reverse with
  | nil=>rfl
  | cons y r =>
   have h1:p.getLast?=some y:=(by rw [List.getLast?_eq_head?_reverse,hr];rfl);have:=hp y h1;rw [ZcY,if_neg (by omega)]
 rw [this];simp
theorem ZfT (x:α):∀ r:List α,(ZcY f x r).length=r.length+1
 | []=>rfl
 | y :: r=>by unfold ZcY;split<;>simp [ZfT x r]
theorem ins_len (x:α) (p:List α):(ins f x p).length=p.length+1:=by simp [ins,ZfT]
theorem isort_snoc (l:List α) (x:α):Zbz f (l++[x])=ins f x (Zbz f l):=by simp [Zbz]
theorem Zed (l:List α):(Zbz f l).length=l.length:=by
 have key:∀ (l p:List α),(l.foldl (fun p x=>ins f x p) p).length=p.length+l.length:=by
  intro l;induction l with
  | nil=>intro p;simp
  | cons x l ih=>intro p;rw [List.foldl_cons,ih,ins_len,List.length_cons];omega
 simpa [Zbz] using key l []
theorem ZfS (x:α):∀ (r:List α) (y:α),y ∈ ZcY f x r↔y=x∨y ∈ r
 | [],y=>by simp [ZcY]
 | z :: r,y=>by
  unfold ZcY;split
  · simp only [List.mem_cons,ZfS x r y];constructor
    · rintro(h | h | h)
      · exact .inr (.inl h)
      · exact .inl h
      · exact .inr (.inr h)
    · rintro(h | h | h)
      · exact .inr (.inl h)
      · exact .inl h
      · exact .inr (.inr h)
  · simp
theorem ins_mem (x:α) (p:List α) (y:α):y ∈ ins f x p↔y=x∨y ∈ p:=by simp [ins,ZfS]
theorem isort_mem (l:List α) (y:α):y ∈ Zbz f l↔y ∈ l:=by
 have key:∀ (l p:List α),y ∈ l.foldl (fun p x=>ins f x p) p↔y ∈ p∨y ∈ l:=by
  intro l;induction l with
  | nil=>intro p;simp
  | cons x l ih =>
   intro p;rw [List.foldl_cons,ih,ins_mem,List.mem_cons];constructor
   · rintro((h | h) | h)
     · exact .inr (.inl h)
     · exact .inl h
     · exact .inr (.inr h)
   · rintro(h | h | h)
     · exact .inl (.inr h)
     · exact .inl (.inl h)
     · exact .inr h
 simpa [Zbz] using key l []
end
def Zbk (s:Sch) (m:Int):List Chg→Nat
 | []=>0
 | c :: l=>if Zap s m c then Zbk s m l+1 else 0
theorem Zgi (s:Sch) (m:Int):∀ l:List Chg,Zbk s m l≤l.length
 | []=>Nat.le_refl _
 | c :: l=>by unfold Zbk;have:=Zgi s m l;split<;>simp<;>omega
theorem ZdL (s:Sch) (m:Int):∀ (l:List Chg) (k:Nat),k<Zbk s m l→Zap s m (l.getD k chg0)=true
 | [],k,h=>by simp [Zbk] at h
 | c :: l,k,h=>by
  unfold Zbk at h;split at h
  · rename_i hc
    cases k with
    | zero=>exact hc
    | succ k=>exact ZdL s m l k (by omega)
  · omega
theorem ZfV (s:Sch) (m:Int):∀ (l:List Chg),Zbk s m l<l.length→Zap s m (l.getD (Zbk s m l) chg0)=false
 | [],h=>by simp at h
 | c :: l,h=>by
  by_cases hc:Zap s m c=true
  · have e:Zbk s m (c :: l)=Zbk s m l+1:=(by rw [Zbk,if_pos hc]);rw [e] at h ⊢;exact ZfV s m l (by simpa using h)
  · have e:Zbk s m (c :: l)=0:=(by rw [Zbk,if_neg hc]);rw [e];simpa using hc
def badI (s:Sch) (m:Int) (l:List Chg):Int:=if Zbk s m l<l.length then Zbk s m l else -1
def cmpC (s:Sch) (a b:Chg):Int:=if a.table≠b.table then a.table - b.table else cmpR (keyC s a) (keyC s b)
def Zdc (s:Sch) (a b:Chg):Bool:=(a.table == b.table)&&(cmpR (keyC s a) (keyC s b) == 0)
def ZaP (f la:Chg):List Chg:=if cmpR f.old la.new=0 then [] else [⟨f.table,f.old,la.new⟩]
def Zaq (s:Sch):Option (Chg × Chg)→List Chg→Option (List Chg)
 | none,[]=>some []
 | none,x :: r=>Zaq s (some (x,x)) r
 | some (f,la),[]=>some (ZaP f la)
 | some (f,la),x :: r=>if Zdc s f x then (if cmpR la.new x.old=0 then Zaq s (some (f,x)) r else none) else (Zaq s (some (x,x)) r).map (ZaP f la++·)
def netF (e:Int) (s:Sch) (m:Int) (l:List Chg):Int × List Chg :=
 if Zcl e m≠0 then (Zcl e m,[]) else match Zaq s none (Zbz (cmpC s) (l.take (Zbk s m l))) with
  | none=>(81,[])
  | some o=>if Zbk s m l<l.length then (71,[]) else (0,o)
theorem ZgE (s:Sch) {l:List Chg} {k:Nat} (h:k<l.length):Zaq s none (l.drop k)=Zaq s (some (l.getD k chg0,l.getD k chg0)) (l.drop (k+1)):=by
 have e:l.getD k chg0=l[k]:=(by simp [List.getD,h]);rw [List.drop_eq_getElem_cons h,Zaq,e]
theorem Zhx (s:Sch) (f la:Chg) {l:List Chg} {k:Nat} (h:k<l.length):Zaq s (some (f,la)) (l.drop k)=if Zdc s f (l.getD k chg0) then (if cmpR la.new (l.getD k chg0).old=0 then Zaq s (some (f,l.getD k chg0)) (l.drop (k+1)) else none) else (Zaq s none (l.drop k)).map (ZaP f la++·):=by
 have e:l.getD k chg0=l[k]:=(by simp [List.getD,h]);rw [List.drop_eq_getElem_cons h,Zaq,e,Zaq]
theorem net_end (s:Sch) (f la:Chg) {l:List Chg} {k:Nat} (h:l.length≤k):Zaq s (some (f,la)) (l.drop k)=(Zaq s none (l.drop k)).map (ZaP f la++·):=by
 rw [List.drop_eq_nil_of_le h,Zaq,Zaq];simp
theorem ZcQ (o p:List Chg) (x:Option (List Chg)):(x.map (p++·)).map (o++·)=x.map ((o++p)++·):=by cases x<;>simp
theorem netF_bad {e:Int} {s:Sch} {m:Int} {l:List Chg} (h:Zcl e m≠0):netF e s m l=(Zcl e m,[]):=by unfold netF;rw [if_pos h]
theorem netF_conflict {e:Int} {s:Sch} {m:Int} {l:List Chg} (h:Zcl e m=0) (h2:Zaq s none (Zbz (cmpC s) (l.take (Zbk s m l)))=none):netF e s m l=(81,[]):=by unfold netF;rw [if_neg (by omega),h2]
theorem netF_row {e:Int} {s:Sch} {m:Int} {l o:List Chg} (h:Zcl e m=0) (h2:Zaq s none (Zbz (cmpC s) (l.take (Zbk s m l)))=some o) (h3:Zbk s m l<l.length):netF e s m l=(71,[]):=by
 unfold netF;rw [if_neg (by omega),h2];simp [h3]
theorem netF_ok {e:Int} {s:Sch} {m:Int} {l o:List Chg} (h:Zcl e m=0) (h2:Zaq s none (Zbz (cmpC s) (l.take (Zbk s m l)))=some o) (h3:¬ Zbk s m l<l.length):netF e s m l=(0,o):=by
 unfold netF;rw [if_neg (by omega),h2];simp [h3]
open Go.RowKit
structure CapS (w:World) (s:Sch) (A0:Option Addr) (c0':Nat) (gs:Nat):Prop where
 v:w.cell? ⟨gs,0,none⟩=some (.int .i64 s.version)
 a:w.cell? ⟨gs,1,none⟩=some (.slice A0 s.tabs.length c0')
 ls:gs<w.heap.size
theorem CapS.keep {w w':World} {s:Sch} {A0:Option Addr} {c0':Nat} {gs:Nat} (h:CapS w s A0 c0' gs) (hk:w'.heap[gs]?=w.heap[gs]?) (hs:w.heap.size≤w'.heap.size):CapS w' s A0 c0' gs :=
 ⟨(World.cell?_of_block (w:=w) (a:=⟨gs,0,none⟩) hk).trans h.v,(World.cell?_of_block (w:=w) (a:=⟨gs,1,none⟩) hk).trans h.a,Nat.lt_of_lt_of_le h.ls hs⟩
theorem CapS.below {w w':World} {s:Sch} {A0:Option Addr} {c0':Nat} {gs:Nat} (h:CapS w s A0 c0' gs) (hb:Below w.heap.size w w'):CapS w' s A0 c0' gs:=h.keep (hb.block gs h.ls) hb.size
structure ChV (w:World) (S:Nat→Prop) (ch:Chg) (A1:Option Addr) (c1:Nat) (A2:Option Addr) (c2:Nat):Prop where
 r1:RowS w S A1 ch.old
 l1:ch.old.length≤c1
 r2:RowS w S A2 ch.new
 l2:ch.new.length≤c2
theorem ChV.keep {w w':World} {S:Nat→Prop} {ch:Chg} {A1:Option Addr} {c1:Nat} {A2:Option Addr} {c2:Nat} (h:ChV w S ch A1 c1 A2 c2) (hk:Same S w w'):ChV w' S ch A1 c1 A2 c2:=⟨h.r1.keep hk,h.l1,h.r2.keep hk,h.l2⟩
theorem ChV.more {w:World} {S S':Nat→Prop} {ch:Chg} {A1:Option Addr} {c1:Nat} {A2:Option Addr} {c2:Nat} (h:ChV w S ch A1 c1 A2 c2) (hk:∀ b,S b→S' b):ChV w S' ch A1 c1 A2 c2:=⟨h.r1.more hk,h.l1,h.r2.more hk,h.l2⟩
abbrev chV (ch:Chg) (A1:Option Addr) (c1:Nat) (A2:Option Addr) (c2:Nat):Value:=chAgg ch.table A1 ch.old.length c1 A2 ch.new.length c2
theorem net1_any (A0:Option Addr) (c0':Nat) (s:Sch) (m:Int) (gs gm:Nat) (ch:Chg) (A1:Option Addr) (c1:Nat) (A2:Option Addr) (c2:Nat) (S:Nat→Prop) (w:World) (hc:CapS w s A0 c0' gs) (hm:w.cell? ⟨gm,0,none⟩=some (.int .i64 m)) (hgm:gm<w.heap.size) (hs:TabS w S A0 s.tabs) (hv:ChV w S ch A1 c1 A2 c2) (hS:∀ b,S b→b<w.heap.size) :
  Calls Tryz.prog 65 #[chV ch A1 c1 A2 c2,.pointer (some ⟨gs,0,none⟩),.pointer (some ⟨gm,0,none⟩)] w (ZaL (!Zap s m ch) w):=by
 obtain⟨t,old,new⟩:=ch;have x0:=hc.v;have x1:=hc.a;have hgs:=hc.ls;have HS:=hI hs;have HV:=hI hv;clear hc hs hv;simp only [chV];have HB0:=hI ((Below.refl w.heap.size w).alloc nR (.cells #[.int .i64 t,.slice A1 old.length c1,.slice A2 new.length c2] 44));go_enter Tryz.func65,Tryz.ntmps65
 go_wp2_with fail
 refine(validC_any A0 c0' s m ⟨t,old,new⟩ A1 c1 A2 c2 S _ (HS.out.keep (Same.of_below HB0.out hS)) (HV.out.r1.keep (Same.of_below HB0.out hS)) HV.out.l1 (HV.out.r2.keep (Same.of_below HB0.out hS)) HV.out.l2 (fun b hb=>by have:=hS b hb;simp;omega)).mono ?_;rintro e w1 ⟨rfl,hb1⟩;have HB1:=hI (HB0.out.trans (hb1.mono (by simp)));clear hb1;obtain⟨bv,hbv⟩:∃ bv,Zap s m ⟨t,old,new⟩=bv:=⟨_,rfl⟩;have HBV:=hI hbv;rw [hbv];clear hbv
 go_wp2_with fail
 go_ret;exact⟨by rw [HBV.out];rfl,HB1.out⟩
theorem net3_any (A0:Option Addr) (c0':Nat) (s:Sch) (gs:Nat) (a:Chg) (A1:Option Addr) (c1:Nat) (A2:Option Addr) (c2:Nat) (b:Chg) (B1:Option Addr) (d1:Nat) (B2:Option Addr) (d2:Nat) (S:Nat→Prop) (w:World) (hc:CapS w s A0 c0' gs) (hs:TabS w S A0 s.tabs) (ha:ChV w S a A1 c1 A2 c2) (hb:ChV w S b B1 d1 B2 d2) (hS:∀ b,S b→b<w.heap.size) (hta:0≤a.table∧a.table≤1000000) (htb:0≤b.table∧b.table≤1000000) :
  Calls Tryz.prog 71 #[chV a A1 c1 A2 c2,chV b B1 d1 B2 d2,.pointer (some ⟨gs,0,none⟩)] w (ZbG (cmpC s a b) w):=by
 obtain⟨ta,oa,na⟩:=a;obtain⟨tb,ob,nb⟩:=b;have x0:=hc.v;have x1:=hc.a;have hgs:=hc.ls;have HS:=hI hs;have HA:=hI ha;have HBV:=hI hb;clear hc hs ha hb;simp only [chV] at hta htb ⊢;obtain⟨hta0,hta1⟩:=hta;obtain⟨htb0,htb1⟩:=htb;have HB0:=hI (((Below.refl w.heap.size w).alloc nR (.cells #[.int .i64 ta,.slice A1 oa.length c1,.slice A2 na.length c2] 44)).alloc (by simp) (.cells #[.int .i64 tb,.slice B1 ob.length d1,.slice B2 nb.length d2] 44))
 by_cases ht:ta=tb
 · subst ht;have HF:=hI (show cmpC s ⟨ta,oa,na⟩ ⟨ta,ob,nb⟩=cmpR (keyC s ⟨ta,oa,na⟩) (keyC s ⟨ta,ob,nb⟩) by unfold cmpC;rw [if_neg (by simp)]);go_enter Tryz.func71,Tryz.ntmps71
   go_wp2_with fail
   obtain⟨w0,hw0⟩:∃ w0,((w.alloc (.cells #[.int .i64 ta,.slice A1 oa.length c1,.slice A2 na.length c2] 44)).alloc (.cells #[.int .i64 ta,.slice B1 ob.length d1,.slice B2 nb.length d2] 44))=w0:=⟨_,rfl⟩;have hsz0:w0.heap.size=w.heap.size+1+1:=(by rw [←hw0];simp);rw [hw0] at HB0;have z0:w0.cell? ⟨gs,0,none⟩=some (.int .i64 s.version):=c9Q HB0.out hgs x0;have z1:w0.cell? ⟨gs,1,none⟩=some (.slice A0 s.tabs.length c0'):=c9Q HB0.out hgs x1;have z2:w0.cell? ⟨w.heap.size,0,none⟩=some (.int .i64 ta):=(by rw [←hw0];exact(Zah (by simp)).trans (Zaf rfl rfl));have z3:w0.cell? ⟨w.heap.size,1,none⟩=some (.slice A1 oa.length c1):=(by rw [←hw0];exact(Zah (by simp)).trans (Zaf rfl rfl));have z4:w0.cell? ⟨w.heap.size,2,none⟩=some (.slice A2 na.length c2):=(by rw [←hw0];exact(Zah (by simp)).trans (Zaf rfl rfl));have z5:w0.cell? ⟨w.heap.size+1,0,none⟩=some (.int .i64 ta):=(by rw [←hw0];exact Zaf (by simp) rfl);have z6:w0.cell? ⟨w.heap.size+1,1,none⟩=some (.slice B1 ob.length d1):=(by rw [←hw0];exact Zaf (by simp) rfl);have z7:w0.cell? ⟨w.heap.size+1,2,none⟩=some (.slice B2 nb.length d2):=(by rw [←hw0];exact Zaf (by simp) rfl);have hl0:gs<w0.heap.size:=(by omega);have hl1:w.heap.size<w0.heap.size:=(by omega);have hl2:w.heap.size+1<w0.heap.size:=(by omega);have hS0:∀ b,S b→b<w0.heap.size:=(fun b hb=>by have:=hS b hb;omega);have HS0:=hI (HS.out.keep (Same.of_below HB0.out hS));have HA0:=hI (HA.out.keep (Same.of_below HB0.out hS));have HV0:=hI (HBV.out.keep (Same.of_below HB0.out hS));have HSZ:=hI hsz0;rw [hw0];clear hw0 hsz0 HS HA HBV x0 x1
   go_region_held3 (fun w'=>Below w0.heap.size w0 w'∧w'.cell? ⟨gs,0,none⟩=some (.int .i64 s.version)∧w'.cell? ⟨gs,1,none⟩=some (.slice A0 s.tabs.length c0')∧w'.cell? ⟨w.heap.size,0,none⟩=some (.int .i64 ta)∧w'.cell? ⟨w.heap.size,1,none⟩=some (.slice A1 oa.length c1)∧w'.cell? ⟨w.heap.size,2,none⟩=some (.slice A2 na.length c2)∧w'.cell? ⟨w.heap.size+1,0,none⟩=some (.int .i64 ta)∧w'.cell? ⟨w.heap.size+1,1,none⟩=some (.slice B1 ob.length d1)∧w'.cell? ⟨w.heap.size+1,2,none⟩=some (.slice B2 nb.length d2))
    (first | exact⟨(Below.refl _ _).drew,z0,z1,z2,z3,z4,z5,z6,z7⟩ | exact⟨hv3,c9Q hv3 hl0 z0,c9Q hv3 hl0 z1,c9Q hv3 hl1 z2,c9Q hv3 hl1 z3,c9Q hv3 hl1 z4,c9Q hv3 hl2 z5,c9Q hv3 hl2 z6,c9Q hv3 hl2 z7⟩ | exact⟨hv2,c9Q hv2 hl0 z0,c9Q hv2 hl0 z1,c9Q hv2 hl1 z2,c9Q hv2 hl1 z3,c9Q hv2 hl1 z4,c9Q hv2 hl2 z5,c9Q hv2 hl2 z6,c9Q hv2 hl2 z7⟩ | exact⟨hv1,c9Q hv1 hl0 z0,c9Q hv1 hl0 z1,c9Q hv1 hl1 z2,c9Q hv1 hl1 z3,c9Q hv1 hl1 z4,c9Q hv1 hl2 z5,c9Q hv1 hl2 z6,c9Q hv1 hl2 z7⟩)
    (first
     | (go_at_call 69;have hvx:=hv1;clear hvx;refine(ZbZ A0 c0' s ⟨ta,ob,nb⟩ B1 d1 B2 d2 S _ (HS0.out.keep (Same.of_below hv1 hS0)) (HV0.out.r1.keep (Same.of_below hv1 hS0)) HV0.out.l1 (HV0.out.r2.keep (Same.of_below hv1 hS0)) HV0.out.l2 (fun b hb=>Nat.lt_of_lt_of_le (hS0 b hb) hv1.size)).mono ?_;rintro e w6 ⟨A8,c8,rfl,h8,hv2'⟩;have hv2:Below w0.heap.size w0 w6:=hv1.trans (hv2'.mono hv1.size))
     | (go_at_call 69;refine(ZbZ A0 c0' s ⟨ta,oa,na⟩ A1 c1 A2 c2 S w0.drew (HS0.out.keep (fun _ _=>rfl)) (HA0.out.r1.keep (fun _ _=>rfl)) HA0.out.l1 (HA0.out.r2.keep (fun _ _=>rfl)) HA0.out.l2 hS0).mono ?_;rintro e w5 ⟨A7,c7,rfl,h7,hv1'⟩;have hv1:Below w0.heap.size w0 w5:=(Below.refl _ w0).drew.trans hv1')
     | (go_at_call 72;refine(Zbm A7 A8 c7 c8 (keyC s ⟨ta,oa,na⟩) (keyC s ⟨ta,ob,nb⟩) S _ (h7.keep (Same.of_below hv2' (fun b hb=>Nat.lt_of_lt_of_le (hS0 b hb) hv1.size))) h8 (fun b hb=>Nat.lt_of_lt_of_le (hS0 b hb) hv2.size)).mono ?_;rintro e w7 ⟨rfl,hv3'⟩;have hv3:Below w0.heap.size w0 w7:=hv2.trans (hv3'.mono hv2.size)))
   have HB7:=hI (HB0.out.trans (hv3.mono (by have:=HSZ.out;omega)));clear hv1 hv2 hv3 hv1' hv2' hv3' h7 h8 z0 z1 z2 z3 z4 z5 z6 z7
   go_wp2_with fail
   go_ret;exact⟨by rw [HF.out];rfl,HB7.out⟩
 · have hd:(ta != tb)=true:=(by simpa using ht);have HF:=hI (show cmpC s ⟨ta,oa,na⟩ ⟨tb,ob,nb⟩=ta - tb by unfold cmpC;rw [if_pos ht]);clear ht;go_enter Tryz.func71,Tryz.ntmps71
   go_wp2_with fail
   go_ret;exact⟨by rw [HF.out];rfl,HB0.out⟩
theorem Zhz (A0:Option Addr) (c0':Nat) (s:Sch) (gs:Nat) (a:Chg) (A1:Option Addr) (c1:Nat) (A2:Option Addr) (c2:Nat) (b:Chg) (B1:Option Addr) (d1:Nat) (B2:Option Addr) (d2:Nat) (S:Nat→Prop) (w:World) (hc:CapS w s A0 c0' gs) (hs:TabS w S A0 s.tabs) (ha:ChV w S a A1 c1 A2 c2) (hb:ChV w S b B1 d1 B2 d2) (hS:∀ b,S b→b<w.heap.size) :
  Calls Tryz.prog 67 #[chV a A1 c1 A2 c2,chV b B1 d1 B2 d2,.pointer (some ⟨gs,0,none⟩)] w (ZaL (Zdc s a b) w):=by
 obtain⟨ta,oa,na⟩:=a;obtain⟨tb,ob,nb⟩:=b;have x0:=hc.v;have x1:=hc.a;have hgs:=hc.ls;have HS:=hI hs;have HA:=hI ha;have HBV:=hI hb;clear hc hs ha hb;simp only [chV];have HB0:=hI (((Below.refl w.heap.size w).alloc nR (.cells #[.int .i64 ta,.slice A1 oa.length c1,.slice A2 na.length c2] 44)).alloc (by simp) (.cells #[.int .i64 tb,.slice B1 ob.length d1,.slice B2 nb.length d2] 44))
 by_cases ht:ta=tb
 · subst ht;have HF:=hI (show Zdc s ⟨ta,oa,na⟩ ⟨ta,ob,nb⟩=(cmpR (keyC s ⟨ta,oa,na⟩) (keyC s ⟨ta,ob,nb⟩) == 0) by unfold Zdc;simp);go_enter Tryz.func67,Tryz.ntmps67
   go_wp2_with fail
   obtain⟨w0,hw0⟩:∃ w0,((w.alloc (.cells #[.int .i64 ta,.slice A1 oa.length c1,.slice A2 na.length c2] 44)).alloc (.cells #[.int .i64 ta,.slice B1 ob.length d1,.slice B2 nb.length d2] 44))=w0:=⟨_,rfl⟩;have hsz0:w0.heap.size=w.heap.size+1+1:=(by rw [←hw0];simp);rw [hw0] at HB0;have z0:w0.cell? ⟨gs,0,none⟩=some (.int .i64 s.version):=c9Q HB0.out hgs x0;have z1:w0.cell? ⟨gs,1,none⟩=some (.slice A0 s.tabs.length c0'):=c9Q HB0.out hgs x1;have z2:w0.cell? ⟨w.heap.size,0,none⟩=some (.int .i64 ta):=(by rw [←hw0];exact(Zah (by simp)).trans (Zaf rfl rfl));have z3:w0.cell? ⟨w.heap.size,1,none⟩=some (.slice A1 oa.length c1):=(by rw [←hw0];exact(Zah (by simp)).trans (Zaf rfl rfl));have z4:w0.cell? ⟨w.heap.size,2,none⟩=some (.slice A2 na.length c2):=(by rw [←hw0];exact(Zah (by simp)).trans (Zaf rfl rfl));have z5:w0.cell? ⟨w.heap.size+1,0,none⟩=some (.int .i64 ta):=(by rw [←hw0];exact Zaf (by simp) rfl);have z6:w0.cell? ⟨w.heap.size+1,1,none⟩=some (.slice B1 ob.length d1):=(by rw [←hw0];exact Zaf (by simp) rfl);have z7:w0.cell? ⟨w.heap.size+1,2,none⟩=some (.slice B2 nb.length d2):=(by rw [←hw0];exact Zaf (by simp) rfl);have hl0:gs<w0.heap.size:=(by omega);have hl1:w.heap.size<w0.heap.size:=(by omega);have hl2:w.heap.size+1<w0.heap.size:=(by omega);have hS0:∀ b,S b→b<w0.heap.size:=(fun b hb=>by have:=hS b hb;omega);have HS0:=hI (HS.out.keep (Same.of_below HB0.out hS));have HA0:=hI (HA.out.keep (Same.of_below HB0.out hS));have HV0:=hI (HBV.out.keep (Same.of_below HB0.out hS));have HSZ:=hI hsz0;rw [hw0];clear hw0 hsz0 HS HA HBV x0 x1
   go_region_held3 (fun w'=>Below w0.heap.size w0 w'∧w'.cell? ⟨gs,0,none⟩=some (.int .i64 s.version)∧w'.cell? ⟨gs,1,none⟩=some (.slice A0 s.tabs.length c0')∧w'.cell? ⟨w.heap.size,0,none⟩=some (.int .i64 ta)∧w'.cell? ⟨w.heap.size,1,none⟩=some (.slice A1 oa.length c1)∧w'.cell? ⟨w.heap.size,2,none⟩=some (.slice A2 na.length c2)∧w'.cell? ⟨w.heap.size+1,0,none⟩=some (.int .i64 ta)∧w'.cell? ⟨w.heap.size+1,1,none⟩=some (.slice B1 ob.length d1)∧w'.cell? ⟨w.heap.size+1,2,none⟩=some (.slice B2 nb.length d2))
    (first | exact⟨(Below.refl _ _).drew,z0,z1,z2,z3,z4,z5,z6,z7⟩ | exact⟨hv3,c9Q hv3 hl0 z0,c9Q hv3 hl0 z1,c9Q hv3 hl1 z2,c9Q hv3 hl1 z3,c9Q hv3 hl1 z4,c9Q hv3 hl2 z5,c9Q hv3 hl2 z6,c9Q hv3 hl2 z7⟩ | exact⟨hv2,c9Q hv2 hl0 z0,c9Q hv2 hl0 z1,c9Q hv2 hl1 z2,c9Q hv2 hl1 z3,c9Q hv2 hl1 z4,c9Q hv2 hl2 z5,c9Q hv2 hl2 z6,c9Q hv2 hl2 z7⟩ | exact⟨hv1,c9Q hv1 hl0 z0,c9Q hv1 hl0 z1,c9Q hv1 hl1 z2,c9Q hv1 hl1 z3,c9Q hv1 hl1 z4,c9Q hv1 hl2 z5,c9Q hv1 hl2 z6,c9Q hv1 hl2 z7⟩)
    (first
     | (go_at_call 69;have hvx:=hv1;clear hvx;refine(ZbZ A0 c0' s ⟨ta,ob,nb⟩ B1 d1 B2 d2 S _ (HS0.out.keep (Same.of_below hv1 hS0)) (HV0.out.r1.keep (Same.of_below hv1 hS0)) HV0.out.l1 (HV0.out.r2.keep (Same.of_below hv1 hS0)) HV0.out.l2 (fun b hb=>Nat.lt_of_lt_of_le (hS0 b hb) hv1.size)).mono ?_;rintro e w6 ⟨A8,c8,rfl,h8,hv2'⟩;have hv2:Below w0.heap.size w0 w6:=hv1.trans (hv2'.mono hv1.size))
     | (go_at_call 69;refine(ZbZ A0 c0' s ⟨ta,oa,na⟩ A1 c1 A2 c2 S w0.drew (HS0.out.keep (fun _ _=>rfl)) (HA0.out.r1.keep (fun _ _=>rfl)) HA0.out.l1 (HA0.out.r2.keep (fun _ _=>rfl)) HA0.out.l2 hS0).mono ?_;rintro e w5 ⟨A7,c7,rfl,h7,hv1'⟩;have hv1:Below w0.heap.size w0 w5:=(Below.refl _ w0).drew.trans hv1')
     | (go_at_call 68;refine(ZbQ A7 A8 c7 c8 (keyC s ⟨ta,oa,na⟩) (keyC s ⟨ta,ob,nb⟩) S _ (h7.keep (Same.of_below hv2' (fun b hb=>Nat.lt_of_lt_of_le (hS0 b hb) hv1.size))) h8 (fun b hb=>Nat.lt_of_lt_of_le (hS0 b hb) hv2.size)).mono ?_;rintro e w7 ⟨rfl,hv3'⟩;have hv3:Below w0.heap.size w0 w7:=hv2.trans (hv3'.mono hv2.size)))
   have HB7:=hI (HB0.out.trans (hv3.mono (by have:=HSZ.out;omega)));clear hv1 hv2 hv3 hv1' hv2' hv3' h7 h8 z0 z1 z2 z3 z4 z5 z6 z7
   go_wp2_with fail
   go_ret;exact⟨by rw [HF.out];rfl,HB7.out⟩
 · have hd:(ta == tb)=false:=(by simpa using ht);have HF:=hI (show Zdc s ⟨ta,oa,na⟩ ⟨tb,ob,nb⟩=false by unfold Zdc;simp [ht]);clear ht;go_enter Tryz.func67,Tryz.ntmps67
   go_wp2_with fail
   go_quiet (fail)
   go_wp2_with fail
   go_ret;exact⟨by rw [HF.out];rfl,Zal HB0.out _⟩
theorem Zcr (c:Chg):(Zay c).Plain:=by simp [Zay,Zax,Dat.Plain,Dat.PlainAll,Value.oneCell']
theorem infoC:(Tryz.prog.info? 44).map (fun i=>(i.zero,i.size,i.bytes))=some (some (.agg #[.int .i64 0,.slice none 0 0,.slice none 0 0]),3,56):=by kernel_rfl
theorem index_any (A0:Option Addr) (c0':Nat) (s:Sch) (m:Int) (gs gm:Nat) (A:Option Addr) (ca:Nat) (l:List Chg) (S:Nat→Prop) (w:World) (hc:CapS w s A0 c0' gs) (hm:w.cell? ⟨gm,0,none⟩=some (.int .i64 m)) (hgm:gm<w.heap.size) (hs:TabS w S A0 s.tabs) (hl:ChgS w S A l) (hS:∀ b,S b→b<w.heap.size) :
  Calls Tryz.prog 64 #[.slice A l.length ca,.func (.func 65) #[] #[.pointer (some ⟨gs,0,none⟩),.pointer (some ⟨gm,0,none⟩)]] w (ZbG (badI s m l) w):=by
 have hll:=hl.len;have HC:=hI hc;have HM:=hI hm;have HS:=hI hs;have HL:=hI hl;have hgl:=Zgi s m l;have HGV:=hI (ZdL s m l);have HGS:=hI (ZfV s m l);have HBI:=hI (show badI s m l=if Zbk s m l<l.length then (Zbk s m l:Int) else -1 from rfl);generalize Zbk s m l=gn at hgl HGV HGS HBI;clear hc hm hs hl;go_enter Tryz.func64,Tryz.ntmps64
 go_wp2_with fail
 go_loopw [8] (fun i wr=>∃ k:Nat,k≤gn∧i=.int .i64 k∧Below w.heap.size w wr) (fun i _=>l.length - (intOf i).toNat)
 case atStart=>exact⟨0,Nat.zero_le _,rfl,Below.refl _ _⟩
 case round =>
  obtain⟨k,hk,rfl,hbel⟩:=hrel;have HB:=hI hbel;have hsz:=hbel.size;clear hbel
  by_cases hkl:k<l.length
  · obtain⟨b2,o2,rfl,hb2,d0,A1,c1,A2,c2,d1,e1,hR1,d2,e2,hR2⟩:=(HL.out.keep (Same.of_below HB.out hS)).at_ hkl;have HCV:=hI (show ChV wr S (l.getD k chg0) A1 c1 A2 c2 from ⟨hR1,e1,hR2,e2⟩);have HGVk:=hI (HGV.out k);have HSTK:=hI (show k=gn→Zap s m (l.getD k chg0)=false from fun e=>by have:=HGS.out (by omega);rwa [←e] at this);have hl2:b2<wr.heap.size:=(by have:=hS b2 hb2;omega);have hn1:=hR1.len;have hn2:=hR2.len;clear hR1 hR2 e1 e2;generalize l.getD k chg0=ch at d0 d1 d2 HCV HGVk HSTK hn1 hn2;obtain⟨t,old,new⟩:=ch;simp only at d0 d1 d2 hn1 hn2
    go_wp2_with fail
    refine(net1_any A0 c0' s m gs gm ⟨t,old,new⟩ A1 c1 A2 c2 S _ (HC.out.keep (HB.out.block gs HC.out.ls) hsz) (c9Q HB.out hgm HM.out) (by omega) (HS.out.keep (Same.of_below HB.out hS)) HCV.out (fun b hb=>by have:=hS b hb;omega)).mono ?_;rintro e w1 ⟨rfl,hb1⟩;have HB1:=hI (HB.out.trans (hb1.mono hsz));clear hb1 d0 d1 d2
    by_cases hv:Zap s m ⟨t,old,new⟩=true
    · have hkg:k<gn:=by
        rcases Nat.lt_or_eq_of_le hk with h | h
        · exact h
        · have:=HSTK.out h;rw [hv] at this;cases this
      rw [hv];clear hv
      go_wp2_with fail
      go_roundw
      case rel=>exact⟨k+1,by omega,by go_num,HB1.out⟩
      case measure=>simp [intOf];omega
    · have hv':Zap s m ⟨t,old,new⟩=false:=(by simpa using hv)
      have hkg:k=gn:=by
       rcases Nat.lt_or_eq_of_le hk with h | h
       · have:=HGVk.out h;rw [hv'] at this;cases this
       · exact h
      have HF:=hI (show badI s m l=k by rw [HBI.out,if_pos (by omega),hkg]);rw [hv'];clear hv hv' hkg
      go_wp2_with fail
      go_ret;exact⟨by rw [HF.out];rfl,HB1.out⟩
  · have HF:=hI (show badI s m l=-1 by rw [HBI.out,if_neg (by omega)])
    go_wp2_with fail
    go_ret;exact⟨by rw [HF.out];rfl,HB.out⟩
def NewC (S:Nat→Prop) (l:List Chg) (w:World) (e:Ending) (w':World):Prop:=∃ A c,e=.returned (.slice A l.length c)∧OwnD w' w.heap.size 44 3 S (.slice A l.length c) (l.map Zay)∧Below w.heap.size w w'
theorem ownsRow_base {w:World} {base base' size n:Nat} {e:TypeId} {v:Value} {xs:List Value} (h:w.ownsRow base e size v n xs) (hb:base'≤base):w.ownsRow base' e size v n xs:=by
 refine⟨h.1,?_⟩;rcases h.2 with h0 | ⟨g,cap,cur,h1,h2,h3⟩
 · exact .inl h0
 · exact .inr ⟨g,cap,cur,h1,by omega,h3⟩
theorem own_of_row {w w':World} {S:Nat→Prop} {l:List Chg} {vs:List Value} {base g n cap:Nat} (hv:Dat.ValsAll w S (l.map Zay) vs) (hk:Same S w w') (hS:∀ b,S b→b<base∧b<w'.heap.size) (hown:w'.ownsRow base 44 3 (.slice (some ⟨g,0,none⟩) n cap) n vs) (hn:n=l.length):OwnD w' base 44 3 S (.slice (some ⟨g,0,none⟩) n cap) (l.map Zay):=by
 subst hn;refine⟨vs,by rw [List.length_map];exact hown,Dat.ValsAll.keep hk _ _ hv,fun b hb=>⟨(hS b hb).2,fun e=>?_⟩⟩;have e':b=g:=(by simpa [Value.ownBlock] using e);have h1:base≤g:=ZaQ hown rfl;have:=(hS b hb).1;omega
theorem cloneC_any (A:Option Addr) (ca:Nat) (l:List Chg) (S:Nat→Prop) (w:World) (hl:ChgS w S A l) (hS:∀ b,S b→b<w.heap.size) :
  Calls Tryz.prog 66 #[.slice A l.length ca] w (NewC S l w):=by
 have hll:=hl.len;obtain⟨i0,hi,hz0,hz1,hz2⟩:=info_parts infoC;have hnil:=fun (w:World) (a:Option Addr) (n c:Nat)=>Lib.run_eql_slice_nil (P:=Tryz.prog) w 23 44 a n c 0 0 Tryz.underlying23;cases A with
 | none =>
  have h0:l=[]:=by
   cases l with
   | nil=>rfl
   | cons c r=>obtain⟨b,off,e,_⟩:=hl.2 (by simp);cases e
  subst h0;clear hl;go_enter Tryz.func66,Tryz.ntmps66
  go_wp2_with fail
  go_ret;exact⟨none,0,rfl,OwnD.nil_ hS,Below.refl _ _⟩
 | some ad =>
  rcases Nat.eq_zero_or_pos l.length with h0 | h0
  · have hr:l=[]:=List.length_eq_zero_iff.1 h0;subst hr;clear hl;go_enter Tryz.func66,Tryz.ntmps66
    go_wp2_with (at_builtin;refine wpList_append_none _ rfl (.tmp 5) (.tmp 6) 23 rfl 44 i0 Tryz.underlying23 hi _ 0 rfl _ ca rfl ?_)
    go_ret;refine⟨some ⟨w.heap.size,0,none⟩,0,rfl,⟨[],⟨rfl,.inr ⟨w.heap.size,0,#[],rfl,Nat.le_refl _,heap_alloc_new w _,Nat.le_refl _,by unfold maxLen;omega,rfl,rfl⟩⟩,by simp only [List.map_nil];unfold Dat.ValsAll;rfl,fun b hb=>⟨by have:=hS b hb;simp;omega,fun e=>?_⟩⟩,(Below.refl _ _).alloc nR _⟩;have e':b=w.heap.size:=(by simpa [Value.ownBlock] using e);have:=hS b hb;omega
  · obtain⟨vs,hvs,hvc⟩:=Sl.vals hl;obtain⟨b,off,e,hb,hc⟩:=hvc (by simpa using h0);injection e with e;subst e;have hvl:vs.length=l.length*3:=(by rw [Dat.ValsAll.len _ _ hvs,Zde Zbl]);have HVS:=hI hvs;have HVL:=hI hvl;have HONE:=hI (Dat.ValsAll.one _ _ (ZeG Zcr l) hvs);have HCC:=hI hc;clear hl hvs hvc hvl hc;go_enter Tryz.func66,Tryz.ntmps66;have HNEWS:=hI ((HCC.out.keep (w':=w.alloc (.cells #[] 44)) (Below.heap_alloc w _ b (hS b hb))).add)
    go_wp2_with (at_builtin;refine wpList_append_full _ rfl (.tmp 5) (.tmp 6) 23 rfl 44 i0 _ 3 56 Tryz.underlying23 hi hz0 hz1 hz2 rfl (by decide) (some ⟨w.heap.size,0,none⟩) 0 [] rfl rfl (fun h=>absurd h (by omega)) ⟨b,off,none⟩ l.length ca vs rfl HVL.out HNEWS.out h0 (by unfold maxLen;omega) (by omega) ?_;intro cap4 w4 hown4 hg4 hs4)
    rw [List.nil_append,Nat.zero_add] at hown4;go_ret;have hb4:Below w.heap.size w w4:=((Below.refl w.heap.size w).alloc nR _).grown hg4 (by simp) (fun _ h=>by cases h);have hs4':w4.heap.size=w.heap.size+1+1:=(by rw [hs4,World.size_alloc]);have h9:=own_of_row HVS.out (Same.of_below hb4 hS) (fun b hb=>⟨by have:=hS b hb;simp;omega,by have:=hS b hb;omega⟩) hown4 rfl;rw [World.size_alloc] at h9;obtain⟨vals,q1,q2,q3⟩:=h9;exact⟨some ⟨w.heap.size+1,0,none⟩,cap4,rfl,⟨vals,ownsRow_base q1 (by omega),q2,q3⟩,hb4⟩
section
variable {w:World} {base n c g:Nat} {S:Nat→Prop}
theorem OwnD.chgs {v:Value} {A:Option Addr} {l:List Chg} (h:OwnD w base 44 3 S (.slice A n c) (l.map Zay)) (hl:l.length≤2513169434916):n=l.length∧n≤c∧ChgS w (fun b=>S b∨some b=(Value.slice A n c).ownBlock) A l:=by
 have:=h.slice (S':=fun b=>S b∨some b=(Value.slice A n c).ownBlock) (by rw [Zae (n:=56) (fun _=>rfl)];omega) (fun b hb=>.inl hb) (fun g _ _ e=>.inr e.symm);rw [List.length_map] at this;exact this
theorem vals3 {ch:Chg} {vs:List Value} (h:Dat.Vals w S (Zay ch) vs):∃ x y z,vs=[x,y,z]:=by
 have:=Dat.Vals.len _ _ h;rw [Zbl] at this
 match vs,this with
 | [x,y,z],_=>exact⟨x,y,z,rfl⟩
theorem set6 (p q:List Value) (x0 x1 x2 y0 y1 y2:Value) :
  ((((((p++x0 :: x1 :: x2 :: y0 :: y1 :: y2 :: q).set (p.length+3) x0).set (p.length+3+1) x1).set (p.length+3+2) x2).set p.length y0).set (p.length+1) y1).set (p.length+2) y2=p++y0 :: y1 :: y2 :: x0 :: x1 :: x2 :: q:=by
 induction p with
 | nil=>rfl
 | cons a p ih =>
  rw [List.length_cons,show p.length+1+3=p.length+3+1 by omega,show p.length+3+1+1=(p.length+3+1)+1 by omega,show p.length+3+1+2=(p.length+3+2)+1 by omega,show p.length+1+1=(p.length+1)+1 by omega,show p.length+1+2=(p.length+2)+1 by omega];simp only [List.cons_append,List.set_cons_succ];rw [ih]
theorem OwnD.swap {p q:List Chg} {a b:Chg} {x0 x1 x2 y0 y1 y2:Value} (h:OwnD w base 44 3 S (.slice (some ⟨g,0,none⟩) n c) ((p++a :: b :: q).map Zay)) (hn:n=(p++a :: b :: q).length)
  (hx0:w.cell? ⟨g,p.length*3,none⟩=some x0) (hx1:w.cell? ⟨g,p.length*3+1,none⟩=some x1) (hx2:w.cell? ⟨g,p.length*3+2,none⟩=some x2)
  (hy0:w.cell? ⟨g,(p.length+1)*3,none⟩=some y0) (hy1:w.cell? ⟨g,(p.length+1)*3+1,none⟩=some y1) (hy2:w.cell? ⟨g,(p.length+1)*3+2,none⟩=some y2) :
  OwnD ((((((w.setCell ⟨g,(p.length+1)*3,none⟩ x0).setCell ⟨g,(p.length+1)*3+1,none⟩ x1).setCell ⟨g,(p.length+1)*3+2,none⟩ x2).setCell ⟨g,p.length*3,none⟩ y0).setCell ⟨g,p.length*3+1,none⟩ y1).setCell ⟨g,p.length*3+2,none⟩ y2)
   base 44 3 S (.slice (some ⟨g,0,none⟩) n c) ((p++b :: a :: q).map Zay):=by
 rw [show (p.length+1)*3=p.length*3+3 by omega] at *;obtain⟨vals,h1,h2,h3⟩:=h;rw [List.length_map,←hn] at h1;have hl:(p++b :: a :: q).length=n:=(by rw [hn];simp);rw [List.map_append,List.map_cons,List.map_cons] at h2;obtain⟨vp,v',e1,h4,h5⟩:=ZcO h2;unfold Dat.ValsAll at h5;obtain⟨va,v'',e2,h6,h7⟩:=h5;unfold Dat.ValsAll at h7;obtain⟨vb,vq,e3,h8,h9⟩:=h7;obtain⟨z0,z1,z2,e4⟩:=vals3 h6;obtain⟨u0,u1,u2,e5⟩:=vals3 h8;subst e4 e5 e3 e2 e1;have hpl:vp.length=p.length*3:=(by rw [Dat.ValsAll.len _ _ h4,Zde Zbl]);have hbnd:p.length*3+6≤n*3:=(by rw [hn];simp;omega)
 have hc:∀ i,i<6→w.cell? ⟨g,p.length*3+i,none⟩=([z0,z1,z2,u0,u1,u2]++vq)[i]?:=fun i hi=>by
  rw [h1.cellAt _ (by omega),List.getElem?_append_right (by omega)];simp [hpl]
 have e0:z0=x0:=(by have:=(hc 0 (by omega)).symm.trans hx0;simpa using this);have e1:z1=x1:=(by have:=(hc 1 (by omega)).symm.trans hx1;simpa using this);have e2:z2=x2:=(by have:=(hc 2 (by omega)).symm.trans hx2;simpa using this);have e3:u0=y0:=(by have:=(hc 3 (by omega)).symm.trans hy0;simpa using this);have e4:u1=y1:=(by have:=(hc 4 (by omega)).symm.trans hy1;simpa using this);have e5:u2=y2:=(by have:=(hc 5 (by omega)).symm.trans hy2;simpa using this);subst e0 e1 e2 e3 e4 e5;have hst:=((((((h1.stored (p.length*3+3) z0).1.stored (p.length*3+3+1) z1).1.stored (p.length*3+3+2) z2).1.stored (p.length*3) u0).1.stored (p.length*3+1) u1).1.stored (p.length*3+2) u2).1
 have hk:Same S w ((((((w.setCell ⟨g,p.length*3+3,none⟩ z0).setCell ⟨g,p.length*3+3+1,none⟩ z1).setCell ⟨g,p.length*3+3+2,none⟩ z2).setCell ⟨g,p.length*3,none⟩ u0).setCell ⟨g,p.length*3+1,none⟩ u1).setCell ⟨g,p.length*3+2,none⟩ u2):=fun b hb=>by
  have hne:b≠g:=fun e=>(h3 b hb).2 (by subst e;rfl)
  iterate 6 rw [Below.heap_setCell _ _ _ b hne]
 rw [←hpl] at hst;simp only [List.cons_append,List.nil_append] at hst;rw [set6] at hst;rw [hpl] at hst;refine⟨_,by rw [List.length_map,hl];exact hst,?_,fun b hb=>⟨by simpa using (h3 b hb).1,(h3 b hb).2⟩⟩;rw [List.map_append,List.map_cons,List.map_cons];refine Zbf (Dat.ValsAll.keep hk _ _ h4) ?_;unfold Dat.ValsAll;refine⟨[u0,u1,u2],z0 :: z1 :: z2 :: vq,rfl,Dat.Vals.keep hk _ _ h8,?_⟩;unfold Dat.ValsAll;exact⟨[z0,z1,z2],vq,rfl,Dat.Vals.keep hk _ _ h6,Dat.ValsAll.keep hk _ _ h9⟩
end
def Zgl (base:Nat) (S:Nat→Prop) (v:Value) (l:List Chg) (w:World) (e:Ending) (w':World):Prop:=(∃ u,e=.returned u)∧OwnD w' base 44 3 S v (l.map Zay)∧Fr (fun b=>some b=v.ownBlock) w w'
theorem OwnD.belowC {w w':World} {base n c:Nat} {S:Nat→Prop} {A:Option Addr} {l:List Dat} (h:OwnD w base 44 3 S (.slice A n c) l) (hb:Below w.heap.size w w'):OwnD w' base 44 3 S (.slice A n c) l:=h.below hb
theorem OwnD.drew {w:World} {base size:Nat} {e:TypeId} {S:Nat→Prop} {v:Value} {l:List Dat} (h:OwnD w base e size S v l):OwnD w.drew base e size S v l:=h.keep nR (fun _ _=>rfl) (fun _ _=>rfl)
theorem getD_mid (p q:List Chg) (x:Chg):(p++x :: q).getD p.length chg0=x:=by simp [List.getD]
theorem getD_pre (p q:List Chg) (x y:Chg):(p++[x]++y :: q).getD p.length chg0=x:=by simp [List.getD]
theorem insertion_any (A0:Option Addr) (c0':Nat) (s:Sch) (gs:Nat) (A:Option Addr) (c:Nat) (l:List Chg) (base:Nat) (S:Nat→Prop) (w:World) (hc:CapS w s A0 c0' gs) (hs:TabS w S A0 s.tabs) (ho:OwnD w base 44 3 S (.slice A l.length c) (l.map Zay)) (hg:some gs≠(Value.slice A l.length c).ownBlock) (ht:∀ x ∈ l,0≤x.table∧x.table≤1000000) (hl:l.length≤1000) :
  Calls Tryz.prog 120 #[.slice A l.length c,.int .i64 0,.int .i64 l.length,.func (.func 71) #[] #[.pointer (some ⟨gs,0,none⟩)]] w (Zgl base S (.slice A l.length c) (Zbz (cmpC s) l) w):=by
 have HC:=hI hc;have HS:=hI hs;have HO:=hI ho;have HG:=hI hg;have HTT:=hI ht;have hSw:∀ b,S b→b<w.heap.size:=(fun b hb=>by obtain⟨_,_,_,h3⟩:=ho;exact(h3 b hb).1);have HNS:=hI (show ∀ b,S b→some b≠(Value.slice A l.length c).ownBlock from fun b hb=>by obtain⟨_,_,_,h3⟩:=ho;exact(h3 b hb).2);clear hc hs ho hg ht;go_enter Tryz.func120,Tryz.ntmps120
 go_wp2_with fail
 go_loopw [8] (fun i wr=>∃ k:Nat,1≤k∧(k≤l.length∨k=1)∧i=.int .i64 k∧OwnD wr base 44 3 S (.slice A l.length c) ((Zbz (cmpC s) (l.take k)++l.drop k).map Zay)∧Fr (fun b=>some b=(Value.slice A l.length c).ownBlock) w wr) (fun i _=>l.length - (intOf i).toNat)
 case atStart =>
  refine⟨1,by omega,.inr rfl,rfl,?_,Fr.refl _ _⟩;have e:Zbz (cmpC s) (l.take 1)=l.take 1:=(by cases l<;>rfl);rw [e,List.take_append_drop];exact HO.out
 case round =>
  obtain⟨k,hk1,hk2,rfl,hown,hfr⟩:=hrel;have HOW:=hI hown;have HFR:=hI hfr;have hsz:=hfr.size;clear hown hfr
  by_cases hkl:k<l.length
  · have HSN:=hI (show Zbz (cmpC s) (l.take (k+1))=ins (cmpC s) (l.getD k chg0) (Zbz (cmpC s) (l.take k)) by rw [List.take_succ_eq_append_getElem hkl,isort_snoc];simp [List.getD,hkl]);have HDK:=hI (drop_chg hkl);have HLK:=hI (show (Zbz (cmpC s) (l.take k)).length=k by rw [Zed,List.length_take];omega);have HTX:=hI (HTT.out (l.getD k chg0) (by simp [List.getD,hkl]));have HTP:=hI (show ∀ y ∈ Zbz (cmpC s) (l.take k),0≤y.table∧y.table≤1000000 from fun y hy=>HTT.out y (List.mem_of_mem_take ((isort_mem _ _ _).1 hy)));rw [HDK.out] at HOW;generalize Zbz (cmpC s) (l.take k)=pre at HSN HLK HTP HOW;generalize l.getD k chg0=x at HSN HTX HOW HDK
    go_wp2_with fail
    go_loopw [9] (fun i wq=>∃ j:Nat,i=.int .i64 j∧∃ p q:List Chg,p.length=j∧p++q=pre∧(∀ y ∈ q,cmpC s x y<0)∧OwnD wq base 44 3 S (.slice A l.length c) ((p++x :: (q++l.drop (k+1))).map Zay)∧Fr (fun b=>some b=(Value.slice A l.length c).ownBlock) w wq) (fun i _=>(intOf i).toNat)
    case atStart=>exact⟨k,rfl,pre,[],HLK.out,by simp,fun y hy=>by simp at hy,by simpa using HOW.out,HFR.out⟩
    case round =>
     clear HOW HFR hsz;obtain⟨j,rfl,p,q,hpj,hpq,hlt,hown,hfr⟩:=hrel;have HOW:=hI hown;have HFR:=hI hfr;have hsz:=hfr.size;have HPQ:=hI hpq;have HLT:=hI hlt;have HPJ:=hI hpj;have hjk:j≤k:=(by have:=HLK.out;rw [←hpq,List.length_append] at this;omega);have hlen:(p++x :: (q++l.drop (k+1))).length=l.length:=(by have:=HLK.out;rw [←hpq,List.length_append] at this;simp;omega);have HLEN:=hI hlen;clear hown hfr hpq hlt hpj hlen
     by_cases hj0:j=0
     · subst hj0;have hp0:p=[]:=List.eq_nil_of_length_eq_zero HPJ.out;subst hp0;have HFIN:=hI (show Zbz (cmpC s) (l.take (k+1))++l.drop (k+1)=[]++x :: (q++l.drop (k+1)) by rw [HSN.out,←HPQ.out,ins_at (cmpC s) x [] q HLT.out (by simp)];simp);have hd:decide ((0:Int)<0)=false:=by decide
       go_wp2_with fail
       go_quiet (fail)
       go_wp2_with fail
       go_roundw
       case rel=>exact⟨k+1,by omega,.inl hkl,by go_num,by rw [HFIN.out];exact HOW.out.keep nR (fun _ _=>rfl) (fun _ _=>rfl),HFR.out.drewN _⟩
       case measure=>simp [intOf];omega
     · obtain⟨i,rfl⟩:∃ i,j=i+1:=⟨j - 1,by omega⟩
       obtain⟨r,y,hpr⟩:∃ r y,p=r++[y]:=by
        rcases List.eq_nil_or_concat p with h | ⟨r,y,h⟩
        · rw [h] at HPJ;exact absurd HPJ.out (by simp)
        · exact⟨r,y,by simpa using h⟩
       subst hpr;have HRI:=hI (show r.length=i by have:=HPJ.out;simp at this;omega);have hil:i+1<l.length:=(by omega);obtain⟨hn1,hn2,hch⟩:=OwnD.chgs (v:=.slice A l.length c) HOW.out (by rw [HLEN.out];omega);obtain⟨b2,o2,eA,hb2,d0,A1,c1,A2,c2,d1,e1,hR1,d2,e2,hR2⟩:=hch.at_ (k:=i) (by rw [HLEN.out];omega);obtain⟨b3,o3,eA3,hb3,f0,B1,k1,B2,k2,f1,g1,hR3,f2,g2,hR4⟩:=hch.at_ (k:=i+1) (by rw [HLEN.out];omega);have ey:((r++[y])++x :: (q++l.drop (k+1))).getD i chg0=y:=(by rw [←HRI.out];exact getD_pre _ _ _ _);have ex:((r++[y])++x :: (q++l.drop (k+1))).getD (i+1) chg0=x:=(by rw [←HPJ.out];exact getD_mid _ _ _);rw [ey] at d0 d1 d2 e1 e2 hR1 hR2;rw [ex] at f0 f1 f2 g1 g2 hR3 hR4;obtain⟨vals,hov,hva,hsv⟩:=HOW.out;obtain⟨g,cap,ev,hbg,hgl⟩:=hov.form (by simp;omega);have e9:A=some ⟨g,0,none⟩:=(by injection ev);rw [e9] at eA eA3;injection eA with eA;injection eA with eA1 eA2;injection eA3 with eA3;injection eA3 with eA31 eA32;subst eA1 eA2 eA31 eA32 e9;have hfz:∀ z,wr.frozen? ⟨g,z,none⟩=false:=(fun z=>by rw [List.length_map,HLEN.out] at hov;exact hov.frozenAt z);clear hov hva hsv ev hn1 hn2 hch ex ey hbg;have HVY:=hI (show ChV wr (fun b=>S b∨some b=(Value.slice (some ⟨g,0,none⟩) l.length c).ownBlock) y A1 c1 A2 c2 from ⟨hR1,e1,hR2,e2⟩);have HVX:=hI (show ChV wr (fun b=>S b∨some b=(Value.slice (some ⟨g,0,none⟩) l.length c).ownBlock) x B1 k1 B2 k2 from ⟨hR3,g1,hR4,g2⟩);have hy1:=hR1.len;have hy2:=hR2.len;have hx1:=hR3.len;have hx2:=hR4.len;clear hR1 hR2 hR3 hR4 e1 e2 g1 g2 hb2 hb3;have HTY:=hI (HTP.out y (by rw [←HPQ.out];simp))
       have hS4:∀ b,(S b∨some b=(Value.slice (some ⟨g,0,none⟩) l.length c).ownBlock)→b<wr.heap.size:=fun b hb=>by
        rcases hb with hb | hb
        · have:=hSw b hb;omega
        · have:b=g:=(by simpa [Value.ownBlock] using hb);omega
       have HCQ:=hI (HC.out.keep (HFR.out.block gs HC.out.ls HG.out) hsz);have HSQ:=hI ((HS.out.keep (HFR.out.same (fun b hb=>⟨hSw b hb,HNS.out b hb⟩))).more (S':=fun b=>S b∨some b=(Value.slice (some ⟨g,0,none⟩) l.length c).ownBlock) (fun b hb=>.inl hb));rw [Nat.zero_add] at d0 d1 d2 f0 f1 f2;obtain⟨cv,hcv⟩:∃ cv,cmpC s x y=cv:=⟨_,rfl⟩;have HCV:=hI hcv;clear hcv hj0;have HSWAP:=hI (fun (x0 x1 x2 y0 y1 y2:Value)=>OwnD.swap (w:=wr) (p:=r) (a:=y) (b:=x) (q:=q++l.drop (k+1)) (x0:=x0) (x1:=x1) (x2:=x2) (y0:=y0) (y1:=y1) (y2:=y2) (by simpa using HOW.out) (by have:=HLEN.out;simp at this ⊢;omega));rw [HRI.out] at HSWAP;obtain⟨tx,ox,nx⟩:=x;obtain⟨ty,oy,ny⟩:=y;simp only at d0 d1 d2 f0 f1 f2 hy1 hy2 hx1 hx2;have hd:decide ((0:Int)<(i:Int)+1)=true:=decide_eq_true (by omega);have q1:IntKind.i64.wrap ((i:Int)+1 - 1)=i:=(by rw [show ((i:Int)+1 - 1)=i by omega];exact IntWalk.i64_in _ (by omega));have q5:IntKind.i64.wrap (i:Int)=i:=IntWalk.i64_in _ (by omega);have q2:(0:Int)≤i:=(by omega);have q3:(i:Int)<l.length:=(by omega);have q6:(i:Int)+1<l.length:=(by omega);have q7:(0:Int)≤(i:Int)+1:=by omega
       go_wp2_with fail
       go_region_held3 (fun w'=>Below wr.heap.size wr w'∧w'.cell? ⟨g,i*3,none⟩=some (.int .i64 ty)∧w'.cell? ⟨g,i*3+1,none⟩=some (.slice A1 oy.length c1)∧w'.cell? ⟨g,i*3+2,none⟩=some (.slice A2 ny.length c2)∧w'.cell? ⟨g,(i+1)*3,none⟩=some (.int .i64 tx)∧w'.cell? ⟨g,(i+1)*3+1,none⟩=some (.slice B1 ox.length k1)∧w'.cell? ⟨g,(i+1)*3+2,none⟩=some (.slice B2 nx.length k2))
        (first | exact⟨(Below.refl _ _).drew,d0,d1,d2,f0,f1,f2⟩ | exact⟨hv1,c9Q hv1 hgl d0,c9Q hv1 hgl d1,c9Q hv1 hgl d2,c9Q hv1 hgl f0,c9Q hv1 hgl f1,c9Q hv1 hgl f2⟩)
        ((go_at_call 71;refine(net3_any A0 c0' s gs ⟨tx,ox,nx⟩ B1 k1 B2 k2 ⟨ty,oy,ny⟩ A1 c1 A2 c2 (fun b=>S b∨some b=(Value.slice (some ⟨g,0,none⟩) l.length c).ownBlock) wr.drew (HCQ.out.keep rfl nR) (HSQ.out.keep (fun _ _=>rfl)) (HVX.out.keep (fun _ _=>rfl)) (HVY.out.keep (fun _ _=>rfl)) hS4 HTX.out HTY.out).mono ?_;rintro e w5 ⟨rfl,hv1'⟩;have hv1:Below wr.heap.size wr w5:=(Below.refl _ wr).drew.trans hv1'))
       have d0':=c9Q hv1 hgl d0;have d1':=c9Q hv1 hgl d1;have d2':=c9Q hv1 hgl d2;have f0':=c9Q hv1 hgl f0;have f1':=c9Q hv1 hgl f1;have f2':=c9Q hv1 hgl f2;have hz0:w5.frozen? ⟨g,i*3,none⟩=false:=(hv1.frozen (p:=⟨g,i*3,none⟩) hgl).trans (hfz _);have hz1:w5.frozen? ⟨g,i*3+1,none⟩=false:=(hv1.frozen (p:=⟨g,i*3+1,none⟩) hgl).trans (hfz _);have hz2:w5.frozen? ⟨g,i*3+2,none⟩=false:=(hv1.frozen (p:=⟨g,i*3+2,none⟩) hgl).trans (hfz _);have hz3:w5.frozen? ⟨g,(i+1)*3,none⟩=false:=(hv1.frozen (p:=⟨g,(i+1)*3,none⟩) hgl).trans (hfz _);have hz4:w5.frozen? ⟨g,(i+1)*3+1,none⟩=false:=(hv1.frozen (p:=⟨g,(i+1)*3+1,none⟩) hgl).trans (hfz _);have hz5:w5.frozen? ⟨g,(i+1)*3+2,none⟩=false:=(hv1.frozen (p:=⟨g,(i+1)*3+2,none⟩) hgl).trans (hfz _);have HFR5:=hI (HFR.out.trans (Y:=fun _=>False) (Fr.of_below hv1) (fun _ _ h=>h.elim));have HOW5:=hI (OwnD.belowC HOW.out hv1);clear hv1 hv1' d0 d1 d2 f0 f1 f2 hfz;rw [HCV.out]
       by_cases hneg:cv<0
       · have hdn:decide (cv<0)=true:=decide_eq_true hneg;have HSW:=hI (OwnD.swap (w:=w5) (p:=r) (a:=⟨ty,oy,ny⟩) (b:=⟨tx,ox,nx⟩) (q:=q++l.drop (k+1)) (by simpa using HOW5.out) (by have:=HLEN.out;simp at this ⊢;omega) (by rw [HRI.out];exact d0') (by rw [HRI.out];exact d1') (by rw [HRI.out];exact d2') (by rw [HRI.out];exact f0') (by rw [HRI.out];exact f1') (by rw [HRI.out];exact f2'));rw [HRI.out] at HSW
         have HLT2:=hI (show ∀ z ∈ (⟨ty,oy,ny⟩ :: q:List Chg),cmpC s ⟨tx,ox,nx⟩ z<0 from fun z hz=>by
          rcases List.mem_cons.1 hz with rfl | hz
          · rw [HCV.out];exact hneg
          · exact HLT.out z hz)
         clear HCV hneg HSWAP;rw [hdn]
         go_wp2_with fail
         have hne1:(i+1)*3≠i*3:=by omega
         go_region
         go_wp2_with fail
         go_roundw
         case rel =>
          refine⟨i,by go_num,r,⟨ty,oy,ny⟩ :: q,HRI.out,by rw [←HPQ.out];simp,HLT2.out,?_,?_⟩
          · rw [List.cons_append];exact OwnD.drew HSW.out
          · exact Fr.drew ((((((HFR5.out.setCell _ (fun _=>rfl)).setCell _ (fun _=>rfl)).setCell _ (fun _=>rfl)).setCell _ (fun _=>rfl)).setCell _ (fun _=>rfl)).setCell _ (fun _=>rfl))
         case measure=>simp [intOf]
       · have hdn:decide (cv<0)=false:=decide_eq_false hneg
         have HFIN:=hI (show Zbz (cmpC s) (l.take (k+1))++l.drop (k+1)=(r++[(⟨ty,oy,ny⟩:Chg)])++⟨tx,ox,nx⟩ :: (q++l.drop (k+1)) by
          rw [HSN.out,←HPQ.out,ins_at (cmpC s) _ (r++[(⟨ty,oy,ny⟩:Chg)]) q HLT.out (fun z hz=>by simp at hz;subst hz;rw [HCV.out];omega)];simp)
         clear HCV hneg HSWAP;rw [hdn]
         go_wp2_with fail
         go_roundw
         case rel=>exact⟨k+1,by omega,.inl hkl,by go_num,by rw [HFIN.out];exact HOW5.out,HFR5.out⟩
         case measure=>simp [intOf];omega
  · have HE:=hI (show Zbz (cmpC s) (l.take k)++l.drop k=Zbz (cmpC s) l by rw [List.take_of_length_le (by omega),List.drop_eq_nil_of_le (by omega),List.append_nil])
    go_wp2_with fail
    go_end0
    exact⟨⟨_,rfl⟩,by rw [←HE.out];exact HOW.out,HFR.out⟩
theorem stable_any (A0:Option Addr) (c0':Nat) (s:Sch) (gs:Nat) (A:Option Addr) (c:Nat) (l:List Chg) (base:Nat) (S:Nat→Prop) (w:World) (hc:CapS w s A0 c0' gs) (hs:TabS w S A0 s.tabs) (ho:OwnD w base 44 3 S (.slice A l.length c) (l.map Zay)) (hg:some gs≠(Value.slice A l.length c).ownBlock) (ht:∀ x ∈ l,0≤x.table∧x.table≤1000000) (hl:l.length≤19) :
  Calls Tryz.prog 98 #[.slice A l.length c,.int .i64 l.length,.func (.func 71) #[] #[.pointer (some ⟨gs,0,none⟩)]] w (Zgl base S (.slice A l.length c) (Zbz (cmpC s) l) w):=by
 have HX:=hI (insertion_any A0 c0' s gs A c l base S w hc hs ho hg ht (by omega));clear hc hs ho hg ht;have hd1:decide ((20:Int)≤(l.length:Int))=false:=decide_eq_false (by omega);have hd2:decide ((20:Int)<(l.length:Int))=false:=decide_eq_false (by omega);go_enter Tryz.func98,Tryz.ntmps98
 go_wp2_with fail
 go_loopw [7,8] (fun a b wr=>a=.int .i64 0∧b=.int .i64 20∧wr=w) (fun _ _ _=>0)
 case atStart=>exact⟨rfl,rfl,rfl⟩
 case round =>
  obtain⟨rfl,rfl,rfl⟩:=hrel
  go_wp2_with fail
  refine HX.out.mono ?_;rintro e w1 ⟨⟨u,rfl⟩,h1,h2⟩;have H1:=hI h1;have H2:=hI h2;clear h1 h2
  go_wp2_with fail
  go_loopw [6] (fun a wq=>a=.int .i64 20∧wq=w1) (fun _ _=>0)
  case atStart=>exact⟨rfl,rfl⟩
  case round =>
   obtain⟨rfl,rfl⟩:=hrel
   go_wp2_with fail
   go_end0
   exact⟨⟨_,rfl⟩,H1.out,H2.out⟩
theorem ZdD (A0:Option Addr) (c0':Nat) (s:Sch) (gs:Nat) (A:Option Addr) (c:Nat) (l:List Chg) (base:Nat) (S:Nat→Prop) (w:World) (hc:CapS w s A0 c0' gs) (hs:TabS w S A0 s.tabs) (ho:OwnD w base 44 3 S (.slice A l.length c) (l.map Zay)) (hg:some gs≠(Value.slice A l.length c).ownBlock) (ht:∀ x ∈ l,0≤x.table∧x.table≤1000000) (hl:l.length≤19) :
  Calls Tryz.prog 70 #[.slice A l.length c,.func (.func 71) #[] #[.pointer (some ⟨gs,0,none⟩)]] w (Zgl base S (.slice A l.length c) (Zbz (cmpC s) l) w):=by
 have HX:=hI (stable_any A0 c0' s gs A c l base S w hc hs ho hg ht hl);clear hc hs ho hg ht;go_enter Tryz.func70,Tryz.ntmps70
 go_wp2_with fail
 refine HX.out.mono ?_;rintro e w1 ⟨⟨u,rfl⟩,h1,h2⟩;have H1:=hI h1;have H2:=hI h2;clear h1 h2
 go_wp2_with fail
 go_end0
 exact⟨⟨_,rfl⟩,H1.out,H2.out⟩
end Go.Proofs.YtkpjjfhfbpfjpaaGreat
