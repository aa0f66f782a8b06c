import Derived.Test.YtjadnfodboepeaaGreatKf2
import Derived.RangeFuncNested
import Derived.RangeFuncBound
import Derived.Shelf.Abstract
import Derived.OwnWalkIn
import Derived.TacticsInMore
import Derived.LoopNIn
import Derived.LoopIn
set_option linter.all false
set_option maxRecDepth 100000
set_option maxHeartbeats 8000000
namespace Go.Proofs.YtjadnfodboepeaaGreat
open Go Go.RowKit
variable {w:World} {n k m:Nat} {P:Program} {Q:Act}
def ZfH (z:Array Oper):Bool:=z.all fun o=>match o.op with | .defer _=>false | _=>true
theorem noDefer_spec {z:Array Oper} (h:ZfH z=true) {o:Oper} (H:z[n]?=some o):∀ c,o.op≠.defer c:=by
 intro c e;unfold ZfH at h;rw [Array.all_eq_true] at h;obtain⟨E,F⟩:=Array.getElem?_eq_some_iff.1 H;have:=h n E;rw [F,e] at this;cases this
theorem uponIn_wide {o:Oper} {E:Act->World->Prop} {a:Exit->Act->World->Prop} {r:Result Next} (h:o.upon P Q E a r):o.uponIn (Fence.wide.inRound n) k P Q E a r:=by
 match r,h with
 | .ok (.value v) w',h=>exact h
 | .ok .skip w',h=>exact h
 | .ok (.defer d) w',h=>exact h
 | .ok (.enter f args) w',h=>exact⟨fun hd=>by simp [Fence.wide] at hd,CallsIn.inRound n (callsIn_wide.2 h)⟩
 | .ok (.row row args) w',h=>exact⟨fun hd=>by simp [Fence.wide] at hd,rows_wide h⟩
 | .halt (.panic v) w',h=>exact h
where
 rows_wide {n k:Nat} {P:Program} {row:String} {args:Array Value} {w:World} {z:Value->World->Prop} (h:Rows P row args w z):RowsIn (Fence.wide.inRound n) k P row args w z :=
  fun c cs _=>let ⟨v,w',r,s⟩:=h c cs;⟨v,w',r,stepsIn_wide.2 s⟩
theorem wpOpIn_wide {z:Array Oper} {a:Exit->Act->World->Prop} {H:Act->World->Prop} (K:ZfH z=true) (I:¬ LetsOut a) (h:wpOp P z a m H Q w):wpOpIn (Fence.wide.inRound n) k P z a m H Q w:=by
 unfold wpOp at h;unfold wpOpIn;cases F:z[m]? with
 | none=>rw [F] at h;exact h
 | some o =>
  rw [F] at h;simp only at h ⊢;split
  .rename_i E
   rw [qr E] at h;have h:=h.resolve_right (fun h=>I h.2);refine⟨fun f _=>trivial,?_⟩;rw [Oper.semAt_eq _ _ _ (noDefer_spec K F)];exact uponIn_wide h
  rename_i E
  rw [qo E] at h;exact⟨fun f _=>trivial,h⟩
theorem ZeG {F:Region.Mode} {z:Array Oper} {Q:Exit->Act->World->Prop} (I:ZfH z=true) (H:¬ LetsOut Q):∀ (l:Nat) (E:Array Bool) (a:Act) (w:World),wpAny P F z Q l E a w->wpAnyIn (Fence.wide.inRound n) k P F z Q l E a w
 | 0,_,_,_,h=>h
 | l+1,E,a,w,h=>⟨h.1,fun i M=>wpOpIn_wide I H (wpOp_mono (fun L w' K=>ZeG I H l _ L w' K) (h.2 i M))⟩
theorem ZdO {z:Array Oper} {a:Exit->Act->World->Prop} (S:World->Prop) (d id:Nat) (E:Array Bool) (F:P.follows .mixedOrders=true) (L:z.size=id) (K:Array.replicate z.size false=E) (I:ZfH z=true) (H:¬ LetsOut a)
 (h:AnyL P .any z a S d id E Q w.drew):(Code.region m z true).wpIn (Fence.wide.inRound n) k P a Q w :=
 wpIn_region_any F (ZeG I H _ _ _ _ (anyL_any _ _ _ _ (by rw [K,L];exact h)))
theorem Zkr {z:Fence} {c:Code} {a:Exit->Act->World->Prop} (F:¬ LetsOut a) (E:∀ c Q d v w,a (.panic c) (Act.put Q d v) w->a (.panic c) Q w) (h:∀ Q',Hid (Q'=a)->Hid (∀ c Q d v w,Q' (.panic c) (Act.put Q d v) w->Q' (.panic c) Q w)->Hid (¬ LetsOut Q')->c.wpIn z n P Q' Q w):c.wpIn z n P a Q w:=h a (hI rfl) (hI E) (hI F)
end Go.Proofs.YtjadnfodboepeaaGreat
