import Derived.Test.YtjadnfodboepeaaGreatKmi
import Derived.Test.YtjadnfodboepeaaGreatKmo
import Derived.Lib.Walk
import Derived.BigQuiet
import Derived.WalkLawsBesides
import Derived.WalkSpells
set_option linter.all false
set_option maxRecDepth 100000
set_option maxHeartbeats 8000000
namespace Go.Proofs.YtjadnfodboepeaaGreat
open Tryz
open Go.RowKit
variable {w:World} {a t:Int} {h hA:ByteArray} {M MA:V}
abbrev vAgg (v:V):Value:=.agg #[.int .i64 v.k,.int .i64 v.i,.string v.t]
def Zaz (n:Int) (w:World) (e:Ending) (w':World):Prop:=e=.returned (.int .i64 n)/\Below w w w'
def ZH (b:Bool) (w:World) (e:Ending) (w':World):Prop:=e=.returned (.bool b)/\Below w w w'
theorem ZeE:Calls prog 211 #[.int .i64 a,.int .i64 t] w fun e w'=>e=.returned (.int .i64 (cmpI a t))/\w=w':=by
 by_cases E:a<t
 .have z:=hI (show cmpI a t=-1 by unfold cmpI;rw [qr E]);go_enter func211,ntmps211
  go_wp2
  go_ret;exact⟨by rw [z];rfl,rfl⟩
 by_cases F:t<a
 .have z:=hI (show cmpI a t=1 by unfold cmpI;rw [qo E,qr F]);go_enter func211,ntmps211
  go_wp2
  go_ret;exact⟨by rw [z];rfl,rfl⟩
 have z:=hI (show cmpI a t=0 by unfold cmpI;rw [qo E,qo F]);go_enter func211,ntmps211
 go_wp2
 go_ret;exact⟨by rw [z];rfl,rfl⟩
theorem Zfc:Calls prog 212 #[.int .i64 a,.int .i64 t] w fun e w'=>e=.returned (.int .i64 (cmpI a t))/\w=w':=by
 by_cases E:a<t
 .have z:=hI (show cmpI a t=-1 by unfold cmpI;rw [qr E]);go_enter func212,ntmps212
  go_wp2
  go_ret;exact⟨by rw [z];rfl,rfl⟩
 by_cases F:t<a
 .have z:=hI (show cmpI a t=1 by unfold cmpI;rw [qo E,qr F]);go_enter func212,ntmps212
  go_wp2
  go_ret;exact⟨by rw [z];rfl,rfl⟩
 have z:=hI (show cmpI a t=0 by unfold cmpI;rw [qo E,qo F]);go_enter func212,ntmps212
 go_wp2
 go_ret;exact⟨by rw [z];rfl,rfl⟩
theorem cmpString_any:Calls prog 250 #[.string h,.string hA] w fun e w'=>e=.returned (.int .i64 (cmpB h hA))/\w=w':=by
 go_enter func250,ntmps250
 go_wp2
 rw [run_callFunc_extern func267 ye ye ye (e:=Extern.BytealgCompare.compare) ye,Lib.run_compareString];simp only [Result.andThen];rw [Oper.upon_value]
 go_wp2
 go_ret;exact⟨rfl,rfl⟩
theorem strCompare_any:Calls prog 213 #[.string h,.string hA] w fun e w'=>e=.returned (.int .i64 (cmpB h hA))/\w=w':=by
 go_enter func213,ntmps213
 go_wp2_with fail
 refine(cmpString_any).mono ?_;rintro e w' ⟨rfl,rfl⟩
 go_wp2
 go_ret;exact⟨rfl,rfl⟩
theorem Zhn (h:a≠t):cmpI a t≠0:=fun e=>h ((cmpI_is.zero a t).1 e)
theorem Zld (h:M.k≠MA.k):cmpV M MA=cmpI M.k MA.k:=by unfold cmpV;rw [qr (Zhn h)]
theorem Zle (z:M.k=MA.k) (h:M.i≠MA.i):cmpV M MA=cmpI M.i MA.i:=by unfold cmpV;rw [qo (by simp [z,cmpI_is.self]),qr (Zhn h)]
theorem Zlc (z:M.k=MA.k) (h:M.i=MA.i):cmpV M MA=cmpB M.t MA.t:=by unfold cmpV;rw [qo (by simp [z,cmpI_is.self]),qo (by simp [h,cmpI_is.self])]
theorem ZbY (t:h≠hA):(h.toList == hA.toList)=false:=by
 rw [qf];intro e;apply t;have z:h.data.toList=hA.data.toList:=(by simpa [ByteArray.toList_eq] using e);cases h;cases hA
 simpa using z
theorem compare_any (a b:V) :Calls prog 159 #[vAgg a,vAgg b] w (Zaz (cmpV a b) w):=by
 have I:=@Zld a b;have L:=@Zle a b;have H:=@Zlc a b;obtain⟨z,E,at_⟩:=a;obtain⟨M,K,aa⟩:=b;dsimp only at I L H;generalize Z:cmpV ⟨z,E,at_⟩ ⟨M,K,aa⟩=af at I L H;have W:=hI (((qa w w).alloc nR (.cells #[.int .i64 z,.int .i64 E,.string at_] 108)).alloc yb (.cells #[.int .i64 M,.int .i64 K,.string aa] 108))
 by_cases R:z=M
 .subst R
  by_cases O:E=K
  .subst O;have F:=hI (H rfl rfl)
   by_cases ac:at_=aa
   .subst ac;clear I L H Z;have U:=hI (cmpB_is.self at_);go_enter func159,ntmps159
    go_wp2
    go_ret;exact⟨by rw [F,U];rfl,W⟩
   have hd:=ZbY ac;clear I L H Z ac;have U:=hI (cmpI_is.self z);have ae:=hI (cmpI_is.self E);go_enter func159,ntmps159
   go_wp2_with fail
   refine(ZeE).mono ?_;rintro e w' ⟨rfl,rfl⟩;rw [U]
   go_wp2_with fail
   refine(Zfc).mono ?_;rintro e w' ⟨rfl,rfl⟩;rw [ae]
   go_wp2_with fail
   refine(strCompare_any).mono ?_;rintro e w' ⟨rfl,rfl⟩
   go_wp2
   go_ret;exact⟨by rw [F];rfl,W⟩
  have F:=hI (L rfl O);have hd:(E == K)=false:=qf.2 O;have N:=Zhn O;have U:=hI (cmpI_is.self z);clear I L H Z O;go_enter func159,ntmps159
  go_wp2_with fail
  refine(ZeE).mono ?_;rintro e w' ⟨rfl,rfl⟩;rw [U]
  go_wp2_with fail
  refine(Zfc).mono ?_;rintro e w' ⟨rfl,rfl⟩;have ab:(cmpI E K != 0)=true:=(by simp [N]);generalize cmpI E K=c at ab N F
  go_wp2
  go_ret;exact⟨by rw [F];rfl,W⟩
 have F:=hI (I R);have hd:(z == M)=false:=qf.2 R;have N:=Zhn R;clear I L H Z R;go_enter func159,ntmps159
 go_wp2_with fail
 refine(ZeE).mono ?_;rintro e w' ⟨rfl,rfl⟩;have ab:(cmpI z M != 0)=true:=(by simp [N]);generalize cmpI z M=c at ab N F
 go_wp2
 go_ret;exact⟨by rw [F];rfl,W⟩
end Go.Proofs.YtjadnfodboepeaaGreat
