/- Parts of a proof: what its theorem reaches, words cut short. No condition of its own. -/
import Derived.Test.YtingnldfpokckaaGreatPm25
import Derived.Shelf.SortM.Plain
import Derived.Shelf.SortM.SortNone
import Derived.Shelf.SlicesG.SearchI
import Derived.Shelf.SlicesG.Clone
import Derived.Shelf.SlSortCmp.WholeK
set_option maxRecDepth 100000
set_option maxHeartbeats 16000000
set_option linter.unusedVariables false
set_option linter.unusedSimpArgs false
namespace Go.Proofs.YtingnldfpokckaaGreat.D
open Go.RowKit Go.Lib
theorem two_le{a b:Nat}(h:a<=b):2 ^ a<=2 ^ b:=Nat.pow_le_pow_right (by omega) h
theorem two_63{n:Nat}(h:n<=63):0<2 ^ n/\2 ^ n<=9223372036854775808:=⟨Nat.two_pow_pos n,two_le h⟩
theorem rpower_any(n:Nat)(w:World)(h:n<=63):Calls Tryz.prog 159 #[.int .i64 n] w fun e w'=>e=.returned (.int .u64 ((2 ^ n:Nat):Int))/\w=w':=by
 obtain⟨R,hR⟩:∃R,2 ^ n=R:=⟨_,rfl⟩
 have HR:=Lib.hid hR
 rw[hR]
 clear hR
 go_enter Tryz.func159,Tryz.ntmps159
 go_wp2_with fail
 go_loopg [3,4] n (fun q p x wr=>(∃j:Nat,q=n - j/\j<=n/\x=.int .i64 j/\p=.int .u64 ((2 ^ j:Nat):Int))/\w=wr)
 case atStart=>exact⟨⟨0,rfl,by omega,rfl,rfl⟩,rfl⟩
 case round=>
  obtain⟨⟨j,hq,hj,rfl,rfl⟩,rfl⟩:=hrel
  have HQ:=Lib.hid hq
  clear hq
  by_cases hlt:j<n
  ·have hji:(j:Int)<(n:Int):=by omega
   have HP:=Lib.hid (two_63 (n:=j+1) (by omega))
   have HS:Hid (2 ^ (j+1)=2 * 2 ^ j):=Lib.hid (by rw[Nat.pow_succ];omega)
   rw[HS.out] at HP
   generalize 2 ^ j=p at *
   have hp:=HP.out
   go_wp2_with fail
   go_roundg (n - (j+1))
   case measure=>have:=HQ.out;omega
   case rel=>exact⟨⟨j+1,rfl,by omega,by go_num,by rw[HS.out];go_num⟩,rfl⟩
  ·obtain rfl:j=n:=by omega
   rw[HR.out]
   go_wp2_with fail
   go_ret
   exact⟨rfl,rfl⟩
theorem rbucket_any(u m v:Nat)(w:World)(hu:u+m<=62)(hv:v<9223372036854775808):Calls Tryz.prog 88 #[.int .i64 u,.int .i64 m,.int .i64 v] w fun e w'=>e=.returned (.int .i64 (bkN u m v))/\w=w':=by
 have HM:=Lib.hid (bk_max (u:=u) (m:=m) hv)
 have HL:Hid (∀j,bkN u m v<=j<->v<2 ^ (u+m+j)):=Lib.hid (fun j=>bk_le (by omega))
 have hmx:=HM.out
 generalize bkN u m v=B at *
 go_enter Tryz.func88,Tryz.ntmps88
 go_wp2_with fail
 go_loopg [7] B (fun q x wr=>(∃j:Nat,q=B - j/\j<=B/\x=.int .i64 j)/\w=wr)
 case atStart=>exact⟨⟨0,rfl,by omega,rfl⟩,rfl⟩
 case round=>
  obtain⟨⟨j,hq,hj,rfl⟩,rfl⟩:=hrel
  have HQ:=Lib.hid hq
  clear hq
  obtain⟨t,ht⟩:∃t,u+m=t:=⟨_,rfl⟩
  obtain⟨s,hs⟩:∃s,u+m+j=s:=⟨_,rfl⟩
  have e1:IntKind.i64.wrap ((u:Int)+(m:Int))=(t:Int):=by rw[IntKind.wrap_i64];omega
  have e2:IntKind.i64.wrap ((t:Int)+(j:Int))=(s:Int):=by rw[IntKind.wrap_i64];omega
  have ev:IntKind.u64.wrap (v:Int)=(v:Int):=by rw[u64w];omega
  have hl:=HL.out j
  rw[hs] at hl
  by_cases hlt:j<B
  ·have h63:(s:Int)<63:=by omega
   have CP:=Lib.hid (rpower_any s w (by omega))
   have hge:2 ^ s<=v:=by
    rcases Nat.lt_or_ge v (2 ^ s) with h|h
    ·have:=hl.2 h;omega
    ·exact h
   obtain⟨P,hP⟩:∃P,2 ^ s=P:=⟨_,rfl⟩
   rw[hP] at CP hge
   have hge':(P:Int)<=(v:Int):=by omega
   have hj63:j<63:=by omega
   clear hP hs ht hl hmx hge HL HM
   go_wp2_with (go_at_call 159;refine(CP.out).mono ?_;rintro e w' ⟨rfl,rfl⟩)
   go_roundg (B - (j+1))
   case measure=>have:=HQ.out;omega
   case rel=>exact⟨⟨j+1,rfl,by omega,by go_num⟩,rfl⟩
  ·obtain rfl:j=B:=by omega
   by_cases h63:(s:Int)<63
   ·have CP:=Lib.hid (rpower_any s w (by omega))
    have hlt':=hl.1 (Nat.le_refl _)
    obtain⟨P,hP⟩:∃P,2 ^ s=P:=⟨_,rfl⟩
    rw[hP] at CP hlt'
    have hge':¬(P:Int)<=(v:Int):=by omega
    clear hP hs ht hl hmx hlt' HL HM
    go_wp2_with (go_at_call 159;refine(CP.out).mono ?_;rintro e w' ⟨rfl,rfl⟩)
    go_ret
    exact⟨rfl,rfl⟩
   ·clear hs ht hl hmx HL HM
    go_wp2_with fail
    go_ret
    exact⟨rfl,rfl⟩
def topN(u m n:Nat):Nat:=if 63<=n - 1+u+m then 9223372036854775807 else 2 ^ (n - 1+u+m) - 1
theorem rtop_any(u m n:Nat)(w:World)(hu:u+m<=62)(n0:1<=n)(n1:n<=64):Calls Tryz.prog 154 #[.int .i64 u,.int .i64 m,.int .i64 n] w fun e w'=>e=.returned (.int .i64 (topN u m n))/\w=w':=by
 have HT:Hid (topN u m n=if 63<=n - 1+u+m then 9223372036854775807 else 2 ^ (n - 1+u+m) - 1):=Lib.hid rfl
 rw[HT.out]
 obtain⟨k,rfl⟩:∃k,n=k+1:=⟨n - 1,by omega⟩
 simp only[Nat.add_sub_cancel] at HT |-
 obtain⟨t,ht⟩:∃t,k+u=t:=⟨_,rfl⟩
 obtain⟨s,hs⟩:∃s,k+u+m=s:=⟨_,rfl⟩
 have e1:IntKind.i64.wrap ((k:Int)+(u:Int))=(t:Int):=by rw[IntKind.wrap_i64];omega
 have e2:IntKind.i64.wrap ((t:Int)+(m:Int))=(s:Int):=by rw[IntKind.wrap_i64];omega
 have ek:IntKind.i64.wrap (k:Int)=(k:Int):=by rw[IntKind.wrap_i64];omega
 have em:max ((k:Int)+1) 1=(k:Int)+1:=by omega
 have em2:min ((k:Int)+1) 64=(k:Int)+1:=by omega
 rw[hs]
 by_cases h63:63<=s
 ·have hge:(63:Int)<=(s:Int):=by omega
  rw[if_pos h63]
  clear HT ht hs
  go_enter Tryz.func154,Tryz.ntmps154
  go_wp2_with fail
  go_ret
  exact⟨by simp,rfl⟩
 ·have hge:¬(63:Int)<=(s:Int):=by omega
  rw[if_neg h63]
  have CP:=Lib.hid (rpower_any s w (by omega))
  have hp:2 ^ s<=2 ^ 62:=two_le (by omega)
  have h0:=Nat.two_pow_pos s
  generalize 2 ^ s=P at *
  have hp':P<=4611686018427387904:=hp
  have eP:IntKind.i64.wrap (P:Int)=(P:Int):=by rw[IntKind.wrap_i64];omega
  have eP1:IntKind.i64.wrap ((P:Int) - 1)=(P:Int) - 1:=by rw[IntKind.wrap_i64];omega
  have efin:(((P - 1:Nat)):Int)=(P:Int) - 1:=by omega
  rw[efin]
  clear HT ht hs hp efin
  go_enter Tryz.func154,Tryz.ntmps154
  go_wp2_with fail
  refine(CP.out).mono ?_
  rintro e w' ⟨rfl,rfl⟩
  go_wp2_with fail
  go_ret
  exact⟨rfl,rfl⟩
end Go.Proofs.YtingnldfpokckaaGreat.D
namespace Go.Proofs
open Go.Shelf
def Tryz.len64L_ren:Go.Shelf.Ren:=⟨fun|129=>177|n=>n,fun|53=>41|3=>3|4=>4|46=>166|5=>5|9=>9|n=>n,fun|n=>n⟩
theorem Tryz.len64L:Go.Proofs.Lays.n129 Tryz.prog Tryz.len64L_ren:={
 mixed:=by kernel_rfl
 f129:=Tryz.func177.trans (congrArg some (by kernel_rfl))
 t3:=Tryz.underlying3
 a3:=Tryz.isAgg3
 z3:=Tryz.sizeOf3
 v3:=Tryz.zeroValue3
 t4:=Tryz.underlying4
 a4:=Tryz.isAgg4
 z4:=Tryz.sizeOf4
 v4:=Tryz.zeroValue4
 t5:=Tryz.underlying5
 a5:=Tryz.isAgg5
 z5:=Tryz.sizeOf5
 v5:=Tryz.zeroValue5
 t9:=Tryz.underlying9
 a9:=Tryz.isAgg9
 z9:=Tryz.sizeOf9
 v9:=Tryz.zeroValue9
 t46:=Tryz.underlying166
 a46:=Tryz.isAgg166
 z46:=Tryz.sizeOf166
 v46:=Tryz.zeroValue166
 t53:=Tryz.underlying41
 a53:=Tryz.isAgg41
 z53:=Tryz.sizeOf41
 v53:=Tryz.zeroValue41}
def Tryz.sortM_ren:Go.Shelf.Ren:=⟨fun|5=>148|8=>102|7=>238|19=>176|20=>177|10=>304|11=>305|12=>306|13=>307|14=>308|15=>309|16=>310|17=>311|18=>312|30=>373|31=>256|32=>257|33=>374|34=>375|35=>376|40=>411|n=>n,fun|23=>143|25=>2|3=>3|32=>166|22=>143|0=>0|44=>48|46=>41|4=>4|36=>259|35=>258|41=>163|5=>5|9=>9|53=>354|57=>357|63=>431|64=>359|n=>n,fun|n=>n⟩
theorem Tryz.sortM:Go.Proofs.SlLaysM.n5 Tryz.prog Tryz.sortM_ren:={
 mixed:=by kernel_rfl
 f5:=⟨Tryz.f148.name,by decide,Tryz.func148.trans (congrArg some (by kernel_rfl))⟩
 f7:=⟨Tryz.f238.name,by decide,Tryz.func238.trans (congrArg some (by kernel_rfl))⟩
 f8:=Tryz.func102.trans (congrArg some (by kernel_rfl))
 f10:=⟨Tryz.f304.name,by decide,Tryz.func304.trans (congrArg some (by kernel_rfl))⟩
 f11:=⟨Tryz.f305.name,by decide,Tryz.func305.trans (congrArg some (by kernel_rfl))⟩
 f12:=⟨Tryz.f306.name,by decide,Tryz.func306.trans (congrArg some (by kernel_rfl))⟩
 f13:=⟨Tryz.f307.name,by decide,Tryz.func307.trans (congrArg some (by kernel_rfl))⟩
 f14:=⟨Tryz.f308.name,by decide,Tryz.func308.trans (congrArg some (by kernel_rfl))⟩
 f15:=⟨Tryz.f309.name,by decide,Tryz.func309.trans (congrArg some (by kernel_rfl))⟩
 f16:=⟨Tryz.f310.name,by decide,Tryz.func310.trans (congrArg some (by kernel_rfl))⟩
 f17:=⟨Tryz.f311.name,by decide,Tryz.func311.trans (congrArg some (by kernel_rfl))⟩
 f18:=⟨Tryz.f312.name,by decide,Tryz.func312.trans (congrArg some (by kernel_rfl))⟩
 f19:=Tryz.func176.trans (congrArg some (by kernel_rfl))
 f20:=Tryz.func177.trans (congrArg some (by kernel_rfl))
 f30:=⟨Tryz.f373.name,by decide,Tryz.func373.trans (congrArg some (by kernel_rfl))⟩
 f31:=Tryz.func256.trans (congrArg some (by kernel_rfl))
 f32:=Tryz.func257.trans (congrArg some (by kernel_rfl))
 f33:=⟨Tryz.f374.name,by decide,Tryz.func374.trans (congrArg some (by kernel_rfl))⟩
 f34:=⟨Tryz.f375.name,by decide,Tryz.func375.trans (congrArg some (by kernel_rfl))⟩
 f35:=⟨Tryz.f376.name,by decide,Tryz.func376.trans (congrArg some (by kernel_rfl))⟩
 f40:=⟨Tryz.f411.name,by decide,Tryz.func411.trans (congrArg some (by kernel_rfl))⟩
 t0:=Tryz.underlying0
 a0:=Tryz.isAgg0
 z0:=Tryz.sizeOf0
 v0:=Tryz.zeroValue0
 t3:=Tryz.underlying3
 a3:=Tryz.isAgg3
 z3:=Tryz.sizeOf3
 v3:=Tryz.zeroValue3
 t4:=Tryz.underlying4
 a4:=Tryz.isAgg4
 z4:=Tryz.sizeOf4
 v4:=Tryz.zeroValue4
 t5:=Tryz.underlying5
 a5:=Tryz.isAgg5
 z5:=Tryz.sizeOf5
 v5:=Tryz.zeroValue5
 t9:=Tryz.underlying9
 a9:=Tryz.isAgg9
 z9:=Tryz.sizeOf9
 v9:=Tryz.zeroValue9
 t22:=Tryz.underlying143
 a22:=Tryz.isAgg143
 z22:=Tryz.sizeOf143
 v22:=Tryz.zeroValue143
 t23:=Tryz.underlying143
 a23:=Tryz.isAgg143
 z23:=Tryz.sizeOf143
 v23:=Tryz.zeroValue143
 t25:=Tryz.underlying2
 a25:=Tryz.isAgg2
 z25:=Tryz.sizeOf2
 v25:=Tryz.zeroValue2
 t32:=Tryz.underlying166
 a32:=Tryz.isAgg166
 z32:=Tryz.sizeOf166
 v32:=Tryz.zeroValue166
 t35:=Tryz.underlying258
 a35:=Tryz.isAgg258
 z35:=Tryz.sizeOf258
 v35:=Tryz.zeroValue258
 t36:=Tryz.underlying259
 a36:=Tryz.isAgg259
 z36:=Tryz.sizeOf259
 v36:=Tryz.zeroValue259
 t41:=Tryz.underlying163
 a41:=Tryz.isAgg163
 z41:=Tryz.sizeOf163
 v41:=Tryz.zeroValue163
 t44:=Tryz.underlying48
 a44:=Tryz.isAgg48
 z44:=Tryz.sizeOf48
 v44:=Tryz.zeroValue48
 t46:=Tryz.underlying41
 a46:=Tryz.isAgg41
 z46:=Tryz.sizeOf41
 v46:=Tryz.zeroValue41
 t53:=Tryz.underlying354
 a53:=Tryz.isAgg354
 z53:=Tryz.sizeOf354
 v53:=Tryz.zeroValue354
 t57:=Tryz.underlying357
 a57:=Tryz.isAgg357
 z57:=Tryz.sizeOf357
 v57:=Tryz.zeroValue357
 t63:=Tryz.underlying431
 a63:=Tryz.isAgg431
 z63:=Tryz.sizeOf431
 v63:=Tryz.zeroValue431
 t64:=Tryz.underlying359
 a64:=Tryz.isAgg359
 z64:=Tryz.sizeOf359
 v64:=Tryz.zeroValue359}
def Tryz.sortF_ren:Go.Shelf.Ren:=⟨fun|6=>138|15=>102|14=>233|28=>176|29=>177|20=>290|21=>291|22=>292|23=>293|24=>294|25=>295|26=>296|27=>297|46=>369|47=>256|48=>257|49=>370|50=>371|57=>410|n=>n,fun|22=>133|24=>136|25=>219|3=>3|39=>166|0=>0|53=>48|55=>41|4=>4|46=>259|45=>258|50=>163|5=>5|9=>9|66=>354|70=>357|76=>431|77=>359|n=>n,fun|n=>n⟩
theorem Tryz.sortF:Go.Proofs.SlLaysF0.n6 Tryz.prog Tryz.sortF_ren:={
 mixed:=by kernel_rfl
 f6:=⟨Tryz.f138.name,by decide,Tryz.func138.trans (congrArg some (by kernel_rfl))⟩
 f14:=⟨Tryz.f233.name,by decide,Tryz.func233.trans (congrArg some (by kernel_rfl))⟩
 f15:=Tryz.func102.trans (congrArg some (by kernel_rfl))
 f20:=⟨Tryz.f290.name,by decide,Tryz.func290.trans (congrArg some (by kernel_rfl))⟩
 f21:=⟨Tryz.f291.name,by decide,Tryz.func291.trans (congrArg some (by kernel_rfl))⟩
 f22:=⟨Tryz.f292.name,by decide,Tryz.func292.trans (congrArg some (by kernel_rfl))⟩
 f23:=⟨Tryz.f293.name,by decide,Tryz.func293.trans (congrArg some (by kernel_rfl))⟩
 f24:=⟨Tryz.f294.name,by decide,Tryz.func294.trans (congrArg some (by kernel_rfl))⟩
 f25:=⟨Tryz.f295.name,by decide,Tryz.func295.trans (congrArg some (by kernel_rfl))⟩
 f26:=⟨Tryz.f296.name,by decide,Tryz.func296.trans (congrArg some (by kernel_rfl))⟩
 f27:=⟨Tryz.f297.name,by decide,Tryz.func297.trans (congrArg some (by kernel_rfl))⟩
 f28:=Tryz.func176.trans (congrArg some (by kernel_rfl))
 f29:=Tryz.func177.trans (congrArg some (by kernel_rfl))
 f46:=⟨Tryz.f369.name,by decide,Tryz.func369.trans (congrArg some (by kernel_rfl))⟩
 f47:=Tryz.func256.trans (congrArg some (by kernel_rfl))
 f48:=Tryz.func257.trans (congrArg some (by kernel_rfl))
 f49:=⟨Tryz.f370.name,by decide,Tryz.func370.trans (congrArg some (by kernel_rfl))⟩
 f50:=⟨Tryz.f371.name,by decide,Tryz.func371.trans (congrArg some (by kernel_rfl))⟩
 f57:=⟨Tryz.f410.name,by decide,Tryz.func410.trans (congrArg some (by kernel_rfl))⟩
 t0:=Tryz.underlying0
 a0:=Tryz.isAgg0
 z0:=Tryz.sizeOf0
 v0:=Tryz.zeroValue0
 t3:=Tryz.underlying3
 a3:=Tryz.isAgg3
 z3:=Tryz.sizeOf3
 v3:=Tryz.zeroValue3
 t4:=Tryz.underlying4
 a4:=Tryz.isAgg4
 z4:=Tryz.sizeOf4
 v4:=Tryz.zeroValue4
 t5:=Tryz.underlying5
 a5:=Tryz.isAgg5
 z5:=Tryz.sizeOf5
 v5:=Tryz.zeroValue5
 t9:=Tryz.underlying9
 a9:=Tryz.isAgg9
 z9:=Tryz.sizeOf9
 v9:=Tryz.zeroValue9
 t22:=Tryz.underlying133
 a22:=Tryz.isAgg133
 z22:=Tryz.sizeOf133
 v22:=Tryz.zeroValue133
 t25:=Tryz.underlying219
 a25:=Tryz.isAgg219
 z25:=Tryz.sizeOf219
 v25:=Tryz.zeroValue219
 t39:=Tryz.underlying166
 a39:=Tryz.isAgg166
 z39:=Tryz.sizeOf166
 v39:=Tryz.zeroValue166
 t45:=Tryz.underlying258
 a45:=Tryz.isAgg258
 z45:=Tryz.sizeOf258
 v45:=Tryz.zeroValue258
 t46:=Tryz.underlying259
 a46:=Tryz.isAgg259
 z46:=Tryz.sizeOf259
 v46:=Tryz.zeroValue259
 t50:=Tryz.underlying163
 a50:=Tryz.isAgg163
 z50:=Tryz.sizeOf163
 v50:=Tryz.zeroValue163
 t53:=Tryz.underlying48
 a53:=Tryz.isAgg48
 z53:=Tryz.sizeOf48
 v53:=Tryz.zeroValue48
 t55:=Tryz.underlying41
 a55:=Tryz.isAgg41
 z55:=Tryz.sizeOf41
 v55:=Tryz.zeroValue41
 t66:=Tryz.underlying354
 a66:=Tryz.isAgg354
 z66:=Tryz.sizeOf354
 v66:=Tryz.zeroValue354
 t70:=Tryz.underlying357
 a70:=Tryz.isAgg357
 z70:=Tryz.sizeOf357
 v70:=Tryz.zeroValue357
 t76:=Tryz.underlying431
 a76:=Tryz.isAgg431
 z76:=Tryz.sizeOf431
 v76:=Tryz.zeroValue431
 t77:=Tryz.underlying359
 a77:=Tryz.isAgg359
 z77:=Tryz.sizeOf359
 v77:=Tryz.zeroValue359}
end Go.Proofs
namespace Go.Proofs.YtingnldfpokckaaGreat.D
open Go.RowKit Go.Lib Go.Shelf
def MpAt(w:World)(g:Nat)(lo hi dg:Int)(u m:Nat):Prop:=Blk w g 211 #[.int .i64 lo,.int .i64 hi,.int .i64 dg,.int .i64 u,.int .i64 m]
section
variable {g u m : Nat} {lo hi dg : Int} {w : World}
theorem len64_any(x:Nat)(w:World)(h:x<18446744073709551616):Calls Tryz.prog 177 #[.int .u64 x] w fun e w'=>e=.returned (.int .i64 (Lib.bitLen x))/\w=w':=by
 refine(Any.bits_Len64 Tryz.len64L (x:Int) w (by omega) (by omega)).mono ?_
 rintro e w' ⟨rfl,rfl⟩
 exact⟨by simp,rfl⟩
theorem mbucket_any(v:Nat)(h:MpAt w g lo hi dg u m)(hu:u+m<=62)(hv:v<9223372036854775808):Calls Tryz.prog 263 #[.pointer (some ⟨g,0,none⟩),.int .i64 v] w fun e w'=>e=.returned (.int .i64 (bkN u m v))/\Below w.heap.size w w':=by
 have CL:Hid (∀w,_):=Lib.hid (fun w=>len64_any v w (by omega))
 have hb:Lib.bitLen v<=63:=(bit_le (by omega)).2 (by simpa using hv)
 have HB:Hid (bkN u m v=Lib.bitLen v - (u+m)):=Lib.hid rfl
 rw[HB.out]
 generalize Lib.bitLen v=B at *
 have HM:=Lib.hid h
 have hg:g<w.heap.size:=Blk.lt h
 have EV:Hid (IntKind.u64.wrap (v:Int)=(v:Int)):=Lib.hid (by rw[u64w];omega)
 have E1:Hid (IntKind.i64.wrap ((B:Int) - (u:Int))=(B:Int) - (u:Int)):=Lib.hid (by rw[IntKind.wrap_i64];omega)
 have E2:Hid (IntKind.i64.wrap ((B:Int) - (u:Int) - (m:Int))=(B:Int) - (u:Int) - (m:Int)):=Lib.hid (by rw[IntKind.wrap_i64];omega)
 clear h HB
 go_enter Tryz.func263,Tryz.ntmps263
 go_wp2_with fail
 refine wp_region_plan (Below w.heap.size w) [(0,true),(1,true),(3,true),(4,true),(5,true),(6,true),(8,true),(9,true),(10,true),(11,true),(2,false),(7,true),(12,true),(13,true),(14,true)] (by kernel_rfl) (by kernel_rfl) ((Below.refl _ _).drew) ?_
 iterate 10
  refine wpPlan_read (by rfl) (by rfl) (fun R hR=>?_)
  apply Exists.intro
  refine⟨fun w' hS'=>?_,?_⟩
  ·have k3:=(Blk.keep HM.out hS').cell 3
   have k4:=(Blk.keep HM.out hS').cell 4
   have ev:=EV.out
   have e1:=E1.out
   have e2:=E2.out
   simp only[List.getElem?_toArray,List.getElem?_cons_zero,List.getElem?_cons_succ] at k3 k4
   go_simp
   exact⟨rfl,rfl⟩
  go_simp
  refine hR _ ?_
  clear hR R
 refine wpPlan_do (by rfl) (by rfl) (fun K hK=>?_)
 go_simp
 refine(CL.out w.drew).mono ?_
 rintro e w3 ⟨rfl,rfl⟩
 refine hK _ _ ((Below.refl _ _).drew) ?_
 clear hK K
 iterate 4
  refine wpPlan_read (by rfl) (by rfl) (fun R hR=>?_)
  apply Exists.intro
  refine⟨fun w' hS'=>?_,?_⟩
  ·have k3:=(Blk.keep HM.out hS').cell 3
   have k4:=(Blk.keep HM.out hS').cell 4
   have ev:=EV.out
   have e1:=E1.out
   have e2:=E2.out
   simp only[List.getElem?_toArray,List.getElem?_cons_zero,List.getElem?_cons_succ] at k3 k4
   go_simp
   exact⟨rfl,rfl⟩
  go_simp
  refine hR _ ?_
  clear hR R
 refine wpPlan_nil ?_
 go_wp2_with fail
 go_ret
 refine⟨?_,(Below.refl _ _).drew⟩
 show Ending.returned (Value.int .i64 (max 0 ((B:Int) - (u:Int) - (m:Int))))=Ending.returned (Value.int .i64 (((B - (u+m):Nat)):Int))
 congr 2
 omega
theorem mbuckets_any(v:Nat)(h:MpAt w g lo hi dg u m)(hu:u+m<=62)(hv:v<9223372036854775808):Calls Tryz.prog 180 #[.pointer (some ⟨g,0,none⟩),.int .i64 v] w fun e w'=>e=.returned (.int .i64 ((1+bkN u m v:Nat):Int))/\Below w.heap.size w w':=by
 have CB:=Lib.hid (mbucket_any v h hu hv)
 have HM:=bk_max (u:=u) (m:=m) hv
 have hb:bkN u m v<=63:=by omega
 have hm0:max (v:Int) 0=(v:Int):=by omega
 generalize bkN u m v=b at *
 clear h HM
 go_enter Tryz.func180,Tryz.ntmps180
 go_wp2_with fail
 refine(CB.out).mono ?_
 rintro e w1 ⟨rfl,hb1⟩
 go_wp2_with fail
 go_ret
 exact⟨by simp,hb1⟩
end
open Go.RowKit Go.Lib Go.Shelf
theorem pow10_any(n:Nat)(w:World)(h:n<=5):Calls Tryz.prog 281 #[.int .i64 n] w fun e w'=>e=.returned (.tuple #[.int .u64 ((10 ^ n:Nat):Int),.int .i64 0])/\w=w':=by
 obtain⟨R,hR⟩:∃R,10 ^ n=R:=⟨_,rfl⟩
 have HR:=Lib.hid hR
 rw[hR]
 clear hR
 have HB:Hid (∀j,j<=5->0<10 ^ j/\10 ^ j<=100000):=Lib.hid (fun j h=>⟨Nat.pow_pos (by omega),(Nat.pow_le_pow_right (by omega) h:10 ^ j<=10 ^ 5)⟩)
 go_enter Tryz.func281,Tryz.ntmps281
 go_wp2_with fail
 go_loopg [4,12] n (fun q p x wr=>(∃j:Nat,q=n - j/\j<=n/\x=.int .i64 j/\p=.int .u64 ((10 ^ j:Nat):Int))/\w=wr)
 case atStart=>exact⟨⟨0,rfl,by omega,rfl,rfl⟩,rfl⟩
 case round=>
  obtain⟨⟨j,hq,hj,rfl,rfl⟩,rfl⟩:=hrel
  have HQ:=Lib.hid hq
  clear hq
  by_cases hlt:j<n
  ·have hji:(j:Int)<(n:Int):=by omega
   have hp:=HB.out j (by omega)
   have HS:Hid (10 ^ (j+1)=10 * 10 ^ j):=Lib.hid (by rw[Nat.pow_succ];omega)
   generalize 10 ^ j=p at *
   go_wp2_with fail
   go_roundg (n - (j+1))
   case measure=>have:=HQ.out;omega
   case rel=>exact⟨⟨j+1,rfl,by omega,by go_num,by rw[HS.out];go_num⟩,rfl⟩
  ·obtain rfl:j=n:=by omega
   rw[HR.out]
   go_wp2_with fail
   go_ret2
   exact⟨rfl,rfl⟩
structure HdOk(lo hi dg u m:Nat):Prop where
 d0:1<=dg
 d1:dg<=5
 l0:1<=lo
 h0:2 * lo<=hi
 h1:hi<=9223372036854775807
 ue:u=Lib.bitLen lo - 1
 me:m=Lib.bitLen (2 * 10 ^ dg - 1)
 um:u+m<=62
theorem mag_bd{dg:Nat}(d1:dg<=5):1<=Lib.bitLen (2 * 10 ^ dg - 1)/\Lib.bitLen (2 * 10 ^ dg - 1)<=18:=by
 have h:∀d:Fin 6,1<=Lib.bitLen (2 * 10 ^ d.val - 1)/\Lib.bitLen (2 * 10 ^ d.val - 1)<=18:=by decide +kernel
 exact h ⟨dg,by omega⟩
theorem mnew_any{lo hi dg u m:Nat}(w:World)(ok:HdOk lo hi dg u m):Calls Tryz.prog 207 #[.agg #[.int .i64 lo,.int .i64 hi,.int .i64 dg]] w fun e w'=>∃g,e=.returned (.tuple #[.pointer (some ⟨g,0,none⟩),.int .i64 0])/\w.heap.size<=g/\MpAt w' g lo hi dg u m/\Below w.heap.size w w':=by
 obtain⟨d0,d1,l0,h0,h1,ue,me,um⟩:=ok
 have hmb:=mag_bd d1
 have hlb:1<=Lib.bitLen lo:=(bit_gt (x:=lo) (k:=0) (by omega)).2 (by simpa using l0)
 have hlb2:Lib.bitLen lo<=63:=(bit_le (by omega)).2 (by omega)
 have hten:10 ^ dg<=100000:=(Nat.pow_le_pow_right (by omega) d1:10 ^ dg<=10 ^ 5)
 have hten0:0<10 ^ dg:=Nat.pow_pos (by omega)
 have CP:=fun w=>Lib.hid (pow10_any dg w d1)
 have C1:=fun w=>Lib.hid (len64_any lo w (by omega))
 have C2:=fun w=>Lib.hid (len64_any (2 * 10 ^ dg - 1) w (by omega))
 rw[<-me] at C2 hmb
 generalize 10 ^ dg=T at *
 generalize Lib.bitLen lo=B at *
 obtain⟨N,hN⟩:∃N,2 * T - 1=N:=⟨_,rfl⟩
 rw[hN] at C2
 obtain rfl:B=u+1:=by omega
 have hq:(hi:Int).tdiv 2=(hi:Int) / 2:=Int.tdiv_eq_ediv_of_nonneg (by omega)
 have c1:¬(hi:Int) / 2<(lo:Int):=by omega
 have c2:¬(dg:Int)<1:=by omega
 have c3:¬(5:Int)<(dg:Int):=by omega
 have c4:¬(lo:Int)<1:=by omega
 have EV:Hid (IntKind.u64.wrap (lo:Int)=(lo:Int)):=Lib.hid (by rw[u64w];omega)
 have EU:Hid (IntKind.i64.wrap (u:Int)=(u:Int)):=Lib.hid (by rw[IntKind.wrap_i64];omega)
 have ET:Hid (IntKind.u64.wrap (2 * (T:Int))=2 * (T:Int)):=Lib.hid (by rw[u64w];omega)
 have EN:Hid (IntKind.u64.wrap (2 * (T:Int) - 1)=(N:Int)):=Lib.hid (by rw[u64w];omega)
 have EN2:Hid (2 * (T:Int) - 1=(N:Int)):=Lib.hid (by omega)
 have c5:¬(62:Int)<(u:Int)+(m:Int):=by omega
 have EUM:Hid (IntKind.i64.wrap ((u:Int)+(m:Int))=(u:Int)+(m:Int)):=Lib.hid (by rw[IntKind.wrap_i64];omega)
 have EN3:Hid (IntKind.u64.wrap (N:Int)=(N:Int)):=Lib.hid (by rw[u64w];omega)
 clear hN ue me hmb hlb hlb2 h0
 go_enter Tryz.func207,Tryz.ntmps207
 go_wp2_with fail
 refine((CP _).out).mono ?_
 rintro e w' ⟨rfl,rfl⟩
 obtain⟨b,hb⟩:∃b,w.heap.size=b:=⟨_,rfl⟩
 obtain⟨w1,hw1⟩:∃w1,w.alloc (.cells #[.int .i64 lo,.int .i64 hi,.int .i64 dg] 23)=w1:=⟨_,rfl⟩
 have hb1:Below w.heap.size w w1:=by rw[<-hw1];(repeat' (first|(with_reducible exact Below.refl _ _)|(with_reducible refine Below.alloc ?_ ?_ _)|(with_reducible refine Below.drew ?_)|(with_reducible refine below_drewN ?_ _)|(with_reducible refine Below.setCell ?_ ?_ _)|(with_reducible refine below_of (by assumption) ?_ ?_)|go_size))
 have B1:Hid (Blk w1 b 23 #[.int .i64 lo,.int .i64 hi,.int .i64 dg]):=by rw[<-hw1,<-hb];exact Lib.hid (Blk.new _ _ _)
 have hbl:=B1.out.lt
 have HBW:=Lib.hid hb
 clear hb
 rw[HBW.out,hw1]
 clear hw1
 go_upto_region 4 with fail
 have c5h:=Lib.hid c5
 clear c1 c2 c3 c4 c5 hq d0 d1 l0 h1 um hten hten0 CP
 refine wp_region_plan (Below w1.heap.size w1) [(0,true),(1,true),(2,true),(3,true),(6,true),(7,true),(8,true),(4,false),(5,true),(9,false),(10,true),(11,false),(12,true)] (by kernel_rfl) (by kernel_rfl) ((Below.refl _ _).drew) ?_
 iterate 7
  refine wpPlan_read (by rfl) (by rfl) (fun R hR=>?_)
  apply Exists.intro
  refine⟨fun w' hS'=>?_,?_⟩
  ·have k0:=(B1.out.keep hS').cell 0
   have k1:=(B1.out.keep hS').cell 1
   have k2:=(B1.out.keep hS').cell 2
   have ev:=EV.out
   have eu:=EU.out
   have et:=ET.out
   have en2:=EN2.out
   have en3:=EN3.out
   simp only[List.getElem?_toArray,List.getElem?_cons_zero,List.getElem?_cons_succ] at k0 k1 k2
   go_simp
   exact⟨rfl,rfl⟩
  go_simp
  refine hR _ ?_
  clear hR R
 refine wpPlan_do (by rfl) (by rfl) (fun K hK=>?_)
 go_simp
 refine((C1 w1.drew).out).mono ?_
 rintro e w3 ⟨rfl,rfl⟩
 refine hK _ _ ((Below.refl _ _).drew) ?_
 clear hK K
 iterate 1
  refine wpPlan_read (by rfl) (by rfl) (fun R hR=>?_)
  apply Exists.intro
  refine⟨fun w' hS'=>?_,?_⟩
  ·have k0:=(B1.out.keep hS').cell 0
   have k1:=(B1.out.keep hS').cell 1
   have k2:=(B1.out.keep hS').cell 2
   have ev:=EV.out
   have eu:=EU.out
   have et:=ET.out
   have en2:=EN2.out
   have en3:=EN3.out
   simp only[List.getElem?_toArray,List.getElem?_cons_zero,List.getElem?_cons_succ] at k0 k1 k2
   go_simp
   exact⟨rfl,rfl⟩
  go_simp
  refine hR _ ?_
  clear hR R
 refine wpPlan_do (by rfl) (by rfl) (fun K hK=>?_)
 go_simp
 refine((C2 w1.drew).out).mono ?_
 rintro e w3 ⟨rfl,rfl⟩
 refine hK _ _ ((Below.refl _ _).drew) ?_
 clear hK K
 iterate 1
  refine wpPlan_read (by rfl) (by rfl) (fun R hR=>?_)
  apply Exists.intro
  refine⟨fun w' hS'=>?_,?_⟩
  ·have k0:=(B1.out.keep hS').cell 0
   have k1:=(B1.out.keep hS').cell 1
   have k2:=(B1.out.keep hS').cell 2
   have ev:=EV.out
   have eu:=EU.out
   have et:=ET.out
   have en2:=EN2.out
   have en3:=EN3.out
   simp only[List.getElem?_toArray,List.getElem?_cons_zero,List.getElem?_cons_succ] at k0 k1 k2
   go_simp
   exact⟨rfl,rfl⟩
  go_simp
  refine hR _ ?_
  clear hR R
 refine wpPlan_do (by rfl) (by rfl) (fun K hK=>?_)
 go_simp
 refine hK _ _ (((Below.refl _ _).drew).alloc (Nat.le_refl _) _) ?_
 clear hK K
 iterate 1
  refine wpPlan_read (by rfl) (by rfl) (fun R hR=>?_)
  apply Exists.intro
  refine⟨fun w' hS'=>?_,?_⟩
  ·have k0:=(B1.out.keep hS').cell 0
   have k1:=(B1.out.keep hS').cell 1
   have k2:=(B1.out.keep hS').cell 2
   have ev:=EV.out
   have eu:=EU.out
   have et:=ET.out
   have en2:=EN2.out
   have en3:=EN3.out
   simp only[List.getElem?_toArray,List.getElem?_cons_zero,List.getElem?_cons_succ] at k0 k1 k2
   go_simp
   exact⟨rfl,rfl⟩
  go_simp
  refine hR _ ?_
  clear hR R
 refine wpPlan_nil ?_
 have hz1:=hb1.size
 obtain⟨w4,hw4⟩:∃w4,(w1.alloc (.cells #[.int .i64 lo,.int .i64 hi,.int .i64 dg,.int .i64 u,.int .i64 m] 211)).drew=w4:=⟨_,rfl⟩
 have hb4:Below w1.heap.size w1 w4:=by rw[<-hw4];exact((Below.refl _ _).alloc (Nat.le_refl _) _).drew
 have B4:MpAt w4 w1.heap.size lo hi dg u m:=by unfold MpAt;rw[<-hw4];exact(Blk.new _ _ _:Blk (w1.alloc _) _ _ _).drew
 go_upto_region 5 with fail
 have k3:=Blk.cell B4 3
 have k4:=Blk.cell B4 4
 simp only[List.getElem?_toArray,List.getElem?_cons_zero,List.getElem?_cons_succ] at k3 k4
 have c5:=c5h.out
 have eum:=EUM.out
 go_quiet (fail)
 go_wp2_with fail
 go_ret2
 subst hw4
 exact⟨_,rfl,hz1,Blk.drewN B4 _,below_drewN (hb1.trans (hb4.mono hz1)) _⟩
open Go.RowKit Go.Lib Go.Shelf
theorem unit_step{lo B j:Nat}(hl:1<=lo)(h63:lo<9223372036854775808)(hB:B=Lib.bitLen lo - 1)(h:j<=B):(1<lo / 2 ^ j<->j<B):=by
 have hp:=Nat.two_pow_pos j
 have e:1<lo / 2 ^ j<->2 ^ (j+1)<=lo:=by
  rw[Nat.lt_iff_add_one_le,Nat.le_div_iff_mul_le hp,Nat.pow_succ,Nat.mul_comm (2 ^ j)]
 rw[e,<-bit_gt (by omega)]
 omega
theorem mag_step{N M j:Nat}(h:N<18446744073709551616)(hM:M=Lib.bitLen N)(hj:j<=M):(2 ^ j<N+1<->j<M):=by
 rw[hM,bit_gt h]
 omega
theorem rshape_any{lo hi dg u m:Nat}(w:World)(ok:HdOk lo hi dg u m):Calls Tryz.prog 23 #[.agg #[.int .i64 lo,.int .i64 hi,.int .i64 dg]] w fun e w'=>e=.returned (.tuple #[.int .i64 u,.int .i64 m,.bool true])/\Below w.heap.size w w':=by
 obtain⟨d0,d1,l0,h0,h1,ue,me,um⟩:=ok
 have hmb:=mag_bd d1
 rw[<-me] at hmb
 have hT:∀j,j<=5->0<10 ^ j/\10 ^ j<=100000:=fun j h=>⟨Nat.pow_pos (by omega),(Nat.pow_le_pow_right (by omega) h:10 ^ j<=10 ^ 5)⟩
 have HT:=Lib.hid hT
 have hten:=hT dg d1
 have HU:Hid (∀j,j<=u->(1<lo / 2 ^ j<->j<u)):=Lib.hid (fun j h=>unit_step l0 (by omega) ue h)
 have HM:Hid (∀j,j<=m->(2 ^ j<2 * 10 ^ dg<->j<m)):=Lib.hid (fun j h=>by
  have:=mag_step (N:=2 * 10 ^ dg - 1) (j:=j) (by omega) me h
  rw[show 2 * 10 ^ dg - 1+1=2 * 10 ^ dg by omega] at this
  exact this)
 have c1:¬(hi:Int)<(lo:Int):=by omega
 have c6:IntKind.i64.wrap ((hi:Int) - (lo:Int))=(hi:Int) - (lo:Int):=by rw[IntKind.wrap_i64];omega
 have c7:¬(hi:Int) - (lo:Int)<(lo:Int):=by omega
 have c2:¬(dg:Int)<1:=by omega
 have c3:¬(5:Int)<(dg:Int):=by omega
 have c4:¬(lo:Int)<1:=by omega
 clear hT ue me
 go_enter Tryz.func23,Tryz.ntmps23
 go_wp2_with fail
 obtain⟨b,hb⟩:∃b,w.heap.size=b:=⟨_,rfl⟩
 obtain⟨w1,hw1⟩:∃w1,w.alloc (.cells #[.int .i64 lo,.int .i64 hi,.int .i64 dg] 23)=w1:=⟨_,rfl⟩
 have hb1:Below w.heap.size w w1:=by rw[<-hw1];(repeat' (first|(with_reducible exact Below.refl _ _)|(with_reducible refine Below.alloc ?_ ?_ _)|(with_reducible refine Below.drew ?_)|(with_reducible refine below_drewN ?_ _)|(with_reducible refine Below.setCell ?_ ?_ _)|(with_reducible refine below_of (by assumption) ?_ ?_)|go_size))
 have B1:Hid (Blk w1 b 23 #[.int .i64 lo,.int .i64 hi,.int .i64 dg]):=by rw[<-hw1,<-hb];exact Lib.hid (Blk.new _ _ _)
 rw[hb,hw1]
 have k2:=B1.out.cell 2
 simp only[List.getElem?_toArray,List.getElem?_cons_zero,List.getElem?_cons_succ] at k2
 clear hw1 hb c1 c2 c3 c4 c6 c7
 go_loopg [5,6] u (fun q x y wr=>(∃j:Nat,q=u - j/\j<=u/\x=.int .i64 j/\y=.int .i64 ((lo / 2 ^ j:Nat):Int))/\w1=wr)
 case atStart=>exact⟨⟨0,by omega,by omega,rfl,by simp⟩,rfl⟩
 case round=>
  obtain⟨⟨j,hq,hj,rfl,rfl⟩,rfl⟩:=hrel
  have HQ:=Lib.hid hq
  clear hq
  have hs:=HU.out j hj
  have HN:Hid (lo / 2 ^ j / 2=lo / 2 ^ (j+1)):=Lib.hid (by rw[Nat.div_div_eq_div_mul,Nat.pow_succ])
  have hnl:lo / 2 ^ j<=lo:=Nat.div_le_self ..
  generalize lo / 2 ^ j=n at *
  by_cases hlt:j<u
  ·have hn:(1:Int)<(n:Int):=by have:=hs.2 hlt;omega
   have hdv:(n:Int).tdiv 2=(n:Int) / 2:=Int.tdiv_eq_ediv_of_nonneg (by omega)
   have hn9:n<9223372036854775808:=by omega
   go_wp2_with fail
   go_roundg (u - (j+1))
   case measure=>have:=HQ.out;omega
   case rel=>exact⟨⟨j+1,rfl,by omega,by go_num,by rw[<-HN.out];simp⟩,rfl⟩
  ·obtain rfl:j=u:=by omega
   have hn:¬(1:Int)<(n:Int):=fun h=>by have:=hs.1 (by omega);omega
   clear hs HN HU hnl
   go_wp2_with fail
   go_loopg [7,8] dg (fun q x y wr=>(∃i:Nat,q=dg - i/\i<=dg/\y=.int .i64 i/\x=.int .u64 ((2 * 10 ^ i:Nat):Int))/\w1=wr)
   case atStart=>exact⟨⟨0,by omega,by omega,rfl,rfl⟩,rfl⟩
   case round=>
    obtain⟨⟨i,hq,hi2,rfl,rfl⟩,rfl⟩:=hrel
    have HQ2:=Lib.hid hq
    clear hq
    by_cases hlt2:i<dg
    ·have hii:(i:Int)<(dg:Int):=by omega
     have hp:=HT.out i (by omega)
     have HS:Hid (2 * 10 ^ (i+1)=10 * (2 * 10 ^ i)):=Lib.hid (by rw[Nat.pow_succ];omega)
     obtain⟨P,hP⟩:∃P,2 * 10 ^ i=P:=⟨_,rfl⟩
     have hPb:0<P/\P<=200000:=by omega
     rw[hP] at HS |-
     clear hp hP hten
     go_wp2_with fail
     go_roundg (dg - (i+1))
     case measure=>have:=HQ2.out;omega
     case rel=>exact⟨⟨i+1,rfl,by omega,by go_num,by rw[HS.out];go_num⟩,rfl⟩
    ·obtain rfl:i=dg:=by omega
     obtain⟨N,hN⟩:∃N,2 * 10 ^ i=N:=⟨_,rfl⟩
     rw[hN] at HM |-
     have hNb:N<=200000:=by omega
     clear hN hten
     go_wp2_with fail
     go_loopg [9,10] m (fun q x y wr=>(∃t:Nat,q=m - t/\t<=m/\x=.int .i64 t/\y=.int .u64 ((2 ^ t:Nat):Int))/\w1=wr)
     case atStart=>exact⟨⟨0,by omega,by omega,rfl,rfl⟩,rfl⟩
     case round=>
      obtain⟨⟨t,hq,ht,rfl,rfl⟩,rfl⟩:=hrel
      have HQ3:=Lib.hid hq
      clear hq
      have hs:=HM.out t ht
      have h18:2 ^ t<=262144:=(two_le (by omega):2 ^ t<=2 ^ 18)
      have HS:Hid (2 ^ (t+1)=2 * 2 ^ t):=Lib.hid (by rw[Nat.pow_succ];omega)
      generalize 2 ^ t=P at *
      by_cases hlt3:t<m
      ·have hPN:(P:Int)<(N:Int):=by have:=hs.2 hlt3;omega
       go_wp2_with fail
       go_roundg (m - (t+1))
       case measure=>have:=HQ3.out;omega
       case rel=>exact⟨⟨t+1,rfl,by omega,by go_num,by rw[HS.out];go_num⟩,rfl⟩
      ·obtain rfl:t=m:=by omega
       have hPN:¬(P:Int)<(N:Int):=fun h=>by have:=hs.1 (by omega);omega
       have hum:(j:Int)+(t:Int)<=62:=by omega
       have ew:IntKind.i64.wrap ((j:Int)+(t:Int))=(j:Int)+(t:Int):=by rw[IntKind.wrap_i64];omega
       go_wp2_with fail
       refine bodyPost_ret (by simp[results,Tryz.results23,go_sem, *];try rfl) rfl ?_
       exact⟨rfl,hb1⟩
end Go.Proofs.YtingnldfpokckaaGreat.D
