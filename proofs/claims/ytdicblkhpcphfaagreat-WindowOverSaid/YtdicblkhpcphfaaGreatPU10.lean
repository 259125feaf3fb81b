/- Parts. -/
import Derived.Test.YtdicblkhpcphfaaGreatPU09
import Derived.Shelf.SortM.Plain
import Derived.Shelf.SortM.SortNone
import Derived.Shelf.SlicesG.SearchI
import Derived.Shelf.SlicesG.Clone
import Derived.Shelf.SlSortCmp.WholeK
import Derived.Laws.CopyRow
import Derived.Lib.AppendZeros
import Derived.Lib.AppendZerosOnto
import Derived.Lib.Overlaps
import Derived.Shelf.RegionOpenPlain
set_option maxRecDepth 100000
set_option maxHeartbeats 0
set_option linter.all false
namespace Go.Proofs.YtdicblkhpcphfaaGreat.D
open Tryz
open _root_.List renaming length→ab0
open Go.IntKind renaming wrap→ad0
open _root_.Go renaming Calls→af4
open Tryz renaming prog→af5
open Go.RowKit Go.Lib
def lY{a b:Nat}(h:a<=b):2 ^ a<=2 ^ b:=bM aa h
def SZ{n:Nat}(h:n<=63):0<2 ^ n/\2 ^ n<=9223372036854775808:=⟨cB n,lY h⟩
def nY(n:Nat)(w:World)(h:n<=63):af4 af5 158 #[af6 n] w λe u=>e=.returned (.int .u64 ((2 ^ n:Nat):Int))/\w=u:=by
 have⟨R,z⟩:=ar (2 ^ n);have v:=ax z;rw[z];clear z;go_in;go_wp2;go_loopg [3,4] n (λq p x wr=>(∃j:Nat,q=n - j/\j<=n/\x=af6 j/\p=.int .u64 ((2 ^ j:Nat):Int))/\w=wr)
 exact⟨⟨0,rfl,aa,rfl,rfl⟩,rfl⟩
 case round=>
  obtain⟨⟨j,z,t,rfl,rfl⟩,rfl⟩:=hrel;have x:=ax z;clear z;by_cases r:j<n
  .have s:(j:Int)<(n:Int):=aa
   have z:=ax (SZ (n:=j+1) aa);have y:=ax (by rw[cC];omega:2 ^ (j+1)=2 * 2 ^ j);rw[y.o] at z;generalize 2 ^ j=p at *;have q:=z.o;go_wp2;go_roundg (n - (j+1))
   exact⟨⟨j+1,rfl,aa,af,by rw[y.o];go_num⟩,rfl⟩;have:=x.o;omega
  .obtain rfl:j=n:=aa
   rw[v.o];go_wp2;go_ret;exact⟨rfl,rfl⟩
def oN(u m v:Nat)(w:World)(O:u+m<=62)(X:v<9223372036854775808):af4 af5 110 #[af6 u,af6 m,af6 v] w λe d=>e=.returned (af6 (jg u m v))/\w=d:=by
 have p:=ax (lU (u:=u) (m:=m) X);have r:Hid (∀j,jg u m v<=j<->v<2 ^ (u+m+j)):=ax (λj=>yn aa);have g:=p.o;generalize jg u m v=B at *;go_in;go_wp2;go_loopg [7] B (λq x wr=>(∃j:Nat,q=B - j/\j<=B/\x=af6 j)/\w=wr)
 exact⟨⟨0,rfl,aa,rfl⟩,rfl⟩
 case round=>
  obtain⟨⟨j,z,S,rfl⟩,rfl⟩:=hrel;have b:=ax z;clear z;have⟨t,f⟩:=ar (u+m);have⟨s,q⟩:=ar (u+m+j);have V:ad0 .i64 ((u:Int)+(m:Int))=(t:Int):=ah;have U:ad0 .i64 ((t:Int)+(j:Int))=(s:Int):=ah;have T:ad0 .u64 (v:Int)=(v:Int):=by rw[iy];omega
  have z:=r.o j;rw[q] at z;by_cases Q:j<B
  .have a:(s:Int)<63:=aa
   have y:=ax (nY s w aa);have c:2 ^ s<=v:=by
    rcases bm v (2 ^ s) with h|h
    .have:=z.2 h;omega
    .exact h
   have⟨P,x⟩:=ar (2 ^ s);rw[x] at y c;have Y:(P:Int)<=(v:Int):=aa;have R:j<63:=aa;clear x q f z g c r p;go_wp2_with (go_at_call 158;refine Ix y.o ?_)
   go_roundg (B - (j+1))
   exact⟨⟨j+1,rfl,aa,af⟩,rfl⟩;have:=b.o;omega
  .obtain rfl:j=B:=aa
   by_cases a:(s:Int)<63
   .have y:=ax (nY s w aa)
    have c:=z.1 (aD _);have⟨P,x⟩:=ar (2 ^ s);rw[x] at y c;have Y:¬(P:Int)<=(v:Int):=aa;clear x q f z g c r p;go_wp2_with (go_at_call 158;refine Ix y.o ?_)
    go_ret;exact⟨rfl,rfl⟩
   .clear q f z g r p
    go_wp2;go_ret;exact⟨rfl,rfl⟩
def GD(u m v:Nat)(w:World)(R:u+m<=62)(A:1<=m)(Q:m<=18)(f:v<9223372036854775808):af4 af5 83 #[af6 u,af6 m,af6 v] w λe x=>e=.returned (af6 (oJ u m v))/\w=x:=by
 have d:=ax (oN u m v w R f);have Y:=lU (u:=u) (m:=m) f;have a:=Aq (u:=u) (m:=m) (v:=v) aa;have X:2 ^ m<=2 ^ 18:=lY Q;have V:2 ^ (m - 1)<=2 ^ 17:=lY aa;have t:=ax (nY (m - 1) w aa);have T:jg u m v<=63:=aa;have r:=ax (nY (u+jg u m v) w aa);have p:Hid (oJ u m v=jg u m v * 2 ^ (m - 1)+xm u m v):=ax rfl;have q:Hid (xm u m v=v / 2 ^ (jg u m v+u)):=ax rfl;rw[p.o];have S:=cB (u+jg u m v);have z:=ax (by rw[q.o,fN u,dE aa];rfl:(v:Int).tdiv ((2 ^ (u+jg u m v):Nat):Int)=(xm u m v:Int));generalize xm u m v=k at *;generalize jg u m v=b at *;generalize 2 ^ (m - 1)=H at *;have⟨s,g⟩:=ar (u+b);rw[g] at r S z;have B:s<=63:=aa;have J:ad0 .i64 ((u:Int)+(b:Int))=(s:Int):=ah;generalize 2 ^ s=P at *;have D:k<262144:=aa;have U:H<=131072:=aa;obtain⟨M,rfl⟩:∃M,m=M+1:=⟨m - 1,aa⟩;simp only[dS] at t;have⟨c,y⟩:=ar (b * H);have I:c<=8257536:=by rw[<-y];exact cL T U
 have C:((b:Int)+1) * (H:Int)=(c:Int)+(H:Int):=by rw[<-y,dk,ez];simp
 have G:=z.o;have F:(v:Int) / (P:Int)=(k:Int):=by rw[<-z.o,dE aa]
 have N:ad0 .u64 (v:Int)=(v:Int):=by rw[iy];omega
 have O:ad0 .u64 (k:Int)=(k:Int):=by rw[iy];omega
 have E:(c:Int)+(H:Int)+(k:Int) - (H:Int)=(c:Int)+(k:Int):=aa;rw[y];have K:ad0 .i64 (M:Int)=(M:Int):=ah;have L:ad0 .i64 (H:Int)=(H:Int):=ah;clear p q a X V Y g y z;go_in;go_wp21;refine Ix d.o ?_;go_wp21;refine Ix t.o ?_;go_wp21;refine Ix r.o ?_;go_wp2;go_ret;exact⟨ad,rfl⟩
def oC(u m n:Nat):Nat:=if 63<=n - 1+u+m then 9223372036854775807 else 2 ^ (n - 1+u+m) - 1
def Du(u m n:Nat)(w:World)(T:u+m<=62)(S:1<=n)(R:n<=64):af4 af5 166 #[af6 u,af6 m,af6 n] w λe q=>e=.returned (af6 (oC u m n))/\w=q:=by
 have z:Hid (oC u m n=if 63<=n - 1+u+m then 9223372036854775807 else 2 ^ (n - 1+u+m) - 1):=ax rfl;rw[z.o];obtain⟨k,rfl⟩:∃k,n=k+1:=⟨n - 1,aa⟩;simp only[dS] at z |-;have⟨t,r⟩:=ar (k+u);have⟨s,y⟩:=ar (k+u+m);have d:ad0 .i64 ((k:Int)+(u:Int))=(t:Int):=ah
 have c:ad0 .i64 ((t:Int)+(m:Int))=(s:Int):=ah;have Y:ad0 .i64 (k:Int)=(k:Int):=ah;have X:max ((k:Int)+1) 1=(k:Int)+1:=aa;have V:min ((k:Int)+1) 64=(k:Int)+1:=aa;rw[y];by_cases v:63<=s
 .have g:(63:Int)<=(s:Int):=aa
  rw[aH v];clear z r y;go_in;go_wp2;go_ret;exact⟨ad,rfl⟩
 .have g:¬(63:Int)<=(s:Int):=aa
  rw[aF v];have p:=ax (nY s w aa);have f:2 ^ s<=2 ^ 62:=lY aa;have U:=cB s;generalize 2 ^ s=P at *;have b:ad0 .i64 (P:Int)=(P:Int):=ah;have a:ad0 .i64 ((P:Int) - 1)=(P:Int) - 1:=ah;have x:(((P - 1:Nat)):Int)=(P:Int) - 1:=aa;rw[x];clear z r y f x;go_in;go_wp21;refine Ix p.o ?_;go_wp2;go_ret;exact⟨rfl,rfl⟩
end Go.Proofs.YtdicblkhpcphfaaGreat.D
namespace Go.Proofs
open Go.Shelf
def Tryz.len64L_ren:Go.Shelf.Ren:=⟨λ|129=>302|n=>n,λ|53=>36|3=>3|4=>4|46=>330|5=>5|9=>9|n=>n,λ|n=>n⟩
def Tryz.len64L:Go.Proofs.Lays.n129 Tryz.prog Tryz.len64L_ren:={
 mixed:=by kernel_rfl
 f129:=Tryz.func302.T (congrArg some (by kernel_rfl))
 t3:=Tryz.underlying3
 a3:=Tryz.isAgg3
 z3:=Tryz.sizeOf3
 v3:=Tryz.zeroValue3
 t4:=Tryz.underlying4
 a4:=Tryz.isAgg4
 z4:=Tryz.sizeOf4
 v4:=Tryz.zeroValue4
 t5:=Tryz.underlying5
 a5:=Tryz.isAgg5
 z5:=Tryz.sizeOf5
 v5:=Tryz.zeroValue5
 t9:=Tryz.underlying9
 a9:=Tryz.isAgg9
 z9:=Tryz.sizeOf9
 v9:=Tryz.zeroValue9
 t46:=Tryz.underlying330
 a46:=Tryz.isAgg330
 z46:=Tryz.sizeOf330
 v46:=Tryz.zeroValue330
 t53:=Tryz.underlying36
 a53:=Tryz.isAgg36
 z53:=Tryz.sizeOf36
 v53:=Tryz.zeroValue36}
def Tryz.sortM_ren:Go.Shelf.Ren:=⟨λ|5=>226|8=>313|7=>312|19=>378|20=>302|10=>370|11=>371|12=>372|13=>373|14=>374|15=>375|16=>248|17=>376|18=>377|30=>430|31=>431|32=>432|33=>433|34=>434|35=>324|40=>461|n=>n,λ|23=>196|25=>2|3=>3|32=>330|22=>196|0=>0|44=>349|46=>36|4=>4|36=>468|35=>467|41=>151|5=>5|9=>9|53=>523|57=>526|63=>553|64=>312|n=>n,λ|n=>n⟩
def Tryz.sortM:Go.Proofs.SlLaysM.n5 Tryz.prog Tryz.sortM_ren:={
 mixed:=by kernel_rfl
 f5:=⟨Tryz.f226.name,by decide,Tryz.func226.T (congrArg some (by kernel_rfl))⟩
 f7:=⟨Tryz.f312.name,by decide,Tryz.func312.T (congrArg some (by kernel_rfl))⟩
 f8:=Tryz.func313.T (congrArg some (by kernel_rfl))
 f10:=⟨Tryz.f370.name,by decide,Tryz.func370.T (congrArg some (by kernel_rfl))⟩
 f11:=⟨Tryz.f371.name,by decide,Tryz.func371.T (congrArg some (by kernel_rfl))⟩
 f12:=⟨Tryz.f372.name,by decide,Tryz.func372.T (congrArg some (by kernel_rfl))⟩
 f13:=⟨Tryz.f373.name,by decide,Tryz.func373.T (congrArg some (by kernel_rfl))⟩
 f14:=⟨Tryz.f374.name,by decide,Tryz.func374.T (congrArg some (by kernel_rfl))⟩
 f15:=⟨Tryz.f375.name,by decide,Tryz.func375.T (congrArg some (by kernel_rfl))⟩
 f16:=⟨Tryz.f248.name,by decide,Tryz.func248.T (congrArg some (by kernel_rfl))⟩
 f17:=⟨Tryz.f376.name,by decide,Tryz.func376.T (congrArg some (by kernel_rfl))⟩
 f18:=⟨Tryz.f377.name,by decide,Tryz.func377.T (congrArg some (by kernel_rfl))⟩
 f19:=Tryz.func378.T (congrArg some (by kernel_rfl))
 f20:=Tryz.func302.T (congrArg some (by kernel_rfl))
 f30:=⟨Tryz.f430.name,by decide,Tryz.func430.T (congrArg some (by kernel_rfl))⟩
 f31:=Tryz.func431.T (congrArg some (by kernel_rfl))
 f32:=Tryz.func432.T (congrArg some (by kernel_rfl))
 f33:=⟨Tryz.f433.name,by decide,Tryz.func433.T (congrArg some (by kernel_rfl))⟩
 f34:=⟨Tryz.f434.name,by decide,Tryz.func434.T (congrArg some (by kernel_rfl))⟩
 f35:=⟨Tryz.f324.name,by decide,Tryz.func324.T (congrArg some (by kernel_rfl))⟩
 f40:=⟨Tryz.f461.name,by decide,Tryz.func461.T (congrArg some (by kernel_rfl))⟩
 t0:=Tryz.underlying0
 a0:=Tryz.isAgg0
 z0:=Tryz.sizeOf0
 v0:=Tryz.zeroValue0
 t3:=Tryz.underlying3
 a3:=Tryz.isAgg3
 z3:=Tryz.sizeOf3
 v3:=Tryz.zeroValue3
 t4:=Tryz.underlying4
 a4:=Tryz.isAgg4
 z4:=Tryz.sizeOf4
 v4:=Tryz.zeroValue4
 t5:=Tryz.underlying5
 a5:=Tryz.isAgg5
 z5:=Tryz.sizeOf5
 v5:=Tryz.zeroValue5
 t9:=Tryz.underlying9
 a9:=Tryz.isAgg9
 z9:=Tryz.sizeOf9
 v9:=Tryz.zeroValue9
 t22:=Tryz.underlying196
 a22:=Tryz.isAgg196
 z22:=Tryz.sizeOf196
 v22:=Tryz.zeroValue196
 t23:=Tryz.underlying196
 a23:=Tryz.isAgg196
 z23:=Tryz.sizeOf196
 v23:=Tryz.zeroValue196
 t25:=Tryz.underlying2
 a25:=Tryz.isAgg2
 z25:=Tryz.sizeOf2
 v25:=Tryz.zeroValue2
 t32:=Tryz.underlying330
 a32:=Tryz.isAgg330
 z32:=Tryz.sizeOf330
 v32:=Tryz.zeroValue330
 t35:=Tryz.underlying467
 a35:=Tryz.isAgg467
 z35:=Tryz.sizeOf467
 v35:=Tryz.zeroValue467
 t36:=Tryz.underlying468
 a36:=Tryz.isAgg468
 z36:=Tryz.sizeOf468
 v36:=Tryz.zeroValue468
 t41:=Tryz.underlying151
 a41:=Tryz.isAgg151
 z41:=Tryz.sizeOf151
 v41:=Tryz.zeroValue151
 t44:=Tryz.underlying349
 a44:=Tryz.isAgg349
 z44:=Tryz.sizeOf349
 v44:=Tryz.zeroValue349
 t46:=Tryz.underlying36
 a46:=Tryz.isAgg36
 z46:=Tryz.sizeOf36
 v46:=Tryz.zeroValue36
 t53:=Tryz.underlying523
 a53:=Tryz.isAgg523
 z53:=Tryz.sizeOf523
 v53:=Tryz.zeroValue523
 t57:=Tryz.underlying526
 a57:=Tryz.isAgg526
 z57:=Tryz.sizeOf526
 v57:=Tryz.zeroValue526
 t63:=Tryz.underlying553
 a63:=Tryz.isAgg553
 z63:=Tryz.sizeOf553
 v63:=Tryz.zeroValue553
 t64:=Tryz.underlying312
 a64:=Tryz.isAgg312
 z64:=Tryz.sizeOf312
 v64:=Tryz.zeroValue312}
def Tryz.sortF_ren:Go.Shelf.Ren:=⟨λ|6=>254|15=>313|14=>325|28=>378|29=>302|20=>384|21=>385|22=>386|23=>387|24=>388|25=>389|26=>390|27=>391|46=>435|47=>431|48=>432|49=>436|50=>437|57=>462|n=>n,λ|22=>126|24=>192|25=>342|3=>3|39=>330|0=>0|53=>349|55=>36|4=>4|46=>468|45=>467|50=>151|5=>5|9=>9|66=>523|70=>526|76=>553|77=>312|n=>n,λ|n=>n⟩
def Tryz.sortF:Go.Proofs.SlLaysF0.n6 Tryz.prog Tryz.sortF_ren:={
 mixed:=by kernel_rfl
 f6:=⟨Tryz.f254.name,by decide,Tryz.func254.T (congrArg some (by kernel_rfl))⟩
 f14:=⟨Tryz.f325.name,by decide,Tryz.func325.T (congrArg some (by kernel_rfl))⟩
 f15:=Tryz.func313.T (congrArg some (by kernel_rfl))
 f20:=⟨Tryz.f384.name,by decide,Tryz.func384.T (congrArg some (by kernel_rfl))⟩
 f21:=⟨Tryz.f385.name,by decide,Tryz.func385.T (congrArg some (by kernel_rfl))⟩
 f22:=⟨Tryz.f386.name,by decide,Tryz.func386.T (congrArg some (by kernel_rfl))⟩
 f23:=⟨Tryz.f387.name,by decide,Tryz.func387.T (congrArg some (by kernel_rfl))⟩
 f24:=⟨Tryz.f388.name,by decide,Tryz.func388.T (congrArg some (by kernel_rfl))⟩
 f25:=⟨Tryz.f389.name,by decide,Tryz.func389.T (congrArg some (by kernel_rfl))⟩
 f26:=⟨Tryz.f390.name,by decide,Tryz.func390.T (congrArg some (by kernel_rfl))⟩
 f27:=⟨Tryz.f391.name,by decide,Tryz.func391.T (congrArg some (by kernel_rfl))⟩
 f28:=Tryz.func378.T (congrArg some (by kernel_rfl))
 f29:=Tryz.func302.T (congrArg some (by kernel_rfl))
 f46:=⟨Tryz.f435.name,by decide,Tryz.func435.T (congrArg some (by kernel_rfl))⟩
 f47:=Tryz.func431.T (congrArg some (by kernel_rfl))
 f48:=Tryz.func432.T (congrArg some (by kernel_rfl))
 f49:=⟨Tryz.f436.name,by decide,Tryz.func436.T (congrArg some (by kernel_rfl))⟩
 f50:=⟨Tryz.f437.name,by decide,Tryz.func437.T (congrArg some (by kernel_rfl))⟩
 f57:=⟨Tryz.f462.name,by decide,Tryz.func462.T (congrArg some (by kernel_rfl))⟩
 t0:=Tryz.underlying0
 a0:=Tryz.isAgg0
 z0:=Tryz.sizeOf0
 v0:=Tryz.zeroValue0
 t3:=Tryz.underlying3
 a3:=Tryz.isAgg3
 z3:=Tryz.sizeOf3
 v3:=Tryz.zeroValue3
 t4:=Tryz.underlying4
 a4:=Tryz.isAgg4
 z4:=Tryz.sizeOf4
 v4:=Tryz.zeroValue4
 t5:=Tryz.underlying5
 a5:=Tryz.isAgg5
 z5:=Tryz.sizeOf5
 v5:=Tryz.zeroValue5
 t9:=Tryz.underlying9
 a9:=Tryz.isAgg9
 z9:=Tryz.sizeOf9
 v9:=Tryz.zeroValue9
 t22:=Tryz.underlying126
 a22:=Tryz.isAgg126
 z22:=Tryz.sizeOf126
 v22:=Tryz.zeroValue126
 t25:=Tryz.underlying342
 a25:=Tryz.isAgg342
 z25:=Tryz.sizeOf342
 v25:=Tryz.zeroValue342
 t39:=Tryz.underlying330
 a39:=Tryz.isAgg330
 z39:=Tryz.sizeOf330
 v39:=Tryz.zeroValue330
 t45:=Tryz.underlying467
 a45:=Tryz.isAgg467
 z45:=Tryz.sizeOf467
 v45:=Tryz.zeroValue467
 t46:=Tryz.underlying468
 a46:=Tryz.isAgg468
 z46:=Tryz.sizeOf468
 v46:=Tryz.zeroValue468
 t50:=Tryz.underlying151
 a50:=Tryz.isAgg151
 z50:=Tryz.sizeOf151
 v50:=Tryz.zeroValue151
 t53:=Tryz.underlying349
 a53:=Tryz.isAgg349
 z53:=Tryz.sizeOf349
 v53:=Tryz.zeroValue349
 t55:=Tryz.underlying36
 a55:=Tryz.isAgg36
 z55:=Tryz.sizeOf36
 v55:=Tryz.zeroValue36
 t66:=Tryz.underlying523
 a66:=Tryz.isAgg523
 z66:=Tryz.sizeOf523
 v66:=Tryz.zeroValue523
 t70:=Tryz.underlying526
 a70:=Tryz.isAgg526
 z70:=Tryz.sizeOf526
 v70:=Tryz.zeroValue526
 t76:=Tryz.underlying553
 a76:=Tryz.isAgg553
 z76:=Tryz.sizeOf553
 v76:=Tryz.zeroValue553
 t77:=Tryz.underlying312
 a77:=Tryz.isAgg312
 z77:=Tryz.sizeOf312
 v77:=Tryz.zeroValue312}
end Go.Proofs
namespace Go.Proofs.YtdicblkhpcphfaaGreat.D
open Tryz
open _root_.List renaming length→ab0
open Go.IntKind renaming wrap→ad0
open _root_.Go renaming Calls→af4
open Tryz renaming prog→af5
open Go.RowKit Go.Lib Go.Shelf
def ml(w:World)(g:Nat)(lo hi dg:Int)(u m:Nat):Prop:=g7 w g 369 #[af6 lo,af6 hi,af6 dg,af6 u,af6 m]
section
variable {g u m : Nat} {lo hi dg : Int} {w : World}
def nJ(x:Nat)(w:World)(h:x<18446744073709551616):af4 af5 302 #[.int .u64 x] w λe z=>e=.returned (af6 (Lib.bitLen x))/\w=z:=by
 refine(Any.bits_Len64 Tryz.len64L (x:Int) w aa  aa).M ?_;rintro e z ⟨rfl,rfl⟩;exact⟨ad,rfl⟩
def vY(v:Nat)(h:ml w g lo hi dg u m)(V:u+m<=62)(Y:v<9223372036854775808):af4 af5 316 #[aq g,af6 v] w (au w (af6 (jg u m v))):=by
 have d:Hid (∀w,_):=ax (λw=>nJ v w aa);have X:Lib.bitLen v<=63:=(re aa).2 (by simpa using Y);have z:Hid (jg u m v=Lib.bitLen v - (u+m)):=ax rfl;rw[z.o];generalize Lib.bitLen v=B at *;have y:=ax h;have p:=ax (by rw[iy];omega:ad0 .u64 (v:Int)=(v:Int));have r:Hid (ad0 .i64 ((B:Int) - (u:Int))=(B:Int) - (u:Int)):=ax ah;have q:Hid (ad0 .i64 ((B:Int) - (u:Int) - (m:Int))=(B:Int) - (u:Int) - (m:Int)):=ax ah;clear h z;go_in;go_wp21;refine jh (af3 w) (hQ 0 2 (hQ 3 4 (hQ 8 4 (ik 2 (hQ 7 1 (hQ 12 3 [])))))) ((aC _ _).drew) ?_;iterate 10 refine ib (h:=λs z=>by have x:=(g7.K y.o z).C 3;have t:=(g7.K y.o z).k4;have a:=p.o;have c:=r.o;have b:=q.o;simp only[az,ay,aA] at x;exact af8) ?_
 refine iz λK f=>?_;go_simp;refine Ix (d.o w.drew) ?_;refine f _ _ ((aC _ _).drew) ?_;iterate 4 refine ib (h:=λs z=>by have x:=(g7.K y.o z).C 3;have t:=(g7.K y.o z).k4;have a:=p.o;have c:=r.o;have b:=q.o;simp only[az,ay,aA] at x;exact af8) ?_
 refine g4 ?_;go_wp2;go_ret;refine⟨?_,(aC _ _).drew⟩;show Ending.returned (af6 (max 0 ((B:Int) - (u:Int) - (m:Int))))=Ending.returned (af6 (((B - (u+m):Nat)):Int))
 congr 2
 omega
def uW(h:ml w g lo hi dg u m)(s:1<=m)(r:m<=18):af4 af5 234 #[aq g] w λe x=>e=.returned (af6 ((2 ^ (m - 1):Nat):Int))/\w=x:=by
 have y:=g7.C h 4;simp only[az,ay,aA] at y;clear h;obtain⟨M,rfl⟩:∃M,m=M+1:=⟨m - 1,aa⟩;have t:ad0 .i64 (M:Int)=(M:Int):=ah;simp only[dS];go_in;go_wp2;go_ret;refine⟨?_,rfl⟩;have z:2 ^ M<=2 ^ 17:=lY aa;show Ending.returned (af6 (wrap64 (2 ^ M)))=Ending.returned (af6 ((2 ^ M:Nat):Int))
 have e:((2:Int) ^ M)=((2 ^ M:Nat):Int):=ad;rw[e];generalize 2 ^ M=P at *;have:wrap64 (P:Int)=(P:Int):=by have v:P<=131072:=z;unfold wrap64;omega
 rw[this]
def Ks(v:Nat)(h:ml w g lo hi dg u m)(q:u+m<=62)(x:v<9223372036854775808):af4 af5 233 #[aq g,af6 v] w (au w (.tuple #[af6 (jg u m v),af6 (xm u m v)])):=by
 have t:=ax (vY v h q x);have r:=lU (u:=u) (m:=m) x;have z:Hid (xm u m v=v / 2 ^ (jg u m v+u)):=ax rfl;have f:jg u m v<=63:=aa;have H:=ax h;rw[z.o];generalize jg u m v=b at *;have⟨s,y⟩:=ar (b+u);have d:ad0 .i64 ((b:Int)+(u:Int))=(s:Int):=ah;have c:s<=63:=aa;rw[y];clear h y z r;go_in;go_wp21;refine RX t.o ?_;intro r z;have y:=(g7.K H.o z).k3;go_wp21
 go_quiet (fail)
 go_wp2;go_ret2;refine⟨?_,below_drewN z _⟩;show Ending.returned (.tuple #[af6 b,af6 ((v:Int) / 2 ^ s)])=Ending.returned (.tuple #[af6 b,af6 ((v / 2 ^ s:Nat):Int)])
 simp
def GF(v:Nat)(h:ml w g lo hi dg u m)(U:u+m<=62)(T:1<=m)(d:m<=18)(f:v<9223372036854775808):af4 af5 146 #[aq g,af6 v] w (au w (.tuple #[af6 (oJ u m v),af6 0])):=by
 have a:=ax (Ks v h U f);have s:Hid (∀z,af3 w z->_):=ax (λz x=>uW (g7.K h x) T d);have X:=lU (u:=u) (m:=m) f;have Y:=Aq (u:=u) (m:=m) (v:=v) aa;have q:2 ^ m<=2 ^ 18:=lY d;have p:2 ^ (m - 1)<=2 ^ 17:=lY aa;have x:jg u m v<=63:=aa;have r:Hid (oJ u m v=jg u m v * 2 ^ (m - 1)+xm u m v):=ax rfl;have P:xm u m v<262144:=by have S:2 ^ m<=262144:=q;omega
 have V:2 ^ (m - 1)<=131072:=p;rw[r.o];generalize xm u m v=k at *;generalize jg u m v=b at *;generalize 2 ^ (m - 1)=H at *;have⟨c,y⟩:=ar (b * H);have R:c<=8257536:=by rw[<-y];exact cL x V
 have O:((b:Int)+1) * (H:Int)=(c:Int)+(H:Int):=by rw[<-y,dk,ez];simp
 have Q:(c:Int)+(H:Int)+(k:Int) - (H:Int)=(c:Int)+(k:Int):=aa;rw[y];clear r Y q p X y h;go_in;go_wp21;refine RX a.o ?_;intro z y;go_wp21;refine Ix (s.o z y) ?_;go_wp21;refine Ix (s.o z y) ?_;go_wp2;go_ret2;exact⟨ad,y⟩
def kR(v:Nat)(h:ml w g lo hi dg u m)(t:u+m<=62)(z:v<9223372036854775808):af4 af5 283 #[aq g,af6 v] w (au w (af6 ((1+jg u m v:Nat):Int))):=by
 have y:=ax (vY v h t z);have x:=lU (u:=u) (m:=m) z;have r:jg u m v<=63:=aa;have q:max (v:Int) 0=(v:Int):=aa;generalize jg u m v=b at *;clear h x;go_in;go_wp21;refine RX y.o ?_;intro p x;go_wp2;go_ret;exact⟨ad,x⟩
end
open Tryz
open _root_.List renaming length→ab0
open Go.IntKind renaming wrap→ad0
open _root_.Go renaming Calls→af4
open Tryz renaming prog→af5
open Go.RowKit Go.Lib Go.Shelf
variable{dg hi j lo m u:Nat}{P:Program}{ops:Array Oper}{o:Oper}{a:Act}{Q:Exit->Act->World->Prop}{v':Value}{w':World}
def Kt(n:Nat)(w:World)(h:n<=5):af4 af5 394 #[af6 n] w λe u=>e=.returned (.tuple #[.int .u64 ((10 ^ n:Nat):Int),af6 0])/\w=u:=by
 have⟨R,z⟩:=ar (10 ^ n);have v:=ax z;rw[z];clear z;have y:Hid (∀j,j<=5->0<10 ^ j/\10 ^ j<=100000):=ax (λj h=>⟨fV aa,(bM aa h:10 ^ j<=10 ^ 5)⟩);go_in;go_wp2;go_loopg [4,12] n (λq p x wr=>(∃j:Nat,q=n - j/\j<=n/\x=af6 j/\p=.int .u64 ((10 ^ j:Nat):Int))/\w=wr)
 exact⟨⟨0,rfl,aa,rfl,rfl⟩,rfl⟩
 case round=>
  obtain⟨⟨j,z,t,rfl,rfl⟩,rfl⟩:=hrel;have x:=ax z;clear z;by_cases r:j<n
  .have s:(j:Int)<(n:Int):=aa
   have q:=y.o j aa;have z:=ax (by rw[cC];omega:10 ^ (j+1)=10 * 10 ^ j);generalize 10 ^ j=p at *;go_wp2;go_roundg (n - (j+1))
   exact⟨⟨j+1,rfl,aa,af,by rw[z.o];go_num⟩,rfl⟩;have:=x.o;omega
  .obtain rfl:j=n:=aa
   rw[v.o];go_wp2;go_ret2;exact⟨rfl,rfl⟩
structure sk(lo hi dg u m:Nat):Prop where
 d0:1<=dg
 d1:dg<=5
 l0:1<=lo
 h0:2 * lo<=hi
 h1:hi<=9223372036854775807
 ue:u=Lib.bitLen lo - 1
 me:m=Lib.bitLen (2 * 10 ^ dg - 1)
 um:u+m<=62
def BG(z:dg<=5):1<=Lib.bitLen (2 * 10 ^ dg - 1)/\Lib.bitLen (2 * 10 ^ dg - 1)<=18:=by
 have h:∀d:Fin 6,1<=Lib.bitLen (2 * 10 ^ d.val - 1)/\Lib.bitLen (2 * 10 ^ d.val - 1)<=18:=ai;exact h ⟨dg,aa⟩
def Dv(w:World)(ok:sk lo hi dg u m):af4 af5 329 #[.agg #[af6 lo,af6 hi,af6 dg]] w λe p=>∃g,e=.returned (.tuple #[aq g,af6 0])/\w.heap.size<=g/\ml p g lo hi dg u m/\af3 w p:=by
 obtain⟨Q,z,q,s,P,M,t,E⟩:=ok;have v:=BG z;have b:1<=Lib.bitLen lo:=(By (x:=lo) (k:=0) aa).2 (by simpa using q);have O:Lib.bitLen lo<=63:=(re aa).2 aa;have K:10 ^ dg<=100000:=(bM aa z:10 ^ dg<=10 ^ 5);have F:0<10 ^ dg:=fV aa;have r:=λw=>ax (Kt dg w z);have J:=λw=>ax (nJ lo w aa);have X:=λw=>ax (nJ (2 * 10 ^ dg - 1) w aa);rw[<-t] at X v;generalize 10 ^ dg=T at *;generalize Lib.bitLen lo=B at *;have⟨N,y⟩:=ar (2 * T - 1);rw[y] at X;obtain rfl:B=u+1:=aa;have L:(hi:Int).tdiv 2=(hi:Int) / 2:=dE aa;have Y:¬(hi:Int) / 2<(lo:Int):=aa;have U:¬(dg:Int)<1:=aa;have S:¬(5:Int)<(dg:Int):=aa;have R:¬(lo:Int)<1:=aa;have a:=ax (by rw[iy];omega:ad0 .u64 (lo:Int)=(lo:Int));have c:Hid (ad0 .i64 (u:Int)=(u:Int)):=ax ah;have d:=ax (by rw[iy];omega:ad0 .u64 (2 * (T:Int))=2 * (T:Int));have g:Hid (2 * (T:Int) - 1=(N:Int)):=ax aa;have V:¬(62:Int)<(u:Int)+(m:Int):=aa;have I:Hid (ad0 .i64 ((u:Int)+(m:Int))=(u:Int)+(m:Int)):=ax ah;have f:=ax (by rw[iy];omega:ad0 .u64 (N:Int)=(N:Int));clear y M t v b O s;go_in;go_wp21;refine Ix (r _).o ?_;have⟨b,s⟩:=ar (w.heap.size);have⟨y,t⟩:=ar (w.alloc (.cells #[af6 lo,af6 hi,af6 dg] 31));have M:=ao t;have v:=an t s;have H:=ax s;clear s;rw[H.o,t];clear t;go_upto_region 4 with fail;have G:=ax V;clear Y U S R V L Q z q P E K F r;refine jh (af3 y) (hQ 0 4 (hQ 6 3 (ik 4 (hQ 5 1 (ik 9 (hQ 10 1 (ik 11 (hQ 12 1 [])))))))) ((aC _ _).drew) ?_;iterate 7 refine ib (h:=λp z=>by have s:=(v.o.K z).C 0;have r:=(v.o.K z).k1;have q:=(v.o.K z).k2;have P:=a.o;have Q:=c.o;have R:=d.o;have U:=g.o;have S:=f.o;simp only[az,ay,aA] at s;exact af8) ?_
 refine iz λK t=>?_;go_simp;refine Ix (J y.drew).o ?_;refine t _ _ ((aC _ _).drew) ?_;refine ib (h:=λp z=>by have s:=(v.o.K z).C 0;have r:=(v.o.K z).k1;have q:=(v.o.K z).k2;have P:=a.o;have Q:=c.o;have R:=d.o;have U:=g.o;have S:=f.o;simp only[az,ay,aA] at s;exact af8) ?_;refine iz λK t=>?_;go_simp;refine Ix (X y.drew).o ?_;refine t _ _ ((aC _ _).drew) ?_;refine ib (h:=λp z=>by have s:=(v.o.K z).C 0;have r:=(v.o.K z).k1;have q:=(v.o.K z).k2;have P:=a.o;have Q:=c.o;have R:=d.o;have U:=g.o;have S:=f.o;simp only[az,ay,aA] at s;exact af8) ?_;refine iz λK t=>?_;go_simp;refine t _ _ (((aC _ _).drew).alloc (aD _) _) ?_;refine ib (h:=λp z=>by have s:=(v.o.K z).C 0;have r:=(v.o.K z).k1;have q:=(v.o.K z).k2;have P:=a.o;have Q:=c.o;have R:=d.o;have U:=g.o;have S:=f.o;simp only[az,ay,aA] at s;exact af8) ?_;refine g4 ?_;have L:=M.size;have⟨z,O⟩:=ar ((y.alloc (.cells #[af6 lo,af6 hi,af6 dg,af6 u,af6 m] 369)).drew);have F:af3 y z:=by rw[<-O];exact((aC _ _).alloc (aD _) _).drew
 have Y:ml z y.heap.size lo hi dg u m:=by unfold ml;rw[<-O];exact(g7.new _ _ _:g7 (y.alloc _) _ _ _).drew
 go_upto_region 5 with fail;have E:=g7.C Y 3;have D:=g7.C Y 4;simp only[az,ay,aA] at E D;have V:=G.o;have A:=I.o;go_quiet (fail)
 go_wp2;go_ret2;subst O;exact⟨_,rfl,L,g7.drewN Y _,below_drewN (M.T (F.M L)) _⟩
open Tryz
open _root_.List renaming length→ab0
open Go.IntKind renaming wrap→ad0
open _root_.Go renaming Calls→af4
open Tryz renaming prog→af5
open Go.RowKit Go.Lib Go.Shelf
def Ku{B:Nat}(v:1<=lo)(y:lo<9223372036854775808)(x:B=Lib.bitLen lo - 1)(h:j<=B):(1<lo / 2 ^ j<->j<B):=by
 have z:=cB j;have e:1<lo / 2 ^ j<->2 ^ (j+1)<=lo:=by
  rw[Nat.lt_iff_add_one_le,dI z,cC,cJ (2 ^ j)]
 rw[e,<-By aa];omega
def Nn{N M:Nat}(h:N<18446744073709551616)(z:M=Lib.bitLen N)(y:j<=M):(2 ^ j<N+1<->j<M):=by
 rw[z,By h];omega
def yu(w:World)(ok:sk lo hi dg u m):af4 af5 109 #[.agg #[af6 lo,af6 hi,af6 dg]] w (au w (.tuple #[af6 u,af6 m,.bool true])):=by
 obtain⟨I,d,K,G,F,x,y,A⟩:=ok;have R:=BG d;rw[<-y] at R;have z:∀j,j<=5->0<10 ^ j/\10 ^ j<=100000:=λj h=>⟨fV aa,(bM aa h:10 ^ j<=10 ^ 5)⟩;have V:=ax z;have c:=z dg d;have f:Hid (∀j,j<=u->(1<lo / 2 ^ j<->j<u)):=ax (λj h=>Ku K aa x h);have p:Hid (∀j,j<=m->(2 ^ j<2 * 10 ^ dg<->j<m)):=ax (λj h=>by
  have:=Nn (N:=2 * 10 ^ dg - 1) (j:=j) (by omega) y h;rw[show 2 * 10 ^ dg - 1+1=2 * 10 ^ dg by omega] at this;exact this)
 have t:¬(hi:Int)<(lo:Int):=aa;have g:ad0 .i64 ((hi:Int) - (lo:Int))=(hi:Int) - (lo:Int):=ah;have Y:¬(hi:Int) - (lo:Int)<(lo:Int):=aa;have s:¬(dg:Int)<1:=aa;have r:¬(5:Int)<(dg:Int):=aa;have q:¬(lo:Int)<1:=aa;clear z x y;go_in;go_wp21;have⟨b,y⟩:=ar (w.heap.size);have⟨v,z⟩:=ar (w.alloc (.cells #[af6 lo,af6 hi,af6 dg] 31));have U:=ao z;have a:=an z y;rw[y,z];have L:=a.o.k2;clear z y t s r q g Y;go_loopg [5,6] u (λq x y wr=>(∃j:Nat,q=u - j/\j<=u/\x=af6 j/\y=af6 ((lo / 2 ^ j:Nat):Int))/\v=wr)
 exact⟨⟨0,aa,aa,rfl,ad⟩,rfl⟩
 case round=>
  obtain⟨⟨j,z,T,rfl,rfl⟩,rfl⟩:=hrel;have Y:=ax z;clear z;have s:=f.o j T;have g:=ax (by rw[fj,cC]:lo / 2 ^ j / 2=lo / 2 ^ (j+1));have O:lo / 2 ^ j<=lo:=el ..;generalize lo / 2 ^ j=n at *;by_cases S:j<u
  .have Q:(1:Int)<(n:Int):=by have:=s.2 S;omega
   have t:(n:Int).tdiv 2=(n:Int) / 2:=dE aa;have r:n<9223372036854775808:=aa;go_wp2;go_roundg (u - (j+1))
   exact⟨⟨j+1,rfl,aa,af,by rw[<-g.o];simp⟩,rfl⟩;have:=Y.o;omega
  .obtain rfl:j=u:=aa
   have Q:¬(1:Int)<(n:Int):=λh=>by have:=s.1 aa ;omega
   clear s g f O;go_wp2;go_loopg [7,8] dg (λq x y wr=>(∃i:Nat,q=dg - i/\i<=dg/\y=af6 i/\x=.int .u64 ((2 * 10 ^ i:Nat):Int))/\v=wr)
   exact⟨⟨0,aa,aa,rfl,rfl⟩,rfl⟩
   case round=>
    obtain⟨⟨i,z,D,rfl,rfl⟩,rfl⟩:=hrel;have X:=ax z;clear z;by_cases C:i<dg
    .have E:(i:Int)<(dg:Int):=aa
     have M:=V.o i aa;have r:=ax (by rw[cC];omega:2 * 10 ^ (i+1)=10 * (2 * 10 ^ i));have⟨P,t⟩:=ar (2 * 10 ^ i);have H:0<P/\P<=200000:=aa;rw[t] at r |-;clear M t c
     go_wp2;go_roundg (dg - (i+1))
     exact⟨⟨i+1,rfl,aa,af,by rw[r.o];go_num⟩,rfl⟩;have:=X.o;omega
    .obtain rfl:i=dg:=aa
     have⟨N,t⟩:=ar (2 * 10 ^ i);rw[t] at p |-;clear t c
     go_wp2;go_loopg [9,10] m (λq x y wr=>(∃t:Nat,q=m - t/\t<=m/\x=af6 t/\y=.int .u64 ((2 ^ t:Nat):Int))/\v=wr)
     exact⟨⟨0,aa,aa,rfl,rfl⟩,rfl⟩
     case round=>
      obtain⟨⟨t,z,M,rfl,rfl⟩,rfl⟩:=hrel;have y:=ax z;clear z;have s:=p.o t M;have E:2 ^ t<=262144:=(lY aa :2 ^ t<=2 ^ 18);have r:=ax (by rw[cC];omega:2 ^ (t+1)=2 * 2 ^ t);generalize 2 ^ t=P at *;by_cases q:t<m
      .have x:(P:Int)<(N:Int):=by have:=s.2 q;omega
       go_wp2;go_roundg (m - (t+1))
       exact⟨⟨t+1,rfl,aa,af,by rw[r.o];go_num⟩,rfl⟩;have:=y.o;omega
      .obtain rfl:t=m:=aa
       have x:¬(P:Int)<(N:Int):=λh=>by have:=s.1 aa ;omega
       have B:(j:Int)+(t:Int)<=62:=aa;have H:ad0 .i64 ((j:Int)+(t:Int))=(j:Int)+(t:Int):=ah;go_wp2;refine ak ?_;exact⟨rfl,U⟩
open Tryz
open _root_.List renaming length→ab0
open Go.IntKind renaming wrap→ad0
open _root_.Go renaming Calls→af4
open Tryz renaming prog→af5
open Go.RowKit
def mO(w:World)(r S R u:TypeId)(k g o x p:Nat)(a:Addr)(s T:Nat)(y:Array Value)(t:TypeId)(z:List Value)
 (U:P.underlying r=some (.slice u)) (q:(P.info? u).map (·.size)=some k)
 (c:w.heap[g]?=some (.cells y t (0,0))) (Y:ab0 z=Nat.min s x * k)
 (X:∀j v,z[j]?=some v->w.cell? (a.add j)=some v) (d:o+ab0 z<=y.size) (f:∀v∈z,v.oneCell'=true) :
 (Builtin.copy_ #[r,S] R #[.slice (some (af7 g o)) x p,.slice (some a) s T]).run P w =
  .ok (goInt (Nat.min s x)) (w.setRow g (y.toList.take o++z++y.toList.drop (o+ab0 z)).toArray):=by
 have b:=run_loadCells_list (P:=P) w a z X;have V:=run_storeCells_at P g o t z 0 y w c (by simpa using d) f;cases hq:P.info? u with
 | none=>simp[hq] at q
 | some i=>
  have v:i.size=k:=by simpa[hq] using q
  simp[Builtin.copy_,run_underlying U,Builtin.lenOf,Builtin.firstCells,sizeOf,typeInfo,hq,v,<-Y,b,V]
def wpList_copy_run(w:World){rest:List Oper}(r:o.guard=none)(d s:Operand)(t z:TypeId)
 (q:o.op=.call {callee:=.builtin .copy,args:=#[d,s],argTypes:=#[t,z]}) (v u:Value) (x:a.eval d=v) (g:a.eval s=u)  
 (p:(Builtin.copy_ #[t,z] o.type #[v,u]).run P w=.ok v' w') (h:wpList P ops Q rest (a.put o.dst v') w'):wpList P ops Q (o::rest) a w:=by
 refine wpList_plain r λK y=>?_;unfold Oper.wp execOp;simp only[q,resolve,invoke,builtin,gX,gV,gu,gD,dO,fP,x,g,p];exact y _ _ h
def su{w:World}{K:Act->World->Prop}{E:Prop}(x:o.guard=none)(d s:Operand)(t z:TypeId)
 (r:o.op=.call {callee:=.builtin .copy,args:=#[d,s],argTypes:=#[t,z]}) (v u:Value) (y:a.eval d=v) (p:a.eval s=u)  
 (q:(Builtin.copy_ #[t,z] o.type #[v,u]).run P w=.ok v' w') (h:K (a.put o.dst v') w'):if Region.wanted o (yielded ops a.tmps)=true then Oper.wp P o a w K Q else E:=by
 have g:Region.wanted o (yielded ops a.tmps)=true:=by simp[Region.wanted,x]
 rw[aH g];unfold Oper.wp execOp;simp only[r,resolve,invoke,builtin,gX,gV,gu,gD,dO,fP,y,p,q];exact h
def rh(l:List Pr)(i:Nat)(x:Pr)(h:i<=ab0 l):ab0 (nW l i x)=ab0 l+1:=by
 unfold nW;rw[aE,aK,aU,aW];omega
def Np(l:List Pr)(x:Pr):nW l (ab0 l) x=l++[x]:=by simp[nW]
def yv(l:List Pr)(i:Nat)(x:Pr)(_h:i<=ab0 l):cellsE iF (nW l i x)=(cellsE iF l).take (i * 2)++iF.enc x++(cellsE iF l).drop (i * 2):=by
 unfold nW;rw[jW,i9,<-vU,<-vV,aN];rfl
def GG(v:Value)(y:Nat)(l:List Pr)(x:Pr)(u:Value)(w:World)(h:g8 iF y w v l)(z:iQ iF w u [x])(X:ab0 l<=100000)(g:y<=w.heap.size):af4 af5 358 #[v,af6 (ab0 l),u] w λe b=>∃t,e=.returned t/\g8 iF y b t (nW l (ab0 l) x)/\w.grownBy b v.ownBlock/\∀k,t.ownBlock=some k->v.ownBlock=some k\/w.heap.size<=k:=by
 have q:=ax h;have p:=ax z;obtain⟨A,c,rfl,_,_,_⟩:=h.form;obtain⟨B,d,rfl,_,_,_⟩:=z.form;clear h z;have r:Hid (nW l (ab0 l) x=l++[x]):=ax (Np l x);have f:c=ab0 l\/¬c=ab0 l:=aa;rcases f with rfl|f
 .go_in
  go_wp2_with (at_builtin;refine oM oB rfl (.tmp 23) (.tmp 24) rfl q.o rfl _ [x] rfl p.o ae g ?_;intro a Y s t z)
  go_wp2;go_ret;exact⟨_,rfl,by rw[r.o];exact s,t,λk e=>(ni z k e).imp id (λh=>by simpa using h)⟩
 .go_in
  go_wp2_with (at_builtin;refine oM oB rfl (.tmp 23) (.tmp 24) rfl q.o rfl _ [x] rfl p.o ae g ?_;intro a Y s t z)
  go_wp2;go_ret;exact⟨_,rfl,by rw[r.o];exact s,t,λk e=>(ni z k e).imp id (λh=>by simpa using h)⟩
def Dw(g c B:Nat)(l:List Pr)(i:Nat)(x:Pr)(ub:Nat)(T:TypeId)(w:World)(h:g8 iF B w (.slice (some (af7 g 0)) (ab0 l) c) l)(hi:i<ab0 l)(hl:ab0 l<=100000)(hroom:ab0 l+1<=c)
 (P:g7 w ub T #[af6 x.1,.int .u64 x.2]) (hne:ub≠g) :
 af4 af5 358 #[.slice (some (af7 g 0)) (ab0 l) c,af6 i,.slice (some (af7 ub 0)) 1 1] w λe w'=>∃z,e=.returned z/\g8 iF B w' z (nW l i x)/\z.ownBlock=some g/\Touch (λk=>k=g) w w':=by
 obtain⟨U,h⟩:=h;rcases h with⟨_,h0⟩|⟨g',cap,t,e,hbg,X,hnc,hcm,q,V⟩
 .omega
 injection e with r L e3;injection r with r;injection r with r;subst r;subst e3;have R:iF.k=2:=rfl;rw[R] at U q V;have⟨n,Q⟩:=ar (ab0 l);rw[Q] at U hnc V hi hl hroom;have G:(prog.info? 192).map (·.size)=some 2:=by kernel_rfl
 have⟨u,a⟩:=ar ((cellsE iF l).drop (i * 2));have f:ab0 u=(n - i) * 2:=by rw[<-a,aW,U,fW]
 have A:∀v∈u,v.oneCell'=true:=λv O=>nX iF l v (by rw[<-a] at O;exact cp O);have hread:∀j v,u[j]?=some v->w.cell? (af7 g (i * 2+j))=some v:=λj v p=>by
  rw[cell_of_row w g _ t _ (0,0) X];have z:j<ab0 u:=(cV.1 p).1;rw[<-a,dz,<-V,di,aH (by rw[f] at z;have:=fW n i 2;omega)] at p;simpa using p
 have F:w.heap[ub]?=some (.cells #[af6 x.1,.int .u64 x.2] T (0,0)):=P;have hov:∀E M,(callFunc 411 #[.slice (some (af7 ub 0)) 1 1,.slice (some ⟨g,(i+1) * 2,none⟩) E M]).run prog w=.ok (.value (.bool false)) w:=λE M=>by
  rw[run_callFunc_extern func411 (by kernel_rfl) (by kernel_rfl) (by kernel_rfl) (e:=Extern.SlicesOverlaps.overlaps #[126,126] #[4]) (by kernel_rfl),
   Lib.run_overlaps_apart w 126 4 192 underlying126 2 (λw=>by kernel_rfl) (af7 ub 0) ⟨g,(i+1) * 2,none⟩ 1 1 E M hne T 192 2 t.size (by rw[show w.shape? ub=some (T,2) from by unfold World.shape?;rw[F];rfl]) (by unfold World.shape?;rw[X];rfl) (by rw[q];omega) (g7.F P 0) (g7.F P 2)]
  rfl
 obtain⟨z,Y⟩:∃y:Array Value,(t.toList.take ((i+1) * 2)++u++t.toList.drop ((i+1) * 2+ab0 u)).toArray=y:=⟨_,rfl⟩;have J:(w.drew.setRow g z).heap[g]?=some (.cells z 192 (0,0)):=setRow_heap w.drew g t z _ _ X;have hsub:=fW n i 2;have I:Nat.min (n+1 - i) (n - i)=n - i:=by show min _ _=_;omega
 have hcp1:∀d s D,(Builtin.copy_ #[126,126] d #[.slice (some ⟨g,(i+1) * 2,none⟩) (n - i) s,.slice (some (af7 g (i * 2))) (n+1 - i) D]).run prog w.drew=.ok (goInt ((n - i:Nat):Int)) (w.drew.setRow g z):=λd s D=>by
  have:=mO w.drew 126 126 d 192 2 g ((i+1) * 2) (n - i) s (af7 g (i * 2)) (n+1 - i) D t 192 u underlying126 G X (by rw[f,I]) (λj v p=>by rw[fR];exact hread j v p) (by rw[f,q];omega) A;rw[I,Y] at this;exact this
 obtain⟨b,S⟩:∃y:Array Value,(z.toList.take (i * 2)++[af6 x.1,Value.int .u64 x.2]++z.toList.drop (i * 2+2)).toArray=y:=⟨_,rfl⟩;have K:z.size=c * 2:=by
  rw[<-Y];simp only[dX,aE,aU,aW,dP,f,q];omega
 have H:Nat.min 1 (n+1 - i)=1:=by show min _ _=_;omega
 have m:∀v∈([af6 x.1,.int .u64 x.2]:List Value),v.oneCell'=true:=λv O=>iF.one x v O;have hcp2:∀(W:World),W.heap=(w.drew.setRow g z).heap->∀d s,(Builtin.copy_ #[126,126] d #[.slice (some (af7 g (i * 2))) (n+1 - i) s,.slice (some (af7 ub 0)) 1 1]).run prog W=.ok (goInt 1) (W.setRow g b):=λW o d s=>by
  have y:W.heap[ub]?=some (.cells #[af6 x.1,.int .u64 x.2] T (0,0)):=by rw[o,setRow_other w.drew g ub z hne];exact F
  have:=mO W 126 126 d 192 2 g (i * 2) (n+1 - i) s (af7 ub 0) 1 1 z 192 [af6 x.1,.int .u64 x.2] underlying126 G (by rw[o];exact J) (by rw[H];rfl) (λj v p=>by
   rw[fR,cG,cell_of_row W ub _ _ _ (0,0) y];simpa using p) (by rw[K];simp only[aK,aY];omega) m
  rw[H] at this;rw[<-S];exact this
 have hfin:b.toList.take ((n+1) * 2)=cellsE iF (nW l i x)/\b.size=c * 2:=by
  have y:ab0 ((cellsE iF l).take (i * 2))=i * 2:=by rw[aU,U];omega
  have r:z.toList.take (i * 2)=(cellsE iF l).take (i * 2):=by
   rw[<-Y,aN,cT (by rw[aU,dP,q];omega),List.take_take,<-V,List.take_take]
   congr 1;omega
  have L:z.toList.drop (i * 2+2)=u++t.toList.drop ((i+1) * 2+ab0 u):=by
   rw[<-Y];have hl:ab0 (t.toList.take ((i+1) * 2))=i * 2+2:=by rw[aU,dP,q];omega
   rw[aN,List.drop_append_of_le_length aa,eu aa,bB]
  refine⟨?_,?_⟩
  .rw[<-S,r,L,yv l i x aa,a]
   show List.take _ (_++iF.enc x++(u++_))=_
   rw[<-aN (_++iF.enc x),cT (by simp only[aE,y,f,iF.len];rw[R];omega)];exact bc (by simp only[aE,y,f,iF.len];rw[R];omega)
  .rw[<-S]
   simp only[dX,aE,aU,aW,dP,K,aK,aY];omega
 have C:=ax hfin;have N:=ax Q;have HG1:=ax J;have HBG:=ax hbg;have HCM:=ax hcm;have XM:=ax hcp1;have HP2:=ax hcp2;have y:=ax (rh l i x aa);rw[Q];have hw1:ad0 .i64 ((i:Int)+1)=(i:Int)+1:=ah;have hw2:ad0 .i64 ((n:Int)+1)=(n:Int)+1:=ah;have hb4:¬(c=i):=aa;have hb1:(0:Int)<=(i:Int)+1:=aa;have hb2:(i:Int)<=(n:Int):=aa;have hb3:(i:Int)+1<=(n:Int)+1:=aa;have hb6:(i:Int)<=(n:Int)+1:=aa;have htn:((i:Int)+1).toNat=i+1:=aa;have hb5:¬(c=i+1):=aa;clear L hfin hcp1 hcp2 Y S K m hread A f a U V q X J I H hsub F Q G P hbg hcm;go_in;go_wp2_with (simp only[hov])
 go_region_law (refine su rfl _ _ 126 126 rfl _ _ (by simp[Act.eval,Act.put]) (by simp[Act.eval,Act.put]) (XM.o 3 (c - (i+1)) (c - i)) ?_)
 go_wp2_with (refine wpList_copy_run _ rfl (.tmp 80) (.tmp 81) 126 126 rfl _ _ rfl rfl (HP2.o (w.drew.setRow g z) rfl _ _) ?_)
 refine ak ?_;refine⟨_,rfl,?_,rfl,?_⟩
 .refine⟨by rw[iA],.inr ⟨g,c,b,by rw[y.o,N.o],HBG.o,?_,by rw[y.o,N.o];exact hroom,HCM.o,C.o.2,by rw[y.o,N.o];exact C.o.1⟩⟩
  exact setRow_heap _ g z b _ _ HG1.o
 .exact⟨rfl,rfl,rfl,by simp[World.setRow],λk R q=>(setRow_other _ g k _ q).T (setRow_other _ g k _ q)⟩
def Dx(g c base:Nat)(l:List Pr)(i:Nat)(x:Pr)(ub:Nat)(T:TypeId)(w:World)(h:g8 iF base w (.slice (some (af7 g 0)) (ab0 l) c) l)(hi:i<ab0 l)(hl:ab0 l<=100000)(hroom:c<ab0 l+1)
 (hu:g7 w ub T #[af6 x.1,.int .u64 x.2]) :
 af4 af5 358 #[.slice (some (af7 g 0)) (ab0 l) c,af6 i,.slice (some (af7 ub 0)) 1 1] w λe w'=>∃z,e=.returned z/\g8 iF w.heap.size w' z (nW l i x)/\af3 w w':=by
 obtain⟨i0,hi0,hiz,A,C⟩:=cR prI;obtain⟨R,h⟩:=h;rcases h with⟨_,h0⟩|⟨g',cap,cur,e,_,K,hnc,hcm,hcs,H⟩
 .omega
 injection e with d e2 e3;injection d with d;injection d with d;subst d;subst e3;have m:iF.k=2:=rfl;rw[m] at R hcs H;have hmax:maxLen=9223372036854775807:=rfl;have⟨n,I⟩:=ar (ab0 l);rw[I] at R hnc H hi hl hroom;have hsz:(prog.info? 192).map (·.size)=some 2:=by kernel_rfl
 have ugl:=g7.lt hu;have ggl:g<w.heap.size:=by
  rcases bm g w.heap.size with y|z
  .exact y
  .rw[dc z] at K;cases K
 have⟨p,U⟩:=ar ((cellsE iF l).drop (i * 2));have⟨s,O⟩:=ar ((cellsE iF l).take (i * 2));have Y:ab0 p=(n - i) * 2:=by rw[<-U,aW,R,fW]
 have b:ab0 s=i * 2:=by rw[<-O,aU,R];omega
 have h1c:∀v∈p,v.oneCell'=true:=λv a=>nX iF l v (by rw[<-U] at a;exact cp a);have hrow:∀j v,j<n * 2->(cellsE iF l)[j]?=some v->w.cell? (af7 g j)=some v:=λj v u a=>by
  rw[cell_of_row w g _ cur _ (0,0) K];rw[<-H,di,aH u] at a;simpa using a
 have hsub:=fW n i 2;have hread:∀j v,p[j]?=some v->w.cell? (af7 g (i * 2+j))=some v:=λj v u=>by
  have z:j<ab0 p:=(cV.1 u).1;rw[<-U,dz] at u;exact hrow _ v (by rw[Y] at z;omega) u
 have hold:(Builtin.firstCells i0.size i (.slice (some (af7 g 0)) i c)).run prog w.drew=.ok s.toArray w.drew:=by
  rw[A];exact run_firstCells_some w.drew 2 i (af7 g 0) i c s b (λj v u=>by
   rw[fR,cG];have z:j<ab0 s:=(cV.1 u).1;rw[<-O,di,aH (by rw[b] at z;omega)] at u;exact hrow j v (by rw[b] at z;omega) u)
 have hkk:(n:Int)+1 - (i:Int)=((n+1 - i:Nat):Int):=aa;have B:i+(n+1 - i)=n+1:=aa;have⟨G,Q⟩:=ar (grownCap w (n+1) c 192);have hGn:n+1<=G:=by rw[<-Q];exact grownCap_ge w _ _ _
 have hGm:G<=maxLen:=by rw[<-Q];exact grownCap_le_maxLen w (n+1) c 192 (by rw[hmax];omega)
 obtain⟨q,N⟩:∃y:Array Value,s.toArray++Builtin.zeroCells (Value.agg #[af6 0,.int .u64 0]).cells (n+1 - i)++Builtin.zeroCells (Value.agg #[af6 0,.int .u64 0]).cells (G - (n+1))=y:=⟨_,rfl⟩;have E:q.size=G * 2:=by
  have z:(Value.agg #[af6 0,.int .u64 0]).cells.size=2:=rfl;rw[<-N,fh,fh,size_zeroCells,size_zeroCells,z,dX,b];omega
 have hrz:∀r,(Builtin.append_ #[126,3] r #[.slice (some (af7 g 0)) i c,af6 ((n:Int)+1 - (i:Int))]).run prog w =
  .ok (.slice (some (af7 (w.heap.size) 0)) (n+1) G) (w.drew.alloc (.cells q 192)):=λr=>by
  have h:=Lib.run_append_grow_zeros (P:=prog) w 126 3 r 192 i0 _ .i64 .i64 underlying126 underlying3 hi0 hiz (some (af7 g 0)) i c s hold (n+1 - i) aa (by rw[A];decide) aa  aa (by rw[C];omega) (by rw[C,B];exact growslice_fits hroom aa);rw[B,Q,N] at h;rw[hkk];exact h
 have⟨t,S⟩:=ar (w.drew.alloc (.cells q 192));rw[S] at hrz;have J:t.heap[w.heap.size]?=some (.cells q 192 (0,0)):=by rw[<-S];exact cH w.drew _
 have P:af3 w t:=by rw[<-S];exact(aC w.heap.size w).drew.alloc (aD _) _
 have hub:t.heap[ub]?=some (.cells #[af6 x.1,.int .u64 x.2] T (0,0)):=(P.block ub ugl).T hu;obtain⟨z,M⟩:∃y:Array Value,(q.toList.take (i * 2)++[af6 x.1,Value.int .u64 x.2]++q.toList.drop (i * 2+2)).toArray=y:=⟨_,rfl⟩;have D:z.size=G * 2:=by
  rw[<-M];simp only[dX,aE,aU,aW,dP,E,aK,aY];omega
 have Nq:Nat.min 1 (n+1 - i)=1:=by show min _ _=_;omega
 have o:Nat.min (n - i) (n - i)=n - i:=by show min _ _=_;omega
 have h1x:∀v∈([af6 x.1,.int .u64 x.2]:List Value),v.oneCell'=true:=λv a=>iF.one x v a;have hcp2:∀(W:World),W.heap=t.heap->∀r f,(Builtin.copy_ #[126,126] r #[.slice (some (af7 (w.heap.size) (i * 2))) (n+1 - i) f,.slice (some (af7 ub 0)) 1 1]).run prog W=.ok (goInt 1) (W.setRow w.heap.size z):=λW V r f=>by
  have:=mO W 126 126 r 192 2 w.heap.size (i * 2) (n+1 - i) f (af7 ub 0) 1 1 q 192 [af6 x.1,.int .u64 x.2] underlying126 hsz (by rw[V];exact J) (by rw[Nq];rfl) (λj v u=>by
   rw[fR,cG,cell_of_row W ub _ _ _ (0,0) (by rw[V];exact hub)];simpa using u) (by rw[E];simp only[aK,aY];omega) h1x
  rw[Nq] at this;rw[<-M];exact this
 obtain⟨X,L⟩:∃y:Array Value,(z.toList.take ((i+1) * 2)++p++z.toList.drop ((i+1) * 2+ab0 p)).toArray=y:=⟨_,rfl⟩;have hcp1:∀(W:World),(∀k,W.heap[k]?=(t.setRow w.heap.size z).heap[k]?)->∀r f sc,(Builtin.copy_ #[126,126] r #[.slice (some ⟨w.heap.size,(i+1) * 2,none⟩) (n - i) f,.slice (some (af7 g (i * 2))) (n - i) sc]).run prog W=.ok (goInt ((n - i:Nat):Int)) (W.setRow w.heap.size X):=λW V r f sc=>by
  have y:W.heap[w.heap.size]?=some (.cells z 192 (0,0)):=by rw[V];exact setRow_heap t _ q z _ _ J
  have F:W.heap[g]?=w.heap[g]?:=by rw[V,setRow_other t _ g z aa];exact P.block g ggl
  have:=mO W 126 126 r 192 2 w.heap.size ((i+1) * 2) (n - i) f (af7 g (i * 2)) (n - i) sc z 192 p underlying126 hsz y (by rw[Y,o]) (λj v u=>by
   rw[fR];exact(bn F).T (hread j v u)) (by rw[Y,D];omega) h1c
  rw[o,L] at this;exact this
 have hfin:X.toList.take ((n+1) * 2)=cellsE iF (nW l i x)/\X.size=G * 2:=by
  have y:q.toList.take (i * 2)=s:=by
   rw[<-N];simp only[Array.toList_append,aN];rw[cT aa,bc aa]
  have d:z.toList.take ((i+1) * 2)=s++[af6 x.1,Value.int .u64 x.2]:=by
   rw[<-M,y];have F:ab0 (s++[af6 x.1,.int .u64 x.2])=(i+1) * 2:=by rw[aE,b];simp only[aK,aY];omega
   show List.take _ (s++[af6 x.1,.int .u64 x.2]++_)=_
   rw[cT aa,bc aa]
  refine⟨?_,?_⟩
  .rw[<-L,d,yv l i x aa,U,O]
   have F:ab0 (s++[af6 x.1,.int .u64 x.2]++p)=(n+1) * 2:=by rw[aE,aE,b,Y];simp only[aK,aY];omega
   show List.take _ (s++[af6 x.1,.int .u64 x.2]++p++_)=_
   rw[cT aa,bc aa];rfl
  .rw[<-L]
   simp only[dX,aE,aU,aW,dP,D,Y];omega
 have HF:=ax hfin;have F:=ax I;have WM:=ax J;have HCM:=ax hGm;have XM:=ax hcp1;have HP2:=ax hcp2;have HRZ:=ax hrz;have HB1:=ax P;have y:=ax (rh l i x aa);have ab4:w.heap.size<t.heap.size:=by rw[<-S];simp
 rw[I];have hz3:(c:Int)<(n:Int)+1:=aa;have hv1:ad0 .i64 ((i:Int)+1)=(i:Int)+1:=ah;have hv2:ad0 .i64 ((n:Int)+1)=(n:Int)+1:=ah;have hb4:¬(c=i):=aa;have ab5:(0:Int)<=(i:Int)+1:=aa;have hb2:(i:Int)<=(n:Int):=aa;have hb3:(i:Int)+1<=(n:Int)+1:=aa;have hb6:(i:Int)<=(n:Int)+1:=aa;have htn:((i:Int)+1).toNat=i+1:=aa;have hG4:¬(G=i):=aa;have hG5:¬(G=i+1):=aa;clear e2 hfin hcp1 hcp2 M L D h1x hread h1c Y U R H hcs K J o Nq hsub hub I hsz hu hcm hrz hrow hold hkk B Q E N b O S P hGm hi0 hiz A C;go_in;go_upto_region 10 with(at_builtin;refine Lib.wpList_append_run _ rfl _ _ _ _ rfl _ _ rfl rfl _ _ (HRZ.o _) ?_);go_wp2_with (refine wpList_copy_run _ rfl (.tmp 43) (.tmp 44) 126 126 rfl _ _ rfl rfl (HP2.o t rfl _ _) ?_)
 go_region_law (refine su rfl _ _ 126 126 rfl _ _ (by simp[Act.eval,Act.put]) (by simp[Act.eval,Act.put]) (XM.o (t.setRow w.heap.size z).drew (λ_=>rfl) 3 (G - (i+1)) (c - i)) ?_)
 go_wp2;refine ak ?_;refine⟨_,rfl,?_,?_⟩
 .refine⟨by rw[iA],.inr ⟨w.heap.size,G,X,by rw[y.o,F.o],aD _,?_,by rw[y.o,F.o];exact hGn,HCM.o,HF.o.2,by rw[y.o,F.o];exact HF.o.1⟩⟩
  exact setRow_heap _ _ z X _ _ (setRow_heap t _ q z _ _ WM.o)
 .have h:=HB1.o
  exact⟨h.os,h.tape,h.output,by simp[World.setRow];omega,λk m=>((setRow_other _ _ k _ aa).T (setRow_other _ _ k _ aa)).T (h.block k m)⟩
