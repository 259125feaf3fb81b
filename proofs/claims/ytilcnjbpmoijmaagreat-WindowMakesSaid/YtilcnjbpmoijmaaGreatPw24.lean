/- Parts of a proof. No condition. -/
import Derived.Maps.RangeWalk
import Derived.Maps.OwnSet
import Derived.Maps.OwnOps
import Derived.Test.YtilcnjbpmoijmaaGreatPw15
import Derived.Shelf.SortM.Plain
import Derived.Shelf.SortM.SortNone
import Derived.Shelf.SlicesG.SearchI
import Derived.Shelf.SlicesG.Clone
import Derived.Shelf.SlSortCmp.WholeK
set_option maxRecDepth 100000
set_option maxHeartbeats 16000000
set_option linter.unusedVariables false
set_option linter.unusedSimpArgs false
namespace Go.Proofs.YtilcnjbpmoijmaaGreat.D
open Tryz
open Go.Maps
variable{b k m u v:Nat}{D:DataW Unit}{l out:List Pr}{c x:Int}{left:Lit->Bool}
abbrev iL(k:Int):Lit:=.int .i64 k
theorem iLk(k:Int):WideAt.IsKeyLit (iL k):=trivial
abbrev uD(n:Int):DataW Unit:=.lit (.int .u64 n)
theorem Vg{a b:Int}(h:a≠b):iL a≠iL b:=fun e=>h (by cases e;rfl)
theorem ao9(a b:Int):(iL a).sameKey (iL b)=decide (a=b):=by
 by_cases h:a=b
 ·subst h;rw[WideAt.sameKey_self (iLk _)];simp
 ·rw[sameKey_ne (Vg h)];simp[h]
structure LkD(D:DataW Unit)(l:List Pr):Prop where
 tidy:Tidy D
 aa4:∀k:Int,Maps.has D (iL k)=decide (∃p∈l,p.1=k)
 at_:∀(k:Int) (z:DataW Unit),Maps.has D (iL k)=true->D.atKey (iL k) z=uD (lS l k)
 sz:Maps.size D=l.length
theorem ba9:LkD (.map []) []:=⟨tidy_empty,fun k=>by simp[Maps.has],fun k z h=>by simp[Maps.has] at h,rfl⟩
theorem LkD.get(h:LkD D l)(k:Int):D.atKey (iL k) (uD 0)=uD (lS l k):=by
 by_cases hk:Maps.has D (iL k)=true
 ·exact h.at_ k _ hk
 ·have h0:=h.aa4 k
  have hf:Maps.has D (iL k)=false:=by simpa using hk
  rw[hf] at h0;rw[atKey_of_not_has hf,nG];intro p hp e;exact absurd h0.symm (by simp;exact⟨p.2,by rw[<-e];exact hp⟩)
theorem Vh{k n:Int}:∀{l:List Pr},gU l->(gz k n l).length=if (∃p∈l,p.1=k) then l.length else l.length+1
 | [],_=>by simp[gz]
 | p::l,s=>by
  have s1:=aZ.1 s;have ih:=Vh (k:=k) (n:=n) s1.2;unfold gz
  by_cases h1:p.1<k
  ·have e:(∃q∈p::l,q.1=k)<->(∃q∈l,q.1=k):=⟨fun⟨q,hq,e⟩=>by
    rcases bn.1 hq with rfl|hq
    ·omega
    ·exact⟨q,hq,e⟩,fun⟨q,hq,e⟩=>⟨q,aY _ hq,e⟩⟩
   rw[if_pos h1,aU,ih]
   by_cases hx:∃q∈l,q.1=k
   ·rw[if_pos hx,if_pos (e.2 hx)];simp
   ·rw[if_neg hx,if_neg (fun h=>hx (e.1 h))];simp
  ·rw[if_neg h1]
   by_cases h2:p.1=k
   ·rw[if_pos h2,if_pos ⟨p,aT ..,h2⟩];simp
   ·rw[if_neg h2,if_neg]
    ·simp
    ·rintro ⟨q,hq,e⟩
     rcases bn.1 hq with rfl|hq
     ·exact h2 e
     ·have:=s1.1 q hq;omega
theorem LkD.put{D:DataW Unit}{l:List Pr}(h:LkD D l)(s:gU l)(hp:gK l)(k n:Int)(hn:0<n):LkD (D.put (iL k) (uD (lS l k+n))) (gz k n l):=by
 have hput:=put_pos hn hp (k:=k);refine⟨h.tidy.put (iLk _) _,fun j=>?_,fun j z hj=>?_,?_⟩
 ·have e:=pI hput j
  rw[AX] at e
  by_cases hjk:j=k
  ·subst hjk
   rw[has_put_same h.tidy.isMap (iLk _)];have:=jZ (k:=j) hp;simp only[if_pos] at e;exact(decide_eq_true (e.2 ae)).symm
  ·rw[has_put_other (Vg hjk),h.aa4 j]
   rw[if_neg (fun h=>hjk h.symm),Int.add_zero] at e
   have e0:=pI hp j
   congr 1
   exact propext (e0.trans e.symm)
 ·rw[AX]
  by_cases hjk:j=k
  ·subst hjk
   rw[atKey_put_same h.tidy.isMap (iLk _),if_pos rfl]
  ·rw[has_put_other (Vg hjk)] at hj
   rw[atKey_put_other (Vg hjk),h.at_ j z hj,if_neg (fun h=>hjk h.symm),Int.add_zero]
 ·rw[size_put h.tidy,h.sz,h.aa4 k,Vh s]
  by_cases hx:∃p∈l,p.1=k<;>simp[hx]
theorem ax2(s:gU l){p:Pr}(h:p∈l):lS l p.1=p.2:=by
 induction l with
 | nil=>cases h
 | cons q l ih=>
  have s1:=aZ.1 s
  rcases bn.1 h with rfl|h
  ·exact Kw s
  ·have h1:=s1.1 p h
   have:=ih s1.2 h;have e:lS (q::l) p.1=(if q.1=p.1 then q.2 else 0)+lS l p.1:=by simp[lS]
   rw[e,this,if_neg ae];omega
def RgI(l out:List Pr)(left:Lit->Bool):Prop:=(out++l.filter (fun p=>left (iL p.1))).Perm l
theorem aa5(h:LkD D l):RgI l [] (Maps.has D):=by
 show(l.filter (fun p=>Maps.has D (iL p.1))).Perm l
 rw[List.filter_eq_self.2 (fun p hp=>by rw[h.aa4];exact decide_eq_true ⟨p,hp,rfl⟩)]
theorem Df{f:Int->Bool}{p:Pr}:∀{l:List Pr},gU l->p∈l->f p.1=true->(p::l.filter (fun q=>f q.1 && !decide (q.1=p.1))).Perm (l.filter (fun q=>f q.1))
 | [],_,h,_=>by cases h
 | q::l,s,h,hf=>by
  have s1:=aZ.1 s
  rcases bn.1 h with rfl|h
  ·have e:l.filter (fun q=>f q.1 && !decide (q.1=p.1))=l.filter (fun q=>f q.1):=List.filter_congr fun q hq=>by
    have:=s1.1 q hq;have h2:¬q.1=p.1:=ae
    simp[h2]
   simp[hf,e]
  ·have h1:=s1.1 p h
   have h2:¬q.1=p.1:=ae
   have ih:=Df s1.2 h hf
   cases hq:f q.1
   ·simpa[hq,h2] using ih
   ·simp only[List.filter_cons,hq,h2,decide_false,Bool.not_false,Bool.and_self,if_true]
    exact(List.Perm.swap q p _).trans (ih.cons q)
theorem bm4(h:LkD D l)(s:gU l)(hat:∀z,D.atKey (iL x) z=uD c):(x,c)∈l:=by
 have h1:=has_true_of_atKey hat;have h2:=h.at_ x (uD 0) h1;rw[hat] at h2;have h3:=h.aa4 x;rw[h1] at h3;obtain⟨p,hp,rfl⟩:=of_decide_eq_true h3.symm;rw[ax2 s hp] at h2
 cases h2
 exact hp
theorem ap0(s:gU l)(h:RgI l out left)(hx:left (iL x)=true)(hm:(x,c)∈l):RgI l (out++[(x,c)]) (fun z=>left z && !z.sameKey (iL x)):=by
 unfold RgI;have e:l.filter (fun p=>left (iL p.1) && !(iL p.1).sameKey (iL x))=l.filter (fun p=>left (iL p.1) && !decide (p.1=x)):=List.filter_congr fun p _=>by rw[ao9]
 rw[e,aX];refine List.Perm.trans ?_ h
 exact List.Perm.append_left out (Df (f:=fun k=>left (iL k)) (p:=(x,c)) s hm hx)
theorem bb4(h:RgI l out left)(h0:∀kl,left kl=false):out.Perm l:=by
 unfold RgI at h;rw[List.filter_eq_nil_iff.2 (fun p _=>by rw[h0];simp),List.append_nil] at h
 exact h
theorem bb5(h:RgI l out left):out.length<=l.length:=by
 have:=h.length_eq;rw[aQ] at this;omega
theorem ap1{a b:List Pr}(h:a.Perm b)(k:Int):lS a k=lS b k:=by
 induction h with
 | nil=>rfl
 | cons x _ ih=>simp only[lS,List.map_cons,List.sum_cons] at ih |-;omega
 | swap x y l=>simp only[lS,List.map_cons,List.sum_cons];omega
 | trans _ _ i1 i2=>exact i1.trans i2
theorem Xo{r:List Pr}(s:gU l)(hp:gK l)(h:r.Perm l)(hr:r.Pairwise (fun a b=>a.1<=b.1)):r=l:=by
 have hne:r.Pairwise (fun a b=>a.1≠b.1):=(h.pairwise_iff (fun {a b} (h:a.1≠b.1)=>h.symm)).2 (s.imp (fun h=>by omega))
 have hs:gU r:=(hr.and hne).imp (fun h=>by omega)
 exact UW hs s (fun p hpr=>hp p (h.mem_iff.1 hpr)) hp (fun k=>ap1 h k)
open Tryz
open Go.Lib
theorem aa6:(2:Nat) ^ 64=18446744073709551616:=af
theorem sU{x:Nat}(hx:x<18446744073709551616):Lib.bitLen x<=k<->x<2 ^ k:=by
 constructor
 ·intro h
  by_cases hk:x<2 ^ k
  ·exact hk
  ·have h1:=Lib.bitLen_shift k x ae (by rw[aa6];exact hx)
   have hp:0<2 ^ k:=Nat.two_pow_pos k;have h2:1<=x / 2 ^ k:=(Nat.le_div_iff_mul_le hp).2 ae
   have h3:x / 2 ^ k<2 ^ 64:=by rw[aa6];exact Nat.lt_of_le_of_lt (Nat.div_le_self ..) hx
   have h4:=Lib.bitLen_half (x / 2 ^ k) ae h3
   omega
 ·intro h
  by_cases hk:k<=64
  ·exact Lib.bitLen_le x k hk h
  ·exact bJ (Lib.bitLen_le x 64 (aS _) (by rw[aa6];exact hx)) ae
theorem Gv{x:Nat}(hx:x<18446744073709551616):k<Lib.bitLen x<->2 ^ k<=x:=by
 have:=sU (k:=k) hx;omega
def iP(u m v:Nat):Nat:=Lib.bitLen v - (u+m)
theorem ax3(hv:v<18446744073709551616):v<2 ^ (u+m+iP u m v):=(sU hv).1 (by unfold iP;omega)
theorem bm5(hv:v<18446744073709551616)(h:0<iP u m v):2 ^ (u+m+iP u m v - 1)<=v:=(Gv hv).1 (by unfold iP at *;omega)
theorem Gw(hv:v<18446744073709551616):iP u m v<=b<->v<2 ^ (u+m+b):=by
 rw[<-sU hv];unfold iP;omega
theorem qN(hv:v<9223372036854775808):u+m+iP u m v<=63\/iP u m v=0:=by
 have h:Lib.bitLen v<=63:=(sU ae).2 (by rw[show(2:Nat) ^ 63=9223372036854775808 by decide];exact hv)
 unfold iP;omega
def SC(u m v:Nat):Nat:=v / 2 ^ (iP u m v+u)
theorem Vj(hv:v<18446744073709551616):SC u m v<2 ^ m:=by
 unfold SC;rw[Nat.div_lt_iff_lt_mul (Nat.two_pow_pos _),<-Nat.pow_add];rw[show m+(iP u m v+u)=u+m+iP u m v by omega]
 exact ax3 hv
theorem ax4(hm:0<m)(hv:v<18446744073709551616)(h:0<iP u m v):2 ^ (m - 1)<=SC u m v:=by
 unfold SC;rw[Nat.le_div_iff_mul_le (Nat.two_pow_pos _),<-Nat.pow_add];rw[show m - 1+(iP u m v+u)=u+m+iP u m v - 1 by omega]
 exact bm5 hv h
def Aj(u m v:Nat):Nat:=iP u m v * 2 ^ (m - 1)+SC u m v
theorem Oi(hm:0<m):2 ^ m=2 * 2 ^ (m - 1):=by
 rw[show m=m - 1+1 by omega,Nat.pow_succ];simp[dC]
def unN(m i:Nat):Nat × Nat:=if i / 2 ^ (m - 1)=0 then(0,i) else(i / 2 ^ (m - 1) - 1,i % 2 ^ (m - 1)+2 ^ (m - 1))
theorem aa7(hm:0<m)(hv:v<18446744073709551616):unN m (Aj u m v)=(iP u m v,SC u m v):=by
 have h1:=Vj (u:=u) (m:=m) hv;have h2:=ax4 (u:=u) hm hv;have hp:0<2 ^ (m - 1):=Nat.two_pow_pos _;rw[Oi hm] at h1;unfold unN Aj;obtain⟨H,hH⟩:∃H,H=2 ^ (m - 1):=⟨_,rfl⟩;obtain⟨b,hb⟩:∃b,b=iP u m v:=⟨_,rfl⟩;obtain⟨c,hc⟩:∃c,c=SC u m v:=⟨_,rfl⟩;rw[<-hH,<-hc] at h1;rw[<-hH,<-hb,<-hc] at h2;rw[<-hH] at hp;rw[<-hH,<-hb,<-hc]
 by_cases hs:c<H
 ·have hb0:b=0:=ae
  rw[hb0,Nat.zero_mul,Nat.zero_add,Nat.div_eq_of_lt hs];simp
 ·have e:b * H+c=(b+1) * H+(c - H):=by rw[Nat.succ_mul];omega
  have e1:(b * H+c) / H=b+1:=by
   rw[e,dC,Nat.mul_add_div hp,Nat.div_eq_of_lt ae]
  have e2:(b * H+c) % H=c - H:=by rw[e,dC,Nat.mul_add_mod,Nat.mod_eq_of_lt ae]
  rw[e1,e2,if_neg ae]
  exact Prod.ext ag (by show c - H+H=c;omega)
def YO(u m v:Nat):Nat:=SC u m v * 2 ^ (iP u m v+u)
theorem aa8(u m v:Nat):YO u m v<=v:=Nat.div_mul_le_self ..
theorem bm6(hm:0<m)(hv:v<18446744073709551616):iP u m (YO u m v)=iP u m v:=by
 have hl:=aa8 u m v;have hl':YO u m v<18446744073709551616:=ae
 refine Nat.le_antisymm ?_ ?_
 ·rw[Gw hl']
  exact Nat.lt_of_le_of_lt hl (ax3 hv)
 ·by_cases h0:iP u m v=0
  ·omega
  ·by_cases hc:iP u m v<=iP u m (YO u m v)
   ·exact hc
   ·have h1:iP u m (YO u m v)<=iP u m v - 1:=ae
    rw[Gw hl'] at h1;have h2:=ax4 (u:=u) hm hv ae
    have h3:2 ^ (m - 1) * 2 ^ (iP u m v+u)<=YO u m v:=Nat.mul_le_mul_right _ h2;rw[<-Nat.pow_add,show m - 1+(iP u m v+u)=u+m+(iP u m v - 1) by omega] at h3
    omega
open Tryz
open Go.RowKit Go.Lib
theorem pW{a:Nat}(h:a<=b):2 ^ a<=2 ^ b:=Nat.pow_le_pow_right ae h
theorem bb6{n:Nat}(h:n<=63):0<2 ^ n/\2 ^ n<=9223372036854775808:=⟨Nat.two_pow_pos n,pW h⟩
theorem yj(n:Nat)(w:World)(h:n<=63):aH 155 #[.int .i64 n] w fun e w'=>e=.returned (.int .u64 ((2 ^ n:Nat):Int))/\w=w':=by
 obtain⟨R,hR⟩:=aF (2 ^ n);have HR:=aI hR;rw[hR];clear hR
 go_enter func155,ntmps155
 go_wp2_with fail
 go_loopg [3,4] n (fun q p x wr=>(∃j:Nat,q=n - j/\j<=n/\x=.int .i64 j/\p=.int .u64 ((2 ^ j:Nat):Int))/\w=wr)
 case atStart=>exact⟨⟨0,rfl,ae,rfl,rfl⟩,rfl⟩
 case round=>
  obtain⟨⟨j,hq,hj,rfl,rfl⟩,rfl⟩:=hrel;have HQ:=aI hq;clear hq
  by_cases hlt:j<n
  ·have hji:(j:Int)<(n:Int):=ae
   have HP:=aI (bb6 (n:=j+1) ae)
   have HS:Hid (2 ^ (j+1)=2 * 2 ^ j):=aI (by rw[Nat.pow_succ];omega)
   rw[HS.o] at HP;generalize 2 ^ j=p at *;have hp:=HP.o
   go_wp2_with fail
   go_roundg (n - (j+1))
   case measure=>have:=HQ.o;omega
   case rel=>exact⟨⟨j+1,rfl,ae,ai,by rw[HS.o];go_num⟩,rfl⟩
  ·obtain rfl:j=n:=ae
   rw[HR.o]
   go_wp2_with fail
   go_ret;exact⟨rfl,rfl⟩
theorem Dh(u m v:Nat)(w:World)(hu:u+m<=62)(hv:v<9223372036854775808):aH 88 #[.int .i64 u,.int .i64 m,.int .i64 v] w fun e w'=>e=.returned (.int .i64 (iP u m v))/\w=w':=by
 have HM:=aI (qN (u:=u) (m:=m) hv);have HL:Hid (∀j,iP u m v<=j<->v<2 ^ (u+m+j)):=aI (fun j=>Gw ae)
 have hmx:=HM.o;generalize iP u m v=B at *
 go_enter func88,ntmps88
 go_wp2_with fail
 go_loopg [7] B (fun q x wr=>(∃j:Nat,q=B - j/\j<=B/\x=.int .i64 j)/\w=wr)
 case atStart=>exact⟨⟨0,rfl,ae,rfl⟩,rfl⟩
 case round=>
  obtain⟨⟨j,hq,hj,rfl⟩,rfl⟩:=hrel;have HQ:=aI hq;clear hq;obtain⟨t,ht⟩:=aF (u+m);obtain⟨s,hs⟩:=aF (u+m+j);have e1:IntKind.i64.wrap ((u:Int)+(m:Int))=(t:Int):=ak
  have e2:IntKind.i64.wrap ((t:Int)+(j:Int))=(s:Int):=ak
  have ev:IntKind.u64.wrap (v:Int)=(v:Int):=by rw[fF];omega
  have hl:=HL.o j;rw[hs] at hl
  by_cases hlt:j<B
  ·have h63:(s:Int)<63:=ae
   have CP:=aI (yj s w ae)
   have hge:2 ^ s<=v:=by
    rcases bV v (2 ^ s) with h|h
    ·have:=hl.2 h;omega
    ·exact h
   obtain⟨P,hP⟩:=aF (2 ^ s);rw[hP] at CP hge;have hge':(P:Int)<=(v:Int):=ae
   have cg3:j<63:=ae
   clear hP hs ht hl hmx hge HL HM
   go_wp2_with (go_at_call 155;refine(CP.o).mono ?_;rintro e w' ⟨rfl,rfl⟩)
   go_roundg (B - (j+1))
   case measure=>have:=HQ.o;omega
   case rel=>exact⟨⟨j+1,rfl,ae,ai⟩,rfl⟩
  ·obtain rfl:j=B:=ae
   by_cases h63:(s:Int)<63
   ·have CP:=aI (yj s w ae)
    have hlt':=hl.1 (aS _);obtain⟨P,hP⟩:=aF (2 ^ s);rw[hP] at CP hlt';have hge':¬(P:Int)<=(v:Int):=ae
    clear hP hs ht hl hmx hlt' HL HM
    go_wp2_with (go_at_call 155;refine(CP.o).mono ?_;rintro e w' ⟨rfl,rfl⟩)
    go_ret;exact⟨rfl,rfl⟩
   ·clear hs ht hl hmx HL HM
    go_wp2_with fail
    go_ret;exact⟨rfl,rfl⟩
def uG(u m n:Nat):Nat:=if 63<=n - 1+u+m then 9223372036854775807 else 2 ^ (n - 1+u+m) - 1
theorem aa9(u m n:Nat)(w:World)(hu:u+m<=62)(n0:1<=n)(n1:n<=64):aH 146 #[.int .i64 u,.int .i64 m,.int .i64 n] w fun e w'=>e=.returned (.int .i64 (uG u m n))/\w=w':=by
 have HT:Hid (uG u m n=if 63<=n - 1+u+m then 9223372036854775807 else 2 ^ (n - 1+u+m) - 1):=aI rfl
 rw[HT.o];obtain⟨k,rfl⟩:∃k,n=k+1:=⟨n - 1,ae⟩
 simp only[Nat.add_sub_cancel] at HT |-;obtain⟨t,ht⟩:=aF (k+u);obtain⟨s,hs⟩:=aF (k+u+m);have e1:IntKind.i64.wrap ((k:Int)+(u:Int))=(t:Int):=ak
 have e2:IntKind.i64.wrap ((t:Int)+(m:Int))=(s:Int):=ak
 have ek:IntKind.i64.wrap (k:Int)=(k:Int):=ak
 have em:max ((k:Int)+1) 1=(k:Int)+1:=ae
 have em2:min ((k:Int)+1) 64=(k:Int)+1:=ae
 rw[hs]
 by_cases h63:63<=s
 ·have hge:(63:Int)<=(s:Int):=ae
  rw[if_pos h63];clear HT ht hs
  go_enter func146,ntmps146
  go_wp2_with fail
  go_ret;exact⟨by simp,rfl⟩
 ·have hge:¬(63:Int)<=(s:Int):=ae
  rw[if_neg h63];have CP:=aI (yj s w ae)
  have hp:2 ^ s<=2 ^ 62:=pW ae
  have h0:=Nat.two_pow_pos s;generalize 2 ^ s=P at *;have hp':P<=4611686018427387904:=hp;have eP:IntKind.i64.wrap (P:Int)=(P:Int):=ak
  have eP1:IntKind.i64.wrap ((P:Int) - 1)=(P:Int) - 1:=ak
  have Xp:(((P - 1:Nat)):Int)=(P:Int) - 1:=ae
  rw[Xp];clear HT ht hs hp Xp
  go_enter func146,ntmps146
  go_wp2_with fail;refine(CP.o).mono ?_
  rintro e w' ⟨rfl,rfl⟩
  go_wp2_with fail
  go_ret;exact⟨rfl,rfl⟩
end Go.Proofs.YtilcnjbpmoijmaaGreat.D
namespace Go.Proofs
open Go.Shelf
def Tryz.SE:Go.Shelf.Ren:=⟨fun|129=>195|n=>n,fun|53=>46|3=>3|4=>4|46=>211|5=>5|9=>9|n=>n,fun|n=>n⟩
theorem Tryz.len64L:Go.Proofs.Lays.n129 Tryz.prog Tryz.SE:={
 mixed:=by kernel_rfl
 f129:=Tryz.func195.trans (congrArg some (by kernel_rfl))
 t3:=Tryz.underlying3
 a3:=Tryz.isAgg3
 z3:=Tryz.sizeOf3
 v3:=Tryz.zeroValue3
 t4:=Tryz.underlying4
 a4:=Tryz.isAgg4
 z4:=Tryz.sizeOf4
 v4:=Tryz.zeroValue4
 t5:=Tryz.underlying5
 a5:=Tryz.isAgg5
 z5:=Tryz.sizeOf5
 v5:=Tryz.zeroValue5
 t9:=Tryz.underlying9
 a9:=Tryz.isAgg9
 z9:=Tryz.sizeOf9
 v9:=Tryz.zeroValue9
 t46:=Tryz.underlying211
 a46:=Tryz.isAgg211
 z46:=Tryz.sizeOf211
 v46:=Tryz.zeroValue211
 t53:=Tryz.underlying46
 a53:=Tryz.isAgg46
 z53:=Tryz.sizeOf46
 v53:=Tryz.zeroValue46}
def Tryz.Xq:Go.Shelf.Ren:=⟨fun|5=>221|8=>120|7=>297|19=>194|20=>195|10=>356|11=>357|12=>358|13=>359|14=>360|15=>361|16=>362|17=>363|18=>364|30=>419|31=>253|32=>254|33=>420|34=>421|35=>422|40=>445|n=>n,fun|23=>182|25=>2|3=>3|32=>211|22=>182|0=>0|44=>79|46=>46|4=>4|36=>266|35=>265|41=>208|5=>5|9=>9|53=>343|57=>346|63=>428|64=>429|n=>n,fun|n=>n⟩
theorem Tryz.sortM:Go.Proofs.SlLaysM.n5 Tryz.prog Tryz.Xq:={
 mixed:=by kernel_rfl
 f5:=⟨Tryz.f221.name,by decide,Tryz.func221.trans (congrArg some (by kernel_rfl))⟩
 f7:=⟨Tryz.f297.name,by decide,Tryz.func297.trans (congrArg some (by kernel_rfl))⟩
 f8:=Tryz.func120.trans (congrArg some (by kernel_rfl))
 f10:=⟨Tryz.f356.name,by decide,Tryz.func356.trans (congrArg some (by kernel_rfl))⟩
 f11:=⟨Tryz.f357.name,by decide,Tryz.func357.trans (congrArg some (by kernel_rfl))⟩
 f12:=⟨Tryz.f358.name,by decide,Tryz.func358.trans (congrArg some (by kernel_rfl))⟩
 f13:=⟨Tryz.f359.name,by decide,Tryz.func359.trans (congrArg some (by kernel_rfl))⟩
 f14:=⟨Tryz.f360.name,by decide,Tryz.func360.trans (congrArg some (by kernel_rfl))⟩
 f15:=⟨Tryz.f361.name,by decide,Tryz.func361.trans (congrArg some (by kernel_rfl))⟩
 f16:=⟨Tryz.f362.name,by decide,Tryz.func362.trans (congrArg some (by kernel_rfl))⟩
 f17:=⟨Tryz.f363.name,by decide,Tryz.func363.trans (congrArg some (by kernel_rfl))⟩
 f18:=⟨Tryz.f364.name,by decide,Tryz.func364.trans (congrArg some (by kernel_rfl))⟩
 f19:=Tryz.func194.trans (congrArg some (by kernel_rfl))
 f20:=Tryz.func195.trans (congrArg some (by kernel_rfl))
 f30:=⟨Tryz.f419.name,by decide,Tryz.func419.trans (congrArg some (by kernel_rfl))⟩
 f31:=Tryz.func253.trans (congrArg some (by kernel_rfl))
 f32:=Tryz.func254.trans (congrArg some (by kernel_rfl))
 f33:=⟨Tryz.f420.name,by decide,Tryz.func420.trans (congrArg some (by kernel_rfl))⟩
 f34:=⟨Tryz.f421.name,by decide,Tryz.func421.trans (congrArg some (by kernel_rfl))⟩
 f35:=⟨Tryz.f422.name,by decide,Tryz.func422.trans (congrArg some (by kernel_rfl))⟩
 f40:=⟨Tryz.f445.name,by decide,Tryz.func445.trans (congrArg some (by kernel_rfl))⟩
 t0:=Tryz.underlying0
 a0:=Tryz.isAgg0
 z0:=Tryz.sizeOf0
 v0:=Tryz.zeroValue0
 t3:=Tryz.underlying3
 a3:=Tryz.isAgg3
 z3:=Tryz.sizeOf3
 v3:=Tryz.zeroValue3
 t4:=Tryz.underlying4
 a4:=Tryz.isAgg4
 z4:=Tryz.sizeOf4
 v4:=Tryz.zeroValue4
 t5:=Tryz.underlying5
 a5:=Tryz.isAgg5
 z5:=Tryz.sizeOf5
 v5:=Tryz.zeroValue5
 t9:=Tryz.underlying9
 a9:=Tryz.isAgg9
 z9:=Tryz.sizeOf9
 v9:=Tryz.zeroValue9
 t22:=Tryz.underlying182
 a22:=Tryz.isAgg182
 z22:=Tryz.sizeOf182
 v22:=Tryz.zeroValue182
 t23:=Tryz.underlying182
 a23:=Tryz.isAgg182
 z23:=Tryz.sizeOf182
 v23:=Tryz.zeroValue182
 t25:=Tryz.underlying2
 a25:=Tryz.isAgg2
 z25:=Tryz.sizeOf2
 v25:=Tryz.zeroValue2
 t32:=Tryz.underlying211
 a32:=Tryz.isAgg211
 z32:=Tryz.sizeOf211
 v32:=Tryz.zeroValue211
 t35:=Tryz.underlying265
 a35:=Tryz.isAgg265
 z35:=Tryz.sizeOf265
 v35:=Tryz.zeroValue265
 t36:=Tryz.underlying266
 a36:=Tryz.isAgg266
 z36:=Tryz.sizeOf266
 v36:=Tryz.zeroValue266
 t41:=Tryz.underlying208
 a41:=Tryz.isAgg208
 z41:=Tryz.sizeOf208
 v41:=Tryz.zeroValue208
 t44:=Tryz.underlying79
 a44:=Tryz.isAgg79
 z44:=Tryz.sizeOf79
 v44:=Tryz.zeroValue79
 t46:=Tryz.underlying46
 a46:=Tryz.isAgg46
 z46:=Tryz.sizeOf46
 v46:=Tryz.zeroValue46
 t53:=Tryz.underlying343
 a53:=Tryz.isAgg343
 z53:=Tryz.sizeOf343
 v53:=Tryz.zeroValue343
 t57:=Tryz.underlying346
 a57:=Tryz.isAgg346
 z57:=Tryz.sizeOf346
 v57:=Tryz.zeroValue346
 t63:=Tryz.underlying428
 a63:=Tryz.isAgg428
 z63:=Tryz.sizeOf428
 v63:=Tryz.zeroValue428
 t64:=Tryz.underlying429
 a64:=Tryz.isAgg429
 z64:=Tryz.sizeOf429
 v64:=Tryz.zeroValue429}
def Tryz.Xr:Go.Shelf.Ren:=⟨fun|6=>211|15=>120|14=>292|28=>194|29=>195|20=>342|21=>343|22=>344|23=>345|24=>346|25=>347|26=>348|27=>349|46=>415|47=>253|48=>254|49=>416|50=>417|57=>444|n=>n,fun|22=>128|24=>178|25=>293|3=>3|39=>211|0=>0|53=>79|55=>46|4=>4|46=>266|45=>265|50=>208|5=>5|9=>9|66=>343|70=>346|76=>428|77=>429|n=>n,fun|n=>n⟩
theorem Tryz.sortF:Go.Proofs.SlLaysF0.n6 Tryz.prog Tryz.Xr:={
 mixed:=by kernel_rfl
 f6:=⟨Tryz.f211.name,by decide,Tryz.func211.trans (congrArg some (by kernel_rfl))⟩
 f14:=⟨Tryz.f292.name,by decide,Tryz.func292.trans (congrArg some (by kernel_rfl))⟩
 f15:=Tryz.func120.trans (congrArg some (by kernel_rfl))
 f20:=⟨Tryz.f342.name,by decide,Tryz.func342.trans (congrArg some (by kernel_rfl))⟩
 f21:=⟨Tryz.f343.name,by decide,Tryz.func343.trans (congrArg some (by kernel_rfl))⟩
 f22:=⟨Tryz.f344.name,by decide,Tryz.func344.trans (congrArg some (by kernel_rfl))⟩
 f23:=⟨Tryz.f345.name,by decide,Tryz.func345.trans (congrArg some (by kernel_rfl))⟩
 f24:=⟨Tryz.f346.name,by decide,Tryz.func346.trans (congrArg some (by kernel_rfl))⟩
 f25:=⟨Tryz.f347.name,by decide,Tryz.func347.trans (congrArg some (by kernel_rfl))⟩
 f26:=⟨Tryz.f348.name,by decide,Tryz.func348.trans (congrArg some (by kernel_rfl))⟩
 f27:=⟨Tryz.f349.name,by decide,Tryz.func349.trans (congrArg some (by kernel_rfl))⟩
 f28:=Tryz.func194.trans (congrArg some (by kernel_rfl))
 f29:=Tryz.func195.trans (congrArg some (by kernel_rfl))
 f46:=⟨Tryz.f415.name,by decide,Tryz.func415.trans (congrArg some (by kernel_rfl))⟩
 f47:=Tryz.func253.trans (congrArg some (by kernel_rfl))
 f48:=Tryz.func254.trans (congrArg some (by kernel_rfl))
 f49:=⟨Tryz.f416.name,by decide,Tryz.func416.trans (congrArg some (by kernel_rfl))⟩
 f50:=⟨Tryz.f417.name,by decide,Tryz.func417.trans (congrArg some (by kernel_rfl))⟩
 f57:=⟨Tryz.f444.name,by decide,Tryz.func444.trans (congrArg some (by kernel_rfl))⟩
 t0:=Tryz.underlying0
 a0:=Tryz.isAgg0
 z0:=Tryz.sizeOf0
 v0:=Tryz.zeroValue0
 t3:=Tryz.underlying3
 a3:=Tryz.isAgg3
 z3:=Tryz.sizeOf3
 v3:=Tryz.zeroValue3
 t4:=Tryz.underlying4
 a4:=Tryz.isAgg4
 z4:=Tryz.sizeOf4
 v4:=Tryz.zeroValue4
 t5:=Tryz.underlying5
 a5:=Tryz.isAgg5
 z5:=Tryz.sizeOf5
 v5:=Tryz.zeroValue5
 t9:=Tryz.underlying9
 a9:=Tryz.isAgg9
 z9:=Tryz.sizeOf9
 v9:=Tryz.zeroValue9
 t22:=Tryz.underlying128
 a22:=Tryz.isAgg128
 z22:=Tryz.sizeOf128
 v22:=Tryz.zeroValue128
 t25:=Tryz.underlying293
 a25:=Tryz.isAgg293
 z25:=Tryz.sizeOf293
 v25:=Tryz.zeroValue293
 t39:=Tryz.underlying211
 a39:=Tryz.isAgg211
 z39:=Tryz.sizeOf211
 v39:=Tryz.zeroValue211
 t45:=Tryz.underlying265
 a45:=Tryz.isAgg265
 z45:=Tryz.sizeOf265
 v45:=Tryz.zeroValue265
 t46:=Tryz.underlying266
 a46:=Tryz.isAgg266
 z46:=Tryz.sizeOf266
 v46:=Tryz.zeroValue266
 t50:=Tryz.underlying208
 a50:=Tryz.isAgg208
 z50:=Tryz.sizeOf208
 v50:=Tryz.zeroValue208
 t53:=Tryz.underlying79
 a53:=Tryz.isAgg79
 z53:=Tryz.sizeOf79
 v53:=Tryz.zeroValue79
 t55:=Tryz.underlying46
 a55:=Tryz.isAgg46
 z55:=Tryz.sizeOf46
 v55:=Tryz.zeroValue46
 t66:=Tryz.underlying343
 a66:=Tryz.isAgg343
 z66:=Tryz.sizeOf343
 v66:=Tryz.zeroValue343
 t70:=Tryz.underlying346
 a70:=Tryz.isAgg346
 z70:=Tryz.sizeOf346
 v70:=Tryz.zeroValue346
 t76:=Tryz.underlying428
 a76:=Tryz.isAgg428
 z76:=Tryz.sizeOf428
 v76:=Tryz.zeroValue428
 t77:=Tryz.underlying429
 a77:=Tryz.isAgg429
 z77:=Tryz.sizeOf429
 v77:=Tryz.zeroValue429}
end Go.Proofs
namespace Go.Proofs.YtilcnjbpmoijmaaGreat.D
open Tryz
open Go.RowKit Go.Lib Go.Shelf
def nX(w:World)(g:Nat)(lo hi dg:Int)(u m:Nat):Prop:=dK w g 318 #[.int .i64 lo,.int .i64 hi,.int .i64 dg,.int .i64 u,.int .i64 m]
section
variable {g u m : Nat} {lo hi dg : Int} {w : World}
theorem kY(x:Nat)(w:World)(h:x<18446744073709551616):aH 195 #[.int .u64 x] w fun e w'=>e=.returned (.int .i64 (Lib.bitLen x))/\w=w':=by
 refine(Any.bits_Len64 Tryz.len64L (x:Int) w ae  ae).mono ?_
 rintro e w' ⟨rfl,rfl⟩;exact⟨by simp,rfl⟩
theorem Oj(v:Nat)(h:nX w g lo hi dg u m)(hu:u+m<=62)(hv:v<9223372036854775808):aH 330 #[.pointer (some ⟨g,0,none⟩),.int .i64 v] w (aG w (.int .i64 (iP u m v))):=by
 have CL:Hid (∀w,_):=aI (fun w=>kY v w ae)
 have hb:Lib.bitLen v<=63:=(sU ae).2 (by simpa using hv)
 have HB:Hid (iP u m v=Lib.bitLen v - (u+m)):=aI rfl;rw[HB.o];generalize Lib.bitLen v=B at *;have HM:=aI h;have hg:g<w.heap.size:=dK.lt h;have EV:Hid (IntKind.u64.wrap (v:Int)=(v:Int)):=aI (by rw[fF];omega)
 have E1:Hid (IntKind.i64.wrap ((B:Int) - (u:Int))=(B:Int) - (u:Int)):=aI ak
 have E2:Hid (IntKind.i64.wrap ((B:Int) - (u:Int) - (m:Int))=(B:Int) - (u:Int) - (m:Int)):=aI ak
 clear h HB
 go_enter func330,ntmps330
 go_wp2_with fail;refine jh (Below w.heap.size w) (dV 0 2 (dV 3 4 (dV 8 4 (fJ 2 (dV 7 1 (dV 12 3 [])))))) ((aO _ _).drew) ?_
 iterate 10 refine eQ (h:=fun w' hS'=>by have k3:=(dK.keep HM.o hS').cell 3;have k4:=(dK.keep HM.o hS').cell 4;have ev:=EV.o;have e1:=E1.o;have e2:=E2.o;simp only[aK,aJ,aN] at k3 k4;go_simp;exact⟨rfl,rfl⟩) ?_
 refine fO fun K hK=>?_
 go_simp;refine(CL.o w.drew).mono ?_
 rintro e w3 ⟨rfl,rfl⟩;refine hK _ _ ((aO _ _).drew) ?_
 clear hK K
 iterate 4 refine eQ (h:=fun w' hS'=>by have k3:=(dK.keep HM.o hS').cell 3;have k4:=(dK.keep HM.o hS').cell 4;have ev:=EV.o;have e1:=E1.o;have e2:=E2.o;simp only[aK,aJ,aN] at k3 k4;go_simp;exact⟨rfl,rfl⟩) ?_
 refine dJ ?_
 go_wp2_with fail
 go_ret;refine⟨?_,(aO _ _).drew⟩
 show Ending.returned (Value.int .i64 (max 0 ((B:Int) - (u:Int) - (m:Int))))=Ending.returned (Value.int .i64 (((B - (u+m):Nat)):Int))
 congr 2
 omega
theorem Jl(h:nX w g lo hi dg u m)(m0:1<=m)(m1:m<=18):aH 329 #[.pointer (some ⟨g,0,none⟩)] w fun e w'=>e=.returned (.int .i64 ((2 ^ (m - 1):Nat):Int))/\w=w':=by
 have k4:=dK.cell h 4;simp only[aK,aJ,aN] at k4;clear h;obtain⟨M,rfl⟩:∃M,m=M+1:=⟨m - 1,ae⟩
 have hMw:IntKind.i64.wrap (M:Int)=(M:Int):=ak
 simp only[Nat.add_sub_cancel]
 go_enter func329,ntmps329
 go_wp2_with fail
 go_ret;refine⟨?_,rfl⟩
 have h17:2 ^ M<=2 ^ 17:=pW ae
 show Ending.returned (Value.int .i64 (wrap64 (2 ^ M)))=Ending.returned (Value.int .i64 ((2 ^ M:Nat):Int))
 have e:((2:Int) ^ M)=((2 ^ M:Nat):Int):=ag
 rw[e];generalize 2 ^ M=P at *;have:wrap64 (P:Int)=(P:Int):=by have cg5:P<=131072:=h17;unfold wrap64;omega
 rw[this]
theorem lY(v:Nat)(h:nX w g lo hi dg u m)(hu:u+m<=62)(hv:v<9223372036854775808):aH 260 #[.pointer (some ⟨g,0,none⟩),.int .i64 v] w (aG w (.int .i64 ((1+iP u m v:Nat):Int))):=by
 have CB:=aI (Oj v h hu hv);have HM:=qN (u:=u) (m:=m) hv;have hb:iP u m v<=63:=ae
 have hm0:max (v:Int) 0=(v:Int):=ae
 generalize iP u m v=b at *;clear h HM
 go_enter func260,ntmps260
 go_wp2_with fail;refine(CB.o).mono ?_
 rintro e w1 ⟨rfl,hb1⟩
 go_wp2_with fail
 go_ret;exact⟨by simp,hb1⟩
end
open Tryz
open Go.RowKit Go.Lib Go.Shelf
variable{dg:Nat}
theorem Jm(n:Nat)(w:World)(h:n<=5):aH 333 #[.int .i64 n] w fun e w'=>e=.returned (.tuple #[.int .u64 ((10 ^ n:Nat):Int),.int .i64 0])/\w=w':=by
 obtain⟨R,hR⟩:=aF (10 ^ n);have HR:=aI hR;rw[hR];clear hR;have HB:Hid (∀j,j<=5->0<10 ^ j/\10 ^ j<=100000):=aI (fun j h=>⟨Nat.pow_pos ae,(Nat.pow_le_pow_right ae h:10 ^ j<=10 ^ 5)⟩)
 go_enter func333,ntmps333
 go_wp2_with fail
 go_loopg [4,12] n (fun q p x wr=>(∃j:Nat,q=n - j/\j<=n/\x=.int .i64 j/\p=.int .u64 ((10 ^ j:Nat):Int))/\w=wr)
 case atStart=>exact⟨⟨0,rfl,ae,rfl,rfl⟩,rfl⟩
 case round=>
  obtain⟨⟨j,hq,hj,rfl,rfl⟩,rfl⟩:=hrel;have HQ:=aI hq;clear hq
  by_cases hlt:j<n
  ·have hji:(j:Int)<(n:Int):=ae
   have hp:=HB.o j ae
   have HS:Hid (10 ^ (j+1)=10 * 10 ^ j):=aI (by rw[Nat.pow_succ];omega)
   generalize 10 ^ j=p at *
   go_wp2_with fail
   go_roundg (n - (j+1))
   case measure=>have:=HQ.o;omega
   case rel=>exact⟨⟨j+1,rfl,ae,ai,by rw[HS.o];go_num⟩,rfl⟩
  ·obtain rfl:j=n:=ae
   rw[HR.o]
   go_wp2_with fail
   go_ret2
   exact⟨rfl,rfl⟩
structure nY(lo hi dg u m:Nat):Prop where
 d0:1<=dg
 d1:dg<=5
 l0:1<=lo
 h0:2 * lo<=hi
 h1:hi<=9223372036854775807
 ue:u=Lib.bitLen lo - 1
 me:m=Lib.bitLen (2 * 10 ^ dg - 1)
 um:u+m<=62
theorem Gx(d1:dg<=5):1<=Lib.bitLen (2 * 10 ^ dg - 1)/\Lib.bitLen (2 * 10 ^ dg - 1)<=18:=by
 have h:∀d:Fin 6,1<=Lib.bitLen (2 * 10 ^ d.val - 1)/\Lib.bitLen (2 * 10 ^ d.val - 1)<=18:=au
 exact h ⟨dg,ae⟩
theorem Ol{lo hi u m:Nat}(w:World)(ok:nY lo hi dg u m):aH 265 #[.agg #[.int .i64 lo,.int .i64 hi,.int .i64 dg]] w fun e w'=>∃g,e=.returned (.tuple #[.pointer (some ⟨g,0,none⟩),.int .i64 0])/\w.heap.size<=g/\nX w' g lo hi dg u m/\Below w.heap.size w w':=by
 obtain⟨d0,d1,l0,h0,h1,ue,me,um⟩:=ok;have hmb:=Gx d1;have hlb:1<=Lib.bitLen lo:=(Gv (x:=lo) (k:=0) ae).2 (by simpa using l0)
 have bb7:Lib.bitLen lo<=63:=(sU ae).2 ae
 have K_:10 ^ dg<=100000:=(Nat.pow_le_pow_right ae d1:10 ^ dg<=10 ^ 5)
 have ab1:0<10 ^ dg:=Nat.pow_pos ae
 have CP:=fun w=>aI (Jm dg w d1)
 have C1:=fun w=>aI (kY lo w ae)
 have C2:=fun w=>aI (kY (2 * 10 ^ dg - 1) w ae)
 rw[<-me] at C2 hmb;generalize 10 ^ dg=T at *;generalize Lib.bitLen lo=B at *;obtain⟨N,hN⟩:=aF (2 * T - 1);rw[hN] at C2;obtain rfl:B=u+1:=ae
 have hq:(hi:Int).tdiv 2=(hi:Int) / 2:=Int.tdiv_eq_ediv_of_nonneg ae
 have c1:¬(hi:Int) / 2<(lo:Int):=ae
 have c2:¬(dg:Int)<1:=ae
 have c3:¬(5:Int)<(dg:Int):=ae
 have c4:¬(lo:Int)<1:=ae
 have EV:Hid (IntKind.u64.wrap (lo:Int)=(lo:Int)):=aI (by rw[fF];omega)
 have EU:Hid (IntKind.i64.wrap (u:Int)=(u:Int)):=aI ak
 have ET:Hid (IntKind.u64.wrap (2 * (T:Int))=2 * (T:Int)):=aI (by rw[fF];omega)
 have EN:Hid (IntKind.u64.wrap (2 * (T:Int) - 1)=(N:Int)):=aI (by rw[fF];omega)
 have EN2:Hid (2 * (T:Int) - 1=(N:Int)):=aI ae
 have c5:¬(62:Int)<(u:Int)+(m:Int):=ae
 have EUM:Hid (IntKind.i64.wrap ((u:Int)+(m:Int))=(u:Int)+(m:Int)):=aI ak
 have EN3:Hid (IntKind.u64.wrap (N:Int)=(N:Int)):=aI (by rw[fF];omega)
 clear hN ue me hmb hlb bb7 h0
 go_enter func265,ntmps265
 go_wp2_with fail;refine((CP _).o).mono ?_
 rintro e w' ⟨rfl,rfl⟩;obtain⟨b,hb⟩:=aF (w.heap.size);obtain⟨w1,hw1⟩:=aF (w.alloc (.cells #[.int .i64 lo,.int .i64 hi,.int .i64 dg] 23));have hb1:Below w.heap.size w w1:=by rw[<-hw1];exact bw
 have B1:Hid (dK w1 b 23 #[.int .i64 lo,.int .i64 hi,.int .i64 dg]):=by rw[<-hw1,<-hb];exact aI (dK.new _ _ _)
 have hbl:=B1.o.lt;have La:=aI hb;clear hb;rw[La.o,hw1];clear hw1
 go_upto_region 4 with fail;have c5h:=aI c5;clear c1 c2 c3 c4 c5 hq d0 d1 l0 h1 um K_ ab1 CP;refine jh (Below w1.heap.size w1) (dV 0 4 (dV 6 3 (fJ 4 (dV 5 1 (fJ 9 (dV 10 1 (fJ 11 (dV 12 1 [])))))))) ((aO _ _).drew) ?_
 iterate 7 refine eQ (h:=fun w' hS'=>by have k0:=(B1.o.keep hS').cell 0;have k1:=(B1.o.keep hS').cell 1;have k2:=(B1.o.keep hS').cell 2;have ev:=EV.o;have eu:=EU.o;have et:=ET.o;have en2:=EN2.o;have en3:=EN3.o;simp only[aK,aJ,aN] at k0 k1 k2;go_simp;exact⟨rfl,rfl⟩) ?_
 refine fO fun K hK=>?_
 go_simp;refine((C1 w1.drew).o).mono ?_
 rintro e w3 ⟨rfl,rfl⟩;refine hK _ _ ((aO _ _).drew) ?_
 clear hK K;refine eQ (h:=fun w' hS'=>by have k0:=(B1.o.keep hS').cell 0;have k1:=(B1.o.keep hS').cell 1;have k2:=(B1.o.keep hS').cell 2;have ev:=EV.o;have eu:=EU.o;have et:=ET.o;have en2:=EN2.o;have en3:=EN3.o;simp only[aK,aJ,aN] at k0 k1 k2;go_simp;exact⟨rfl,rfl⟩) ?_
 refine fO fun K hK=>?_
 go_simp;refine((C2 w1.drew).o).mono ?_
 rintro e w3 ⟨rfl,rfl⟩;refine hK _ _ ((aO _ _).drew) ?_
 clear hK K;refine eQ (h:=fun w' hS'=>by have k0:=(B1.o.keep hS').cell 0;have k1:=(B1.o.keep hS').cell 1;have k2:=(B1.o.keep hS').cell 2;have ev:=EV.o;have eu:=EU.o;have et:=ET.o;have en2:=EN2.o;have en3:=EN3.o;simp only[aK,aJ,aN] at k0 k1 k2;go_simp;exact⟨rfl,rfl⟩) ?_
 refine fO fun K hK=>?_
 go_simp;refine hK _ _ (((aO _ _).drew).alloc (aS _) _) ?_
 clear hK K;refine eQ (h:=fun w' hS'=>by have k0:=(B1.o.keep hS').cell 0;have k1:=(B1.o.keep hS').cell 1;have k2:=(B1.o.keep hS').cell 2;have ev:=EV.o;have eu:=EU.o;have et:=ET.o;have en2:=EN2.o;have en3:=EN3.o;simp only[aK,aJ,aN] at k0 k1 k2;go_simp;exact⟨rfl,rfl⟩) ?_
 refine dJ ?_
 have hz1:=hb1.size;obtain⟨w4,hw4⟩:=aF ((w1.alloc (.cells #[.int .i64 lo,.int .i64 hi,.int .i64 dg,.int .i64 u,.int .i64 m] 318)).drew);have hb4:Below w1.heap.size w1 w4:=by rw[<-hw4];exact((aO _ _).alloc (aS _) _).drew
 have B4:nX w4 w1.heap.size lo hi dg u m:=by unfold nX;rw[<-hw4];exact(dK.new _ _ _:dK (w1.alloc _) _ _ _).drew
 go_upto_region 5 with fail;have k3:=dK.cell B4 3;have k4:=dK.cell B4 4;simp only[aK,aJ,aN] at k3 k4;have c5:=c5h.o;have eum:=EUM.o
 go_quiet (fail)
 go_wp2_with fail
 go_ret2
 subst hw4;exact⟨_,rfl,hz1,dK.drewN B4 _,below_drewN (hb1.trans (hb4.mono hz1)) _⟩
end Go.Proofs.YtilcnjbpmoijmaaGreat.D
