/- Parts of a proof: what its theorem reaches, words cut short. No condition of its own. -/
import Derived.Maps.RangeWalk
import Derived.Maps.OwnSet
import Derived.Maps.OwnOps
import Derived.Test.YtkiebccnpheloaaGreatPv16
import Derived.Shelf.SortM.Plain
import Derived.Shelf.SortM.SortNone
import Derived.Shelf.SlicesG.SearchI
import Derived.Shelf.SlicesG.Clone
import Derived.Shelf.SlSortCmp.WholeK
set_option maxRecDepth 100000
set_option maxHeartbeats 16000000
set_option linter.unusedVariables false
set_option linter.unusedSimpArgs false
namespace Go.Proofs.YtkiebccnpheloaaGreat.D
open Go.Maps
abbrev iL(k:Int):Lit:=.int .i64 k
theorem iLk(k:Int):WideAt.IsKeyLit (iL k):=trivial
abbrev uD(n:Int):DataW Unit:=.lit (.int .u64 n)
theorem iL_ne{a b:Int}(h:a≠b):iL a≠iL b:=fun e=>h (by cases e;rfl)
theorem iL_same(a b:Int):(iL a).sameKey (iL b)=decide (a=b):=by
 by_cases h:a=b
 ·subst h;rw[WideAt.sameKey_self (iLk _)];simp
 ·rw[sameKey_ne (iL_ne h)];simp[h]
structure LkD(D:DataW Unit)(l:List Pr):Prop where
 tidy:Tidy D
 has_:∀k:Int,Maps.has D (iL k)=decide (∃p∈l,p.1=k)
 at_:∀(k:Int) (z:DataW Unit),Maps.has D (iL k)=true->D.atKey (iL k) z=uD (cnP l k)
 sz:Maps.size D=l.length
theorem lk_nil:LkD (.map []) []:=⟨tidy_empty,fun k=>by simp[Maps.has],fun k z h=>by simp[Maps.has] at h,rfl⟩
theorem LkD.get{D:DataW Unit}{l:List Pr}(h:LkD D l)(k:Int):D.atKey (iL k) (uD 0)=uD (cnP l k):=by
 by_cases hk:Maps.has D (iL k)=true
 ·exact h.at_ k _ hk
 ·have h0:=h.has_ k
  have hf:Maps.has D (iL k)=false:=by simpa using hk
  rw[hf] at h0
  rw[atKey_of_not_has hf,cn_zero]
  intro p hp e
  exact absurd h0.symm (by simp;exact⟨p.2,by rw[<-e];exact hp⟩)
theorem put_len{k n:Int}:∀{l:List Pr},SrtP l->(putP k n l).length=if (∃p∈l,p.1=k) then l.length else l.length+1
 | [],_=>by simp[putP]
 | p::l,s=>by
  have s1:=List.pairwise_cons.1 s
  have ih:=put_len (k:=k) (n:=n) s1.2
  unfold putP
  by_cases h1:p.1<k
  ·have e:(∃q∈p::l,q.1=k)<->(∃q∈l,q.1=k):=⟨fun⟨q,hq,e⟩=>by
    rcases List.mem_cons.1 hq with rfl|hq
    ·omega
    ·exact⟨q,hq,e⟩,fun⟨q,hq,e⟩=>⟨q,List.mem_cons_of_mem _ hq,e⟩⟩
   rw[if_pos h1,List.length_cons,ih]
   by_cases hx:∃q∈l,q.1=k
   ·rw[if_pos hx,if_pos (e.2 hx)];simp
   ·rw[if_neg hx,if_neg (fun h=>hx (e.1 h))];simp
  ·rw[if_neg h1]
   by_cases h2:p.1=k
   ·rw[if_pos h2,if_pos ⟨p,List.mem_cons_self ..,h2⟩];simp
   ·rw[if_neg h2,if_neg]
    ·simp
    ·rintro ⟨q,hq,e⟩
     rcases List.mem_cons.1 hq with rfl|hq
     ·exact h2 e
     ·have:=s1.1 q hq;omega
theorem LkD.put{D:DataW Unit}{l:List Pr}(h:LkD D l)(s:SrtP l)(hp:PosP l)(k n:Int)(hn:0<n):LkD (D.put (iL k) (uD (cnP l k+n))) (putP k n l):=by
 have hput:=put_pos hn hp (k:=k)
 refine⟨h.tidy.put (iLk _) _,fun j=>?_,fun j z hj=>?_,?_⟩
 ·have e:=cn_key hput j
  rw[cn_put] at e
  by_cases hjk:j=k
  ·subst hjk
   rw[has_put_same h.tidy.isMap (iLk _)]
   have:=cn_nonneg (k:=j) hp
   simp only[if_pos] at e
   exact(decide_eq_true (e.2 (by omega))).symm
  ·rw[has_put_other (iL_ne hjk),h.has_ j]
   rw[if_neg (fun h=>hjk h.symm),Int.add_zero] at e
   have e0:=cn_key hp j
   congr 1
   exact propext (e0.trans e.symm)
 ·rw[cn_put]
  by_cases hjk:j=k
  ·subst hjk
   rw[atKey_put_same h.tidy.isMap (iLk _),if_pos rfl]
  ·rw[has_put_other (iL_ne hjk)] at hj
   rw[atKey_put_other (iL_ne hjk),h.at_ j z hj,if_neg (fun h=>hjk h.symm),Int.add_zero]
 ·rw[size_put h.tidy,h.sz,h.has_ k,put_len s]
  by_cases hx:∃p∈l,p.1=k<;>simp[hx]
theorem cn_of{l:List Pr}(s:SrtP l){p:Pr}(h:p∈l):cnP l p.1=p.2:=by
 induction l with
 | nil=>cases h
 | cons q l ih=>
  have s1:=List.pairwise_cons.1 s
  rcases List.mem_cons.1 h with rfl|h
  ·exact cn_head s
  ·have h1:=s1.1 p h
   have:=ih s1.2 h
   have e:cnP (q::l) p.1=(if q.1=p.1 then q.2 else 0)+cnP l p.1:=by simp[cnP]
   rw[e,this,if_neg (by omega)];omega
def RgI(l out:List Pr)(left:Lit->Bool):Prop:=(out++l.filter (fun p=>left (iL p.1))).Perm l
theorem rg_start{D:DataW Unit}{l:List Pr}(h:LkD D l):RgI l [] (Maps.has D):=by
 show(l.filter (fun p=>Maps.has D (iL p.1))).Perm l
 rw[List.filter_eq_self.2 (fun p hp=>by rw[h.has_];exact decide_eq_true ⟨p,hp,rfl⟩)]
theorem strike_perm{f:Int->Bool}{p:Pr}:∀{l:List Pr},SrtP l->p∈l->f p.1=true->(p::l.filter (fun q=>f q.1 && !decide (q.1=p.1))).Perm (l.filter (fun q=>f q.1))
 | [],_,h,_=>by cases h
 | q::l,s,h,hf=>by
  have s1:=List.pairwise_cons.1 s
  rcases List.mem_cons.1 h with rfl|h
  ·have e:l.filter (fun q=>f q.1 && !decide (q.1=p.1))=l.filter (fun q=>f q.1):=List.filter_congr fun q hq=>by
    have:=s1.1 q hq
    have h2:¬q.1=p.1:=by omega
    simp[h2]
   simp[hf,e]
  ·have h1:=s1.1 p h
   have h2:¬q.1=p.1:=by omega
   have ih:=strike_perm s1.2 h hf
   cases hq:f q.1
   ·simpa[hq,h2] using ih
   ·simp only[List.filter_cons,hq,h2,decide_false,Bool.not_false,Bool.and_self,if_true]
    exact(List.Perm.swap q p _).trans (ih.cons q)
theorem rg_in{D:DataW Unit}{l:List Pr}(h:LkD D l)(s:SrtP l){x c:Int}(hat:∀z,D.atKey (iL x) z=uD c):(x,c)∈l:=by
 have h1:=has_true_of_atKey hat
 have h2:=h.at_ x (uD 0) h1
 rw[hat] at h2
 have h3:=h.has_ x
 rw[h1] at h3
 obtain⟨p,hp,rfl⟩:=of_decide_eq_true h3.symm
 rw[cn_of s hp] at h2
 cases h2
 exact hp
theorem rg_step{l out:List Pr}{left:Lit->Bool}(s:SrtP l)(h:RgI l out left){x c:Int}(hx:left (iL x)=true)(hm:(x,c)∈l):RgI l (out++[(x,c)]) (fun z=>left z && !z.sameKey (iL x)):=by
 unfold RgI
 have e:l.filter (fun p=>left (iL p.1) && !(iL p.1).sameKey (iL x))=l.filter (fun p=>left (iL p.1) && !decide (p.1=x)):=List.filter_congr fun p _=>by rw[iL_same]
 rw[e,List.append_assoc]
 refine List.Perm.trans ?_ h
 exact List.Perm.append_left out (strike_perm (f:=fun k=>left (iL k)) (p:=(x,c)) s hm hx)
theorem rg_end{l out:List Pr}{left:Lit->Bool}(h:RgI l out left)(h0:∀kl,left kl=false):out.Perm l:=by
 unfold RgI at h
 rw[List.filter_eq_nil_iff.2 (fun p _=>by rw[h0];simp),List.append_nil] at h
 exact h
theorem rg_len{l out:List Pr}{left:Lit->Bool}(h:RgI l out left):out.length<=l.length:=by
 have:=h.length_eq
 rw[List.length_append] at this
 omega
theorem cn_perm{a b:List Pr}(h:a.Perm b)(k:Int):cnP a k=cnP b k:=by
 induction h with
 | nil=>rfl
 | cons x _ ih=>simp only[cnP,List.map_cons,List.sum_cons] at ih |-;omega
 | swap x y l=>simp only[cnP,List.map_cons,List.sum_cons];omega
 | trans _ _ i1 i2=>exact i1.trans i2
theorem sorted_is{l r:List Pr}(s:SrtP l)(hp:PosP l)(h:r.Perm l)(hr:r.Pairwise (fun a b=>a.1<=b.1)):r=l:=by
 have hne:r.Pairwise (fun a b=>a.1≠b.1):=(h.pairwise_iff (fun {a b} (h:a.1≠b.1)=>h.symm)).2 (s.imp (fun h=>by omega))
 have hs:SrtP r:=(hr.and hne).imp (fun h=>by omega)
 exact ext_P hs s (fun p hpr=>hp p (h.mem_iff.1 hpr)) hp (fun k=>cn_perm h k)
open Go.Lib
theorem pow64:(2:Nat) ^ 64=18446744073709551616:=by decide
theorem bit_le{x k:Nat}(hx:x<18446744073709551616):Lib.bitLen x<=k<->x<2 ^ k:=by
 constructor
 ·intro h
  by_cases hk:x<2 ^ k
  ·exact hk
  ·have h1:=Lib.bitLen_shift k x (by omega) (by rw[pow64];exact hx)
   have hp:0<2 ^ k:=Nat.two_pow_pos k
   have h2:1<=x / 2 ^ k:=(Nat.le_div_iff_mul_le hp).2 (by omega)
   have h3:x / 2 ^ k<2 ^ 64:=by rw[pow64];exact Nat.lt_of_le_of_lt (Nat.div_le_self ..) hx
   have h4:=Lib.bitLen_half (x / 2 ^ k) (by omega) h3
   omega
 ·intro h
  by_cases hk:k<=64
  ·exact Lib.bitLen_le x k hk h
  ·exact Nat.le_trans (Lib.bitLen_le x 64 (Nat.le_refl _) (by rw[pow64];exact hx)) (by omega)
theorem bit_gt{x k:Nat}(hx:x<18446744073709551616):k<Lib.bitLen x<->2 ^ k<=x:=by
 have:=bit_le (k:=k) hx
 omega
def bkN(u m v:Nat):Nat:=Lib.bitLen v - (u+m)
theorem bk_lt{u m v:Nat}(hv:v<18446744073709551616):v<2 ^ (u+m+bkN u m v):=(bit_le hv).1 (by unfold bkN;omega)
theorem bk_le{u m v b:Nat}(hv:v<18446744073709551616):bkN u m v<=b<->v<2 ^ (u+m+b):=by
 rw[<-bit_le hv];unfold bkN;omega
theorem bk_max{u m v:Nat}(hv:v<9223372036854775808):u+m+bkN u m v<=63\/bkN u m v=0:=by
 have h:Lib.bitLen v<=63:=(bit_le (by omega)).2 (by rw[show(2:Nat) ^ 63=9223372036854775808 by decide];exact hv)
 unfold bkN
 omega
def ckN(u m v:Nat):Nat:=v / 2 ^ (bkN u m v+u)
theorem ck_lt{u m v:Nat}(hv:v<18446744073709551616):ckN u m v<2 ^ m:=by
 unfold ckN
 rw[Nat.div_lt_iff_lt_mul (Nat.two_pow_pos _),<-Nat.pow_add]
 rw[show m+(bkN u m v+u)=u+m+bkN u m v by omega]
 exact bk_lt hv
def ixN(u m v:Nat):Nat:=bkN u m v * 2 ^ (m - 1)+ckN u m v
open Go.RowKit Go.Lib
theorem two_le{a b:Nat}(h:a<=b):2 ^ a<=2 ^ b:=Nat.pow_le_pow_right (by omega) h
theorem two_63{n:Nat}(h:n<=63):0<2 ^ n/\2 ^ n<=9223372036854775808:=⟨Nat.two_pow_pos n,two_le h⟩
theorem rpower_any(n:Nat)(w:World)(h:n<=63):Calls Tryz.prog 215 #[.int .i64 n] w fun e w'=>e=.returned (.int .u64 ((2 ^ n:Nat):Int))/\w=w':=by
 obtain⟨R,hR⟩:∃R,2 ^ n=R:=⟨_,rfl⟩
 have HR:=Lib.hid hR
 rw[hR]
 clear hR
 go_enter Tryz.func215,Tryz.ntmps215
 go_wp2_with fail
 go_loopg [3,4] n (fun q p x wr=>(∃j:Nat,q=n - j/\j<=n/\x=.int .i64 j/\p=.int .u64 ((2 ^ j:Nat):Int))/\w=wr)
 case atStart=>exact⟨⟨0,rfl,by omega,rfl,rfl⟩,rfl⟩
 case round=>
  obtain⟨⟨j,hq,hj,rfl,rfl⟩,rfl⟩:=hrel
  have HQ:=Lib.hid hq
  clear hq
  by_cases hlt:j<n
  ·have hji:(j:Int)<(n:Int):=by omega
   have HP:=Lib.hid (two_63 (n:=j+1) (by omega))
   have HS:Hid (2 ^ (j+1)=2 * 2 ^ j):=Lib.hid (by rw[Nat.pow_succ];omega)
   rw[HS.out] at HP
   generalize 2 ^ j=p at *
   have hp:=HP.out
   go_wp2_with fail
   go_roundg (n - (j+1))
   case measure=>have:=HQ.out;omega
   case rel=>exact⟨⟨j+1,rfl,by omega,by go_num,by rw[HS.out];go_num⟩,rfl⟩
  ·obtain rfl:j=n:=by omega
   rw[HR.out]
   go_wp2_with fail
   go_ret
   exact⟨rfl,rfl⟩
theorem rbucket_any(u m v:Nat)(w:World)(hu:u+m<=62)(hv:v<9223372036854775808):Calls Tryz.prog 172 #[.int .i64 u,.int .i64 m,.int .i64 v] w fun e w'=>e=.returned (.int .i64 (bkN u m v))/\w=w':=by
 have HM:=Lib.hid (bk_max (u:=u) (m:=m) hv)
 have HL:Hid (∀j,bkN u m v<=j<->v<2 ^ (u+m+j)):=Lib.hid (fun j=>bk_le (by omega))
 have hmx:=HM.out
 generalize bkN u m v=B at *
 go_enter Tryz.func172,Tryz.ntmps172
 go_wp2_with fail
 go_loopg [7] B (fun q x wr=>(∃j:Nat,q=B - j/\j<=B/\x=.int .i64 j)/\w=wr)
 case atStart=>exact⟨⟨0,rfl,by omega,rfl⟩,rfl⟩
 case round=>
  obtain⟨⟨j,hq,hj,rfl⟩,rfl⟩:=hrel
  have HQ:=Lib.hid hq
  clear hq
  obtain⟨t,ht⟩:∃t,u+m=t:=⟨_,rfl⟩
  obtain⟨s,hs⟩:∃s,u+m+j=s:=⟨_,rfl⟩
  have e1:IntKind.i64.wrap ((u:Int)+(m:Int))=(t:Int):=by rw[IntKind.wrap_i64];omega
  have e2:IntKind.i64.wrap ((t:Int)+(j:Int))=(s:Int):=by rw[IntKind.wrap_i64];omega
  have ev:IntKind.u64.wrap (v:Int)=(v:Int):=by rw[u64w];omega
  have hl:=HL.out j
  rw[hs] at hl
  by_cases hlt:j<B
  ·have h63:(s:Int)<63:=by omega
   have CP:=Lib.hid (rpower_any s w (by omega))
   have hge:2 ^ s<=v:=by
    rcases Nat.lt_or_ge v (2 ^ s) with h|h
    ·have:=hl.2 h;omega
    ·exact h
   obtain⟨P,hP⟩:∃P,2 ^ s=P:=⟨_,rfl⟩
   rw[hP] at CP hge
   have hge':(P:Int)<=(v:Int):=by omega
   have hj63:j<63:=by omega
   clear hP hs ht hl hmx hge HL HM
   go_wp2_with (go_at_call 215;refine(CP.out).mono ?_;rintro e w' ⟨rfl,rfl⟩)
   go_roundg (B - (j+1))
   case measure=>have:=HQ.out;omega
   case rel=>exact⟨⟨j+1,rfl,by omega,by go_num⟩,rfl⟩
  ·obtain rfl:j=B:=by omega
   by_cases h63:(s:Int)<63
   ·have CP:=Lib.hid (rpower_any s w (by omega))
    have hlt':=hl.1 (Nat.le_refl _)
    obtain⟨P,hP⟩:∃P,2 ^ s=P:=⟨_,rfl⟩
    rw[hP] at CP hlt'
    have hge':¬(P:Int)<=(v:Int):=by omega
    clear hP hs ht hl hmx hlt' HL HM
    go_wp2_with (go_at_call 215;refine(CP.out).mono ?_;rintro e w' ⟨rfl,rfl⟩)
    go_ret
    exact⟨rfl,rfl⟩
   ·clear hs ht hl hmx HL HM
    go_wp2_with fail
    go_ret
    exact⟨rfl,rfl⟩
theorem rindex_any(u m v:Nat)(w:World)(hu:u+m<=62)(m0:1<=m)(m1:m<=18)(hv:v<9223372036854775808):Calls Tryz.prog 109 #[.int .i64 u,.int .i64 m,.int .i64 v] w fun e w'=>e=.returned (.int .i64 (ixN u m v))/\w=w':=by
 have CB:=Lib.hid (rbucket_any u m v w hu hv)
 have HM:=bk_max (u:=u) (m:=m) hv
 have HC:=ck_lt (u:=u) (m:=m) (v:=v) (by omega)
 have h18:2 ^ m<=2 ^ 18:=two_le m1
 have h18':2 ^ (m - 1)<=2 ^ 17:=two_le (by omega)
 have CH:=Lib.hid (rpower_any (m - 1) w (by omega))
 have hb:bkN u m v<=63:=by omega
 have CP:=Lib.hid (rpower_any (u+bkN u m v) w (by omega))
 have HX:Hid (ixN u m v=bkN u m v * 2 ^ (m - 1)+ckN u m v):=Lib.hid rfl
 have HK:Hid (ckN u m v=v / 2 ^ (bkN u m v+u)):=Lib.hid rfl
 rw[HX.out]
 have hpos:=Nat.two_pow_pos (u+bkN u m v)
 have HKI:Hid ((v:Int).tdiv ((2 ^ (u+bkN u m v):Nat):Int)=(ckN u m v:Int)):=Lib.hid (by rw[HK.out,Nat.add_comm u,Int.tdiv_eq_ediv_of_nonneg (by omega)];rfl)
 generalize ckN u m v=k at *
 generalize bkN u m v=b at *
 generalize 2 ^ (m - 1)=H at *
 obtain⟨s,hs⟩:∃s,u+b=s:=⟨_,rfl⟩
 rw[hs] at CP hpos HKI
 have hs63:s<=63:=by omega
 have hbu:IntKind.i64.wrap ((u:Int)+(b:Int))=(s:Int):=by rw[IntKind.wrap_i64];omega
 generalize 2 ^ s=P at *
 have hk18:k<262144:=by omega
 have hH:H<=131072:=by omega
 obtain⟨M,rfl⟩:∃M,m=M+1:=⟨m - 1,by omega⟩
 simp only[Nat.add_sub_cancel] at CH
 obtain⟨c,hc⟩:∃c,b * H=c:=⟨_,rfl⟩
 have hcb:c<=8257536:=by rw[<-hc];exact Nat.mul_le_mul hb hH
 have hm1:((b:Int)+1) * (H:Int)=(c:Int)+(H:Int):=by rw[<-hc,Int.add_mul,Int.one_mul];simp
 have hd1:=HKI.out
 have hd2:(v:Int) / (P:Int)=(k:Int):=by rw[<-HKI.out,Int.tdiv_eq_ediv_of_nonneg (by omega)]
 have hP0:((P:Int) == 0)=false:=by simp;omega
 have ev:IntKind.u64.wrap (v:Int)=(v:Int):=by rw[u64w];omega
 have ek:IntKind.u64.wrap (k:Int)=(k:Int):=by rw[u64w];omega
 have hfin:(c:Int)+(H:Int)+(k:Int) - (H:Int)=(c:Int)+(k:Int):=by omega
 rw[hc]
 have hMw:IntKind.i64.wrap (M:Int)=(M:Int):=by rw[IntKind.wrap_i64];omega
 have hHw:IntKind.i64.wrap (H:Int)=(H:Int):=by rw[IntKind.wrap_i64];omega
 clear HX HK HC h18 h18' HM hs hc HKI
 go_enter Tryz.func109,Tryz.ntmps109
 go_wp2_with fail
 refine(CB.out).mono ?_
 rintro e w' ⟨rfl,rfl⟩
 go_wp2_with fail
 refine(CH.out).mono ?_
 rintro e w' ⟨rfl,rfl⟩
 go_wp2_with fail
 refine(CP.out).mono ?_
 rintro e w' ⟨rfl,rfl⟩
 go_wp2_with fail
 go_ret
 exact⟨by simp,rfl⟩
def topN(u m n:Nat):Nat:=if 63<=n - 1+u+m then 9223372036854775807 else 2 ^ (n - 1+u+m) - 1
theorem rtop_any(u m n:Nat)(w:World)(hu:u+m<=62)(n0:1<=n)(n1:n<=64):Calls Tryz.prog 184 #[.int .i64 u,.int .i64 m,.int .i64 n] w fun e w'=>e=.returned (.int .i64 (topN u m n))/\w=w':=by
 have HT:Hid (topN u m n=if 63<=n - 1+u+m then 9223372036854775807 else 2 ^ (n - 1+u+m) - 1):=Lib.hid rfl
 rw[HT.out]
 obtain⟨k,rfl⟩:∃k,n=k+1:=⟨n - 1,by omega⟩
 simp only[Nat.add_sub_cancel] at HT |-
 obtain⟨t,ht⟩:∃t,k+u=t:=⟨_,rfl⟩
 obtain⟨s,hs⟩:∃s,k+u+m=s:=⟨_,rfl⟩
 have e1:IntKind.i64.wrap ((k:Int)+(u:Int))=(t:Int):=by rw[IntKind.wrap_i64];omega
 have e2:IntKind.i64.wrap ((t:Int)+(m:Int))=(s:Int):=by rw[IntKind.wrap_i64];omega
 have ek:IntKind.i64.wrap (k:Int)=(k:Int):=by rw[IntKind.wrap_i64];omega
 have em:max ((k:Int)+1) 1=(k:Int)+1:=by omega
 have em2:min ((k:Int)+1) 64=(k:Int)+1:=by omega
 rw[hs]
 by_cases h63:63<=s
 ·have hge:(63:Int)<=(s:Int):=by omega
  rw[if_pos h63]
  clear HT ht hs
  go_enter Tryz.func184,Tryz.ntmps184
  go_wp2_with fail
  go_ret
  exact⟨by simp,rfl⟩
 ·have hge:¬(63:Int)<=(s:Int):=by omega
  rw[if_neg h63]
  have CP:=Lib.hid (rpower_any s w (by omega))
  have hp:2 ^ s<=2 ^ 62:=two_le (by omega)
  have h0:=Nat.two_pow_pos s
  generalize 2 ^ s=P at *
  have hp':P<=4611686018427387904:=hp
  have eP:IntKind.i64.wrap (P:Int)=(P:Int):=by rw[IntKind.wrap_i64];omega
  have eP1:IntKind.i64.wrap ((P:Int) - 1)=(P:Int) - 1:=by rw[IntKind.wrap_i64];omega
  have efin:(((P - 1:Nat)):Int)=(P:Int) - 1:=by omega
  rw[efin]
  clear HT ht hs hp efin
  go_enter Tryz.func184,Tryz.ntmps184
  go_wp2_with fail
  refine(CP.out).mono ?_
  rintro e w' ⟨rfl,rfl⟩
  go_wp2_with fail
  go_ret
  exact⟨rfl,rfl⟩
end Go.Proofs.YtkiebccnpheloaaGreat.D
namespace Go.Proofs
open Go.Shelf
def Tryz.len64L_ren:Go.Shelf.Ren:=⟨fun|129=>372|n=>n,fun|53=>53|3=>3|4=>4|46=>398|5=>5|9=>9|n=>n,fun|n=>n⟩
theorem Tryz.len64L:Go.Proofs.Lays.n129 Tryz.prog Tryz.len64L_ren:={
 mixed:=by kernel_rfl
 f129:=Tryz.func372.trans (congrArg some (by kernel_rfl))
 t3:=Tryz.underlying3
 a3:=Tryz.isAgg3
 z3:=Tryz.sizeOf3
 v3:=Tryz.zeroValue3
 t4:=Tryz.underlying4
 a4:=Tryz.isAgg4
 z4:=Tryz.sizeOf4
 v4:=Tryz.zeroValue4
 t5:=Tryz.underlying5
 a5:=Tryz.isAgg5
 z5:=Tryz.sizeOf5
 v5:=Tryz.zeroValue5
 t9:=Tryz.underlying9
 a9:=Tryz.isAgg9
 z9:=Tryz.sizeOf9
 v9:=Tryz.zeroValue9
 t46:=Tryz.underlying398
 a46:=Tryz.isAgg398
 z46:=Tryz.sizeOf398
 v46:=Tryz.zeroValue398
 t53:=Tryz.underlying53
 a53:=Tryz.isAgg53
 z53:=Tryz.sizeOf53
 v53:=Tryz.zeroValue53}
def Tryz.sortM_ren:Go.Shelf.Ren:=⟨fun|5=>264|8=>357|7=>362|19=>431|20=>372|10=>434|11=>435|12=>436|13=>437|14=>438|15=>439|16=>310|17=>440|18=>441|30=>483|31=>479|32=>480|33=>484|34=>485|35=>389|40=>507|n=>n,fun|23=>236|25=>2|3=>3|32=>398|22=>236|0=>0|44=>327|46=>53|4=>4|36=>509|35=>508|41=>184|5=>5|9=>9|53=>551|57=>554|63=>577|64=>388|n=>n,fun|n=>n⟩
theorem Tryz.sortM:Go.Proofs.SlLaysM.n5 Tryz.prog Tryz.sortM_ren:={
 mixed:=by kernel_rfl
 f5:=⟨Tryz.f264.name,by decide,Tryz.func264.trans (congrArg some (by kernel_rfl))⟩
 f7:=⟨Tryz.f362.name,by decide,Tryz.func362.trans (congrArg some (by kernel_rfl))⟩
 f8:=Tryz.func357.trans (congrArg some (by kernel_rfl))
 f10:=⟨Tryz.f434.name,by decide,Tryz.func434.trans (congrArg some (by kernel_rfl))⟩
 f11:=⟨Tryz.f435.name,by decide,Tryz.func435.trans (congrArg some (by kernel_rfl))⟩
 f12:=⟨Tryz.f436.name,by decide,Tryz.func436.trans (congrArg some (by kernel_rfl))⟩
 f13:=⟨Tryz.f437.name,by decide,Tryz.func437.trans (congrArg some (by kernel_rfl))⟩
 f14:=⟨Tryz.f438.name,by decide,Tryz.func438.trans (congrArg some (by kernel_rfl))⟩
 f15:=⟨Tryz.f439.name,by decide,Tryz.func439.trans (congrArg some (by kernel_rfl))⟩
 f16:=⟨Tryz.f310.name,by decide,Tryz.func310.trans (congrArg some (by kernel_rfl))⟩
 f17:=⟨Tryz.f440.name,by decide,Tryz.func440.trans (congrArg some (by kernel_rfl))⟩
 f18:=⟨Tryz.f441.name,by decide,Tryz.func441.trans (congrArg some (by kernel_rfl))⟩
 f19:=Tryz.func431.trans (congrArg some (by kernel_rfl))
 f20:=Tryz.func372.trans (congrArg some (by kernel_rfl))
 f30:=⟨Tryz.f483.name,by decide,Tryz.func483.trans (congrArg some (by kernel_rfl))⟩
 f31:=Tryz.func479.trans (congrArg some (by kernel_rfl))
 f32:=Tryz.func480.trans (congrArg some (by kernel_rfl))
 f33:=⟨Tryz.f484.name,by decide,Tryz.func484.trans (congrArg some (by kernel_rfl))⟩
 f34:=⟨Tryz.f485.name,by decide,Tryz.func485.trans (congrArg some (by kernel_rfl))⟩
 f35:=⟨Tryz.f389.name,by decide,Tryz.func389.trans (congrArg some (by kernel_rfl))⟩
 f40:=⟨Tryz.f507.name,by decide,Tryz.func507.trans (congrArg some (by kernel_rfl))⟩
 t0:=Tryz.underlying0
 a0:=Tryz.isAgg0
 z0:=Tryz.sizeOf0
 v0:=Tryz.zeroValue0
 t3:=Tryz.underlying3
 a3:=Tryz.isAgg3
 z3:=Tryz.sizeOf3
 v3:=Tryz.zeroValue3
 t4:=Tryz.underlying4
 a4:=Tryz.isAgg4
 z4:=Tryz.sizeOf4
 v4:=Tryz.zeroValue4
 t5:=Tryz.underlying5
 a5:=Tryz.isAgg5
 z5:=Tryz.sizeOf5
 v5:=Tryz.zeroValue5
 t9:=Tryz.underlying9
 a9:=Tryz.isAgg9
 z9:=Tryz.sizeOf9
 v9:=Tryz.zeroValue9
 t22:=Tryz.underlying236
 a22:=Tryz.isAgg236
 z22:=Tryz.sizeOf236
 v22:=Tryz.zeroValue236
 t23:=Tryz.underlying236
 a23:=Tryz.isAgg236
 z23:=Tryz.sizeOf236
 v23:=Tryz.zeroValue236
 t25:=Tryz.underlying2
 a25:=Tryz.isAgg2
 z25:=Tryz.sizeOf2
 v25:=Tryz.zeroValue2
 t32:=Tryz.underlying398
 a32:=Tryz.isAgg398
 z32:=Tryz.sizeOf398
 v32:=Tryz.zeroValue398
 t35:=Tryz.underlying508
 a35:=Tryz.isAgg508
 z35:=Tryz.sizeOf508
 v35:=Tryz.zeroValue508
 t36:=Tryz.underlying509
 a36:=Tryz.isAgg509
 z36:=Tryz.sizeOf509
 v36:=Tryz.zeroValue509
 t41:=Tryz.underlying184
 a41:=Tryz.isAgg184
 z41:=Tryz.sizeOf184
 v41:=Tryz.zeroValue184
 t44:=Tryz.underlying327
 a44:=Tryz.isAgg327
 z44:=Tryz.sizeOf327
 v44:=Tryz.zeroValue327
 t46:=Tryz.underlying53
 a46:=Tryz.isAgg53
 z46:=Tryz.sizeOf53
 v46:=Tryz.zeroValue53
 t53:=Tryz.underlying551
 a53:=Tryz.isAgg551
 z53:=Tryz.sizeOf551
 v53:=Tryz.zeroValue551
 t57:=Tryz.underlying554
 a57:=Tryz.isAgg554
 z57:=Tryz.sizeOf554
 v57:=Tryz.zeroValue554
 t63:=Tryz.underlying577
 a63:=Tryz.isAgg577
 z63:=Tryz.sizeOf577
 v63:=Tryz.zeroValue577
 t64:=Tryz.underlying388
 a64:=Tryz.isAgg388
 z64:=Tryz.sizeOf388
 v64:=Tryz.zeroValue388}
def Tryz.sortF_ren:Go.Shelf.Ren:=⟨fun|6=>255|15=>357|14=>356|28=>431|29=>372|20=>423|21=>424|22=>425|23=>426|24=>427|25=>428|26=>429|27=>430|46=>478|47=>479|48=>480|49=>481|50=>482|57=>506|n=>n,fun|22=>161|24=>222|25=>350|3=>3|39=>398|0=>0|53=>327|55=>53|4=>4|46=>509|45=>508|50=>184|5=>5|9=>9|66=>551|70=>554|76=>577|77=>388|n=>n,fun|n=>n⟩
theorem Tryz.sortF:Go.Proofs.SlLaysF0.n6 Tryz.prog Tryz.sortF_ren:={
 mixed:=by kernel_rfl
 f6:=⟨Tryz.f255.name,by decide,Tryz.func255.trans (congrArg some (by kernel_rfl))⟩
 f14:=⟨Tryz.f356.name,by decide,Tryz.func356.trans (congrArg some (by kernel_rfl))⟩
 f15:=Tryz.func357.trans (congrArg some (by kernel_rfl))
 f20:=⟨Tryz.f423.name,by decide,Tryz.func423.trans (congrArg some (by kernel_rfl))⟩
 f21:=⟨Tryz.f424.name,by decide,Tryz.func424.trans (congrArg some (by kernel_rfl))⟩
 f22:=⟨Tryz.f425.name,by decide,Tryz.func425.trans (congrArg some (by kernel_rfl))⟩
 f23:=⟨Tryz.f426.name,by decide,Tryz.func426.trans (congrArg some (by kernel_rfl))⟩
 f24:=⟨Tryz.f427.name,by decide,Tryz.func427.trans (congrArg some (by kernel_rfl))⟩
 f25:=⟨Tryz.f428.name,by decide,Tryz.func428.trans (congrArg some (by kernel_rfl))⟩
 f26:=⟨Tryz.f429.name,by decide,Tryz.func429.trans (congrArg some (by kernel_rfl))⟩
 f27:=⟨Tryz.f430.name,by decide,Tryz.func430.trans (congrArg some (by kernel_rfl))⟩
 f28:=Tryz.func431.trans (congrArg some (by kernel_rfl))
 f29:=Tryz.func372.trans (congrArg some (by kernel_rfl))
 f46:=⟨Tryz.f478.name,by decide,Tryz.func478.trans (congrArg some (by kernel_rfl))⟩
 f47:=Tryz.func479.trans (congrArg some (by kernel_rfl))
 f48:=Tryz.func480.trans (congrArg some (by kernel_rfl))
 f49:=⟨Tryz.f481.name,by decide,Tryz.func481.trans (congrArg some (by kernel_rfl))⟩
 f50:=⟨Tryz.f482.name,by decide,Tryz.func482.trans (congrArg some (by kernel_rfl))⟩
 f57:=⟨Tryz.f506.name,by decide,Tryz.func506.trans (congrArg some (by kernel_rfl))⟩
 t0:=Tryz.underlying0
 a0:=Tryz.isAgg0
 z0:=Tryz.sizeOf0
 v0:=Tryz.zeroValue0
 t3:=Tryz.underlying3
 a3:=Tryz.isAgg3
 z3:=Tryz.sizeOf3
 v3:=Tryz.zeroValue3
 t4:=Tryz.underlying4
 a4:=Tryz.isAgg4
 z4:=Tryz.sizeOf4
 v4:=Tryz.zeroValue4
 t5:=Tryz.underlying5
 a5:=Tryz.isAgg5
 z5:=Tryz.sizeOf5
 v5:=Tryz.zeroValue5
 t9:=Tryz.underlying9
 a9:=Tryz.isAgg9
 z9:=Tryz.sizeOf9
 v9:=Tryz.zeroValue9
 t22:=Tryz.underlying161
 a22:=Tryz.isAgg161
 z22:=Tryz.sizeOf161
 v22:=Tryz.zeroValue161
 t25:=Tryz.underlying350
 a25:=Tryz.isAgg350
 z25:=Tryz.sizeOf350
 v25:=Tryz.zeroValue350
 t39:=Tryz.underlying398
 a39:=Tryz.isAgg398
 z39:=Tryz.sizeOf398
 v39:=Tryz.zeroValue398
 t45:=Tryz.underlying508
 a45:=Tryz.isAgg508
 z45:=Tryz.sizeOf508
 v45:=Tryz.zeroValue508
 t46:=Tryz.underlying509
 a46:=Tryz.isAgg509
 z46:=Tryz.sizeOf509
 v46:=Tryz.zeroValue509
 t50:=Tryz.underlying184
 a50:=Tryz.isAgg184
 z50:=Tryz.sizeOf184
 v50:=Tryz.zeroValue184
 t53:=Tryz.underlying327
 a53:=Tryz.isAgg327
 z53:=Tryz.sizeOf327
 v53:=Tryz.zeroValue327
 t55:=Tryz.underlying53
 a55:=Tryz.isAgg53
 z55:=Tryz.sizeOf53
 v55:=Tryz.zeroValue53
 t66:=Tryz.underlying551
 a66:=Tryz.isAgg551
 z66:=Tryz.sizeOf551
 v66:=Tryz.zeroValue551
 t70:=Tryz.underlying554
 a70:=Tryz.isAgg554
 z70:=Tryz.sizeOf554
 v70:=Tryz.zeroValue554
 t76:=Tryz.underlying577
 a76:=Tryz.isAgg577
 z76:=Tryz.sizeOf577
 v76:=Tryz.zeroValue577
 t77:=Tryz.underlying388
 a77:=Tryz.isAgg388
 z77:=Tryz.sizeOf388
 v77:=Tryz.zeroValue388}
end Go.Proofs
namespace Go.Proofs.YtkiebccnpheloaaGreat.D
open Go.RowKit Go.Lib Go.Shelf
def MpAt(w:World)(g:Nat)(lo hi dg:Int)(u m:Nat):Prop:=Blk w g 342 #[.int .i64 lo,.int .i64 hi,.int .i64 dg,.int .i64 u,.int .i64 m]
section
variable {g u m : Nat} {lo hi dg : Int} {w : World}
theorem len64_any(x:Nat)(w:World)(h:x<18446744073709551616):Calls Tryz.prog 372 #[.int .u64 x] w fun e w'=>e=.returned (.int .i64 (Lib.bitLen x))/\w=w':=by
 refine(Any.bits_Len64 Tryz.len64L (x:Int) w (by omega) (by omega)).mono ?_
 rintro e w' ⟨rfl,rfl⟩
 exact⟨by simp,rfl⟩
theorem mbucket_any(v:Nat)(h:MpAt w g lo hi dg u m)(hu:u+m<=62)(hv:v<9223372036854775808):Calls Tryz.prog 383 #[.pointer (some ⟨g,0,none⟩),.int .i64 v] w fun e w'=>e=.returned (.int .i64 (bkN u m v))/\Below w.heap.size w w':=by
 have CL:Hid (∀w,_):=Lib.hid (fun w=>len64_any v w (by omega))
 have hb:Lib.bitLen v<=63:=(bit_le (by omega)).2 (by simpa using hv)
 have HB:Hid (bkN u m v=Lib.bitLen v - (u+m)):=Lib.hid rfl
 rw[HB.out]
 generalize Lib.bitLen v=B at *
 have HM:=Lib.hid h
 have hg:g<w.heap.size:=Blk.lt h
 have EV:Hid (IntKind.u64.wrap (v:Int)=(v:Int)):=Lib.hid (by rw[u64w];omega)
 have E1:Hid (IntKind.i64.wrap ((B:Int) - (u:Int))=(B:Int) - (u:Int)):=Lib.hid (by rw[IntKind.wrap_i64];omega)
 have E2:Hid (IntKind.i64.wrap ((B:Int) - (u:Int) - (m:Int))=(B:Int) - (u:Int) - (m:Int)):=Lib.hid (by rw[IntKind.wrap_i64];omega)
 clear h HB
 go_enter Tryz.func383,Tryz.ntmps383
 go_wp2_with fail
 refine wp_region_plan (Below w.heap.size w) [(0,true),(1,true),(3,true),(4,true),(5,true),(6,true),(8,true),(9,true),(10,true),(11,true),(2,false),(7,true),(12,true),(13,true),(14,true)] (by kernel_rfl) (by kernel_rfl) ((Below.refl _ _).drew) ?_
 iterate 10
  refine wpPlan_read (by rfl) (by rfl) (fun R hR=>?_)
  apply Exists.intro
  refine⟨fun w' hS'=>?_,?_⟩
  ·have k3:=(Blk.keep HM.out hS').cell 3
   have k4:=(Blk.keep HM.out hS').cell 4
   have ev:=EV.out
   have e1:=E1.out
   have e2:=E2.out
   simp only[List.getElem?_toArray,List.getElem?_cons_zero,List.getElem?_cons_succ] at k3 k4
   go_simp
   exact⟨rfl,rfl⟩
  go_simp
  refine hR _ ?_
  clear hR R
 refine wpPlan_do (by rfl) (by rfl) (fun K hK=>?_)
 go_simp
 refine(CL.out w.drew).mono ?_
 rintro e w3 ⟨rfl,rfl⟩
 refine hK _ _ ((Below.refl _ _).drew) ?_
 clear hK K
 iterate 4
  refine wpPlan_read (by rfl) (by rfl) (fun R hR=>?_)
  apply Exists.intro
  refine⟨fun w' hS'=>?_,?_⟩
  ·have k3:=(Blk.keep HM.out hS').cell 3
   have k4:=(Blk.keep HM.out hS').cell 4
   have ev:=EV.out
   have e1:=E1.out
   have e2:=E2.out
   simp only[List.getElem?_toArray,List.getElem?_cons_zero,List.getElem?_cons_succ] at k3 k4
   go_simp
   exact⟨rfl,rfl⟩
  go_simp
  refine hR _ ?_
  clear hR R
 refine wpPlan_nil ?_
 go_wp2_with fail
 go_ret
 refine⟨?_,(Below.refl _ _).drew⟩
 show Ending.returned (Value.int .i64 (max 0 ((B:Int) - (u:Int) - (m:Int))))=Ending.returned (Value.int .i64 (((B - (u+m):Nat)):Int))
 congr 2
 omega
theorem mhalf_any(h:MpAt w g lo hi dg u m)(m0:1<=m)(m1:m<=18):Calls Tryz.prog 299 #[.pointer (some ⟨g,0,none⟩)] w fun e w'=>e=.returned (.int .i64 ((2 ^ (m - 1):Nat):Int))/\w=w':=by
 have k4:=Blk.cell h 4
 simp only[List.getElem?_toArray,List.getElem?_cons_zero,List.getElem?_cons_succ] at k4
 clear h
 obtain⟨M,rfl⟩:∃M,m=M+1:=⟨m - 1,by omega⟩
 have hMw:IntKind.i64.wrap (M:Int)=(M:Int):=by rw[IntKind.wrap_i64];omega
 simp only[Nat.add_sub_cancel]
 go_enter Tryz.func299,Tryz.ntmps299
 go_wp2_with fail
 go_ret
 refine⟨?_,rfl⟩
 have h17:2 ^ M<=2 ^ 17:=two_le (by omega)
 show Ending.returned (Value.int .i64 (wrap64 (2 ^ M)))=Ending.returned (Value.int .i64 ((2 ^ M:Nat):Int))
 have e:((2:Int) ^ M)=((2 ^ M:Nat):Int):=by simp
 rw[e]
 generalize 2 ^ M=P at *
 have:wrap64 (P:Int)=(P:Int):=by have h17':P<=131072:=h17;unfold wrap64;omega
 rw[this]
theorem mcell_any(v:Nat)(h:MpAt w g lo hi dg u m)(hu:u+m<=62)(hv:v<9223372036854775808):Calls Tryz.prog 298 #[.pointer (some ⟨g,0,none⟩),.int .i64 v] w fun e w'=>e=.returned (.tuple #[.int .i64 (bkN u m v),.int .i64 (ckN u m v)])/\Below w.heap.size w w':=by
 have CB:=Lib.hid (mbucket_any v h hu hv)
 have HM:=bk_max (u:=u) (m:=m) hv
 have HK:Hid (ckN u m v=v / 2 ^ (bkN u m v+u)):=Lib.hid rfl
 have hb:bkN u m v<=63:=by omega
 have H:=Lib.hid h
 rw[HK.out]
 generalize bkN u m v=b at *
 obtain⟨s,hs⟩:∃s,b+u=s:=⟨_,rfl⟩
 have hbu:IntKind.i64.wrap ((b:Int)+(u:Int))=(s:Int):=by rw[IntKind.wrap_i64];omega
 have hs63:s<=63:=by omega
 rw[hs]
 clear h hs HK HM
 go_enter Tryz.func298,Tryz.ntmps298
 go_wp2_with fail
 refine(CB.out).mono ?_
 rintro e w1 ⟨rfl,hb1⟩
 have k3:=(Blk.keep H.out hb1).cell 3
 simp only[List.getElem?_toArray,List.getElem?_cons_zero,List.getElem?_cons_succ] at k3
 go_wp2_with fail
 go_quiet (fail)
 go_wp2_with fail
 go_ret2
 refine⟨?_,below_drewN hb1 _⟩
 show Ending.returned (.tuple #[.int .i64 b,.int .i64 ((v:Int) / 2 ^ s)])=Ending.returned (.tuple #[.int .i64 b,.int .i64 ((v / 2 ^ s:Nat):Int)])
 simp
theorem mindex_any(v:Nat)(h:MpAt w g lo hi dg u m)(hu:u+m<=62)(m0:1<=m)(m1:m<=18)(hv:v<9223372036854775808):Calls Tryz.prog 203 #[.pointer (some ⟨g,0,none⟩),.int .i64 v] w fun e w'=>e=.returned (.tuple #[.int .i64 (ixN u m v),.int .i64 0])/\Below w.heap.size w w':=by
 have CC:=Lib.hid (mcell_any v h hu hv)
 have CH:Hid (∀w1,Below w.heap.size w w1->_):=Lib.hid (fun w1 hb=>mhalf_any (Blk.keep h hb) m0 m1)
 have HM:=bk_max (u:=u) (m:=m) hv
 have HC:=ck_lt (u:=u) (m:=m) (v:=v) (by omega)
 have h18:2 ^ m<=2 ^ 18:=two_le m1
 have h18':2 ^ (m - 1)<=2 ^ 17:=two_le (by omega)
 have hb:bkN u m v<=63:=by omega
 have HX:Hid (ixN u m v=bkN u m v * 2 ^ (m - 1)+ckN u m v):=Lib.hid rfl
 have hk18:ckN u m v<262144:=by have h18'':2 ^ m<=262144:=h18;omega
 have hH:2 ^ (m - 1)<=131072:=h18'
 rw[HX.out]
 generalize ckN u m v=k at *
 generalize bkN u m v=b at *
 generalize 2 ^ (m - 1)=H at *
 obtain⟨c,hc⟩:∃c,b * H=c:=⟨_,rfl⟩
 have hcb:c<=8257536:=by rw[<-hc];exact Nat.mul_le_mul hb hH
 have hm1:((b:Int)+1) * (H:Int)=(c:Int)+(H:Int):=by rw[<-hc,Int.add_mul,Int.one_mul];simp
 have hfin:(c:Int)+(H:Int)+(k:Int) - (H:Int)=(c:Int)+(k:Int):=by omega
 rw[hc]
 clear HX HC h18 h18' HM hc h
 go_enter Tryz.func203,Tryz.ntmps203
 go_wp2_with fail
 refine(CC.out).mono ?_
 rintro e w1 ⟨rfl,hb1⟩
 go_wp2_with fail
 refine(CH.out w1 hb1).mono ?_
 rintro e w' ⟨rfl,rfl⟩
 go_wp2_with fail
 refine(CH.out w1 hb1).mono ?_
 rintro e w' ⟨rfl,rfl⟩
 go_wp2_with fail
 go_ret2
 exact⟨by simp,hb1⟩
theorem mbuckets_any(v:Nat)(h:MpAt w g lo hi dg u m)(hu:u+m<=62)(hv:v<9223372036854775808):Calls Tryz.prog 314 #[.pointer (some ⟨g,0,none⟩),.int .i64 v] w fun e w'=>e=.returned (.int .i64 ((1+bkN u m v:Nat):Int))/\Below w.heap.size w w':=by
 have CB:=Lib.hid (mbucket_any v h hu hv)
 have HM:=bk_max (u:=u) (m:=m) hv
 have hb:bkN u m v<=63:=by omega
 have hm0:max (v:Int) 0=(v:Int):=by omega
 generalize bkN u m v=b at *
 clear h HM
 go_enter Tryz.func314,Tryz.ntmps314
 go_wp2_with fail
 refine(CB.out).mono ?_
 rintro e w1 ⟨rfl,hb1⟩
 go_wp2_with fail
 go_ret
 exact⟨by simp,hb1⟩
end
end Go.Proofs.YtkiebccnpheloaaGreat.D
