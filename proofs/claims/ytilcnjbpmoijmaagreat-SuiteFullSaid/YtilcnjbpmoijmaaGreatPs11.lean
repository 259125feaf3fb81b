/- Parts of a proof: what its theorem reaches, words cut short. No condition of its own. -/
import Derived.WalkKit
import Derived.Lib.Hide
import Derived.Lib.BitFns
import Derived.Laws.BitsAllLaws
set_option maxRecDepth 100000
set_option maxHeartbeats 16000000
set_option linter.unusedVariables false
set_option linter.unusedSimpArgs false
namespace Go.Proofs.YtilcnjbpmoijmaaGreat
open Go.RowKit
theorem u64w(x:Int):IntKind.u64.wrap x=x % 18446744073709551616:=IntKind.wrap_u64 x
theorem u64id(x:Int)(h0:0<=x)(h1:x<18446744073709551616):IntKind.u64.wrap x=x:=by rw[u64w];omega
structure KStep(a b u d q r:Int):Prop where
 e:q * a+r=u
 r0:0<=r
 q0:0<=q
 q1:q<=4294967297
 lo:(u * 4294967296+d) / (a * 4294967296+b)<=q
structure KHyp(a b u d:Int):Prop where
 ha:2147483648<=a
 ha1:a<4294967296
 hb:0<=b
 hb1:b<4294967296
 hu:0<=u
 hu1:u<a * 4294967296+b
 hd:0<=d
 hd1:d<4294967296
section
variable {a b u d q r : Int}
theorem kq_nonneg(K:KHyp a b u d):0<=(u * 4294967296+d) / (a * 4294967296+b):=by
 obtain⟨ha,ha1,hb,hb1,hu,hu1,hd,hd1⟩:=K
 exact Int.ediv_nonneg (by omega) (by omega)
theorem kq_small(K:KHyp a b u d):(u * 4294967296+d) / (a * 4294967296+b)<4294967296:=by
 obtain⟨ha,ha1,hb,hb1,hu,hu1,hd,hd1⟩:=K
 exact Int.ediv_lt_of_lt_mul (by omega) (by omega)
theorem KStep.start(K:KHyp a b u d):KStep a b u d (u / a) (u % a):=by
 have k0:=kq_nonneg K
 obtain⟨ha,ha1,hb,hb1,hu,hu1,hd,hd1⟩:=K
 have h1:=Int.emod_nonneg u (show a≠0 by omega)
 have h2:=Int.emod_lt_of_pos u (show 0<a by omega)
 have h3:=Int.mul_ediv_add_emod u a
 have h3':u / a * a+u % a=u:=by rw[Int.mul_comm];exact h3
 refine⟨h3',h1,Int.ediv_nonneg hu (by omega),?_,?_⟩
 ·have:u / a<4294967298:=Int.ediv_lt_of_lt_mul (by omega) (by omega)
  omega
 ·have h4:=Int.ediv_mul_le (u * 4294967296+d) (show a * 4294967296+b≠0 by omega)
  generalize (u * 4294967296+d) / (a * 4294967296+b)=k at *
  apply Int.le_ediv_of_mul_le (by omega)
  have h5:k * (a * 4294967296+b)=k * a * 4294967296+k * b:=by rw[Int.mul_add,Int.mul_assoc]
  have h6:0<=k * b:=Int.mul_nonneg k0 hb
  omega
theorem KStep.cond(h:KStep a b u d q r):(4294967296 * r+d<q * b)<->u * 4294967296+d<q * (a * 4294967296+b):=by
 have h5:q * (a * 4294967296+b)=q * a * 4294967296+q * b:=by rw[Int.mul_add,Int.mul_assoc]
 have:=h.e
 omega
theorem KStep.next(K:KHyp a b u d)(h:KStep a b u d q r)(hc:4294967296<=q\/4294967296 * r+d<q * b):KStep a b u d (q - 1) (r+a):=by
 have k1:=kq_small K
 have k0:=kq_nonneg K
 obtain⟨ha,ha1,hb,hb1,hu,hu1,hd,hd1⟩:=K
 have hlt:(u * 4294967296+d) / (a * 4294967296+b)<q:=by
  rcases hc with hc|hc
  ·omega
  ·exact Int.ediv_lt_of_lt_mul (by omega) (h.cond.1 hc)
 have he:=h.e
 have:=h.q1
 have:=h.r0
 have h5:(q - 1) * a=q * a - a:=by rw[Int.sub_mul,Int.one_mul]
 exact⟨by omega,by omega,by omega,by omega,by omega⟩
theorem KStep.stop(K:KHyp a b u d)(h:KStep a b u d q r)(h2:q * b<=4294967296 * r+d):q=(u * 4294967296+d) / (a * 4294967296+b):=by
 obtain⟨ha,ha1,hb,hb1,hu,hu1,hd,hd1⟩:=K
 have h3:q<=(u * 4294967296+d) / (a * 4294967296+b):=by
  apply Int.le_ediv_of_mul_le (by omega)
  have:=h.cond
  omega
 have:=h.lo
 omega
theorem KStep.brk(K:KHyp a b u d)(h:KStep a b u d q r)(h1:q<=4294967296)(h2:4294967296<=r):q=(u * 4294967296+d) / (a * 4294967296+b):=by
 have h3:q * b<=4294967296 * b:=Int.mul_le_mul_of_nonneg_right h1 K.hb
 have:=K.hb1
 have:=K.hd
 exact h.stop K (by omega)
end
theorem kstep2{a b u d f:Int}(K:KHyp a b u d)(f0:0<=f)(f1:f<4294967296):KHyp a b ((u * 4294967296+d) % (a * 4294967296+b)) f:=by
 obtain⟨ha,ha1,hb,hb1,hu,hu1,hd,hd1⟩:=K
 exact⟨ha,ha1,hb,hb1,Int.emod_nonneg _ (by omega),Int.emod_lt_of_pos _ (by omega),f0,f1⟩
theorem kleft(T Y:Int)(hY:0<Y)(hY1:Y<18446744073709551616):(T - T / Y * Y) % 18446744073709551616=T % Y:=by
 have h1:=Int.emod_nonneg T (show Y≠0 by omega)
 have h2:=Int.emod_lt_of_pos T hY
 have h3:=Int.mul_ediv_add_emod T Y
 rw[Int.mul_comm] at h3
 omega
theorem ktwo(U d e Y:Int)(hY:0<Y) :
 ((U * 4294967296+d) * 4294967296+e) / Y=(U * 4294967296+d) / Y * 4294967296+((U * 4294967296+d) % Y * 4294967296+e) / Y /\
 ((U * 4294967296+d) * 4294967296+e) % Y=((U * 4294967296+d) % Y * 4294967296+e) % Y:=by
 have h3:=Int.mul_ediv_add_emod (U * 4294967296+d) Y
 generalize (U * 4294967296+d) / Y=k at *
 generalize (U * 4294967296+d) % Y=m at *
 have e1:(U * 4294967296+d) * 4294967296+e=(m * 4294967296+e)+Y * (k * 4294967296):=by
  have:Y * (k * 4294967296)=Y * k * 4294967296:=by rw[Int.mul_assoc]
  omega
 rw[e1,Int.add_mul_ediv_left _ _ (by omega),Int.add_mul_emod_self_left]
 exact⟨by omega,rfl⟩
theorem maskI(a:Int)(h0:0<=a)(h1:a<18446744073709551616):bits .and .u64 a 4294967295=a % 4294967296:=by
 obtain⟨n,rfl⟩:=Int.eq_ofNat_of_zero_le h0
 have h:=bits_and_u64_nat n 4294967295 (by omega) (by omega)
 have e:n &&& 4294967295=n % 4294967296:=Nat.and_two_pow_sub_one_eq_mod n 32
 rw[e] at h
 exact h
theorem orI(a b:Nat)(s:Nat)(ha:a * 2 ^ s<18446744073709551616)(hb:b<2 ^ s)(hb1:b<18446744073709551616) :
 bits .or .u64 ((a:Int) * 2 ^ s) (b:Int)=(a:Int) * 2 ^ s+b:=by
 have h:=bits_or_u64_nat (a * 2 ^ s) b ha hb1
 have e:a * 2 ^ s ||| b=a * 2 ^ s+b:=by
  rw[Nat.mul_comm];exact(Nat.two_pow_add_eq_or_of_lt hb a).symm
 rw[e] at h
 simpa using h
theorem bitLenAux_zero:∀f:Nat,Lib.bitLenAux f 0=0
 | 0=>rfl
 | f+1=>by simp[Lib.bitLenAux]
theorem bitLenAux_spec:∀(f x:Nat),x<2 ^ f->x<2 ^ Lib.bitLenAux f x/\(x≠0->2 ^ (Lib.bitLenAux f x - 1)<=x/\1<=Lib.bitLenAux f x)
 | 0,x,h=>by simp[Lib.bitLenAux] at h |-;omega
 | f+1,x,h=>by
  unfold Lib.bitLenAux
  by_cases hx:x=0
  ·rw[if_pos hx];exact⟨by omega,fun h'=>absurd hx h'⟩
  ·rw[if_neg hx]
   have hp:2 ^ (f+1)=2 ^ f * 2:=Nat.pow_succ 2 f
   obtain⟨h1,h2⟩:=bitLenAux_spec f (x / 2) (by omega)
   by_cases h4:x / 2=0
   ·rw[h4,bitLenAux_zero]
    simp only[Nat.add_zero]
    refine⟨by omega,fun _=>⟨?_,by omega⟩⟩
    show 2 ^ 0<=x
    omega
   ·obtain⟨h3,h5⟩:=h2 h4
    generalize Lib.bitLenAux f (x / 2)=k at *
    have hk:2 ^ (1+k)=2 ^ k * 2:=by rw[Nat.add_comm];exact Nat.pow_succ 2 k
    have hk1:2 ^ k=2 ^ (k - 1) * 2:=by rw[<-Nat.pow_succ];congr 1;omega
    refine⟨by omega,fun _=>⟨?_,by omega⟩⟩
    rw[show 1+k - 1=k by omega]
    omega
theorem bitLenU_spec(x:Nat)(h:x<18446744073709551616):x<2 ^ Lib.bitLen x/\(x≠0->2 ^ (Lib.bitLen x - 1)<=x/\1<=Lib.bitLen x):=bitLenAux_spec 64 x (by omega)
structure DNorm(hi lo y:Int)(s:Nat)(a b U d f:Int):Prop where
 ea:y * 2 ^ s / 4294967296=a
 eb:bits .and .u64 (y * 2 ^ s) 4294967295=b
 eU:bits .or .u64 (IntKind.u64.wrap (hi * 2 ^ s)) (lo / 2 ^ (64 - s))=U
 ed:IntKind.u64.wrap (lo * 2 ^ s) / 4294967296=d
 ef:bits .and .u64 (IntKind.u64.wrap (lo * 2 ^ s)) 4294967295=f
 K:KHyp a b U d
 f0:0<=f
 f1:f<4294967296
 ey:y * 2 ^ s=a * 4294967296+b
 eX:(hi * 18446744073709551616+lo) * 2 ^ s=(U * 4294967296+d) * 4294967296+f
theorem dnorm(hi lo y:Int)(s:Nat)(h0:0<=hi)(h1:hi<y)(l0:0<=lo)(l1:lo<18446744073709551616)(hs:s<=63)
 (h63:9223372036854775808<=y * 2 ^ s) (h64:y * 2 ^ s<18446744073709551616):∃a b U d f,DNorm hi lo y s a b U d f:=by
 obtain⟨hn,rfl⟩:=Int.eq_ofNat_of_zero_le h0
 obtain⟨ln,rfl⟩:=Int.eq_ofNat_of_zero_le l0
 have p0:(0:Int)<2 ^ s:=Int.pow_pos (by omega)
 have hh:(hn:Int) * 2 ^ s<y * 2 ^ s:=Int.mul_lt_mul_of_pos_right h1 p0
 have hh1:(hn:Int) * 2 ^ s+2 ^ s<=y * 2 ^ s:=by
  have:((hn:Int)+1) * 2 ^ s<=y * 2 ^ s:=Int.mul_le_mul_of_nonneg_right (by omega) (by omega)
  rw[Int.add_mul,Int.one_mul] at this
  exact this
 have hh0:0<=(hn:Int) * 2 ^ s:=Int.mul_nonneg (by omega) (by omega)
 have cast:((hn:Int) * 2 ^ s)=((hn * 2 ^ s:Nat):Int):=by simp
 have pp:(2:Nat) ^ s * 2 ^ (64 - s)=18446744073709551616:=by rw[<-Nat.pow_add,show s+(64 - s)=64 by omega]
 have q0:0<2 ^ (64 - s):=Nat.two_pow_pos _
 have lq:ln / 2 ^ (64 - s)<2 ^ s:=by rw[Nat.div_lt_iff_lt_mul q0,pp];omega
 have ps:(2:Nat) ^ s<=2 ^ 63:=Nat.pow_le_pow_right (by omega) hs
 have eU:bits .or .u64 (IntKind.u64.wrap ((hn:Int) * 2 ^ s)) ((ln:Int) / 2 ^ (64 - s))=(hn:Int) * 2 ^ s+((ln / 2 ^ (64 - s):Nat):Int):=by
  rw[u64id _ hh0 (by omega)]
  have e2:(ln:Int) / 2 ^ (64 - s)=((ln / 2 ^ (64 - s):Nat):Int):=by simp
  rw[e2]
  exact orI hn _ s (by omega) lq (by omega)
 have dm:=Nat.div_add_mod ln (2 ^ (64 - s))
 have ew:IntKind.u64.wrap ((ln:Int) * 2 ^ s)=((ln % 2 ^ (64 - s) * 2 ^ s:Nat):Int):=by
  rw[u64w]
  have e3:ln * 2 ^ s=ln % 2 ^ (64 - s) * 2 ^ s+18446744073709551616 * (ln / 2 ^ (64 - s)):=by
   have h:=congrArg (· * 2 ^ s) dm
   simp only[Nat.add_mul] at h
   have h2:2 ^ (64 - s) * (ln / 2 ^ (64 - s)) * 2 ^ s=18446744073709551616 * (ln / 2 ^ (64 - s)):=by
    rw[<-pp,Nat.mul_comm,<-Nat.mul_assoc]
   omega
  have e4:(ln:Int) * 2 ^ s=((ln * 2 ^ s:Nat):Int):=by simp
  have h5:ln % 2 ^ (64 - s) * 2 ^ s<18446744073709551616:=by
   rw[<-pp,Nat.mul_comm (2 ^ s)]
   exact Nat.mul_lt_mul_of_pos_right (Nat.mod_lt _ q0) (Nat.two_pow_pos _)
  rw[e4,e3]
  omega
 have w1:ln % 2 ^ (64 - s) * 2 ^ s<18446744073709551616:=by
  rw[<-pp,Nat.mul_comm (2 ^ s)]
  exact Nat.mul_lt_mul_of_pos_right (Nat.mod_lt _ q0) (Nat.two_pow_pos _)
 have eX:((hn:Int) * 18446744073709551616+ln) * 2 ^ s=((hn:Int) * 2 ^ s+((ln / 2 ^ (64 - s):Nat):Int)) * 18446744073709551616+((ln % 2 ^ (64 - s) * 2 ^ s:Nat):Int):=by
  have h:=congrArg (· * 2 ^ s) dm
  simp only[Nat.add_mul] at h
  have h2:2 ^ (64 - s) * (ln / 2 ^ (64 - s)) * 2 ^ s=18446744073709551616 * (ln / 2 ^ (64 - s)):=by
   rw[<-pp,Nat.mul_comm,<-Nat.mul_assoc]
  have e4:(ln:Int) * 2 ^ s=((ln * 2 ^ s:Nat):Int):=by simp
  have e5:(hn:Int) * 18446744073709551616 * 2 ^ s=(hn:Int) * 2 ^ s * 18446744073709551616:=by rw[Int.mul_assoc,Int.mul_comm 18446744073709551616,<-Int.mul_assoc]
  rw[Int.add_mul,e5,e4]
  omega
 refine⟨_,_,_,_,_,⟨rfl,rfl,eU,rfl,rfl,?_,?_,?_,?_,?_⟩⟩
 ·rw[maskI _ (by omega) h64,ew]
  generalize ln % 2 ^ (64 - s) * 2 ^ s=wn at *
  generalize ln / 2 ^ (64 - s)=l2 at *
  generalize (hn:Int) * 2 ^ s=h2 at *
  generalize y * 2 ^ s=Y at *
  have:((l2:Nat):Int)<2 ^ s:=by
   have:((l2:Nat):Int)<((2 ^ s:Nat):Int):=by omega
   simpa using this
  generalize (2:Int) ^ s=p at *
  constructor<;>omega
 ·rw[maskI _ (by rw[ew];omega) (by rw[ew];omega)];omega
 ·rw[maskI _ (by rw[ew];omega) (by rw[ew];omega)];omega
 ·rw[maskI _ (by omega) h64];omega
 ·rw[eX,maskI _ (by rw[ew];omega) (by rw[ew];omega),ew];omega
theorem dfin(X y U d f Y:Int)(s:Nat)(hY:y * 2 ^ s=Y)(hX:X * 2 ^ s=(U * 4294967296+d) * 4294967296+f)(h0:0<Y) :
 X / y=(U * 4294967296+d) / Y * 4294967296+((U * 4294967296+d) % Y * 4294967296+f) / Y/\X % y=((U * 4294967296+d) % Y * 4294967296+f) % Y / 2 ^ s:=by
 have p0:(0:Int)<2 ^ s:=Int.pow_pos (by omega)
 obtain⟨h1,h2⟩:=ktwo U d f Y h0
 rw[<-hX] at h1 h2
 rw[<-h1,<-h2,<-hY,Int.mul_ediv_mul_of_pos_left _ _ p0,Int.mul_comm X,Int.mul_comm y,Int.mul_emod_mul_of_pos _ _ p0,Int.mul_ediv_cancel_left _ (by omega)]
 exact⟨rfl,rfl⟩
end Go.Proofs.YtilcnjbpmoijmaaGreat
