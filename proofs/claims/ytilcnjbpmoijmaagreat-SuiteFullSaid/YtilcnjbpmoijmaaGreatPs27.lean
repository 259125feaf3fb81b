/- Parts of a proof: what its theorem reaches, words cut short. No condition of its own. -/
import Derived.Test.YtilcnjbpmoijmaaGreatPs13
set_option maxRecDepth 100000
set_option maxHeartbeats 16000000
set_option linter.unusedVariables false
set_option linter.unusedSimpArgs false
namespace Go.Proofs.YtilcnjbpmoijmaaGreat.K
open Go.RowKit Go.Lib
def ceilI(a d:Int):Int:=a / d+(if a % d=0 then 0 else 1)
def rankI(num den n:Int):Int × Int:=if den=0\/den<num then(0,7) else if n=0 then(0,8) else(max 1 (ceilI (num * n) den),0)
theorem rank_q{num den n:Int}(a0:0<=num)(h:num<=den)(d0:0<den)(n0:0<=n):0<=num * n / den/\num * n / den<=n/\0<=num * n % den/\(num * n % den≠0->num * n / den<n):=by
 have h1:0<=num * n:=Int.mul_nonneg a0 n0
 have h2:num * n<=den * n:=Int.mul_le_mul_of_nonneg_right h n0
 have h3:=Int.emod_nonneg (num * n) (show den≠0 by omega)
 have h4:=Int.mul_ediv_add_emod (num * n) den
 refine⟨Int.ediv_nonneg h1 (by omega),?_,h3,fun hne=>?_⟩
 ·refine Int.le_of_mul_le_mul_left (a:=den) ?_ d0
  omega
 ·refine Int.lt_of_mul_lt_mul_left (a:=den) ?_ (by omega)
  omega
theorem rankI_bd{num den n:Int}(a0:0<=num)(d0:0<=den)(n0:0<=n)(h:(rankI num den n).2=0):1<=(rankI num den n).1/\(rankI num den n).1<=n:=by
 unfold rankI at h |-
 by_cases h1:den=0\/den<num
 ·rw[if_pos h1] at h;cases h
 ·rw[if_neg h1] at h |-
  by_cases h2:n=0
  ·rw[if_pos h2] at h;cases h
  ·rw[if_neg h2]
   obtain⟨q0,q1,q2,q3⟩:=rank_q (num:=num) (den:=den) (n:=n) a0 (by omega) (by omega) n0
   unfold ceilI
   simp only
   by_cases h3:num * n % den=0
   ·rw[if_pos h3];omega
   ·rw[if_neg h3];have:=q3 h3;omega
theorem ceil_any(a b d:Int)(w:World)(a0:0<=a)(a1:a<=d)(b0:0<=b)(b1:b<18446744073709551615)(d0:0<d)(d1:d<18446744073709551616) :
 Calls Tryz.prog 429 #[.int .u64 a,.int .u64 b,.int .u64 d] w fun e w'=>e=.returned (.tuple #[.int .u64 (ceilI (a * b) d),.int .i64 0])/\Below w.heap.size w w':=by
 obtain⟨q0,q1,q2,q3⟩:=rank_q (num:=a) (den:=d) (n:=b) a0 a1 d0 b0
 have HM:=Lib.hid (muldiv_any a b d w a0 (by omega) b0 (by omega) d0 d1 (by omega))
 have HCE:Hid (ceilI (a * b) d=a * b / d+(if a * b % d=0 then 0 else 1)):=Lib.hid rfl
 obtain⟨q,hq⟩:∃q,a * b / d=q:=⟨_,rfl⟩
 obtain⟨m,hm⟩:∃m,a * b % d=m:=⟨_,rfl⟩
 rw[hq,hm] at HM HCE
 rw[hq] at q0 q1 q3
 rw[hm] at q2 q3
 rw[HCE.out]
 clear hq hm
 by_cases h0:m=0
 ·subst h0
  go_enter Tryz.func429,Tryz.ntmps429
  go_wp2_with fail
  refine(HM.out).mono ?_
  rintro e w1 ⟨rfl,hb1⟩
  go_wp2_with fail
  go_ret2
  exact⟨by simp,hb1⟩
 ·rw[if_neg h0]
  have h1:q<b:=q3 h0
  go_enter Tryz.func429,Tryz.ntmps429
  go_wp2_with fail
  refine(HM.out).mono ?_
  rintro e w1 ⟨rfl,hb1⟩
  go_wp2_with fail
  go_ret2
  exact⟨rfl,hb1⟩
theorem rank_any(num den n:Int)(w:World)(a0:0<=num)(_a1:num<18446744073709551616)(d0:0<=den)(d1:den<18446744073709551616)(n0:0<=n)(n1:n<18446744073709551615) :
 Calls Tryz.prog 379 #[.int .u64 num,.int .u64 den,.int .u64 n] w fun e w'=>e=.returned (.tuple #[.int .u64 (rankI num den n).1,.int .i64 (rankI num den n).2])/\Below w.heap.size w w':=by
 unfold rankI
 have HC:=Lib.hid (rcheck_any num den w)
 by_cases h:den=0\/den<num
 ·rw[if_pos h] at HC |-
  clear h
  go_enter Tryz.func379,Tryz.ntmps379
  go_wp2_with (first|(go_at_call 428;refine(HC.out).mono ?_;rintro e w' ⟨rfl,rfl⟩))
  all_goals (go_ret2;exact⟨rfl,by(repeat' (first|(with_reducible exact Below.refl _ _)|(with_reducible refine Below.alloc ?_ ?_ _)|(with_reducible refine Below.drew ?_)|(with_reducible refine below_drewN ?_ _)|(with_reducible refine Below.setCell ?_ ?_ _)|(with_reducible refine below_of (by assumption) ?_ ?_)|go_size))⟩)
 ·rw[if_neg h] at HC |-
  by_cases h8:n=0
  ·rw[if_pos h8]
   subst h8
   clear h
   go_enter Tryz.func379,Tryz.ntmps379
   go_wp2_with (first|(go_at_call 428;refine(HC.out).mono ?_;rintro e w' ⟨rfl,rfl⟩))
   all_goals (go_ret2;exact⟨rfl,by(repeat' (first|(with_reducible exact Below.refl _ _)|(with_reducible refine Below.alloc ?_ ?_ _)|(with_reducible refine Below.drew ?_)|(with_reducible refine below_drewN ?_ _)|(with_reducible refine Below.setCell ?_ ?_ _)|(with_reducible refine below_of (by assumption) ?_ ?_)|go_size))⟩)
  ·rw[if_neg h8]
   have hn:(n == 0)=false:=by simp;omega
   have HM:=Lib.hid (ceil_any num n den w a0 (by omega) n0 (by omega) (by omega) d1)
   clear h h8
   go_enter Tryz.func379,Tryz.ntmps379
   go_wp2_with (first|(go_at_call 428;refine(HC.out).mono ?_;rintro e w' ⟨rfl,rfl⟩))
   refine(HM.out).mono ?_
   rintro e w1 ⟨rfl,hb1⟩
   go_wp2_with fail
   go_ret2
   exact⟨rfl,hb1⟩
end Go.Proofs.YtilcnjbpmoijmaaGreat.K
