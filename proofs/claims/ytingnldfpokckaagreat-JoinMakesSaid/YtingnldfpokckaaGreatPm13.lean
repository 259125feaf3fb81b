/- Parts of a proof: what its theorem reaches, words cut short. No condition of its own. -/
import Derived.Test.YtingnldfpokckaaGreatPm12
set_option maxRecDepth 100000
set_option maxHeartbeats 16000000
set_option linter.unusedVariables false
set_option linter.unusedSimpArgs false
namespace Go.Proofs.YtingnldfpokckaaGreat
open Go.RowKit
end Go.Proofs.YtingnldfpokckaaGreat
namespace Go.Proofs.YtingnldfpokckaaGreat.D
def hiN(a low:Nat):Nat:=min 9223372036854775807 (min 9223372036854775807 (low+low * a / 10000) * 10000 / (10000 - a))
def farN(a:Nat):Nat->Nat->Nat
 | 0,low=>low
 | n+1,low=>farN a n (hiN a low+1)
theorem far_add(a m:Nat):∀n low,farN a (n+m) low=farN a m (farN a n low)
 | 0,low=>by rw[Nat.zero_add];rfl
 | n+1,low=>by rw[Nat.succ_add];exact far_add a m n _
theorem far100:farN 100 2100 1=9223372036854775808:=by
 have s:∀{x y z:Nat} (n:Nat),farN 100 100 x=y->farN 100 n y=z->farN 100 (100+n) x=z:=fun n h k=>by rw[far_add,h,k]
 exact s (y:=104) 2000 (by decide +kernel) (s (x:=104) (y:=796) 1900 (by decide +kernel) (s (x:=796) (y:=5881) 1800 (by decide +kernel) (s (x:=5881) (y:=43437) 1700 (by decide +kernel) (s (x:=43437) (y:=321021) 1600 (by decide +kernel) (s (x:=321021) (y:=2372209) 1500 (by decide +kernel) (s (x:=2372209) (y:=17529544) 1400 (by decide +kernel) (s (x:=17529544) (y:=129535419) 1300 (by decide +kernel) (s (x:=129535419) (y:=957208293) 1200 (by decide +kernel) (s (x:=957208293) (y:=7073337340) 1100 (by decide +kernel) (s (x:=7073337340) (y:=52268771102) 1000 (by decide +kernel) (s (x:=52268771102) (y:=386242632093) 900 (by decide +kernel) (s (x:=386242632093) (y:=2854158758609) 800 (by decide +kernel) (s (x:=2854158758609) (y:=21090945283128) 700 (by decide +kernel) (s (x:=21090945283128) (y:=155852568324805) 600 (by decide +kernel) (s (x:=155852568324805) (y:=1151680151238675) 500 (by decide +kernel) (s (x:=1151680151238675) (y:=8510396620432366) 400 (by decide +kernel) (s (x:=8510396620432366) (y:=62887990697042869) 300 (by decide +kernel) (s (x:=62887990697042869) (y:=464713872960532417) 200 (by decide +kernel) (s (x:=464713872960532417) (y:=3434025818416436332) 100 (by decide +kernel) (s (x:=3434025818416436332) (y:=9223372036854775808) 0 (by decide +kernel) (rfl)))))))))))))))))))))
theorem hi_le(a low:Nat):hiN a low<=9223372036854775807:=Nat.min_le_left ..
theorem hi_mono{a low low':Nat}(ha:100<=a)(hb:a<=5000)(h:low'<=low):hiN 100 low'<=hiN a low:=by
 unfold hiN
 have h1:low' * 100<=low * a:=Nat.mul_le_mul h ha
 have h2:low' * 100 / 10000<=low * a / 10000:=Nat.div_le_div_right h1
 have h3:min 9223372036854775807 (low'+low' * 100 / 10000)<=min 9223372036854775807 (low+low * a / 10000):=by omega
 have h4:min 9223372036854775807 (low'+low' * 100 / 10000) * 10000 / (10000 - 100)<=min 9223372036854775807 (low+low * a / 10000) * 10000 / (10000 - a):=
  Nat.le_trans (Nat.div_le_div_right (Nat.mul_le_mul_right _ h3)) (Nat.div_le_div_left (by omega) (by omega))
 omega
theorem far_mono{a:Nat}(ha:100<=a)(hb:a<=5000):∀(n:Nat) {low low':Nat},low'<=low->farN 100 n low'<=farN a n low
 | 0,_,_,h=>h
 | n+1,_,_,h=>far_mono ha hb n (Nat.succ_le_succ (hi_mono ha hb h))
theorem far_end{a:Nat}(ha:100<=a)(hb:a<=5000):9223372036854775808<=farN a 2100 1:=by
 have:=far_mono ha hb 2100 (Nat.le_refl 1)
 rw[far100] at this
 exact this
structure Sp where
 low:Int
 mid:Int
 high:Int
def spN(a low:Nat):Sp:=⟨low,(min 9223372036854775807 (low+low * a / 10000):Nat),hiN a low⟩
def spanL(a:Nat):Nat->Nat->List Sp
 | 0,_=>[]
 | n+1,low=>spN a low::if hiN a low=9223372036854775807 then [] else spanL a n (hiN a low+1)
def spans(a:Nat):List Sp:=spanL a 2100 1
theorem spanL_length(a:Nat):∀n low,(spanL a n low).length<=n
 | 0,_=>by simp[spanL]
 | n+1,low=>by
  unfold spanL
  have:=spanL_length a n (hiN a low+1)
  split<;>simp only[List.length_cons,List.length_nil]<;>omega
theorem hi_ge{a low:Nat}(hb:a<=5000)(h:low<=9223372036854775807):low<=hiN a low:=by
 unfold hiN
 have h1:low<=min 9223372036854775807 (low+low * a / 10000):=by omega
 have h2:low<=min 9223372036854775807 (low+low * a / 10000) * 10000 / (10000 - a):=by
  rw[Nat.le_div_iff_mul_le (by omega)]
  exact Nat.mul_le_mul h1 (by omega)
 omega
theorem span_facts{a:Nat}(hb:a<=5000):∀(n low:Nat),1<=low->low<=9223372036854775807->(∃k,k<n/\hiN a (farN a k low)=9223372036854775807) ->
 (∀s∈spanL a n low,1<=s.low/\(low:Int)<=s.low/\s.low<=s.mid/\s.mid<=s.high/\s.high<=9223372036854775807)/\(spanL a n low).Pairwise (fun x y=>x.high<y.low) /\
  ∃s,(spanL a n low).getLast?=some s/\s.high=9223372036854775807
 | 0,_,_,_,⟨k,hk,_⟩=>absurd hk (by omega)
 | n+1,low,h1,h2,⟨k,hk,he⟩=>by
  have hg:=hi_ge hb h2
  have hl:=hi_le a low
  have hmid:min 9223372036854775807 (low+low * a / 10000)<=hiN a low:=by
   unfold hiN
   have:min 9223372036854775807 (low+low * a / 10000)<=min 9223372036854775807 (low+low * a / 10000) * 10000 / (10000 - a):=by
    rw[Nat.le_div_iff_mul_le (by omega)]
    exact Nat.mul_le_mul_left _ (by omega)
   omega
  have hs:1<=(spN a low).low/\(low:Int)<=(spN a low).low/\(spN a low).low<=(spN a low).mid/\(spN a low).mid<=(spN a low).high/\(spN a low).high<=9223372036854775807:=by
   unfold spN
   refine⟨?_,?_,?_,?_,?_⟩<;>simp only<;>omega
  unfold spanL
  by_cases hm:hiN a low=9223372036854775807
  ·rw[if_pos hm]
   refine⟨fun s h=>?_,by simp,spN a low,rfl,?_⟩
   ·simp only[List.mem_singleton] at h
    subst h
    exact hs
   ·show((hiN a low:Nat):Int)=_
    omega
  ·rw[if_neg hm]
   have hk0:0<k:=by
    cases k with
    | zero=>exact absurd he hm
    | succ k=>omega
   obtain⟨i1,i2,s,i3,i4⟩:=span_facts hb n (hiN a low+1) (by omega) (by omega) ⟨k - 1,by omega,by
    have:k=k - 1+1:=by omega
    rw[this] at he
    exact he⟩
   refine⟨fun s h=>?_,List.pairwise_cons.2 ⟨fun s h=>?_,i2⟩,s,?_,i4⟩
   ·rcases List.mem_cons.1 h with rfl|h
    ·exact hs
    ·have:=i1 s h
     omega
   ·have:=i1 s h
    show((hiN a low:Nat):Int)<s.low
    omega
   ·cases hz:spanL a n (hiN a low+1) with
    | nil=>rw[hz] at i3;simp at i3
    | cons z l=>rw[hz] at i3;rw[List.getLast?_cons_cons,i3]
theorem end_at{a:Nat}(ha:100<=a)(hb:a<=5000):∃k,k<2100/\hiN a (farN a k 1)=9223372036854775807:=by
 have h:=far_end ha hb
 rw[show(2100:Nat)=2099+1 from rfl,far_add] at h
 have e:farN a 1 (farN a 2099 1)=hiN a (farN a 2099 1)+1:=rfl
 rw[e] at h
 have:=hi_le a (farN a 2099 1)
 exact⟨2099,by omega,by omega⟩
theorem spans_facts{a:Nat}(ha:100<=a)(hb:a<=5000):(∀s∈spans a,1<=s.low/\s.low<=s.mid/\s.mid<=s.high/\s.high<=9223372036854775807)/\(spans a).Pairwise (fun x y=>x.high<y.low) /\
 (spans a).length<=2100/\∃s,(spans a).getLast?=some s/\s.high=9223372036854775807:=by
 obtain⟨h1,h2,h3⟩:=span_facts hb 2100 1 (Nat.le_refl _) (by omega) (end_at ha hb)
 refine⟨fun s h=>?_,h2,spanL_length ..,h3⟩
 obtain⟨a1,_,a2,a3,a4⟩:=h1 s h
 exact⟨a1,a2,a3,a4⟩
end Go.Proofs.YtingnldfpokckaaGreat.D
