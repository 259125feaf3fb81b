/- Parts of a proof: what its theorem reaches, words cut short. No condition of its own. -/
import Derived.Test.YtilcnjbpmoijmaaGreatProg
import Derived.Test.YtilcnjbpmoijmaaGreatPs11
import Derived.Test.YtilcnjbpmoijmaaGreatPs01
import Derived.Lib.Mul64
import Derived.Shelf.Strconv.Itoa0
import Derived.Laws.Externs
set_option maxRecDepth 100000
set_option maxHeartbeats 16000000
set_option linter.unusedVariables false
set_option linter.unusedSimpArgs false
namespace Go.Proofs.YtilcnjbpmoijmaaGreat
open Go.RowKit Go.Lib
theorem len64_111(x:Int)(w:World)(h0:0<=x)(h1:x<18446744073709551616)(a1:4294967296<=x)(a2:65536<=x / 4294967296)(a3:256<=x / 4294967296 / 65536) :
 Calls Tryz.prog 195 #[.int .u64 x] w fun e w'=>e=.returned (.int .i64 (Lib.bitLen x.toNat))/\w=w':=by
 have b0:0<=x / 4294967296 / 65536 / 256:=by omega
 have b1:x / 4294967296 / 65536 / 256<=255:=by omega
 have l:=Lib.bitLen_le8' (x / 4294967296 / 65536 / 256) (by omega) (by omega)
 have e8:=Lib.len8_of (x / 4294967296 / 65536 / 256) (by omega) (by omega)
 have l0:0<=len8 (x / 4294967296 / 65536 / 256):=by omega
 have l1:len8 (x / 4294967296 / 65536 / 256)<=8:=by omega
 have hx:(x / 4294967296 / 65536 / 256).toNat=x.toNat / 72057594037927936:=by omega
 have s:=Lib.bitLen_shift56 x.toNat (by omega) (by omega)
 have HF:Hid (56+len8 (x / 4294967296 / 65536 / 256)=Lib.bitLen x.toNat):=by
  show 56+len8 (x / 4294967296 / 65536 / 256)=_
  rw[hx] at e8
  omega
 clear s hx e8 l
 go_enter Tryz.func195,Tryz.ntmps195
 go_wp2
 go_ret
 rw[<-HF.out]
 exact⟨rfl,rfl⟩
theorem len64_110(x:Int)(w:World)(h0:0<=x)(h1:x<18446744073709551616)(a1:4294967296<=x)(a2:65536<=x / 4294967296)(a3:x / 4294967296 / 65536<256) :
 Calls Tryz.prog 195 #[.int .u64 x] w fun e w'=>e=.returned (.int .i64 (Lib.bitLen x.toNat))/\w=w':=by
 have b0:0<=x / 4294967296 / 65536:=by omega
 have b1:x / 4294967296 / 65536<=255:=by omega
 have l:=Lib.bitLen_le8' (x / 4294967296 / 65536) (by omega) (by omega)
 have e8:=Lib.len8_of (x / 4294967296 / 65536) (by omega) (by omega)
 have l0:0<=len8 (x / 4294967296 / 65536):=by omega
 have l1:len8 (x / 4294967296 / 65536)<=8:=by omega
 have hx:(x / 4294967296 / 65536).toNat=x.toNat / 281474976710656:=by omega
 have s:=Lib.bitLen_shift48 x.toNat (by omega) (by omega)
 have HF:Hid (48+len8 (x / 4294967296 / 65536)=Lib.bitLen x.toNat):=by
  show 48+len8 (x / 4294967296 / 65536)=_
  rw[hx] at e8
  omega
 clear s hx e8 l
 go_enter Tryz.func195,Tryz.ntmps195
 go_wp2
 go_ret
 rw[<-HF.out]
 exact⟨rfl,rfl⟩
theorem len64_101(x:Int)(w:World)(h0:0<=x)(h1:x<18446744073709551616)(a1:4294967296<=x)(a2:x / 4294967296<65536)(a3:256<=x / 4294967296) :
 Calls Tryz.prog 195 #[.int .u64 x] w fun e w'=>e=.returned (.int .i64 (Lib.bitLen x.toNat))/\w=w':=by
 have b0:0<=x / 4294967296 / 256:=by omega
 have b1:x / 4294967296 / 256<=255:=by omega
 have l:=Lib.bitLen_le8' (x / 4294967296 / 256) (by omega) (by omega)
 have e8:=Lib.len8_of (x / 4294967296 / 256) (by omega) (by omega)
 have l0:0<=len8 (x / 4294967296 / 256):=by omega
 have l1:len8 (x / 4294967296 / 256)<=8:=by omega
 have hx:(x / 4294967296 / 256).toNat=x.toNat / 1099511627776:=by omega
 have s:=Lib.bitLen_shift40 x.toNat (by omega) (by omega)
 have HF:Hid (40+len8 (x / 4294967296 / 256)=Lib.bitLen x.toNat):=by
  show 40+len8 (x / 4294967296 / 256)=_
  rw[hx] at e8
  omega
 clear s hx e8 l
 go_enter Tryz.func195,Tryz.ntmps195
 go_wp2
 go_ret
 rw[<-HF.out]
 exact⟨rfl,rfl⟩
theorem len64_100(x:Int)(w:World)(h0:0<=x)(h1:x<18446744073709551616)(a1:4294967296<=x)(_a2:x / 4294967296<65536)(a3:x / 4294967296<256) :
 Calls Tryz.prog 195 #[.int .u64 x] w fun e w'=>e=.returned (.int .i64 (Lib.bitLen x.toNat))/\w=w':=by
 have b0:0<=x / 4294967296:=by omega
 have b1:x / 4294967296<=255:=by omega
 have l:=Lib.bitLen_le8' (x / 4294967296) (by omega) (by omega)
 have e8:=Lib.len8_of (x / 4294967296) (by omega) (by omega)
 have l0:0<=len8 (x / 4294967296):=by omega
 have l1:len8 (x / 4294967296)<=8:=by omega
 have hx:(x / 4294967296).toNat=x.toNat / 4294967296:=by omega
 have s:=Lib.bitLen_shift32 x.toNat (by omega) (by omega)
 have HF:Hid (32+len8 (x / 4294967296)=Lib.bitLen x.toNat):=by
  show 32+len8 (x / 4294967296)=_
  rw[hx] at e8
  omega
 clear s hx e8 l
 go_enter Tryz.func195,Tryz.ntmps195
 go_wp2
 go_ret
 rw[<-HF.out]
 exact⟨rfl,rfl⟩
theorem len64_011(x:Int)(w:World)(h0:0<=x)(h1:x<18446744073709551616)(a1:x<4294967296)(a2:65536<=x)(a3:256<=x / 65536) :
 Calls Tryz.prog 195 #[.int .u64 x] w fun e w'=>e=.returned (.int .i64 (Lib.bitLen x.toNat))/\w=w':=by
 have b0:0<=x / 65536 / 256:=by omega
 have b1:x / 65536 / 256<=255:=by omega
 have l:=Lib.bitLen_le8' (x / 65536 / 256) (by omega) (by omega)
 have e8:=Lib.len8_of (x / 65536 / 256) (by omega) (by omega)
 have l0:0<=len8 (x / 65536 / 256):=by omega
 have l1:len8 (x / 65536 / 256)<=8:=by omega
 have hx:(x / 65536 / 256).toNat=x.toNat / 16777216:=by omega
 have s:=Lib.bitLen_shift24 x.toNat (by omega) (by omega)
 have HF:Hid (24+len8 (x / 65536 / 256)=Lib.bitLen x.toNat):=by
  show 24+len8 (x / 65536 / 256)=_
  rw[hx] at e8
  omega
 clear s hx e8 l
 go_enter Tryz.func195,Tryz.ntmps195
 go_wp2
 go_ret
 rw[<-HF.out]
 exact⟨rfl,rfl⟩
theorem len64_010(x:Int)(w:World)(h0:0<=x)(h1:x<18446744073709551616)(a1:x<4294967296)(a2:65536<=x)(a3:x / 65536<256) :
 Calls Tryz.prog 195 #[.int .u64 x] w fun e w'=>e=.returned (.int .i64 (Lib.bitLen x.toNat))/\w=w':=by
 have b0:0<=x / 65536:=by omega
 have b1:x / 65536<=255:=by omega
 have l:=Lib.bitLen_le8' (x / 65536) (by omega) (by omega)
 have e8:=Lib.len8_of (x / 65536) (by omega) (by omega)
 have l0:0<=len8 (x / 65536):=by omega
 have l1:len8 (x / 65536)<=8:=by omega
 have hx:(x / 65536).toNat=x.toNat / 65536:=by omega
 have s:=Lib.bitLen_shift16 x.toNat (by omega) (by omega)
 have HF:Hid (16+len8 (x / 65536)=Lib.bitLen x.toNat):=by
  show 16+len8 (x / 65536)=_
  rw[hx] at e8
  omega
 clear s hx e8 l
 go_enter Tryz.func195,Tryz.ntmps195
 go_wp2
 go_ret
 rw[<-HF.out]
 exact⟨rfl,rfl⟩
theorem len64_001(x:Int)(w:World)(h0:0<=x)(h1:x<18446744073709551616)(a1:x<4294967296)(_:x<65536)(a3:256<=x) :
 Calls Tryz.prog 195 #[.int .u64 x] w fun e w'=>e=.returned (.int .i64 (Lib.bitLen x.toNat))/\w=w':=by
 have b0:0<=x / 256:=by omega
 have b1:x / 256<=255:=by omega
 have l:=Lib.bitLen_le8' (x / 256) (by omega) (by omega)
 have e8:=Lib.len8_of (x / 256) (by omega) (by omega)
 have l0:0<=len8 (x / 256):=by omega
 have l1:len8 (x / 256)<=8:=by omega
 have hx:(x / 256).toNat=x.toNat / 256:=by omega
 have s:=Lib.bitLen_shift8 x.toNat (by omega) (by omega)
 have HF:Hid (8+len8 (x / 256)=Lib.bitLen x.toNat):=by
  show 8+len8 (x / 256)=_
  rw[hx] at e8
  omega
 clear s hx e8 l
 go_enter Tryz.func195,Tryz.ntmps195
 go_wp2
 go_ret
 rw[<-HF.out]
 exact⟨rfl,rfl⟩
theorem len64_000(x:Int)(w:World)(h0:0<=x)(h1:x<18446744073709551616)(a1:x<4294967296)(_:x<65536)(a3:x<256) :
 Calls Tryz.prog 195 #[.int .u64 x] w fun e w'=>e=.returned (.int .i64 (Lib.bitLen x.toNat))/\w=w':=by
 have b0:0<=x:=by omega
 have b1:x<=255:=by omega
 have l:=Lib.bitLen_le8' (x) (by omega) (by omega)
 have e8:=Lib.len8_of (x) (by omega) (by omega)
 have l0:0<=len8 (x):=by omega
 have l1:len8 (x)<=8:=by omega
 have hx:(x).toNat=x.toNat:=by omega
 have HF:Hid (0+len8 (x)=Lib.bitLen x.toNat):=by
  show 0+len8 (x)=_
  rw[hx] at e8
  omega
 clear hx e8 l
 go_enter Tryz.func195,Tryz.ntmps195
 go_wp2
 go_ret
 rw[<-HF.out]
 exact⟨by rw[Int.zero_add];rfl,rfl⟩
theorem len64_any(x:Int)(w:World)(h0:0<=x)(h1:x<18446744073709551616) :
 Calls Tryz.prog 195 #[.int .u64 x] w fun e w'=>e=.returned (.int .i64 (Lib.bitLen x.toNat))/\w=w':=by
 by_cases a1:4294967296<=x
 ·by_cases a2:65536<=x / 4294967296
  ·by_cases a3:256<=x / 4294967296 / 65536
   ·exact len64_111 x w h0 h1 a1 a2 a3
   ·exact len64_110 x w h0 h1 a1 a2 (by omega)
  ·by_cases a3:256<=x / 4294967296
   ·exact len64_101 x w h0 h1 a1 (by omega) a3
   ·exact len64_100 x w h0 h1 a1 (by omega) (by omega)
 ·by_cases a2:65536<=x
  ·by_cases a3:256<=x / 65536
   ·exact len64_011 x w h0 h1 (by omega) a2 a3
   ·exact len64_010 x w h0 h1 (by omega) a2 (by omega)
  ·by_cases a3:256<=x
   ·exact len64_001 x w h0 h1 (by omega) (by omega) a3
   ·exact len64_000 x w h0 h1 (by omega) (by omega) (by omega)
theorem lz64_any(x:Int)(w:World)(h0:0<=x)(h1:x<18446744073709551616) :
 Calls Tryz.prog 448 #[.int .u64 x] w fun e w'=>e=.returned (.int .i64 (64 - (Lib.bitLen x.toNat:Int)))/\w=w':=by
 have l:Lib.bitLen x.toNat<=64:=Lib.bitLen_le x.toNat 64 (by omega) (by omega)
 go_enter Tryz.func448,Tryz.ntmps448
 go_wp2_with (go_at_call 195;refine(len64_any _ _ h0 h1).mono ?_;rintro e w' ⟨rfl,rfl⟩)
 go_ret
 exact⟨rfl,rfl⟩
theorem lz64_pos(x:Int)(w:World)(h0:0<x)(h1:x<18446744073709551616) :
 Calls Tryz.prog 448 #[.int .u64 x] w fun e w'=>∃s:Nat,e=.returned (.int .i64 (s:Int))/\s<=63/\9223372036854775808<=x * 2 ^ s/\x * 2 ^ s<18446744073709551616/\w=w':=by
 refine(lz64_any x w (by omega) h1).mono ?_
 rintro e w' ⟨rfl,rfl⟩
 obtain⟨n,rfl⟩:=Int.eq_ofNat_of_zero_le (show 0<=x by omega)
 have l:Lib.bitLen n<=64:=Lib.bitLen_le n 64 (by omega) (by omega)
 obtain⟨s1,s2⟩:=bitLenU_spec n (by omega)
 obtain⟨s3,hb⟩:=s2 (by omega)
 have e1:2 ^ Lib.bitLen n * 2 ^ (64 - Lib.bitLen n)=18446744073709551616:=by rw[<-Nat.pow_add,show Lib.bitLen n+(64 - Lib.bitLen n)=64 by omega]
 have e2:2 ^ (Lib.bitLen n - 1) * 2 ^ (64 - Lib.bitLen n)=9223372036854775808:=by rw[<-Nat.pow_add,show Lib.bitLen n - 1+(64 - Lib.bitLen n)=63 by omega]
 have m1:n * 2 ^ (64 - Lib.bitLen n)<18446744073709551616:=by rw[<-e1];exact Nat.mul_lt_mul_of_pos_right s1 (Nat.two_pow_pos _)
 have m2:9223372036854775808<=n * 2 ^ (64 - Lib.bitLen n):=by rw[<-e2];exact Nat.mul_le_mul_right _ s3
 have c:(n:Int) * 2 ^ (64 - Lib.bitLen n)=((n * 2 ^ (64 - Lib.bitLen n):Nat):Int):=by simp
 refine⟨64 - Lib.bitLen n,by simp only[Int.toNat_natCast];rw[Int.natCast_sub l];rfl,by omega,?_,?_,rfl⟩
 ·rw[c];omega
 ·rw[c];omega
theorem div64_low(lo y:Int)(w:World)(l0:0<=lo)(l1:lo<18446744073709551616)(y0:0<y)(y1:y<18446744073709551616) :
 Calls Tryz.prog 433 #[.int .u64 0,.int .u64 lo,.int .u64 y] w fun e w'=>e=.returned (.tuple #[.int .u64 (lo / y),.int .u64 (lo % y)])/\Below w.heap.size w w':=by
 have hy:(y == 0)=false:=by simp;omega
 go_enter Tryz.func433,Tryz.ntmps433
 go_wp2
 go_region
 all_goals (go_wp2;go_ret2;exact⟨rfl,(Below.refl _ _).drew⟩)
theorem div_mod_e(u a:Int):u - u / a * a=u % a:=by have:=Int.mul_ediv_add_emod u a;rw[Int.mul_comm] at this;omega
theorem div64_high(hi lo y:Int)(w:World)(h0:0<hi)(h1:hi<y)(l0:0<=lo)(l1:lo<18446744073709551616)(y1:y<18446744073709551616) :
 Calls Tryz.prog 433 #[.int .u64 hi,.int .u64 lo,.int .u64 y] w fun e w'=>e=.returned (.tuple #[.int .u64 ((hi * 18446744073709551616+lo) / y),.int .u64 ((hi * 18446744073709551616+lo) % y)])/\Below w.heap.size w w':=by
 have hy:(y == 0)=false:=by simp;omega
 have hh:(hi == 0)=false:=by simp;omega
 go_enter Tryz.func433,Tryz.ntmps433
 go_upto_region 8 with(go_at_call 448;refine(lz64_pos _ _ (by omega) y1).mono ?_;rintro e w' ⟨s,rfl,hs,h63,h64,rfl⟩)
 obtain⟨a,b,U,d,f,N⟩:=dnorm hi lo y s (by omega) h1 l0 l1 hs h63 h64
 obtain⟨ea,eb,eU,ed,ef,K,f0,f1,ey,eX⟩:=N
 have HX:=Lib.hid eX
 have HY:=Lib.hid ey
 have HK:=Lib.hid K
 have⟨ha,ha1,hb,hb1,hu,hu1,hd,hd1⟩:=K
 have hY0:0<a * 4294967296+b:=by omega
 have hY1:a * 4294967296+b<18446744073709551616:=by omega
 have k1:=kq_small K
 have k0:=kq_nonneg K
 have st:=KStep.start K
 have st0:=st.q0
 have st1:=st.q1
 have stm:0<=U / a * a:=Int.mul_nonneg st0 (by omega)
 have stm1:U / a * a<=U:=Int.ediv_mul_le _ (by omega)
 have em:=div_mod_e U a
 have em1:U % a<a:=Int.emod_lt_of_pos U (by omega)
 have em0:=Int.emod_nonneg U (show a≠0 by omega)
 have ST:=Lib.hid st
 clear eX ey K st
 obtain⟨Q1,hQ1⟩:∃Q1,(U * 4294967296+d) / (a * 4294967296+b)=Q1:=⟨_,rfl⟩
 rw[hQ1] at k0 k1
 have HQ:=Lib.hid hQ1
 clear hQ1
 go_upto_block 0 with fail
 go_cut [15] (fun q1 wr=>q1=.int .u64 Q1/\w=wr)
 case first=>
  go_wp2_with fail
  go_loopg [15,16] ((U / a).toNat) (fun k q1 r1 wr=>(∃q r:Int,q1=.int .u64 q/\r1=.int .u64 r/\KStep a b U d q r/\r<4294967296/\q<=k)/\w=wr)
  case atStart=>exact⟨⟨_,_,rfl,rfl,ST.out,by omega,by omega⟩,rfl⟩
  case round=>
   obtain⟨⟨q,r,rfl,rfl,hk,hr,hm⟩,rfl⟩:=hrel
   have q0:=hk.q0
   have q1:=hk.q1
   have r0:=hk.r0
   have HS:=Lib.hid hk
   by_cases hq:4294967296<=q
   ·have hn:=hk.next HK.out (.inl hq)
    have n1:=hn.q1
    have HN:=Lib.hid hn
    clear hk hn
    by_cases hr2:4294967296<=r+a
    ·go_wp2_with fail
     go_meet
     exact⟨by rw[<-HQ.out,HN.out.brk HK.out (by omega) hr2],rfl⟩
    ·go_wp2_with fail
     go_roundg ((q - 1).toNat)
     case measure=>omega
     case rel=>exact⟨⟨_,_,rfl,rfl,HN.out,by omega,by omega⟩,rfl⟩
   ·have m0:0<=q * b:=Int.mul_nonneg q0 hb
    have m1:q * b<=4294967295 * b:=Int.mul_le_mul_of_nonneg_right (by omega) hb
    by_cases hc:4294967296 * r+d<q * b
    ·have hn:=hk.next HK.out (.inr hc)
     have n1:=hn.q1
     have n0:=hn.q0
     have HN:=Lib.hid hn
     clear hk hn
     by_cases hr2:4294967296<=r+a
     ·go_wp2_with fail
      go_meet
      exact⟨by rw[<-HQ.out,HN.out.brk HK.out (by omega) hr2],rfl⟩
     ·go_wp2_with fail
      go_roundg ((q - 1).toNat)
      case measure=>omega
      case rel=>exact⟨⟨_,_,rfl,rfl,HN.out,by omega,by omega⟩,rfl⟩
    ·clear hk
     go_wp2_with fail
     go_meet
     exact⟨by rw[<-HQ.out,HS.out.stop HK.out (by omega)],rfl⟩
 case rest=>
  obtain⟨rfl,rfl⟩:=hcut
  have L:=kstep2 HK.out f0 f1
  obtain⟨V,hV⟩:∃V,(U * 4294967296+d) % (a * 4294967296+b)=V:=⟨_,rfl⟩
  rw[hV] at L
  have HL:=Lib.hid L
  have⟨_,_,_,_,hv,hv1,_,_⟩:=L
  have eV:IntKind.u64.wrap (IntKind.u64.wrap (IntKind.u64.wrap (U * 4294967296)+d) - IntKind.u64.wrap (Q1 * (y * 2 ^ s)))=V:=by
   rw[HY.out,<-hV,<-kleft _ _ hY0 hY1,HQ.out]
   simp only[u64w]
   omega
  have HV:=Lib.hid hV
  clear hV
  have sv:=KStep.start L
  have sv0:=sv.q0
  have sv1:=sv.q1
  have svm:0<=V / a * a:=Int.mul_nonneg sv0 (by omega)
  have svm1:V / a * a<=V:=Int.ediv_mul_le _ (by omega)
  have fm:=div_mod_e V a
  have fm1:V % a<a:=Int.emod_lt_of_pos V (by omega)
  have fm0:=Int.emod_nonneg V (show a≠0 by omega)
  have SV:=Lib.hid sv
  have j1:=kq_small L
  have j0:=kq_nonneg L
  obtain⟨Q2,hQ2⟩:∃Q2,(V * 4294967296+f) / (a * 4294967296+b)=Q2:=⟨_,rfl⟩
  rw[hQ2] at j0 j1
  have HR:=Lib.hid hQ2
  clear sv hQ2 L
  go_upto_block 2 with fail
  go_cut [18] (fun q1 wr=>q1=.int .u64 Q2/\w=wr)
  case first=>
   go_wp2_with fail
   go_loopg [18,16] ((V / a).toNat) (fun k q1 r1 wr=>(∃q r:Int,q1=.int .u64 q/\r1=.int .u64 r/\KStep a b V f q r/\r<4294967296/\q<=k)/\w=wr)
   case atStart=>exact⟨⟨_,_,rfl,rfl,SV.out,by omega,by omega⟩,rfl⟩
   case round=>
    obtain⟨⟨q,r,rfl,rfl,hk,hr,hm⟩,rfl⟩:=hrel
    have q0:=hk.q0
    have q1:=hk.q1
    have r0:=hk.r0
    have HS:=Lib.hid hk
    by_cases hq:4294967296<=q
    ·have hn:=hk.next HL.out (.inl hq)
     have n1:=hn.q1
     have HN:=Lib.hid hn
     clear hk hn
     by_cases hr2:4294967296<=r+a
     ·go_wp2_with fail
      go_meet
      exact⟨by rw[<-HR.out,HN.out.brk HL.out (by omega) hr2],rfl⟩
     ·go_wp2_with fail
      go_roundg ((q - 1).toNat)
      case measure=>omega
      case rel=>exact⟨⟨_,_,rfl,rfl,HN.out,by omega,by omega⟩,rfl⟩
    ·have m0:0<=q * b:=Int.mul_nonneg q0 hb
     have m1:q * b<=4294967295 * b:=Int.mul_le_mul_of_nonneg_right (by omega) hb
     by_cases hc:4294967296 * r+f<q * b
     ·have hn:=hk.next HL.out (.inr hc)
      have n1:=hn.q1
      have n0:=hn.q0
      have HN:=Lib.hid hn
      clear hk hn
      by_cases hr2:4294967296<=r+a
      ·go_wp2_with fail
       go_meet
       exact⟨by rw[<-HR.out,HN.out.brk HL.out (by omega) hr2],rfl⟩
      ·go_wp2_with fail
       go_roundg ((q - 1).toNat)
       case measure=>omega
       case rel=>exact⟨⟨_,_,rfl,rfl,HN.out,by omega,by omega⟩,rfl⟩
     ·clear hk
      go_wp2_with fail
      go_meet
      exact⟨by rw[<-HR.out,HS.out.stop HL.out (by omega)],rfl⟩
  case rest=>
   obtain⟨rfl,rfl⟩:=hcut
   obtain⟨Z,hZ⟩:∃Z,(V * 4294967296+f) % (a * 4294967296+b)=Z:=⟨_,rfl⟩
   have eZ:IntKind.u64.wrap (IntKind.u64.wrap (IntKind.u64.wrap (V * 4294967296)+f) - IntKind.u64.wrap (Q2 * (y * 2 ^ s)))=Z:=by
    rw[HY.out,<-hZ,<-kleft _ _ hY0 hY1,HR.out]
    simp only[u64w]
    omega
   have hF:=dfin _ _ U d f _ s HY.out HX.out hY0
   rw[HV.out,HQ.out,HR.out,hZ] at hF
   have HF:=Lib.hid hF
   clear hF hZ
   go_wp2_with fail
   go_ret2
   rw[HF.out.1,HF.out.2]
   exact⟨rfl,Below.refl _ _⟩
theorem div64_any(hi lo y:Int)(w:World)(h0:0<=hi)(h1:hi<y)(l0:0<=lo)(l1:lo<18446744073709551616)(y1:y<18446744073709551616) :
 Calls Tryz.prog 433 #[.int .u64 hi,.int .u64 lo,.int .u64 y] w fun e w'=>e=.returned (.tuple #[.int .u64 ((hi * 18446744073709551616+lo) / y),.int .u64 ((hi * 18446744073709551616+lo) % y)])/\Below w.heap.size w w':=by
 by_cases h:hi=0
 ·subst h
  have:=div64_low lo y w l0 l1 h1 y1
  simpa using this
 ·exact div64_high hi lo y w (by omega) h1 l0 l1 y1
namespace M64
theorem maskN(a:Nat)(ha:a<18446744073709551616):bits .and .u64 (a:Int) 4294967295=((a % 4294967296:Nat):Int):=by
 have h:=bits_and_u64_nat a 4294967295 ha (by omega)
 have e:a &&& 4294967295=a % 4294967296:=Nat.and_two_pow_sub_one_eq_mod a 32
 rw[e] at h
 exact h
theorem divN(a:Nat):(a:Int) / 4294967296=((a / 4294967296:Nat):Int):=by omega
theorem mulN(a b:Nat):(a:Int) * (b:Int)=((a * b:Nat):Int):=(Int.natCast_mul a b).symm
theorem addN(a b:Nat):(a:Int)+(b:Int)=((a+b:Nat):Int):=(Int.natCast_add a b).symm
theorem wrapN(a:Nat)(ha:a<18446744073709551616):IntKind.u64.wrap (a:Int)=(a:Int):=by rw[IntKind.wrap_u64];omega
theorem wrapM(a:Nat):IntKind.u64.wrap (a:Int)=((a % 18446744073709551616:Nat):Int):=by rw[IntKind.wrap_u64];omega
end M64
theorem mul64_nat(x y:Nat)(hx:x<18446744073709551616)(hy:y<18446744073709551616)(w:World) :
 Calls Tryz.prog 418 #[.int .u64 x,.int .u64 y] w fun e w'=>e=.returned (.tuple #[.int .u64 ((x * y / 18446744073709551616:Nat):Int),.int .u64 ((x * y % 18446744073709551616:Nat):Int)])/\w=w':=by
 obtain⟨bd,bt,bw,hhi⟩:=Lib.mul64_hi x y hx hy
 have ba:=Lib.half_mul_le (a:=x / 4294967296) (b:=y / 4294967296) (by omega) (by omega)
 have bb:=Lib.half_mul_le (a:=x / 4294967296) (b:=y % 4294967296) (by omega) (by omega)
 have bc:=Lib.half_mul_le (a:=x % 4294967296) (b:=y / 4294967296) (by omega) (by omega)
 have ba':x / 4294967296 * (y / 4294967296)<18446744073709551616:=by omega
 have bb':x / 4294967296 * (y % 4294967296)<18446744073709551616:=by omega
 have bc':x % 4294967296 * (y / 4294967296)<18446744073709551616:=by omega
 have bh1:x / 4294967296 * (y / 4294967296)+(x / 4294967296 * (y % 4294967296)+x % 4294967296 * (y % 4294967296) / 4294967296) / 4294967296<18446744073709551616:=by omega
 have bh:x / 4294967296 * (y / 4294967296)+(x / 4294967296 * (y % 4294967296)+x % 4294967296 * (y % 4294967296) / 4294967296) / 4294967296+((x / 4294967296 * (y % 4294967296)+x % 4294967296 * (y % 4294967296) / 4294967296) % 4294967296+x % 4294967296 * (y / 4294967296)) / 4294967296<18446744073709551616:=by omega
 go_enter Tryz.func418,Tryz.ntmps418
 go_wp2
 simp only[M64.maskN x hx,M64.maskN y hy,M64.divN,M64.mulN,M64.addN,M64.wrapN _ bd,M64.wrapN _ bb',M64.wrapN _ bt,M64.maskN _ bt,M64.wrapN _ bc',M64.wrapN _ bw,M64.wrapN _ ba',M64.wrapN _ bh1,M64.wrapN _ bh,M64.wrapM (x * y)]
 rw[hhi]
 go_ret2
 exact⟨rfl,rfl⟩
theorem mul64_any(x y:Int)(w:World)(x0:0<=x)(x1:x<18446744073709551616)(y0:0<=y)(y1:y<18446744073709551616) :
 Calls Tryz.prog 418 #[.int .u64 x,.int .u64 y] w fun e w'=>e=.returned (.tuple #[.int .u64 (x * y / 18446744073709551616),.int .u64 (x * y % 18446744073709551616)])/\w=w':=by
 obtain⟨a,rfl⟩:=Int.eq_ofNat_of_zero_le x0
 obtain⟨b,rfl⟩:=Int.eq_ofNat_of_zero_le y0
 exact mul64_nat a b (by omega) (by omega) w
end Go.Proofs.YtilcnjbpmoijmaaGreat
