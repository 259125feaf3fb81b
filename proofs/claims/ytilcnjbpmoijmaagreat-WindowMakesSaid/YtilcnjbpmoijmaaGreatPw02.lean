/- Parts of a proof. No condition. -/
import Derived.Test.YtilcnjbpmoijmaaGreatProg
import Derived.Test.YtilcnjbpmoijmaaGreatPw01
import Derived.Lib.Mul64
import Derived.Shelf.Strconv.Itoa0
import Derived.Laws.Externs
set_option maxRecDepth 100000
set_option maxHeartbeats 16000000
set_option linter.unusedVariables false
set_option linter.unusedSimpArgs false
namespace Go.Proofs.YtilcnjbpmoijmaaGreat
open Tryz
open Go.RowKit Go.Lib
theorem VW(x:Int)(w:World)(h0:0<=x)(h1:x<18446744073709551616)(a1:4294967296<=x)(a2:65536<=x / 4294967296)(a3:256<=x / 4294967296 / 65536) :
 aH 195 #[.int .u64 x] w fun e w'=>e=.returned (.int .i64 (Lib.bitLen x.toNat))/\w=w':=by
 have b0:0<=x / 4294967296 / 65536 / 256:=ae
 have b1:x / 4294967296 / 65536 / 256<=255:=ae
 have l:=Lib.bitLen_le8' (x / 4294967296 / 65536 / 256) ae  ae
 have e8:=Lib.len8_of (x / 4294967296 / 65536 / 256) ae  ae
 have l0:0<=len8 (x / 4294967296 / 65536 / 256):=ae
 have l1:len8 (x / 4294967296 / 65536 / 256)<=8:=ae
 have hx:(x / 4294967296 / 65536 / 256).toNat=x.toNat / 72057594037927936:=ae
 have s:=Lib.bitLen_shift56 x.toNat ae  ae
 have HF:Hid (56+len8 (x / 4294967296 / 65536 / 256)=Lib.bitLen x.toNat):=by
  show 56+len8 (x / 4294967296 / 65536 / 256)=_
  rw[hx] at e8;omega
 clear s hx e8 l
 go_enter func195,ntmps195
 go_wp2
 go_ret;rw[<-HF.o];exact⟨rfl,rfl⟩
theorem VX(x:Int)(w:World)(h0:0<=x)(h1:x<18446744073709551616)(a1:4294967296<=x)(a2:65536<=x / 4294967296)(a3:x / 4294967296 / 65536<256) :
 aH 195 #[.int .u64 x] w fun e w'=>e=.returned (.int .i64 (Lib.bitLen x.toNat))/\w=w':=by
 have b0:0<=x / 4294967296 / 65536:=ae
 have b1:x / 4294967296 / 65536<=255:=ae
 have l:=Lib.bitLen_le8' (x / 4294967296 / 65536) ae  ae
 have e8:=Lib.len8_of (x / 4294967296 / 65536) ae  ae
 have l0:0<=len8 (x / 4294967296 / 65536):=ae
 have l1:len8 (x / 4294967296 / 65536)<=8:=ae
 have hx:(x / 4294967296 / 65536).toNat=x.toNat / 281474976710656:=ae
 have s:=Lib.bitLen_shift48 x.toNat ae  ae
 have HF:Hid (48+len8 (x / 4294967296 / 65536)=Lib.bitLen x.toNat):=by
  show 48+len8 (x / 4294967296 / 65536)=_
  rw[hx] at e8;omega
 clear s hx e8 l
 go_enter func195,ntmps195
 go_wp2
 go_ret;rw[<-HF.o];exact⟨rfl,rfl⟩
theorem VY(x:Int)(w:World)(h0:0<=x)(h1:x<18446744073709551616)(a1:4294967296<=x)(a2:x / 4294967296<65536)(a3:256<=x / 4294967296) :
 aH 195 #[.int .u64 x] w fun e w'=>e=.returned (.int .i64 (Lib.bitLen x.toNat))/\w=w':=by
 have b0:0<=x / 4294967296 / 256:=ae
 have b1:x / 4294967296 / 256<=255:=ae
 have l:=Lib.bitLen_le8' (x / 4294967296 / 256) ae  ae
 have e8:=Lib.len8_of (x / 4294967296 / 256) ae  ae
 have l0:0<=len8 (x / 4294967296 / 256):=ae
 have l1:len8 (x / 4294967296 / 256)<=8:=ae
 have hx:(x / 4294967296 / 256).toNat=x.toNat / 1099511627776:=ae
 have s:=Lib.bitLen_shift40 x.toNat ae  ae
 have HF:Hid (40+len8 (x / 4294967296 / 256)=Lib.bitLen x.toNat):=by
  show 40+len8 (x / 4294967296 / 256)=_
  rw[hx] at e8;omega
 clear s hx e8 l
 go_enter func195,ntmps195
 go_wp2
 go_ret;rw[<-HF.o];exact⟨rfl,rfl⟩
theorem V4(x:Int)(w:World)(h0:0<=x)(h1:x<18446744073709551616)(a1:4294967296<=x)(_a2:x / 4294967296<65536)(a3:x / 4294967296<256) :
 aH 195 #[.int .u64 x] w fun e w'=>e=.returned (.int .i64 (Lib.bitLen x.toNat))/\w=w':=by
 have b0:0<=x / 4294967296:=ae
 have b1:x / 4294967296<=255:=ae
 have l:=Lib.bitLen_le8' (x / 4294967296) ae  ae
 have e8:=Lib.len8_of (x / 4294967296) ae  ae
 have l0:0<=len8 (x / 4294967296):=ae
 have l1:len8 (x / 4294967296)<=8:=ae
 have hx:(x / 4294967296).toNat=x.toNat / 4294967296:=ae
 have s:=Lib.bitLen_shift32 x.toNat ae  ae
 have HF:Hid (32+len8 (x / 4294967296)=Lib.bitLen x.toNat):=by
  show 32+len8 (x / 4294967296)=_
  rw[hx] at e8;omega
 clear s hx e8 l
 go_enter func195,ntmps195
 go_wp2
 go_ret;rw[<-HF.o];exact⟨rfl,rfl⟩
theorem V5(x:Int)(w:World)(h0:0<=x)(h1:x<18446744073709551616)(a1:x<4294967296)(a2:65536<=x)(a3:256<=x / 65536) :
 aH 195 #[.int .u64 x] w fun e w'=>e=.returned (.int .i64 (Lib.bitLen x.toNat))/\w=w':=by
 have b0:0<=x / 65536 / 256:=ae
 have b1:x / 65536 / 256<=255:=ae
 have l:=Lib.bitLen_le8' (x / 65536 / 256) ae  ae
 have e8:=Lib.len8_of (x / 65536 / 256) ae  ae
 have l0:0<=len8 (x / 65536 / 256):=ae
 have l1:len8 (x / 65536 / 256)<=8:=ae
 have hx:(x / 65536 / 256).toNat=x.toNat / 16777216:=ae
 have s:=Lib.bitLen_shift24 x.toNat ae  ae
 have HF:Hid (24+len8 (x / 65536 / 256)=Lib.bitLen x.toNat):=by
  show 24+len8 (x / 65536 / 256)=_
  rw[hx] at e8;omega
 clear s hx e8 l
 go_enter func195,ntmps195
 go_wp2
 go_ret;rw[<-HF.o];exact⟨rfl,rfl⟩
theorem V6(x:Int)(w:World)(h0:0<=x)(h1:x<18446744073709551616)(a1:x<4294967296)(a2:65536<=x)(a3:x / 65536<256) :
 aH 195 #[.int .u64 x] w fun e w'=>e=.returned (.int .i64 (Lib.bitLen x.toNat))/\w=w':=by
 have b0:0<=x / 65536:=ae
 have b1:x / 65536<=255:=ae
 have l:=Lib.bitLen_le8' (x / 65536) ae  ae
 have e8:=Lib.len8_of (x / 65536) ae  ae
 have l0:0<=len8 (x / 65536):=ae
 have l1:len8 (x / 65536)<=8:=ae
 have hx:(x / 65536).toNat=x.toNat / 65536:=ae
 have s:=Lib.bitLen_shift16 x.toNat ae  ae
 have HF:Hid (16+len8 (x / 65536)=Lib.bitLen x.toNat):=by
  show 16+len8 (x / 65536)=_
  rw[hx] at e8;omega
 clear s hx e8 l
 go_enter func195,ntmps195
 go_wp2
 go_ret;rw[<-HF.o];exact⟨rfl,rfl⟩
theorem V7(x:Int)(w:World)(h0:0<=x)(h1:x<18446744073709551616)(a1:x<4294967296)(_:x<65536)(a3:256<=x) :
 aH 195 #[.int .u64 x] w fun e w'=>e=.returned (.int .i64 (Lib.bitLen x.toNat))/\w=w':=by
 have b0:0<=x / 256:=ae
 have b1:x / 256<=255:=ae
 have l:=Lib.bitLen_le8' (x / 256) ae  ae
 have e8:=Lib.len8_of (x / 256) ae  ae
 have l0:0<=len8 (x / 256):=ae
 have l1:len8 (x / 256)<=8:=ae
 have hx:(x / 256).toNat=x.toNat / 256:=ae
 have s:=Lib.bitLen_shift8 x.toNat ae  ae
 have HF:Hid (8+len8 (x / 256)=Lib.bitLen x.toNat):=by
  show 8+len8 (x / 256)=_
  rw[hx] at e8;omega
 clear s hx e8 l
 go_enter func195,ntmps195
 go_wp2
 go_ret;rw[<-HF.o];exact⟨rfl,rfl⟩
theorem V8(x:Int)(w:World)(h0:0<=x)(h1:x<18446744073709551616)(a1:x<4294967296)(_:x<65536)(a3:x<256) :
 aH 195 #[.int .u64 x] w fun e w'=>e=.returned (.int .i64 (Lib.bitLen x.toNat))/\w=w':=by
 have b0:0<=x:=ae
 have b1:x<=255:=ae
 have l:=Lib.bitLen_le8' (x) ae  ae
 have e8:=Lib.len8_of (x) ae  ae
 have l0:0<=len8 (x):=ae
 have l1:len8 (x)<=8:=ae
 have hx:(x).toNat=x.toNat:=ae
 have HF:Hid (0+len8 (x)=Lib.bitLen x.toNat):=by
  show 0+len8 (x)=_
  rw[hx] at e8;omega
 clear hx e8 l
 go_enter func195,ntmps195
 go_wp2
 go_ret;rw[<-HF.o];exact⟨by rw[Int.zero_add];rfl,rfl⟩
theorem kY(x:Int)(w:World)(h0:0<=x)(h1:x<18446744073709551616) :
 aH 195 #[.int .u64 x] w fun e w'=>e=.returned (.int .i64 (Lib.bitLen x.toNat))/\w=w':=by
 by_cases a1:4294967296<=x
 ·by_cases a2:65536<=x / 4294967296
  ·by_cases a3:256<=x / 4294967296 / 65536
   ·exact VW x w h0 h1 a1 a2 a3
   ·exact VX x w h0 h1 a1 a2 ae
  ·by_cases a3:256<=x / 4294967296
   ·exact VY x w h0 h1 a1 ae a3
   ·exact V4 x w h0 h1 a1 ae  ae
 ·by_cases a2:65536<=x
  ·by_cases a3:256<=x / 65536
   ·exact V5 x w h0 h1 ae a2 a3
   ·exact V6 x w h0 h1 ae a2 ae
  ·by_cases a3:256<=x
   ·exact V7 x w h0 h1 ae  ae a3
   ·exact V8 x w h0 h1 ae  ae  ae
theorem YT(x:Int)(w:World)(h0:0<=x)(h1:x<18446744073709551616) :
 aH 448 #[.int .u64 x] w fun e w'=>e=.returned (.int .i64 (64 - (Lib.bitLen x.toNat:Int)))/\w=w':=by
 have l:Lib.bitLen x.toNat<=64:=Lib.bitLen_le x.toNat 64 ae  ae
 go_enter func448,ntmps448
 go_wp2_with (go_at_call 195;refine(kY _ _ h0 h1).mono ?_;rintro e w' ⟨rfl,rfl⟩)
 go_ret;exact⟨rfl,rfl⟩
theorem YU(x:Int)(w:World)(h0:0<x)(h1:x<18446744073709551616) :
 aH 448 #[.int .u64 x] w fun e w'=>∃s:Nat,e=.returned (.int .i64 (s:Int))/\s<=63/\9223372036854775808<=x * 2 ^ s/\x * 2 ^ s<18446744073709551616/\w=w':=by
 refine(YT x w ae h1).mono ?_
 rintro e w' ⟨rfl,rfl⟩;obtain⟨n,rfl⟩:=Int.eq_ofNat_of_zero_le (show 0<=x by omega)
 have l:Lib.bitLen n<=64:=Lib.bitLen_le n 64 ae  ae
 obtain⟨s1,s2⟩:=JX n ae
 obtain⟨s3,hb⟩:=s2 ae
 have e1:2 ^ Lib.bitLen n * 2 ^ (64 - Lib.bitLen n)=18446744073709551616:=by rw[<-Nat.pow_add,show Lib.bitLen n+(64 - Lib.bitLen n)=64 by omega]
 have e2:2 ^ (Lib.bitLen n - 1) * 2 ^ (64 - Lib.bitLen n)=9223372036854775808:=by rw[<-Nat.pow_add,show Lib.bitLen n - 1+(64 - Lib.bitLen n)=63 by omega]
 have m1:n * 2 ^ (64 - Lib.bitLen n)<18446744073709551616:=by rw[<-e1];exact Nat.mul_lt_mul_of_pos_right s1 (Nat.two_pow_pos _)
 have m2:9223372036854775808<=n * 2 ^ (64 - Lib.bitLen n):=by rw[<-e2];exact Nat.mul_le_mul_right _ s3
 have c:(n:Int) * 2 ^ (64 - Lib.bitLen n)=((n * 2 ^ (64 - Lib.bitLen n):Nat):Int):=ag
 refine⟨64 - Lib.bitLen n,by simp only[di];rw[Int.natCast_sub l];rfl,ae,?_,?_,rfl⟩
 ·rw[c];omega
 ·rw[c];omega
theorem V9(lo y:Int)(w:World)(l0:0<=lo)(l1:lo<18446744073709551616)(y0:0<y)(y1:y<18446744073709551616) :
 aH 433 #[.int .u64 0,.int .u64 lo,.int .u64 y] w (aG w (.tuple #[.int .u64 (lo / y),.int .u64 (lo % y)])):=by
 have hy:(y == 0)=false:=ah
 go_enter func433,ntmps433
 go_wp2
 go_region
 all_goals (go_wp2;go_ret2;exact⟨rfl,(aO _ _).drew⟩)
theorem IK(u a:Int):u - u / a * a=u % a:=by have:=Int.mul_ediv_add_emod u a;rw[Int.mul_comm] at this;omega
theorem QF(hi lo y:Int)(w:World)(h0:0<hi)(h1:hi<y)(l0:0<=lo)(l1:lo<18446744073709551616)(y1:y<18446744073709551616) :
 aH 433 #[.int .u64 hi,.int .u64 lo,.int .u64 y] w (aG w (.tuple #[.int .u64 ((hi * 18446744073709551616+lo) / y),.int .u64 ((hi * 18446744073709551616+lo) % y)])):=by
 have hy:(y == 0)=false:=ah
 have hh:(hi == 0)=false:=ah
 go_enter func433,ntmps433
 go_upto_region 8 with(go_at_call 448;refine(YU _ _ ae y1).mono ?_;rintro e w' ⟨s,rfl,hs,h63,h64,rfl⟩)
 obtain⟨a,b,U,d,f,N⟩:=bj8 hi lo y s ae h1 l0 l1 hs h63 h64
 obtain⟨ea,eb,eU,ed,ef,K,f0,f1,ey,eX⟩:=N;have HX:=aI eX;have HY:=aI ey;have HK:=aI K;have⟨ha,ha1,hb,hb1,hu,hu1,hd,hd1⟩:=K;have hY0:0<a * 4294967296+b:=ae
 have hY1:a * 4294967296+b<18446744073709551616:=ae
 have k1:=Ez K;have k0:=v_ K;have st:=o_.start K;have st0:=st.q0;have st1:=st.q1;have stm:0<=U / a * a:=Int.mul_nonneg st0 ae
 have ce2:U / a * a<=U:=Int.ediv_mul_le _ ae
 have em:=IK U a;have em1:U % a<a:=Int.emod_lt_of_pos U ae
 have em0:=Int.emod_nonneg U (show a≠0 by omega)
 have ST:=aI st;clear eX ey K st;obtain⟨Q1,hQ1⟩:=aF ((U * 4294967296+d) / (a * 4294967296+b));rw[hQ1] at k0 k1;have HQ:=aI hQ1;clear hQ1
 go_upto_block 0 with fail
 go_cut [15] (fun q1 wr=>q1=.int .u64 Q1/\w=wr)
 case first=>
  go_wp2_with fail
  go_loopg [15,16] ((U / a).toNat) (fun k q1 r1 wr=>(∃q r:Int,q1=.int .u64 q/\r1=.int .u64 r/\o_ a b U d q r/\r<4294967296/\q<=k)/\w=wr)
  case atStart=>exact⟨⟨_,_,rfl,rfl,ST.o,ae,ae⟩,rfl⟩
  case round=>
   obtain⟨⟨q,r,rfl,rfl,hk,hr,hm⟩,rfl⟩:=hrel;have q0:=hk.q0;have q1:=hk.q1;have r0:=hk.r0;have HS:=aI hk
   by_cases hq:4294967296<=q
   ·have hn:=hk.next HK.o (.inl hq)
    have n1:=hn.q1;have HN:=aI hn;clear hk hn
    by_cases hr2:4294967296<=r+a
    ·go_wp2_with fail
     go_meet
     exact⟨by rw[<-HQ.o,HN.o.brk HK.o ae hr2],rfl⟩
    ·go_wp2_with fail
     go_roundg ((q - 1).toNat)
     case measure=>omega
     case rel=>exact⟨⟨_,_,rfl,rfl,HN.o,ae,ae⟩,rfl⟩
   ·have m0:0<=q * b:=Int.mul_nonneg q0 hb
    have m1:q * b<=4294967295 * b:=Int.mul_le_mul_of_nonneg_right ae hb
    by_cases hc:4294967296 * r+d<q * b
    ·have hn:=hk.next HK.o (.inr hc)
     have n1:=hn.q1;have n0:=hn.q0;have HN:=aI hn;clear hk hn
     by_cases hr2:4294967296<=r+a
     ·go_wp2_with fail
      go_meet
      exact⟨by rw[<-HQ.o,HN.o.brk HK.o ae hr2],rfl⟩
     ·go_wp2_with fail
      go_roundg ((q - 1).toNat)
      case measure=>omega
      case rel=>exact⟨⟨_,_,rfl,rfl,HN.o,ae,ae⟩,rfl⟩
    ·clear hk
     go_wp2_with fail
     go_meet
     exact⟨by rw[<-HQ.o,HS.o.stop HK.o ae],rfl⟩
 case rest=>
  obtain⟨rfl,rfl⟩:=hcut;have L:=ay9 HK.o f0 f1;obtain⟨V,hV⟩:=aF ((U * 4294967296+d) % (a * 4294967296+b));rw[hV] at L;have HL:=aI L;have⟨_,_,_,_,hv,hv1,_,_⟩:=L;have eV:IntKind.u64.wrap (IntKind.u64.wrap (IntKind.u64.wrap (U * 4294967296)+d) - IntKind.u64.wrap (Q1 * (y * 2 ^ s)))=V:=by
   rw[HY.o,<-hV,<-aw1 _ _ hY0 hY1,HQ.o];simp only[fF];omega
  have HV:=aI hV;clear hV;have sv:=o_.start L;have sv0:=sv.q0;have sv1:=sv.q1;have svm:0<=V / a * a:=Int.mul_nonneg sv0 ae
  have ce3:V / a * a<=V:=Int.ediv_mul_le _ ae
  have fm:=IK V a;have fm1:V % a<a:=Int.emod_lt_of_pos V ae
  have fm0:=Int.emod_nonneg V (show a≠0 by omega)
  have SV:=aI sv;have j1:=Ez L;have j0:=v_ L;obtain⟨Q2,hQ2⟩:=aF ((V * 4294967296+f) / (a * 4294967296+b));rw[hQ2] at j0 j1;have HR:=aI hQ2;clear sv hQ2 L
  go_upto_block 2 with fail
  go_cut [18] (fun q1 wr=>q1=.int .u64 Q2/\w=wr)
  case first=>
   go_wp2_with fail
   go_loopg [18,16] ((V / a).toNat) (fun k q1 r1 wr=>(∃q r:Int,q1=.int .u64 q/\r1=.int .u64 r/\o_ a b V f q r/\r<4294967296/\q<=k)/\w=wr)
   case atStart=>exact⟨⟨_,_,rfl,rfl,SV.o,ae,ae⟩,rfl⟩
   case round=>
    obtain⟨⟨q,r,rfl,rfl,hk,hr,hm⟩,rfl⟩:=hrel;have q0:=hk.q0;have q1:=hk.q1;have r0:=hk.r0;have HS:=aI hk
    by_cases hq:4294967296<=q
    ·have hn:=hk.next HL.o (.inl hq)
     have n1:=hn.q1;have HN:=aI hn;clear hk hn
     by_cases hr2:4294967296<=r+a
     ·go_wp2_with fail
      go_meet
      exact⟨by rw[<-HR.o,HN.o.brk HL.o ae hr2],rfl⟩
     ·go_wp2_with fail
      go_roundg ((q - 1).toNat)
      case measure=>omega
      case rel=>exact⟨⟨_,_,rfl,rfl,HN.o,ae,ae⟩,rfl⟩
    ·have m0:0<=q * b:=Int.mul_nonneg q0 hb
     have m1:q * b<=4294967295 * b:=Int.mul_le_mul_of_nonneg_right ae hb
     by_cases hc:4294967296 * r+f<q * b
     ·have hn:=hk.next HL.o (.inr hc)
      have n1:=hn.q1;have n0:=hn.q0;have HN:=aI hn;clear hk hn
      by_cases hr2:4294967296<=r+a
      ·go_wp2_with fail
       go_meet
       exact⟨by rw[<-HR.o,HN.o.brk HL.o ae hr2],rfl⟩
      ·go_wp2_with fail
       go_roundg ((q - 1).toNat)
       case measure=>omega
       case rel=>exact⟨⟨_,_,rfl,rfl,HN.o,ae,ae⟩,rfl⟩
     ·clear hk
      go_wp2_with fail
      go_meet
      exact⟨by rw[<-HR.o,HS.o.stop HL.o ae],rfl⟩
  case rest=>
   obtain⟨rfl,rfl⟩:=hcut;obtain⟨Z,hZ⟩:=aF ((V * 4294967296+f) % (a * 4294967296+b));have eZ:IntKind.u64.wrap (IntKind.u64.wrap (IntKind.u64.wrap (V * 4294967296)+f) - IntKind.u64.wrap (Q2 * (y * 2 ^ s)))=Z:=by
    rw[HY.o,<-hZ,<-aw1 _ _ hY0 hY1,HR.o];simp only[fF];omega
   have hF:=bu6 _ _ U d f _ s HY.o HX.o hY0;rw[HV.o,HQ.o,HR.o,hZ] at hF;have HF:=aI hF;clear hF hZ
   go_wp2_with fail
   go_ret2
   rw[HF.o.1,HF.o.2];exact⟨rfl,aO _ _⟩
theorem V_(hi lo y:Int)(w:World)(h0:0<=hi)(h1:hi<y)(l0:0<=lo)(l1:lo<18446744073709551616)(y1:y<18446744073709551616) :
 aH 433 #[.int .u64 hi,.int .u64 lo,.int .u64 y] w (aG w (.tuple #[.int .u64 ((hi * 18446744073709551616+lo) / y),.int .u64 ((hi * 18446744073709551616+lo) % y)])):=by
 by_cases h:hi=0
 ·subst h
  have:=V9 lo y w l0 l1 h1 y1
  simpa using this
 ·exact QF hi lo y w ae h1 l0 l1 y1
namespace Qz
theorem maskN(a:Nat)(ha:a<18446744073709551616):bits .and .u64 (a:Int) 4294967295=((a % 4294967296:Nat):Int):=by
 have h:=bits_and_u64_nat a 4294967295 ha ae
 have e:a &&& 4294967295=a % 4294967296:=Nat.and_two_pow_sub_one_eq_mod a 32;rw[e] at h;exact h
theorem divN(a:Nat):(a:Int) / 4294967296=((a / 4294967296:Nat):Int):=ae
theorem mulN(a b:Nat):(a:Int) * (b:Int)=((a * b:Nat):Int):=(Int.natCast_mul a b).symm
theorem addN(a b:Nat):(a:Int)+(b:Int)=((a+b:Nat):Int):=(dF a b).symm
theorem wrapN(a:Nat)(ha:a<18446744073709551616):IntKind.u64.wrap (a:Int)=(a:Int):=by rw[dD];omega
theorem wrapM(a:Nat):IntKind.u64.wrap (a:Int)=((a % 18446744073709551616:Nat):Int):=by rw[dD];omega
end Qz
theorem We(x y:Nat)(hx:x<18446744073709551616)(hy:y<18446744073709551616)(w:World) :
 aH 418 #[.int .u64 x,.int .u64 y] w fun e w'=>e=.returned (.tuple #[.int .u64 ((x * y / 18446744073709551616:Nat):Int),.int .u64 ((x * y % 18446744073709551616:Nat):Int)])/\w=w':=by
 obtain⟨bd,bt,bw,hhi⟩:=Lib.mul64_hi x y hx hy;have ba:=Lib.half_mul_le (a:=x / 4294967296) (b:=y / 4294967296) ae  ae
 have bb:=Lib.half_mul_le (a:=x / 4294967296) (b:=y % 4294967296) ae  ae
 have bc:=Lib.half_mul_le (a:=x % 4294967296) (b:=y / 4294967296) ae  ae
 have ba':x / 4294967296 * (y / 4294967296)<18446744073709551616:=ae
 have bb':x / 4294967296 * (y % 4294967296)<18446744073709551616:=ae
 have bc':x % 4294967296 * (y / 4294967296)<18446744073709551616:=ae
 have bh1:x / 4294967296 * (y / 4294967296)+(x / 4294967296 * (y % 4294967296)+x % 4294967296 * (y % 4294967296) / 4294967296) / 4294967296<18446744073709551616:=ae
 have bh:x / 4294967296 * (y / 4294967296)+(x / 4294967296 * (y % 4294967296)+x % 4294967296 * (y % 4294967296) / 4294967296) / 4294967296+((x / 4294967296 * (y % 4294967296)+x % 4294967296 * (y % 4294967296) / 4294967296) % 4294967296+x % 4294967296 * (y / 4294967296)) / 4294967296<18446744073709551616:=ae
 go_enter func418,ntmps418
 go_wp2
 simp only[Qz.maskN x hx,Qz.maskN y hy,Qz.divN,Qz.mulN,Qz.addN,Qz.wrapN _ bd,Qz.wrapN _ bb',Qz.wrapN _ bt,Qz.maskN _ bt,Qz.wrapN _ bc',Qz.wrapN _ bw,Qz.wrapN _ ba',Qz.wrapN _ bh1,Qz.wrapN _ bh,Qz.wrapM (x * y)];rw[hhi]
 go_ret2
 exact⟨rfl,rfl⟩
theorem Wh(x y:Int)(w:World)(x0:0<=x)(x1:x<18446744073709551616)(y0:0<=y)(y1:y<18446744073709551616) :
 aH 418 #[.int .u64 x,.int .u64 y] w fun e w'=>e=.returned (.tuple #[.int .u64 (x * y / 18446744073709551616),.int .u64 (x * y % 18446744073709551616)])/\w=w':=by
 obtain⟨a,rfl⟩:=Int.eq_ofNat_of_zero_le x0;obtain⟨b,rfl⟩:=Int.eq_ofNat_of_zero_le y0;exact We a b ae  ae w
theorem Wi(x y c:Int)(w:World)(x0:0<=x)(y0:0<=y)(c0:0<=c)(c1:c<=1) :
 (callFunc 354 #[.int .u64 x,.int .u64 y,.int .u64 c]).run prog w =
  .ok (.value (.tuple #[.int .u64 ((x+y+c) % 18446744073709551616),.int .u64 ((x+y+c) / 18446744073709551616)])) w:=by
 rw[run_callFunc_extern func354 (by kernel_rfl) (by kernel_rfl) (by kernel_rfl) (e:=add64Entry) (by kernel_rfl)]
 have h:=run_add64 (P:=prog) (w:=w) x y c ae  ae  ae  ae
 rw[h];rfl
open Tryz
open Go.RowKit Go.Lib
def YV(x y:Int):Int:=if x=y then 0 else if x<y then -1 else 1
theorem ED(x y:Int)(w:World)(x0:0<=x)(x1:x<18446744073709551616)(y0:0<=y)(y1:y<18446744073709551616) :
 aH 352 #[.int .u64 x,.int .u64 y] w (aG w (.agg #[.int .u64 (x * y / 18446744073709551616),.int .u64 (x * y % 18446744073709551616)])):=by
 go_enter func352,ntmps352
 go_wp2_with (go_at_call 418;refine(Wh _ _ _ x0 x1 y0 y1).mono ?_;rintro e w' ⟨rfl,rfl⟩);exact bodyPost_ret (v:=.agg #[.int .u64 (x * y / 18446744073709551616),.int .u64 (x * y % 18446744073709551616)]) (by simp[results,Tryz.results352,go_sem]) rfl ⟨rfl,(aO _ _).alloc (aS _) _⟩
theorem YW(a b c d:Int)(w:World)(b0:0<=b)(b1:b<18446744073709551616)(d0:0<=d)(d1:d<18446744073709551616) :
 aH 353 #[.agg #[.int .u64 a,.int .u64 b],.agg #[.int .u64 c,.int .u64 d]] w (aG w (.int .i64 (YV (a * 18446744073709551616+b) (c * 18446744073709551616+d)))):=by
 go_enter func353,ntmps353
 go_wp2
 all_goals (go_ret;refine⟨kK ?_,((aO _ _).alloc (aS _) _).alloc ag _⟩)
 all_goals (unfold YV;(repeat' split)<;>omega)
theorem al6(L R:Int)(w:World) :
 aH 353 #[.agg #[.int .u64 (L / 18446744073709551616),.int .u64 (L % 18446744073709551616)],.agg #[.int .u64 (R / 18446744073709551616),.int .u64 (R % 18446744073709551616)]] w (aG w (.int .i64 (YV L R))):=by
 have h:=YW (L / 18446744073709551616) (L % 18446744073709551616) (R / 18446744073709551616) (R % 18446744073709551616) w ae  ae  ae  ae
 rw[show L / 18446744073709551616 * 18446744073709551616+L % 18446744073709551616=L by omega,show R / 18446744073709551616 * 18446744073709551616+R % 18446744073709551616=R by omega] at h
 exact h
theorem al7(L R:Int):(decide (YV L R<=0))=decide (L<=R):=by
 unfold YV
 by_cases h:L=R
 ·rw[if_pos h];simp;omega
 ·rw[if_neg h]
  by_cases h2:L<R
  ·rw[if_pos h2];simp;omega
  ·rw[if_neg h2];simp;omega
theorem YX(h l d:Int)(l0:0<=l)(l1:l<18446744073709551616)(d0:0<d) :
 (h * 18446744073709551616+l) / d / 18446744073709551616=h / d/\(h * 18446744073709551616+l) / d % 18446744073709551616=(h % d * 18446744073709551616+l) / d /\
 (h * 18446744073709551616+l) % d=(h % d * 18446744073709551616+l) % d:=by
 have h3:=Int.mul_ediv_add_emod h d;have h4:=Int.emod_nonneg h (show d≠0 by omega)
 have h5:=Int.emod_lt_of_pos h d0;generalize h / d=k at *;generalize h % d=m at *;have e1:h * 18446744073709551616+l=(m * 18446744073709551616+l)+d * (k * 18446744073709551616):=by
  have:d * (k * 18446744073709551616)=d * k * 18446744073709551616:=by rw[bU]
  omega
 have q0:0<=(m * 18446744073709551616+l) / d:=Int.ediv_nonneg ae  ae
 have q1:(m * 18446744073709551616+l) / d<18446744073709551616:=Int.ediv_lt_of_lt_mul ae  ae
 rw[e1,Int.add_mul_ediv_left _ _ ae,Int.add_mul_emod_self_left]
 refine⟨by omega,ae,rfl⟩
theorem YY(h l d:Int)(w:World)(h0:0<=h)(h1:h<18446744073709551616)(l0:0<=l)(l1:l<18446744073709551616)(d0:0<d)(d1:d<18446744073709551616) :
 aH 389 #[.agg #[.int .u64 h,.int .u64 l],.int .u64 d] w (aG w (.tuple #[.agg #[.int .u64 ((h * 18446744073709551616+l) / d / 18446744073709551616),.int .u64 ((h * 18446744073709551616+l) / d % 18446744073709551616)],.int .u64 ((h * 18446744073709551616+l) % d),.int .i64 0])):=by
 have hd:(d == 0)=false:=ah
 go_enter func389,ntmps389
 go_wp2
 go_region
 all_goals
  go_wp2_with (go_at_call 433;refine(V_ _ _ _ _ (Int.emod_nonneg _ ae) (Int.emod_lt_of_pos _ d0) l0 l1 d1).mono ?_;rintro e w1 ⟨rfl,hb1⟩;have⟨hc1,hf1⟩:=IJ hb1;have hz1:=hb1.size;try simp only[aV,dA,World.size_drew,World.gB] at hz1)
  refine bodyPost_ret (by simp[results,Tryz.results389,go_sem, *];try rfl) rfl ?_
  obtain⟨e1,e2,e3⟩:=YX h l d l0 l1 d0;rw[e1,e2,e3];exact⟨rfl,bw⟩
theorem IL{a b:Int}(a0:0<=a)(a1:a<18446744073709551616)(b0:0<=b)(b1:b<18446744073709551616):0<=a * b/\a * b<340282366920938463463374607431768211456:=by
 have h1:a * b<=18446744073709551615 * b:=Int.mul_le_mul_of_nonneg_right ae b0
 exact⟨Int.mul_nonneg a0 b0,ae⟩
theorem QG(X d:Int)(w:World)(x0:0<=X)(x1:X<340282366920938463463374607431768211456)(d0:0<d)(d1:d<18446744073709551616)(hq:X / d<18446744073709551616) :
 aH 389 #[.agg #[.int .u64 (X / 18446744073709551616),.int .u64 (X % 18446744073709551616)],.int .u64 d] w (aG w (.tuple #[.agg #[.int .u64 0,.int .u64 (X / d)],.int .u64 (X % d),.int .i64 0])):=by
 have q0:0<=X / d:=Int.ediv_nonneg x0 ae
 have h:=YY (X / 18446744073709551616) (X % 18446744073709551616) d w ae  ae  ae  ae d0 d1
 rw[show X / 18446744073709551616 * 18446744073709551616+X % 18446744073709551616=X by omega,show X / d / 18446744073709551616=0 by omega,show X / d % 18446744073709551616=X / d by omega] at h
 exact h
theorem xI(a b d:Int)(w:World)(a0:0<=a)(a1:a<18446744073709551616)(b0:0<=b)(b1:b<18446744073709551616)(d0:0<d)(d1:d<18446744073709551616)(hq:a * b / d<18446744073709551616) :
 aH 321 #[.int .u64 a,.int .u64 b,.int .u64 d] w (aG w (.tuple #[.int .u64 (a * b / d),.int .u64 (a * b % d),.int .i64 0])):=by
 obtain⟨m0,m1⟩:=IL a0 a1 b0 b1
 go_enter func321,ntmps321
 go_wp2_with (first|(go_at_call 352;refine(ED _ _ _ a0 a1 b0 b1).mono ?_;rintro e w1 ⟨rfl,hb1⟩;have⟨hc1,hf1⟩:=IJ hb1;have hz1:=hb1.size;try simp only[aV,dA,World.size_drew,World.gB] at hz1)|(go_at_call 389;refine(QG _ _ _ m0 m1 d0 d1 hq).mono ?_;rintro e w2 ⟨rfl,hb2⟩;have⟨hc2,hf2⟩:=IJ hb2;have hz2:=hb2.size;try simp only[aV,dA,World.size_drew,World.gB] at hz2))
 all_goals (go_ret3;exact⟨rfl,bw⟩)
theorem Wj(a b d:Int)(w:World)(a0:0<=a)(a1:a<18446744073709551616)(b0:0<=b)(b1:b<=d)(d0:0<d)(d1:d<18446744073709551616) :
 aH 321 #[.int .u64 a,.int .u64 b,.int .u64 d] w (aG w (.tuple #[.int .u64 (a * b / d),.int .u64 (a * b % d),.int .i64 0])):=
 xI a b d w a0 a1 b0 ae d0 d1 (Int.ediv_lt_of_lt_mul d0 (by have:a * b<=a * d:=Int.mul_le_mul_of_nonneg_left b1 a0;have:a * d<=18446744073709551615 * d:=Int.mul_le_mul_of_nonneg_right ae  ae ;omega))
def pg(low high at_ of_:Int):Int:=low+(high - low) * at_ / of_
theorem EE{low high x y:Int}(h:low<=high)(x0:0<=x)(xy:x<=y)(y0:0<y):low<=pg low high x y/\pg low high x y<=high:=by
 have h1:0<=(high - low) * x / y:=Int.ediv_nonneg (Int.mul_nonneg ae x0) ae
 have h2:(high - low) * x / y<=high - low:=by
  have h3:(high - low) * x<=(high - low) * y:=Int.mul_le_mul_of_nonneg_left xy ae
  exact Int.ediv_le_of_le_mul y0 h3
 unfold pg;omega
theorem YZ(low high x y:Int)(w:World)(l0:-9223372036854775808<=low)(lh:low<=high)(h1:high<=9223372036854775807)(x0:0<=x)(xy:x<=y)(y0:0<y)(y1:y<18446744073709551616) :
 aH 355 #[.int .i64 low,.int .i64 high,.int .u64 x,.int .u64 y] w (aG w (.tuple #[.int .i64 (pg low high x y),.int .i64 0])):=by
 have hy:(y == 0)=false:=ah
 have ew:IntKind.u64.wrap (IntKind.u64.wrap high - IntKind.u64.wrap low)=high - low:=by simp only[fF];omega
 obtain⟨b1,b2⟩:=EE lh x0 xy y0;have f0:0<=(high - low) * x / y:=Int.ediv_nonneg (Int.mul_nonneg ae x0) ae
 have eF:wrap64 (IntKind.u64.wrap (IntKind.u64.wrap low+(high - low) * x / y))=pg low high x y:=by
  simp only[fF,wrap64];unfold pg at *;omega
 clear b1 b2
 go_enter func355,ntmps355
 go_wp2_with (first|(go_at_call 321;refine(Wj (high - low) _ _ _ ae  ae x0 xy y0 y1).mono ?_;rintro e w1 ⟨rfl,hb1⟩;have⟨hc1,hf1⟩:=IJ hb1;have hz1:=hb1.size;try simp only[aV,dA,World.size_drew,World.gB] at hz1))
 go_ret2
 exact⟨congrArg (fun z=>Ending.returned (.tuple #[.int .i64 z,.int .i64 0])) eF,bw⟩
theorem al8(m v n z:Int)(w:World)(m0:-9223372036854775808<=m)(mn:m<=n)(n1:n<=9223372036854775807)(v0:0<=v)(z0:0<z)(vz:v+z<18446744073709551616) :
 aH 296 #[.int .i64 m,.int .u64 v,.int .i64 n,.int .u64 z] w (aG w (.tuple #[.int .i64 (pg m n z (v+z)),.int .i64 0])):=by
 have ha:=Wi v z 0 w v0 ae  ae  ae
 have e1:(v+z+0) % 18446744073709551616=v+z:=ae
 have e2:(v+z+0) / 18446744073709551616=0:=ae
 have e3:(v+z == 0)=false:=ah
 rw[e1,e2] at ha;clear e1 e2
 go_enter func296,ntmps296
 go_wp2_with (first|(go_at_call 355;refine(YZ _ _ _ _ _ m0 mn n1 ae  ae  ae vz).mono ?_;rintro e w1 ⟨rfl,hb1⟩;have⟨hc1,hf1⟩:=IJ hb1;have hz1:=hb1.size;try simp only[aV,dA,World.size_drew,World.gB] at hz1))
 go_ret2
 exact⟨rfl,bw⟩
end Go.Proofs.YtilcnjbpmoijmaaGreat
