/- Parts of a proof: what its theorem reaches, words cut short. No condition of its own. -/
import Derived.Test.YtkiebccnpheloaaGreatPv24
import Derived.Test.YtkiebccnpheloaaGreatPv20
set_option maxRecDepth 100000
set_option maxHeartbeats 16000000
set_option linter.unusedVariables false
set_option linter.unusedSimpArgs false
namespace Go.Proofs.YtkiebccnpheloaaGreat.D
open Go.RowKit Go.Lib Go.Shelf
theorem pow10_any(n:Nat)(w:World)(h:n<=5):Calls Tryz.prog 391 #[.int .i64 n] w fun e w'=>e=.returned (.tuple #[.int .u64 ((10 ^ n:Nat):Int),.int .i64 0])/\w=w':=by
 obtain⟨R,hR⟩:∃R,10 ^ n=R:=⟨_,rfl⟩
 have HR:=Lib.hid hR
 rw[hR]
 clear hR
 have HB:Hid (∀j,j<=5->0<10 ^ j/\10 ^ j<=100000):=Lib.hid (fun j h=>⟨Nat.pow_pos (by omega),(Nat.pow_le_pow_right (by omega) h:10 ^ j<=10 ^ 5)⟩)
 go_enter Tryz.func391,Tryz.ntmps391
 go_wp2_with fail
 go_loopg [4,12] n (fun q p x wr=>(∃j:Nat,q=n - j/\j<=n/\x=.int .i64 j/\p=.int .u64 ((10 ^ j:Nat):Int))/\w=wr)
 case atStart=>exact⟨⟨0,rfl,by omega,rfl,rfl⟩,rfl⟩
 case round=>
  obtain⟨⟨j,hq,hj,rfl,rfl⟩,rfl⟩:=hrel
  have HQ:=Lib.hid hq
  clear hq
  by_cases hlt:j<n
  ·have hji:(j:Int)<(n:Int):=by omega
   have hp:=HB.out j (by omega)
   have HS:Hid (10 ^ (j+1)=10 * 10 ^ j):=Lib.hid (by rw[Nat.pow_succ];omega)
   generalize 10 ^ j=p at *
   go_wp2_with fail
   go_roundg (n - (j+1))
   case measure=>have:=HQ.out;omega
   case rel=>exact⟨⟨j+1,rfl,by omega,by go_num,by rw[HS.out];go_num⟩,rfl⟩
  ·obtain rfl:j=n:=by omega
   rw[HR.out]
   go_wp2_with fail
   go_ret2
   exact⟨rfl,rfl⟩
structure HdOk(lo hi dg u m:Nat):Prop where
 d0:1<=dg
 d1:dg<=5
 l0:1<=lo
 h0:2 * lo<=hi
 h1:hi<=9223372036854775807
 ue:u=Lib.bitLen lo - 1
 me:m=Lib.bitLen (2 * 10 ^ dg - 1)
 um:u+m<=62
theorem mag_bd{dg:Nat}(d1:dg<=5):1<=Lib.bitLen (2 * 10 ^ dg - 1)/\Lib.bitLen (2 * 10 ^ dg - 1)<=18:=by
 have h:∀d:Fin 6,1<=Lib.bitLen (2 * 10 ^ d.val - 1)/\Lib.bitLen (2 * 10 ^ d.val - 1)<=18:=by decide +kernel
 exact h ⟨dg,by omega⟩
theorem mnew_any{lo hi dg u m:Nat}(w:World)(ok:HdOk lo hi dg u m):Calls Tryz.prog 317 #[.agg #[.int .i64 lo,.int .i64 hi,.int .i64 dg]] w fun e w'=>∃g,e=.returned (.tuple #[.pointer (some ⟨g,0,none⟩),.int .i64 0])/\w.heap.size<=g/\MpAt w' g lo hi dg u m/\Below w.heap.size w w':=by
 obtain⟨d0,d1,l0,h0,h1,ue,me,um⟩:=ok
 have hmb:=mag_bd d1
 have hlb:1<=Lib.bitLen lo:=(bit_gt (x:=lo) (k:=0) (by omega)).2 (by simpa using l0)
 have hlb2:Lib.bitLen lo<=63:=(bit_le (by omega)).2 (by omega)
 have hten:10 ^ dg<=100000:=(Nat.pow_le_pow_right (by omega) d1:10 ^ dg<=10 ^ 5)
 have hten0:0<10 ^ dg:=Nat.pow_pos (by omega)
 have CP:=fun w=>Lib.hid (pow10_any dg w d1)
 have C1:=fun w=>Lib.hid (len64_any lo w (by omega))
 have C2:=fun w=>Lib.hid (len64_any (2 * 10 ^ dg - 1) w (by omega))
 rw[<-me] at C2 hmb
 generalize 10 ^ dg=T at *
 generalize Lib.bitLen lo=B at *
 obtain⟨N,hN⟩:∃N,2 * T - 1=N:=⟨_,rfl⟩
 rw[hN] at C2
 obtain rfl:B=u+1:=by omega
 have hq:(hi:Int).tdiv 2=(hi:Int) / 2:=Int.tdiv_eq_ediv_of_nonneg (by omega)
 have c1:¬(hi:Int) / 2<(lo:Int):=by omega
 have c2:¬(dg:Int)<1:=by omega
 have c3:¬(5:Int)<(dg:Int):=by omega
 have c4:¬(lo:Int)<1:=by omega
 have EV:Hid (IntKind.u64.wrap (lo:Int)=(lo:Int)):=Lib.hid (by rw[u64w];omega)
 have EU:Hid (IntKind.i64.wrap (u:Int)=(u:Int)):=Lib.hid (by rw[IntKind.wrap_i64];omega)
 have ET:Hid (IntKind.u64.wrap (2 * (T:Int))=2 * (T:Int)):=Lib.hid (by rw[u64w];omega)
 have EN:Hid (IntKind.u64.wrap (2 * (T:Int) - 1)=(N:Int)):=Lib.hid (by rw[u64w];omega)
 have EN2:Hid (2 * (T:Int) - 1=(N:Int)):=Lib.hid (by omega)
 have c5:¬(62:Int)<(u:Int)+(m:Int):=by omega
 have EUM:Hid (IntKind.i64.wrap ((u:Int)+(m:Int))=(u:Int)+(m:Int)):=Lib.hid (by rw[IntKind.wrap_i64];omega)
 have EN3:Hid (IntKind.u64.wrap (N:Int)=(N:Int)):=Lib.hid (by rw[u64w];omega)
 clear hN ue me hmb hlb hlb2 h0
 go_enter Tryz.func317,Tryz.ntmps317
 go_wp2_with fail
 refine((CP _).out).mono ?_
 rintro e w' ⟨rfl,rfl⟩
 obtain⟨b,hb⟩:∃b,w.heap.size=b:=⟨_,rfl⟩
 obtain⟨w1,hw1⟩:∃w1,w.alloc (.cells #[.int .i64 lo,.int .i64 hi,.int .i64 dg] 32)=w1:=⟨_,rfl⟩
 have hb1:Below w.heap.size w w1:=by rw[<-hw1];(repeat' (first|(with_reducible exact Below.refl _ _)|(with_reducible refine Below.alloc ?_ ?_ _)|(with_reducible refine Below.drew ?_)|(with_reducible refine below_drewN ?_ _)|(with_reducible refine Below.setCell ?_ ?_ _)|(with_reducible refine below_of (by assumption) ?_ ?_)|go_size))
 have B1:Hid (Blk w1 b 32 #[.int .i64 lo,.int .i64 hi,.int .i64 dg]):=by rw[<-hw1,<-hb];exact Lib.hid (Blk.new _ _ _)
 have hbl:=B1.out.lt
 have HBW:=Lib.hid hb
 clear hb
 rw[HBW.out,hw1]
 clear hw1
 go_upto_region 4 with fail
 have c5h:=Lib.hid c5
 clear c1 c2 c3 c4 c5 hq d0 d1 l0 h1 um hten hten0 CP
 refine wp_region_plan (Below w1.heap.size w1) [(0,true),(1,true),(2,true),(3,true),(6,true),(7,true),(8,true),(4,false),(5,true),(9,false),(10,true),(11,false),(12,true)] (by kernel_rfl) (by kernel_rfl) ((Below.refl _ _).drew) ?_
 iterate 7
  refine wpPlan_read (by rfl) (by rfl) (fun R hR=>?_)
  apply Exists.intro
  refine⟨fun w' hS'=>?_,?_⟩
  ·have k0:=(B1.out.keep hS').cell 0
   have k1:=(B1.out.keep hS').cell 1
   have k2:=(B1.out.keep hS').cell 2
   have ev:=EV.out
   have eu:=EU.out
   have et:=ET.out
   have en2:=EN2.out
   have en3:=EN3.out
   simp only[List.getElem?_toArray,List.getElem?_cons_zero,List.getElem?_cons_succ] at k0 k1 k2
   go_simp
   exact⟨rfl,rfl⟩
  go_simp
  refine hR _ ?_
  clear hR R
 refine wpPlan_do (by rfl) (by rfl) (fun K hK=>?_)
 go_simp
 refine((C1 w1.drew).out).mono ?_
 rintro e w3 ⟨rfl,rfl⟩
 refine hK _ _ ((Below.refl _ _).drew) ?_
 clear hK K
 iterate 1
  refine wpPlan_read (by rfl) (by rfl) (fun R hR=>?_)
  apply Exists.intro
  refine⟨fun w' hS'=>?_,?_⟩
  ·have k0:=(B1.out.keep hS').cell 0
   have k1:=(B1.out.keep hS').cell 1
   have k2:=(B1.out.keep hS').cell 2
   have ev:=EV.out
   have eu:=EU.out
   have et:=ET.out
   have en2:=EN2.out
   have en3:=EN3.out
   simp only[List.getElem?_toArray,List.getElem?_cons_zero,List.getElem?_cons_succ] at k0 k1 k2
   go_simp
   exact⟨rfl,rfl⟩
  go_simp
  refine hR _ ?_
  clear hR R
 refine wpPlan_do (by rfl) (by rfl) (fun K hK=>?_)
 go_simp
 refine((C2 w1.drew).out).mono ?_
 rintro e w3 ⟨rfl,rfl⟩
 refine hK _ _ ((Below.refl _ _).drew) ?_
 clear hK K
 iterate 1
  refine wpPlan_read (by rfl) (by rfl) (fun R hR=>?_)
  apply Exists.intro
  refine⟨fun w' hS'=>?_,?_⟩
  ·have k0:=(B1.out.keep hS').cell 0
   have k1:=(B1.out.keep hS').cell 1
   have k2:=(B1.out.keep hS').cell 2
   have ev:=EV.out
   have eu:=EU.out
   have et:=ET.out
   have en2:=EN2.out
   have en3:=EN3.out
   simp only[List.getElem?_toArray,List.getElem?_cons_zero,List.getElem?_cons_succ] at k0 k1 k2
   go_simp
   exact⟨rfl,rfl⟩
  go_simp
  refine hR _ ?_
  clear hR R
 refine wpPlan_do (by rfl) (by rfl) (fun K hK=>?_)
 go_simp
 refine hK _ _ (((Below.refl _ _).drew).alloc (Nat.le_refl _) _) ?_
 clear hK K
 iterate 1
  refine wpPlan_read (by rfl) (by rfl) (fun R hR=>?_)
  apply Exists.intro
  refine⟨fun w' hS'=>?_,?_⟩
  ·have k0:=(B1.out.keep hS').cell 0
   have k1:=(B1.out.keep hS').cell 1
   have k2:=(B1.out.keep hS').cell 2
   have ev:=EV.out
   have eu:=EU.out
   have et:=ET.out
   have en2:=EN2.out
   have en3:=EN3.out
   simp only[List.getElem?_toArray,List.getElem?_cons_zero,List.getElem?_cons_succ] at k0 k1 k2
   go_simp
   exact⟨rfl,rfl⟩
  go_simp
  refine hR _ ?_
  clear hR R
 refine wpPlan_nil ?_
 have hz1:=hb1.size
 obtain⟨w4,hw4⟩:∃w4,(w1.alloc (.cells #[.int .i64 lo,.int .i64 hi,.int .i64 dg,.int .i64 u,.int .i64 m] 342)).drew=w4:=⟨_,rfl⟩
 have hb4:Below w1.heap.size w1 w4:=by rw[<-hw4];exact((Below.refl _ _).alloc (Nat.le_refl _) _).drew
 have B4:MpAt w4 w1.heap.size lo hi dg u m:=by unfold MpAt;rw[<-hw4];exact(Blk.new _ _ _:Blk (w1.alloc _) _ _ _).drew
 go_upto_region 5 with fail
 have k3:=Blk.cell B4 3
 have k4:=Blk.cell B4 4
 simp only[List.getElem?_toArray,List.getElem?_cons_zero,List.getElem?_cons_succ] at k3 k4
 have c5:=c5h.out
 have eum:=EUM.out
 go_quiet (fail)
 go_wp2_with fail
 go_ret2
 subst hw4
 exact⟨_,rfl,hz1,Blk.drewN B4 _,below_drewN (hb1.trans (hb4.mono hz1)) _⟩
open Go.RowKit Go.Lib Go.Shelf
theorem unit_step{lo B j:Nat}(hl:1<=lo)(h63:lo<9223372036854775808)(hB:B=Lib.bitLen lo - 1)(h:j<=B):(1<lo / 2 ^ j<->j<B):=by
 have hp:=Nat.two_pow_pos j
 have e:1<lo / 2 ^ j<->2 ^ (j+1)<=lo:=by
  rw[Nat.lt_iff_add_one_le,Nat.le_div_iff_mul_le hp,Nat.pow_succ,Nat.mul_comm (2 ^ j)]
 rw[e,<-bit_gt (by omega)]
 omega
theorem mag_step{N M j:Nat}(h:N<18446744073709551616)(hM:M=Lib.bitLen N)(hj:j<=M):(2 ^ j<N+1<->j<M):=by
 rw[hM,bit_gt h]
 omega
theorem rshape_any{lo hi dg u m:Nat}(w:World)(ok:HdOk lo hi dg u m):Calls Tryz.prog 74 #[.agg #[.int .i64 lo,.int .i64 hi,.int .i64 dg]] w fun e w'=>e=.returned (.tuple #[.int .i64 u,.int .i64 m,.bool true])/\Below w.heap.size w w':=by
 obtain⟨d0,d1,l0,h0,h1,ue,me,um⟩:=ok
 have hmb:=mag_bd d1
 rw[<-me] at hmb
 have hT:∀j,j<=5->0<10 ^ j/\10 ^ j<=100000:=fun j h=>⟨Nat.pow_pos (by omega),(Nat.pow_le_pow_right (by omega) h:10 ^ j<=10 ^ 5)⟩
 have HT:=Lib.hid hT
 have hten:=hT dg d1
 have HU:Hid (∀j,j<=u->(1<lo / 2 ^ j<->j<u)):=Lib.hid (fun j h=>unit_step l0 (by omega) ue h)
 have HM:Hid (∀j,j<=m->(2 ^ j<2 * 10 ^ dg<->j<m)):=Lib.hid (fun j h=>by
  have:=mag_step (N:=2 * 10 ^ dg - 1) (j:=j) (by omega) me h
  rw[show 2 * 10 ^ dg - 1+1=2 * 10 ^ dg by omega] at this
  exact this)
 have c1:¬(hi:Int)<(lo:Int):=by omega
 have c6:IntKind.i64.wrap ((hi:Int) - (lo:Int))=(hi:Int) - (lo:Int):=by rw[IntKind.wrap_i64];omega
 have c7:¬(hi:Int) - (lo:Int)<(lo:Int):=by omega
 have c2:¬(dg:Int)<1:=by omega
 have c3:¬(5:Int)<(dg:Int):=by omega
 have c4:¬(lo:Int)<1:=by omega
 clear hT ue me
 go_enter Tryz.func74,Tryz.ntmps74
 go_wp2_with fail
 obtain⟨b,hb⟩:∃b,w.heap.size=b:=⟨_,rfl⟩
 obtain⟨w1,hw1⟩:∃w1,w.alloc (.cells #[.int .i64 lo,.int .i64 hi,.int .i64 dg] 32)=w1:=⟨_,rfl⟩
 have hb1:Below w.heap.size w w1:=by rw[<-hw1];(repeat' (first|(with_reducible exact Below.refl _ _)|(with_reducible refine Below.alloc ?_ ?_ _)|(with_reducible refine Below.drew ?_)|(with_reducible refine below_drewN ?_ _)|(with_reducible refine Below.setCell ?_ ?_ _)|(with_reducible refine below_of (by assumption) ?_ ?_)|go_size))
 have B1:Hid (Blk w1 b 32 #[.int .i64 lo,.int .i64 hi,.int .i64 dg]):=by rw[<-hw1,<-hb];exact Lib.hid (Blk.new _ _ _)
 rw[hb,hw1]
 have k2:=B1.out.cell 2
 simp only[List.getElem?_toArray,List.getElem?_cons_zero,List.getElem?_cons_succ] at k2
 clear hw1 hb c1 c2 c3 c4 c6 c7
 go_loopg [5,6] u (fun q x y wr=>(∃j:Nat,q=u - j/\j<=u/\x=.int .i64 j/\y=.int .i64 ((lo / 2 ^ j:Nat):Int))/\w1=wr)
 case atStart=>exact⟨⟨0,by omega,by omega,rfl,by simp⟩,rfl⟩
 case round=>
  obtain⟨⟨j,hq,hj,rfl,rfl⟩,rfl⟩:=hrel
  have HQ:=Lib.hid hq
  clear hq
  have hs:=HU.out j hj
  have HN:Hid (lo / 2 ^ j / 2=lo / 2 ^ (j+1)):=Lib.hid (by rw[Nat.div_div_eq_div_mul,Nat.pow_succ])
  have hnl:lo / 2 ^ j<=lo:=Nat.div_le_self ..
  generalize lo / 2 ^ j=n at *
  by_cases hlt:j<u
  ·have hn:(1:Int)<(n:Int):=by have:=hs.2 hlt;omega
   have hdv:(n:Int).tdiv 2=(n:Int) / 2:=Int.tdiv_eq_ediv_of_nonneg (by omega)
   have hn9:n<9223372036854775808:=by omega
   go_wp2_with fail
   go_roundg (u - (j+1))
   case measure=>have:=HQ.out;omega
   case rel=>exact⟨⟨j+1,rfl,by omega,by go_num,by rw[<-HN.out];simp⟩,rfl⟩
  ·obtain rfl:j=u:=by omega
   have hn:¬(1:Int)<(n:Int):=fun h=>by have:=hs.1 (by omega);omega
   clear hs HN HU hnl
   go_wp2_with fail
   go_loopg [7,8] dg (fun q x y wr=>(∃i:Nat,q=dg - i/\i<=dg/\y=.int .i64 i/\x=.int .u64 ((2 * 10 ^ i:Nat):Int))/\w1=wr)
   case atStart=>exact⟨⟨0,by omega,by omega,rfl,rfl⟩,rfl⟩
   case round=>
    obtain⟨⟨i,hq,hi2,rfl,rfl⟩,rfl⟩:=hrel
    have HQ2:=Lib.hid hq
    clear hq
    by_cases hlt2:i<dg
    ·have hii:(i:Int)<(dg:Int):=by omega
     have hp:=HT.out i (by omega)
     have HS:Hid (2 * 10 ^ (i+1)=10 * (2 * 10 ^ i)):=Lib.hid (by rw[Nat.pow_succ];omega)
     obtain⟨P,hP⟩:∃P,2 * 10 ^ i=P:=⟨_,rfl⟩
     have hPb:0<P/\P<=200000:=by omega
     rw[hP] at HS |-
     clear hp hP hten
     go_wp2_with fail
     go_roundg (dg - (i+1))
     case measure=>have:=HQ2.out;omega
     case rel=>exact⟨⟨i+1,rfl,by omega,by go_num,by rw[HS.out];go_num⟩,rfl⟩
    ·obtain rfl:i=dg:=by omega
     obtain⟨N,hN⟩:∃N,2 * 10 ^ i=N:=⟨_,rfl⟩
     rw[hN] at HM |-
     have hNb:N<=200000:=by omega
     clear hN hten
     go_wp2_with fail
     go_loopg [9,10] m (fun q x y wr=>(∃t:Nat,q=m - t/\t<=m/\x=.int .i64 t/\y=.int .u64 ((2 ^ t:Nat):Int))/\w1=wr)
     case atStart=>exact⟨⟨0,by omega,by omega,rfl,rfl⟩,rfl⟩
     case round=>
      obtain⟨⟨t,hq,ht,rfl,rfl⟩,rfl⟩:=hrel
      have HQ3:=Lib.hid hq
      clear hq
      have hs:=HM.out t ht
      have h18:2 ^ t<=262144:=(two_le (by omega):2 ^ t<=2 ^ 18)
      have HS:Hid (2 ^ (t+1)=2 * 2 ^ t):=Lib.hid (by rw[Nat.pow_succ];omega)
      generalize 2 ^ t=P at *
      by_cases hlt3:t<m
      ·have hPN:(P:Int)<(N:Int):=by have:=hs.2 hlt3;omega
       go_wp2_with fail
       go_roundg (m - (t+1))
       case measure=>have:=HQ3.out;omega
       case rel=>exact⟨⟨t+1,rfl,by omega,by go_num,by rw[HS.out];go_num⟩,rfl⟩
      ·obtain rfl:t=m:=by omega
       have hPN:¬(P:Int)<(N:Int):=fun h=>by have:=hs.1 (by omega);omega
       have hum:(j:Int)+(t:Int)<=62:=by omega
       have ew:IntKind.i64.wrap ((j:Int)+(t:Int))=(j:Int)+(t:Int):=by rw[IntKind.wrap_i64];omega
       go_wp2_with fail
       refine bodyPost_ret (by simp[results,Tryz.results74,go_sem, *];try rfl) rfl ?_
       exact⟨rfl,hb1⟩
open Go.RowKit Go.Lib Go.Shelf
def RHdAt(y lo hi dg u m:Nat)(gr:Bool)(bk:Nat)(l:List Pr)(F:Ft)(w:World):Prop:=∃v,Blk w y 163 #[.int .i64 lo,.int .i64 hi,.int .i64 dg,.int .i64 u,.int .i64 m,.bool gr,.int .i64 bk,v]/\OwnE prE 0 w v l/\F y/\(∀k,v.ownBlock=some k->F k)/\∀k,F k->k<w.heap.size
theorem rhd_stay(y lo hi dg u m:Nat)(gr:Bool)(bk:Nat)(l:List Pr):Stay (RHdAt y lo hi dg u m gr bk l) where
 stay:=fun⟨v,h1,h2,h3,h4,h5⟩ hk hz=>⟨v,(hk y h3).trans h1,h2.stay fun k e=>hk k (h4 k e),h3,h4,fun k h=>Nat.lt_of_lt_of_le (h5 k h) hz⟩
 more:=fun⟨v,h1,h2,h3,h4,_⟩ h hl=>⟨v,h1,h2,h y h3,fun k e=>h k (h4 k e),hl⟩
 low:=fun⟨_,_,_,_,_,h5⟩=>h5
theorem rhd_new{lo hi dg u m:Nat}(gr:Bool)(w:World)(ok:HdOk lo hi dg u m):Calls Tryz.prog 79 #[.agg #[.int .i64 lo,.int .i64 hi,.int .i64 dg],.bool gr] w fun e w'=>∃y,e=.returned (.pointer (some ⟨y,0,none⟩))/\RHdAt y lo hi dg u m gr (1+bkN u m hi) [] (Gr (fun _=>False) w w') w'/\Below w.heap.size w w':=by
 have C1:Hid (∀w,_):=Lib.hid (fun w=>rshape_any w ok)
 have C2:Hid (∀w,_):=Lib.hid (fun w=>rbucket_any u m hi w ok.um (by have:=ok.h1;omega))
 have HM:=bk_max (u:=u) (m:=m) (v:=hi) (by have:=ok.h1;omega)
 have hb:bkN u m hi<=63:=by have:=ok.um;omega
 generalize bkN u m hi=bk at *
 clear ok HM
 go_enter Tryz.func79,Tryz.ntmps79
 go_wp2_with fail
 obtain⟨b,hbb⟩:∃b,w.heap.size=b:=⟨_,rfl⟩
 obtain⟨w1,hw1⟩:∃w1,w.alloc (.cells #[.int .i64 lo,.int .i64 hi,.int .i64 dg] 32)=w1:=⟨_,rfl⟩
 have hb1:Below w.heap.size w w1:=by rw[<-hw1];(repeat' (first|(with_reducible exact Below.refl _ _)|(with_reducible refine Below.alloc ?_ ?_ _)|(with_reducible refine Below.drew ?_)|(with_reducible refine below_drewN ?_ _)|(with_reducible refine Below.setCell ?_ ?_ _)|(with_reducible refine below_of (by assumption) ?_ ?_)|go_size))
 have B1:Hid (Blk w1 b 32 #[.int .i64 lo,.int .i64 hi,.int .i64 dg]):=by rw[<-hw1,<-hbb];exact Lib.hid (Blk.new _ _ _)
 have HBB:=Lib.hid hbb
 rw[hw1,hbb]
 clear hw1 hbb
 refine(C1.out w1).mono ?_
 rintro e w2 ⟨rfl,hb2⟩
 have B2:=Lib.hid (B1.out.keep hb2)
 have hb12:=hb1.trans (hb2.mono hb1.size)
 have hz:=hb12.size
 have k0:=B2.out.cell 0
 have k1:=B2.out.cell 1
 have k2:=B2.out.cell 2
 simp only[List.getElem?_toArray,List.getElem?_cons_zero,List.getElem?_cons_succ] at k0 k1 k2
 go_wp2_with fail
 clear k0 k1 k2
 refine wp_region_plan (Below w2.heap.size w2) [(0,true),(1,true),(2,true),(3,true),(4,true),(5,true),(6,true),(7,true),(8,false),(9,true),(10,true),(11,false),(12,true)] (by kernel_rfl) (by kernel_rfl) ((Below.refl _ _).drew) ?_
 iterate 8
  refine wpPlan_read (by rfl) (by rfl) (fun R hR=>?_)
  apply Exists.intro
  refine⟨fun w' hS'=>?_,?_⟩
  ·have k0:=(B2.out.keep hS').cell 0
   have k1:=(B2.out.keep hS').cell 1
   have k2:=(B2.out.keep hS').cell 2
   simp only[List.getElem?_toArray,List.getElem?_cons_zero,List.getElem?_cons_succ] at k0 k1 k2
   go_simp
   exact⟨rfl,rfl⟩
  go_simp
  refine hR _ ?_
  clear hR R
 refine wpPlan_do (by rfl) (by rfl) (fun K hK=>?_)
 go_simp
 refine((C2.out w2.drew)).mono ?_
 rintro e w3 ⟨rfl,rfl⟩
 refine hK _ _ ((Below.refl _ _).drew) ?_
 clear hK K
 iterate 2
  refine wpPlan_read (by rfl) (by rfl) (fun R hR=>?_)
  apply Exists.intro
  refine⟨fun w' hS'=>?_,?_⟩
  ·have k0:=(B2.out.keep hS').cell 0
   have k1:=(B2.out.keep hS').cell 1
   have k2:=(B2.out.keep hS').cell 2
   simp only[List.getElem?_toArray,List.getElem?_cons_zero,List.getElem?_cons_succ] at k0 k1 k2
   go_simp
   exact⟨rfl,rfl⟩
  go_simp
  refine hR _ ?_
  clear hR R
 refine wpPlan_do (by rfl) (by rfl) (fun K hK=>?_)
 go_simp
 refine hK _ _ (((Below.refl _ _).drew).alloc (Nat.le_refl _) _) ?_
 clear hK K
 iterate 1
  refine wpPlan_read (by rfl) (by rfl) (fun R hR=>?_)
  apply Exists.intro
  refine⟨fun w' hS'=>?_,?_⟩
  ·have k0:=(B2.out.keep hS').cell 0
   have k1:=(B2.out.keep hS').cell 1
   have k2:=(B2.out.keep hS').cell 2
   simp only[List.getElem?_toArray,List.getElem?_cons_zero,List.getElem?_cons_succ] at k0 k1 k2
   go_simp
   exact⟨rfl,rfl⟩
  go_simp
  refine hR _ ?_
  clear hR R
 refine wpPlan_nil ?_
 go_wp2_with fail
 go_ret
 have ew:IntKind.i64.wrap (1+(bk:Int))=((1+bk:Nat):Int):=by rw[IntKind.wrap_i64];omega
 rw[ew]
 obtain⟨w5,hw5⟩:∃w5,(w2.alloc (.cells #[.int .i64 lo,.int .i64 hi,.int .i64 dg,.int .i64 u,.int .i64 m,.bool gr,.int .i64 ((1+bk:Nat):Int),.slice none 0 0] 163)).drew=w5:=⟨_,rfl⟩
 have hb5:Below w2.heap.size w2 w5:=by rw[<-hw5];exact((Below.refl _ _).alloc (Nat.le_refl _) _).drew
 have B5:Blk w5 w2.heap.size 163 #[.int .i64 lo,.int .i64 hi,.int .i64 dg,.int .i64 u,.int .i64 m,.bool gr,.int .i64 ((1+bk:Nat):Int),.slice none 0 0]:=by rw[<-hw5];exact(Blk.new _ _ _:Blk (w2.alloc _) _ _ _).drew
 have hl5:=B5.lt
 rw[hw5]
 exact⟨_,rfl,⟨_,B5,OwnE.nil_ _ _,.inr ⟨hz,hl5⟩,(fun k e=>by cases e),fun k h=>h.elim False.elim And.right⟩,hb12.trans (hb5.mono hz)⟩
open Go.RowKit Go.Lib Go.Shelf
def reachN(u m hi bk:Nat):Nat:=if bk=1+bkN u m hi then hi else topN u m bk
theorem rhd_reach{y lo hi dg u m bk:Nat}{gr:Bool}{l:List Pr}{F:Ft}(w:World)(h:RHdAt y lo hi dg u m gr bk l F w)(ok:HdOk lo hi dg u m)(b0:1<=bk)(b1:bk<=64):Calls Tryz.prog 86 #[.pointer (some ⟨y,0,none⟩)] w fun e w'=>e=.returned (.int .i64 (reachN u m hi bk))/\Below w.heap.size w w':=by
 have HE:Hid (reachN u m hi bk=if bk=1+bkN u m hi then hi else topN u m bk):=Lib.hid rfl
 rw[HE.out]
 have C1:Hid (∀w,_):=Lib.hid (fun w=>rbucket_any u m hi w ok.um (by have:=ok.h1;omega))
 have C2:Hid (∀w,_):=Lib.hid (fun w=>rtop_any u m bk w ok.um b0 b1)
 have HM:=bk_max (u:=u) (m:=m) (v:=hi) (by have:=ok.h1;omega)
 have hb:bkN u m hi<=63:=by have:=ok.um;omega
 obtain⟨v,hB,_⟩:=h
 have HB:=Lib.hid hB
 generalize bkN u m hi=B at *
 generalize topN u m bk=T at *
 have EW:Hid (IntKind.i64.wrap (1+(B:Int))=((1+B:Nat):Int)):=Lib.hid (by rw[IntKind.wrap_i64];omega)
 have k1':=hB.cell 1
 simp only[List.getElem?_toArray,List.getElem?_cons_zero,List.getElem?_cons_succ] at k1'
 clear ok HM hB HE
 obtain⟨N,hN⟩:∃N,1+B=N:=⟨_,rfl⟩
 rw[hN] at EW |-
 clear hN
 by_cases he:bk=N
 ·subst he
  rw[if_pos rfl]
  have hd:((bk:Int) == (bk:Int))=true:=by simp
  go_enter Tryz.func86,Tryz.ntmps86
  go_wp2_with fail
  refine wp_region_plan (Below w.heap.size w) [(0,true),(1,true),(2,true),(3,true),(4,true),(5,true),(6,true),(7,true),(8,true),(9,true),(10,true),(11,true),(12,true),(13,true),(14,true),(15,true),(16,true),(17,false),(18,true),(19,true)] (by kernel_rfl) (by kernel_rfl) ((Below.refl _ _).drew) ?_
  iterate 17
   refine wpPlan_read (by rfl) (by rfl) (fun R hR=>?_)
   apply Exists.intro
   refine⟨fun w' hS'=>?_,?_⟩
   ·have k1:=(HB.out.keep hS').cell 1
    have k3:=(HB.out.keep hS').cell 3
    have k4:=(HB.out.keep hS').cell 4
    have k6:=(HB.out.keep hS').cell 6
    have ew:=EW.out
    simp only[List.getElem?_toArray,List.getElem?_cons_zero,List.getElem?_cons_succ] at k1 k3 k4 k6
    go_simp
    exact⟨rfl,rfl⟩
   go_simp
   refine hR _ ?_
   clear hR R
  refine wpPlan_do (by rfl) (by rfl) (fun K hK=>?_)
  go_simp
  refine((C1.out w.drew)).mono ?_
  rintro e w3 ⟨rfl,rfl⟩
  refine hK _ _ ((Below.refl _ _).drew) ?_
  clear hK K
  iterate 2
   refine wpPlan_read (by rfl) (by rfl) (fun R hR=>?_)
   apply Exists.intro
   refine⟨fun w' hS'=>?_,?_⟩
   ·have k1:=(HB.out.keep hS').cell 1
    have k3:=(HB.out.keep hS').cell 3
    have k4:=(HB.out.keep hS').cell 4
    have k6:=(HB.out.keep hS').cell 6
    have ew:=EW.out
    simp only[List.getElem?_toArray,List.getElem?_cons_zero,List.getElem?_cons_succ] at k1 k3 k4 k6
    go_simp
    exact⟨rfl,rfl⟩
   go_simp
   refine hR _ ?_
   clear hR R
  refine wpPlan_nil ?_
  have k1:=(HB.out.drew).cell 1
  simp only[List.getElem?_toArray,List.getElem?_cons_zero,List.getElem?_cons_succ] at k1
  go_wp2_with fail
  go_ret
  exact⟨rfl,(Below.refl _ _).drew⟩
 ·rw[if_neg he]
  have hd:((bk:Int) == (N:Int))=false:=by simp;omega
  go_enter Tryz.func86,Tryz.ntmps86
  go_wp2_with fail
  refine wp_region_plan (Below w.heap.size w) [(0,true),(1,true),(2,true),(3,true),(4,true),(5,true),(6,true),(7,true),(8,true),(9,true),(10,true),(11,true),(12,true),(13,true),(14,true),(15,true),(16,true),(17,false),(18,true),(19,true)] (by kernel_rfl) (by kernel_rfl) ((Below.refl _ _).drew) ?_
  iterate 17
   refine wpPlan_read (by rfl) (by rfl) (fun R hR=>?_)
   apply Exists.intro
   refine⟨fun w' hS'=>?_,?_⟩
   ·have k1:=(HB.out.keep hS').cell 1
    have k3:=(HB.out.keep hS').cell 3
    have k4:=(HB.out.keep hS').cell 4
    have k6:=(HB.out.keep hS').cell 6
    have ew:=EW.out
    simp only[List.getElem?_toArray,List.getElem?_cons_zero,List.getElem?_cons_succ] at k1 k3 k4 k6
    go_simp
    exact⟨rfl,rfl⟩
   go_simp
   refine hR _ ?_
   clear hR R
  refine wpPlan_do (by rfl) (by rfl) (fun K hK=>?_)
  go_simp
  refine((C1.out w.drew)).mono ?_
  rintro e w3 ⟨rfl,rfl⟩
  refine hK _ _ ((Below.refl _ _).drew) ?_
  clear hK K
  iterate 2
   refine wpPlan_read (by rfl) (by rfl) (fun R hR=>?_)
   apply Exists.intro
   refine⟨fun w' hS'=>?_,?_⟩
   ·have k1:=(HB.out.keep hS').cell 1
    have k3:=(HB.out.keep hS').cell 3
    have k4:=(HB.out.keep hS').cell 4
    have k6:=(HB.out.keep hS').cell 6
    have ew:=EW.out
    simp only[List.getElem?_toArray,List.getElem?_cons_zero,List.getElem?_cons_succ] at k1 k3 k4 k6
    go_simp
    exact⟨rfl,rfl⟩
   go_simp
   refine hR _ ?_
   clear hR R
  refine wpPlan_nil ?_
  go_wp2_with fail
  refine wp_region_plan (Below w.heap.size w) [(0,true),(1,true),(2,true),(3,true),(4,true),(5,true),(6,true),(7,true),(8,true),(9,true),(10,true),(11,true),(12,false),(13,true)] (by kernel_rfl) (by kernel_rfl) ((Below.refl _ _).drew.drew) ?_
  iterate 12
   refine wpPlan_read (by rfl) (by rfl) (fun R hR=>?_)
   apply Exists.intro
   refine⟨fun w' hS'=>?_,?_⟩
   ·have k3:=(HB.out.keep hS').cell 3
    have k4:=(HB.out.keep hS').cell 4
    have k6:=(HB.out.keep hS').cell 6
    simp only[List.getElem?_toArray,List.getElem?_cons_zero,List.getElem?_cons_succ] at k3 k4 k6
    go_simp
    exact⟨rfl,rfl⟩
   go_simp
   refine hR _ ?_
   clear hR R
  refine wpPlan_do (by rfl) (by rfl) (fun K hK=>?_)
  go_simp
  refine((C2.out w.drew.drew)).mono ?_
  rintro e w3 ⟨rfl,rfl⟩
  refine hK _ _ ((Below.refl _ _).drew.drew) ?_
  clear hK K
  iterate 1
   refine wpPlan_read (by rfl) (by rfl) (fun R hR=>?_)
   apply Exists.intro
   refine⟨fun w' hS'=>?_,?_⟩
   ·have k3:=(HB.out.keep hS').cell 3
    have k4:=(HB.out.keep hS').cell 4
    have k6:=(HB.out.keep hS').cell 6
    simp only[List.getElem?_toArray,List.getElem?_cons_zero,List.getElem?_cons_succ] at k3 k4 k6
    go_simp
    exact⟨rfl,rfl⟩
   go_simp
   refine hR _ ?_
   clear hR R
  refine wpPlan_nil ?_
  go_wp2_with fail
  go_ret
  exact⟨rfl,(Below.refl _ _).drew.drew⟩
open Go.Lib
structure HsOk(lo hi dg u m:Nat)(gr:Bool)(bk:Nat)(l:List Pr):Prop where
 sh:HdOk lo hi dg u m
 srt:SrtP l
 pos:PosP l
 sum:tot l<=4611686018427387904
 key:∀p∈l,∃v:Nat,v<9223372036854775808/\p.1=ixN u m v/\1+bkN u m v<=bk
 fst:1+bkN u m hi<=bk
 mx:bk=1+bkN u m hi\/∃p∈l,∃v:Nat,v<9223372036854775808/\p.1=ixN u m v/\bk=1+bkN u m v
 grw:gr=false->bk=1+bkN u m hi
section
variable {lo hi dg u m bk : Nat} {gr : Bool} {l : List Pr}
theorem HdOk.mb(h:HdOk lo hi dg u m):1<=m/\m<=18:=by rw[h.me];exact mag_bd h.d1
theorem ix_lt{v:Nat}(h:HdOk lo hi dg u m)(hv:v<9223372036854775808):ixN u m v<=16777216:=by
 have h1:=ck_lt (u:=u) (m:=m) (v:=v) (by omega)
 have hb:=bk_max (u:=u) (m:=m) hv
 have hm:=h.mb
 have h2:2 ^ m<=262144:=(Nat.pow_le_pow_right (by omega) hm.2:2 ^ m<=2 ^ 18)
 have h3:2 ^ (m - 1)<=131072:=(Nat.pow_le_pow_right (by omega) (by omega):2 ^ (m - 1)<=2 ^ 17)
 have h4:bkN u m v * 2 ^ (m - 1)<=63 * 131072:=Nat.mul_le_mul (by omega) h3
 unfold ixN
 omega
theorem HsOk.b0(h:HsOk lo hi dg u m gr bk l):1<=bk:=by have:=h.fst;omega
theorem HsOk.b1(h:HsOk lo hi dg u m gr bk l):bk<=64:=by
 have h0:=h.sh.um
 have h2:=bk_max (u:=u) (m:=m) (v:=hi) (by have:=h.sh.h1;omega)
 rcases h.mx with e|⟨p,_,v,hv,_,e⟩
 ·omega
 ·have h1:=bk_max (u:=u) (m:=m) hv;omega
theorem HsOk.kb(h:HsOk lo hi dg u m gr bk l):∀p∈l,0<=p.1/\p.1<=16777216:=fun p hp=>by
 obtain⟨v,hv,e,_⟩:=h.key p hp
 have:=ix_lt h.sh hv
 omega
theorem HsOk.len(h:HsOk lo hi dg u m gr bk l):l.length<=16777217:=by
 have:=srt_len h.srt h.kb (by omega)
 omega
def hsE(u m:Nat)(gr:Bool)(bk:Nat)(l:List Pr)(v n:Int):Int:=if n=0 then 4 else if v<0 then 5 else if gr=false/\(topN u m bk:Int)<v then 5 else if 4611686018427387904<tot l+n then 6 else 0
def hsL(u m:Nat)(gr:Bool)(bk:Nat)(l:List Pr)(v n:Int):List Pr:=if hsE u m gr bk l v n=0 then putP (ixN u m v.toNat) n l else l
def hsB(u m:Nat)(gr:Bool)(bk:Nat)(l:List Pr)(v n:Int):Nat:=if hsE u m gr bk l v n=0 then max bk (1+bkN u m v.toNat) else bk
theorem hs_new(h:HdOk lo hi dg u m):HsOk lo hi dg u m gr (1+bkN u m hi) []:=⟨h,List.Pairwise.nil,by simp,by simp[tot],by simp,Nat.le_refl _,.inl rfl,fun _=>rfl⟩
theorem top_bk{v n:Nat}(hv:v<9223372036854775808)(h0:1<=n)(h:v<=topN u m n):1+bkN u m v<=n:=by
 have h1:=bk_max (u:=u) (m:=m) hv
 unfold topN at h
 split at h
 ·omega
 ·have:bkN u m v<=n - 1:=(bk_le (by omega)).2 (by
   rw[show u+m+(n - 1)=n - 1+u+m by omega]
   have:=Nat.two_pow_pos (n - 1+u+m)
   omega)
  omega
theorem hs_rec{v n:Int}(h:HsOk lo hi dg u m gr bk l)(v1:v<=9223372036854775807)(n0:0<=n):HsOk lo hi dg u m gr (hsB u m gr bk l v n) (hsL u m gr bk l v n):=by
 unfold hsB hsL
 by_cases he:hsE u m gr bk l v n=0
 ·rw[if_pos he,if_pos he]
  unfold hsE at he
  by_cases a1:n=0
  ·rw[if_pos a1] at he;omega
  by_cases a2:v<0
  ·rw[if_neg a1,if_pos a2] at he;omega
  by_cases a3:gr=false/\(topN u m bk:Int)<v
  ·rw[if_neg a1,if_neg a2,if_pos a3] at he;omega
  by_cases a4:4611686018427387904<tot l+n
  ·rw[if_neg a1,if_neg a2,if_neg a3,if_pos a4] at he;omega
  obtain⟨x,rfl⟩:=Int.eq_ofNat_of_zero_le (a:=v) (by omega)
  have hx:x<9223372036854775808:=by omega
  simp only[Int.toNat_natCast]
  refine⟨h.sh,put_srt h.srt,put_pos (by omega) h.pos,by rw[tot_put];omega,fun p hp=>?_,by have:=h.fst;omega,?_,fun hg=>?_⟩
  ·rcases put_mem hp with e|hp
   ·exact⟨x,hx,e,by omega⟩
   ·obtain⟨y,hy,e,hb⟩:=h.key p hp
    exact⟨y,hy,e,by omega⟩
  ·have hkk:=cn_key (put_pos (k:=(ixN u m x:Int)) (n:=n) (by omega) h.pos)
   rcases Nat.le_total (1+bkN u m x) bk with hle|hle
   ·rw[Nat.max_eq_left hle]
    rcases h.mx with e|⟨p,hp,y,hy,e1,e2⟩
    ·exact .inl e
    ·refine .inr ?_
     have hc:=cn_pos h.pos hp
     obtain⟨q,hq,eq⟩:=(hkk p.1).2 (by rw[cn_put];split<;>omega)
     exact⟨q,hq,y,hy,eq.trans e1,e2⟩
   ·rw[Nat.max_eq_right hle]
    refine .inr ?_
    have hc:=cn_nonneg (k:=(ixN u m x:Int)) h.pos
    obtain⟨q,hq,eq⟩:=(hkk (ixN u m x:Int)).2 (by rw[cn_put,if_pos rfl];omega)
    exact⟨q,hq,x,hx,eq,rfl⟩
  ·have hb:=h.grw hg
   have ht:x<=topN u m bk:=by
    rcases Nat.lt_or_ge (topN u m bk) x with hh|hh
    ·exact absurd ⟨hg,by omega⟩ a3
    ·exact hh
   have:=top_bk hx h.b0 ht
   omega
 ·rw[if_neg he,if_neg he];exact h
end
def nn(v:Int):List Int:=lebF 8 (sgn v)
theorem nn_len(v:Int):1<=(nn v).length/\(nn v).length<=9:=lebF_len 8 _
def gapN(g:Int):List Int:=if g=1 then [0] else if 1<g then [-g] else []
def nmB:Int->List Pr->List Int
 | _,[]=>[]
 | a,p::l=>gapN (p.1 - a)++p.2::nmB (p.1+1) l
def nmA(l:List Pr):List Int:=if l=[] then [0] else nmB 0 l
def nnB(l:List Int):List Int:=l.flatMap nn
def cntA(l:List Pr):List Int:=nnB (nmA l)
def beN:Nat->Int->List Int
 | 0,_=>[]
 | k+1,n=>beN k (n / 256)++[n % 256]
theorem beN_len:∀(k:Nat) (n:Int),(beN k n).length=k
 | 0,_=>rfl
 | k+1,n=>by rw[beN,List.length_append,beN_len k];rfl
def hwHead(lo reach dg c:Int):List Int:=beN 4 478450451++beN 4 c++beN 4 0++beN 4 dg++beN 8 lo++beN 8 reach++beN 8 4607182418800017408
def hwB(lo reach dg:Int)(l:List Pr):List Int:=hwHead lo reach dg (cntA l).length++cntA l
def endH(a:Int):List Pr->Int
 | []=>a
 | p::l=>endH (p.1+1) l
theorem gapN_len(g:Int):(gapN g).length<=1:=by unfold gapN;(repeat' split)<;>simp
theorem nmB_len:∀(l:List Pr) (a:Int),(nmB a l).length<=2 * l.length
 | [],_=>by simp[nmB]
 | p::l,a=>by
  have h1:=gapN_len (p.1 - a)
  have h2:=nmB_len l (p.1+1)
  rw[nmB,List.length_append,List.length_cons,List.length_cons];omega
theorem nmA_len(l:List Pr):(nmA l).length<=2 * l.length+1:=by
 unfold nmA;split
 ·simp
 ·have:=nmB_len l 0;omega
theorem nnB_len:∀(l:List Int),l.length<=(nnB l).length/\(nnB l).length<=9 * l.length
 | []=>by simp[nnB]
 | n::l=>by
  have h1:=nn_len n
  have h2:=nnB_len l
  have e:nnB (n::l)=nn n++nnB l:=rfl
  rw[e,List.length_append,List.length_cons];omega
theorem nnB_append(a b:List Int):nnB (a++b)=nnB a++nnB b:=List.flatMap_append
theorem cntA_len(l:List Pr):1<=(cntA l).length/\(cntA l).length<=18 * l.length+9:=by
 have h1:=nmA_len l
 have h2:=nnB_len (nmA l)
 have h3:1<=(nmA l).length:=by
  unfold nmA;split
  ·simp
  ·rename_i h
   cases l with
   | nil=>exact absurd rfl h
   | cons p l=>rw[nmB,List.length_append,List.length_cons];omega
 unfold cntA
 omega
theorem hwB_len(lo reach dg:Int)(l:List Pr):(hwB lo reach dg l).length=40+(cntA l).length:=by unfold hwB hwHead;simp only[List.length_append,beN_len]
section
open Go.Lib
variable {lo hi dg u m bk : Nat} {gr : Bool} {l : List Pr}
theorem HsOk.pb(h:HsOk lo hi dg u m gr bk l):∀p∈l,0<=p.1/\p.1<=16777216/\0<p.2/\p.2<=4611686018427387904:=fun p hp=>by
 have h1:=h.kb p hp
 have h2:=h.pos p hp
 have h3:=pos_le h.pos p hp
 have:=h.sum
 omega
end
end Go.Proofs.YtkiebccnpheloaaGreat.D
