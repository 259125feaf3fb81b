/- Parts of a proof: what its theorem reaches, words cut short. No condition of its own. -/
import Derived.Test.YtkiebccnpheloaaGreatPk24
set_option maxRecDepth 100000
set_option maxHeartbeats 16000000
set_option linter.unusedVariables false
set_option linter.unusedSimpArgs false
namespace Go.Proofs.YtkiebccnpheloaaGreat.D
open Go.RowKit Go.Lib Go.Shelf
def rQ(w:World)(g:Nat)(lo hi dg:Int)(u m:Nat):Prop:=dH w g 342 #[.int .i64 lo,.int .i64 hi,.int .i64 dg,.int .i64 u,.int .i64 m]
section
variable {g u m : Nat} {lo hi dg : Int} {w : World}
theorem qf(x:Nat)(w:World)(h:x<18446744073709551616):Calls Tryz.prog 372 #[.int .u64 x] w fun e w'=>e=.returned (.int .i64 (Lib.bitLen x))/\w=w':=by
 refine(Any.bits_Len64 Tryz.len64L (x:Int) w ae  ae).mono ?_
 rintro e w' ⟨rfl,rfl⟩;exact⟨by simp,rfl⟩
theorem zM(v:Nat)(h:rQ w g lo hi dg u m)(hu:u+m<=62)(hv:v<9223372036854775808):Calls Tryz.prog 383 #[.pointer (some ⟨g,0,none⟩),.int .i64 v] w fun e w'=>e=.returned (.int .i64 (jL u m v))/\Below w.heap.size w w':=by
 have CL:Hid (∀w,_):=aB (fun w=>qf v w ae)
 have hb:Lib.bitLen v<=63:=(v_ ae).2 (by simpa using hv)
 have HB:Hid (jL u m v=Lib.bitLen v - (u+m)):=aB rfl;rw[HB.out];generalize Lib.bitLen v=B at *;have HM:=aB h;have hg:g<w.heap.size:=dH.lt h;have EV:Hid (IntKind.u64.wrap (v:Int)=(v:Int)):=aB (by rw[eH];omega)
 have E1:Hid (IntKind.i64.wrap ((B:Int) - (u:Int))=(B:Int) - (u:Int)):=aB ak
 have E2:Hid (IntKind.i64.wrap ((B:Int) - (u:Int) - (m:Int))=(B:Int) - (u:Int) - (m:Int)):=aB ak
 clear h HB
 go_enter Tryz.func383,Tryz.ntmps383
 go_wp2_with fail;refine dD (Below w.heap.size w) [(0,true),(1,true),(3,true),(4,true),(5,true),(6,true),(8,true),(9,true),(10,true),(11,true),(2,false),(7,true),(12,true),(13,true),(14,true)] (by kernel_rfl) (by kernel_rfl) ((aH _ _).drew) ?_
 iterate 10
  refine dC ax  ax (fun R hR=>?_)
  apply aJ
  refine⟨fun w' hS'=>?_,?_⟩
  ·have k3:=(dH.keep HM.out hS').cell 3
   have k4:=(dH.keep HM.out hS').cell 4;have ev:=EV.out;have e1:=E1.out;have e2:=E2.out;simp only[aF,aC,aG] at k3 k4
   go_simp;exact⟨rfl,rfl⟩
  go_simp;refine hR _ ?_;clear hR R
 refine dE ax  ax (fun K hK=>?_)
 go_simp;refine(CL.out w.drew).mono ?_
 rintro e w3 ⟨rfl,rfl⟩;refine hK _ _ ((aH _ _).drew) ?_
 clear hK K
 iterate 4
  refine dC ax  ax (fun R hR=>?_)
  apply aJ
  refine⟨fun w' hS'=>?_,?_⟩
  ·have k3:=(dH.keep HM.out hS').cell 3
   have k4:=(dH.keep HM.out hS').cell 4;have ev:=EV.out;have e1:=E1.out;have e2:=E2.out;simp only[aF,aC,aG] at k3 k4
   go_simp;exact⟨rfl,rfl⟩
  go_simp;refine hR _ ?_;clear hR R
 refine dF ?_
 go_wp2_with fail
 go_ret;refine⟨?_,(aH _ _).drew⟩
 show Ending.returned (Value.int .i64 (max 0 ((B:Int) - (u:Int) - (m:Int))))=Ending.returned (Value.int .i64 (((B - (u+m):Nat)):Int))
 congr 2
 omega
theorem Uf(h:rQ w g lo hi dg u m)(m0:1<=m)(m1:m<=18):Calls Tryz.prog 299 #[.pointer (some ⟨g,0,none⟩)] w fun e w'=>e=.returned (.int .i64 ((2 ^ (m - 1):Nat):Int))/\w=w':=by
 have k4:=dH.cell h 4;simp only[aF,aC,aG] at k4;clear h;obtain⟨M,rfl⟩:∃M,m=M+1:=⟨m - 1,ae⟩
 have hMw:IntKind.i64.wrap (M:Int)=(M:Int):=ak
 simp only[Nat.add_sub_cancel]
 go_enter Tryz.func299,Tryz.ntmps299
 go_wp2_with fail
 go_ret;refine⟨?_,rfl⟩
 have h17:2 ^ M<=2 ^ 17:=pV ae
 show Ending.returned (Value.int .i64 (wrap64 (2 ^ M)))=Ending.returned (Value.int .i64 ((2 ^ M:Nat):Int))
 have e:((2:Int) ^ M)=((2 ^ M:Nat):Int):=ag
 rw[e];generalize 2 ^ M=P at *;have:wrap64 (P:Int)=(P:Int):=by have bn0:P<=131072:=h17;unfold wrap64;omega
 rw[this]
theorem Ug(v:Nat)(h:rQ w g lo hi dg u m)(hu:u+m<=62)(hv:v<9223372036854775808):Calls Tryz.prog 298 #[.pointer (some ⟨g,0,none⟩),.int .i64 v] w fun e w'=>e=.returned (.tuple #[.int .i64 (jL u m v),.int .i64 (VN u m v)])/\Below w.heap.size w w':=by
 have CB:=aB (zM v h hu hv);have HM:=lH (u:=u) (m:=m) hv;have HK:Hid (VN u m v=v / 2 ^ (jL u m v+u)):=aB rfl;have hb:jL u m v<=63:=ae
 have H:=aB h;rw[HK.out];generalize jL u m v=b at *;obtain⟨s,hs⟩:∃s,b+u=s:=⟨_,rfl⟩;have hbu:IntKind.i64.wrap ((b:Int)+(u:Int))=(s:Int):=ak
 have hs63:s<=63:=ae
 rw[hs];clear h hs HK HM
 go_enter Tryz.func298,Tryz.ntmps298
 go_wp2_with fail;refine(CB.out).mono ?_
 rintro e w1 ⟨rfl,hb1⟩;have k3:=(dH.keep H.out hb1).cell 3;simp only[aF,aC,aG] at k3
 go_wp2_with fail
 go_quiet (fail)
 go_wp2_with fail
 go_ret2
 refine⟨?_,below_drewN hb1 _⟩
 show Ending.returned (.tuple #[.int .i64 b,.int .i64 ((v:Int) / 2 ^ s)])=Ending.returned (.tuple #[.int .i64 b,.int .i64 ((v / 2 ^ s:Nat):Int)])
 simp
theorem OX(v:Nat)(h:rQ w g lo hi dg u m)(hu:u+m<=62)(m0:1<=m)(m1:m<=18)(hv:v<9223372036854775808):Calls Tryz.prog 203 #[.pointer (some ⟨g,0,none⟩),.int .i64 v] w fun e w'=>e=.returned (.tuple #[.int .i64 (AV u m v),.int .i64 0])/\Below w.heap.size w w':=by
 have CC:=aB (Ug v h hu hv);have CH:Hid (∀w1,Below w.heap.size w w1->_):=aB (fun w1 hb=>Uf (dH.keep h hb) m0 m1)
 have HM:=lH (u:=u) (m:=m) hv;have HC:=Xx (u:=u) (m:=m) (v:=v) ae
 have h18:2 ^ m<=2 ^ 18:=pV m1;have ac4:2 ^ (m - 1)<=2 ^ 17:=pV ae
 have hb:jL u m v<=63:=ae
 have HX:Hid (AV u m v=jL u m v * 2 ^ (m - 1)+VN u m v):=aB rfl;have bf7:VN u m v<262144:=by have bl0:2 ^ m<=262144:=h18;omega
 have hH:2 ^ (m - 1)<=131072:=ac4;rw[HX.out];generalize VN u m v=k at *;generalize jL u m v=b at *;generalize 2 ^ (m - 1)=H at *;obtain⟨c,hc⟩:∃c,b * H=c:=⟨_,rfl⟩;have hcb:c<=8257536:=by rw[<-hc];exact Nat.mul_le_mul hb hH
 have hm1:((b:Int)+1) * (H:Int)=(c:Int)+(H:Int):=by rw[<-hc,Int.add_mul,Int.one_mul];simp
 have hfin:(c:Int)+(H:Int)+(k:Int) - (H:Int)=(c:Int)+(k:Int):=ae
 rw[hc];clear HX HC h18 ac4 HM hc h
 go_enter Tryz.func203,Tryz.ntmps203
 go_wp2_with fail;refine(CC.out).mono ?_
 rintro e w1 ⟨rfl,hb1⟩
 go_wp2_with fail;refine(CH.out w1 hb1).mono ?_
 rintro e w' ⟨rfl,rfl⟩
 go_wp2_with fail;refine(CH.out w1 hb1).mono ?_
 rintro e w' ⟨rfl,rfl⟩
 go_wp2_with fail
 go_ret2
 exact⟨by simp,hb1⟩
theorem rq(v:Nat)(h:rQ w g lo hi dg u m)(hu:u+m<=62)(hv:v<9223372036854775808):Calls Tryz.prog 314 #[.pointer (some ⟨g,0,none⟩),.int .i64 v] w fun e w'=>e=.returned (.int .i64 ((1+jL u m v:Nat):Int))/\Below w.heap.size w w':=by
 have CB:=aB (zM v h hu hv);have HM:=lH (u:=u) (m:=m) hv;have hb:jL u m v<=63:=ae
 have hm0:max (v:Int) 0=(v:Int):=ae
 generalize jL u m v=b at *;clear h HM
 go_enter Tryz.func314,Tryz.ntmps314
 go_wp2_with fail;refine(CB.out).mono ?_
 rintro e w1 ⟨rfl,hb1⟩
 go_wp2_with fail
 go_ret;exact⟨by simp,hb1⟩
end
open Go.RowKit Go.Lib Go.Shelf
theorem Uh(n:Nat)(w:World)(h:n<=5):Calls Tryz.prog 391 #[.int .i64 n] w fun e w'=>e=.returned (.tuple #[.int .u64 ((10 ^ n:Nat):Int),.int .i64 0])/\w=w':=by
 obtain⟨R,hR⟩:∃R,10 ^ n=R:=⟨_,rfl⟩;have HR:=aB hR;rw[hR];clear hR;have HB:Hid (∀j,j<=5->0<10 ^ j/\10 ^ j<=100000):=aB (fun j h=>⟨Nat.pow_pos ae,(Nat.pow_le_pow_right ae h:10 ^ j<=10 ^ 5)⟩)
 go_enter Tryz.func391,Tryz.ntmps391
 go_wp2_with fail
 go_loopg [4,12] n (fun q p x wr=>(∃j:Nat,q=n - j/\j<=n/\x=.int .i64 j/\p=.int .u64 ((10 ^ j:Nat):Int))/\w=wr)
 case atStart=>exact⟨⟨0,rfl,ae,rfl,rfl⟩,rfl⟩
 case round=>
  obtain⟨⟨j,hq,hj,rfl,rfl⟩,rfl⟩:=hrel;have HQ:=aB hq;clear hq
  by_cases hlt:j<n
  ·have hji:(j:Int)<(n:Int):=ae
   have hp:=HB.out j ae
   have HS:Hid (10 ^ (j+1)=10 * 10 ^ j):=aB (by rw[Nat.pow_succ];omega)
   generalize 10 ^ j=p at *
   go_wp2_with fail
   go_roundg (n - (j+1))
   case measure=>have:=HQ.out;omega
   case rel=>exact⟨⟨j+1,rfl,ae,ai,by rw[HS.out];go_num⟩,rfl⟩
  ·obtain rfl:j=n:=ae
   rw[HR.out]
   go_wp2_with fail
   go_ret2
   exact⟨rfl,rfl⟩
structure wB(lo hi dg u m:Nat):Prop where
 d0:1<=dg
 d1:dg<=5
 l0:1<=lo
 h0:2 * lo<=hi
 h1:hi<=9223372036854775807
 ue:u=Lib.bitLen lo - 1
 me:m=Lib.bitLen (2 * 10 ^ dg - 1)
 um:u+m<=62
theorem IC{dg:Nat}(d1:dg<=5):1<=Lib.bitLen (2 * 10 ^ dg - 1)/\Lib.bitLen (2 * 10 ^ dg - 1)<=18:=by
 have h:∀d:Fin 6,1<=Lib.bitLen (2 * 10 ^ d.val - 1)/\Lib.bitLen (2 * 10 ^ d.val - 1)<=18:=au
 exact h ⟨dg,ae⟩
theorem Xy{lo hi dg u m:Nat}(w:World)(ok:wB lo hi dg u m):Calls Tryz.prog 317 #[.agg #[.int .i64 lo,.int .i64 hi,.int .i64 dg]] w fun e w'=>∃g,e=.returned (.tuple #[.pointer (some ⟨g,0,none⟩),.int .i64 0])/\w.heap.size<=g/\rQ w' g lo hi dg u m/\Below w.heap.size w w':=by
 obtain⟨d0,d1,l0,h0,h1,ue,me,um⟩:=ok;have hmb:=IC d1;have hlb:1<=Lib.bitLen lo:=(OV (x:=lo) (k:=0) ae).2 (by simpa using l0)
 have bf8:Lib.bitLen lo<=63:=(v_ ae).2 ae
 have ac5:10 ^ dg<=100000:=(Nat.pow_le_pow_right ae d1:10 ^ dg<=10 ^ 5)
 have aw3:0<10 ^ dg:=Nat.pow_pos ae
 have CP:=fun w=>aB (Uh dg w d1)
 have C1:=fun w=>aB (qf lo w ae)
 have C2:=fun w=>aB (qf (2 * 10 ^ dg - 1) w ae)
 rw[<-me] at C2 hmb;generalize 10 ^ dg=T at *;generalize Lib.bitLen lo=B at *;obtain⟨N,hN⟩:∃N,2 * T - 1=N:=⟨_,rfl⟩;rw[hN] at C2;obtain rfl:B=u+1:=ae
 have hq:(hi:Int).tdiv 2=(hi:Int) / 2:=Int.tdiv_eq_ediv_of_nonneg ae
 have c1:¬(hi:Int) / 2<(lo:Int):=ae
 have c2:¬(dg:Int)<1:=ae
 have c3:¬(5:Int)<(dg:Int):=ae
 have c4:¬(lo:Int)<1:=ae
 have EV:Hid (IntKind.u64.wrap (lo:Int)=(lo:Int)):=aB (by rw[eH];omega)
 have EU:Hid (IntKind.i64.wrap (u:Int)=(u:Int)):=aB ak
 have ET:Hid (IntKind.u64.wrap (2 * (T:Int))=2 * (T:Int)):=aB (by rw[eH];omega)
 have EN:Hid (IntKind.u64.wrap (2 * (T:Int) - 1)=(N:Int)):=aB (by rw[eH];omega)
 have EN2:Hid (2 * (T:Int) - 1=(N:Int)):=aB ae
 have c5:¬(62:Int)<(u:Int)+(m:Int):=ae
 have EUM:Hid (IntKind.i64.wrap ((u:Int)+(m:Int))=(u:Int)+(m:Int)):=aB ak
 have EN3:Hid (IntKind.u64.wrap (N:Int)=(N:Int)):=aB (by rw[eH];omega)
 clear hN ue me hmb hlb bf8 h0
 go_enter Tryz.func317,Tryz.ntmps317
 go_wp2_with fail;refine((CP _).out).mono ?_
 rintro e w' ⟨rfl,rfl⟩;obtain⟨b,hb⟩:∃b,w.heap.size=b:=⟨_,rfl⟩;obtain⟨w1,hw1⟩:∃w1,w.alloc (.cells #[.int .i64 lo,.int .i64 hi,.int .i64 dg] 32)=w1:=⟨_,rfl⟩;have hb1:Below w.heap.size w w1:=by rw[<-hw1];exact bw
 have B1:Hid (dH w1 b 32 #[.int .i64 lo,.int .i64 hi,.int .i64 dg]):=by rw[<-hw1,<-hb];exact aB (dH.new _ _ _)
 have hbl:=B1.out.lt;have ZH:=aB hb;clear hb;rw[ZH.out,hw1];clear hw1
 go_upto_region 4 with fail;have c5h:=aB c5;clear c1 c2 c3 c4 c5 hq d0 d1 l0 h1 um ac5 aw3 CP;refine dD (Below w1.heap.size w1) [(0,true),(1,true),(2,true),(3,true),(6,true),(7,true),(8,true),(4,false),(5,true),(9,false),(10,true),(11,false),(12,true)] (by kernel_rfl) (by kernel_rfl) ((aH _ _).drew) ?_
 iterate 7
  refine dC ax  ax (fun R hR=>?_)
  apply aJ
  refine⟨fun w' hS'=>?_,?_⟩
  ·have k0:=(B1.out.keep hS').cell 0
   have k1:=(B1.out.keep hS').cell 1;have k2:=(B1.out.keep hS').cell 2;have ev:=EV.out;have eu:=EU.out;have et:=ET.out;have en2:=EN2.out;have en3:=EN3.out;simp only[aF,aC,aG] at k0 k1 k2
   go_simp;exact⟨rfl,rfl⟩
  go_simp;refine hR _ ?_;clear hR R
 refine dE ax  ax (fun K hK=>?_)
 go_simp;refine((C1 w1.drew).out).mono ?_
 rintro e w3 ⟨rfl,rfl⟩;refine hK _ _ ((aH _ _).drew) ?_
 clear hK K
 iterate 1
  refine dC ax  ax (fun R hR=>?_)
  apply aJ
  refine⟨fun w' hS'=>?_,?_⟩
  ·have k0:=(B1.out.keep hS').cell 0
   have k1:=(B1.out.keep hS').cell 1;have k2:=(B1.out.keep hS').cell 2;have ev:=EV.out;have eu:=EU.out;have et:=ET.out;have en2:=EN2.out;have en3:=EN3.out;simp only[aF,aC,aG] at k0 k1 k2
   go_simp;exact⟨rfl,rfl⟩
  go_simp;refine hR _ ?_;clear hR R
 refine dE ax  ax (fun K hK=>?_)
 go_simp;refine((C2 w1.drew).out).mono ?_
 rintro e w3 ⟨rfl,rfl⟩;refine hK _ _ ((aH _ _).drew) ?_
 clear hK K
 iterate 1
  refine dC ax  ax (fun R hR=>?_)
  apply aJ
  refine⟨fun w' hS'=>?_,?_⟩
  ·have k0:=(B1.out.keep hS').cell 0
   have k1:=(B1.out.keep hS').cell 1;have k2:=(B1.out.keep hS').cell 2;have ev:=EV.out;have eu:=EU.out;have et:=ET.out;have en2:=EN2.out;have en3:=EN3.out;simp only[aF,aC,aG] at k0 k1 k2
   go_simp;exact⟨rfl,rfl⟩
  go_simp;refine hR _ ?_;clear hR R
 refine dE ax  ax (fun K hK=>?_)
 go_simp;refine hK _ _ (((aH _ _).drew).alloc (aK _) _) ?_
 clear hK K
 iterate 1
  refine dC ax  ax (fun R hR=>?_)
  apply aJ
  refine⟨fun w' hS'=>?_,?_⟩
  ·have k0:=(B1.out.keep hS').cell 0
   have k1:=(B1.out.keep hS').cell 1;have k2:=(B1.out.keep hS').cell 2;have ev:=EV.out;have eu:=EU.out;have et:=ET.out;have en2:=EN2.out;have en3:=EN3.out;simp only[aF,aC,aG] at k0 k1 k2
   go_simp;exact⟨rfl,rfl⟩
  go_simp;refine hR _ ?_;clear hR R
 refine dF ?_
 have hz1:=hb1.size;obtain⟨w4,hw4⟩:∃w4,(w1.alloc (.cells #[.int .i64 lo,.int .i64 hi,.int .i64 dg,.int .i64 u,.int .i64 m] 342)).drew=w4:=⟨_,rfl⟩;have hb4:Below w1.heap.size w1 w4:=by rw[<-hw4];exact((aH _ _).alloc (aK _) _).drew
 have B4:rQ w4 w1.heap.size lo hi dg u m:=by unfold rQ;rw[<-hw4];exact(dH.new _ _ _:dH (w1.alloc _) _ _ _).drew
 go_upto_region 5 with fail;have k3:=dH.cell B4 3;have k4:=dH.cell B4 4;simp only[aF,aC,aG] at k3 k4;have c5:=c5h.out;have eum:=EUM.out
 go_quiet (fail)
 go_wp2_with fail
 go_ret2
 subst hw4;exact⟨_,rfl,hz1,dH.drewN B4 _,below_drewN (hb1.trans (hb4.mono hz1)) _⟩
open Go.RowKit Go.Lib Go.Shelf
theorem Ui{lo B j:Nat}(hl:1<=lo)(h63:lo<9223372036854775808)(hB:B=Lib.bitLen lo - 1)(h:j<=B):(1<lo / 2 ^ j<->j<B):=by
 have hp:=Nat.two_pow_pos j;have e:1<lo / 2 ^ j<->2 ^ (j+1)<=lo:=by
  rw[Nat.lt_iff_add_one_le,Nat.le_div_iff_mul_le hp,Nat.pow_succ,cZ (2 ^ j)]
 rw[e,<-OV ae]
 omega
theorem Xz{N M j:Nat}(h:N<18446744073709551616)(hM:M=Lib.bitLen N)(hj:j<=M):(2 ^ j<N+1<->j<M):=by
 rw[hM,OV h];omega
theorem OY{lo hi dg u m:Nat}(w:World)(ok:wB lo hi dg u m):Calls Tryz.prog 74 #[.agg #[.int .i64 lo,.int .i64 hi,.int .i64 dg]] w fun e w'=>e=.returned (.tuple #[.int .i64 u,.int .i64 m,.bool true])/\Below w.heap.size w w':=by
 obtain⟨d0,d1,l0,h0,h1,ue,me,um⟩:=ok;have hmb:=IC d1;rw[<-me] at hmb;have hT:∀j,j<=5->0<10 ^ j/\10 ^ j<=100000:=fun j h=>⟨Nat.pow_pos ae,(Nat.pow_le_pow_right ae h:10 ^ j<=10 ^ 5)⟩
 have HT:=aB hT;have ac5:=hT dg d1;have HU:Hid (∀j,j<=u->(1<lo / 2 ^ j<->j<u)):=aB (fun j h=>Ui l0 ae ue h)
 have HM:Hid (∀j,j<=m->(2 ^ j<2 * 10 ^ dg<->j<m)):=aB (fun j h=>by
  have:=Xz (N:=2 * 10 ^ dg - 1) (j:=j) (by omega) me h
  rw[show 2 * 10 ^ dg - 1+1=2 * 10 ^ dg by omega] at this
  exact this)
 have c1:¬(hi:Int)<(lo:Int):=ae
 have c6:IntKind.i64.wrap ((hi:Int) - (lo:Int))=(hi:Int) - (lo:Int):=ak
 have c7:¬(hi:Int) - (lo:Int)<(lo:Int):=ae
 have c2:¬(dg:Int)<1:=ae
 have c3:¬(5:Int)<(dg:Int):=ae
 have c4:¬(lo:Int)<1:=ae
 clear hT ue me
 go_enter Tryz.func74,Tryz.ntmps74
 go_wp2_with fail;obtain⟨b,hb⟩:∃b,w.heap.size=b:=⟨_,rfl⟩;obtain⟨w1,hw1⟩:∃w1,w.alloc (.cells #[.int .i64 lo,.int .i64 hi,.int .i64 dg] 32)=w1:=⟨_,rfl⟩;have hb1:Below w.heap.size w w1:=by rw[<-hw1];exact bw
 have B1:Hid (dH w1 b 32 #[.int .i64 lo,.int .i64 hi,.int .i64 dg]):=by rw[<-hw1,<-hb];exact aB (dH.new _ _ _)
 rw[hb,hw1];have k2:=B1.out.cell 2;simp only[aF,aC,aG] at k2;clear hw1 hb c1 c2 c3 c4 c6 c7
 go_loopg [5,6] u (fun q x y wr=>(∃j:Nat,q=u - j/\j<=u/\x=.int .i64 j/\y=.int .i64 ((lo / 2 ^ j:Nat):Int))/\w1=wr)
 case atStart=>exact⟨⟨0,ae,ae,rfl,ag⟩,rfl⟩
 case round=>
  obtain⟨⟨j,hq,hj,rfl,rfl⟩,rfl⟩:=hrel;have HQ:=aB hq;clear hq;have hs:=HU.out j hj;have HN:Hid (lo / 2 ^ j / 2=lo / 2 ^ (j+1)):=aB (by rw[Nat.div_div_eq_div_mul,Nat.pow_succ])
  have hnl:lo / 2 ^ j<=lo:=Nat.div_le_self ..;generalize lo / 2 ^ j=n at *
  by_cases hlt:j<u
  ·have hn:(1:Int)<(n:Int):=by have:=hs.2 hlt;omega
   have hdv:(n:Int).tdiv 2=(n:Int) / 2:=Int.tdiv_eq_ediv_of_nonneg ae
   have hn9:n<9223372036854775808:=ae
   go_wp2_with fail
   go_roundg (u - (j+1))
   case measure=>have:=HQ.out;omega
   case rel=>exact⟨⟨j+1,rfl,ae,ai,by rw[<-HN.out];simp⟩,rfl⟩
  ·obtain rfl:j=u:=ae
   have hn:¬(1:Int)<(n:Int):=fun h=>by have:=hs.1 ae ;omega
   clear hs HN HU hnl
   go_wp2_with fail
   go_loopg [7,8] dg (fun q x y wr=>(∃i:Nat,q=dg - i/\i<=dg/\y=.int .i64 i/\x=.int .u64 ((2 * 10 ^ i:Nat):Int))/\w1=wr)
   case atStart=>exact⟨⟨0,ae,ae,rfl,rfl⟩,rfl⟩
   case round=>
    obtain⟨⟨i,hq,hi2,rfl,rfl⟩,rfl⟩:=hrel;have JP:=aB hq;clear hq
    by_cases hlt2:i<dg
    ·have hii:(i:Int)<(dg:Int):=ae
     have hp:=HT.out i ae
     have HS:Hid (2 * 10 ^ (i+1)=10 * (2 * 10 ^ i)):=aB (by rw[Nat.pow_succ];omega)
     obtain⟨P,hP⟩:∃P,2 * 10 ^ i=P:=⟨_,rfl⟩;have hPb:0<P/\P<=200000:=ae
     rw[hP] at HS |-;clear hp hP ac5
     go_wp2_with fail
     go_roundg (dg - (i+1))
     case measure=>have:=JP.out;omega
     case rel=>exact⟨⟨i+1,rfl,ae,ai,by rw[HS.out];go_num⟩,rfl⟩
    ·obtain rfl:i=dg:=ae
     obtain⟨N,hN⟩:∃N,2 * 10 ^ i=N:=⟨_,rfl⟩;rw[hN] at HM |-;have hNb:N<=200000:=ae
     clear hN ac5
     go_wp2_with fail
     go_loopg [9,10] m (fun q x y wr=>(∃t:Nat,q=m - t/\t<=m/\x=.int .i64 t/\y=.int .u64 ((2 ^ t:Nat):Int))/\w1=wr)
     case atStart=>exact⟨⟨0,ae,ae,rfl,rfl⟩,rfl⟩
     case round=>
      obtain⟨⟨t,hq,ht,rfl,rfl⟩,rfl⟩:=hrel;have HQ3:=aB hq;clear hq;have hs:=HM.out t ht;have h18:2 ^ t<=262144:=(pV ae :2 ^ t<=2 ^ 18)
      have HS:Hid (2 ^ (t+1)=2 * 2 ^ t):=aB (by rw[Nat.pow_succ];omega)
      generalize 2 ^ t=P at *
      by_cases hlt3:t<m
      ·have hPN:(P:Int)<(N:Int):=by have:=hs.2 hlt3;omega
       go_wp2_with fail
       go_roundg (m - (t+1))
       case measure=>have:=HQ3.out;omega
       case rel=>exact⟨⟨t+1,rfl,ae,ai,by rw[HS.out];go_num⟩,rfl⟩
      ·obtain rfl:t=m:=ae
       have hPN:¬(P:Int)<(N:Int):=fun h=>by have:=hs.1 ae ;omega
       have hum:(j:Int)+(t:Int)<=62:=ae
       have ew:IntKind.i64.wrap ((j:Int)+(t:Int))=(j:Int)+(t:Int):=ak
       go_wp2_with fail;refine bodyPost_ret (by simp[results,Tryz.results74,go_sem, *];try rfl) rfl ?_
       exact⟨rfl,hb1⟩
open Go.RowKit Go.Lib Go.Shelf
def qw(y lo hi dg u m:Nat)(gr:Bool)(bk:Nat)(l:List Pr)(F:Ft)(w:World):Prop:=∃v,dH w y 163 #[.int .i64 lo,.int .i64 hi,.int .i64 dg,.int .i64 u,.int .i64 m,.bool gr,.int .i64 bk,v]/\dI fU 0 w v l/\F y/\(∀k,v.ownBlock=some k->F k)/\∀k,F k->k<w.heap.size
theorem oC(y lo hi dg u m:Nat)(gr:Bool)(bk:Nat)(l:List Pr):mQ (qw y lo hi dg u m gr bk l) where
 stay:=fun⟨v,h1,h2,h3,h4,h5⟩ hk hz=>⟨v,(hk y h3).trans h1,h2.stay fun k e=>hk k (h4 k e),h3,h4,fun k h=>aU (h5 k h) hz⟩
 more:=fun⟨v,h1,h2,h3,h4,_⟩ h hl=>⟨v,h1,h2,h y h3,fun k e=>h k (h4 k e),hl⟩
 low:=fun⟨_,_,_,_,_,h5⟩=>h5
theorem ac6{lo hi dg u m:Nat}(gr:Bool)(w:World)(ok:wB lo hi dg u m):Calls Tryz.prog 79 #[.agg #[.int .i64 lo,.int .i64 hi,.int .i64 dg],.bool gr] w fun e w'=>∃y,e=.returned (.pointer (some ⟨y,0,none⟩))/\qw y lo hi dg u m gr (1+jL u m hi) [] (Gr (fun _=>False) w w') w'/\Below w.heap.size w w':=by
 have C1:Hid (∀w,_):=aB (fun w=>OY w ok)
 have C2:Hid (∀w,_):=aB (fun w=>pG u m hi w ok.um (by have:=ok.h1;omega))
 have HM:=lH (u:=u) (m:=m) (v:=hi) (by have:=ok.h1;omega)
 have hb:jL u m hi<=63:=by have:=ok.um;omega
 generalize jL u m hi=bk at *;clear ok HM
 go_enter Tryz.func79,Tryz.ntmps79
 go_wp2_with fail;obtain⟨b,hbb⟩:∃b,w.heap.size=b:=⟨_,rfl⟩;obtain⟨w1,hw1⟩:∃w1,w.alloc (.cells #[.int .i64 lo,.int .i64 hi,.int .i64 dg] 32)=w1:=⟨_,rfl⟩;have hb1:Below w.heap.size w w1:=by rw[<-hw1];exact bw
 have B1:Hid (dH w1 b 32 #[.int .i64 lo,.int .i64 hi,.int .i64 dg]):=by rw[<-hw1,<-hbb];exact aB (dH.new _ _ _)
 have o_:=aB hbb;rw[hw1,hbb];clear hw1 hbb;refine(C1.out w1).mono ?_
 rintro e w2 ⟨rfl,hb2⟩;have B2:=aB (B1.out.keep hb2);have pO:=hb1.trans (hb2.mono hb1.size);have hz:=pO.size;have k0:=B2.out.cell 0;have k1:=B2.out.cell 1;have k2:=B2.out.cell 2;simp only[aF,aC,aG] at k0 k1 k2
 go_wp2_with fail;clear k0 k1 k2;refine dD (Below w2.heap.size w2) [(0,true),(1,true),(2,true),(3,true),(4,true),(5,true),(6,true),(7,true),(8,false),(9,true),(10,true),(11,false),(12,true)] (by kernel_rfl) (by kernel_rfl) ((aH _ _).drew) ?_
 iterate 8
  refine dC ax  ax (fun R hR=>?_)
  apply aJ
  refine⟨fun w' hS'=>?_,?_⟩
  ·have k0:=(B2.out.keep hS').cell 0
   have k1:=(B2.out.keep hS').cell 1;have k2:=(B2.out.keep hS').cell 2;simp only[aF,aC,aG] at k0 k1 k2
   go_simp;exact⟨rfl,rfl⟩
  go_simp;refine hR _ ?_;clear hR R
 refine dE ax  ax (fun K hK=>?_)
 go_simp;refine((C2.out w2.drew)).mono ?_
 rintro e w3 ⟨rfl,rfl⟩;refine hK _ _ ((aH _ _).drew) ?_
 clear hK K
 iterate 2
  refine dC ax  ax (fun R hR=>?_)
  apply aJ
  refine⟨fun w' hS'=>?_,?_⟩
  ·have k0:=(B2.out.keep hS').cell 0
   have k1:=(B2.out.keep hS').cell 1;have k2:=(B2.out.keep hS').cell 2;simp only[aF,aC,aG] at k0 k1 k2
   go_simp;exact⟨rfl,rfl⟩
  go_simp;refine hR _ ?_;clear hR R
 refine dE ax  ax (fun K hK=>?_)
 go_simp;refine hK _ _ (((aH _ _).drew).alloc (aK _) _) ?_
 clear hK K
 iterate 1
  refine dC ax  ax (fun R hR=>?_)
  apply aJ
  refine⟨fun w' hS'=>?_,?_⟩
  ·have k0:=(B2.out.keep hS').cell 0
   have k1:=(B2.out.keep hS').cell 1;have k2:=(B2.out.keep hS').cell 2;simp only[aF,aC,aG] at k0 k1 k2
   go_simp;exact⟨rfl,rfl⟩
  go_simp;refine hR _ ?_;clear hR R
 refine dF ?_
 go_wp2_with fail
 go_ret;have ew:IntKind.i64.wrap (1+(bk:Int))=((1+bk:Nat):Int):=ak
 rw[ew];obtain⟨w5,hw5⟩:∃w5,(w2.alloc (.cells #[.int .i64 lo,.int .i64 hi,.int .i64 dg,.int .i64 u,.int .i64 m,.bool gr,.int .i64 ((1+bk:Nat):Int),.slice none 0 0] 163)).drew=w5:=⟨_,rfl⟩;have hb5:Below w2.heap.size w2 w5:=by rw[<-hw5];exact((aH _ _).alloc (aK _) _).drew
 have B5:dH w5 w2.heap.size 163 #[.int .i64 lo,.int .i64 hi,.int .i64 dg,.int .i64 u,.int .i64 m,.bool gr,.int .i64 ((1+bk:Nat):Int),.slice none 0 0]:=by rw[<-hw5];exact(dH.new _ _ _:dH (w2.alloc _) _ _ _).drew
 have hl5:=B5.lt;rw[hw5];exact⟨_,rfl,⟨_,B5,dI.nil_ _ _,.inr ⟨hz,hl5⟩,(fun k e=>by cases e),fun k h=>h.elim False.elim And.right⟩,pO.trans (hb5.mono hz)⟩
open Go.RowKit Go.Lib Go.Shelf
def ig(u m hi bk:Nat):Nat:=if bk=1+jL u m hi then hi else qp u m bk
theorem Uj{y lo hi dg u m bk:Nat}{gr:Bool}{l:List Pr}{F:Ft}(w:World)(h:qw y lo hi dg u m gr bk l F w)(ok:wB lo hi dg u m)(b0:1<=bk)(b1:bk<=64):Calls Tryz.prog 86 #[.pointer (some ⟨y,0,none⟩)] w fun e w'=>e=.returned (.int .i64 (ig u m hi bk))/\Below w.heap.size w w':=by
 have HE:Hid (ig u m hi bk=if bk=1+jL u m hi then hi else qp u m bk):=aB rfl
 rw[HE.out];have C1:Hid (∀w,_):=aB (fun w=>pG u m hi w ok.um (by have:=ok.h1;omega))
 have C2:Hid (∀w,_):=aB (fun w=>KI u m bk w ok.um b0 b1)
 have HM:=lH (u:=u) (m:=m) (v:=hi) (by have:=ok.h1;omega)
 have hb:jL u m hi<=63:=by have:=ok.um;omega
 obtain⟨v,hB,_⟩:=h;have HB:=aB hB;generalize jL u m hi=B at *;generalize qp u m bk=T at *;have EW:Hid (IntKind.i64.wrap (1+(B:Int))=((1+B:Nat):Int)):=aB ak
 have k1':=hB.cell 1;simp only[aF,aC,aG] at k1';clear ok HM hB HE;obtain⟨N,hN⟩:∃N,1+B=N:=⟨_,rfl⟩;rw[hN] at EW |-;clear hN
 by_cases he:bk=N
 ·subst he
  rw[if_pos rfl];have hd:((bk:Int) == (bk:Int))=true:=ag
  go_enter Tryz.func86,Tryz.ntmps86
  go_wp2_with fail;refine dD (Below w.heap.size w) [(0,true),(1,true),(2,true),(3,true),(4,true),(5,true),(6,true),(7,true),(8,true),(9,true),(10,true),(11,true),(12,true),(13,true),(14,true),(15,true),(16,true),(17,false),(18,true),(19,true)] (by kernel_rfl) (by kernel_rfl) ((aH _ _).drew) ?_
  iterate 17
   refine dC ax  ax (fun R hR=>?_)
   apply aJ
   refine⟨fun w' hS'=>?_,?_⟩
   ·have k1:=(HB.out.keep hS').cell 1
    have k3:=(HB.out.keep hS').cell 3;have k4:=(HB.out.keep hS').cell 4;have k6:=(HB.out.keep hS').cell 6;have ew:=EW.out;simp only[aF,aC,aG] at k1 k3 k4 k6
    go_simp;exact⟨rfl,rfl⟩
   go_simp;refine hR _ ?_;clear hR R
  refine dE ax  ax (fun K hK=>?_)
  go_simp;refine((C1.out w.drew)).mono ?_
  rintro e w3 ⟨rfl,rfl⟩;refine hK _ _ ((aH _ _).drew) ?_
  clear hK K
  iterate 2
   refine dC ax  ax (fun R hR=>?_)
   apply aJ
   refine⟨fun w' hS'=>?_,?_⟩
   ·have k1:=(HB.out.keep hS').cell 1
    have k3:=(HB.out.keep hS').cell 3;have k4:=(HB.out.keep hS').cell 4;have k6:=(HB.out.keep hS').cell 6;have ew:=EW.out;simp only[aF,aC,aG] at k1 k3 k4 k6
    go_simp;exact⟨rfl,rfl⟩
   go_simp;refine hR _ ?_;clear hR R
  refine dF ?_
  have k1:=(HB.out.drew).cell 1;simp only[aF,aC,aG] at k1
  go_wp2_with fail
  go_ret;exact⟨rfl,(aH _ _).drew⟩
 ·rw[if_neg he]
  have hd:((bk:Int) == (N:Int))=false:=ah
  go_enter Tryz.func86,Tryz.ntmps86
  go_wp2_with fail;refine dD (Below w.heap.size w) [(0,true),(1,true),(2,true),(3,true),(4,true),(5,true),(6,true),(7,true),(8,true),(9,true),(10,true),(11,true),(12,true),(13,true),(14,true),(15,true),(16,true),(17,false),(18,true),(19,true)] (by kernel_rfl) (by kernel_rfl) ((aH _ _).drew) ?_
  iterate 17
   refine dC ax  ax (fun R hR=>?_)
   apply aJ
   refine⟨fun w' hS'=>?_,?_⟩
   ·have k1:=(HB.out.keep hS').cell 1
    have k3:=(HB.out.keep hS').cell 3;have k4:=(HB.out.keep hS').cell 4;have k6:=(HB.out.keep hS').cell 6;have ew:=EW.out;simp only[aF,aC,aG] at k1 k3 k4 k6
    go_simp;exact⟨rfl,rfl⟩
   go_simp;refine hR _ ?_;clear hR R
  refine dE ax  ax (fun K hK=>?_)
  go_simp;refine((C1.out w.drew)).mono ?_
  rintro e w3 ⟨rfl,rfl⟩;refine hK _ _ ((aH _ _).drew) ?_
  clear hK K
  iterate 2
   refine dC ax  ax (fun R hR=>?_)
   apply aJ
   refine⟨fun w' hS'=>?_,?_⟩
   ·have k1:=(HB.out.keep hS').cell 1
    have k3:=(HB.out.keep hS').cell 3;have k4:=(HB.out.keep hS').cell 4;have k6:=(HB.out.keep hS').cell 6;have ew:=EW.out;simp only[aF,aC,aG] at k1 k3 k4 k6
    go_simp;exact⟨rfl,rfl⟩
   go_simp;refine hR _ ?_;clear hR R
  refine dF ?_
  go_wp2_with fail;refine dD (Below w.heap.size w) [(0,true),(1,true),(2,true),(3,true),(4,true),(5,true),(6,true),(7,true),(8,true),(9,true),(10,true),(11,true),(12,false),(13,true)] (by kernel_rfl) (by kernel_rfl) ((aH _ _).drew.drew) ?_
  iterate 12
   refine dC ax  ax (fun R hR=>?_)
   apply aJ
   refine⟨fun w' hS'=>?_,?_⟩
   ·have k3:=(HB.out.keep hS').cell 3
    have k4:=(HB.out.keep hS').cell 4;have k6:=(HB.out.keep hS').cell 6;simp only[aF,aC,aG] at k3 k4 k6
    go_simp;exact⟨rfl,rfl⟩
   go_simp;refine hR _ ?_;clear hR R
  refine dE ax  ax (fun K hK=>?_)
  go_simp;refine((C2.out w.drew.drew)).mono ?_
  rintro e w3 ⟨rfl,rfl⟩;refine hK _ _ ((aH _ _).drew.drew) ?_
  clear hK K
  iterate 1
   refine dC ax  ax (fun R hR=>?_)
   apply aJ
   refine⟨fun w' hS'=>?_,?_⟩
   ·have k3:=(HB.out.keep hS').cell 3
    have k4:=(HB.out.keep hS').cell 4;have k6:=(HB.out.keep hS').cell 6;simp only[aF,aC,aG] at k3 k4 k6
    go_simp;exact⟨rfl,rfl⟩
   go_simp;refine hR _ ?_;clear hR R
  refine dF ?_
  go_wp2_with fail
  go_ret;exact⟨rfl,(aH _ _).drew.drew⟩
open Go.Lib
structure jo(lo hi dg u m:Nat)(gr:Bool)(bk:Nat)(l:List Pr):Prop where
 sh:wB lo hi dg u m
 gY:iD l
 pos:gQ l
 sum:tot l<=4611686018427387904
 key:∀p∈l,∃v:Nat,v<9223372036854775808/\p.1=AV u m v/\1+jL u m v<=bk
 fst:1+jL u m hi<=bk
 mx:bk=1+jL u m hi\/∃p∈l,∃v:Nat,v<9223372036854775808/\p.1=AV u m v/\bk=1+jL u m v
 grw:gr=false->bk=1+jL u m hi
section
variable {lo hi dg u m bk : Nat} {gr : Bool} {l : List Pr}
theorem wB.mb(h:wB lo hi dg u m):1<=m/\m<=18:=by rw[h.me];exact IC h.d1
theorem ai8{v:Nat}(h:wB lo hi dg u m)(hv:v<9223372036854775808):AV u m v<=16777216:=by
 have h1:=Xx (u:=u) (m:=m) (v:=v) ae
 have hb:=lH (u:=u) (m:=m) hv;have hm:=h.mb;have h2:2 ^ m<=262144:=(Nat.pow_le_pow_right ae hm.2:2 ^ m<=2 ^ 18)
 have h3:2 ^ (m - 1)<=131072:=(Nat.pow_le_pow_right ae  ae :2 ^ (m - 1)<=2 ^ 17)
 have h4:jL u m v * 2 ^ (m - 1)<=63 * 131072:=Nat.mul_le_mul ae h3
 unfold AV;omega
theorem jo.b0(h:jo lo hi dg u m gr bk l):1<=bk:=by have:=h.fst;omega
theorem jo.b1(h:jo lo hi dg u m gr bk l):bk<=64:=by
 have h0:=h.sh.um;have h2:=lH (u:=u) (m:=m) (v:=hi) (by have:=h.sh.h1;omega)
 rcases h.mx with e|⟨p,_,v,hv,_,e⟩
 ·omega
 ·have h1:=lH (u:=u) (m:=m) hv;omega
theorem jo.kb(h:jo lo hi dg u m gr bk l):∀p∈l,0<=p.1/\p.1<=16777216:=fun p hp=>by
 obtain⟨v,hv,e,_⟩:=h.key p hp;have:=ai8 h.sh hv;omega
theorem jo.len(h:jo lo hi dg u m gr bk l):l.length<=16777217:=by
 have:=Iz h.gY h.kb ae
 omega
def hsE(u m:Nat)(gr:Bool)(bk:Nat)(l:List Pr)(v n:Int):Int:=if n=0 then 4 else if v<0 then 5 else if gr=false/\(qp u m bk:Int)<v then 5 else if 4611686018427387904<tot l+n then 6 else 0
def hsL(u m:Nat)(gr:Bool)(bk:Nat)(l:List Pr)(v n:Int):List Pr:=if hsE u m gr bk l v n=0 then eQ (AV u m v.toNat) n l else l
def hsB(u m:Nat)(gr:Bool)(bk:Nat)(l:List Pr)(v n:Int):Nat:=if hsE u m gr bk l v n=0 then max bk (1+jL u m v.toNat) else bk
theorem an2(h:wB lo hi dg u m):jo lo hi dg u m gr (1+jL u m hi) []:=⟨h,List.Pairwise.nil,ag,by simp[tot],ag,aK _,.inl rfl,fun _=>rfl⟩
theorem an3{v n:Nat}(hv:v<9223372036854775808)(h0:1<=n)(h:v<=qp u m n):1+jL u m v<=n:=by
 have h1:=lH (u:=u) (m:=m) hv;unfold qp at h
 split at h
 ·omega
 ·have:jL u m v<=n - 1:=(ai7 ae).2 (by
   rw[show u+m+(n - 1)=n - 1+u+m by omega]
   have:=Nat.two_pow_pos (n - 1+u+m);omega)
  omega
theorem an4{v n:Int}(h:jo lo hi dg u m gr bk l)(v1:v<=9223372036854775807)(n0:0<=n):jo lo hi dg u m gr (hsB u m gr bk l v n) (hsL u m gr bk l v n):=by
 unfold hsB hsL
 by_cases he:hsE u m gr bk l v n=0
 ·rw[if_pos he,if_pos he]
  unfold hsE at he
  by_cases a1:n=0
  ·rw[if_pos a1] at he;omega
  by_cases a2:v<0
  ·rw[if_neg a1,if_pos a2] at he;omega
  by_cases a3:gr=false/\(qp u m bk:Int)<v
  ·rw[if_neg a1,if_neg a2,if_pos a3] at he;omega
  by_cases a4:4611686018427387904<tot l+n
  ·rw[if_neg a1,if_neg a2,if_neg a3,if_pos a4] at he;omega
  obtain⟨x,rfl⟩:=Int.eq_ofNat_of_zero_le (a:=v) ae
  have hx:x<9223372036854775808:=ae
  simp only[bY];refine⟨h.sh,Az h.gY,put_pos ae h.pos,by rw[uy];omega,fun p hp=>?_,by have:=h.fst;omega,?_,fun hg=>?_⟩
  ·rcases put_mem hp with e|hp
   ·exact⟨x,hx,e,ae⟩
   ·obtain⟨y,hy,e,hb⟩:=h.key p hp
    exact⟨y,hy,e,ae⟩
  ·have hkk:=mO (put_pos (k:=(AV u m x:Int)) (n:=n) ae h.pos)
   rcases Nat.le_total (1+jL u m x) bk with hle|hle
   ·rw[Nat.max_eq_left hle]
    rcases h.mx with e|⟨p,hp,y,hy,e1,e2⟩
    ·exact .inl e
    ·refine .inr ?_
     have hc:=vS h.pos hp;obtain⟨q,hq,eq⟩:=(hkk p.1).2 (by rw[yR];split<;>omega)
     exact⟨q,hq,y,hy,eq.trans e1,e2⟩
   ·rw[Nat.max_eq_right hle]
    refine .inr ?_
    have hc:=iY (k:=(AV u m x:Int)) h.pos;obtain⟨q,hq,eq⟩:=(hkk (AV u m x:Int)).2 (by rw[yR,if_pos rfl];omega)
    exact⟨q,hq,x,hx,eq,rfl⟩
  ·have hb:=h.grw hg
   have ht:x<=qp u m bk:=by
    rcases bJ (qp u m bk) x with hh|hh
    ·exact absurd ⟨hg,ae⟩ a3
    ·exact hh
   have:=an3 hx h.b0 ht;omega
 ·rw[if_neg he,if_neg he];exact h
def OZ(l t:List Pr):Int:=if 4611686018427387904<tot l+tot t then 6 else 0
def htL(l t:List Pr):List Pr:=if OZ l t=0 then fA l t else l
def htB(l t:List Pr)(bk bt:Nat):Nat:=if OZ l t=0 then max bk bt else bk
theorem ac7{bt:Nat}{t:List Pr}(h:jo lo hi dg u m gr bk l)(k:jo lo hi dg u m gr bt t):jo lo hi dg u m gr (htB l t bk bt) (htL l t):=by
 unfold htB htL
 by_cases he:OZ l t=0
 ·rw[if_pos he,if_pos he]
  have hs:¬4611686018427387904<tot l+tot t:=fun hh=>by unfold OZ at he;rw[if_pos hh] at he;omega
  have hk:=AO h.pos k.pos;refine⟨h.sh,lM h.gY,kF h.pos k.pos,by rw[nG];omega,fun p hp=>?_,by have:=h.fst;omega,?_,fun hg=>?_⟩
  ·rcases(hk p.1).1 ⟨p,hp,rfl⟩ with⟨q,hq,e⟩|⟨q,hq,e⟩
   ·obtain⟨y,hy,e1,hb⟩:=h.key q hq
    exact⟨y,hy,e.symm.trans e1,ae⟩
   ·obtain⟨y,hy,e1,hb⟩:=k.key q hq
    exact⟨y,hy,e.symm.trans e1,ae⟩
  ·rcases Nat.le_total bt bk with hle|hle
   ·rw[Nat.max_eq_left hle]
    rcases h.mx with e|⟨p,hp,y,hy,e1,e2⟩
    ·exact .inl e
    ·obtain⟨q,hq,e⟩:=(hk p.1).2 (.inl ⟨p,hp,rfl⟩)
     exact .inr ⟨q,hq,y,hy,e.trans e1,e2⟩
   ·rw[Nat.max_eq_right hle]
    rcases k.mx with e|⟨p,hp,y,hy,e1,e2⟩
    ·exact .inl e
    ·obtain⟨q,hq,e⟩:=(hk p.1).2 (.inr ⟨p,hp,rfl⟩)
     exact .inr ⟨q,hq,y,hy,e.trans e1,e2⟩
  ·have:=h.grw hg
   have:=k.grw hg;omega
 ·rw[if_neg he,if_neg he];exact h
end
end Go.Proofs.YtkiebccnpheloaaGreat.D
