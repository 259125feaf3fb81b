/- Parts of a proof. No condition. -/
import Derived.Test.YtilcnjbpmoijmaaGreatPw12
import Derived.Test.YtilcnjbpmoijmaaGreatPw13
set_option maxRecDepth 100000
set_option maxHeartbeats 16000000
set_option linter.unusedVariables false
set_option linter.unusedSimpArgs false
namespace Go.Proofs.YtilcnjbpmoijmaaGreat.D
open Tryz
open Go.RowKit
variable{a low n:Nat}{acc:List Sp}
def fZ:DN Pr where
 k:=2
 t:=178
 enc x:=[.int .i64 x.1,.int .u64 x.2]
 len _:=rfl
 one x u hu:=by
  simp only[bn,List.not_mem_nil,or_false] at hu
  rcases hu with rfl|rfl<;>rfl
def YK(t:TypeId):DN Sp where
 k:=3
 t:=t
 enc x:=[.int .i64 x.low,.int .i64 x.mid,.int .i64 x.high]
 len _:=rfl
 one x u hu:=by
  simp only[bn,List.not_mem_nil,or_false] at hu
  rcases hu with rfl|rfl|rfl<;>rfl
def spV(s:Sp):Value:=.agg #[.int .i64 s.low,.int .i64 s.mid,.int .i64 s.high]
theorem spI:(prog.info? 352).map (fun i=>(i.zero,i.size,i.bytes))=some (some (.agg #[.int .i64 0,.int .i64 0,.int .i64 0]),3,24):=by kernel_rfl
theorem prI:(prog.info? 178).map (fun i=>(i.zero,i.size,i.bytes))=some (some (.agg #[.int .i64 0,.int .u64 0]),2,16):=by kernel_rfl
theorem bw1:(prog.info? 233).map (fun i=>(i.zero,i.size,i.bytes))=some (some (.agg #[.int .i64 0,.int .i64 0,.int .i64 0]),3,24):=by kernel_rfl
theorem NR(n:Int)(w:World)(h0:0<=n)(h1:n<18446744073709551616):aH 408 #[.int .u64 n,.int .i64 0] w fun e w'=>e=.returned (.int .i64 (min 9223372036854775807 n))/\w=w':=by
 by_cases h:n > 9223372036854775807
 ·rw[show min 9223372036854775807 n=9223372036854775807 by omega]
  go_enter func408,ntmps408
  go_wp2_with fail
  go_ret;exact⟨rfl,rfl⟩
 ·rw[show min 9223372036854775807 n=n by omega]
  go_enter func408,ntmps408
  go_wp2_with fail
  go_ret;exact⟨rfl,rfl⟩
theorem FU(n:Int)(w:World)(h0:0<=n)(h1:n<18446744073709551616):aH 231 #[.int .u64 n,.bool true] w fun e w'=>e=.returned (.int .i64 (min 9223372036854775807 n))/\w=w':=by
 by_cases h:n > 9223372036854775807
 ·rw[show min 9223372036854775807 n=9223372036854775807 by omega]
  go_enter func231,ntmps231
  go_wp2_with fail
  go_ret;exact⟨rfl,rfl⟩
 ·rw[show min 9223372036854775807 n=n by omega]
  go_enter func231,ntmps231
  go_wp2_with fail
  go_ret;exact⟨rfl,rfl⟩
structure bw2(a low:Nat)(x m y:Int):Prop where
 x0:0<=x
 x1:x<=9223372036854775807
 xe:x=(low:Int) * (a:Int) / 10000
 m0:0<=m
 m1:m<=9223372036854775807
 me:m=min 9223372036854775807 ((low:Int)+x)
 y0:0<=y
 y1:y<18446744073709551616
 ye:y=m * 10000 / (10000 - (a:Int))
 sp:qE a low=⟨low,m,min 9223372036854775807 y⟩
theorem ax1(hb:a<=5000)(h:low<=9223372036854775807):∃x m y,bw2 a low x m y:=by
 have e1:(low:Int) * (a:Int) / 10000=((low * a / 10000:Nat):Int):=by rw[<-Int.natCast_mul];omega
 have hx:low * a / 10000<=9223372036854775807:=by
  have:low * a<=9223372036854775807 * 5000:=Nat.mul_le_mul h hb;omega
 obtain⟨q,hq⟩:∃q,q=low * a / 10000:=⟨_,rfl⟩;obtain⟨M,hM⟩:∃M,M=min 9223372036854775807 (low+q):=⟨_,rfl⟩;rw[<-hq] at hx e1;have hM1:M<=9223372036854775807:=ae
 have e2:(M:Int) * 10000 / (10000 - (a:Int))=((M * 10000 / (10000 - a):Nat):Int):=by
  rw[show(10000:Int) - (a:Int)=((10000 - a:Nat):Int) by omega,show(M:Int) * 10000=((M * 10000:Nat):Int) by omega];rfl
 have hy:M * 10000 / (10000 - a)<18446744073709551616:=by
  rw[Nat.div_lt_iff_lt_mul ae]
  have:18446744073709551616 * 5000<=18446744073709551616 * (10000 - a):=Nat.mul_le_mul_left _ ae
  omega
 obtain⟨y,hye⟩:∃y,y=M * 10000 / (10000 - a):=⟨_,rfl⟩;rw[<-hye] at hy e2;refine⟨(q:Int),(M:Int),(y:Int),ae,ae,e1.symm,ae,ae,ae,ae,ae,e2.symm,?_⟩
 unfold qE hiN;rw[<-hq,<-hM,<-hye]
 congr 1
 omega
theorem ZF(b a low:Nat)(v:Value)(w:World)(hb:dK w b 321 #[.int .i64 a,v])(h1:a<=5000)(h2:low<=9223372036854775807) :
 aH 335 #[.pointer (some ⟨b,0,none⟩),.int .i64 low] w (aG w (spV (qE a low))):=by
 obtain⟨x,m,y,x0,x1,xe,m0,m1,me,y0,y1,ye,sp⟩:=ax1 (low:=low) h1 h2;rw[sp];have k0:=hb.cell 0;simp only[aK,aJ] at k0;have hbl:=hb.lt;have hlx:(low:Int)+x<18446744073709551616:=ae
 have c1:=fun w:World=>xI (low:Int) (a:Int) 10000 w ae  ae  ae  ae  ae  ae (by rw[<-xe];omega)
 have c2:=fun w:World=>xI m 10000 (10000 - (a:Int)) w m0 ae  ae  ae  ae  ae (by rw[<-ye];exact y1)
 have c3:=fun w:World=>NR ((low:Int)+x) w ae  ae
 have c4:=fun w:World=>NR y w y0 y1
 rw[<-xe] at c1;rw[<-ye] at c2;rw[<-me] at c3;have C1:=aI c1;have C2:=aI c2;have C3:=aI c3;have C4:=aI c4;clear c1 c2 c3 c4 xe ye me sp hb
 go_enter func335,ntmps335
 go_wp2_with fail;have R0:=aI (dK.new w 352 #[.int .i64 0,.int .i64 0,.int .i64 0]);have hb0:Below w.heap.size w (w.alloc (.cells #[.int .i64 0,.int .i64 0,.int .i64 0] 352)):=bw;generalize w.alloc (.cells #[.int .i64 0,.int .i64 0,.int .i64 0] 352)=W0 at *;refine(C1.o W0).mono ?_
 rintro e w1 ⟨rfl,hb1⟩;have hb1':Below w.heap.size w w1:=hb0.trans (hb1.mono hb0.size);have R1:=aI (R0.o.keep hb1);have k1:=(hb1'.cell (p:=⟨b,0,none⟩) hbl).trans k0;have hz1:=hb1'.size;clear R0 hb0 hb1 k0
 go_wp2_with fail;refine(C3.o _).mono ?_
 rintro e w' ⟨rfl,rfl⟩
 go_wp2_with fail;refine(C2.o _).mono ?_
 rintro e w2 ⟨rfl,hb2⟩;have hb2':Below w.heap.size w w2:=hb1'.trans (hb2.mono hz1);have R2:=aI (R1.o.keep hb2);clear R1 hb1' hb2 k1
 go_wp2_with fail;refine(C4.o _).mono ?_
 rintro e w' ⟨rfl,rfl⟩;have hi4:(prog.info? 352).map (·.size)=some 3:=by kernel_rfl
 go_wp2_with (refine wpList_store_row rfl 352 (.tmp 4) (.tmp 47) rfl w.heap.size #[.int .i64 low,.int .i64 m,.int .i64 (min 9223372036854775807 y)] rfl rfl 352 _ R2.o hi4 rfl (by simp[Value.oneCell']) ?_)
 refine bodyPost_ret (v:=spV ⟨low,m,min 9223372036854775807 y⟩) (results_cell_row (p:=4) (ty:=352) (by kernel_rfl) _ _ w.heap.size 352 _ (0,0) _ rfl (setRow_heap _ _ _ _ _ _ R2.o) underlying352 rfl (by kernel_rfl)) rfl ?_
 exact⟨rfl,below_setRow hb2' (aS _) _⟩
theorem WQ(a low:Nat)(w:World)(h1:a<=5000)(h2:low<=9223372036854775807) :
 aH 156 #[.int .i64 a,.int .i64 low] w (aG w (spV (qE a low))):=by
 obtain⟨x,m,y,x0,x1,xe,m0,m1,me,y0,y1,ye,sp⟩:=ax1 (low:=low) h1 h2;rw[sp];have hlx:(low:Int)+x<18446744073709551616:=ae
 have c1:=fun w:World=>BX (low:Int) (a:Int) 10000 w ae  ae  ae  ae  ae  ae (by rw[<-xe];omega)
 have c2:=fun w:World=>BX m 10000 (10000 - (a:Int)) w m0 ae  ae  ae  ae  ae (by rw[<-ye];exact y1)
 have c3:=fun w:World=>FU ((low:Int)+x) w ae  ae
 have c4:=fun w:World=>FU y w y0 y1
 rw[<-xe] at c1;rw[<-ye] at c2;rw[<-me] at c3;have C1:=aI c1;have C2:=aI c2;have C3:=aI c3;have C4:=aI c4;clear c1 c2 c3 c4 xe ye me sp
 go_enter func156,ntmps156
 go_wp2_with fail;have R0:=aI (dK.new w 233 #[.int .i64 0,.int .i64 0,.int .i64 0]);have hb0:Below w.heap.size w (w.alloc (.cells #[.int .i64 0,.int .i64 0,.int .i64 0] 233)):=bw;generalize w.alloc (.cells #[.int .i64 0,.int .i64 0,.int .i64 0] 233)=W0 at *;refine(C1.o W0).mono ?_
 rintro e w1 ⟨rfl,hb1⟩;have hb1':Below w.heap.size w w1:=hb0.trans (hb1.mono hb0.size);have R1:=aI (R0.o.keep hb1);have hz1:=hb1'.size;clear R0 hb0 hb1
 go_wp2_with fail;refine(C3.o _).mono ?_
 rintro e w' ⟨rfl,rfl⟩
 go_wp2_with fail;refine(C2.o _).mono ?_
 rintro e w2 ⟨rfl,hb2⟩;have hb2':Below w.heap.size w w2:=hb1'.trans (hb2.mono hz1);have R2:=aI (R1.o.keep hb2);clear R1 hb1' hb2
 go_wp2_with fail;refine(C4.o _).mono ?_
 rintro e w' ⟨rfl,rfl⟩;have hi4:(prog.info? 233).map (·.size)=some 3:=by kernel_rfl
 go_wp2_with (refine wpList_store_row rfl 233 (.tmp 4) (.tmp 41) rfl w.heap.size #[.int .i64 low,.int .i64 m,.int .i64 (min 9223372036854775807 y)] rfl rfl 233 _ R2.o hi4 rfl (by simp[Value.oneCell']) ?_)
 refine bodyPost_ret (v:=spV ⟨low,m,min 9223372036854775807 y⟩) (results_cell_row (p:=4) (ty:=233) (by kernel_rfl) _ _ w.heap.size 233 _ (0,0) _ rfl (setRow_heap _ _ _ _ _ _ R2.o) underlying233 rfl (by kernel_rfl)) rfl ?_
 exact⟨rfl,below_setRow hb2' (aS _) _⟩
theorem Ro(h:¬hiN a low=9223372036854775807):og a (n+1) low=qE a low::og a n (hiN a low+1):=by rw[og,if_neg h]
theorem Rq(h:hiN a low=9223372036854775807):og a (n+1) low=[qE a low]:=by rw[og,if_pos h]
structure Rest(a q low:Nat)(acc:List Sp):Prop where
 all:acc++og a q low=spans a
 lo:low<=9223372036854775807
 len:acc.length+q=2100
 end_:∃k,k<q/\hiN a (uB a k low)=9223372036854775807
theorem rest_start(ha:100<=a)(hb:a<=5000):Rest a 2100 1 []:=⟨rfl,ae,rfl,Zz ha hb⟩
theorem Rest.pos{q:Nat}(h:Rest a q low acc):∃n,q=n+1:=by
 obtain⟨k,hk,_⟩:=h.end_;exact⟨q - 1,ae⟩
theorem Rest.more(h:Rest a (n+1) low acc)(hh:¬hiN a low=9223372036854775807):Rest a n (hiN a low+1) (acc++[qE a low]):=by
 obtain⟨h1,h2,h3,k,hk,he⟩:=h;rw[Ro hh] at h1;have:=NI a low;refine⟨by rw[aX];exact h1,ae,by rw[aQ];simp;omega,?_⟩
 cases k with
 | zero=>exact absurd he hh
 | succ k=>exact⟨k,ae,he⟩
theorem Rest.done(h:Rest a (n+1) low acc)(hh:hiN a low=9223372036854775807):acc++[qE a low]=spans a:=by
 have:=h.all
 rwa [Rq hh] at this
def FV(base:Nat)(w:World)(b a:Nat):Prop:=base<=b/\∃v,dK w b 321 #[.int .i64 a,v]/\dL (YK 352) base w v (spans a)
theorem bw3:Ty prog (YK 352) 319:=CQ spI underlying319 rfl af  af
theorem bl2:Ty prog (YK 233) 131:=CQ bw1 underlying131 rfl af  af
theorem zq:Ty prog fZ 128:=CQ prI underlying128 rfl af  af
theorem Jf(a:Nat)(w:World)(ha:100<=a)(hb':a<=5000) :
 aH 277 #[.int .i64 a] w fun e w'=>∃b,e=.returned (.tuple #[.pointer (some ⟨b,0,none⟩),.int .i64 0])/\FV w.heap.size w' b a/\Below w.heap.size w w':=by
 have HS:=aI (rest_start ha hb')
 go_enter func277,ntmps277
 go_wp2_with fail
 go_loopg [5] 2100 (fun q v wr=>∃(low:Nat) (acc:List Sp),v=.int .i64 low/\Hid (Rest a q low acc)/\Hid (∃sv,dK wr w.heap.size 321 #[.int .i64 a,sv]/\dL (YK 352) w.heap.size wr sv acc)/\Below w.heap.size w wr)
 case atStart=>exact⟨1,[],rfl,HS,aI ⟨_,dK.new _ _ _,dL.nil_ _ _⟩,bw⟩
 case round=>
  obtain⟨low,acc,rfl,HR,HB,hb⟩:=hrel;obtain⟨n,rfl⟩:=HR.o.pos;obtain⟨sv,hB,hO⟩:=HB.o;have hlo:=HR.o.lo;have hlen:=HR.o.len;have hz:=hb.size;have hlt:=hB.lt;have C1:=aI (ZF w.heap.size a low sv wr hB hb' hlo);have lJ:=aI hB;have HO:=aI hO;clear hB hO HB
  go_wp2_with fail;refine(C1.o).mono ?_
  rintro e w1 ⟨rfl,hb1⟩;unfold spV
  go_wp2_with fail;have hb2:Below w1.heap.size w1 (w1.alloc (.cells #[.int .i64 (qE a low).low,.int .i64 (qE a low).mid,.int .i64 (qE a low).high] 352)):=bw;have X2:=dK.new w1 352 #[.int .i64 (qE a low).low,.int .i64 (qE a low).mid,.int .i64 (qE a low).high];generalize w1.alloc (.cells #[.int .i64 (qE a low).low,.int .i64 (qE a low).mid,.int .i64 (qE a low).high] 352)=w2 at *;obtain⟨xb,hxb⟩:∃x,w1.heap.size=x:=⟨_,rfl⟩;rw[hxb] at X2 |-;have hb3:Below wr.heap.size wr w2:=hb1.trans (hb2.mono hb1.size);have hbw:Below w.heap.size w w2:=hb.trans (hb3.mono hz);have B2:=aI (lJ.o.keep hb3);have O2:=aI (HO.o.keep hb3);obtain⟨A0,c0,rfl,_,_,_⟩:=HO.o.form;have hog:=own_ne B2.o O2.o af
  have hox:=KP HO.o (g:=xb) (by have:=hb1.size;omega)
  have hol:=fun k e=>(O2.o.lt k e).1
  have k1:=B2.o.cell 1;have k0:=X2.cell 0;have k2:=X2.cell 1;have k3:=X2.cell 2;simp only[aK,aJ,aN] at k0 k1 k2 k3;have gl:=B2.o.lt;have xl:=X2.lt;have f1:=B2.o.frozen 1;have hlen':acc.length+1<=1099511627776:=ae
  have hgx:w.heap.size≠xb:=by have:=hb1.size;omega
  have hwz:=hbw.size;have CC:=aI (aP k0 (aP k1 (aP k2 k3)));have HX:Hid (hiN a low=9223372036854775807<->(qE a low).high=9223372036854775807):=aI (by show _<->((hiN a low:Nat):Int)=_;omega)
  clear k0 k1 k2 k3 hb1 hb2 hxb lJ HO;obtain⟨F,hF⟩:∃F:Nat->Prop,F=fun k=>(Value.slice A0 acc.length c0).ownBlock=some k:=⟨_,rfl⟩
  have HFg:¬F w.heap.size:=by rw[hF];exact hog
  have HFx:¬F xb:=by rw[hF];exact hox
  have HF:=aI hF;clear hog hox hF;have mW:=aI (fun(w':World) (hS':(Touch F w2) w')=>(aP ((dO hS' 1 gl HFg).trans CC.o.2.1) (aP ((dO hS' 0 xl HFx).trans CC.o.1) (aP ((dO hS' 1 xl HFx).trans CC.o.2.2.1) ((dO hS' 2 xl HFx).trans CC.o.2.2.2)))))
  refine KO (Touch F w2) 10 (KI 0 6 (KJ 6 (KJ 7 (plp 8 1 (KI 9 1 (KJ 10 [])))))) ((Touch.refl _ _).drew) ?_
  iterate 6 refine uF ?_
  refine Iq fun K hK=>?_
  go_simp;refine hK _ _ (((Touch.refl _ _).drew).alloc _) ?_
  clear hK K;refine Iq fun K hK=>?_
  refine Rn bw3 (.tmp 23) (.tmp 25) rfl ((O2.o.drew).alloc _) rfl _ [qE a low] rfl (dL.one (E:=YK 352) w2.drew (qE a low) _ rfl _ rfl).rd hlen' aj ?_
  intro v7 w7 o7 g7 _;have T7:Touch F w2 w7:=(((Touch.refl _ _).drew).alloc _).grown g7 (fun k e=>.inl (by rw[HF.o];exact e))
  have P7:=aI (ve (i:=1) ((B2.o.drew).alloc _) ((O2.o.drew).alloc _) af g7 o7)
  obtain⟨A7,c7,rfl,_,_,_⟩:=o7.form;clear o7 g7;refine hK _ _ (T7) ?_
  clear hK K;refine Rl ?_
  refine uF ?_
  refine KN fun K hK=>?_
  have k1:=(dO T7 1 gl HFg).trans CC.o.2.1;have k9:=(qZ T7 1 gl HFg).trans f1
  go_simp;refine hK _ _ ?_
  clear hK K;refine ja ?_
  have h3:=(dO T7 2 xl HFx).trans CC.o.2.2.2;have e7:(acc++[qE a low]).length=acc.length+1:=ag
  rw[e7] at P7;obtain⟨P8,Q8⟩:=P7.o;have H8:=aI (aP P8 Q8);have Ir:Hid (Below w.heap.size w (w7.setCell ⟨w.heap.size,1,none⟩ (.slice A7 (acc.length+1) c7))):=aI (hbw.trans (((T7.mono (G:=fun k=>w.heap.size<=k) (fun k e=>by rw[HF.o] at e;exact hol k e)).setCell (p:=⟨w.heap.size,1,none⟩) (.inl (aS _)) _).below (fun _ e=>e) hwz))
  clear P8 Q8 P7 hbw
  by_cases hh:hiN a low=9223372036854775807
  ·have hh':=HX.o.1 hh
   have HD:=aI (HR.o.done hh);clear hh;generalize qE a low=s at *
   go_wp2_with fail
   go_ret2
   exact⟨_,rfl,⟨aS _,_,H8.o.1,by rw[<-HD.o];exact H8.o.2⟩,Ir.o⟩
  ·have hh':¬(qE a low).high=9223372036854775807:=fun h=>hh (HX.o.2 h)
   have HD:=aI (HR.o.more hh);have hle:=NI a low;have HE:Hid ((qE a low).high=((hiN a low:Nat):Int)):=aI rfl;clear hh;generalize qE a low=s at *;have hs0:0<=s.high:=by have:=HE.o;omega
   have hs1:s.high<=9223372036854775806:=by have:=HE.o;omega
   go_wp2_with fail
   go_roundg n
   case measure=>omega
   case rel=>exact⟨_,_,by rw[HE.o];go_num,HD,aI ⟨_,H8.o.1,H8.o.2⟩,Ir.o⟩
theorem ZG(a:Int)(w:World)(h:a<100\/5000<a) :
 aH 277 #[.int .i64 a] w fun e w'=>e=.returned (.tuple #[.pointer none,.int .i64 1])/\w=w':=by
 by_cases h1:a<100
 all_goals
  try (have h2:5000<a:=ae)
  go_enter func277,ntmps277
  go_wp2_with fail
  go_ret2
  exact⟨rfl,rfl⟩
theorem Fp(a:Nat)(w:World)(ha:100<=a)(hb':a<=5000) :
 aH 89 #[.int .i64 a] w fun e w'=>∃v,e=.returned v/\dL (YK 233) w.heap.size w' v (spans a)/\Below w.heap.size w w':=by
 have HS:=aI (rest_start ha hb')
 go_enter func89,ntmps89
 go_wp2_with fail
 go_loopg [3,4] 2100 (fun q v x wr=>∃(low:Nat) (acc:List Sp),x=.int .i64 low/\Hid (Rest a q low acc)/\Hid (dL (YK 233) w.heap.size wr v acc)/\Below w.heap.size w wr)
 case atStart=>exact⟨1,[],rfl,HS,aI (dL.nil_ _ _),bw⟩
 case round=>
  obtain⟨low,acc,rfl,HR,HO,hb⟩:=hrel;obtain⟨n,rfl⟩:=HR.o.pos;have hlo:=HR.o.lo;have hlen:=HR.o.len;have hz:=hb.size;have C1:=aI (WQ a low wr hb' hlo);obtain⟨A0,c0,rfl,_,_,_⟩:=HO.o.form;have h50:(acc.length:Int)<5000:=ae
  go_wp2_with fail;refine(C1.o).mono ?_
  rintro e w1 ⟨rfl,hb1⟩;unfold spV;have hz1:=hb1.size;have HX:Hid (hiN a low=9223372036854775807<->(qE a low).high=9223372036854775807):=aI (by show _<->((hiN a low:Nat):Int)=_;omega)
  have e7:(acc++[qE a low]).length=acc.length+1:=ag
  have E7:=aI e7;clear e7
  go_upto_region 6 with(first
   | (at_builtin
      refine uk bl2 rfl (.tmp 12) (.tmp 14) rfl (((HO.o.keep hb1).alloc _).alloc _) rfl _ [qE a low] rfl (iM.fK (E:=YK 233) _ (qE a low) _ rfl _ rfl _ ag) ah aj ?_
      intro v7 w7 o7 g7 _;have x2:w7.cell? ⟨w1.heap.size,2,none⟩=some (.int .i64 (qE a low).high):=(cZ (a:=⟨w1.heap.size,2,none⟩) (g7.block w1.heap.size ah (fun e=>KP HO.o hz1 e.symm))).trans (by simp[World.cell?_alloc_new])
      have Ir:Hid (Below w.heap.size w w7):=aI ((((hb.trans (hb1.mono hz)).alloc ae _).alloc ah _).grown g7 ah (fun k e=>(HO.o.lt k e).1))
      have O7:=aI o7;clear o7 g7))
  by_cases hh:hiN a low=9223372036854775807
  ·have hh':=HX.o.1 hh
   have HD:=aI (HR.o.done hh);clear hh;generalize qE a low=s at *
   go_wp2_with fail
   go_ret;exact⟨_,rfl,by rw[<-HD.o];exact O7.o,Ir.o⟩
  ·have hh':¬(qE a low).high=9223372036854775807:=fun h=>hh (HX.o.2 h)
   have HD:=aI (HR.o.more hh);have hle:=NI a low;have HE:Hid ((qE a low).high=((hiN a low:Nat):Int)):=aI rfl;clear hh;generalize qE a low=s at *;have hs0:0<=s.high:=by have:=HE.o;omega
   have hs1:s.high<=9223372036854775806:=by have:=HE.o;omega
   go_wp2_with fail
   go_roundg n
   case measure=>omega
   case rel=>exact⟨_,_,by rw[HE.o];go_num,HD,O7,Ir.o⟩
end Go.Proofs.YtilcnjbpmoijmaaGreat.D
