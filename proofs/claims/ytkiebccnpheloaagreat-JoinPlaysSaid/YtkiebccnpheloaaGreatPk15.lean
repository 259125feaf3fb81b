/- Parts of a proof: what its theorem reaches, words cut short. No condition of its own. -/
import Derived.Test.YtkiebccnpheloaaGreatPk13
import Derived.Test.YtkiebccnpheloaaGreatPk14
set_option maxRecDepth 100000
set_option maxHeartbeats 16000000
set_option linter.unusedVariables false
set_option linter.unusedSimpArgs false
namespace Go.Proofs.YtkiebccnpheloaaGreat.D
open Go.RowKit
def fU:Io Pr where
 k:=2
 t:=222
 enc x:=[.int .i64 x.1,.int .u64 x.2]
 len _:=rfl
 one x u hu:=by
  simp only[a_,List.not_mem_nil,or_false] at hu
  rcases hu with rfl|rfl<;>rfl
def VJ(t:TypeId):Io Sp where
 k:=3
 t:=t
 enc x:=[.int .i64 x.low,.int .i64 x.mid,.int .i64 x.high]
 len _:=rfl
 one x u hu:=by
  simp only[a_,List.not_mem_nil,or_false] at hu
  rcases hu with rfl|rfl|rfl<;>rfl
def spV(s:Sp):Value:=.agg #[.int .i64 s.low,.int .i64 s.mid,.int .i64 s.high]
theorem spI:(Tryz.prog.info? 397).map (fun i=>(i.zero,i.size,i.bytes))=some (some (.agg #[.int .i64 0,.int .i64 0,.int .i64 0]),3,24):=by kernel_rfl
theorem prI:(Tryz.prog.info? 222).map (fun i=>(i.zero,i.size,i.bytes))=some (some (.agg #[.int .i64 0,.int .u64 0]),2,16):=by kernel_rfl
theorem be9:(Tryz.prog.info? 187).map (fun i=>(i.zero,i.size,i.bytes))=some (some (.agg #[.int .i64 0,.int .i64 0,.int .i64 0]),3,24):=by kernel_rfl
theorem JX(n:Int)(w:World)(h0:0<=n)(h1:n<18446744073709551616):Calls Tryz.prog 463 #[.int .u64 n,.int .i64 0] w fun e w'=>e=.returned (.int .i64 (min 9223372036854775807 n))/\w=w':=by
 by_cases h:n > 9223372036854775807
 ·rw[show min 9223372036854775807 n=9223372036854775807 by omega]
  go_enter Tryz.func463,Tryz.ntmps463
  go_wp2_with fail
  go_ret;exact⟨rfl,rfl⟩
 ·rw[show min 9223372036854775807 n=n by omega]
  go_enter Tryz.func463,Tryz.ntmps463
  go_wp2_with fail
  go_ret;exact⟨rfl,rfl⟩
theorem Dk(n:Int)(w:World)(h0:0<=n)(h1:n<18446744073709551616):Calls Tryz.prog 365 #[.int .u64 n,.bool true] w fun e w'=>e=.returned (.int .i64 (min 9223372036854775807 n))/\w=w':=by
 by_cases h:n > 9223372036854775807
 ·rw[show min 9223372036854775807 n=9223372036854775807 by omega]
  go_enter Tryz.func365,Tryz.ntmps365
  go_wp2_with fail
  go_ret;exact⟨rfl,rfl⟩
 ·rw[show min 9223372036854775807 n=n by omega]
  go_enter Tryz.func365,Tryz.ntmps365
  go_wp2_with fail
  go_ret;exact⟨rfl,rfl⟩
structure bf0(a low:Nat)(x m y:Int):Prop where
 x0:0<=x
 x1:x<=9223372036854775807
 xe:x=(low:Int) * (a:Int) / 10000
 m0:0<=m
 m1:m<=9223372036854775807
 me:m=min 9223372036854775807 ((low:Int)+x)
 y0:0<=y
 y1:y<18446744073709551616
 ye:y=m * 10000 / (10000 - (a:Int))
 sp:oV a low=⟨low,m,min 9223372036854775807 y⟩
theorem ai6{a low:Nat}(hb:a<=5000)(h:low<=9223372036854775807):∃x m y,bf0 a low x m y:=by
 have e1:(low:Int) * (a:Int) / 10000=((low * a / 10000:Nat):Int):=by rw[<-Int.natCast_mul];omega
 have hx:low * a / 10000<=9223372036854775807:=by
  have:low * a<=9223372036854775807 * 5000:=Nat.mul_le_mul h hb;omega
 obtain⟨q,hq⟩:∃q,q=low * a / 10000:=⟨_,rfl⟩;obtain⟨M,hM⟩:∃M,M=min 9223372036854775807 (low+q):=⟨_,rfl⟩;rw[<-hq] at hx e1;have hM1:M<=9223372036854775807:=ae
 have e2:(M:Int) * 10000 / (10000 - (a:Int))=((M * 10000 / (10000 - a):Nat):Int):=by
  rw[show(10000:Int) - (a:Int)=((10000 - a:Nat):Int) by omega,show(M:Int) * 10000=((M * 10000:Nat):Int) by omega];rfl
 have hy:M * 10000 / (10000 - a)<18446744073709551616:=by
  rw[Nat.div_lt_iff_lt_mul ae]
  have:18446744073709551616 * 5000<=18446744073709551616 * (10000 - a):=Nat.mul_le_mul_left _ ae
  omega
 obtain⟨y,hye⟩:∃y,y=M * 10000 / (10000 - a):=⟨_,rfl⟩;rw[<-hye] at hy e2;refine⟨(q:Int),(M:Int),(y:Int),ae,ae,e1.symm,ae,ae,ae,ae,ae,e2.symm,?_⟩
 unfold oV hiN;rw[<-hq,<-hM,<-hye]
 congr 1
 omega
theorem WU(b a low:Nat)(v:Value)(w:World)(hb:dH w b 345 #[.int .i64 a,v])(h1:a<=5000)(h2:low<=9223372036854775807) :
 Calls Tryz.prog 392 #[.pointer (some ⟨b,0,none⟩),.int .i64 low] w fun e w'=>e=.returned (spV (oV a low))/\Below w.heap.size w w':=by
 obtain⟨x,m,y,x0,x1,xe,m0,m1,me,y0,y1,ye,sp⟩:=ai6 (low:=low) h1 h2;rw[sp];have k0:=hb.cell 0;simp only[aF,aC] at k0;have hbl:=hb.lt;have hlx:(low:Int)+x<18446744073709551616:=ae
 have c1:=fun w:World=>vI (low:Int) (a:Int) 10000 w ae  ae  ae  ae  ae  ae (by rw[<-xe];omega)
 have c2:=fun w:World=>vI m 10000 (10000 - (a:Int)) w m0 ae  ae  ae  ae  ae (by rw[<-ye];exact y1)
 have c3:=fun w:World=>JX ((low:Int)+x) w ae  ae
 have c4:=fun w:World=>JX y w y0 y1
 rw[<-xe] at c1;rw[<-ye] at c2;rw[<-me] at c3;have C1:=aB c1;have C2:=aB c2;have C3:=aB c3;have C4:=aB c4;clear c1 c2 c3 c4 xe ye me sp hb
 go_enter Tryz.func392,Tryz.ntmps392
 go_wp2_with fail;have R0:=aB (dH.new w 397 #[.int .i64 0,.int .i64 0,.int .i64 0]);have hb0:Below w.heap.size w (w.alloc (.cells #[.int .i64 0,.int .i64 0,.int .i64 0] 397)):=bw;generalize w.alloc (.cells #[.int .i64 0,.int .i64 0,.int .i64 0] 397)=W0 at *;refine(C1.out W0).mono ?_
 rintro e w1 ⟨rfl,hb1⟩;have hb1':Below w.heap.size w w1:=hb0.trans (hb1.mono hb0.size);have R1:=aB (R0.out.keep hb1);have k1:=(hb1'.cell (p:=⟨b,0,none⟩) hbl).trans k0;have hz1:=hb1'.size;clear R0 hb0 hb1 k0
 go_wp2_with fail;refine(C3.out _).mono ?_
 rintro e w' ⟨rfl,rfl⟩
 go_wp2_with fail;refine(C2.out _).mono ?_
 rintro e w2 ⟨rfl,hb2⟩;have hb2':Below w.heap.size w w2:=hb1'.trans (hb2.mono hz1);have R2:=aB (R1.out.keep hb2);clear R1 hb1' hb2 k1
 go_wp2_with fail;refine(C4.out _).mono ?_
 rintro e w' ⟨rfl,rfl⟩;have hi4:(Tryz.prog.info? 397).map (·.size)=some 3:=by kernel_rfl
 go_wp2_with (refine wpList_store_row rfl 397 (.tmp 4) (.tmp 47) rfl w.heap.size #[.int .i64 low,.int .i64 m,.int .i64 (min 9223372036854775807 y)] rfl rfl 397 _ R2.out hi4 rfl (by simp[Value.oneCell']) ?_)
 refine bodyPost_ret (v:=spV ⟨low,m,min 9223372036854775807 y⟩) (results_cell_row (p:=4) (ty:=397) (by kernel_rfl) _ _ w.heap.size 397 _ (0,0) _ rfl (setRow_heap _ _ _ _ _ _ R2.out) Tryz.underlying397 rfl (by kernel_rfl)) rfl ?_
 exact⟨rfl,below_setRow hb2' (aK _) _⟩
theorem Tz(a low:Nat)(w:World)(h1:a<=5000)(h2:low<=9223372036854775807) :
 Calls Tryz.prog 267 #[.int .i64 a,.int .i64 low] w fun e w'=>e=.returned (spV (oV a low))/\Below w.heap.size w w':=by
 obtain⟨x,m,y,x0,x1,xe,m0,m1,me,y0,y1,ye,sp⟩:=ai6 (low:=low) h1 h2;rw[sp];have hlx:(low:Int)+x<18446744073709551616:=ae
 have c1:=fun w:World=>sN (low:Int) (a:Int) 10000 w ae  ae  ae  ae  ae  ae (by rw[<-xe];omega)
 have c2:=fun w:World=>sN m 10000 (10000 - (a:Int)) w m0 ae  ae  ae  ae  ae (by rw[<-ye];exact y1)
 have c3:=fun w:World=>Dk ((low:Int)+x) w ae  ae
 have c4:=fun w:World=>Dk y w y0 y1
 rw[<-xe] at c1;rw[<-ye] at c2;rw[<-me] at c3;have C1:=aB c1;have C2:=aB c2;have C3:=aB c3;have C4:=aB c4;clear c1 c2 c3 c4 xe ye me sp
 go_enter Tryz.func267,Tryz.ntmps267
 go_wp2_with fail;have R0:=aB (dH.new w 187 #[.int .i64 0,.int .i64 0,.int .i64 0]);have hb0:Below w.heap.size w (w.alloc (.cells #[.int .i64 0,.int .i64 0,.int .i64 0] 187)):=bw;generalize w.alloc (.cells #[.int .i64 0,.int .i64 0,.int .i64 0] 187)=W0 at *;refine(C1.out W0).mono ?_
 rintro e w1 ⟨rfl,hb1⟩;have hb1':Below w.heap.size w w1:=hb0.trans (hb1.mono hb0.size);have R1:=aB (R0.out.keep hb1);have hz1:=hb1'.size;clear R0 hb0 hb1
 go_wp2_with fail;refine(C3.out _).mono ?_
 rintro e w' ⟨rfl,rfl⟩
 go_wp2_with fail;refine(C2.out _).mono ?_
 rintro e w2 ⟨rfl,hb2⟩;have hb2':Below w.heap.size w w2:=hb1'.trans (hb2.mono hz1);have R2:=aB (R1.out.keep hb2);clear R1 hb1' hb2
 go_wp2_with fail;refine(C4.out _).mono ?_
 rintro e w' ⟨rfl,rfl⟩;have hi4:(Tryz.prog.info? 187).map (·.size)=some 3:=by kernel_rfl
 go_wp2_with (refine wpList_store_row rfl 187 (.tmp 4) (.tmp 41) rfl w.heap.size #[.int .i64 low,.int .i64 m,.int .i64 (min 9223372036854775807 y)] rfl rfl 187 _ R2.out hi4 rfl (by simp[Value.oneCell']) ?_)
 refine bodyPost_ret (v:=spV ⟨low,m,min 9223372036854775807 y⟩) (results_cell_row (p:=4) (ty:=187) (by kernel_rfl) _ _ w.heap.size 187 _ (0,0) _ rfl (setRow_heap _ _ _ _ _ _ R2.out) Tryz.underlying187 rfl (by kernel_rfl)) rfl ?_
 exact⟨rfl,below_setRow hb2' (aK _) _⟩
theorem Ob{a n low:Nat}(h:¬hiN a low=9223372036854775807):mX a (n+1) low=oV a low::mX a n (hiN a low+1):=by rw[mX,if_neg h]
theorem Oc{a n low:Nat}(h:hiN a low=9223372036854775807):mX a (n+1) low=[oV a low]:=by rw[mX,if_pos h]
structure Rest(a q low:Nat)(acc:List Sp):Prop where
 all:acc++mX a q low=spans a
 lo:low<=9223372036854775807
 len:acc.length+q=2100
 end_:∃k,k<q/\hiN a (rO a k low)=9223372036854775807
theorem rest_start{a:Nat}(ha:100<=a)(hb:a<=5000):Rest a 2100 1 []:=⟨rfl,ae,rfl,WO ha hb⟩
theorem Rest.pos{a q low:Nat}{acc:List Sp}(h:Rest a q low acc):∃n,q=n+1:=by
 obtain⟨k,hk,_⟩:=h.end_;exact⟨q - 1,ae⟩
theorem Rest.more{a n low:Nat}{acc:List Sp}(h:Rest a (n+1) low acc)(hh:¬hiN a low=9223372036854775807):Rest a n (hiN a low+1) (acc++[oV a low]):=by
 obtain⟨h1,h2,h3,k,hk,he⟩:=h;rw[Ob hh] at h1;have:=JR a low;refine⟨by rw[aS];exact h1,ae,by rw[aI];simp;omega,?_⟩
 cases k with
 | zero=>exact absurd he hh
 | succ k=>exact⟨k,ae,he⟩
theorem Rest.done{a n low:Nat}{acc:List Sp}(h:Rest a (n+1) low acc)(hh:hiN a low=9223372036854775807):acc++[oV a low]=spans a:=by
 have:=h.all
 rwa [Oc hh] at this
def Fe(base:Nat)(w:World)(b a:Nat):Prop:=base<=b/\∃v,dH w b 345 #[.int .i64 a,v]/\dI (VJ 397) base w v (spans a)
theorem bf1:Ty Tryz.prog (VJ 397) 343:=QO spI Tryz.underlying343 rfl af  af
theorem av1:Ty Tryz.prog (VJ 187) 165:=QO be9 Tryz.underlying165 rfl af  af
theorem tq:Ty Tryz.prog fU 161:=QO prI Tryz.underlying161 rfl af  af
theorem TA(a:Nat)(w:World)(ha:100<=a)(hb':a<=5000) :
 Calls Tryz.prog 326 #[.int .i64 a] w fun e w'=>∃b,e=.returned (.tuple #[.pointer (some ⟨b,0,none⟩),.int .i64 0])/\Fe w.heap.size w' b a/\Below w.heap.size w w':=by
 have HS:=aB (rest_start ha hb')
 go_enter Tryz.func326,Tryz.ntmps326
 go_wp2_with fail
 go_loopg [5] 2100 (fun q v wr=>∃(low:Nat) (acc:List Sp),v=.int .i64 low/\Hid (Rest a q low acc)/\Hid (∃sv,dH wr w.heap.size 345 #[.int .i64 a,sv]/\dI (VJ 397) w.heap.size wr sv acc)/\Below w.heap.size w wr)
 case atStart=>exact⟨1,[],rfl,HS,aB ⟨_,dH.new _ _ _,dI.nil_ _ _⟩,bw⟩
 case round=>
  obtain⟨low,acc,rfl,HR,HB,hb⟩:=hrel;obtain⟨n,rfl⟩:=HR.out.pos;obtain⟨sv,hB,hO⟩:=HB.out;have hlo:=HR.out.lo;have hlen:=HR.out.len;have hz:=hb.size;have hlt:=hB.lt;have C1:=aB (WU w.heap.size a low sv wr hB hb' hlo);have o_:=aB hB;have HO:=aB hO;clear hB hO HB
  go_wp2_with fail;refine(C1.out).mono ?_
  rintro e w1 ⟨rfl,hb1⟩;unfold spV
  go_wp2_with fail;have hb2:Below w1.heap.size w1 (w1.alloc (.cells #[.int .i64 (oV a low).low,.int .i64 (oV a low).mid,.int .i64 (oV a low).high] 397)):=bw;have X2:=dH.new w1 397 #[.int .i64 (oV a low).low,.int .i64 (oV a low).mid,.int .i64 (oV a low).high];generalize w1.alloc (.cells #[.int .i64 (oV a low).low,.int .i64 (oV a low).mid,.int .i64 (oV a low).high] 397)=w2 at *;obtain⟨xb,hxb⟩:∃x,w1.heap.size=x:=⟨_,rfl⟩;rw[hxb] at X2 |-;have hb3:Below wr.heap.size wr w2:=hb1.trans (hb2.mono hb1.size);have hbw:Below w.heap.size w w2:=hb.trans (hb3.mono hz);have B2:=aB (o_.out.keep hb3);have O2:=aB (HO.out.keep hb3);obtain⟨A0,c0,rfl,_,_,_⟩:=HO.out.form;have hog:=own_ne B2.out O2.out af
  have hox:=Ip HO.out (g:=xb) (by have:=hb1.size;omega)
  have hol:=fun k e=>(O2.out.lt k e).1
  have k1:=B2.out.cell 1;have k0:=X2.cell 0;have k2:=X2.cell 1;have k3:=X2.cell 2;simp only[aF,aC,aG] at k0 k1 k2 k3;have gl:=B2.out.lt;have xl:=X2.lt;have f1:=B2.out.frozen 1;have hlen':acc.length+1<=1099511627776:=ae
  have hgx:w.heap.size≠xb:=by have:=hb1.size;omega
  have hwz:=hbw.size;have CC:=aB (aN k0 (aN k1 (aN k2 k3)));have HX:Hid (hiN a low=9223372036854775807<->(oV a low).high=9223372036854775807):=aB (by show _<->((hiN a low:Nat):Int)=_;omega)
  clear k0 k1 k2 k3 hb1 hb2 hxb o_ HO;obtain⟨F,hF⟩:∃F:Nat->Prop,F=fun k=>(Value.slice A0 acc.length c0).ownBlock=some k:=⟨_,rfl⟩
  have HFg:¬F w.heap.size:=by rw[hF];exact hog
  have HFx:¬F xb:=by rw[hF];exact hox
  have HF:=aB hF;clear hog hox hF;refine fM (Touch F w2) 10 [(0,1),(1,1),(2,1),(3,1),(4,1),(5,1),(6,0),(7,0),(8,2),(9,1),(10,0)] (by kernel_rfl) (by kernel_rfl) ((Touch.refl _ _).drew) ?_
  iterate 6
   refine dX ax  ax (fun R hR=>?_)
   apply aJ
   refine⟨fun w' hS'=>?_,?_⟩
   ·have k1:=(eG hS' 1 gl HFg).trans CC.out.2.1
    have k0:=(eG hS' 0 xl HFx).trans CC.out.1;have k2:=(eG hS' 1 xl HFx).trans CC.out.2.2.1;have k3:=(eG hS' 2 xl HFx).trans CC.out.2.2.2
    go_simp;exact⟨rfl,rfl⟩
   go_simp;refine hR _ ?_;clear hR R
  refine lG ax  ax  ax (fun K hK=>?_)
  go_simp;refine hK _ _ (((Touch.refl _ _).drew).alloc _) ?_
  clear hK K;refine lG ax  ax  ax (fun K hK=>?_)
  refine apW bf1 (.tmp 23) (.tmp 25) rfl ((O2.out.drew).alloc _) rfl _ [oV a low] rfl (dI.one (E:=VJ 397) w2.drew (oV a low) _ rfl _ rfl).rd hlen' aj ?_
  intro v7 w7 o7 g7 _;have T7:Touch F w2 w7:=(((Touch.refl _ _).drew).alloc _).grown g7 (fun k e=>.inl (by rw[HF.out];exact e))
  have P7:=aB (qm (i:=1) ((B2.out.drew).alloc _) ((O2.out.drew).alloc _) af g7 o7)
  obtain⟨A7,c7,rfl,_,_,_⟩:=o7.form;clear o7 g7;refine hK _ _ (T7) ?_
  clear hK K
  iterate 1
   refine kG ax  ax (fun R hR=>?_)
   apply aJ
   refine⟨fun w'=>?_,?_⟩
   ·go_simp
    exact⟨rfl,rfl⟩
   go_simp;refine hR _ ?_;clear hR R
  iterate 1
   refine dX ax  ax (fun R hR=>?_)
   apply aJ
   refine⟨fun w' hS'=>?_,?_⟩
   ·have k1:=(eG hS' 1 gl HFg).trans CC.out.2.1
    have k0:=(eG hS' 0 xl HFx).trans CC.out.1;have k2:=(eG hS' 1 xl HFx).trans CC.out.2.2.1;have k3:=(eG hS' 2 xl HFx).trans CC.out.2.2.2
    go_simp;exact⟨rfl,rfl⟩
   go_simp;refine hR _ ?_;clear hR R
  refine iP ax  ax  ax (fun K hK=>?_)
  have k1:=(eG T7 1 gl HFg).trans CC.out.2.1;have k9:=(au9 T7 1 gl HFg).trans f1
  go_simp;refine hK _ _ ?_
  clear hK K;refine iQ ?_
  have h3:=(eG T7 2 xl HFx).trans CC.out.2.2.2;have e7:(acc++[oV a low]).length=acc.length+1:=ag
  rw[e7] at P7;obtain⟨P8,Q8⟩:=P7.out;have H8:=aB (aN P8 Q8);have zJ:Hid (Below w.heap.size w (w7.setCell ⟨w.heap.size,1,none⟩ (.slice A7 (acc.length+1) c7))):=aB (hbw.trans (((T7.mono (G:=fun k=>w.heap.size<=k) (fun k e=>by rw[HF.out] at e;exact hol k e)).setCell (p:=⟨w.heap.size,1,none⟩) (.inl (aK _)) _).below (fun _ e=>e) hwz))
  clear P8 Q8 P7 hbw
  by_cases hh:hiN a low=9223372036854775807
  ·have hh':=HX.out.1 hh
   have HD:=aB (HR.out.done hh);clear hh;generalize oV a low=s at *
   go_wp2_with fail
   go_ret2
   exact⟨_,rfl,⟨aK _,_,H8.out.1,by rw[<-HD.out];exact H8.out.2⟩,zJ.out⟩
  ·have hh':¬(oV a low).high=9223372036854775807:=fun h=>hh (HX.out.2 h)
   have HD:=aB (HR.out.more hh);have hle:=JR a low;have HE:Hid ((oV a low).high=((hiN a low:Nat):Int)):=aB rfl;clear hh;generalize oV a low=s at *;have hs0:0<=s.high:=by have:=HE.out;omega
   have hs1:s.high<=9223372036854775806:=by have:=HE.out;omega
   go_wp2_with fail
   go_roundg n
   case measure=>omega
   case rel=>exact⟨_,_,by rw[HE.out];go_num,HD,aB ⟨_,H8.out.1,H8.out.2⟩,zJ.out⟩
theorem jC(a:Nat)(w:World)(ha:100<=a)(hb':a<=5000) :
 Calls Tryz.prog 173 #[.int .i64 a] w fun e w'=>∃v,e=.returned v/\dI (VJ 187) w.heap.size w' v (spans a)/\Below w.heap.size w w':=by
 have HS:=aB (rest_start ha hb')
 go_enter Tryz.func173,Tryz.ntmps173
 go_wp2_with fail
 go_loopg [3,4] 2100 (fun q v x wr=>∃(low:Nat) (acc:List Sp),x=.int .i64 low/\Hid (Rest a q low acc)/\Hid (dI (VJ 187) w.heap.size wr v acc)/\Below w.heap.size w wr)
 case atStart=>exact⟨1,[],rfl,HS,aB (dI.nil_ _ _),bw⟩
 case round=>
  obtain⟨low,acc,rfl,HR,HO,hb⟩:=hrel;obtain⟨n,rfl⟩:=HR.out.pos;have hlo:=HR.out.lo;have hlen:=HR.out.len;have hz:=hb.size;have C1:=aB (Tz a low wr hb' hlo);obtain⟨A0,c0,rfl,_,_,_⟩:=HO.out.form;have h50:(acc.length:Int)<5000:=ae
  go_wp2_with fail;refine(C1.out).mono ?_
  rintro e w1 ⟨rfl,hb1⟩;unfold spV;have hz1:=hb1.size;have HX:Hid (hiN a low=9223372036854775807<->(oV a low).high=9223372036854775807):=aB (by show _<->((hiN a low:Nat):Int)=_;omega)
  have e7:(acc++[oV a low]).length=acc.length+1:=ag
  have E7:=aB e7;clear e7
  go_upto_region 6 with(first
   | (at_builtin
      refine pY av1 rfl (.tmp 12) (.tmp 14) rfl (((HO.out.keep hb1).alloc _).alloc _) rfl _ [oV a low] rfl (gz.dY (E:=VJ 187) _ (oV a low) _ rfl _ rfl _ ag) ah aj ?_
      intro v7 w7 o7 g7 _;have x2:w7.cell? ⟨w1.heap.size,2,none⟩=some (.int .i64 (oV a low).high):=(bM (a:=⟨w1.heap.size,2,none⟩) (g7.block w1.heap.size ah (fun e=>Ip HO.out hz1 e.symm))).trans (by simp[World.cell?_alloc_new])
      have zJ:Hid (Below w.heap.size w w7):=aB ((((hb.trans (hb1.mono hz)).alloc ae _).alloc ah _).grown g7 ah (fun k e=>(HO.out.lt k e).1))
      have O7:=aB o7;clear o7 g7))
  by_cases hh:hiN a low=9223372036854775807
  ·have hh':=HX.out.1 hh
   have HD:=aB (HR.out.done hh);clear hh;generalize oV a low=s at *
   go_wp2_with fail
   go_ret;exact⟨_,rfl,by rw[<-HD.out];exact O7.out,zJ.out⟩
  ·have hh':¬(oV a low).high=9223372036854775807:=fun h=>hh (HX.out.2 h)
   have HD:=aB (HR.out.more hh);have hle:=JR a low;have HE:Hid ((oV a low).high=((hiN a low:Nat):Int)):=aB rfl;clear hh;generalize oV a low=s at *;have hs0:0<=s.high:=by have:=HE.out;omega
   have hs1:s.high<=9223372036854775806:=by have:=HE.out;omega
   go_wp2_with fail
   go_roundg n
   case measure=>omega
   case rel=>exact⟨_,_,by rw[HE.out];go_num,HD,O7,zJ.out⟩
end Go.Proofs.YtkiebccnpheloaaGreat.D
