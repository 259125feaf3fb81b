/- Parts of a proof: what its theorem reaches, words cut short. No condition of its own. -/
import Derived.Test.YtingnldfpokckaaGreatPm13
import Derived.Test.YtingnldfpokckaaGreatPm14
import Derived.Test.YtingnldfpokckaaGreatPm15
import Derived.Laws.CopyRow
import Derived.Lib.AppendZeros
import Derived.Lib.AppendZerosOnto
import Derived.Lib.Overlaps
import Derived.Shelf.RegionOpenPlain
set_option maxRecDepth 100000
set_option maxHeartbeats 16000000
set_option linter.unusedVariables false
set_option linter.unusedSimpArgs false
namespace Go.Proofs.YtingnldfpokckaaGreat.D
open Go.RowKit
def prE:Lie Pr where
 k:=2
 t:=136
 enc x:=[.int .i64 x.1,.int .u64 x.2]
 len _:=rfl
 one x u hu:=by
  simp only[List.mem_cons,List.not_mem_nil,or_false] at hu
  rcases hu with rfl|rfl<;>rfl
def spE(t:TypeId):Lie Sp where
 k:=3
 t:=t
 enc x:=[.int .i64 x.low,.int .i64 x.mid,.int .i64 x.high]
 len _:=rfl
 one x u hu:=by
  simp only[List.mem_cons,List.not_mem_nil,or_false] at hu
  rcases hu with rfl|rfl|rfl<;>rfl
def spV(s:Sp):Value:=.agg #[.int .i64 s.low,.int .i64 s.mid,.int .i64 s.high]
theorem spI:(Tryz.prog.info? 271).map (fun i=>(i.zero,i.size,i.bytes))=some (some (.agg #[.int .i64 0,.int .i64 0,.int .i64 0]),3,24):=by kernel_rfl
theorem prI:(Tryz.prog.info? 136).map (fun i=>(i.zero,i.size,i.bytes))=some (some (.agg #[.int .i64 0,.int .u64 0]),2,16):=by kernel_rfl
theorem rspI:(Tryz.prog.info? 247).map (fun i=>(i.zero,i.size,i.bytes))=some (some (.agg #[.int .i64 0,.int .i64 0,.int .i64 0]),3,24):=by kernel_rfl
theorem most_any(n:Int)(w:World)(h0:0<=n)(h1:n<18446744073709551616):Calls Tryz.prog 362 #[.int .u64 n,.int .i64 0] w fun e w'=>e=.returned (.int .i64 (min 9223372036854775807 n))/\w=w':=by
 by_cases h:n > 9223372036854775807
 ·rw[show min 9223372036854775807 n=9223372036854775807 by omega]
  go_enter Tryz.func362,Tryz.ntmps362
  go_wp2_with fail
  go_ret
  exact⟨rfl,rfl⟩
 ·rw[show min 9223372036854775807 n=n by omega]
  go_enter Tryz.func362,Tryz.ntmps362
  go_wp2_with fail
  go_ret
  exact⟨rfl,rfl⟩
theorem rleast_any(n:Int)(w:World)(h0:0<=n)(h1:n<18446744073709551616):Calls Tryz.prog 246 #[.int .u64 n,.bool true] w fun e w'=>e=.returned (.int .i64 (min 9223372036854775807 n))/\w=w':=by
 by_cases h:n > 9223372036854775807
 ·rw[show min 9223372036854775807 n=9223372036854775807 by omega]
  go_enter Tryz.func246,Tryz.ntmps246
  go_wp2_with fail
  go_ret
  exact⟨rfl,rfl⟩
 ·rw[show min 9223372036854775807 n=n by omega]
  go_enter Tryz.func246,Tryz.ntmps246
  go_wp2_with fail
  go_ret
  exact⟨rfl,rfl⟩
structure SpEq(a low:Nat)(x m y:Int):Prop where
 x0:0<=x
 x1:x<=9223372036854775807
 xe:x=(low:Int) * (a:Int) / 10000
 m0:0<=m
 m1:m<=9223372036854775807
 me:m=min 9223372036854775807 ((low:Int)+x)
 y0:0<=y
 y1:y<18446744073709551616
 ye:y=m * 10000 / (10000 - (a:Int))
 sp:spN a low=⟨low,m,min 9223372036854775807 y⟩
theorem sp_eq{a low:Nat}(hb:a<=5000)(h:low<=9223372036854775807):∃x m y,SpEq a low x m y:=by
 have e1:(low:Int) * (a:Int) / 10000=((low * a / 10000:Nat):Int):=by rw[<-Int.natCast_mul];omega
 have hx:low * a / 10000<=9223372036854775807:=by
  have:low * a<=9223372036854775807 * 5000:=Nat.mul_le_mul h hb
  omega
 obtain⟨q,hq⟩:∃q,q=low * a / 10000:=⟨_,rfl⟩
 obtain⟨M,hM⟩:∃M,M=min 9223372036854775807 (low+q):=⟨_,rfl⟩
 rw[<-hq] at hx e1
 have hM1:M<=9223372036854775807:=by omega
 have e2:(M:Int) * 10000 / (10000 - (a:Int))=((M * 10000 / (10000 - a):Nat):Int):=by
  rw[show(10000:Int) - (a:Int)=((10000 - a:Nat):Int) by omega,show(M:Int) * 10000=((M * 10000:Nat):Int) by omega];rfl
 have hy:M * 10000 / (10000 - a)<18446744073709551616:=by
  rw[Nat.div_lt_iff_lt_mul (by omega)]
  have:18446744073709551616 * 5000<=18446744073709551616 * (10000 - a):=Nat.mul_le_mul_left _ (by omega)
  omega
 obtain⟨y,hye⟩:∃y,y=M * 10000 / (10000 - a):=⟨_,rfl⟩
 rw[<-hye] at hy e2
 refine⟨(q:Int),(M:Int),(y:Int),by omega,by omega,e1.symm,by omega,by omega,by omega,by omega,by omega,e2.symm,?_⟩
 unfold spN hiN
 rw[<-hq,<-hM,<-hye]
 congr 1
 omega
theorem from_any(b a low:Nat)(v:Value)(w:World)(hb:Blk w b 214 #[.int .i64 a,v])(h1:a<=5000)(h2:low<=9223372036854775807) :
 Calls Tryz.prog 283 #[.pointer (some ⟨b,0,none⟩),.int .i64 low] w fun e w'=>e=.returned (spV (spN a low))/\Below w.heap.size w w':=by
 obtain⟨x,m,y,x0,x1,xe,m0,m1,me,y0,y1,ye,sp⟩:=sp_eq (low:=low) h1 h2
 rw[sp]
 have k0:=hb.cell 0
 simp only[List.getElem?_toArray,List.getElem?_cons_zero] at k0
 have hbl:=hb.lt
 have hlx:(low:Int)+x<18446744073709551616:=by omega
 have c1:=fun w:World=>muldiv_any (low:Int) (a:Int) 10000 w (by omega) (by omega) (by omega) (by omega) (by omega) (by omega) (by rw[<-xe];omega)
 have c2:=fun w:World=>muldiv_any m 10000 (10000 - (a:Int)) w m0 (by omega) (by omega) (by omega) (by omega) (by omega) (by rw[<-ye];exact y1)
 have c3:=fun w:World=>most_any ((low:Int)+x) w (by omega) (by omega)
 have c4:=fun w:World=>most_any y w y0 y1
 rw[<-xe] at c1
 rw[<-ye] at c2
 rw[<-me] at c3
 have C1:=Lib.hid c1
 have C2:=Lib.hid c2
 have C3:=Lib.hid c3
 have C4:=Lib.hid c4
 clear c1 c2 c3 c4 xe ye me sp hb
 go_enter Tryz.func283,Tryz.ntmps283
 go_wp2_with fail
 have R0:=Lib.hid (Blk.new w 271 #[.int .i64 0,.int .i64 0,.int .i64 0])
 have hb0:Below w.heap.size w (w.alloc (.cells #[.int .i64 0,.int .i64 0,.int .i64 0] 271)):=by(repeat' (first|(with_reducible exact Below.refl _ _)|(with_reducible refine Below.alloc ?_ ?_ _)|(with_reducible refine Below.drew ?_)|(with_reducible refine below_drewN ?_ _)|(with_reducible refine Below.setCell ?_ ?_ _)|(with_reducible refine below_of (by assumption) ?_ ?_)|go_size))
 generalize w.alloc (.cells #[.int .i64 0,.int .i64 0,.int .i64 0] 271)=W0 at *
 refine(C1.out W0).mono ?_
 rintro e w1 ⟨rfl,hb1⟩
 have hb1':Below w.heap.size w w1:=hb0.trans (hb1.mono hb0.size)
 have R1:=Lib.hid (R0.out.keep hb1)
 have k1:=(hb1'.cell (p:=⟨b,0,none⟩) hbl).trans k0
 have hz1:=hb1'.size
 clear R0 hb0 hb1 k0
 go_wp2_with fail
 refine(C3.out _).mono ?_
 rintro e w' ⟨rfl,rfl⟩
 go_wp2_with fail
 refine(C2.out _).mono ?_
 rintro e w2 ⟨rfl,hb2⟩
 have hb2':Below w.heap.size w w2:=hb1'.trans (hb2.mono hz1)
 have R2:=Lib.hid (R1.out.keep hb2)
 clear R1 hb1' hb2 k1
 go_wp2_with fail
 refine(C4.out _).mono ?_
 rintro e w' ⟨rfl,rfl⟩
 have hi4:(Tryz.prog.info? 271).map (·.size)=some 3:=by kernel_rfl
 go_wp2_with (refine wpList_store_row rfl 271 (.tmp 4) (.tmp 47) rfl w.heap.size #[.int .i64 low,.int .i64 m,.int .i64 (min 9223372036854775807 y)] rfl rfl 271 _ R2.out hi4 rfl (by simp[Value.oneCell']) ?_)
 refine bodyPost_ret (v:=spV ⟨low,m,min 9223372036854775807 y⟩) (results_cell_row (p:=4) (ty:=271) (by kernel_rfl) _ _ w.heap.size 271 _ (0,0) _ rfl (setRow_heap _ _ _ _ _ _ R2.out) Tryz.underlying271 rfl (by kernel_rfl)) rfl ?_
 exact⟨rfl,below_setRow hb2' (Nat.le_refl _) _⟩
theorem rfrom_any(a low:Nat)(w:World)(h1:a<=5000)(h2:low<=9223372036854775807) :
 Calls Tryz.prog 160 #[.int .i64 a,.int .i64 low] w fun e w'=>e=.returned (spV (spN a low))/\Below w.heap.size w w':=by
 obtain⟨x,m,y,x0,x1,xe,m0,m1,me,y0,y1,ye,sp⟩:=sp_eq (low:=low) h1 h2
 rw[sp]
 have hlx:(low:Int)+x<18446744073709551616:=by omega
 have c1:=fun w:World=>rmuldiv_any (low:Int) (a:Int) 10000 w (by omega) (by omega) (by omega) (by omega) (by omega) (by omega) (by rw[<-xe];omega)
 have c2:=fun w:World=>rmuldiv_any m 10000 (10000 - (a:Int)) w m0 (by omega) (by omega) (by omega) (by omega) (by omega) (by rw[<-ye];exact y1)
 have c3:=fun w:World=>rleast_any ((low:Int)+x) w (by omega) (by omega)
 have c4:=fun w:World=>rleast_any y w y0 y1
 rw[<-xe] at c1
 rw[<-ye] at c2
 rw[<-me] at c3
 have C1:=Lib.hid c1
 have C2:=Lib.hid c2
 have C3:=Lib.hid c3
 have C4:=Lib.hid c4
 clear c1 c2 c3 c4 xe ye me sp
 go_enter Tryz.func160,Tryz.ntmps160
 go_wp2_with fail
 have R0:=Lib.hid (Blk.new w 247 #[.int .i64 0,.int .i64 0,.int .i64 0])
 have hb0:Below w.heap.size w (w.alloc (.cells #[.int .i64 0,.int .i64 0,.int .i64 0] 247)):=by(repeat' (first|(with_reducible exact Below.refl _ _)|(with_reducible refine Below.alloc ?_ ?_ _)|(with_reducible refine Below.drew ?_)|(with_reducible refine below_drewN ?_ _)|(with_reducible refine Below.setCell ?_ ?_ _)|(with_reducible refine below_of (by assumption) ?_ ?_)|go_size))
 generalize w.alloc (.cells #[.int .i64 0,.int .i64 0,.int .i64 0] 247)=W0 at *
 refine(C1.out W0).mono ?_
 rintro e w1 ⟨rfl,hb1⟩
 have hb1':Below w.heap.size w w1:=hb0.trans (hb1.mono hb0.size)
 have R1:=Lib.hid (R0.out.keep hb1)
 have hz1:=hb1'.size
 clear R0 hb0 hb1
 go_wp2_with fail
 refine(C3.out _).mono ?_
 rintro e w' ⟨rfl,rfl⟩
 go_wp2_with fail
 refine(C2.out _).mono ?_
 rintro e w2 ⟨rfl,hb2⟩
 have hb2':Below w.heap.size w w2:=hb1'.trans (hb2.mono hz1)
 have R2:=Lib.hid (R1.out.keep hb2)
 clear R1 hb1' hb2
 go_wp2_with fail
 refine(C4.out _).mono ?_
 rintro e w' ⟨rfl,rfl⟩
 have hi4:(Tryz.prog.info? 247).map (·.size)=some 3:=by kernel_rfl
 go_wp2_with (refine wpList_store_row rfl 247 (.tmp 4) (.tmp 41) rfl w.heap.size #[.int .i64 low,.int .i64 m,.int .i64 (min 9223372036854775807 y)] rfl rfl 247 _ R2.out hi4 rfl (by simp[Value.oneCell']) ?_)
 refine bodyPost_ret (v:=spV ⟨low,m,min 9223372036854775807 y⟩) (results_cell_row (p:=4) (ty:=247) (by kernel_rfl) _ _ w.heap.size 247 _ (0,0) _ rfl (setRow_heap _ _ _ _ _ _ R2.out) Tryz.underlying247 rfl (by kernel_rfl)) rfl ?_
 exact⟨rfl,below_setRow hb2' (Nat.le_refl _) _⟩
theorem spanL_step{a n low:Nat}(h:¬hiN a low=9223372036854775807):spanL a (n+1) low=spN a low::spanL a n (hiN a low+1):=by rw[spanL,if_neg h]
theorem spanL_last{a n low:Nat}(h:hiN a low=9223372036854775807):spanL a (n+1) low=[spN a low]:=by rw[spanL,if_pos h]
structure Rest(a q low:Nat)(acc:List Sp):Prop where
 all:acc++spanL a q low=spans a
 lo:low<=9223372036854775807
 len:acc.length+q=2100
 end_:∃k,k<q/\hiN a (farN a k low)=9223372036854775807
theorem rest_start{a:Nat}(ha:100<=a)(hb:a<=5000):Rest a 2100 1 []:=⟨rfl,by omega,rfl,end_at ha hb⟩
theorem Rest.pos{a q low:Nat}{acc:List Sp}(h:Rest a q low acc):∃n,q=n+1:=by
 obtain⟨k,hk,_⟩:=h.end_
 exact⟨q - 1,by omega⟩
theorem Rest.more{a n low:Nat}{acc:List Sp}(h:Rest a (n+1) low acc)(hh:¬hiN a low=9223372036854775807):Rest a n (hiN a low+1) (acc++[spN a low]):=by
 obtain⟨h1,h2,h3,k,hk,he⟩:=h
 rw[spanL_step hh] at h1
 have:=hi_le a low
 refine⟨by rw[List.append_assoc];exact h1,by omega,by rw[List.length_append];simp;omega,?_⟩
 cases k with
 | zero=>exact absurd he hh
 | succ k=>exact⟨k,by omega,he⟩
theorem Rest.done{a n low:Nat}{acc:List Sp}(h:Rest a (n+1) low acc)(hh:hiN a low=9223372036854775807):acc++[spN a low]=spans a:=by
 have:=h.all
 rwa [spanL_last hh] at this
def ScAt(base:Nat)(w:World)(b a:Nat):Prop:=base<=b/\∃v,Blk w b 214 #[.int .i64 a,v]/\OwnE (spE 271) base w v (spans a)
theorem tySp:Ty Tryz.prog (spE 271) 212:=ty_of spI Tryz.underlying212 rfl (by decide) (by decide)
theorem tyRsp:Ty Tryz.prog (spE 247) 149:=ty_of rspI Tryz.underlying149 rfl (by decide) (by decide)
theorem tyPr:Ty Tryz.prog prE 133:=ty_of prI Tryz.underlying133 rfl (by decide) (by decide)
theorem scale_new(a:Nat)(w:World)(ha:100<=a)(hb':a<=5000) :
 Calls Tryz.prog 218 #[.int .i64 a] w fun e w'=>∃b,e=.returned (.tuple #[.pointer (some ⟨b,0,none⟩),.int .i64 0])/\ScAt w.heap.size w' b a/\Below w.heap.size w w':=by
 have HS:=Lib.hid (rest_start ha hb')
 go_enter Tryz.func218,Tryz.ntmps218
 go_wp2_with fail
 go_loopg [5] 2100 (fun q v wr=>∃(low:Nat) (acc:List Sp),v=.int .i64 low/\Hid (Rest a q low acc)/\Hid (∃sv,Blk wr w.heap.size 214 #[.int .i64 a,sv]/\OwnE (spE 271) w.heap.size wr sv acc)/\Below w.heap.size w wr)
 case atStart=>exact⟨1,[],rfl,HS,Lib.hid ⟨_,Blk.new _ _ _,OwnE.nil_ _ _⟩,by(repeat' (first|(with_reducible exact Below.refl _ _)|(with_reducible refine Below.alloc ?_ ?_ _)|(with_reducible refine Below.drew ?_)|(with_reducible refine below_drewN ?_ _)|(with_reducible refine Below.setCell ?_ ?_ _)|(with_reducible refine below_of (by assumption) ?_ ?_)|go_size))⟩
 case round=>
  obtain⟨low,acc,rfl,HR,HB,hb⟩:=hrel
  obtain⟨n,rfl⟩:=HR.out.pos
  obtain⟨sv,hB,hO⟩:=HB.out
  have hlo:=HR.out.lo
  have hlen:=HR.out.len
  have hz:=hb.size
  have hlt:=hB.lt
  have C1:=Lib.hid (from_any w.heap.size a low sv wr hB hb' hlo)
  have HBB:=Lib.hid hB
  have HO:=Lib.hid hO
  clear hB hO HB
  go_wp2_with fail
  refine(C1.out).mono ?_
  rintro e w1 ⟨rfl,hb1⟩
  unfold spV
  go_wp2_with fail
  have hb2:Below w1.heap.size w1 (w1.alloc (.cells #[.int .i64 (spN a low).low,.int .i64 (spN a low).mid,.int .i64 (spN a low).high] 271)):=by(repeat' (first|(with_reducible exact Below.refl _ _)|(with_reducible refine Below.alloc ?_ ?_ _)|(with_reducible refine Below.drew ?_)|(with_reducible refine below_drewN ?_ _)|(with_reducible refine Below.setCell ?_ ?_ _)|(with_reducible refine below_of (by assumption) ?_ ?_)|go_size))
  have X2:=Blk.new w1 271 #[.int .i64 (spN a low).low,.int .i64 (spN a low).mid,.int .i64 (spN a low).high]
  generalize w1.alloc (.cells #[.int .i64 (spN a low).low,.int .i64 (spN a low).mid,.int .i64 (spN a low).high] 271)=w2 at *
  obtain⟨xb,hxb⟩:∃x,w1.heap.size=x:=⟨_,rfl⟩
  rw[hxb] at X2 |-
  have hb3:Below wr.heap.size wr w2:=hb1.trans (hb2.mono hb1.size)
  have hbw:Below w.heap.size w w2:=hb.trans (hb3.mono hz)
  have B2:=Lib.hid (HBB.out.keep hb3)
  have O2:=Lib.hid (HO.out.keep hb3)
  obtain⟨A0,c0,rfl,_,_,_⟩:=HO.out.form
  have hog:=own_ne B2.out O2.out (by decide)
  have hox:=own_new HO.out (g:=xb) (by have:=hb1.size;omega)
  have hol:=fun k e=>(O2.out.lt k e).1
  have k1:=B2.out.cell 1
  have k0:=X2.cell 0
  have k2:=X2.cell 1
  have k3:=X2.cell 2
  simp only[List.getElem?_toArray,List.getElem?_cons_zero,List.getElem?_cons_succ] at k0 k1 k2 k3
  have gl:=B2.out.lt
  have xl:=X2.lt
  have f1:=B2.out.frozen 1
  have hlen':acc.length+1<=1099511627776:=by omega
  have hgx:w.heap.size≠xb:=by have:=hb1.size;omega
  have hwz:=hbw.size
  have CC:=Lib.hid (And.intro k0 (And.intro k1 (And.intro k2 k3)))
  have HX:Hid (hiN a low=9223372036854775807<->(spN a low).high=9223372036854775807):=Lib.hid (by show _<->((hiN a low:Nat):Int)=_;omega)
  clear k0 k1 k2 k3 hb1 hb2 hxb HBB HO
  obtain⟨F,hF⟩:∃F:Nat->Prop,F=fun k=>(Value.slice A0 acc.length c0).ownBlock=some k:=⟨_,rfl⟩
  have HFg:¬F w.heap.size:=by rw[hF];exact hog
  have HFx:¬F xb:=by rw[hF];exact hox
  have HF:=Lib.hid hF
  clear hog hox hF
  refine wp_region_planS (Touch F w2) 10 [(0,1),(1,1),(2,1),(3,1),(4,1),(5,1),(6,0),(7,0),(8,2),(9,1),(10,0)] (by kernel_rfl) (by kernel_rfl) ((Touch.refl _ _).drew) ?_
  iterate 6
   refine wpPlanS_read (by rfl) (by rfl) (fun R hR=>?_)
   apply Exists.intro
   refine⟨fun w' hS'=>?_,?_⟩
   ·have k1:=(tcell hS' 1 gl HFg).trans CC.out.2.1
    have k0:=(tcell hS' 0 xl HFx).trans CC.out.1
    have k2:=(tcell hS' 1 xl HFx).trans CC.out.2.2.1
    have k3:=(tcell hS' 2 xl HFx).trans CC.out.2.2.2
    go_simp
    exact⟨rfl,rfl⟩
   go_simp
   refine hR _ ?_
   clear hR R
  refine wpPlanS_do (by rfl) (by rfl) (by rfl) (fun K hK=>?_)
  go_simp
  refine hK _ _ (((Touch.refl _ _).drew).alloc _) ?_
  clear hK K
  refine wpPlanS_do (by rfl) (by rfl) (by rfl) (fun K hK=>?_)
  refine apW tySp (.tmp 23) (.tmp 25) rfl ((O2.out.drew).alloc _) rfl _ [spN a low] rfl (OwnE.one (E:=spE 271) w2.drew (spN a low) _ rfl _ rfl).rd hlen' (by go_size) ?_
  intro v7 w7 o7 g7 _
  have T7:Touch F w2 w7:=(((Touch.refl _ _).drew).alloc _).grown g7 (fun k e=>.inl (by rw[HF.out];exact e))
  have P7:=Lib.hid (put_back (i:=1) ((B2.out.drew).alloc _) ((O2.out.drew).alloc _) (by decide) g7 o7)
  obtain⟨A7,c7,rfl,_,_,_⟩:=o7.form
  clear o7 g7
  refine hK _ _ (T7) ?_
  clear hK K
  iterate 1
   refine wpPlanS_pure (by rfl) (by rfl) (fun R hR=>?_)
   apply Exists.intro
   refine⟨fun w'=>?_,?_⟩
   ·go_simp
    exact⟨rfl,rfl⟩
   go_simp
   refine hR _ ?_
   clear hR R
  iterate 1
   refine wpPlanS_read (by rfl) (by rfl) (fun R hR=>?_)
   apply Exists.intro
   refine⟨fun w' hS'=>?_,?_⟩
   ·have k1:=(tcell hS' 1 gl HFg).trans CC.out.2.1
    have k0:=(tcell hS' 0 xl HFx).trans CC.out.1
    have k2:=(tcell hS' 1 xl HFx).trans CC.out.2.2.1
    have k3:=(tcell hS' 2 xl HFx).trans CC.out.2.2.2
    go_simp
    exact⟨rfl,rfl⟩
   go_simp
   refine hR _ ?_
   clear hR R
  refine wpPlanS_end (by rfl) (by rfl) (by rfl) (fun K hK=>?_)
  have k1:=(tcell T7 1 gl HFg).trans CC.out.2.1
  have k9:=(tfroz T7 1 gl HFg).trans f1
  go_simp
  refine hK _ _ ?_
  clear hK K
  refine wpPlanS_nil ?_
  have h3:=(tcell T7 2 xl HFx).trans CC.out.2.2.2
  have e7:(acc++[spN a low]).length=acc.length+1:=by simp
  rw[e7] at P7
  obtain⟨P8,Q8⟩:=P7.out
  have H8:=Lib.hid (And.intro P8 Q8)
  have HB8:Hid (Below w.heap.size w (w7.setCell ⟨w.heap.size,1,none⟩ (.slice A7 (acc.length+1) c7))):=Lib.hid (hbw.trans (((T7.mono (G:=fun k=>w.heap.size<=k) (fun k e=>by rw[HF.out] at e;exact hol k e)).setCell (p:=⟨w.heap.size,1,none⟩) (.inl (Nat.le_refl _)) _).below (fun _ e=>e) hwz))
  clear P8 Q8 P7 hbw
  by_cases hh:hiN a low=9223372036854775807
  ·have hh':=HX.out.1 hh
   have HD:=Lib.hid (HR.out.done hh)
   clear hh
   generalize spN a low=s at *
   go_wp2_with fail
   go_ret2
   exact⟨_,rfl,⟨Nat.le_refl _,_,H8.out.1,by rw[<-HD.out];exact H8.out.2⟩,HB8.out⟩
  ·have hh':¬(spN a low).high=9223372036854775807:=fun h=>hh (HX.out.2 h)
   have HD:=Lib.hid (HR.out.more hh)
   have hle:=hi_le a low
   have HE:Hid ((spN a low).high=((hiN a low:Nat):Int)):=Lib.hid rfl
   clear hh
   generalize spN a low=s at *
   have hs0:0<=s.high:=by have:=HE.out;omega
   have hs1:s.high<=9223372036854775806:=by have:=HE.out;omega
   go_wp2_with fail
   go_roundg n
   case measure=>omega
   case rel=>exact⟨_,_,by rw[HE.out];go_num,HD,Lib.hid ⟨_,H8.out.1,H8.out.2⟩,HB8.out⟩
theorem scale_no(a:Int)(w:World)(h:a<100\/5000<a) :
 Calls Tryz.prog 218 #[.int .i64 a] w fun e w'=>e=.returned (.tuple #[.pointer none,.int .i64 1])/\w=w':=by
 by_cases h1:a<100
 all_goals
  try (have h2:5000<a:=by omega)
  go_enter Tryz.func218,Tryz.ntmps218
  go_wp2_with fail
  go_ret2
  exact⟨rfl,rfl⟩
theorem rall_any(a:Nat)(w:World)(ha:100<=a)(hb':a<=5000) :
 Calls Tryz.prog 89 #[.int .i64 a] w fun e w'=>∃v,e=.returned v/\OwnE (spE 247) w.heap.size w' v (spans a)/\Below w.heap.size w w':=by
 have HS:=Lib.hid (rest_start ha hb')
 go_enter Tryz.func89,Tryz.ntmps89
 go_wp2_with fail
 go_loopg [3,4] 2100 (fun q v x wr=>∃(low:Nat) (acc:List Sp),x=.int .i64 low/\Hid (Rest a q low acc)/\Hid (OwnE (spE 247) w.heap.size wr v acc)/\Below w.heap.size w wr)
 case atStart=>exact⟨1,[],rfl,HS,Lib.hid (OwnE.nil_ _ _),by(repeat' (first|(with_reducible exact Below.refl _ _)|(with_reducible refine Below.alloc ?_ ?_ _)|(with_reducible refine Below.drew ?_)|(with_reducible refine below_drewN ?_ _)|(with_reducible refine Below.setCell ?_ ?_ _)|(with_reducible refine below_of (by assumption) ?_ ?_)|go_size))⟩
 case round=>
  obtain⟨low,acc,rfl,HR,HO,hb⟩:=hrel
  obtain⟨n,rfl⟩:=HR.out.pos
  have hlo:=HR.out.lo
  have hlen:=HR.out.len
  have hz:=hb.size
  have C1:=Lib.hid (rfrom_any a low wr hb' hlo)
  obtain⟨A0,c0,rfl,_,_,_⟩:=HO.out.form
  have h50:(acc.length:Int)<5000:=by omega
  go_wp2_with fail
  refine(C1.out).mono ?_
  rintro e w1 ⟨rfl,hb1⟩
  unfold spV
  have hz1:=hb1.size
  have HX:Hid (hiN a low=9223372036854775807<->(spN a low).high=9223372036854775807):=Lib.hid (by show _<->((hiN a low:Nat):Int)=_;omega)
  have e7:(acc++[spN a low]).length=acc.length+1:=by simp
  have E7:=Lib.hid e7
  clear e7
  go_upto_region 6 with(first
   | (at_builtin
      refine apL tyRsp rfl (.tmp 12) (.tmp 14) rfl (((HO.out.keep hb1).alloc _).alloc _) rfl _ [spN a low] rfl (RdE.one_at (E:=spE 247) _ (spN a low) _ rfl _ rfl _ (by simp)) (by simp;omega) (by go_size) ?_
      intro v7 w7 o7 g7 _
      have x2:w7.cell? ⟨w1.heap.size,2,none⟩=some (.int .i64 (spN a low).high):=(World.cell?_of_block (a:=⟨w1.heap.size,2,none⟩) (g7.block w1.heap.size (by simp;omega) (fun e=>own_new HO.out hz1 e.symm))).trans (by simp[World.cell?_alloc_new])
      have HB8:Hid (Below w.heap.size w w7):=Lib.hid ((((hb.trans (hb1.mono hz)).alloc (by omega) _).alloc (by simp;omega) _).grown g7 (by simp;omega) (fun k e=>(HO.out.lt k e).1))
      have O7:=Lib.hid o7
      clear o7 g7))
  by_cases hh:hiN a low=9223372036854775807
  ·have hh':=HX.out.1 hh
   have HD:=Lib.hid (HR.out.done hh)
   clear hh
   generalize spN a low=s at *
   go_wp2_with fail
   go_ret
   exact⟨_,rfl,by rw[<-HD.out];exact O7.out,HB8.out⟩
  ·have hh':¬(spN a low).high=9223372036854775807:=fun h=>hh (HX.out.2 h)
   have HD:=Lib.hid (HR.out.more hh)
   have hle:=hi_le a low
   have HE:Hid ((spN a low).high=((hiN a low:Nat):Int)):=Lib.hid rfl
   clear hh
   generalize spN a low=s at *
   have hs0:0<=s.high:=by have:=HE.out;omega
   have hs1:s.high<=9223372036854775806:=by have:=HE.out;omega
   go_wp2_with fail
   go_roundg n
   case measure=>omega
   case rel=>exact⟨_,_,by rw[HE.out];go_num,HD,O7,HB8.out⟩
open Go.RowKit
open Go.RowKit
abbrev Ft:=Nat->Prop
def Gr(F:Ft)(w w':World):Ft:=fun k=>F k\/(w.heap.size<=k/\k<w'.heap.size)
section
variable {F G : Ft} {w w1 w2 : World}
theorem gr_lt(hF:∀k,F k->k<w.heap.size)(hz:w.heap.size<=w1.heap.size):∀k,Gr F w w1 k->k<w1.heap.size:=fun k h=>by
 rcases h with h|h
 ·have:=hF k h;omega
 ·exact h.2
theorem tgr(t1:Touch F w w1)(t2:Touch (Gr F w w1) w1 w2):Touch F w w2:=t1.trans t2 (fun _ h=>h.imp id And.left)
theorem tbl(t:Touch F w w1)(hb:Below w1.heap.size w1 w2):Touch F w w2:=t.trans (Touch.of_below (F:=F) hb (Nat.le_refl _)) (fun _ h=>.inl h)
theorem btl(hb:Below w.heap.size w w1)(t:Touch F w1 w2):Touch F w w2:=(Touch.of_below (F:=F) hb (Nat.le_refl _)).trans t (fun _ h=>.inl h)
theorem tnew(hb:Below w.heap.size w w1)(t:Touch G w1 w2)(hG:∀k,G k->w.heap.size<=k):Below w.heap.size w w2:=hb.trans (t.below hG hb.size)
end
structure Stay(P:Ft->World->Prop):Prop where
 stay:∀{F:Ft} {w w':World},P F w->(∀k,F k->w'.heap[k]?=w.heap[k]?)->w.heap.size<=w'.heap.size->P F w'
 more:∀{F G:Ft} {w:World},P F w->(∀k,F k->G k)->(∀k,G k->k<w.heap.size)->P G w
 low:∀{F:Ft} {w:World},P F w->∀k,F k->k<w.heap.size
theorem Stay.keep{P:Ft->World->Prop}(S:Stay P){F:Ft}{w w':World}(h:P F w)(hb:Below w.heap.size w w'):P F w':=S.stay h (fun k hk=>hb.block k (S.low h k hk)) hb.size
theorem Stay.far{P:Ft->World->Prop}(S:Stay P){F G:Ft}{w w':World}(h:P F w)(ht:Touch G w w')(hG:∀k,F k->¬G k):P F w':=S.stay h (fun k hk=>ht.block k (S.low h k hk) (hG k hk)) ht.size
theorem Stay.gr{P:Ft->World->Prop}(S:Stay P){F F':Ft}{w w':World}(hP:P F' w')(hF:∀k,F' k->F k\/w.heap.size<=k)(h0:∀k,F k->k<w.heap.size)(hz:w.heap.size<=w'.heap.size):P (Gr F w w') w':=
 S.more hP (fun k hk=>(hF k hk).imp id fun h=>⟨h,S.low hP k hk⟩) (gr_lt h0 hz)
open Go.RowKit
structure OkP(l:List Pr):Prop where
 srt:SrtP l
 pos:PosP l
 key:∀p∈l,-1048576<=p.1/\p.1<=1048576
 tot:tot l<=4611686018427387904
 len:l.length<=100000
def SpAt(g:Nat)(l:List Pr)(F:Ft)(w:World):Prop:=∃v,Blk w g 338 #[v,.int .u64 (tot l)]/\OwnE prE 0 w v l/\F g/\(∀k,v.ownBlock=some k->F k)/\∀k,F k->k<w.heap.size
theorem sp_stay(g:Nat)(l:List Pr):Stay (SpAt g l) where
 stay:=fun⟨v,h1,h2,h3,h4,h5⟩ hk hz=>⟨v,(hk g h3).trans h1,h2.stay fun k e=>hk k (h4 k e),h3,h4,fun k h=>Nat.lt_of_lt_of_le (h5 k h) hz⟩
 more:=fun⟨v,h1,h2,h3,h4,_⟩ h hl=>⟨v,h1,h2,h g h3,fun k e=>h k (h4 k e),hl⟩
 low:=fun⟨_,_,_,_,_,h5⟩=>h5
theorem pr_at{w:World}{A:Option Addr}{l:List Pr}(h:EForm prE w A l){j:Nat}(hj:j<l.length):∃g off,A=some ⟨g,off,none⟩/\g<w.heap.size/\w.cell? ⟨g,off+j * 2,none⟩=some (.int .i64 l[j].1)/\w.cell? ⟨g,off+j * 2+1,none⟩=some (.int .u64 l[j].2):=by
 obtain⟨g,off,e,hg,hc⟩:=h (by omega)
 exact⟨g,off,e,hg,hc j hj 0 (by decide),hc j hj 1 (by decide)⟩
theorem own_at{base g n c j:Nat}{l:List Pr}{w:World}(h:OwnE prE base w (.slice (some ⟨g,0,none⟩) n c) l)(hj:j<l.length) :
 w.cell? ⟨g,j * 2,none⟩=some (.int .i64 l[j].1)/\w.cell? ⟨g,j * 2+1,none⟩=some (.int .u64 l[j].2):=⟨h.cellAt hj 0 (by decide),h.cellAt hj 1 (by decide)⟩
theorem own_setN{base g n c j:Nat}{l:List Pr}{w:World}(h:OwnE prE base w (.slice (some ⟨g,0,none⟩) n c) l)(hj:j<l.length)(m:Int) :
 OwnE prE base (w.setCell ⟨g,j * 2+1,none⟩ (.int .u64 m)) (.slice (some ⟨g,0,none⟩) n c) (l.set j (l[j].1,m)):=by
 have hn:n=l.length:=by obtain⟨A,c',hv,_⟩:=h.form;injection hv
 subst hn
 have h1:=(World.ownsRow.stored h (j * 2+1) (.int .u64 m)).1
 have e:(cellsE prE l).set (j * 2+1) (.int .u64 m)=cellsE prE (l.set j (l[j].1,m)):=by
  have:=cellsE_set prE l j hj (l[j].1,m)
  rw[<-this]
  show _=((cellsE prE l).set (j * 2) (.int .i64 l[j].1)).set (j * 2+1) (.int .u64 m)
  congr 1
  refine(List.ext_getElem? fun i=>?_).symm
  rw[List.getElem?_set]
  split
  ·rename_i hi;subst hi
   have:=cellsE_get prE l j hj 0 (by decide)
   rw[show j * prE.k+0=j * 2 from rfl] at this
   rw[this]
   split
   ·rfl
   ·rename_i hx
    have h2:=cellsE_length prE l
    rw[h2] at hx
    exact absurd (show j * 2<l.length * 2 by omega) hx
  ·rfl
 rw[e] at h1
 unfold OwnE
 rw[List.length_set]
 exact h1
end Go.Proofs.YtingnldfpokckaaGreat.D
