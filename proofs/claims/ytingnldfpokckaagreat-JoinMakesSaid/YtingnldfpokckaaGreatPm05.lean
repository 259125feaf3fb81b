/- Parts of a proof: what its theorem reaches, words cut short. No condition of its own. -/
import Derived.Test.YtingnldfpokckaaGreatPm04
import Derived.Test.YtingnldfpokckaaGreatPm03
set_option maxRecDepth 100000
set_option maxHeartbeats 16000000
set_option linter.unusedVariables false
set_option linter.unusedSimpArgs false
namespace Go.Proofs.YtingnldfpokckaaGreat
open Go.RowKit Go.Lib
def IsD(w:World)(v:Value)(k:Nat)(X:Int):Prop:=∃g,v=.slice (some ⟨g,0,none⟩) k k/\IBlk w g 41 .u64 (digs k X)
theorem IsD.keep{w w':World}{v:Value}{k:Nat}{X:Int}(h:IsD w v k X)(hb:Below w.heap.size w w'):IsD w' v k X:=let ⟨g,hv,hg⟩:=h;⟨g,hv,hg.keep hb⟩
theorem digits_any(n:Int)(w:World)(n0:0<=n)(n1:n<18446744073709551616) :
 Calls Tryz.prog 377 #[.int .u64 n] w fun e w'=>∃v,e=.returned v/\IsD w' v 4 n/\Below w.heap.size w w':=by
 go_enter Tryz.func377,Tryz.ntmps377
 go_wp2
 go_ret
 refine⟨_,rfl,⟨w.heap.size,rfl,?_⟩,by(repeat' (first|(with_reducible exact Below.refl _ _)|(with_reducible refine Below.alloc ?_ ?_ _)|(with_reducible refine Below.drew ?_)|(with_reducible refine below_drewN ?_ _)|(with_reducible refine Below.setCell ?_ ?_ _)|(with_reducible refine below_of (by assumption) ?_ ?_)|go_size))⟩
 have:digs 4 n=[n % 65536,n / 65536 % 65536,n / 4294967296 % 65536,n / 281474976710656]:=by simp only[digs,List.cons.injEq,and_true,true_and];omega
 rw[IBlk,this]
 exact Blk.new w _ _
theorem rmul_any(a b:Int)(w:World)(a0:0<=a)(a1:a<18446744073709551616)(b0:0<=b)(b1:b<18446744073709551616) :
 Calls Tryz.prog 315 #[.int .u64 a,.int .u64 b] w fun e w'=>∃v,e=.returned v/\IsD w' v 8 (a * b)/\Below w.heap.size w w':=by
 have hmk:∀W:World,(Instr.makeSlice 173 (.int .i64 8) (.int .i64 8)).run Tryz.prog W=.ok (.slice (some ⟨W.heap.size,0,none⟩) 8 8) (W.alloc (.cells ((List.replicate 8 (0:Int)).map (Value.int .u64)).toArray 41)):=fun _=>by kernel_rfl
 obtain⟨L0,hL0⟩:∃L,List.replicate 8 (0:Int)=L:=⟨_,rfl⟩
 have st:=MulOut.start a b
 rw[hL0] at st hmk
 have ST:=Lib.hid st
 clear st hL0
 go_enter Tryz.func315,Tryz.ntmps315
 go_upto_region 2 with(first|(go_at_call_of 377 (Value.int .u64 a);refine(digits_any a _ a0 a1).mono ?_;rintro e w1 ⟨v1,rfl,d1,hb1⟩;have D1:=Lib.hid d1;clear d1)|(refine(digits_any b _ b0 b1).mono ?_;rintro e w2 ⟨v2,rfl,d2,hb2⟩;have D2:=Lib.hid d2;clear d2))
 obtain⟨gx,rfl,dx⟩:=D1.out.keep hb2
 obtain⟨gy,rfl,dy⟩:=D2.out
 have lx:=dx.lt
 have ly:=dy.lt
 have DX:=Lib.hid dx
 have DY:=Lib.hid dy
 have hb0:=below_of hb2 (by have:=hb1.size;omega) hb1
 have hz0:=hb0.size
 clear dx dy D1 D2 hb1 hb2
 go_wp2_with fail
 go_loopg [8] 4 (fun k i wr=>∃(m:Nat) (l:List Int),k=4 - m/\m<=4/\i=.int .i64 m/\MulOut a b m l/\IBlk wr w2.heap.size 41 .u64 l/\Below w2.heap.size w2 wr)
 case atStart=>exact⟨0,L0,rfl,by omega,rfl,ST.out,Blk.new _ _ _,by(repeat' (first|(with_reducible exact Below.refl _ _)|(with_reducible refine Below.alloc ?_ ?_ _)|(with_reducible refine Below.drew ?_)|(with_reducible refine below_drewN ?_ _)|(with_reducible refine Below.setCell ?_ ?_ _)|(with_reducible refine below_of (by assumption) ?_ ?_)|go_size))⟩
 case round=>
  obtain⟨m,l,hgk,hm,rfl,ho,hi,hb⟩:=hrel
  obtain⟨wo,rfl⟩:∃wo:World,wo=wr:=⟨_,rfl⟩
  have HG:=Lib.hid hgk
  have HI:=Lib.hid hi
  have hzo:=hb.size
  clear hi hgk
  by_cases h4:m<4
  ·have HO:=Lib.hid ho.into
   clear ho
   go_wp2_with fail
   go_loopg [9,10] 4 (fun k c i wr=>∃(q:Nat) (cc:Int) (l:List Int),k=4 - q/\q<=4/\c=.int .u64 cc/\i=.int .i64 q/\MulIn a b m q cc l/\IBlk wr w2.heap.size 41 .u64 l/\Below w2.heap.size w2 wr)
   case atStart=>exact⟨0,0,l,rfl,by omega,rfl,rfl,HO.out,HI.out,hb⟩
   case round=>
    obtain⟨q,cc,l,hgk,hq,rfl,rfl,hin,hi,hb⟩:=hrel
    have HG2:=Lib.hid hgk
    clear hgk
    have hl:=hin.len
    by_cases hq4:q<4
    ·have cl:=hi.cell (j:=m+q) (by omega)
     have fl:=hi.frozen (m+q)
     have cx:=(DX.out.below hb lx).cell (j:=m) (by rw[digs_length];omega)
     have cy:=(DY.out.below hb ly).cell (j:=q) (by rw[digs_length];omega)
     rw[digs_getD _ _ _ (by omega)] at cx cy
     have bl:=okD_getD hin.ok (m+q)
     have bm:=mul_small (dig_bd a m).1 (dig_bd a m).2 (dig_bd b q).1 (dig_bd b q).2
     have bc0:=hin.c0
     have bc1:=hin.c1
     have HN:=Lib.hid (hin.next hq4 h4)
     have HI2:=Lib.hid hi
     have n0:=HN.out.c0
     clear hin hi hl
     have hml:((m:Int)+(q:Int))<8:=by omega
     go_wp2_with fail
     go_quiet (fail)
     go_wp2_with fail
     go_roundg (4 - (q+1))
     case measure=>have:=HG2.out;omega
     case rel=>exact⟨q+1,_,_,rfl,by omega,rfl,by go_num,HN.out,(HI2.out.drewN _).set_ _ _,by(repeat' (first|(with_reducible exact Below.refl _ _)|(with_reducible refine Below.alloc ?_ ?_ _)|(with_reducible refine Below.drew ?_)|(with_reducible refine below_drewN ?_ _)|(with_reducible refine Below.setCell ?_ ?_ _)|(with_reducible refine below_of (by assumption) ?_ ?_)|go_size))⟩
    ·have hq':q=4:=by omega
     subst hq'
     have HN:=Lib.hid (hin.out h4 b0 b1)
     have cl:=hi.cell (j:=m+4) (by omega)
     have fl:=hi.frozen (m+4)
     have bl:=okD_getD hin.ok (m+4)
     have bc0:=hin.c0
     have bc1:=hin.c1
     have HI2:=Lib.hid hi
     clear hin hi hl
     have hml:((m:Int)+4)<8:=by omega
     go_wp2_with fail
     go_roundg (4 - (m+1))
     case measure=>have:=HG.out;omega
     case rel=>exact⟨m+1,_,rfl,by omega,by go_num,HN.out,HI2.out.set_ _ _,by(repeat' (first|(with_reducible exact Below.refl _ _)|(with_reducible refine Below.alloc ?_ ?_ _)|(with_reducible refine Below.drew ?_)|(with_reducible refine below_drewN ?_ _)|(with_reducible refine Below.setCell ?_ ?_ _)|(with_reducible refine below_of (by assumption) ?_ ?_)|go_size))⟩
  ·have hm':m=4:=by omega
   subst hm'
   have HF:=Lib.hid (ho.fin a0 a1)
   clear ho
   go_wp2_with fail
   go_ret
   exact⟨_,rfl,⟨w2.heap.size,rfl,by rw[<-HF.out];exact HI.out⟩,by(repeat' (first|(with_reducible exact Below.refl _ _)|(with_reducible refine Below.alloc ?_ ?_ _)|(with_reducible refine Below.drew ?_)|(with_reducible refine below_drewN ?_ _)|(with_reducible refine Below.setCell ?_ ?_ _)|(with_reducible refine below_of (by assumption) ?_ ?_)|go_size))⟩
theorem rdiv_any(v:Value)(X d:Int)(w:World)(hx:IsD w v 8 X)(x0:0<=X)(x1:X<340282366920938463463374607431768211456)(d0:0<d)(d1:d<18446744073709551616) :
 Calls Tryz.prog 314 #[v,.int .u64 d] w fun e w'=>∃v,e=.returned (.tuple #[v,.int .u64 (X % d)])/\IsD w' v 8 (X / d)/\Below w.heap.size w w':=by
 have hmk:∀W:World,(Instr.makeSlice 173 (.int .i64 8) (.int .i64 8)).run Tryz.prog W=.ok (.slice (some ⟨W.heap.size,0,none⟩) 8 8) (W.alloc (.cells ((digs 8 0).map (Value.int .u64)).toArray 41)):=fun _=>by kernel_rfl
 obtain⟨L0,hL0⟩:∃L,digs 8 0=L:=⟨_,rfl⟩
 rw[hL0] at hmk
 have HL:=Lib.hid hL0
 clear hL0
 obtain⟨gx,rfl,dx⟩:=hx
 have lx:=dx.lt
 have DX:=Lib.hid dx
 clear dx
 go_enter Tryz.func314,Tryz.ntmps314
 go_wp2_with fail
 go_loopg [7,8] 128 (fun k lv i wr=>∃(q left:Int),k<=128/\lv=.int .u64 left/\i=.int .i64 ((k:Int) - 1)/\DivAt X d k q left/\IBlk wr w.heap.size 41 .u64 (digs 8 (q * 2 ^ k))/\Below w.heap.size w wr)
 case atStart=>exact⟨0,0,by omega,rfl,rfl,DivAt.start X d x0 x1 d0,by rw[Int.zero_mul,HL.out];exact Blk.new _ _ _,by(repeat' (first|(with_reducible exact Below.refl _ _)|(with_reducible refine Below.alloc ?_ ?_ _)|(with_reducible refine Below.drew ?_)|(with_reducible refine below_drewN ?_ _)|(with_reducible refine Below.setCell ?_ ?_ _)|(with_reducible refine below_of (by assumption) ?_ ?_)|go_size))⟩
 case round=>
  obtain⟨q,left,hk,rfl,rfl,hd,hi,hb⟩:=hrel
  have hl0:=hd.l0
  have hl1:=hd.l1
  rcases Nat.eq_zero_or_pos gk with h0|h0
  ·subst h0
   have HI:=Lib.hid hi
   have HF:=Lib.hid hd.fin
   clear hi hd
   go_wp2_with fail
   go_ret2
   refine⟨_,by rw[<-HF.out.2];rfl,⟨w.heap.size,rfl,?_⟩,hb⟩
   rw[<-HF.out.1]
   simpa using HI.out
  ·obtain⟨j,rfl⟩:∃j,gk=j+1:=⟨gk - 1,by omega⟩
   have ej:(((j+1:Nat):Int) - 1)=(j:Int):=by omega
   rw[ej]
   have cx:=(DX.out.below hb lx).cell (j:=j / 16) (by rw[digs_length];omega)
   rw[digs_getD _ _ _ (by omega)] at cx
   have bx:=dig_bd X (j / 16)
   have p:=pow2_pos (j % 16)
   have bit:=dig_bit X j
   have bit0:0<=X / 2 ^ j % 2/\X / 2 ^ j % 2<=1:=by omega
   have sh0:0<=dig X (j / 16) / 2 ^ (j % 16):=Int.ediv_nonneg bx.1 (by omega)
   have hj:(j:Int)<128:=by omega
   obtain⟨sm1,sm2⟩:=hd.small x0 x1 d0
   have q0:=hd.q0
   have cl:=hi.cell (j:=j / 16) (by rw[digs_length];omega)
   rw[digs_getD _ _ _ (by omega)] at cl
   have fl:=hi.frozen (j / 16)
   have bl:=dig_bd (q * 2 ^ (j+1)) (j / 16)
   have HI:=Lib.hid hi
   have HD:=Lib.hid hd
   have HQ:Hid (2 * q * 2 ^ j=q * 2 ^ (j+1)):=by show _=_;rw[Int.pow_succ,Int.mul_comm 2 q,Int.mul_assoc,Int.mul_comm 2]
   have HQ1:Hid ((2 * q+1) * 2 ^ j=q * 2 ^ (j+1)+2 ^ j):=by show _=_;rw[Int.add_mul,Int.one_mul,HQ.out]
   clear hi hd
   by_cases hge:d<=2 * left+X / 2 ^ j % 2
   ·have hy:=HD.out.yes hge
    have hs:=hy.small x0 x1 d0
    obtain⟨hp1,hp2⟩:=digs_put q j (by omega) q0 (by rw[HQ1.out] at hs;exact hs.2)
    have HY:=Lib.hid hy
    have HP:=Lib.hid hp1
    have eL:IntKind.u64.wrap (IntKind.u64.wrap (IntKind.u64.wrap (2 * left)+X / 2 ^ j % 2) - d)=2 * left+X / 2 ^ j % 2 - d:=by simp only[u64w];omega
    have HE:=Lib.hid eL
    clear eL hy hs hp1 bit
    by_cases hh:9223372036854775808<=left
    ·have bit:=dig_bit X j
     go_wp2_with fail
     go_roundg j
     case measure=>omega
     case rel=>exact⟨2 * q+1,_,by omega,congrArg (Value.int IntKind.u64) HE.out,rfl,HY.out,by rw[HQ1.out,<-HP.out];exact HI.out.set_ _ _,by(repeat' (first|(with_reducible exact Below.refl _ _)|(with_reducible refine Below.alloc ?_ ?_ _)|(with_reducible refine Below.drew ?_)|(with_reducible refine below_drewN ?_ _)|(with_reducible refine Below.setCell ?_ ?_ _)|(with_reducible refine below_of (by assumption) ?_ ?_)|go_size))⟩
    ·have bit:=dig_bit X j
     go_wp2_with fail
     go_roundg j
     case measure=>omega
     case rel=>exact⟨2 * q+1,_,by omega,rfl,rfl,HY.out,by rw[HQ1.out,<-HP.out];exact HI.out.set_ _ _,by(repeat' (first|(with_reducible exact Below.refl _ _)|(with_reducible refine Below.alloc ?_ ?_ _)|(with_reducible refine Below.drew ?_)|(with_reducible refine below_drewN ?_ _)|(with_reducible refine Below.setCell ?_ ?_ _)|(with_reducible refine below_of (by assumption) ?_ ?_)|go_size))⟩
   ·have hn:=HD.out.no (by omega)
    have HN:=Lib.hid hn
    clear hn
    go_wp2_with fail
    go_roundg j
    case measure=>omega
    case rel=>exact⟨2 * q,_,by omega,rfl,rfl,HN.out,by rw[HQ.out];exact HI.out,by(repeat' (first|(with_reducible exact Below.refl _ _)|(with_reducible refine Below.alloc ?_ ?_ _)|(with_reducible refine Below.drew ?_)|(with_reducible refine below_drewN ?_ _)|(with_reducible refine Below.setCell ?_ ?_ _)|(with_reducible refine below_of (by assumption) ?_ ?_)|go_size))⟩
theorem number_any(v:Value)(X:Int)(fr:Nat)(f:Int)(w:World)(hx:IsD w v 8 X)(hf:f=(fr:Int))(hfr:fr<=4) :
 Calls Tryz.prog 316 #[v,.int .i64 f] w fun e w'=>e=.returned (.int .u64 (X / 65536 ^ fr % 18446744073709551616))/\Below w.heap.size w w':=by
 subst hf
 obtain⟨gx,rfl,dx⟩:=hx
 have lx:=dx.lt
 have DX:=Lib.hid dx
 clear dx
 go_enter Tryz.func316,Tryz.ntmps316
 go_wp2_with fail
 go_loopg [5,6] 4 (fun k n i wr=>k<=4/\n=.int .u64 (X / 65536 ^ (fr+k) % 65536 ^ (4 - k))/\i=.int .i64 ((fr:Int)+(k:Int) - 1)/\Below w.heap.size w wr)
 case atStart=>exact⟨by omega,by simp[Int.emod_one],by congr 1;omega,Below.refl _ _⟩
 case round=>
  obtain⟨hk,rfl,rfl,hb⟩:=hrel
  rcases Nat.eq_zero_or_pos gk with h0|h0
  ·subst h0
   go_wp2_with fail
   go_ret
   exact⟨rfl,by(repeat' (first|(with_reducible exact Below.refl _ _)|(with_reducible refine Below.alloc ?_ ?_ _)|(with_reducible refine Below.drew ?_)|(with_reducible refine below_drewN ?_ _)|(with_reducible refine Below.setCell ?_ ?_ _)|(with_reducible refine below_of (by assumption) ?_ ?_)|go_size))⟩
  ·obtain⟨j,rfl⟩:∃j,gk=j+1:=⟨gk - 1,by omega⟩
   have ej:((fr:Int)+((j+1:Nat):Int) - 1)=((fr+j:Nat):Int):=by omega
   rw[ej]
   have cx:=(DX.out.below hb lx).cell (j:=fr+j) (by rw[digs_length];omega)
   rw[digs_getD _ _ _ (by omega)] at cx
   have bx:=dig_bd X (fr+j)
   have HN:=Lib.hid (num_next X (fr+j) (3 - j))
   have p:=pow_pos' (4 - (j+1))
   have n0:0<=X / 65536 ^ (fr+(j+1)) % 65536 ^ (4 - (j+1)):=Int.emod_nonneg _ (by omega)
   have n1:X / 65536 ^ (fr+(j+1)) % 65536 ^ (4 - (j+1))<281474976710656:=by
    have h1:=Int.emod_lt_of_pos (X / 65536 ^ (fr+(j+1))) p
    have h2:(65536:Int) ^ (4 - (j+1))<=281474976710656:=by
     have:j=0\/j=1\/j=2\/j=3:=by omega
     rcases this with rfl|rfl|rfl|rfl<;>decide
    omega
   obtain⟨z,hz⟩:∃z,X / 65536 ^ (fr+(j+1)) % 65536 ^ (4 - (j+1))=z:=⟨_,rfl⟩
   rw[hz] at n0 n1 |-
   have HZ:=Lib.hid hz
   have hj8:(((fr+j:Nat):Int))<8:=by omega
   have hj9:(((fr+j:Nat):Int))=(fr:Int)+(j:Int):=by omega
   clear hz p
   go_wp2_with fail
   go_roundg j
   case measure=>omega
   case rel=>exact⟨by omega,congrArg (Value.int IntKind.u64) (by rw[show 4 - j=3 - j+1 by omega,HN.out,<-HZ.out,show 4 - (j+1)=3 - j by omega,Nat.add_assoc]),by congr 1;try omega,by(repeat' (first|(with_reducible exact Below.refl _ _)|(with_reducible refine Below.alloc ?_ ?_ _)|(with_reducible refine Below.drew ?_)|(with_reducible refine below_drewN ?_ _)|(with_reducible refine Below.setCell ?_ ?_ _)|(with_reducible refine below_of (by assumption) ?_ ?_)|go_size))⟩
theorem rmuldiv_any(a b d:Int)(w:World)(a0:0<=a)(a1:a<18446744073709551616)(b0:0<=b)(b1:b<18446744073709551616)(d0:0<d)(d1:d<18446744073709551616)(hq:a * b / d<18446744073709551616) :
 Calls Tryz.prog 245 #[.int .u64 a,.int .u64 b,.int .u64 d] w fun e w'=>e=.returned (.tuple #[.int .u64 (a * b / d),.int .u64 (a * b % d),.bool true])/\Below w.heap.size w w':=by
 obtain⟨m0,m1⟩:=mul_lt128 a0 a1 b0 b1
 have hd:(d == 0)=false:=by simp;omega
 have q0:0<=a * b / d:=Int.ediv_nonneg m0 (by omega)
 go_enter Tryz.func245,Tryz.ntmps245
 go_wp2_with fail
 refine(rmul_any a b _ a0 a1 b0 b1).mono ?_
 rintro e w1 ⟨v1,rfl,d1_,hb1⟩
 have D1:=Lib.hid d1_
 have hz1:=hb1.size
 clear d1_
 go_wp2_with fail
 refine(rdiv_any v1 (a * b) d _ D1.out m0 m1 d0 d1).mono ?_
 rintro e w2 ⟨v2,rfl,d2_,hb2⟩
 have D2:=Lib.hid d2_
 have hz2:=hb2.size
 clear d2_
 go_wp2_with fail
 refine(number_any v2 (a * b / d) 4 4 _ D2.out rfl (by omega)).mono ?_
 rw[show a * b / d / 65536 ^ 4 % 18446744073709551616=0 by omega]
 rintro e w3 ⟨rfl,hb3⟩
 have hz3:=hb3.size
 go_wp2_with fail
 refine(number_any v2 (a * b / d) 0 0 _ (D2.out.keep hb3) rfl (by omega)).mono ?_
 rw[show a * b / d / 65536 ^ 0 % 18446744073709551616=a * b / d by rw[Int.pow_zero,Int.ediv_one];omega]
 rintro e w4 ⟨rfl,hb4⟩
 have hz4:=hb4.size
 go_wp2_with fail
 go_ret3
 exact⟨rfl,by(repeat' (first|(with_reducible exact Below.refl _ _)|(with_reducible refine Below.alloc ?_ ?_ _)|(with_reducible refine Below.drew ?_)|(with_reducible refine below_drewN ?_ _)|(with_reducible refine Below.setCell ?_ ?_ _)|(with_reducible refine below_of (by assumption) ?_ ?_)|go_size))⟩
end Go.Proofs.YtingnldfpokckaaGreat
