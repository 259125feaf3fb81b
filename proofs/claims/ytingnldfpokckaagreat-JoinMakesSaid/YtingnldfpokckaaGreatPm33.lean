/- Parts of a proof: what its theorem reaches, words cut short. No condition of its own. -/
import Derived.Test.YtingnldfpokckaaGreatPm32
set_option maxRecDepth 100000
set_option maxHeartbeats 16000000
set_option linter.unusedVariables false
set_option linter.unusedSimpArgs false
namespace Go.Proofs.YtingnldfpokckaaGreat.D
open Go.RowKit Go.Lib
theorem wrightP_any(w:World):Calls Tryz.prog 199 #[.string ⟨#[87,87,87,87,81,81,81]⟩] w fun e w'=>e=.returned (.bool true)/\Below w.heap.size w w':=by
 have FOQ:=fun w=>Lib.hid (formOfk_any 6 81 8 w fl_Q)
 have FOW:=fun w=>Lib.hid (formOfk_any 4 87 4 w fl_W)
 go_enter Tryz.func199,Tryz.ntmps199
 go_wp2_with fail
 go_loopg [11] 7 (fun q i wr=>∃j:Nat,q=7 - j/\j<=7/\i=.int .i64 j/\Below w.heap.size w wr)
 case atStart=>exact⟨0,rfl,by omega,rfl,Below.refl _ _⟩
 case round=>
  obtain⟨j,hq,hj,rfl,hb⟩:=hrel
  have HQ:=Lib.hid hq
  have hz:=hb.size
  clear hq
  rcases(show j=0\/j=1\/j=2\/j=3\/j=4\/j=5\/j=6\/j=7 by omega) with rfl|rfl|rfl|rfl|rfl|rfl|rfl|rfl
  ·go_wp2_with (go_at_call 200;refine((FOW _).out).mono ?_;rintro e w1 ⟨rfl,hb1⟩;have hz1:=hb1.size)
   go_roundg 6
   case measure=>have:=HQ.out;omega
   case rel=>exact⟨1,rfl,by omega,by go_num,by(repeat' (first|(with_reducible exact Below.refl _ _)|(with_reducible refine Below.alloc ?_ ?_ _)|(with_reducible refine Below.drew ?_)|(with_reducible refine below_drewN ?_ _)|(with_reducible refine Below.setCell ?_ ?_ _)|(with_reducible refine below_of (by assumption) ?_ ?_)|go_size))⟩
  ·go_wp2_with (go_at_call 200;refine((FOW _).out).mono ?_;rintro e w1 ⟨rfl,hb1⟩;have hz1:=hb1.size)
   go_roundg 5
   case measure=>have:=HQ.out;omega
   case rel=>exact⟨2,rfl,by omega,by go_num,by(repeat' (first|(with_reducible exact Below.refl _ _)|(with_reducible refine Below.alloc ?_ ?_ _)|(with_reducible refine Below.drew ?_)|(with_reducible refine below_drewN ?_ _)|(with_reducible refine Below.setCell ?_ ?_ _)|(with_reducible refine below_of (by assumption) ?_ ?_)|go_size))⟩
  ·go_wp2_with (go_at_call 200;refine((FOW _).out).mono ?_;rintro e w1 ⟨rfl,hb1⟩;have hz1:=hb1.size)
   go_roundg 4
   case measure=>have:=HQ.out;omega
   case rel=>exact⟨3,rfl,by omega,by go_num,by(repeat' (first|(with_reducible exact Below.refl _ _)|(with_reducible refine Below.alloc ?_ ?_ _)|(with_reducible refine Below.drew ?_)|(with_reducible refine below_drewN ?_ _)|(with_reducible refine Below.setCell ?_ ?_ _)|(with_reducible refine below_of (by assumption) ?_ ?_)|go_size))⟩
  ·go_wp2_with (go_at_call 200;refine((FOW _).out).mono ?_;rintro e w1 ⟨rfl,hb1⟩;have hz1:=hb1.size)
   go_roundg 3
   case measure=>have:=HQ.out;omega
   case rel=>exact⟨4,rfl,by omega,by go_num,by(repeat' (first|(with_reducible exact Below.refl _ _)|(with_reducible refine Below.alloc ?_ ?_ _)|(with_reducible refine Below.drew ?_)|(with_reducible refine below_drewN ?_ _)|(with_reducible refine Below.setCell ?_ ?_ _)|(with_reducible refine below_of (by assumption) ?_ ?_)|go_size))⟩
  ·go_wp2_with (go_at_call 200;refine((FOQ _).out).mono ?_;rintro e w1 ⟨rfl,hb1⟩;have hz1:=hb1.size)
   go_roundg 2
   case measure=>have:=HQ.out;omega
   case rel=>exact⟨5,rfl,by omega,by go_num,by(repeat' (first|(with_reducible exact Below.refl _ _)|(with_reducible refine Below.alloc ?_ ?_ _)|(with_reducible refine Below.drew ?_)|(with_reducible refine below_drewN ?_ _)|(with_reducible refine Below.setCell ?_ ?_ _)|(with_reducible refine below_of (by assumption) ?_ ?_)|go_size))⟩
  ·go_wp2_with (go_at_call 200;refine((FOQ _).out).mono ?_;rintro e w1 ⟨rfl,hb1⟩;have hz1:=hb1.size)
   go_roundg 1
   case measure=>have:=HQ.out;omega
   case rel=>exact⟨6,rfl,by omega,by go_num,by(repeat' (first|(with_reducible exact Below.refl _ _)|(with_reducible refine Below.alloc ?_ ?_ _)|(with_reducible refine Below.drew ?_)|(with_reducible refine below_drewN ?_ _)|(with_reducible refine Below.setCell ?_ ?_ _)|(with_reducible refine below_of (by assumption) ?_ ?_)|go_size))⟩
  ·go_wp2_with (go_at_call 200;refine((FOQ _).out).mono ?_;rintro e w1 ⟨rfl,hb1⟩;have hz1:=hb1.size)
   go_roundg 0
   case measure=>have:=HQ.out;omega
   case rel=>exact⟨7,rfl,by omega,by go_num,by(repeat' (first|(with_reducible exact Below.refl _ _)|(with_reducible refine Below.alloc ?_ ?_ _)|(with_reducible refine Below.drew ?_)|(with_reducible refine below_drewN ?_ _)|(with_reducible refine Below.setCell ?_ ?_ _)|(with_reducible refine below_of (by assumption) ?_ ?_)|go_size))⟩
  ·go_wp2_with fail
   go_ret
   exact⟨rfl,hb⟩
def outsP(xa xb xc xd xe xf xg:Int):Nat->List Int
 | 0=>[]
 | 1=>beN 4 xa
 | 2=>beN 4 xa++beN 4 xb
 | 3=>beN 4 xa++beN 4 xb++beN 4 xc
 | 4=>beN 4 xa++beN 4 xb++beN 4 xc++beN 4 xd
 | 5=>beN 4 xa++beN 4 xb++beN 4 xc++beN 4 xd++beN 8 xe
 | 6=>beN 4 xa++beN 4 xb++beN 4 xc++beN 4 xd++beN 8 xe++beN 8 xf
 | _=>beN 4 xa++beN 4 xb++beN 4 xc++beN 4 xd++beN 8 xe++beN 8 xf++beN 8 xg
theorem outsP_len(xa xb xc xd xe xf xg:Int)(j:Nat):(outsP xa xb xc xd xe xf xg j).length<=70:=by
 have hxa:=beN_len 4 xa
 have hxb:=beN_len 4 xb
 have hxc:=beN_len 4 xc
 have hxd:=beN_len 4 xd
 have hxe:=beN_len 8 xe
 have hxf:=beN_len 8 xf
 have hxg:=beN_len 8 xg
 match j with
 | 0=>simp[outsP]
 | 1=>simp only[outsP,List.length_append,List.length_cons,List.length_nil];omega
 | 2=>simp only[outsP,List.length_append,List.length_cons,List.length_nil];omega
 | 3=>simp only[outsP,List.length_append,List.length_cons,List.length_nil];omega
 | 4=>simp only[outsP,List.length_append,List.length_cons,List.length_nil];omega
 | 5=>simp only[outsP,List.length_append,List.length_cons,List.length_nil];omega
 | 6=>simp only[outsP,List.length_append,List.length_cons,List.length_nil];omega
 | n+7=>simp only[outsP,List.length_append,List.length_cons,List.length_nil];omega
theorem wputP_any(xa xb xc xd xe xf xg:Int)(v:Value)(w:World)(hr:RdI .u64 w v [xa,xb,xc,xd,xe,xf,xg])(xa0:0<=xa)(xa1:xa<4294967296)(xb0:0<=xb)(xb1:xb<4294967296)(xc0:0<=xc)(xc1:xc<4294967296)(xd0:0<=xd)(xd1:xd<4294967296)(xe0:0<=xe)(xe1:xe<18446744073709551616)(xf0:0<=xf)(xf1:xf<18446744073709551616)(xg0:0<=xg)(xg1:xg<18446744073709551616) :
 Calls Tryz.prog 113 #[.string ⟨#[87,87,87,87,81,81,81]⟩,v] w fun e w'=>∃v,e=.returned (.tuple #[v,.int .i64 0])/\OwnB w.heap.size w' v (outsP xa xb xc xd xe xf xg 7)/\Below w.heap.size w w':=by
 obtain⟨AA,cn,rfl,hn,hc,hp⟩:=hr.form
 obtain⟨gn,on,rfl,hgn,hcn0⟩:=hp.at_ (j:=0) (by simp)
 obtain⟨g',o',e',_,hcn1⟩:=hp.at_ (j:=1) (by simp)
 simp only[Option.some.injEq,Addr.mk.injEq,and_true] at e'
 obtain⟨rfl,rfl⟩:=e'
 obtain⟨g',o',e',_,hcn2⟩:=hp.at_ (j:=2) (by simp)
 simp only[Option.some.injEq,Addr.mk.injEq,and_true] at e'
 obtain⟨rfl,rfl⟩:=e'
 obtain⟨g',o',e',_,hcn3⟩:=hp.at_ (j:=3) (by simp)
 simp only[Option.some.injEq,Addr.mk.injEq,and_true] at e'
 obtain⟨rfl,rfl⟩:=e'
 obtain⟨g',o',e',_,hcn4⟩:=hp.at_ (j:=4) (by simp)
 simp only[Option.some.injEq,Addr.mk.injEq,and_true] at e'
 obtain⟨rfl,rfl⟩:=e'
 obtain⟨g',o',e',_,hcn5⟩:=hp.at_ (j:=5) (by simp)
 simp only[Option.some.injEq,Addr.mk.injEq,and_true] at e'
 obtain⟨rfl,rfl⟩:=e'
 obtain⟨g',o',e',_,hcn6⟩:=hp.at_ (j:=6) (by simp)
 simp only[Option.some.injEq,Addr.mk.injEq,and_true] at e'
 obtain⟨rfl,rfl⟩:=e'
 simp only[List.length_cons,List.length_nil,List.getElem_cons_zero,List.getElem_cons_succ,Nat.add_zero] at hn hcn0 hcn1 hcn2 hcn3 hcn4 hcn5 hcn6 |-
 have CN0:=Lib.hid hcn0
 have CN1:=Lib.hid hcn1
 have CN2:=Lib.hid hcn2
 have CN3:=Lib.hid hcn3
 have CN4:=Lib.hid hcn4
 have CN5:=Lib.hid hcn5
 have CN6:=Lib.hid hcn6
 have FOQ:=fun w=>Lib.hid (formOfk_any 6 81 8 w fl_Q)
 have efQ:fPut 6=354:=rfl
 rw[efQ] at FOQ
 have FOW:=fun w=>Lib.hid (formOfk_any 4 87 4 w fl_W)
 have efW:fPut 4=354:=rfl
 rw[efW] at FOW
 have eghigh:∀args w,(callFunc 354 args).run Tryz.prog w=.ok (.enter 354 args) w:=fun _ _=>rfl
 have HO1:Hid (outsP xa xb xc xd xe xf xg 0++(beN 4 xa)=outsP xa xb xc xd xe xf xg 1):=Lib.hid rfl
 have HO2:Hid (outsP xa xb xc xd xe xf xg 1++(beN 4 xb)=outsP xa xb xc xd xe xf xg 2):=Lib.hid rfl
 have HO3:Hid (outsP xa xb xc xd xe xf xg 2++(beN 4 xc)=outsP xa xb xc xd xe xf xg 3):=Lib.hid rfl
 have HO4:Hid (outsP xa xb xc xd xe xf xg 3++(beN 4 xd)=outsP xa xb xc xd xe xf xg 4):=Lib.hid rfl
 have HO5:Hid (outsP xa xb xc xd xe xf xg 4++(beN 8 xe)=outsP xa xb xc xd xe xf xg 5):=Lib.hid rfl
 have HO6:Hid (outsP xa xb xc xd xe xf xg 5++(beN 8 xf)=outsP xa xb xc xd xe xf xg 6):=Lib.hid rfl
 have HO7:Hid (outsP xa xb xc xd xe xf xg 6++(beN 8 xg)=outsP xa xb xc xd xe xf xg 7):=Lib.hid rfl
 have HOL:=Lib.hid (outsP_len xa xb xc xd xe xf xg)
 have D0:Hid (xa / 4294967296=0):=Lib.hid (by omega)
 have D1:Hid (xb / 4294967296=0):=Lib.hid (by omega)
 have D2:Hid (xc / 4294967296=0):=Lib.hid (by omega)
 have D3:Hid (xd / 4294967296=0):=Lib.hid (by omega)
 clear hr hp efQ efW hcn0 hcn1 hcn2 hcn3 hcn4 hcn5 hcn6
 go_enter Tryz.func113,Tryz.ntmps113
 go_wp2_with fail
 refine(wrightP_any w).mono ?_
 rintro e w1 ⟨rfl,hb1⟩
 have hz1:=hb1.size
 go_wp2_with fail
 obtain⟨g,hg⟩:∃g,w1.heap.size=g:=⟨_,rfl⟩
 have W0:=Lib.hid (Wr.new 291 w1 w.heap.size hz1)
 have hb2:Below w.heap.size w (w1.alloc (.cells #[.slice none 0 0] 291)):=by(repeat' (first|(with_reducible exact Below.refl _ _)|(with_reducible refine Below.alloc ?_ ?_ _)|(with_reducible refine Below.drew ?_)|(with_reducible refine below_drewN ?_ _)|(with_reducible refine Below.setCell ?_ ?_ _)|(with_reducible refine below_of (by assumption) ?_ ?_)|go_size))
 rw[hg] at W0 |-
 generalize w1.alloc (.cells #[.slice none 0 0] 291)=w2 at *
 clear hg
 go_loopg [25] 7 (fun q i wr=>∃j:Nat,q=7 - j/\j<=7/\i=.int .i64 j/\Hid (Wr 291 w.heap.size wr g (outsP xa xb xc xd xe xf xg j))/\Below w.heap.size w wr)
 case atStart=>exact⟨0,rfl,by omega,rfl,W0,hb2⟩
 case round=>
  obtain⟨j,hq,hj,rfl,hw,hb⟩:=hrel
  have HQ:=Lib.hid hq
  have hz:=hb.size
  clear hq
  rcases(show j=0\/j=1\/j=2\/j=3\/j=4\/j=5\/j=6\/j=7 by omega) with rfl|rfl|rfl|rfl|rfl|rfl|rfl|rfl
  ·have cn':=(hb.cell (p:=⟨gn,on,none⟩) hgn).trans CN0.out
   have dq1:=D0.out
   have dq2:IntKind.i64.wrap 32=32:=rfl
   go_wp2_with (first
    | (go_at_call 200;refine((FOW _).out).mono ?_;rintro e w3 ⟨rfl,hb3⟩;have hz3:=hb3.size)
    | (go_at_fn 354;refine((whigh_any g w.heap.size 4 xa (outsP xa xb xc xd xe xf xg 0) _ ((hw.out.keep hb3).keep ((Below.refl _ _).alloc (Nat.le_refl _) _)) xa0 (by omega) (by omega) (by have:=HOL.out 0;omega)).mono ?_);rintro e w4 ⟨rfl,k1,k2⟩;have hz4:=k2.size;rw[HO1.out] at k1;have K1:=Lib.hid k1;clear k1))
   go_roundg 6
   case measure=>have:=HQ.out;omega
   case rel=>exact⟨1,rfl,by omega,by go_num,K1,by(repeat' (first|(with_reducible exact Below.refl _ _)|(with_reducible refine Below.alloc ?_ ?_ _)|(with_reducible refine Below.drew ?_)|(with_reducible refine below_drewN ?_ _)|(with_reducible refine Below.setCell ?_ ?_ _)|(with_reducible refine below_of (by assumption) ?_ ?_)|go_size))⟩
  ·have cn':=(hb.cell (p:=⟨gn,on+1,none⟩) hgn).trans CN1.out
   have dq1:=D1.out
   have dq2:IntKind.i64.wrap 32=32:=rfl
   go_wp2_with (first
    | (go_at_call 200;refine((FOW _).out).mono ?_;rintro e w3 ⟨rfl,hb3⟩;have hz3:=hb3.size)
    | (go_at_fn 354;refine((whigh_any g w.heap.size 4 xb (outsP xa xb xc xd xe xf xg 1) _ ((hw.out.keep hb3).keep ((Below.refl _ _).alloc (Nat.le_refl _) _)) xb0 (by omega) (by omega) (by have:=HOL.out 1;omega)).mono ?_);rintro e w4 ⟨rfl,k1,k2⟩;have hz4:=k2.size;rw[HO2.out] at k1;have K1:=Lib.hid k1;clear k1))
   go_roundg 5
   case measure=>have:=HQ.out;omega
   case rel=>exact⟨2,rfl,by omega,by go_num,K1,by(repeat' (first|(with_reducible exact Below.refl _ _)|(with_reducible refine Below.alloc ?_ ?_ _)|(with_reducible refine Below.drew ?_)|(with_reducible refine below_drewN ?_ _)|(with_reducible refine Below.setCell ?_ ?_ _)|(with_reducible refine below_of (by assumption) ?_ ?_)|go_size))⟩
  ·have cn':=(hb.cell (p:=⟨gn,on+2,none⟩) hgn).trans CN2.out
   have dq1:=D2.out
   have dq2:IntKind.i64.wrap 32=32:=rfl
   go_wp2_with (first
    | (go_at_call 200;refine((FOW _).out).mono ?_;rintro e w3 ⟨rfl,hb3⟩;have hz3:=hb3.size)
    | (go_at_fn 354;refine((whigh_any g w.heap.size 4 xc (outsP xa xb xc xd xe xf xg 2) _ ((hw.out.keep hb3).keep ((Below.refl _ _).alloc (Nat.le_refl _) _)) xc0 (by omega) (by omega) (by have:=HOL.out 2;omega)).mono ?_);rintro e w4 ⟨rfl,k1,k2⟩;have hz4:=k2.size;rw[HO3.out] at k1;have K1:=Lib.hid k1;clear k1))
   go_roundg 4
   case measure=>have:=HQ.out;omega
   case rel=>exact⟨3,rfl,by omega,by go_num,K1,by(repeat' (first|(with_reducible exact Below.refl _ _)|(with_reducible refine Below.alloc ?_ ?_ _)|(with_reducible refine Below.drew ?_)|(with_reducible refine below_drewN ?_ _)|(with_reducible refine Below.setCell ?_ ?_ _)|(with_reducible refine below_of (by assumption) ?_ ?_)|go_size))⟩
  ·have cn':=(hb.cell (p:=⟨gn,on+3,none⟩) hgn).trans CN3.out
   have dq1:=D3.out
   have dq2:IntKind.i64.wrap 32=32:=rfl
   go_wp2_with (first
    | (go_at_call 200;refine((FOW _).out).mono ?_;rintro e w3 ⟨rfl,hb3⟩;have hz3:=hb3.size)
    | (go_at_fn 354;refine((whigh_any g w.heap.size 4 xd (outsP xa xb xc xd xe xf xg 3) _ ((hw.out.keep hb3).keep ((Below.refl _ _).alloc (Nat.le_refl _) _)) xd0 (by omega) (by omega) (by have:=HOL.out 3;omega)).mono ?_);rintro e w4 ⟨rfl,k1,k2⟩;have hz4:=k2.size;rw[HO4.out] at k1;have K1:=Lib.hid k1;clear k1))
   go_roundg 3
   case measure=>have:=HQ.out;omega
   case rel=>exact⟨4,rfl,by omega,by go_num,K1,by(repeat' (first|(with_reducible exact Below.refl _ _)|(with_reducible refine Below.alloc ?_ ?_ _)|(with_reducible refine Below.drew ?_)|(with_reducible refine below_drewN ?_ _)|(with_reducible refine Below.setCell ?_ ?_ _)|(with_reducible refine below_of (by assumption) ?_ ?_)|go_size))⟩
  ·have cn':=(hb.cell (p:=⟨gn,on+4,none⟩) hgn).trans CN4.out
   go_wp2_with (first
    | (go_at_call 200;refine((FOQ _).out).mono ?_;rintro e w3 ⟨rfl,hb3⟩;have hz3:=hb3.size)
    | (go_at_fn 354;refine((whigh_any g w.heap.size 8 xe (outsP xa xb xc xd xe xf xg 4) _ ((hw.out.keep hb3).keep ((Below.refl _ _).alloc (Nat.le_refl _) _)) xe0 (by omega) (by omega) (by have:=HOL.out 4;omega)).mono ?_);rintro e w4 ⟨rfl,k1,k2⟩;have hz4:=k2.size;rw[HO5.out] at k1;have K1:=Lib.hid k1;clear k1))
   go_roundg 2
   case measure=>have:=HQ.out;omega
   case rel=>exact⟨5,rfl,by omega,by go_num,K1,by(repeat' (first|(with_reducible exact Below.refl _ _)|(with_reducible refine Below.alloc ?_ ?_ _)|(with_reducible refine Below.drew ?_)|(with_reducible refine below_drewN ?_ _)|(with_reducible refine Below.setCell ?_ ?_ _)|(with_reducible refine below_of (by assumption) ?_ ?_)|go_size))⟩
  ·have cn':=(hb.cell (p:=⟨gn,on+5,none⟩) hgn).trans CN5.out
   go_wp2_with (first
    | (go_at_call 200;refine((FOQ _).out).mono ?_;rintro e w3 ⟨rfl,hb3⟩;have hz3:=hb3.size)
    | (go_at_fn 354;refine((whigh_any g w.heap.size 8 xf (outsP xa xb xc xd xe xf xg 5) _ ((hw.out.keep hb3).keep ((Below.refl _ _).alloc (Nat.le_refl _) _)) xf0 (by omega) (by omega) (by have:=HOL.out 5;omega)).mono ?_);rintro e w4 ⟨rfl,k1,k2⟩;have hz4:=k2.size;rw[HO6.out] at k1;have K1:=Lib.hid k1;clear k1))
   go_roundg 1
   case measure=>have:=HQ.out;omega
   case rel=>exact⟨6,rfl,by omega,by go_num,K1,by(repeat' (first|(with_reducible exact Below.refl _ _)|(with_reducible refine Below.alloc ?_ ?_ _)|(with_reducible refine Below.drew ?_)|(with_reducible refine below_drewN ?_ _)|(with_reducible refine Below.setCell ?_ ?_ _)|(with_reducible refine below_of (by assumption) ?_ ?_)|go_size))⟩
  ·have cn':=(hb.cell (p:=⟨gn,on+6,none⟩) hgn).trans CN6.out
   go_wp2_with (first
    | (go_at_call 200;refine((FOQ _).out).mono ?_;rintro e w3 ⟨rfl,hb3⟩;have hz3:=hb3.size)
    | (go_at_fn 354;refine((whigh_any g w.heap.size 8 xg (outsP xa xb xc xd xe xf xg 6) _ ((hw.out.keep hb3).keep ((Below.refl _ _).alloc (Nat.le_refl _) _)) xg0 (by omega) (by omega) (by have:=HOL.out 6;omega)).mono ?_);rintro e w4 ⟨rfl,k1,k2⟩;have hz4:=k2.size;rw[HO7.out] at k1;have K1:=Lib.hid k1;clear k1))
   go_roundg 0
   case measure=>have:=HQ.out;omega
   case rel=>exact⟨7,rfl,by omega,by go_num,K1,by(repeat' (first|(with_reducible exact Below.refl _ _)|(with_reducible refine Below.alloc ?_ ?_ _)|(with_reducible refine Below.drew ?_)|(with_reducible refine below_drewN ?_ _)|(with_reducible refine Below.setCell ?_ ?_ _)|(with_reducible refine below_of (by assumption) ?_ ?_)|go_size))⟩
  ·obtain⟨hbg,v,hB,hO⟩:=hw.out
   have c0:=hB.cell 0
   simp only[List.getElem?_toArray,List.getElem?_cons_zero] at c0
   have HO:=Lib.hid hO
   clear hB hO
   go_wp2_with fail
   go_ret2
   exact⟨v,rfl,HO.out,hb⟩
end Go.Proofs.YtingnldfpokckaaGreat.D
