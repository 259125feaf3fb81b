/- Parts of a proof: what its theorem reaches, words cut short. No condition of its own. -/
import Derived.Test.YtkiebccnpheloaaGreatPv31
import Derived.Test.YtkiebccnpheloaaGreatPv30
set_option maxRecDepth 100000
set_option maxHeartbeats 16000000
set_option linter.unusedVariables false
set_option linter.unusedSimpArgs false
namespace Go.Proofs.YtkiebccnpheloaaGreat.D
open Go.RowKit Go.Lib
theorem wrightP_any(w:World):Calls Tryz.prog 247 #[.string ⟨#[87,87,87,87,81,81,81]⟩] w fun e w'=>e=.returned (.bool true)/\Below w.heap.size w w':=by
 have FOQ:=fun w=>Lib.hid (formOfk_any 6 81 8 w fl_Q)
 have FOW:=fun w=>Lib.hid (formOfk_any 4 87 4 w fl_W)
 go_enter Tryz.func247,Tryz.ntmps247
 go_wp2_with fail
 go_loopg [11] 7 (fun q i wr=>∃j:Nat,q=7 - j/\j<=7/\i=.int .i64 j/\Below w.heap.size w wr)
 case atStart=>exact⟨0,rfl,by omega,rfl,Below.refl _ _⟩
 case round=>
  obtain⟨j,hq,hj,rfl,hb⟩:=hrel
  have HQ:=Lib.hid hq
  have hz:=hb.size
  clear hq
  rcases(show j=0\/j=1\/j=2\/j=3\/j=4\/j=5\/j=6\/j=7 by omega) with rfl|rfl|rfl|rfl|rfl|rfl|rfl|rfl
  ·go_wp2_with (go_at_call 248;refine((FOW _).out).mono ?_;rintro e w1 ⟨rfl,hb1⟩;have hz1:=hb1.size)
   go_roundg 6
   case measure=>have:=HQ.out;omega
   case rel=>exact⟨1,rfl,by omega,by go_num,by(repeat' (first|(with_reducible exact Below.refl _ _)|(with_reducible refine Below.alloc ?_ ?_ _)|(with_reducible refine Below.drew ?_)|(with_reducible refine below_drewN ?_ _)|(with_reducible refine Below.setCell ?_ ?_ _)|(with_reducible refine below_of (by assumption) ?_ ?_)|go_size))⟩
  ·go_wp2_with (go_at_call 248;refine((FOW _).out).mono ?_;rintro e w1 ⟨rfl,hb1⟩;have hz1:=hb1.size)
   go_roundg 5
   case measure=>have:=HQ.out;omega
   case rel=>exact⟨2,rfl,by omega,by go_num,by(repeat' (first|(with_reducible exact Below.refl _ _)|(with_reducible refine Below.alloc ?_ ?_ _)|(with_reducible refine Below.drew ?_)|(with_reducible refine below_drewN ?_ _)|(with_reducible refine Below.setCell ?_ ?_ _)|(with_reducible refine below_of (by assumption) ?_ ?_)|go_size))⟩
  ·go_wp2_with (go_at_call 248;refine((FOW _).out).mono ?_;rintro e w1 ⟨rfl,hb1⟩;have hz1:=hb1.size)
   go_roundg 4
   case measure=>have:=HQ.out;omega
   case rel=>exact⟨3,rfl,by omega,by go_num,by(repeat' (first|(with_reducible exact Below.refl _ _)|(with_reducible refine Below.alloc ?_ ?_ _)|(with_reducible refine Below.drew ?_)|(with_reducible refine below_drewN ?_ _)|(with_reducible refine Below.setCell ?_ ?_ _)|(with_reducible refine below_of (by assumption) ?_ ?_)|go_size))⟩
  ·go_wp2_with (go_at_call 248;refine((FOW _).out).mono ?_;rintro e w1 ⟨rfl,hb1⟩;have hz1:=hb1.size)
   go_roundg 3
   case measure=>have:=HQ.out;omega
   case rel=>exact⟨4,rfl,by omega,by go_num,by(repeat' (first|(with_reducible exact Below.refl _ _)|(with_reducible refine Below.alloc ?_ ?_ _)|(with_reducible refine Below.drew ?_)|(with_reducible refine below_drewN ?_ _)|(with_reducible refine Below.setCell ?_ ?_ _)|(with_reducible refine below_of (by assumption) ?_ ?_)|go_size))⟩
  ·go_wp2_with (go_at_call 248;refine((FOQ _).out).mono ?_;rintro e w1 ⟨rfl,hb1⟩;have hz1:=hb1.size)
   go_roundg 2
   case measure=>have:=HQ.out;omega
   case rel=>exact⟨5,rfl,by omega,by go_num,by(repeat' (first|(with_reducible exact Below.refl _ _)|(with_reducible refine Below.alloc ?_ ?_ _)|(with_reducible refine Below.drew ?_)|(with_reducible refine below_drewN ?_ _)|(with_reducible refine Below.setCell ?_ ?_ _)|(with_reducible refine below_of (by assumption) ?_ ?_)|go_size))⟩
  ·go_wp2_with (go_at_call 248;refine((FOQ _).out).mono ?_;rintro e w1 ⟨rfl,hb1⟩;have hz1:=hb1.size)
   go_roundg 1
   case measure=>have:=HQ.out;omega
   case rel=>exact⟨6,rfl,by omega,by go_num,by(repeat' (first|(with_reducible exact Below.refl _ _)|(with_reducible refine Below.alloc ?_ ?_ _)|(with_reducible refine Below.drew ?_)|(with_reducible refine below_drewN ?_ _)|(with_reducible refine Below.setCell ?_ ?_ _)|(with_reducible refine below_of (by assumption) ?_ ?_)|go_size))⟩
  ·go_wp2_with (go_at_call 248;refine((FOQ _).out).mono ?_;rintro e w1 ⟨rfl,hb1⟩;have hz1:=hb1.size)
   go_roundg 0
   case measure=>have:=HQ.out;omega
   case rel=>exact⟨7,rfl,by omega,by go_num,by(repeat' (first|(with_reducible exact Below.refl _ _)|(with_reducible refine Below.alloc ?_ ?_ _)|(with_reducible refine Below.drew ?_)|(with_reducible refine below_drewN ?_ _)|(with_reducible refine Below.setCell ?_ ?_ _)|(with_reducible refine below_of (by assumption) ?_ ?_)|go_size))⟩
  ·go_wp2_with fail
   go_ret
   exact⟨rfl,hb⟩
def outsP(xa xb xc xd xe xf xg:Int):Nat->List Int
 | 0=>[]
 | 1=>beN 4 xa
 | 2=>beN 4 xa++beN 4 xb
 | 3=>beN 4 xa++beN 4 xb++beN 4 xc
 | 4=>beN 4 xa++beN 4 xb++beN 4 xc++beN 4 xd
 | 5=>beN 4 xa++beN 4 xb++beN 4 xc++beN 4 xd++beN 8 xe
 | 6=>beN 4 xa++beN 4 xb++beN 4 xc++beN 4 xd++beN 8 xe++beN 8 xf
 | _=>beN 4 xa++beN 4 xb++beN 4 xc++beN 4 xd++beN 8 xe++beN 8 xf++beN 8 xg
theorem outsP_len(xa xb xc xd xe xf xg:Int)(j:Nat):(outsP xa xb xc xd xe xf xg j).length<=70:=by
 have hxa:=beN_len 4 xa
 have hxb:=beN_len 4 xb
 have hxc:=beN_len 4 xc
 have hxd:=beN_len 4 xd
 have hxe:=beN_len 8 xe
 have hxf:=beN_len 8 xf
 have hxg:=beN_len 8 xg
 match j with
 | 0=>simp[outsP]
 | 1=>simp only[outsP,List.length_append,List.length_cons,List.length_nil];omega
 | 2=>simp only[outsP,List.length_append,List.length_cons,List.length_nil];omega
 | 3=>simp only[outsP,List.length_append,List.length_cons,List.length_nil];omega
 | 4=>simp only[outsP,List.length_append,List.length_cons,List.length_nil];omega
 | 5=>simp only[outsP,List.length_append,List.length_cons,List.length_nil];omega
 | 6=>simp only[outsP,List.length_append,List.length_cons,List.length_nil];omega
 | n+7=>simp only[outsP,List.length_append,List.length_cons,List.length_nil];omega
theorem wputP_any(xa xb xc xd xe xf xg:Int)(v:Value)(w:World)(hr:RdI .u64 w v [xa,xb,xc,xd,xe,xf,xg])(xa0:0<=xa)(xa1:xa<4294967296)(xb0:0<=xb)(xb1:xb<4294967296)(xc0:0<=xc)(xc1:xc<4294967296)(xd0:0<=xd)(xd1:xd<4294967296)(xe0:0<=xe)(xe1:xe<18446744073709551616)(xf0:0<=xf)(xf1:xf<18446744073709551616)(xg0:0<=xg)(xg1:xg<18446744073709551616) :
 Calls Tryz.prog 147 #[.string ⟨#[87,87,87,87,81,81,81]⟩,v] w fun e w'=>∃v,e=.returned (.tuple #[v,.int .i64 0])/\OwnB w.heap.size w' v (outsP xa xb xc xd xe xf xg 7)/\Below w.heap.size w w':=by
 obtain⟨AA,cn,rfl,hn,hc,hp⟩:=hr.form
 obtain⟨gn,on,rfl,hgn,hcn0⟩:=hp.at_ (j:=0) (by simp)
 obtain⟨g',o',e',_,hcn1⟩:=hp.at_ (j:=1) (by simp)
 simp only[Option.some.injEq,Addr.mk.injEq,and_true] at e'
 obtain⟨rfl,rfl⟩:=e'
 obtain⟨g',o',e',_,hcn2⟩:=hp.at_ (j:=2) (by simp)
 simp only[Option.some.injEq,Addr.mk.injEq,and_true] at e'
 obtain⟨rfl,rfl⟩:=e'
 obtain⟨g',o',e',_,hcn3⟩:=hp.at_ (j:=3) (by simp)
 simp only[Option.some.injEq,Addr.mk.injEq,and_true] at e'
 obtain⟨rfl,rfl⟩:=e'
 obtain⟨g',o',e',_,hcn4⟩:=hp.at_ (j:=4) (by simp)
 simp only[Option.some.injEq,Addr.mk.injEq,and_true] at e'
 obtain⟨rfl,rfl⟩:=e'
 obtain⟨g',o',e',_,hcn5⟩:=hp.at_ (j:=5) (by simp)
 simp only[Option.some.injEq,Addr.mk.injEq,and_true] at e'
 obtain⟨rfl,rfl⟩:=e'
 obtain⟨g',o',e',_,hcn6⟩:=hp.at_ (j:=6) (by simp)
 simp only[Option.some.injEq,Addr.mk.injEq,and_true] at e'
 obtain⟨rfl,rfl⟩:=e'
 simp only[List.length_cons,List.length_nil,List.getElem_cons_zero,List.getElem_cons_succ,Nat.add_zero] at hn hcn0 hcn1 hcn2 hcn3 hcn4 hcn5 hcn6 |-
 have CN0:=Lib.hid hcn0
 have CN1:=Lib.hid hcn1
 have CN2:=Lib.hid hcn2
 have CN3:=Lib.hid hcn3
 have CN4:=Lib.hid hcn4
 have CN5:=Lib.hid hcn5
 have CN6:=Lib.hid hcn6
 have FOQ:=fun w=>Lib.hid (formOfk_any 6 81 8 w fl_Q)
 have efQ:fPut 6=414:=rfl
 rw[efQ] at FOQ
 have FOW:=fun w=>Lib.hid (formOfk_any 4 87 4 w fl_W)
 have efW:fPut 4=414:=rfl
 rw[efW] at FOW
 have eghigh:∀args w,(callFunc 414 args).run Tryz.prog w=.ok (.enter 414 args) w:=fun _ _=>rfl
 have HO1:Hid (outsP xa xb xc xd xe xf xg 0++(beN 4 xa)=outsP xa xb xc xd xe xf xg 1):=Lib.hid rfl
 have HO2:Hid (outsP xa xb xc xd xe xf xg 1++(beN 4 xb)=outsP xa xb xc xd xe xf xg 2):=Lib.hid rfl
 have HO3:Hid (outsP xa xb xc xd xe xf xg 2++(beN 4 xc)=outsP xa xb xc xd xe xf xg 3):=Lib.hid rfl
 have HO4:Hid (outsP xa xb xc xd xe xf xg 3++(beN 4 xd)=outsP xa xb xc xd xe xf xg 4):=Lib.hid rfl
 have HO5:Hid (outsP xa xb xc xd xe xf xg 4++(beN 8 xe)=outsP xa xb xc xd xe xf xg 5):=Lib.hid rfl
 have HO6:Hid (outsP xa xb xc xd xe xf xg 5++(beN 8 xf)=outsP xa xb xc xd xe xf xg 6):=Lib.hid rfl
 have HO7:Hid (outsP xa xb xc xd xe xf xg 6++(beN 8 xg)=outsP xa xb xc xd xe xf xg 7):=Lib.hid rfl
 have HOL:=Lib.hid (outsP_len xa xb xc xd xe xf xg)
 have D0:Hid (xa / 4294967296=0):=Lib.hid (by omega)
 have D1:Hid (xb / 4294967296=0):=Lib.hid (by omega)
 have D2:Hid (xc / 4294967296=0):=Lib.hid (by omega)
 have D3:Hid (xd / 4294967296=0):=Lib.hid (by omega)
 clear hr hp efQ efW hcn0 hcn1 hcn2 hcn3 hcn4 hcn5 hcn6
 go_enter Tryz.func147,Tryz.ntmps147
 go_wp2_with fail
 refine(wrightP_any w).mono ?_
 rintro e w1 ⟨rfl,hb1⟩
 have hz1:=hb1.size
 go_wp2_with fail
 obtain⟨g,hg⟩:∃g,w1.heap.size=g:=⟨_,rfl⟩
 have W0:=Lib.hid (Wr.new 332 w1 w.heap.size hz1)
 have hb2:Below w.heap.size w (w1.alloc (.cells #[.slice none 0 0] 332)):=by(repeat' (first|(with_reducible exact Below.refl _ _)|(with_reducible refine Below.alloc ?_ ?_ _)|(with_reducible refine Below.drew ?_)|(with_reducible refine below_drewN ?_ _)|(with_reducible refine Below.setCell ?_ ?_ _)|(with_reducible refine below_of (by assumption) ?_ ?_)|go_size))
 rw[hg] at W0 |-
 generalize w1.alloc (.cells #[.slice none 0 0] 332)=w2 at *
 clear hg
 go_loopg [25] 7 (fun q i wr=>∃j:Nat,q=7 - j/\j<=7/\i=.int .i64 j/\Hid (Wr 332 w.heap.size wr g (outsP xa xb xc xd xe xf xg j))/\Below w.heap.size w wr)
 case atStart=>exact⟨0,rfl,by omega,rfl,W0,hb2⟩
 case round=>
  obtain⟨j,hq,hj,rfl,hw,hb⟩:=hrel
  have HQ:=Lib.hid hq
  have hz:=hb.size
  clear hq
  rcases(show j=0\/j=1\/j=2\/j=3\/j=4\/j=5\/j=6\/j=7 by omega) with rfl|rfl|rfl|rfl|rfl|rfl|rfl|rfl
  ·have cn':=(hb.cell (p:=⟨gn,on,none⟩) hgn).trans CN0.out
   have dq1:=D0.out
   have dq2:IntKind.i64.wrap 32=32:=rfl
   go_wp2_with (first
    | (go_at_call 248;refine((FOW _).out).mono ?_;rintro e w3 ⟨rfl,hb3⟩;have hz3:=hb3.size)
    | (go_at_fn 414;refine((whigh_any g w.heap.size 4 xa (outsP xa xb xc xd xe xf xg 0) _ ((hw.out.keep hb3).keep ((Below.refl _ _).alloc (Nat.le_refl _) _)) xa0 (by omega) (by omega) (by have:=HOL.out 0;omega)).mono ?_);rintro e w4 ⟨rfl,k1,k2⟩;have hz4:=k2.size;rw[HO1.out] at k1;have K1:=Lib.hid k1;clear k1))
   go_roundg 6
   case measure=>have:=HQ.out;omega
   case rel=>exact⟨1,rfl,by omega,by go_num,K1,by(repeat' (first|(with_reducible exact Below.refl _ _)|(with_reducible refine Below.alloc ?_ ?_ _)|(with_reducible refine Below.drew ?_)|(with_reducible refine below_drewN ?_ _)|(with_reducible refine Below.setCell ?_ ?_ _)|(with_reducible refine below_of (by assumption) ?_ ?_)|go_size))⟩
  ·have cn':=(hb.cell (p:=⟨gn,on+1,none⟩) hgn).trans CN1.out
   have dq1:=D1.out
   have dq2:IntKind.i64.wrap 32=32:=rfl
   go_wp2_with (first
    | (go_at_call 248;refine((FOW _).out).mono ?_;rintro e w3 ⟨rfl,hb3⟩;have hz3:=hb3.size)
    | (go_at_fn 414;refine((whigh_any g w.heap.size 4 xb (outsP xa xb xc xd xe xf xg 1) _ ((hw.out.keep hb3).keep ((Below.refl _ _).alloc (Nat.le_refl _) _)) xb0 (by omega) (by omega) (by have:=HOL.out 1;omega)).mono ?_);rintro e w4 ⟨rfl,k1,k2⟩;have hz4:=k2.size;rw[HO2.out] at k1;have K1:=Lib.hid k1;clear k1))
   go_roundg 5
   case measure=>have:=HQ.out;omega
   case rel=>exact⟨2,rfl,by omega,by go_num,K1,by(repeat' (first|(with_reducible exact Below.refl _ _)|(with_reducible refine Below.alloc ?_ ?_ _)|(with_reducible refine Below.drew ?_)|(with_reducible refine below_drewN ?_ _)|(with_reducible refine Below.setCell ?_ ?_ _)|(with_reducible refine below_of (by assumption) ?_ ?_)|go_size))⟩
  ·have cn':=(hb.cell (p:=⟨gn,on+2,none⟩) hgn).trans CN2.out
   have dq1:=D2.out
   have dq2:IntKind.i64.wrap 32=32:=rfl
   go_wp2_with (first
    | (go_at_call 248;refine((FOW _).out).mono ?_;rintro e w3 ⟨rfl,hb3⟩;have hz3:=hb3.size)
    | (go_at_fn 414;refine((whigh_any g w.heap.size 4 xc (outsP xa xb xc xd xe xf xg 2) _ ((hw.out.keep hb3).keep ((Below.refl _ _).alloc (Nat.le_refl _) _)) xc0 (by omega) (by omega) (by have:=HOL.out 2;omega)).mono ?_);rintro e w4 ⟨rfl,k1,k2⟩;have hz4:=k2.size;rw[HO3.out] at k1;have K1:=Lib.hid k1;clear k1))
   go_roundg 4
   case measure=>have:=HQ.out;omega
   case rel=>exact⟨3,rfl,by omega,by go_num,K1,by(repeat' (first|(with_reducible exact Below.refl _ _)|(with_reducible refine Below.alloc ?_ ?_ _)|(with_reducible refine Below.drew ?_)|(with_reducible refine below_drewN ?_ _)|(with_reducible refine Below.setCell ?_ ?_ _)|(with_reducible refine below_of (by assumption) ?_ ?_)|go_size))⟩
  ·have cn':=(hb.cell (p:=⟨gn,on+3,none⟩) hgn).trans CN3.out
   have dq1:=D3.out
   have dq2:IntKind.i64.wrap 32=32:=rfl
   go_wp2_with (first
    | (go_at_call 248;refine((FOW _).out).mono ?_;rintro e w3 ⟨rfl,hb3⟩;have hz3:=hb3.size)
    | (go_at_fn 414;refine((whigh_any g w.heap.size 4 xd (outsP xa xb xc xd xe xf xg 3) _ ((hw.out.keep hb3).keep ((Below.refl _ _).alloc (Nat.le_refl _) _)) xd0 (by omega) (by omega) (by have:=HOL.out 3;omega)).mono ?_);rintro e w4 ⟨rfl,k1,k2⟩;have hz4:=k2.size;rw[HO4.out] at k1;have K1:=Lib.hid k1;clear k1))
   go_roundg 3
   case measure=>have:=HQ.out;omega
   case rel=>exact⟨4,rfl,by omega,by go_num,K1,by(repeat' (first|(with_reducible exact Below.refl _ _)|(with_reducible refine Below.alloc ?_ ?_ _)|(with_reducible refine Below.drew ?_)|(with_reducible refine below_drewN ?_ _)|(with_reducible refine Below.setCell ?_ ?_ _)|(with_reducible refine below_of (by assumption) ?_ ?_)|go_size))⟩
  ·have cn':=(hb.cell (p:=⟨gn,on+4,none⟩) hgn).trans CN4.out
   go_wp2_with (first
    | (go_at_call 248;refine((FOQ _).out).mono ?_;rintro e w3 ⟨rfl,hb3⟩;have hz3:=hb3.size)
    | (go_at_fn 414;refine((whigh_any g w.heap.size 8 xe (outsP xa xb xc xd xe xf xg 4) _ ((hw.out.keep hb3).keep ((Below.refl _ _).alloc (Nat.le_refl _) _)) xe0 (by omega) (by omega) (by have:=HOL.out 4;omega)).mono ?_);rintro e w4 ⟨rfl,k1,k2⟩;have hz4:=k2.size;rw[HO5.out] at k1;have K1:=Lib.hid k1;clear k1))
   go_roundg 2
   case measure=>have:=HQ.out;omega
   case rel=>exact⟨5,rfl,by omega,by go_num,K1,by(repeat' (first|(with_reducible exact Below.refl _ _)|(with_reducible refine Below.alloc ?_ ?_ _)|(with_reducible refine Below.drew ?_)|(with_reducible refine below_drewN ?_ _)|(with_reducible refine Below.setCell ?_ ?_ _)|(with_reducible refine below_of (by assumption) ?_ ?_)|go_size))⟩
  ·have cn':=(hb.cell (p:=⟨gn,on+5,none⟩) hgn).trans CN5.out
   go_wp2_with (first
    | (go_at_call 248;refine((FOQ _).out).mono ?_;rintro e w3 ⟨rfl,hb3⟩;have hz3:=hb3.size)
    | (go_at_fn 414;refine((whigh_any g w.heap.size 8 xf (outsP xa xb xc xd xe xf xg 5) _ ((hw.out.keep hb3).keep ((Below.refl _ _).alloc (Nat.le_refl _) _)) xf0 (by omega) (by omega) (by have:=HOL.out 5;omega)).mono ?_);rintro e w4 ⟨rfl,k1,k2⟩;have hz4:=k2.size;rw[HO6.out] at k1;have K1:=Lib.hid k1;clear k1))
   go_roundg 1
   case measure=>have:=HQ.out;omega
   case rel=>exact⟨6,rfl,by omega,by go_num,K1,by(repeat' (first|(with_reducible exact Below.refl _ _)|(with_reducible refine Below.alloc ?_ ?_ _)|(with_reducible refine Below.drew ?_)|(with_reducible refine below_drewN ?_ _)|(with_reducible refine Below.setCell ?_ ?_ _)|(with_reducible refine below_of (by assumption) ?_ ?_)|go_size))⟩
  ·have cn':=(hb.cell (p:=⟨gn,on+6,none⟩) hgn).trans CN6.out
   go_wp2_with (first
    | (go_at_call 248;refine((FOQ _).out).mono ?_;rintro e w3 ⟨rfl,hb3⟩;have hz3:=hb3.size)
    | (go_at_fn 414;refine((whigh_any g w.heap.size 8 xg (outsP xa xb xc xd xe xf xg 6) _ ((hw.out.keep hb3).keep ((Below.refl _ _).alloc (Nat.le_refl _) _)) xg0 (by omega) (by omega) (by have:=HOL.out 6;omega)).mono ?_);rintro e w4 ⟨rfl,k1,k2⟩;have hz4:=k2.size;rw[HO7.out] at k1;have K1:=Lib.hid k1;clear k1))
   go_roundg 0
   case measure=>have:=HQ.out;omega
   case rel=>exact⟨7,rfl,by omega,by go_num,K1,by(repeat' (first|(with_reducible exact Below.refl _ _)|(with_reducible refine Below.alloc ?_ ?_ _)|(with_reducible refine Below.drew ?_)|(with_reducible refine below_drewN ?_ _)|(with_reducible refine Below.setCell ?_ ?_ _)|(with_reducible refine below_of (by assumption) ?_ ?_)|go_size))⟩
  ·obtain⟨hbg,v,hB,hO⟩:=hw.out
   have c0:=hB.cell 0
   simp only[List.getElem?_toArray,List.getElem?_cons_zero] at c0
   have HO:=Lib.hid hO
   clear hB hO
   go_wp2_with fail
   go_ret2
   exact⟨v,rfl,HO.out,hb⟩
open Go.RowKit Go.Lib Go.Shelf Go.Maps
open Go.RowKit Go.Lib Go.Shelf
open Go.RowKit Go.Lib Go.Shelf
def KeptB(g:Nat)(w w':World):Prop:=∀k T cs,Blk w k T cs->T≠5->k≠g->Blk w' k T cs
theorem ct1_any(x:Int)(g base:Nat)(bs:List Int)(w:World)(h:Wr 22 base w g bs)(h0:-9223372036854775808<=x)(h1:x<=9223372036854775807)(hl:bs.length<=1000000000000) :
 Calls Tryz.prog 353 #[.int .i64 x,.pointer (some ⟨g,0,none⟩)] w fun e w'=>e=.returned (.tuple #[])/\Wr 22 base w' g (bs++nn x)/\Below base w w'/\KeptB g w w':=by
 have hlt:=h.lt
 have H:=Lib.hid h
 have CP:Hid (∀(v:Value) (w1:World),RdI .u64 w1 v [ub x]->_):=Lib.hid (fun v w1 hr=>putn_any x v w1 hr h0 h1)
 have HU:Hid (IntKind.u64.wrap x=ub x):=Lib.hid rfl
 have hnl:=nn_len x
 clear h
 generalize nn x=N at *
 generalize ub x=u at *
 have hu:=HU.out
 go_enter Tryz.func353,Tryz.ntmps353
 go_wp2_with fail
 refine(CP.out _ _ (RdI.one_at _ _ _ _ _ rfl)).mono ?_
 rintro e w1 ⟨v1,rfl,o1,hb1⟩
 have hbA:Below base w (w.alloc (.cells #[.int .u64 u] 53)):=(Below.refl _ _).alloc (by omega) _
 have hbB:Below base w w1:=hbA.trans (hb1.mono (by simp;omega))
 obtain⟨hbg,v2,B2,O2⟩:=(H.out.keep ((Below.refl w.heap.size w).alloc (Nat.le_refl _) (.cells #[.int .u64 u] 53))).keep hb1
 have O1:=Lib.hid o1
 have HB2:=Lib.hid (And.intro B2 (And.intro hbg O2))
 have k0:=B2.cell 0
 simp only[List.getElem?_toArray,List.getElem?_cons_zero] at k0
 clear hu B2 O2 o1
 have hz1:=hbB.size
 go_wp2_with (at_builtin;refine apL tyB rfl (.tmp 12) (.tmp 13) rfl (ownB_E.1 HB2.out.2.2) rfl _ N rfl (ownB_E.1 O1.out).rd (by omega) (by omega) ?_;intro v6 w6 o6 g6 _;have P6:=Lib.hid (put_back (i:=0) HB2.out.1 (ownB_E.1 HB2.out.2.2) (by decide) g6 o6);have B6:=blk_grown HB2.out.1 (ownB_E.1 HB2.out.2.2) (by decide) g6;have KB6:Hid (∀k T cs,Blk w k T cs->T≠5->Blk w6 k T cs):=Lib.hid (fun k T cs hk hT=>blk_grown ((Blk.alloc hk (.cells #[.int .u64 u] 53)).keep hb1) (ownB_E.1 HB2.out.2.2) hT g6);have hb6:Below base w w6:=hbB.grown g6 (by omega) (fun k hk=>(OwnE.lt (ownB_E.1 HB2.out.2.2) k hk).1);have k0:=B6.cell 0;have f0:=B6.frozen 0;simp only[List.getElem?_toArray,List.getElem?_cons_zero] at k0;obtain⟨A6,c6,ev6,_,_,_⟩:=o6.form;obtain⟨n6,hn6⟩:∃z,(bs++N).length=z:=⟨_,rfl⟩;rw[hn6] at ev6;subst ev6;clear hn6 o6 g6)
 refine bodyPost_end (v:=.tuple #[]) (by simp[results,Tryz.results353,go_sem, *];try rfl) rfl ?_
 exact⟨rfl,⟨hbg,_,P6.out.1,ownB_E.2 P6.out.2⟩,hb6.setCell (by omega) _,fun k T cs hk hT hne=>(Below.heap_setCell w6 ⟨g,0,none⟩ _ k hne).trans (KB6.out k T cs hk hT)⟩
theorem ct2_any(n:Int)(g gp base:Nat)(bs:List Int)(w:World)(h:Wr 22 base w g bs)(hp:w.cell? ⟨gp,0,none⟩=some (.func (.func 353) #[] #[.pointer (some ⟨g,0,none⟩)]))(h0:-9223372036854775808<n)(h1:n<=9223372036854775807)(hl:bs.length<=1000000000000) :
 Calls Tryz.prog 354 #[.int .i64 n,.pointer (some ⟨gp,0,none⟩)] w fun e w'=>e=.returned (.tuple #[])/\Wr 22 base w' g (bs++nnB (gapN n))/\Below base w w'/\KeptB g w w':=by
 have H:=Lib.hid h
 have C0:=Lib.hid (ct1_any 0 g base bs w h (by omega) (by omega) hl)
 have CN:=Lib.hid (ct1_any (-n) g base bs w h (by omega) (by omega) hl)
 clear h
 by_cases n1:n=1
 ·subst n1
  have e:nnB (gapN 1)=nn 0:=by decide +kernel
  rw[e]
  go_enter Tryz.func354,Tryz.ntmps354
  go_wp2_with fail
  refine(C0.out).mono ?_
  rintro e w1 ⟨rfl,k1,k2,k3⟩
  go_wp2_with fail
  refine bodyPost_end (v:=.tuple #[]) (by simp[results,Tryz.results354,go_sem, *];try rfl) rfl ?_
  exact⟨rfl,k1,k2,k3⟩
 ·have n1':(n == 1)=false:=by simpa using n1
  by_cases n2:1<n
  ·have e:nnB (gapN n)=nn (-n):=by
    unfold gapN;rw[if_neg n1,if_pos n2];simp[nnB]
   have EW:Hid (IntKind.i64.wrap (-n)=-n):=Lib.hid (by rw[IntKind.wrap_i64];omega)
   have ew:=EW.out
   rw[e]
   go_enter Tryz.func354,Tryz.ntmps354
   go_wp2_with fail
   refine(CN.out).mono ?_
   rintro e w1 ⟨rfl,k1,k2,k3⟩
   go_wp2_with fail
   refine bodyPost_end (v:=.tuple #[]) (by simp[results,Tryz.results354,go_sem, *];try rfl) rfl ?_
   exact⟨rfl,k1,k2,k3⟩
  ·have e:nnB (gapN n)=[]:=by
    unfold gapN;rw[if_neg n1,if_neg n2];rfl
   rw[e,List.append_nil]
   go_enter Tryz.func354,Tryz.ntmps354
   go_wp2_with fail
   refine bodyPost_end (v:=.tuple #[]) (by simp[results,Tryz.results354,go_sem, *];try rfl) rfl ?_
   exact⟨rfl,H.out,Below.refl _ _,fun _ _ _ h _ _=>h⟩
theorem nmB_snoc:∀(l:List Pr) (a:Int) (p:Pr),nmB a (l++[p])=nmB a l++(gapN (p.1 - endH a l)++[p.2])
 | [],_,_=>by simp[nmB,endH]
 | q::l,a,p=>by rw[List.cons_append,nmB,nmB_snoc l,nmB,endH,List.append_assoc];rfl
theorem endH_snoc:∀(l:List Pr) (a:Int) (p:Pr),endH a (l++[p])=p.1+1
 | [],_,_=>rfl
 | q::l,a,p=>by rw[List.cons_append,endH,endH_snoc l]
theorem endH_bd{l:List Pr}(h:∀p∈l,0<=p.1/\p.1<=16777216):∀(a:Int),0<=a->a<=16777217->0<=endH a l/\endH a l<=16777217:=by
 induction l with
 | nil=>intro a h0 h1;exact⟨h0,h1⟩
 | cons p l ih=>
  intro a h0 h1
  have:=h p (List.mem_cons_self ..)
  exact ih (fun q hq=>h q (List.mem_cons_of_mem _ hq)) _ (by omega) (by omega)
theorem counts_any{lo hi dg u m bk:Nat}{gr:Bool}{l:List Pr}(v:Value)(w:World)(h:RdE prE w v l)(ok:HsOk lo hi dg u m gr bk l):Calls Tryz.prog 249 #[v] w fun e w'=>∃v',e=.returned v'/\OwnB w.heap.size w' v' (cntA l)/\Below w.heap.size w w':=by
 obtain⟨A,c,rfl,_,_,hf⟩:=h.form
 have HF:=Lib.hid hf
 have PB:=Lib.hid ok.pb
 have hlen:=ok.len
 have KB:=Lib.hid ok.kb
 clear h hf ok
 go_enter Tryz.func249,Tryz.ntmps249
 go_wp2_with fail
 obtain⟨g,hg⟩:∃g,w.heap.size=g:=⟨_,rfl⟩
 obtain⟨w2,hw2⟩:∃w2,(w.alloc (.cells #[.slice none 0 0] 22)).alloc (.cells #[.func (.func 353) #[] #[.pointer (some ⟨w.heap.size,0,none⟩)]] 448)=w2:=⟨_,rfl⟩
 have W0:Hid (Wr 22 w.heap.size w2 g []):=by rw[<-hw2,<-hg];exact Lib.hid ((Wr.new _ w w.heap.size (Nat.le_refl _)).keep ((Below.refl _ _).alloc (Nat.le_refl _) _))
 have P0:Hid (Blk w2 (g+1) 448 #[.func (.func 353) #[] #[.pointer (some ⟨g,0,none⟩)]]):=by
  rw[<-hw2,<-hg]
  have:=Blk.new (w.alloc (.cells #[.slice none 0 0] 22)) 448 #[.func (.func 353) #[] #[.pointer (some ⟨w.heap.size,0,none⟩)]]
  rw[World.size_alloc] at this
  exact Lib.hid this
 have hb2:Below w.heap.size w w2:=by rw[<-hw2];(repeat' (first|(with_reducible exact Below.refl _ _)|(with_reducible refine Below.alloc ?_ ?_ _)|(with_reducible refine Below.drew ?_)|(with_reducible refine below_drewN ?_ _)|(with_reducible refine Below.setCell ?_ ?_ _)|(with_reducible refine below_of (by assumption) ?_ ?_)|go_size))
 rw[hw2,hg]
 clear hw2
 have HG:=Lib.hid hg
 go_loopg [6,13] l.length (fun q s i wr=>∃j:Nat,q=l.length - j/\j<=l.length/\i=.int .i64 j/\s=.int .i64 (endH 0 (l.take j))/\Hid (Wr 22 g wr g (nnB (nmB 0 (l.take j))))/\Hid (Blk wr (g+1) 448 #[.func (.func 353) #[] #[.pointer (some ⟨g,0,none⟩)]])/\Below g w wr)
 case atStart=>exact⟨0,rfl,by omega,rfl,rfl,by rw[List.take_zero];rw[hg] at W0;exact W0,P0,by rw[hg] at hb2;exact hb2⟩
 case round=>
  obtain⟨j,hq,hj,rfl,rfl,HW,HP,hb⟩:=hrel
  have HQ:=Lib.hid hq
  have hz:=hb.size
  clear hq
  by_cases hlt:j<l.length
  ·obtain⟨gp,off,rfl,hgp,c0,c1⟩:=pr_at HF.out hlt
   have hb':Below w.heap.size w wr:=by rw[hg];exact hb
   have c0:=(hb'.cell (p:=⟨gp,off+j * 2,none⟩) hgp).trans c0
   have c1:=(hb'.cell (p:=⟨gp,off+j * 2+1,none⟩) hgp).trans c1
   have hji:(j:Int)<(l.length:Int):=by omega
   have hbd:=PB.out _ (List.getElem_mem hlt)
   have hed:=endH_bd (l:=l.take j) (fun p hp=>KB.out p (List.mem_of_mem_take hp)) 0 (by omega) (by omega)
   have hnl:=nnB_len (nmB 0 (l.take j))
   have hnm:=nmB_len (l.take j) 0
   have htl:(l.take j).length<=16777217:=by rw[List.length_take];omega
   have HTK:Hid (nnB (nmB 0 (l.take (j+1)))=nnB (nmB 0 (l.take j))++nnB (gapN (l[j].1 - endH 0 (l.take j)))++nn l[j].2/\endH 0 (l.take (j+1))=l[j].1+1):=Lib.hid (by
    rw[List.take_succ_eq_append_getElem hlt,nmB_snoc,endH_snoc,nnB_append,nnB_append,List.append_assoc]
    refine⟨?_,rfl⟩
    congr 2
    simp[nnB])
   generalize l[j].1=x at *
   generalize l[j].2=n at *
   generalize endH 0 (l.take j)=at_ at *
   generalize nnB (nmB 0 (l.take j))=BS at *
   have EX:Hid (IntKind.i64.wrap (x - at_)=x - at_/\wrap64 n=n/\IntKind.i64.wrap (x+1)=x+1):=Lib.hid ⟨by rw[IntKind.wrap_i64];omega,by unfold wrap64;omega,by rw[IntKind.wrap_i64];omega⟩
   have hgl:=gapN_len (x - at_)
   have hgl2:=nnB_len (gapN (x - at_))
   have C2:Hid (∀w3,Wr 22 g w3 g BS->w3.cell? ⟨g+1,0,none⟩=some (.func (.func 353) #[] #[.pointer (some ⟨g,0,none⟩)])->_):=Lib.hid (fun w3 h3 k3=>ct2_any (x - at_) g (g+1) g BS w3 h3 k3 (by omega) (by omega) (by omega))
   have C1:Hid (∀w3,Wr 22 g w3 g (BS++nnB (gapN (x - at_)))->_):=Lib.hid (fun w3 h3=>ct1_any n g g (BS++nnB (gapN (x - at_))) w3 h3 (by omega) (by omega) (by rw[List.length_append];omega))
   go_upto_region 8 with fail
   obtain⟨q0,hq0⟩:∃q0,wr.heap.size=q0:=⟨_,rfl⟩
   obtain⟨wp,hwp⟩:∃wp,wr.alloc (.cells #[.int .i64 x,.int .u64 n] 222)=wp:=⟨_,rfl⟩
   have PQ:Hid (Blk wp q0 222 #[.int .i64 x,.int .u64 n]):=by rw[<-hwp,<-hq0];exact Lib.hid (Blk.new _ _ _)
   have hba:Below wr.heap.size wr wp:=by rw[<-hwp];(repeat' (first|(with_reducible exact Below.refl _ _)|(with_reducible refine Below.alloc ?_ ?_ _)|(with_reducible refine Below.drew ?_)|(with_reducible refine below_drewN ?_ _)|(with_reducible refine Below.setCell ?_ ?_ _)|(with_reducible refine below_of (by assumption) ?_ ?_)|go_size))
   rw[hwp,hq0]
   have hgq:g<q0:=by have:=HW.out.lt;omega
   clear hwp hq0 c0 c1
   have WP:=Lib.hid (HW.out.keep hba)
   have PP:=Lib.hid (HP.out.keep hba)
   have k0:=PP.out.cell 0
   have p0:=PQ.out.cell 0
   simp only[List.getElem?_toArray,List.getElem?_cons_zero] at k0 p0
   obtain⟨e1,e2,e3⟩:=EX.out
   go_wp2_with fail
   refine(C2.out wp WP.out k0).mono ?_
   rintro e w3 ⟨rfl,W3,hb3,K3⟩
   have P3:=Lib.hid (K3 _ _ _ PP.out (by decide) (by omega))
   have Q3:=Lib.hid (K3 _ _ _ PQ.out (by decide) (by omega))
   have HW3:=Lib.hid W3
   clear W3 K3 k0 p0
   have k0:=P3.out.cell 0
   have p1:=Q3.out.cell 1
   simp only[List.getElem?_toArray,List.getElem?_cons_zero,List.getElem?_cons_succ] at k0 p1
   go_wp2_with fail
   refine(C1.out w3 HW3.out).mono ?_
   rintro e w4 ⟨rfl,W4,hb4,K4⟩
   have P4:=Lib.hid (K4 _ _ _ P3.out (by decide) (by omega))
   have Q4:=Lib.hid (K4 _ _ _ Q3.out (by decide) (by omega))
   have HW4:=Lib.hid W4
   clear W4 K4 k0 p1
   have p0:=Q4.out.cell 0
   simp only[List.getElem?_toArray,List.getElem?_cons_zero] at p0
   go_wp2_with fail
   go_roundg (l.length - (j+1))
   case measure=>have:=HQ.out;omega
   case rel=>exact⟨j+1,rfl,by omega,by go_num,by rw[HTK.out.2],by rw[HTK.out.1];exact HW4,P4,((hb.trans (hba.mono (by omega))).trans hb3).trans hb4⟩
  ·obtain rfl:j=l.length:=by omega
   have HW9:=HW
   rw[List.take_of_length_le (Nat.le_refl _)] at HW9
   clear HW
   by_cases hl0:l.length=0
   ·have e:l=[]:=List.eq_nil_of_length_eq_zero hl0
    subst e
    have C0:=Lib.hid (ct1_any 0 g g [] wr HW9.out (by omega) (by omega) (by simp))
    have k0:=HP.out.cell 0
    simp only[List.getElem?_toArray,List.getElem?_cons_zero] at k0
    go_wp2_with fail
    refine(C0.out).mono ?_
    rintro e w4 ⟨rfl,W4,hb4,K4⟩
    obtain⟨_,v4,B4,O4⟩:=W4
    have k1:=B4.cell 0
    simp only[List.getElem?_toArray,List.getElem?_cons_zero] at k1
    go_wp2_with fail
    go_ret
    exact⟨_,rfl,by rw[hg];simpa[cntA,nmA,nnB] using O4,by rw[hg];exact hb.trans hb4⟩
   ·have hl1:((l.length:Int) == 0)=false:=by simpa using hl0
    obtain⟨_,v4,B4,O4⟩:=HW9.out
    have k1:=B4.cell 0
    simp only[List.getElem?_toArray,List.getElem?_cons_zero] at k1
    have HO4:=Lib.hid O4
    clear B4 O4
    go_wp2_with fail
    go_ret
    have hne:l≠[]:=fun e=>hl0 (by rw[e];rfl)
    exact⟨_,rfl,by rw[hg];unfold cntA nmA;rw[if_neg hne];exact HO4.out,by rw[hg];exact hb⟩
end Go.Proofs.YtkiebccnpheloaaGreat.D
