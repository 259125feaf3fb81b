/- Parts of a proof: what its theorem reaches, words cut short. No condition of its own. -/
import Derived.Test.YtingnldfpokckaaGreatPm48
set_option maxRecDepth 100000
set_option maxHeartbeats 16000000
set_option linter.unusedVariables false
set_option linter.unusedSimpArgs false
namespace Go.Proofs.YtingnldfpokckaaGreat.D
open Go.RowKit Go.Lib
def leN(K:Nat)(n:Int):List Int:=(List.range K).map (fun i:Nat=>n / 2 ^ (8 * i) % 256)
theorem leN_len(K:Nat)(n:Int):(leN K n).length=K:=by simp[leN]
theorem leN_at{K j:Nat}(n:Int)(h:j<K):(leN K n)[j]?=some (n / 2 ^ (8 * j) % 256):=by simp[leN,h]
theorem fl_w:FL 3 119 4:=fl_of 3 119 4 (by decide)
theorem wlown_any(g base K:Nat)(n:Int)(bs:List Int)(w:World)(h:Wr 291 base w g bs)(n0:0<=n)(n1:n<18446744073709551616)(hK:K<=8)(hl:bs.length<=1000000000000) :
 Calls Tryz.prog 352 #[.pointer (some ⟨g,0,none⟩),.int .u64 n,.int .i64 K] w fun e w'=>e=.returned (.tuple #[])/\Wr 291 base w' g (bs++leN K n)/\Below base w w':=by
 have H:=Lib.hid h
 have hlt:=h.lt
 clear h
 go_enter Tryz.func352,Tryz.ntmps352
 go_wp2_with fail
 go_loopg [6,8] K (fun q _ i wr=>∃j:Nat,q=K - j/\j<=K/\i=.int .i64 (j:Int)/\Hid (Wr 291 base wr g (bs++(leN K n).take j))/\Below base w wr)
 case atStart=>exact⟨0,rfl,by omega,rfl,by rw[List.take_zero,List.append_nil];exact H,Below.refl _ _⟩
 case round=>
  obtain⟨j,hq,hj,rfl,hw,hb⟩:=hrel
  have HQ:=Lib.hid hq
  have hz:=hb.size
  clear hq
  by_cases hlj:j<K
  ·have hji:(j:Int)<(K:Int):=by omega
   obtain⟨s,hs⟩:∃s,8 * j=s:=⟨_,rfl⟩
   have hs64:s<64:=by omega
   have ES:Hid (IntKind.i64.wrap (8 * (j:Int))=(s:Int)):=Lib.hid (by rw[IntKind.wrap_i64];omega)
   have hbyte:(leN K n)[j]?=some (n / 2 ^ s % 256):=by rw[leN_at n hlj,hs]
   have eb:IntKind.u8.wrap (n / 2 ^ s)=n / 2 ^ s % 256:=rfl
   obtain⟨y,hy⟩:∃y,n / 2 ^ s % 256=y:=⟨_,rfl⟩
   rw[hy] at hbyte eb
   have HBT:Hid ((leN K n).take (j+1)=(leN K n).take j++[y]):=Lib.hid (by rw[List.take_add_one,hbyte];rfl)
   clear hy
   obtain⟨hbg,v,hB,hO⟩:=hw.out
   have HB:=Lib.hid hB
   have HO:=Lib.hid hO
   have hlen:(bs++(leN K n).take j).length+1<=1099511627776:=by
    have h1:=leN_len K n
    rw[List.length_append,List.length_take];omega
   clear hB hO hs hbyte
   have hsI:(s:Int)<64:=by omega
   have Bd:Blk wr.drew g 291 #[v]:=HB.out.drew
   generalize (leN K n).take j=T at *
   obtain⟨A0,k0,hv0,_,_,_⟩:=(OwnI.rd HO.out).form
   obtain⟨N0,hN0⟩:∃N,(bs++T).length=N:=⟨_,rfl⟩
   rw[hN0] at hv0
   subst hv0
   have HN0:=Lib.hid hN0
   clear hN0
   have HBa:Hid (Blk (wr.alloc (.cells #[.int .u8 y] 5)).drew g 291 #[.slice A0 N0 k0]):=Lib.hid (HB.out.alloc _).drew
   have HOa:Hid (OwnE bE base (wr.alloc (.cells #[.int .u8 y] 5)).drew (.slice A0 N0 k0) (bs++T)):=Lib.hid (OwnE.alloc (ownB_E.1 HO.out) _).drew
   have hba:Below base w (wr.alloc (.cells #[.int .u8 y] 5)).drew:=(hb.alloc (by omega) _).drew
   go_upto_region 3 with fail
   refine wp_region_planT (fun w'=>Blk w' g 291 #[.slice A0 N0 k0]) 12 [(0,true),(1,true),(2,true),(3,true),(4,true),(5,true),(6,true),(7,true),(8,true),(9,true),(10,false),(11,false)] (by kernel_rfl) (by kernel_rfl) (Bd) ?_
   iterate 10
    refine wpPlanT_read (by rfl) (by rfl) (fun R hR=>?_)
    apply Exists.intro
    refine⟨fun w' hS'=>?_,?_⟩
    ·have c0:=Blk.cell hS' 0
     simp only[List.getElem?_toArray,List.getElem?_cons_zero] at c0
     have es:=ES.out
     go_simp
     exact⟨rfl,rfl⟩
    go_simp
    refine hR _ ?_
    clear hR R
   refine wpPlanT_do (by rfl) (by rfl) (fun K hK=>?_)
   go_simp
   refine hK _ _ (Bd.alloc _) ?_
   clear hK K
   refine wpPlanT_do (by rfl) (by rfl) (fun K hK=>?_)
   refine apW tyB (.tmp 15) (.tmp 21) rfl HOa.out rfl _ [y] rfl (OwnE.one (E:=bE) wr.drew y _ rfl _ rfl).rd hlen (by go_size) ?_
   intro v1 w1 o1 g1 _
   have B1:=blk_grown HBa.out HOa.out (by decide) g1
   have hb1:Below base w w1:=hba.grown g1 (by have:=hba.size;omega) (fun k hk=>(OwnE.lt HOa.out k hk).1)
   have P1:=Lib.hid (put_back (i:=0) HBa.out HOa.out (by decide) g1 o1)
   obtain⟨A1,c1,ev1,_,_,_⟩:=o1.form
   obtain⟨N1,hN1⟩:∃N,(bs++T++[y]).length=N:=⟨_,rfl⟩
   rw[hN1] at ev1
   subst ev1
   clear hN1 o1 g1
   refine hK _ _ (B1) ?_
   clear hK K
   refine wpPlanT_nil ?_
   simp only[List.drop_succ_cons,List.drop_zero]
   have c0:=B1.cell 0
   have f0:=B1.frozen 0
   simp only[List.getElem?_toArray,List.getElem?_cons_zero] at c0
   go_wp2_with fail
   refine calm_normal ?_
   go_wp2_with fail
   go_roundg (K - (j+1))
   case measure=>have:=HQ.out;omega
   case rel=>
    refine⟨j+1,rfl,by omega,by go_num,?_,hb1.setCell (by omega) _⟩
    rw[HBT.out,<-List.append_assoc]
    exact Lib.hid ⟨hbg,_,P1.out.1,ownB_E.2 P1.out.2⟩
  ·obtain rfl:j=K:=by omega
   have hw9:=hw
   rw[List.take_of_length_le (by rw[leN_len];exact Nat.le_refl _)] at hw9
   go_wp2_with fail
   refine bodyPost_end (v:=.tuple #[]) (by simp[results,Tryz.results352,go_sem, *];try rfl) rfl ?_
   exact⟨rfl,hw9.out,hb⟩
theorem wrightw_any(w:World):Calls Tryz.prog 199 #[.string ⟨#[119]⟩] w fun e w'=>e=.returned (.bool true)/\Below w.heap.size w w':=by
 have FOw:=fun w=>Lib.hid (formOfk_any 3 119 4 w fl_w)
 go_enter Tryz.func199,Tryz.ntmps199
 go_wp2_with fail
 go_loopg [11] 1 (fun q i wr=>∃j:Nat,q=1 - j/\j<=1/\i=.int .i64 j/\Below w.heap.size w wr)
 case atStart=>exact⟨0,rfl,by omega,rfl,Below.refl _ _⟩
 case round=>
  obtain⟨j,hq,hj,rfl,hb⟩:=hrel
  have HQ:=Lib.hid hq
  have hz:=hb.size
  clear hq
  rcases(show j=0\/j=1 by omega) with rfl|rfl
  ·go_wp2_with (go_at_call 200;refine((FOw _).out).mono ?_;rintro e w1 ⟨rfl,hb1⟩;have hz1:=hb1.size)
   go_roundg 0
   case measure=>have:=HQ.out;omega
   case rel=>exact⟨1,rfl,by omega,by go_num,by(repeat' (first|(with_reducible exact Below.refl _ _)|(with_reducible refine Below.alloc ?_ ?_ _)|(with_reducible refine Below.drew ?_)|(with_reducible refine below_drewN ?_ _)|(with_reducible refine Below.setCell ?_ ?_ _)|(with_reducible refine below_of (by assumption) ?_ ?_)|go_size))⟩
  ·go_wp2_with fail
   go_ret
   exact⟨rfl,hb⟩
def outsw(xa:Int):Nat->List Int
 | 0=>[]
 | _=>leN 4 xa
theorem outsw_len(xa:Int)(j:Nat):(outsw xa j).length<=10:=by
 have hxa:=leN_len 4 xa
 match j with
 | 0=>simp[outsw]
 | n+1=>simp only[outsw,List.length_append,List.length_cons,List.length_nil];omega
theorem wputw_any(xa:Int)(v:Value)(w:World)(hr:RdI .u64 w v [xa])(xa0:0<=xa)(xa1:xa<4294967296) :
 Calls Tryz.prog 113 #[.string ⟨#[119]⟩,v] w fun e w'=>∃v,e=.returned (.tuple #[v,.int .i64 0])/\OwnB w.heap.size w' v (outsw xa 1)/\Below w.heap.size w w':=by
 obtain⟨AA,cn,rfl,hn,hc,hp⟩:=hr.form
 obtain⟨gn,on,rfl,hgn,hcn0⟩:=hp.at_ (j:=0) (by simp)
 simp only[List.length_cons,List.length_nil,List.getElem_cons_zero,List.getElem_cons_succ,Nat.add_zero] at hn hcn0 |-
 have CN0:=Lib.hid hcn0
 have FOw:=fun w=>Lib.hid (formOfk_any 3 119 4 w fl_w)
 have efw:fPut 3=352:=rfl
 rw[efw] at FOw
 have eglow:∀args w,(callFunc 352 args).run Tryz.prog w=.ok (.enter 352 args) w:=fun _ _=>rfl
 have HO1:Hid (outsw xa 0++(leN 4 xa)=outsw xa 1):=Lib.hid rfl
 have HOL:=Lib.hid (outsw_len xa)
 have D0:Hid (xa / 4294967296=0):=Lib.hid (by omega)
 clear hr hp efw hcn0
 go_enter Tryz.func113,Tryz.ntmps113
 go_wp2_with fail
 refine(wrightw_any w).mono ?_
 rintro e w1 ⟨rfl,hb1⟩
 have hz1:=hb1.size
 go_wp2_with fail
 obtain⟨g,hg⟩:∃g,w1.heap.size=g:=⟨_,rfl⟩
 have W0:=Lib.hid (Wr.new 291 w1 w.heap.size hz1)
 have hb2:Below w.heap.size w (w1.alloc (.cells #[.slice none 0 0] 291)):=by(repeat' (first|(with_reducible exact Below.refl _ _)|(with_reducible refine Below.alloc ?_ ?_ _)|(with_reducible refine Below.drew ?_)|(with_reducible refine below_drewN ?_ _)|(with_reducible refine Below.setCell ?_ ?_ _)|(with_reducible refine below_of (by assumption) ?_ ?_)|go_size))
 rw[hg] at W0 |-
 generalize w1.alloc (.cells #[.slice none 0 0] 291)=w2 at *
 clear hg
 go_loopg [25] 1 (fun q i wr=>∃j:Nat,q=1 - j/\j<=1/\i=.int .i64 j/\Hid (Wr 291 w.heap.size wr g (outsw xa j))/\Below w.heap.size w wr)
 case atStart=>exact⟨0,rfl,by omega,rfl,W0,hb2⟩
 case round=>
  obtain⟨j,hq,hj,rfl,hw,hb⟩:=hrel
  have HQ:=Lib.hid hq
  have hz:=hb.size
  clear hq
  rcases(show j=0\/j=1 by omega) with rfl|rfl
  ·have cn':=(hb.cell (p:=⟨gn,on,none⟩) hgn).trans CN0.out
   have dq1:=D0.out
   have dq2:IntKind.i64.wrap 32=32:=rfl
   go_wp2_with (first
    | (go_at_call 200;refine((FOw _).out).mono ?_;rintro e w3 ⟨rfl,hb3⟩;have hz3:=hb3.size)
    | (go_at_fn 352;refine((wlown_any g w.heap.size 4 xa (outsw xa 0) _ ((hw.out.keep hb3).keep ((Below.refl _ _).alloc (Nat.le_refl _) _)) xa0 (by omega) (by omega) (by have:=HOL.out 0;omega)).mono ?_);rintro e w4 ⟨rfl,k1,k2⟩;have hz4:=k2.size;rw[HO1.out] at k1;have K1:=Lib.hid k1;clear k1))
   go_roundg 0
   case measure=>have:=HQ.out;omega
   case rel=>exact⟨1,rfl,by omega,by go_num,K1,by(repeat' (first|(with_reducible exact Below.refl _ _)|(with_reducible refine Below.alloc ?_ ?_ _)|(with_reducible refine Below.drew ?_)|(with_reducible refine below_drewN ?_ _)|(with_reducible refine Below.setCell ?_ ?_ _)|(with_reducible refine below_of (by assumption) ?_ ?_)|go_size))⟩
  ·obtain⟨hbg,v,hB,hO⟩:=hw.out
   have c0:=hB.cell 0
   simp only[List.getElem?_toArray,List.getElem?_cons_zero] at c0
   have HO:=Lib.hid hO
   clear hB hO
   go_wp2_with fail
   go_ret2
   exact⟨v,rfl,HO.out,hb⟩
theorem wrightE_any(w:World):Calls Tryz.prog 199 #[.string ⟨#[98,98,118]⟩] w fun e w'=>e=.returned (.bool true)/\Below w.heap.size w w':=by
 have FOb:=fun w=>Lib.hid (formOfk_any 0 98 1 w fl_b)
 have FOv:=fun w=>Lib.hid (formOfk_any 7 118 0 w fl_v)
 go_enter Tryz.func199,Tryz.ntmps199
 go_wp2_with fail
 go_loopg [11] 3 (fun q i wr=>∃j:Nat,q=3 - j/\j<=3/\i=.int .i64 j/\Below w.heap.size w wr)
 case atStart=>exact⟨0,rfl,by omega,rfl,Below.refl _ _⟩
 case round=>
  obtain⟨j,hq,hj,rfl,hb⟩:=hrel
  have HQ:=Lib.hid hq
  have hz:=hb.size
  clear hq
  rcases(show j=0\/j=1\/j=2\/j=3 by omega) with rfl|rfl|rfl|rfl
  ·go_wp2_with (go_at_call 200;refine((FOb _).out).mono ?_;rintro e w1 ⟨rfl,hb1⟩;have hz1:=hb1.size)
   go_roundg 2
   case measure=>have:=HQ.out;omega
   case rel=>exact⟨1,rfl,by omega,by go_num,by(repeat' (first|(with_reducible exact Below.refl _ _)|(with_reducible refine Below.alloc ?_ ?_ _)|(with_reducible refine Below.drew ?_)|(with_reducible refine below_drewN ?_ _)|(with_reducible refine Below.setCell ?_ ?_ _)|(with_reducible refine below_of (by assumption) ?_ ?_)|go_size))⟩
  ·go_wp2_with (go_at_call 200;refine((FOb _).out).mono ?_;rintro e w1 ⟨rfl,hb1⟩;have hz1:=hb1.size)
   go_roundg 1
   case measure=>have:=HQ.out;omega
   case rel=>exact⟨2,rfl,by omega,by go_num,by(repeat' (first|(with_reducible exact Below.refl _ _)|(with_reducible refine Below.alloc ?_ ?_ _)|(with_reducible refine Below.drew ?_)|(with_reducible refine below_drewN ?_ _)|(with_reducible refine Below.setCell ?_ ?_ _)|(with_reducible refine below_of (by assumption) ?_ ?_)|go_size))⟩
  ·go_wp2_with (go_at_call 200;refine((FOv _).out).mono ?_;rintro e w1 ⟨rfl,hb1⟩;have hz1:=hb1.size)
   go_roundg 0
   case measure=>have:=HQ.out;omega
   case rel=>exact⟨3,rfl,by omega,by go_num,by(repeat' (first|(with_reducible exact Below.refl _ _)|(with_reducible refine Below.alloc ?_ ?_ _)|(with_reducible refine Below.drew ?_)|(with_reducible refine below_drewN ?_ _)|(with_reducible refine Below.setCell ?_ ?_ _)|(with_reducible refine below_of (by assumption) ?_ ?_)|go_size))⟩
  ·go_wp2_with fail
   go_ret
   exact⟨rfl,hb⟩
def outsE(xa xb xc:Int):Nat->List Int
 | 0=>[]
 | 1=>[xa]
 | 2=>[xa]++[xb]
 | _=>[xa]++[xb]++leb xc
theorem outsE_len(xa xb xc:Int)(j:Nat):(outsE xa xb xc j).length<=30:=by
 have hxc:=leb_len xc
 match j with
 | 0=>simp[outsE]
 | 1=>simp only[outsE,List.length_append,List.length_cons,List.length_nil];omega
 | 2=>simp only[outsE,List.length_append,List.length_cons,List.length_nil];omega
 | n+3=>simp only[outsE,List.length_append,List.length_cons,List.length_nil];omega
theorem wputE_any(xa xb xc:Int)(v:Value)(w:World)(hr:RdI .u64 w v [xa,xb,xc])(xa0:0<=xa)(xa1:xa<256)(xb0:0<=xb)(xb1:xb<256)(xc0:0<=xc)(xc1:xc<18446744073709551616) :
 Calls Tryz.prog 113 #[.string ⟨#[98,98,118]⟩,v] w fun e w'=>∃v,e=.returned (.tuple #[v,.int .i64 0])/\OwnB w.heap.size w' v (outsE xa xb xc 3)/\Below w.heap.size w w':=by
 obtain⟨AA,cn,rfl,hn,hc,hp⟩:=hr.form
 obtain⟨gn,on,rfl,hgn,hcn0⟩:=hp.at_ (j:=0) (by simp)
 obtain⟨g',o',e',_,hcn1⟩:=hp.at_ (j:=1) (by simp)
 simp only[Option.some.injEq,Addr.mk.injEq,and_true] at e'
 obtain⟨rfl,rfl⟩:=e'
 obtain⟨g',o',e',_,hcn2⟩:=hp.at_ (j:=2) (by simp)
 simp only[Option.some.injEq,Addr.mk.injEq,and_true] at e'
 obtain⟨rfl,rfl⟩:=e'
 simp only[List.length_cons,List.length_nil,List.getElem_cons_zero,List.getElem_cons_succ,Nat.add_zero] at hn hcn0 hcn1 hcn2 |-
 have CN0:=Lib.hid hcn0
 have CN1:=Lib.hid hcn1
 have CN2:=Lib.hid hcn2
 have FOb:=fun w=>Lib.hid (formOfk_any 0 98 1 w fl_b)
 have efb:fPut 0=352:=rfl
 rw[efb] at FOb
 have FOv:=fun w=>Lib.hid (formOfk_any 7 118 0 w fl_v)
 have efv:fPut 7=356:=rfl
 rw[efv] at FOv
 have egleb:∀args w,(callFunc 356 args).run Tryz.prog w=.ok (.enter 356 args) w:=fun _ _=>rfl
 have eglow:∀args w,(callFunc 352 args).run Tryz.prog w=.ok (.enter 352 args) w:=fun _ _=>rfl
 have HO1:Hid (outsE xa xb xc 0++[xa]=outsE xa xb xc 1):=Lib.hid rfl
 have HO2:Hid (outsE xa xb xc 1++[xb]=outsE xa xb xc 2):=Lib.hid rfl
 have HO3:Hid (outsE xa xb xc 2++(leb xc)=outsE xa xb xc 3):=Lib.hid rfl
 have HOL:=Lib.hid (outsE_len xa xb xc)
 have D0:Hid (xa / 256=0):=Lib.hid (by omega)
 have D1:Hid (xb / 256=0):=Lib.hid (by omega)
 clear hr hp efb efv hcn0 hcn1 hcn2
 go_enter Tryz.func113,Tryz.ntmps113
 go_wp2_with fail
 refine(wrightE_any w).mono ?_
 rintro e w1 ⟨rfl,hb1⟩
 have hz1:=hb1.size
 go_wp2_with fail
 obtain⟨g,hg⟩:∃g,w1.heap.size=g:=⟨_,rfl⟩
 have W0:=Lib.hid (Wr.new 291 w1 w.heap.size hz1)
 have hb2:Below w.heap.size w (w1.alloc (.cells #[.slice none 0 0] 291)):=by(repeat' (first|(with_reducible exact Below.refl _ _)|(with_reducible refine Below.alloc ?_ ?_ _)|(with_reducible refine Below.drew ?_)|(with_reducible refine below_drewN ?_ _)|(with_reducible refine Below.setCell ?_ ?_ _)|(with_reducible refine below_of (by assumption) ?_ ?_)|go_size))
 rw[hg] at W0 |-
 generalize w1.alloc (.cells #[.slice none 0 0] 291)=w2 at *
 clear hg
 go_loopg [25] 3 (fun q i wr=>∃j:Nat,q=3 - j/\j<=3/\i=.int .i64 j/\Hid (Wr 291 w.heap.size wr g (outsE xa xb xc j))/\Below w.heap.size w wr)
 case atStart=>exact⟨0,rfl,by omega,rfl,W0,hb2⟩
 case round=>
  obtain⟨j,hq,hj,rfl,hw,hb⟩:=hrel
  have HQ:=Lib.hid hq
  have hz:=hb.size
  clear hq
  rcases(show j=0\/j=1\/j=2\/j=3 by omega) with rfl|rfl|rfl|rfl
  ·have cn':=(hb.cell (p:=⟨gn,on,none⟩) hgn).trans CN0.out
   have dq1:=D0.out
   have dq2:IntKind.i64.wrap 8=8:=rfl
   go_wp2_with (first
    | (go_at_call 200;refine((FOb _).out).mono ?_;rintro e w3 ⟨rfl,hb3⟩;have hz3:=hb3.size)
    | (go_at_fn 352;refine((wlow1_any g w.heap.size xa (outsE xa xb xc 0) _ ((hw.out.keep hb3).keep ((Below.refl _ _).alloc (Nat.le_refl _) _)) xa0 xa1 (by have:=HOL.out 0;omega)).mono ?_);rintro e w4 ⟨rfl,k1,k2⟩;have hz4:=k2.size;rw[HO1.out] at k1;have K1:=Lib.hid k1;clear k1))
   go_roundg 2
   case measure=>have:=HQ.out;omega
   case rel=>exact⟨1,rfl,by omega,by go_num,K1,by(repeat' (first|(with_reducible exact Below.refl _ _)|(with_reducible refine Below.alloc ?_ ?_ _)|(with_reducible refine Below.drew ?_)|(with_reducible refine below_drewN ?_ _)|(with_reducible refine Below.setCell ?_ ?_ _)|(with_reducible refine below_of (by assumption) ?_ ?_)|go_size))⟩
  ·have cn':=(hb.cell (p:=⟨gn,on+1,none⟩) hgn).trans CN1.out
   have dq1:=D1.out
   have dq2:IntKind.i64.wrap 8=8:=rfl
   go_wp2_with (first
    | (go_at_call 200;refine((FOb _).out).mono ?_;rintro e w3 ⟨rfl,hb3⟩;have hz3:=hb3.size)
    | (go_at_fn 352;refine((wlow1_any g w.heap.size xb (outsE xa xb xc 1) _ ((hw.out.keep hb3).keep ((Below.refl _ _).alloc (Nat.le_refl _) _)) xb0 xb1 (by have:=HOL.out 1;omega)).mono ?_);rintro e w4 ⟨rfl,k1,k2⟩;have hz4:=k2.size;rw[HO2.out] at k1;have K1:=Lib.hid k1;clear k1))
   go_roundg 1
   case measure=>have:=HQ.out;omega
   case rel=>exact⟨2,rfl,by omega,by go_num,K1,by(repeat' (first|(with_reducible exact Below.refl _ _)|(with_reducible refine Below.alloc ?_ ?_ _)|(with_reducible refine Below.drew ?_)|(with_reducible refine below_drewN ?_ _)|(with_reducible refine Below.setCell ?_ ?_ _)|(with_reducible refine below_of (by assumption) ?_ ?_)|go_size))⟩
  ·have cn':=(hb.cell (p:=⟨gn,on+2,none⟩) hgn).trans CN2.out
   go_wp2_with (first
    | (go_at_call 200;refine((FOv _).out).mono ?_;rintro e w3 ⟨rfl,hb3⟩;have hz3:=hb3.size)
    | (go_at_fn 356;refine((wleb_any g w.heap.size xc 0 (outsE xa xb xc 2) _ ((hw.out.keep hb3).keep ((Below.refl _ _).alloc (Nat.le_refl _) _)) xc0 xc1 (by have:=HOL.out 2;omega)).mono ?_);rintro e w4 ⟨rfl,k1,k2⟩;have hz4:=k2.size;rw[HO3.out] at k1;have K1:=Lib.hid k1;clear k1))
   go_roundg 0
   case measure=>have:=HQ.out;omega
   case rel=>exact⟨3,rfl,by omega,by go_num,K1,by(repeat' (first|(with_reducible exact Below.refl _ _)|(with_reducible refine Below.alloc ?_ ?_ _)|(with_reducible refine Below.drew ?_)|(with_reducible refine below_drewN ?_ _)|(with_reducible refine Below.setCell ?_ ?_ _)|(with_reducible refine below_of (by assumption) ?_ ?_)|go_size))⟩
  ·obtain⟨hbg,v,hB,hO⟩:=hw.out
   have c0:=hB.cell 0
   simp only[List.getElem?_toArray,List.getElem?_cons_zero] at c0
   have HO:=Lib.hid hO
   clear hB hO
   go_wp2_with fail
   go_ret2
   exact⟨v,rfl,HO.out,hb⟩
open Go.RowKit Go.Lib
theorem rdB_E{w:World}{v:Value}{l:List Int}:RdI .u8 w v l<->RdE bE w v l:=by
 unfold RdI RdE
 rw[cells_b];rfl
def LsB(w:World)(g:Nat)(L:List (List Int)):Prop:=g<w.heap.size/\∀j (h:j<L.length),∃A c,w.cell? ⟨g,j,none⟩=some (.slice A (L[j]).length c)/\RdE bE w (.slice A (L[j]).length c) L[j]
theorem LsB.keep{w w':World}{g:Nat}{L:List (List Int)}(h:LsB w g L)(hb:Below w.heap.size w w'):LsB w' g L:=
 ⟨Nat.lt_of_lt_of_le h.1 hb.size,fun j hj=>by
  obtain⟨A,c,h1,h2⟩:=h.2 j hj
  exact⟨A,c,(hb.cell (p:=⟨g,j,none⟩) h.1).trans h1,h2.keep hb⟩⟩
theorem grow_b(n:Nat)(w:World)(hn:n<=1099511627776) :
 Calls Tryz.prog 267 #[.slice none 0 0,.int .i64 n] w fun e w'=>∃v,e=.returned v/\OwnE bE w.heap.size w' v []/\Below w.heap.size w w':=by
 obtain⟨i0,hi,hz0,hz1,hz2⟩:=info_parts bI
 by_cases h0:n=0
 ·subst h0
  go_enter Tryz.func267,Tryz.ntmps267
  go_wp2_with fail
  go_ret
  exact⟨_,rfl,OwnE.nil_ _ _,by(repeat' (first|(with_reducible exact Below.refl _ _)|(with_reducible refine Below.alloc ?_ ?_ _)|(with_reducible refine Below.drew ?_)|(with_reducible refine below_drewN ?_ _)|(with_reducible refine Below.setCell ?_ ?_ _)|(with_reducible refine below_of (by assumption) ?_ ?_)|go_size))⟩
 ·have hold:(Builtin.firstCells i0.size 0 (.slice none 0 0)).run Tryz.prog w.drew=.ok #[] w.drew:=run_firstCells_none w.drew i0.size 0 0 0
  have hrz:∀ty,(Builtin.append_ #[44,3] ty #[.slice none 0 0,.int .i64 (n:Int)]).run Tryz.prog w =
   .ok (.slice (some ⟨w.heap.size,0,none⟩) n (grownCap w n 0 5)) (w.drew.alloc (.cells (([]:List Value).toArray++Builtin.zeroCells (Value.int .u8 0).cells n++Builtin.zeroCells (Value.int .u8 0).cells (grownCap w n 0 5 - n)) 5)):=fun ty=>by
   have h:=Lib.run_append_grow_zeros w 44 3 ty 5 i0 _ .i64 .i64 Tryz.underlying44 Tryz.underlying3 hi hz0 none 0 0 [] hold n (by omega) (by omega) (by omega) (by omega) (by rw[hz2];omega) (growslice_fits (by omega) (by rw[hz2];omega))
   simpa using h
  have hGn:n<=grownCap w n 0 5:=grownCap_ge w _ _ _
  have hG63:grownCap w n 0 5<=maxLen:=grownCap_le_maxLen w n 0 5 (by unfold maxLen;omega)
  obtain⟨G,hG⟩:∃G,grownCap w n 0 5=G:=⟨_,rfl⟩
  rw[hG] at hrz hGn hG63
  obtain⟨Z,hZ⟩:∃Z:Array Value,(([]:List Value).toArray++Builtin.zeroCells (Value.int .u8 0).cells n++Builtin.zeroCells (Value.int .u8 0).cells (G - n))=Z:=⟨_,rfl⟩
  rw[hZ] at hrz
  have hZs:Z.size=G * 1:=by
   rw[<-hZ,Array.size_append,Array.size_append,size_zeroCells,size_zeroCells]
   simp only[Value.cells,List.size_toArray,List.length_cons,List.length_nil]
   omega
  have HZ:=Lib.hid hZs
  have HG:=Lib.hid hG63
  have hG':G<=9223372036854775807:=by unfold maxLen at hG63;omega
  clear hZ hZs hG hold hi hz0 hz1 hz2 hG63
  go_enter Tryz.func267,Tryz.ntmps267
  go_wp2_with (at_builtin;refine Lib.wpList_append_run _ rfl _ _ _ _ rfl _ _ rfl rfl _ _ (hrz _) ?_)
  go_ret
  refine⟨_,rfl,?_,by(repeat' (first|(with_reducible exact Below.refl _ _)|(with_reducible refine Below.alloc ?_ ?_ _)|(with_reducible refine Below.drew ?_)|(with_reducible refine below_drewN ?_ _)|(with_reducible refine Below.setCell ?_ ?_ _)|(with_reducible refine below_of (by assumption) ?_ ?_)|go_size))⟩
  exact⟨by simp[cellsE],.inr ⟨w.heap.size,G,Z,rfl,Nat.le_refl _,heap_alloc_new _ _,Nat.zero_le _,HG.out,HZ.out,by simp[cellsE]⟩⟩
theorem flatB_succ{L:List (List Int)}{i:Nat}(h:i<L.length):(L.take (i+1)).flatten=(L.take i).flatten++L[i]:=by
 rw[List.take_succ_eq_append_getElem h,List.flatten_append];simp
theorem flatB_le(L:List (List Int))(i:Nat):(L.take i).flatten.length<=L.flatten.length:=by
 have h:L.flatten=(L.take i).flatten++(L.drop i).flatten:=by rw[<-List.flatten_append,List.take_append_drop]
 rw[h,List.length_append];omega
theorem concat_b(g:Nat)(L:List (List Int))(w:World)(h:LsB w g L)(hL:L.length<=1000)(hlen:L.flatten.length<=1000000000) :
 Calls Tryz.prog 186 #[.slice (some ⟨g,0,none⟩) L.length L.length] w fun e w'=>∃v,e=.returned v/\OwnE bE w.heap.size w' v L.flatten/\Below w.heap.size w w':=by
 obtain⟨i0,hi0,hiz,his,hib⟩:=info_parts bI
 have HI:=Lib.hid hi0
 have HZ0:=Lib.hid hiz
 have HSZ:=Lib.hid his
 have HBY:=Lib.hid hib
 clear hi0 hiz his hib
 have H:=Lib.hid h
 clear h
 go_enter Tryz.func186,Tryz.ntmps186
 go_wp2_with fail
 go_loopg [3,5,11] L.length (fun q sz _ i wr=>(∃j z:Nat,q=L.length - j/\j<=L.length/\i=.int .i64 (j:Int)/\sz=.int .i64 (z:Int)/\Hid ((L.take j).flatten.length=z))/\w=wr)
 case atStart=>exact⟨⟨0,0,rfl,by omega,rfl,rfl,rfl⟩,rfl⟩
 case round=>
  obtain⟨⟨j,z,hk,hj,rfl,rfl,HZ⟩,rfl⟩:=hrel
  have HK:=Lib.hid hk
  clear hk
  have hz0:z<=1000000000:=by have:=flatB_le L j;have:=HZ.out;omega
  by_cases hlt:j<L.length
  ·obtain⟨sA,sc,c2,r0⟩:=H.out.2 j hlt
   have HT:Hid ((L.take (j+1)).flatten.length=z+(L[j]).length):=Lib.hid (by rw[flatB_succ hlt,List.length_append,HZ.out])
   have ht:z+(L[j]).length<=1000000000:=by have:=flatB_le L (j+1);have:=HT.out;omega
   obtain⟨x,hx⟩:∃x,(L[j]).length=x:=⟨_,rfl⟩
   rw[hx] at c2 HT ht
   clear r0 hx
   go_wp2_with fail
   go_roundg (L.length - (j+1))
   case measure=>have:=HK.out;omega
   case rel=>exact⟨⟨j+1,z+x,rfl,by omega,by go_num,by go_num,HT⟩,rfl⟩
  ·have hjL:j=L.length:=by omega
   clear HK
   go_wp2_with fail
   refine(grow_b z w (by omega)).mono ?_
   rintro e w1 ⟨v1,rfl,o1,hb1⟩
   have O1:=Lib.hid o1
   have HB1:=Lib.hid hb1
   clear o1 hb1
   go_wp2_with fail
   go_loopg [6,8,27] L.length (fun q ns _ i wx=>∃k:Nat,q=L.length - k/\k<=L.length/\i=.int .i64 (k:Int)/\Hid (OwnE bE w.heap.size wx ns (L.take k).flatten)/\Hid (Below w.heap.size w wx))
   case atStart=>exact⟨0,rfl,by omega,rfl,O1,HB1⟩
   case round=>
    obtain⟨k,hk,hk2,rfl,HO,HB2⟩:=hrel
    have HK:=Lib.hid hk
    have hz2:=HB2.out.size
    clear hk
    by_cases hlt2:k<L.length
    ·obtain⟨sA,sc,c2,r0⟩:=(H.out.keep HB2.out).2 k hlt2
     have R0:=Lib.hid r0
     have HT:=Lib.hid (flatB_succ hlt2)
     have ht:(L.take k).flatten.length+(L[k]).length<=1000000000:=by
      have h1:=flatB_le L (k+1)
      rw[HT.out,List.length_append] at h1
      omega
     obtain⟨l,hl⟩:∃l,L[k]=l:=⟨_,rfl⟩
     rw[hl] at c2 R0 HT ht
     obtain⟨o,ho⟩:∃o,(L.take k).flatten=o:=⟨_,rfl⟩
     rw[ho] at HO HT ht
     clear r0 hl ho
     obtain⟨A5,c5,rfl,_,_,_⟩:=HO.out.form
     go_wp2_with (at_builtin;refine apL tyB rfl (.tmp 31) (.tmp 32) rfl HO.out rfl _ l rfl R0.out (by omega) (by omega) ?_;intro v8 w8 o8 g8 a8)
     have HB8:Hid (Below w.heap.size w w8):=Lib.hid (HB2.out.grown g8 (by omega) (fun x hx=>(HO.out.lt x hx).1))
     have O8:=Lib.hid o8
     clear o8 g8 a8
     go_wp2_with fail
     go_roundg (L.length - (k+1))
     case measure=>have:=HK.out;omega
     case rel=>exact⟨k+1,rfl,by omega,by go_num,Lib.hid (by rw[HT.out];exact O8.out),HB8⟩
    ·obtain rfl:k=L.length:=by omega
     have ho:=HO.out
     rw[List.take_length] at ho
     have HO2:=Lib.hid ho
     clear ho HO
     go_wp2_with fail
     go_ret
     exact⟨_,rfl,HO2.out,HB2.out⟩
end Go.Proofs.YtingnldfpokckaaGreat.D
