/- Parts of a proof: what its theorem reaches, words cut short. No condition of its own. -/
import Derived.Test.YtingnldfpokckaaGreatPm20
set_option maxRecDepth 100000
set_option maxHeartbeats 16000000
set_option linter.unusedVariables false
set_option linter.unusedSimpArgs false
namespace Go.Proofs.YtingnldfpokckaaGreat.D
open Go.RowKit Go.Lib
theorem wright4_any(w:World):Calls Tryz.prog 199 #[.string ⟨#[118,118,118,118]⟩] w fun e w'=>e=.returned (.bool true)/\Below w.heap.size w w':=by
 have FO:=fun w=>Lib.hid (formOf_any 7 118 w vz_v)
 go_enter Tryz.func199,Tryz.ntmps199
 go_wp2_with fail
 go_loopg [11] 4 (fun q i wr=>∃j:Nat,q=4 - j/\j<=4/\i=.int .i64 j/\Below w.heap.size w wr)
 case atStart=>exact⟨0,rfl,by omega,rfl,Below.refl _ _⟩
 case round=>
  obtain⟨j,hq,hj,rfl,hb⟩:=hrel
  have HQ:=Lib.hid hq
  have hz:=hb.size
  clear hq
  rcases(show j=0\/j=1\/j=2\/j=3\/j=4 by omega) with rfl|rfl|rfl|rfl|rfl
  ·go_wp2_with (go_at_call 200;refine((FO _).out).mono ?_;rintro e w1 ⟨rfl,hb1⟩;have hz1:=hb1.size)
   go_roundg 3
   case measure=>have:=HQ.out;omega
   case rel=>exact⟨1,rfl,by omega,by go_num,by(repeat' (first|(with_reducible exact Below.refl _ _)|(with_reducible refine Below.alloc ?_ ?_ _)|(with_reducible refine Below.drew ?_)|(with_reducible refine below_drewN ?_ _)|(with_reducible refine Below.setCell ?_ ?_ _)|(with_reducible refine below_of (by assumption) ?_ ?_)|go_size))⟩
  ·go_wp2_with (go_at_call 200;refine((FO _).out).mono ?_;rintro e w1 ⟨rfl,hb1⟩;have hz1:=hb1.size)
   go_roundg 2
   case measure=>have:=HQ.out;omega
   case rel=>exact⟨2,rfl,by omega,by go_num,by(repeat' (first|(with_reducible exact Below.refl _ _)|(with_reducible refine Below.alloc ?_ ?_ _)|(with_reducible refine Below.drew ?_)|(with_reducible refine below_drewN ?_ _)|(with_reducible refine Below.setCell ?_ ?_ _)|(with_reducible refine below_of (by assumption) ?_ ?_)|go_size))⟩
  ·go_wp2_with (go_at_call 200;refine((FO _).out).mono ?_;rintro e w1 ⟨rfl,hb1⟩;have hz1:=hb1.size)
   go_roundg 1
   case measure=>have:=HQ.out;omega
   case rel=>exact⟨3,rfl,by omega,by go_num,by(repeat' (first|(with_reducible exact Below.refl _ _)|(with_reducible refine Below.alloc ?_ ?_ _)|(with_reducible refine Below.drew ?_)|(with_reducible refine below_drewN ?_ _)|(with_reducible refine Below.setCell ?_ ?_ _)|(with_reducible refine below_of (by assumption) ?_ ?_)|go_size))⟩
  ·go_wp2_with (go_at_call 200;refine((FO _).out).mono ?_;rintro e w1 ⟨rfl,hb1⟩;have hz1:=hb1.size)
   go_roundg 0
   case measure=>have:=HQ.out;omega
   case rel=>exact⟨4,rfl,by omega,by go_num,by(repeat' (first|(with_reducible exact Below.refl _ _)|(with_reducible refine Below.alloc ?_ ?_ _)|(with_reducible refine Below.drew ?_)|(with_reducible refine below_drewN ?_ _)|(with_reducible refine Below.setCell ?_ ?_ _)|(with_reducible refine below_of (by assumption) ?_ ?_)|go_size))⟩
  ·go_wp2_with fail
   go_ret
   exact⟨rfl,hb⟩
def outs4(a b c d:Int):Nat->List Int
 | 0=>[]
 | 1=>leb a
 | 2=>leb a++leb b
 | 3=>leb a++leb b++leb c
 | _=>leb a++leb b++leb c++leb d
theorem outs4_len(a b c d:Int)(j:Nat):(outs4 a b c d j).length<=40:=by
 have ha:=leb_len a
 have hb:=leb_len b
 have hc:=leb_len c
 have hd:=leb_len d
 match j with
 | 0=>simp[outs4]
 | 1=>simp only[outs4];omega
 | 2=>simp only[outs4,List.length_append];omega
 | 3=>simp only[outs4,List.length_append];omega
 | n+4=>simp only[outs4,List.length_append];omega
theorem wput4_any(a b c d:Int)(v:Value)(w:World)(hr:RdI .u64 w v [a,b,c,d])(a0:0<=a)(a1:a<18446744073709551616)(b0:0<=b)(b1:b<18446744073709551616)(c0:0<=c)(c1:c<18446744073709551616)(d0:0<=d)(d1:d<18446744073709551616) :
 Calls Tryz.prog 113 #[.string ⟨#[118,118,118,118]⟩,v] w fun e w'=>∃v,e=.returned (.tuple #[v,.int .i64 0])/\OwnB w.heap.size w' v (outs4 a b c d 4)/\Below w.heap.size w w':=by
 obtain⟨AA,cn,rfl,hn,hc,hp⟩:=hr.form
 obtain⟨gn,on,rfl,hgn,hcn0⟩:=hp.at_ (j:=0) (by simp)
 obtain⟨g',o',e',_,hcn1⟩:=hp.at_ (j:=1) (by simp)
 simp only[Option.some.injEq,Addr.mk.injEq,and_true] at e'
 obtain⟨rfl,rfl⟩:=e'
 obtain⟨g',o',e',_,hcn2⟩:=hp.at_ (j:=2) (by simp)
 simp only[Option.some.injEq,Addr.mk.injEq,and_true] at e'
 obtain⟨rfl,rfl⟩:=e'
 obtain⟨g',o',e',_,hcn3⟩:=hp.at_ (j:=3) (by simp)
 simp only[Option.some.injEq,Addr.mk.injEq,and_true] at e'
 obtain⟨rfl,rfl⟩:=e'
 simp only[List.length_cons,List.length_nil,List.getElem_cons_zero,List.getElem_cons_succ,Nat.add_zero] at hn hcn0 hcn1 hcn2 hcn3 |-
 have CN0:=Lib.hid hcn0
 have CN1:=Lib.hid hcn1
 have CN2:=Lib.hid hcn2
 have CN3:=Lib.hid hcn3
 have FO:=fun w=>Lib.hid (formOf_any 7 118 w vz_v)
 have HF:=Lib.hid (fun(g:Nat) (n:Int) (bs:List Int) (W:World) h n0 n1 hl=>wleb_any g w.heap.size n 0 bs W h n0 n1 hl)
 have eg:∀args w,(callFunc 356 args).run Tryz.prog w=.ok (.enter 356 args) w:=fun _ _=>rfl
 have HO1:Hid (outs4 a b c d 0++leb a=outs4 a b c d 1):=Lib.hid rfl
 have HO2:Hid (outs4 a b c d 1++leb b=outs4 a b c d 2):=Lib.hid rfl
 have HO3:Hid (outs4 a b c d 2++leb c=outs4 a b c d 3):=Lib.hid rfl
 have HO4:Hid (outs4 a b c d 3++leb d=outs4 a b c d 4):=Lib.hid rfl
 have HOL:=Lib.hid (outs4_len a b c d)
 have ef7:fPut 7=356:=rfl
 rw[ef7] at FO
 clear hr hp ef7 hcn0 hcn1 hcn2 hcn3
 go_enter Tryz.func113,Tryz.ntmps113
 go_wp2_with fail
 refine(wright4_any w).mono ?_
 rintro e w1 ⟨rfl,hb1⟩
 have hz1:=hb1.size
 go_wp2_with fail
 obtain⟨g,hg⟩:∃g,w1.heap.size=g:=⟨_,rfl⟩
 have W0:=Lib.hid (Wr.new 291 w1 w.heap.size hz1)
 have hb2:Below w.heap.size w (w1.alloc (.cells #[.slice none 0 0] 291)):=by(repeat' (first|(with_reducible exact Below.refl _ _)|(with_reducible refine Below.alloc ?_ ?_ _)|(with_reducible refine Below.drew ?_)|(with_reducible refine below_drewN ?_ _)|(with_reducible refine Below.setCell ?_ ?_ _)|(with_reducible refine below_of (by assumption) ?_ ?_)|go_size))
 rw[hg] at W0 |-
 generalize w1.alloc (.cells #[.slice none 0 0] 291)=w2 at *
 clear hg
 go_loopg [25] 4 (fun q i wr=>∃j:Nat,q=4 - j/\j<=4/\i=.int .i64 j/\Hid (Wr 291 w.heap.size wr g (outs4 a b c d j))/\Below w.heap.size w wr)
 case atStart=>exact⟨0,rfl,by omega,rfl,W0,hb2⟩
 case round=>
  obtain⟨j,hq,hj,rfl,hw,hb⟩:=hrel
  have HQ:=Lib.hid hq
  have hz:=hb.size
  clear hq
  rcases(show j=0\/j=1\/j=2\/j=3\/j=4 by omega) with rfl|rfl|rfl|rfl|rfl
  ·have cn':=(hb.cell (p:=⟨gn,on,none⟩) hgn).trans CN0.out
   go_wp2_with (first
    | (go_at_call 200;refine((FO _).out).mono ?_;rintro e w3 ⟨rfl,hb3⟩;have hz3:=hb3.size)
    | (go_at_fn 356;refine((HF.out g a (outs4 a b c d 0) _ ((hw.out.keep hb3).keep ((Below.refl _ _).alloc (Nat.le_refl _) _)) a0 a1 (by have:=HOL.out 0;omega)).mono ?_);rintro e w4 ⟨rfl,k1,k2⟩;have hz4:=k2.size;rw[HO1.out] at k1;have K1:=Lib.hid k1;clear k1))
   go_roundg 3
   case measure=>have:=HQ.out;omega
   case rel=>exact⟨1,rfl,by omega,by go_num,K1,by(repeat' (first|(with_reducible exact Below.refl _ _)|(with_reducible refine Below.alloc ?_ ?_ _)|(with_reducible refine Below.drew ?_)|(with_reducible refine below_drewN ?_ _)|(with_reducible refine Below.setCell ?_ ?_ _)|(with_reducible refine below_of (by assumption) ?_ ?_)|go_size))⟩
  ·have cn':=(hb.cell (p:=⟨gn,on+1,none⟩) hgn).trans CN1.out
   go_wp2_with (first
    | (go_at_call 200;refine((FO _).out).mono ?_;rintro e w3 ⟨rfl,hb3⟩;have hz3:=hb3.size)
    | (go_at_fn 356;refine((HF.out g b (outs4 a b c d 1) _ ((hw.out.keep hb3).keep ((Below.refl _ _).alloc (Nat.le_refl _) _)) b0 b1 (by have:=HOL.out 1;omega)).mono ?_);rintro e w4 ⟨rfl,k1,k2⟩;have hz4:=k2.size;rw[HO2.out] at k1;have K1:=Lib.hid k1;clear k1))
   go_roundg 2
   case measure=>have:=HQ.out;omega
   case rel=>exact⟨2,rfl,by omega,by go_num,K1,by(repeat' (first|(with_reducible exact Below.refl _ _)|(with_reducible refine Below.alloc ?_ ?_ _)|(with_reducible refine Below.drew ?_)|(with_reducible refine below_drewN ?_ _)|(with_reducible refine Below.setCell ?_ ?_ _)|(with_reducible refine below_of (by assumption) ?_ ?_)|go_size))⟩
  ·have cn':=(hb.cell (p:=⟨gn,on+2,none⟩) hgn).trans CN2.out
   go_wp2_with (first
    | (go_at_call 200;refine((FO _).out).mono ?_;rintro e w3 ⟨rfl,hb3⟩;have hz3:=hb3.size)
    | (go_at_fn 356;refine((HF.out g c (outs4 a b c d 2) _ ((hw.out.keep hb3).keep ((Below.refl _ _).alloc (Nat.le_refl _) _)) c0 c1 (by have:=HOL.out 2;omega)).mono ?_);rintro e w4 ⟨rfl,k1,k2⟩;have hz4:=k2.size;rw[HO3.out] at k1;have K1:=Lib.hid k1;clear k1))
   go_roundg 1
   case measure=>have:=HQ.out;omega
   case rel=>exact⟨3,rfl,by omega,by go_num,K1,by(repeat' (first|(with_reducible exact Below.refl _ _)|(with_reducible refine Below.alloc ?_ ?_ _)|(with_reducible refine Below.drew ?_)|(with_reducible refine below_drewN ?_ _)|(with_reducible refine Below.setCell ?_ ?_ _)|(with_reducible refine below_of (by assumption) ?_ ?_)|go_size))⟩
  ·have cn':=(hb.cell (p:=⟨gn,on+3,none⟩) hgn).trans CN3.out
   go_wp2_with (first
    | (go_at_call 200;refine((FO _).out).mono ?_;rintro e w3 ⟨rfl,hb3⟩;have hz3:=hb3.size)
    | (go_at_fn 356;refine((HF.out g d (outs4 a b c d 3) _ ((hw.out.keep hb3).keep ((Below.refl _ _).alloc (Nat.le_refl _) _)) d0 d1 (by have:=HOL.out 3;omega)).mono ?_);rintro e w4 ⟨rfl,k1,k2⟩;have hz4:=k2.size;rw[HO4.out] at k1;have K1:=Lib.hid k1;clear k1))
   go_roundg 0
   case measure=>have:=HQ.out;omega
   case rel=>exact⟨4,rfl,by omega,by go_num,K1,by(repeat' (first|(with_reducible exact Below.refl _ _)|(with_reducible refine Below.alloc ?_ ?_ _)|(with_reducible refine Below.drew ?_)|(with_reducible refine below_drewN ?_ _)|(with_reducible refine Below.setCell ?_ ?_ _)|(with_reducible refine below_of (by assumption) ?_ ?_)|go_size))⟩
  ·obtain⟨hbg,v,hB,hO⟩:=hw.out
   have c0:=hB.cell 0
   simp only[List.getElem?_toArray,List.getElem?_cons_zero] at c0
   have HO:=Lib.hid hO
   clear hB hO
   go_wp2_with fail
   go_ret2
   exact⟨v,rfl,HO.out,hb⟩
open Go.RowKit Go.Lib
def nP(l:List Pr)(j:Nat):Pr:=l.getD j (0,0)
def pcP(l:List Pr):Nat->List Int
 | 0=>zg (nP l 0).1
 | j+1=>leb ((nP l (j+1)).1 - (nP l j).1 - 1)
def wrI(l:List Pr):Nat->List Int
 | 0=>[]
 | j+1=>wrI l j++pcP l j++leb (nP l j).2
def wrDd(a m:Nat)(l:List Pr)(f:Int):List Int:=outs4 a m l.length f 4++wrI l l.length
theorem nP_at{l:List Pr}{j:Nat}(h:j<l.length):nP l j=l[j]:=by unfold nP;rw[List.getD_eq_getElem?_getD,List.getElem?_eq_getElem h];rfl
theorem pcP_len(l:List Pr)(j:Nat):(pcP l j).length<=10:=by
 cases j with
 | zero=>exact(leb_len _).2
 | succ j=>exact(leb_len _).2
theorem wrI_len(l:List Pr):∀j,(wrI l j).length<=20 * j
 | 0=>by simp[wrI]
 | j+1=>by
  have h1:=wrI_len l j
  have h2:=pcP_len l j
  have h3:=leb_len (nP l j).2
  simp only[wrI,List.length_append];omega
theorem dput_any(c:UInt8)(m:Int)(out:List Int)(base:Nat)(vb:Value)(bs:List Int)(w:World)(hb0:base<=w.heap.size)(hO:OwnB base w vb bs)(hl:bs.length<=1000000000000)(hout:out.length<=1000)
 (hp:∀(v:Value) (w:World),RdI .u64 w v [m]->Calls Tryz.prog 113 #[.string ⟨#[c]⟩,v] w fun e w'=>∃v,e=.returned (.tuple #[v,.int .i64 0])/\OwnB w.heap.size w' v out/\Below w.heap.size w w') :
 Calls Tryz.prog 117 #[vb,.string ⟨#[c]⟩,.int .u64 m] w fun e w'=>∃v,e=.returned v/\OwnB base w' v (bs++out)/\Touch (fun k=>vb.ownBlock=some k) w w':=by
 have HO:=Lib.hid hO
 have HP:=Lib.hid hp
 clear hO hp
 go_enter Tryz.func117,Tryz.ntmps117
 go_wp2_with fail
 refine(HP.out _ _ (RdI.one_at _ _ _ _ _ rfl)).mono ?_
 rintro e w1 ⟨v1,rfl,o1,hb1⟩
 have O1:=Lib.hid o1
 have hz1:=hb1.size
 have hb2:Below w.heap.size w w1:=by(repeat' (first|(with_reducible exact Below.refl _ _)|(with_reducible refine Below.alloc ?_ ?_ _)|(with_reducible refine Below.drew ?_)|(with_reducible refine below_drewN ?_ _)|(with_reducible refine Below.setCell ?_ ?_ _)|(with_reducible refine below_of (by assumption) ?_ ?_)|go_size))
 have hz2:=hb2.size
 clear o1
 go_wp2_with (first
  | (at_builtin
     go_must (refine append_B rfl (.tmp 16) (.tmp 17) rfl base vb bs rfl (OwnI.keep HO.out hb2) v1 out rfl (OwnI.rd O1.out) (by omega) (by omega) ?_)
     intro v2 w2 o2 g2 a2
     have hb3:Touch (fun k=>vb.ownBlock=some k) w w2:=(Touch.of_below hb2 (Nat.le_refl _)).grown g2 (fun k e=>.inl e)
     have O2:=Lib.hid o2
     clear o2 g2 a2))
 go_ret
 exact⟨v2,rfl,O2.out,hb3⟩
theorem dputv_any(n:Int)(base:Nat)(vb:Value)(bs:List Int)(w:World)(hb0:base<=w.heap.size)(hO:OwnB base w vb bs)(hl:bs.length<=1000000000000)(n0:0<=n)(n1:n<18446744073709551616) :
 Calls Tryz.prog 117 #[vb,.string ⟨#[118]⟩,.int .u64 n] w fun e w'=>∃v,e=.returned v/\OwnB base w' v (bs++leb n)/\Touch (fun k=>vb.ownBlock=some k) w w':=
 dput_any 118 n (leb n) base vb bs w hb0 hO hl (by have:=leb_len n;omega) (fun v w hr=>putv_any n v w hr n0 n1)
theorem dputz_any(x n:Int)(base:Nat)(vb:Value)(bs:List Int)(w:World)(hb0:base<=w.heap.size)(hO:OwnB base w vb bs)(hl:bs.length<=1000000000000)(hn:n=ub x)(h0:-9223372036854775808<=x)(h1:x<=9223372036854775807) :
 Calls Tryz.prog 117 #[vb,.string ⟨#[122]⟩,.int .u64 n] w fun e w'=>∃v,e=.returned v/\OwnB base w' v (bs++zg x)/\Touch (fun k=>vb.ownBlock=some k) w w':=by
 subst hn
 exact dput_any 122 (ub x) (zg x) base vb bs w hb0 hO hl (by have:=leb_len (sgn x);unfold zg;omega) (fun v w hr=>putz_any x v w hr h0 h1)
theorem r21put_any(c n x:Int)(base:Nat)(vb:Value)(bs:List Int)(w:World)(hb0:base<=w.heap.size)(hO:OwnB base w vb bs)(hl:bs.length<=1000000000000)(hc:(c=118/\x=n/\0<=n/\n<18446744073709551616)\/(c=122/\n=ub x/\-9223372036854775808<=x/\x<=9223372036854775807)) :
 Calls Tryz.prog 244 #[vb,.int .u8 c,.int .u64 n] w fun e w'=>∃v,e=.returned v/\OwnB base w' v (bs++(if c=118 then leb x else zg x))/\Below base w w':=by
 have HO:=Lib.hid hO
 have C1:=Lib.hid (rone_any c n x w hc)
 have hlen:(if c=118 then leb x else zg x).length<=10:=by split;exact(leb_len _).2;exact(leb_len _).2
 generalize (if c=118 then leb x else zg x)=out at *
 clear hO hc
 go_enter Tryz.func244,Tryz.ntmps244
 go_wp2_with fail
 refine(C1.out).mono ?_
 rintro e w1 ⟨v1,rfl,o1,hb1⟩
 have O1:=Lib.hid o1
 have hz1:=hb1.size
 clear o1
 go_wp2_with (first
  | (at_builtin
     go_must (refine append_B rfl (.tmp 15) (.tmp 16) rfl base vb bs rfl (OwnI.keep HO.out hb1) v1 out rfl (OwnI.rd O1.out) (by omega) (by omega) ?_)
     intro v2 w2 o2 g2 a2
     have hb2:Below base w w2:=(hb1.mono hb0).grown g2 (by omega) (fun k hk=>(OwnI.lt HO.out k hk).1)
     have O2:=Lib.hid o2
     clear o2 g2 a2))
 go_ret
 exact⟨v2,rfl,O2.out,hb2⟩
theorem r21v_any(n:Int)(base:Nat)(vb:Value)(bs:List Int)(w:World)(hb0:base<=w.heap.size)(hO:OwnB base w vb bs)(hl:bs.length<=1000000000000)(n0:0<=n)(n1:n<18446744073709551616) :
 Calls Tryz.prog 244 #[vb,.int .u8 118,.int .u64 n] w fun e w'=>∃v,e=.returned v/\OwnB base w' v (bs++leb n)/\Below base w w':=by
 have h:=r21put_any 118 n n base vb bs w hb0 hO hl (.inl ⟨rfl,rfl,n0,n1⟩)
 rwa [if_pos rfl] at h
theorem r21z_any(x n:Int)(base:Nat)(vb:Value)(bs:List Int)(w:World)(hb0:base<=w.heap.size)(hO:OwnB base w vb bs)(hl:bs.length<=1000000000000)(hn:n=ub x)(h0:-9223372036854775808<=x)(h1:x<=9223372036854775807) :
 Calls Tryz.prog 244 #[vb,.int .u8 122,.int .u64 n] w fun e w'=>∃v,e=.returned v/\OwnB base w' v (bs++zg x)/\Below base w w':=by
 have h:=r21put_any 122 n x base vb bs w hb0 hO hl (.inr ⟨rfl,hn,h0,h1⟩)
 rwa [if_neg (by omega)] at h
open Go.RowKit Go.Lib
theorem outs4_bd(a b c d:Int):(outs4 a b c d 4).length<=40:=outs4_len a b c d 4
theorem ok_gap{l:List Pr}(ok:OkP l){j:Nat}(h:j+1<l.length):l[j].1<l[j+1].1:=List.pairwise_iff_getElem.1 ok.srt j (j+1) _ h (by omega)
theorem RdI.four_at(t:TypeId)(k:IntKind)(w:World)(a b c d:Int)(H:Nat)(h:w.heap.size=H):RdI k (w.alloc (.cells #[.int k a,.int k b,.int k c,.int k d] t)) (.slice (some ⟨H,0,none⟩) 4 4) [a,b,c,d]:=by
 subst h
 have h:OwnI t k w.heap.size (w.alloc (.cells #[.int k a,.int k b,.int k c,.int k d] t)) (.slice (some ⟨w.heap.size,0,none⟩) 4 4) [a,b,c,d]:=
  ⟨rfl,.inr ⟨w.heap.size,4,_,rfl,Nat.le_refl _,heap_alloc_new _ _,by simp,by unfold maxLen;omega,rfl,by simp⟩⟩
 exact h.rd
theorem dwrite_any{d a m:Nat}{l:List Pr}{F:Ft}(w:World)(h:DdAt d a m l F w)(ok:DdOk a m l) :
 Calls Tryz.prog 51 #[.pointer (some ⟨d,0,none⟩)] w fun e w'=>∃v,e=.returned (.tuple #[v,.int .i64 0])/\OwnB w.heap.size w' v (wrDd a m (cutP m l).1 (cutP m l).2)/\Below w.heap.size w w':=by
 have CP:=Lib.hid (dd_pairs w h ok)
 have S:=dd_stay d a m l
 have CA:Hid (∀w1,Below w.heap.size w w1->_):=Lib.hid (fun w1 hb=>dd_acc w1 (S.keep h hb))
 have CB:Hid (∀w1,Below w.heap.size w w1->_):=Lib.hid (fun w1 hb=>dd_budget w1 (S.keep h hb))
 have CF:Hid (∀w1,Below w.heap.size w w1->_):=Lib.hid (fun w1 hb=>dd_folded w1 (S.keep h hb))
 obtain⟨hq,_,hlm,f0,f1⟩:=ok.cut
 have a0:=ok.a0
 have a1:=ok.a1
 have m0:=ok.m0
 have m1:=ok.m1
 generalize (cutP m l).2=f at *
 generalize (cutP m l).1=q at *
 have HQK:=Lib.hid hq
 have hlen:=hq.len
 clear h ok S hq
 go_enter Tryz.func51,Tryz.ntmps51
 go_wp2_with fail
 refine(CP.out).mono ?_
 rintro e w1 ⟨v,rfl,o1,hb1⟩
 have O1:=Lib.hid o1
 obtain⟨A,k,rfl,_,_,hf⟩:=o1.form
 have HF:=Lib.hid hf
 have hz1:=hb1.size
 clear o1 hf
 go_wp2_with fail
 refine(CA.out w1 hb1).mono ?_
 rintro e w' ⟨rfl,rfl⟩
 go_wp2_with fail
 refine(CB.out w1 hb1).mono ?_
 rintro e w' ⟨rfl,rfl⟩
 go_wp2_with fail
 refine(CF.out w1 hb1).mono ?_
 rintro e w' ⟨rfl,rfl⟩
 go_wp2_with fail
 refine(wput4_any a m q.length f _ _ (RdI.four_at _ _ _ _ _ _ _ _ rfl) (by omega) (by omega) (by omega) (by omega) (by omega) (by omega) (by omega) (by omega)).mono ?_
 rintro e w2 ⟨v2,rfl,o2,hb2⟩
 have hb12:Below w.heap.size w w2:=hb1.trans (((Below.refl w1.heap.size w1).alloc (Nat.le_refl _) _ |>.trans (hb2.mono (by simp))).mono hz1)
 have O2:Hid (OwnB w1.heap.size w2 v2 (outs4 a m q.length f 4)):=Lib.hid (OwnI.lift o2 (fun g e=>by have:=(OwnI.lt o2 g e).1;simp at this;omega))
 have hG:=outs4_bd a m q.length f
 have HW:Hid (wrDd a m q f=outs4 a m q.length f 4++wrI q q.length):=Lib.hid rfl
 generalize outs4 a m q.length f 4=G at *
 have hz2:=hb12.size
 have B12:Below w1.heap.size w1 w2:=(Below.refl w1.heap.size w1).alloc (Nat.le_refl _) _ |>.trans (hb2.mono (by simp))
 clear o2 hb2
 go_wp2_with fail
 go_loopg [5,34] q.length (fun r y x wr=>∃(j:Nat) (b:Value),b=y/\r=q.length - j/\j<=q.length/\x=.int .i64 j/\Hid (OwnB w1.heap.size wr b (G++wrI q j))/\Below w1.heap.size w1 wr)
 case atStart=>exact⟨0,_,rfl,by omega,by omega,rfl,Lib.hid (by simpa[wrI] using O2.out),B12⟩
 case round=>
  obtain⟨j,b,rfl,hq,hj,rfl,HO,hb1w⟩:=hrel
  have HQ:=Lib.hid hq
  clear hq
  have hzw:=hb1w.size
  have hgl:=wrI_len q j
  have hgl2:(G++wrI q j).length<=100000000:=by rw[List.length_append];omega
  by_cases hlt:j<q.length
  ·obtain⟨g,off,rfl,hg,c0w,c1w⟩:=pr_at HF.out hlt
   have c0:=(hb1w.cell (p:=⟨g,off+j * 2,none⟩) hg).trans c0w
   have c1:=(hb1w.cell (p:=⟨g,off+j * 2+1,none⟩) hg).trans c1w
   have hk:=HQK.out.key _ (List.getElem_mem hlt)
   have hp:=HQK.out.pos _ (List.getElem_mem hlt)
   have hp2:=pos_le HQK.out.pos _ (List.getElem_mem hlt)
   have ht:=HQK.out.tot
   have hji:(j:Int)<(q.length:Int):=by omega
   have HN:Hid (nP q j=q[j]):=Lib.hid (nP_at hlt)
   have HA:Below wr.heap.size wr (wr.alloc (.cells #[.int .i64 q[j].1,.int .u64 q[j].2] 136)):=by(repeat' (first|(with_reducible exact Below.refl _ _)|(with_reducible refine Below.alloc ?_ ?_ _)|(with_reducible refine Below.drew ?_)|(with_reducible refine below_drewN ?_ _)|(with_reducible refine Below.setCell ?_ ?_ _)|(with_reducible refine below_of (by assumption) ?_ ?_)|go_size))
   have HP:Hid (Blk (wr.alloc (.cells #[.int .i64 q[j].1,.int .u64 q[j].2] 136)) wr.heap.size 136 #[.int .i64 q[j].1,.int .u64 q[j].2]):=Lib.hid (Blk.new _ _ _)
   have hn2:q[j].2<18446744073709551616:=by omega
   rcases Nat.eq_zero_or_pos j with rfl|hj0
   ·have HWR:Hid (wrI q (0+1)=wrI q 0++zg q[0].1++leb q[0].2):=Lib.hid (by rw[<-HN.out];rfl)
    have z0:((0:Nat):Int)=0:=rfl
    simp only[Nat.zero_mul,Nat.add_zero] at c0 c1
    have HZ:Hid (zg q[0].1=pcP q 0):=Lib.hid (by rw[<-HN.out];rfl)
    generalize q[0].1=x at *
    generalize q[0].2=n at *
    rw[z0]
    clear z0 c0w c1w
    obtain⟨w3,hw3⟩:∃w3,wr.alloc (.cells #[.int .i64 x,.int .u64 n] 136)=w3:=⟨_,rfl⟩
    rw[hw3] at HA HP
    have hb3w:=hb1w.trans (HA.mono hzw)
    have HO3:=Lib.hid (OwnI.keep HO.out HA)
    have hz3:=hb3w.size
    obtain⟨p,hpp⟩:∃p,wr.heap.size=p:=⟨_,rfl⟩
    rw[hpp] at HP
    have hp3:=HP.out.lt
    go_upto_region 10 with fail
    have p0:=HP.out.cell 0
    simp only[List.getElem?_toArray,List.getElem?_cons_zero,List.getElem?_cons_succ] at p0
    go_wp2_with fail
    refine(dputz_any x _ w1.heap.size _ (G++wrI q 0) w3 hz3 HO3.out (by omega) (by rw[u64w];rfl) (by omega) (by omega)).mono ?_
    rintro e w4 ⟨v4,rfl,o4,t4⟩
    have P4:Below w1.heap.size w1 w4:=hb3w.trans (t4.below (fun k e=>(OwnI.lt HO3.out k e).1) (by omega))
    have hz4:=P4.size
    have hpn:¬(b.ownBlock=some p):=fun e=>by have:=(OwnI.lt HO.out p e).2;omega
    have p1:=(tcell t4 1 hp3 hpn).trans (HP.out.cell 1)
    simp only[List.getElem?_toArray,List.getElem?_cons_zero,List.getElem?_cons_succ] at p1
    have O4:=Lib.hid o4
    have hgl4:(zg x).length<=10:=by rw[HZ.out];exact pcP_len q 0
    clear o4 t4
    go_wp2_with fail
    refine(dputv_any n w1.heap.size _ (G++wrI q (0)++zg x) w4 hz4 O4.out (by simp only[List.length_append] at hgl2 |-;omega) (by omega) (by omega)).mono ?_
    rintro e w5 ⟨v5,rfl,o5,t5⟩
    have P5:Below w1.heap.size w1 w5:=P4.trans (t5.below (fun k e=>(OwnI.lt O4.out k e).1) (by omega))
    have O5:=Lib.hid o5
    clear o5 t5
    go_wp2_with fail
    go_roundg (q.length - (0+1))
    case measure=>have:=HQ.out;omega
    case rel=>exact⟨0+1,_,rfl,rfl,by omega,by go_num,Lib.hid (by rw[HWR.out,<-List.append_assoc,<-List.append_assoc];exact O5.out),P5⟩
   ·obtain⟨s,rfl⟩:∃s,j=s+1:=⟨j - 1,by omega⟩
    obtain⟨g',off',he,_,d0w,_⟩:=pr_at HF.out (j:=s) (by omega)
    cases he
    have D0:=Lib.hid d0w
    have hgap:=ok_gap HQK.out hlt
    have hk2:=HQK.out.key _ (List.getElem_mem (show s<q.length by omega))
    have HN2:Hid (nP q s=q[s]):=Lib.hid (nP_at (by omega))
    have HWR:Hid (wrI q (s+1+1)=wrI q (s+1)++leb (q[s+1].1 - q[s].1 - 1)++leb q[s+1].2):=Lib.hid (by rw[<-HN.out,<-HN2.out];rfl)
    have HZ:Hid (leb (q[s+1].1 - q[s].1 - 1)=pcP q (s+1)):=Lib.hid (by rw[<-HN.out,<-HN2.out];rfl)
    generalize q[s+1].1=x at *
    generalize q[s+1].2=n at *
    generalize q[s].1=y at *
    have HWS:Hid (IntKind.i64.wrap (s:Int)=(s:Int)):=Lib.hid (by rw[IntKind.wrap_i64];omega)
    have HW1:Hid (IntKind.i64.wrap (x - y)=x - y):=Lib.hid (by rw[IntKind.wrap_i64];omega)
    have HW2:Hid (IntKind.i64.wrap (x - y - 1)=x - y - 1):=Lib.hid (by rw[IntKind.wrap_i64];omega)
    have HW3:Hid (IntKind.u64.wrap (x - y - 1)=x - y - 1):=Lib.hid (by rw[u64w];omega)
    clear c0w c1w d0w
    have hs1:((s+1:Nat):Int)≠0:=by omega
    have hsq:(s:Int)<(q.length:Int):=by omega
    obtain⟨w3,hw3⟩:∃w3,wr.alloc (.cells #[.int .i64 x,.int .u64 n] 136)=w3:=⟨_,rfl⟩
    rw[hw3] at HA HP
    have hb3w:=hb1w.trans (HA.mono hzw)
    have HO3:=Lib.hid (OwnI.keep HO.out HA)
    have hz3:=hb3w.size
    obtain⟨p,hpp⟩:∃p,wr.heap.size=p:=⟨_,rfl⟩
    rw[hpp] at HP
    have hp3:=HP.out.lt
    go_upto_region 12 with fail
    clear c0 c1
    have hpn:¬(b.ownBlock=some p):=fun e=>by have:=(OwnI.lt HO.out p e).2;omega
    have hbl:∀k,b.ownBlock=some k->w1.heap.size<=k:=fun k e=>(OwnI.lt HO3.out k e).1
    refine wp_region_plan (Touch (fun k=>b.ownBlock=some k) w3) [(0,true),(1,true),(2,true),(3,true),(4,true),(5,true),(6,true),(7,true),(8,true),(9,true),(10,true),(11,true),(12,false),(13,true)] (by kernel_rfl) (by kernel_rfl) ((Touch.refl _ _).drew) ?_
    iterate 12
     refine wpPlan_read (by rfl) (by rfl) (fun R hR=>?_)
     apply Exists.intro
     refine⟨fun w' hS'=>?_,?_⟩
     ·have p0:=(tcell hS' 0 hp3 hpn).trans (HP.out.cell 0)
      have d0:=((hb3w.trans (hS'.below hbl (by omega))).cell (p:=⟨g,off+s * 2,none⟩) hg).trans D0.out
      have hws:=HWS.out
      have ew1:=HW1.out
      have ew2:=HW2.out
      have ew3:=HW3.out
      simp only[List.getElem?_toArray,List.getElem?_cons_zero,List.getElem?_cons_succ] at p0
      go_simp
      exact⟨rfl,rfl⟩
     go_simp
     refine hR _ ?_
     clear hR R
    refine wpPlan_do (by rfl) (by rfl) (fun K hK=>?_)
    go_simp
    refine(dputv_any (x - y - 1) w1.heap.size b (G++wrI q (s+1)) w3.drew hz3 (OwnI.drew HO3.out) (by omega) (by omega) (by omega)).mono ?_
    rintro e w4 ⟨v4,rfl,o4,t4'⟩
    have t4:Touch (fun k=>b.ownBlock=some k) w3 w4:=((Touch.refl _ w3).drew).trans t4' (fun k e=>.inl e)
    clear t4'
    refine hK _ _ (t4) ?_
    clear hK K
    iterate 1
     refine wpPlan_read (by rfl) (by rfl) (fun R hR=>?_)
     apply Exists.intro
     refine⟨fun w' hS'=>?_,?_⟩
     ·have p0:=(tcell hS' 0 hp3 hpn).trans (HP.out.cell 0)
      have d0:=((hb3w.trans (hS'.below hbl (by omega))).cell (p:=⟨g,off+s * 2,none⟩) hg).trans D0.out
      have hws:=HWS.out
      have ew1:=HW1.out
      have ew2:=HW2.out
      have ew3:=HW3.out
      simp only[List.getElem?_toArray,List.getElem?_cons_zero,List.getElem?_cons_succ] at p0
      go_simp
      exact⟨rfl,rfl⟩
     go_simp
     refine hR _ ?_
     clear hR R
    refine wpPlan_nil ?_
    have P4:Below w1.heap.size w1 w4:=hb3w.trans (t4.below hbl (by omega))
    have hz4:=P4.size
    have p1:=(tcell t4 1 hp3 hpn).trans (HP.out.cell 1)
    simp only[List.getElem?_toArray,List.getElem?_cons_zero,List.getElem?_cons_succ] at p1
    have O4:=Lib.hid o4
    have hgl4:(leb (x - y - 1)).length<=10:=by rw[HZ.out];exact pcP_len q (s+1)
    clear o4 t4
    go_wp2_with fail
    refine(dputv_any n w1.heap.size _ (G++wrI q (s+1)++leb (x - y - 1)) w4 hz4 O4.out (by simp only[List.length_append] at hgl2 |-;omega) (by omega) (by omega)).mono ?_
    rintro e w5 ⟨v5,rfl,o5,t5⟩
    have P5:Below w1.heap.size w1 w5:=P4.trans (t5.below (fun k e=>(OwnI.lt O4.out k e).1) (by omega))
    have O5:=Lib.hid o5
    clear o5 t5
    go_wp2_with fail
    go_roundg (q.length - (s+1+1))
    case measure=>have:=HQ.out;omega
    case rel=>exact⟨s+1+1,_,rfl,rfl,by omega,by go_num,Lib.hid (by rw[HWR.out,<-List.append_assoc,<-List.append_assoc];exact O5.out),P5⟩
  ·obtain rfl:j=q.length:=by omega
   go_wp2_with fail
   go_ret2
   exact⟨_,rfl,by rw[HW.out];exact OwnI.lift HO.out (fun g e=>by have:=(OwnI.lt HO.out g e).1;omega),hb1.trans (hb1w.mono hz1)⟩
end Go.Proofs.YtingnldfpokckaaGreat.D
