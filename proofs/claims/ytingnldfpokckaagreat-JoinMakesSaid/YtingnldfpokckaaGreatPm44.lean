/- Parts of a proof: what its theorem reaches, words cut short. No condition of its own. -/
import Derived.Test.YtingnldfpokckaaGreatPm43
set_option maxRecDepth 100000
set_option maxHeartbeats 16000000
set_option linter.unusedVariables false
set_option linter.unusedSimpArgs false
namespace Go.Proofs.YtingnldfpokckaaGreat.D
open Go.RowKit Go.Lib Go.Shelf
structure TOk(d:Nat)(s:St):Prop where
 fit:Fit d s (195 * d+99)
 len:(s.L.length:Int)<=194 * d+99
 big:d<=300\/s=St.zero
structure KOk(q:Nat)(L:K.LL)(led:Nat):Prop where
 fit:K.Fit q L led
 q0:8<=q
 q1:q<=4096
 emp:L.length=0->led=0
 bd:∀j,K.I64L (K.lvl L j)
def SpOk:Spk->Prop
 | .h lo hi dg u m _=>HdOk lo hi dg u m
 | .d a m=>100<=a/\a<=5000/\2<=m/\m<=4096
 | .t d=>10<=d/\d<=1000
 | .k q=>8<=q/\q<=4096
def JsOk(sp:Spk)(c:Js):Prop:=match sp with
 | .h lo hi dg u m gr=>HsOk lo hi dg u m gr c.bk c.l
 | .d a m=>DdOk a m c.l
 | .t d=>TOk d c.s
 | .k q=>KOk q c.L c.led
def Spk.new:Spk->Js
 | .h _ hi _ u m _=>⟨1+bkN u m hi,[],St.zero,[],0⟩
 | _=>⟨0,[],St.zero,[],0⟩
def jtkE(sp:Spk)(c t:Js):Int:=match sp with
 | .h ..=>htE c.l t.l
 | .d ..=>ctakeE c.l t.l
 | .t _=>takeE c.s t.s
 | .k _=>K.takeE c.L t.L
def jtkS(sp:Spk)(B:List Int)(t c:Js)(a:Nat):Js × Nat:=match sp with
 | .h ..=>({c with bk:=htB c.l t.l c.bk t.bk,l:=htL c.l t.l},a)
 | .d ..=>({c with l:=ddtS c.l t.l},a)
 | .t d=>(if takeE c.s t.s=0 then {c with s:=c.s.take d t.s} else c,a)
 | .k q=>({c with L:=(K.takeS q B (t.L,t.led) (c.L,c.led,a)).1,led:=(K.takeS q B (t.L,t.led) (c.L,c.led,a)).2.1},(K.takeS q B (t.L,t.led) (c.L,c.led,a)).2.2)
def jtot(sp:Spk)(c:Js):Int:=match sp with
 | .h ..=>tot c.l
 | .d ..=>tot c.l
 | .t _=>Go.Proofs.YtingnldfpokckaaGreat.tot (c.s.L++c.s.W)
 | .k _=>(K.wt c.L:Nat)
def jtxt(sp:Spk)(c:Js):List Int:=match sp with
 | .h lo hi dg u m gr=>hjB lo hi dg (reachN u m hi c.bk) gr c.l
 | .d a m=>wrDd a m (cutP m c.l).1 (cutP m c.l).2
 | .t d=>wrD d c.s.L c.s.W c.s.lo c.s.hi
 | .k q=>K.wrK q c.L c.led
theorem dd_nil{a m:Nat}(h0:100<=a)(h1:a<=5000)(h2:2<=m)(h3:m<=4096):DdOk a m []:=
 ⟨h0,h1,h2,h3,List.Pairwise.nil,fun p hp=>by simp at hp,fun p hp=>by simp at hp,by simp[tot]⟩
theorem t_nil{d:Nat}(h0:10<=d)(h1:d<=1000):TOk d St.zero:=
 ⟨⟨(St.zero_ok d (by omega)).more (by omega),by omega,by simp[St.zero,Go.Proofs.YtingnldfpokckaaGreat.tot],by omega,by omega⟩,by simp[St.zero];omega,.inr rfl⟩
theorem k_nil{q:Nat}(h0:8<=q)(h1:q<=4096):KOk q [] 0:=⟨K.Fit.nil_ q,h0,h1,fun _=>rfl,fun j x hx=>by simp[K.lvl] at hx⟩
theorem new_ok{sp:Spk}(h:SpOk sp):JsOk sp sp.new:=by
 cases sp with
 | h lo hi dg u m gr=>exact hs_new h
 | d a m=>exact dd_nil h.1 h.2.1 h.2.2.1 h.2.2.2
 | t d=>exact t_nil h.1 h.2
 | k q=>exact k_nil h.1 h.2
theorem jtot_bd{sp:Spk}{c:Js}(h:JsOk sp c):0<=jtot sp c/\jtot sp c<=4611686018427387904:=by
 cases sp with
 | h lo hi dg u m gr=>exact⟨tot_nonneg (HsOk.pos h),HsOk.sum h⟩
 | d a m=>exact⟨tot_nonneg (DdOk.pos h),DdOk.sum h⟩
 | t d=>have:=(TOk.fit h).t;have:=(TOk.fit h).ok.n_nonneg;show 0<=Go.Proofs.YtingnldfpokckaaGreat.tot _/\_;simp only[jtot];omega
 | k q=>have:=(KOk.fit h).ok.wtL;simp only[jtot];omega
open Go.RowKit Go.Lib Go.Shelf
def SpecOk(kd lo hi dg:Int)(gr:Bool)(ac sz:Int):Prop:=∃sp,SpOk sp/\sp.v=specV kd lo hi dg gr ac sz
theorem specOk_1{lo hi dg ac sz:Int}{gr:Bool}:SpecOk 1 lo hi dg gr ac sz<->ac=0/\sz=0/\∃l h d u m:Nat,lo=l/\hi=h/\dg=d/\HdOk l h d u m:=by
 constructor
 ·rintro ⟨sp,ok,e⟩
  cases sp with
  | h l h d u m g=>
   simp only[Spk.v,specV,Value.agg.injEq,Array.mk.injEq,List.cons.injEq,Value.int.injEq,Value.bool.injEq,true_and,and_true] at e
   obtain⟨e1,e2,e3,e4,e5,e6⟩:=e
   exact⟨e5.symm,e6.symm,l,h,d,u,m,e1.symm,e2.symm,e3.symm,ok⟩
  | _=>simp[Spk.v,specV] at e
 ·rintro ⟨rfl,rfl,l,h,d,u,m,rfl,rfl,rfl,ok⟩
  exact⟨.h l h d u m gr,ok,rfl⟩
theorem specOk_2{lo hi dg ac sz:Int}{gr:Bool}:SpecOk 2 lo hi dg gr ac sz<->lo=0/\hi=0/\dg=0/\gr=false/\100<=ac/\ac<=5000/\2<=sz/\sz<=4096:=by
 constructor
 ·rintro ⟨sp,ok,e⟩
  cases sp with
  | d a m=>
   simp only[Spk.v,specV,Value.agg.injEq,Array.mk.injEq,List.cons.injEq,Value.int.injEq,Value.bool.injEq,true_and,and_true] at e
   obtain⟨e1,e2,e3,e4,e5,e6⟩:=e
   have ok:100<=a/\a<=5000/\2<=m/\m<=4096:=ok
   exact⟨e1.symm,e2.symm,e3.symm,e4.symm,by omega,by omega,by omega,by omega⟩
  | _=>simp[Spk.v,specV] at e
 ·rintro ⟨rfl,rfl,rfl,rfl,h1,h2,h3,h4⟩
  obtain⟨a,rfl⟩:=Int.eq_ofNat_of_zero_le (a:=ac) (by omega)
  obtain⟨m,rfl⟩:=Int.eq_ofNat_of_zero_le (a:=sz) (by omega)
  exact⟨.d a m,(show 100<=a/\a<=5000/\2<=m/\m<=4096 from⟨by omega,by omega,by omega,by omega⟩),rfl⟩
theorem specOk_3{lo hi dg ac sz:Int}{gr:Bool}:SpecOk 3 lo hi dg gr ac sz<->lo=0/\hi=0/\dg=0/\gr=false/\ac=0/\10<=sz/\sz<=1000:=by
 constructor
 ·rintro ⟨sp,ok,e⟩
  cases sp with
  | t d=>
   simp only[Spk.v,specV,Value.agg.injEq,Array.mk.injEq,List.cons.injEq,Value.int.injEq,Value.bool.injEq,true_and,and_true] at e
   obtain⟨e1,e2,e3,e4,e5,e6⟩:=e
   have ok:10<=d/\d<=1000:=ok
   exact⟨e1.symm,e2.symm,e3.symm,e4.symm,e5.symm,by omega,by omega⟩
  | _=>simp[Spk.v,specV] at e
 ·rintro ⟨rfl,rfl,rfl,rfl,rfl,h1,h2⟩
  obtain⟨d,rfl⟩:=Int.eq_ofNat_of_zero_le (a:=sz) (by omega)
  exact⟨.t d,(show 10<=d/\d<=1000 from⟨by omega,by omega⟩),rfl⟩
theorem specOk_4{lo hi dg ac sz:Int}{gr:Bool}:SpecOk 4 lo hi dg gr ac sz<->lo=0/\hi=0/\dg=0/\gr=false/\ac=0/\8<=sz/\sz<=4096:=by
 constructor
 ·rintro ⟨sp,ok,e⟩
  cases sp with
  | k q=>
   simp only[Spk.v,specV,Value.agg.injEq,Array.mk.injEq,List.cons.injEq,Value.int.injEq,Value.bool.injEq,true_and,and_true] at e
   obtain⟨e1,e2,e3,e4,e5,e6⟩:=e
   have ok:8<=q/\q<=4096:=ok
   exact⟨e1.symm,e2.symm,e3.symm,e4.symm,e5.symm,by omega,by omega⟩
  | _=>simp[Spk.v,specV] at e
 ·rintro ⟨rfl,rfl,rfl,rfl,rfl,h1,h2⟩
  obtain⟨d,rfl⟩:=Int.eq_ofNat_of_zero_le (a:=sz) (by omega)
  exact⟨.k d,(show 8<=d/\d<=4096 from⟨by omega,by omega⟩),rfl⟩
theorem specOk_no{kd lo hi dg ac sz:Int}{gr:Bool}(h:kd<1\/4<kd):¬SpecOk kd lo hi dg gr ac sz:=by
 rintro ⟨sp,ok,e⟩
 cases sp<;>(simp only[Spk.v,specV,Value.agg.injEq,Array.mk.injEq,List.cons.injEq,Value.int.injEq,true_and] at e;omega)
theorem shape_cases(lo hi dg:Int)(h1:hi<=9223372036854775807):HdNo lo hi dg\/∃l h d u m:Nat,lo=l/\hi=h/\dg=d/\HdPre l h d u m:=by
 by_cases hn:HdNo lo hi dg
 ·exact .inl hn
 ·unfold HdNo at hn
  obtain⟨l,rfl⟩:=Int.eq_ofNat_of_zero_le (a:=lo) (by omega)
  obtain⟨h,rfl⟩:=Int.eq_ofNat_of_zero_le (a:=hi) (by omega)
  obtain⟨d,rfl⟩:=Int.eq_ofNat_of_zero_le (a:=dg) (by omega)
  exact .inr ⟨l,h,d,_,_,rfl,rfl,rfl,⟨by omega,by omega,by omega,by omega,by omega,rfl,rfl⟩⟩
theorem HdPre.ok{l h d u m:Nat}(p:HdPre l h d u m)(hu:u+m<=62):HdOk l h d u m:=⟨p.d0,p.d1,p.l0,p.h0,p.h1,p.ue,p.me,hu⟩
theorem HdOk.not_no{l h d u m:Nat}(p:HdOk l h d u m):¬HdNo l h d:=by
 have:=p.d0;have:=p.d1;have:=p.l0;have:=p.h0
 unfold HdNo;omega
theorem HdOk.same{l h d u m u2 m2:Nat}(p:HdOk l h d u m)(q:HdPre l h d u2 m2):u=u2/\m=m2:=⟨p.ue.trans q.ue.symm,p.me.trans q.me.symm⟩
open Go.RowKit Go.Lib Go.Shelf
theorem iff_no{p:Prop}(h:¬p):(false=true<->p):=⟨fun e=>(by cases e),fun e=>absurd e h⟩
theorem iff_yes{p:Prop}(h:p):(true=true<->p):=⟨fun _=>h,fun _=>rfl⟩
def RightP27(kd lo hi dg:Int)(gr:Bool)(ac sz:Int)(w:World)(e:Ending)(w':World):Prop:=(∃b:Bool,e=.returned (.bool b)/\(b=true<->SpecOk kd lo hi dg gr ac sz))/\Below w.heap.size w w'
theorem not_zero{kd lo hi dg ac sz:Int}{gr:Bool}(k1:kd≠1)(h:lo≠0\/hi≠0\/dg≠0\/gr≠false):¬SpecOk kd lo hi dg gr ac sz:=fun hs=>by
 by_cases k2:kd=2
 ·subst k2;obtain⟨a,b,c,d,_⟩:=specOk_2.1 hs;rcases h with h|h|h|h<;>exact h (by assumption)
 by_cases k3:kd=3
 ·subst k3;obtain⟨a,b,c,d,_⟩:=specOk_3.1 hs;rcases h with h|h|h|h<;>exact h (by assumption)
 by_cases k4:kd=4
 ·subst k4;obtain⟨a,b,c,d,_⟩:=specOk_4.1 hs;rcases h with h|h|h|h<;>exact h (by assumption)
 exact specOk_no (by omega) hs
theorem not_acc{kd lo hi dg ac sz:Int}{gr:Bool}(k1:kd≠1)(k2:kd≠2)(h:ac≠0):¬SpecOk kd lo hi dg gr ac sz:=fun hs=>by
 by_cases k3:kd=3
 ·subst k3;exact h (specOk_3.1 hs).2.2.2.2.1
 by_cases k4:kd=4
 ·subst k4;exact h (specOk_4.1 hs).2.2.2.2.1
 exact specOk_no (by omega) hs
theorem right27_all(kd lo hi dg ac sz:Int)(gr:Bool)(w:World)(h0:-9223372036854775808<=hi)(h1:hi<=9223372036854775807) :
 Calls Tryz.prog 7 #[specV kd lo hi dg gr ac sz] w (RightP27 kd lo hi dg gr ac sz w):=by
 unfold specV
 by_cases k1:kd=1
 ·subst k1
  by_cases ca:ac=0
  ·subst ca
   by_cases cs:sz=0
   ·subst cs
    have CS:Hid (∀W,Calls Tryz.prog 23 #[.agg #[.int .i64 lo,.int .i64 hi,.int .i64 dg]] W fun e w'=>(∃(x y:Int) (b:Bool),e=.returned (.tuple #[.int .i64 x,.int .i64 y,.bool b])/\(b=true<->SpecOk 1 lo hi dg gr 0 0))/\Below W.heap.size W w'):=Lib.hid (fun W=>by
     rcases shape_cases lo hi dg h1 with hn|⟨l,h,d,u,m,rfl,rfl,rfl,hp⟩
     ·refine(rshape_not lo hi dg W hn h0 h1).mono ?_
      rintro e w' ⟨rfl,hb⟩
      refine⟨⟨_,_,_,rfl,iff_no fun hs=>?_⟩,hb⟩
      obtain⟨_,_,l,h,d,u,m,rfl,rfl,rfl,ok⟩:=specOk_1.1 hs
      exact ok.not_no hn
     ·by_cases hu:u+m<=62
      ·refine(rshape_any W (hp.ok hu)).mono ?_
       rintro e w' ⟨rfl,hb⟩
       exact⟨⟨_,_,_,rfl,iff_yes (specOk_1.2 ⟨rfl,rfl,l,h,d,u,m,rfl,rfl,rfl,hp.ok hu⟩)⟩,hb⟩
      ·refine(rshape_big W hp (by omega)).mono ?_
       rintro e w' ⟨rfl,hb⟩
       refine⟨⟨_,_,_,rfl,iff_no fun hs=>?_⟩,hb⟩
       obtain⟨_,_,l2,h2,d2,u2,m2,e1,e2,e3,ok⟩:=specOk_1.1 hs
       obtain rfl:l=l2:=by omega
       obtain rfl:h=h2:=by omega
       obtain rfl:d=d2:=by omega
       obtain⟨rfl,rfl⟩:=ok.same hp
       exact hu ok.um)
    clear h0 h1
    go_enter Tryz.func7,Tryz.ntmps7
    go_wp2_with fail
    refine(CS.out _).mono ?_
    rintro e w2 ⟨⟨x,y,b,rfl,hb⟩,hb2⟩
    have HB:=Lib.hid hb
    have HB2:=Lib.hid hb2
    clear hb hb2
    go_wp2_with fail
    refine bodyPost_ret (by simp[results,Tryz.results7,go_sem, *];try rfl) rfl ?_
    refine⟨⟨b,rfl,HB.out⟩,Below.trans ?_ (HB2.out.mono ?_)⟩
    ·exact(by(repeat' (first|(with_reducible exact Below.refl _ _)|(with_reducible refine Below.alloc ?_ ?_ _)|(with_reducible refine Below.drew ?_)|(with_reducible refine below_drewN ?_ _)|(with_reducible refine Below.setCell ?_ ?_ _)|(with_reducible refine below_of (by assumption) ?_ ?_)|go_size)))
    ·simp only[World.size_alloc];omega
   ·clear h0 h1
    go_enter Tryz.func7,Tryz.ntmps7
    go_wp2_with fail
    refine bodyPost_ret (by simp[results,Tryz.results7,go_sem, *];try rfl) rfl ?_
    exact⟨⟨_,rfl,iff_no (fun hs=>cs (specOk_1.1 hs).2.1)⟩,by(repeat' (first|(with_reducible exact Below.refl _ _)|(with_reducible refine Below.alloc ?_ ?_ _)|(with_reducible refine Below.drew ?_)|(with_reducible refine below_drewN ?_ _)|(with_reducible refine Below.setCell ?_ ?_ _)|(with_reducible refine below_of (by assumption) ?_ ?_)|go_size))⟩
  ·clear h0 h1
   go_enter Tryz.func7,Tryz.ntmps7
   go_wp2_with fail
   refine bodyPost_ret (by simp[results,Tryz.results7,go_sem, *];try rfl) rfl ?_
   exact⟨⟨_,rfl,iff_no (fun hs=>ca (specOk_1.1 hs).1)⟩,by(repeat' (first|(with_reducible exact Below.refl _ _)|(with_reducible refine Below.alloc ?_ ?_ _)|(with_reducible refine Below.drew ?_)|(with_reducible refine below_drewN ?_ _)|(with_reducible refine Below.setCell ?_ ?_ _)|(with_reducible refine below_of (by assumption) ?_ ?_)|go_size))⟩
 clear h0 h1
 by_cases c_lo:lo=0
 case neg=>
  go_enter Tryz.func7,Tryz.ntmps7
  go_wp2_with fail
  refine bodyPost_ret (by simp[results,Tryz.results7,go_sem, *];try rfl) rfl ?_
  exact⟨⟨_,rfl,iff_no (not_zero k1 (.inl c_lo))⟩,by(repeat' (first|(with_reducible exact Below.refl _ _)|(with_reducible refine Below.alloc ?_ ?_ _)|(with_reducible refine Below.drew ?_)|(with_reducible refine below_drewN ?_ _)|(with_reducible refine Below.setCell ?_ ?_ _)|(with_reducible refine below_of (by assumption) ?_ ?_)|go_size))⟩
 subst c_lo
 by_cases c_hi:hi=0
 case neg=>
  go_enter Tryz.func7,Tryz.ntmps7
  go_wp2_with fail
  refine bodyPost_ret (by simp[results,Tryz.results7,go_sem, *];try rfl) rfl ?_
  exact⟨⟨_,rfl,iff_no (not_zero k1 (.inr (.inl c_hi)))⟩,by(repeat' (first|(with_reducible exact Below.refl _ _)|(with_reducible refine Below.alloc ?_ ?_ _)|(with_reducible refine Below.drew ?_)|(with_reducible refine below_drewN ?_ _)|(with_reducible refine Below.setCell ?_ ?_ _)|(with_reducible refine below_of (by assumption) ?_ ?_)|go_size))⟩
 subst c_hi
 by_cases c_dg:dg=0
 case neg=>
  go_enter Tryz.func7,Tryz.ntmps7
  go_wp2_with fail
  refine bodyPost_ret (by simp[results,Tryz.results7,go_sem, *];try rfl) rfl ?_
  exact⟨⟨_,rfl,iff_no (not_zero k1 (.inr (.inr (.inl c_dg))))⟩,by(repeat' (first|(with_reducible exact Below.refl _ _)|(with_reducible refine Below.alloc ?_ ?_ _)|(with_reducible refine Below.drew ?_)|(with_reducible refine below_drewN ?_ _)|(with_reducible refine Below.setCell ?_ ?_ _)|(with_reducible refine below_of (by assumption) ?_ ?_)|go_size))⟩
 subst c_dg
 by_cases c_gr:gr=true
 ·subst c_gr
  go_enter Tryz.func7,Tryz.ntmps7
  go_wp2_with fail
  refine bodyPost_ret (by simp[results,Tryz.results7,go_sem, *];try rfl) rfl ?_
  exact⟨⟨_,rfl,iff_no (not_zero k1 (.inr (.inr (.inr (fun e=>by cases e)))))⟩,by(repeat' (first|(with_reducible exact Below.refl _ _)|(with_reducible refine Below.alloc ?_ ?_ _)|(with_reducible refine Below.drew ?_)|(with_reducible refine below_drewN ?_ _)|(with_reducible refine Below.setCell ?_ ?_ _)|(with_reducible refine below_of (by assumption) ?_ ?_)|go_size))⟩
 obtain rfl:gr=false:=by simpa using c_gr
 clear c_gr
 by_cases k2:kd=2
 ·subst k2
  by_cases c1:ac<100
  ·have c1':¬(100<=ac):=by omega
   go_enter Tryz.func7,Tryz.ntmps7
   go_wp2_with fail
   refine bodyPost_ret (by simp[results,Tryz.results7,go_sem, *];try rfl) rfl ?_
   exact⟨⟨_,rfl,iff_no (fun hs=>by have:=specOk_2.1 hs;omega)⟩,by(repeat' (first|(with_reducible exact Below.refl _ _)|(with_reducible refine Below.alloc ?_ ?_ _)|(with_reducible refine Below.drew ?_)|(with_reducible refine below_drewN ?_ _)|(with_reducible refine Below.setCell ?_ ?_ _)|(with_reducible refine below_of (by assumption) ?_ ?_)|go_size))⟩
  by_cases c2:5000<ac
  ·have c2':¬(ac<=5000):=by omega
   have c1':100<=ac:=by omega
   go_enter Tryz.func7,Tryz.ntmps7
   go_wp2_with fail
   refine bodyPost_ret (by simp[results,Tryz.results7,go_sem, *];try rfl) rfl ?_
   exact⟨⟨_,rfl,iff_no (fun hs=>by have:=specOk_2.1 hs;omega)⟩,by(repeat' (first|(with_reducible exact Below.refl _ _)|(with_reducible refine Below.alloc ?_ ?_ _)|(with_reducible refine Below.drew ?_)|(with_reducible refine below_drewN ?_ _)|(with_reducible refine Below.setCell ?_ ?_ _)|(with_reducible refine below_of (by assumption) ?_ ?_)|go_size))⟩
  have c1':100<=ac:=by omega
  have c2':ac<=5000:=by omega
  by_cases c3:sz<2
  ·have c3':¬(2<=sz):=by omega
   go_enter Tryz.func7,Tryz.ntmps7
   go_wp2_with fail
   refine bodyPost_ret (by simp[results,Tryz.results7,go_sem, *];try rfl) rfl ?_
   exact⟨⟨_,rfl,iff_no (fun hs=>by have:=specOk_2.1 hs;omega)⟩,by(repeat' (first|(with_reducible exact Below.refl _ _)|(with_reducible refine Below.alloc ?_ ?_ _)|(with_reducible refine Below.drew ?_)|(with_reducible refine below_drewN ?_ _)|(with_reducible refine Below.setCell ?_ ?_ _)|(with_reducible refine below_of (by assumption) ?_ ?_)|go_size))⟩
  by_cases c4:4096<sz
  ·have c4':¬(sz<=4096):=by omega
   have c3':2<=sz:=by omega
   go_enter Tryz.func7,Tryz.ntmps7
   go_wp2_with fail
   refine bodyPost_ret (by simp[results,Tryz.results7,go_sem, *];try rfl) rfl ?_
   exact⟨⟨_,rfl,iff_no (fun hs=>by have:=specOk_2.1 hs;omega)⟩,by(repeat' (first|(with_reducible exact Below.refl _ _)|(with_reducible refine Below.alloc ?_ ?_ _)|(with_reducible refine Below.drew ?_)|(with_reducible refine below_drewN ?_ _)|(with_reducible refine Below.setCell ?_ ?_ _)|(with_reducible refine below_of (by assumption) ?_ ?_)|go_size))⟩
  have c3':2<=sz:=by omega
  have c4':sz<=4096:=by omega
  go_enter Tryz.func7,Tryz.ntmps7
  go_wp2_with fail
  refine bodyPost_ret (by simp[results,Tryz.results7,go_sem, *];try rfl) rfl ?_
  exact⟨⟨_,rfl,iff_yes (specOk_2.2 ⟨rfl,rfl,rfl,rfl,c1',c2',c3',c4'⟩)⟩,by(repeat' (first|(with_reducible exact Below.refl _ _)|(with_reducible refine Below.alloc ?_ ?_ _)|(with_reducible refine Below.drew ?_)|(with_reducible refine below_drewN ?_ _)|(with_reducible refine Below.setCell ?_ ?_ _)|(with_reducible refine below_of (by assumption) ?_ ?_)|go_size))⟩
 by_cases ca:ac=0
 case neg=>
  go_enter Tryz.func7,Tryz.ntmps7
  go_wp2_with fail
  refine bodyPost_ret (by simp[results,Tryz.results7,go_sem, *];try rfl) rfl ?_
  exact⟨⟨_,rfl,iff_no (not_acc k1 k2 ca)⟩,by(repeat' (first|(with_reducible exact Below.refl _ _)|(with_reducible refine Below.alloc ?_ ?_ _)|(with_reducible refine Below.drew ?_)|(with_reducible refine below_drewN ?_ _)|(with_reducible refine Below.setCell ?_ ?_ _)|(with_reducible refine below_of (by assumption) ?_ ?_)|go_size))⟩
 subst ca
 by_cases k3:kd=3
 ·subst k3
  by_cases c3:sz<10
  ·have c3':¬(10<=sz):=by omega
   go_enter Tryz.func7,Tryz.ntmps7
   go_wp2_with fail
   refine bodyPost_ret (by simp[results,Tryz.results7,go_sem, *];try rfl) rfl ?_
   exact⟨⟨_,rfl,iff_no (fun hs=>by have:=specOk_3.1 hs;omega)⟩,by(repeat' (first|(with_reducible exact Below.refl _ _)|(with_reducible refine Below.alloc ?_ ?_ _)|(with_reducible refine Below.drew ?_)|(with_reducible refine below_drewN ?_ _)|(with_reducible refine Below.setCell ?_ ?_ _)|(with_reducible refine below_of (by assumption) ?_ ?_)|go_size))⟩
  by_cases c4:1000<sz
  ·have c4':¬(sz<=1000):=by omega
   have c3':10<=sz:=by omega
   go_enter Tryz.func7,Tryz.ntmps7
   go_wp2_with fail
   refine bodyPost_ret (by simp[results,Tryz.results7,go_sem, *];try rfl) rfl ?_
   exact⟨⟨_,rfl,iff_no (fun hs=>by have:=specOk_3.1 hs;omega)⟩,by(repeat' (first|(with_reducible exact Below.refl _ _)|(with_reducible refine Below.alloc ?_ ?_ _)|(with_reducible refine Below.drew ?_)|(with_reducible refine below_drewN ?_ _)|(with_reducible refine Below.setCell ?_ ?_ _)|(with_reducible refine below_of (by assumption) ?_ ?_)|go_size))⟩
  have c3':10<=sz:=by omega
  have c4':sz<=1000:=by omega
  go_enter Tryz.func7,Tryz.ntmps7
  go_wp2_with fail
  refine bodyPost_ret (by simp[results,Tryz.results7,go_sem, *];try rfl) rfl ?_
  exact⟨⟨_,rfl,iff_yes (specOk_3.2 ⟨rfl,rfl,rfl,rfl,rfl,c3',c4'⟩)⟩,by(repeat' (first|(with_reducible exact Below.refl _ _)|(with_reducible refine Below.alloc ?_ ?_ _)|(with_reducible refine Below.drew ?_)|(with_reducible refine below_drewN ?_ _)|(with_reducible refine Below.setCell ?_ ?_ _)|(with_reducible refine below_of (by assumption) ?_ ?_)|go_size))⟩
 by_cases k4:kd=4
 ·subst k4
  by_cases c3:sz<8
  ·have c3':¬(8<=sz):=by omega
   go_enter Tryz.func7,Tryz.ntmps7
   go_wp2_with fail
   refine bodyPost_ret (by simp[results,Tryz.results7,go_sem, *];try rfl) rfl ?_
   exact⟨⟨_,rfl,iff_no (fun hs=>by have:=specOk_4.1 hs;omega)⟩,by(repeat' (first|(with_reducible exact Below.refl _ _)|(with_reducible refine Below.alloc ?_ ?_ _)|(with_reducible refine Below.drew ?_)|(with_reducible refine below_drewN ?_ _)|(with_reducible refine Below.setCell ?_ ?_ _)|(with_reducible refine below_of (by assumption) ?_ ?_)|go_size))⟩
  by_cases c4:4096<sz
  ·have c4':¬(sz<=4096):=by omega
   have c3':8<=sz:=by omega
   go_enter Tryz.func7,Tryz.ntmps7
   go_wp2_with fail
   refine bodyPost_ret (by simp[results,Tryz.results7,go_sem, *];try rfl) rfl ?_
   exact⟨⟨_,rfl,iff_no (fun hs=>by have:=specOk_4.1 hs;omega)⟩,by(repeat' (first|(with_reducible exact Below.refl _ _)|(with_reducible refine Below.alloc ?_ ?_ _)|(with_reducible refine Below.drew ?_)|(with_reducible refine below_drewN ?_ _)|(with_reducible refine Below.setCell ?_ ?_ _)|(with_reducible refine below_of (by assumption) ?_ ?_)|go_size))⟩
  have c3':8<=sz:=by omega
  have c4':sz<=4096:=by omega
  go_enter Tryz.func7,Tryz.ntmps7
  go_wp2_with fail
  refine bodyPost_ret (by simp[results,Tryz.results7,go_sem, *];try rfl) rfl ?_
  exact⟨⟨_,rfl,iff_yes (specOk_4.2 ⟨rfl,rfl,rfl,rfl,rfl,c3',c4'⟩)⟩,by(repeat' (first|(with_reducible exact Below.refl _ _)|(with_reducible refine Below.alloc ?_ ?_ _)|(with_reducible refine Below.drew ?_)|(with_reducible refine below_drewN ?_ _)|(with_reducible refine Below.setCell ?_ ?_ _)|(with_reducible refine below_of (by assumption) ?_ ?_)|go_size))⟩
 go_enter Tryz.func7,Tryz.ntmps7
 go_wp2_with fail
 refine bodyPost_ret (by simp[results,Tryz.results7,go_sem, *];try rfl) rfl ?_
 exact⟨⟨_,rfl,iff_no (specOk_no (by omega))⟩,by(repeat' (first|(with_reducible exact Below.refl _ _)|(with_reducible refine Below.alloc ?_ ?_ _)|(with_reducible refine Below.drew ?_)|(with_reducible refine below_drewN ?_ _)|(with_reducible refine Below.setCell ?_ ?_ _)|(with_reducible refine below_of (by assumption) ?_ ?_)|go_size))⟩
end Go.Proofs.YtingnldfpokckaaGreat.D
namespace Go.Proofs.YtingnldfpokckaaGreat
open Go.RowKit Go.Lib
section
open Go.RowKit Go.Lib
theorem conv_B{w:World}{v:Value}{l:List Int}(h:RdI .u8 w v l):(convert 44 9 v).run Tryz.prog w=.ok (.string (strOfNums l)) w:=by
 obtain⟨A,c,rfl,_,_,f⟩:=h.form
 cases A with
 | none=>
  have h0:l=[]:=by
   rcases Nat.eq_zero_or_pos l.length with h0|h0
   ·exact List.eq_nil_of_length_eq_zero h0
   ·obtain⟨g,off,e,_⟩:=f h0;cases e
  subst h0
  exact run_convert_bytes_nil w 44 5 Tryz.underlying44 Tryz.underlying5 _ _ _ Tryz.underlying9
 | some a=>
  rcases Nat.eq_zero_or_pos l.length with h0|h0
  ·have h1:l=[]:=List.eq_nil_of_length_eq_zero h0
   subst h1
   obtain⟨b,off,spot⟩:=a
   cases spot with
   | none=>exact run_convert_bytes_arg w 44 5 Tryz.underlying44 Tryz.underlying5 b off 0 c [] rfl (fun i hi=>absurd hi (by omega)) _ Tryz.underlying9
   | some s=>rw[run_convert_bytes_string w 44 9 5 _ _ _ Tryz.underlying44 Tryz.underlying5 Tryz.underlying9,run_bytesToString w _ _ c [] (by simp[loadCells,loadCellsFrom])];rfl
  ·obtain⟨g,off,hA,_,hc⟩:=f h0
   cases hA
   exact run_convert_bytes_arg w 44 5 Tryz.underlying44 Tryz.underlying5 g off l.length c l rfl (fun i hi=>by
    rw[hc i hi];simp[List.getD,List.getElem?_eq_getElem hi]) _ Tryz.underlying9
theorem okL.raw{l:List Mn}(h:okL l)(ht:tot l<=18446744073709551615):rawL l:=fun m hm=>by
 obtain⟨j,hj,rfl⟩:=List.getElem_of_mem hm
 have h1:=h _ (List.getElem_mem hj)
 have h2:=h.tot_get hj
 have h3:=(h.tot_take j).1
 have h4:=h1.2.2
 exact⟨h1.1,h1.2.1,by omega,by omega⟩
end
open Go.RowKit Go.Lib
open Go.RowKit Go.Lib
open Go.RowKit Go.Lib
end Go.Proofs.YtingnldfpokckaaGreat
