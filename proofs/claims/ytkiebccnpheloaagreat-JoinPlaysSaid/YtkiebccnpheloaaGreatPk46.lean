/- Parts of a proof: what its theorem reaches, words cut short. No condition of its own. -/
import Derived.Test.YtkiebccnpheloaaGreatPk45
set_option maxRecDepth 100000
set_option maxHeartbeats 16000000
set_option linter.unusedVariables false
set_option linter.unusedSimpArgs false
namespace Go.Proofs.YtkiebccnpheloaaGreat.D
open Go.RowKit Go.Lib Go.Shelf
section
variable {sp : iM} {c t : Js} {x y a o : Nat} {F Fy H : Ft} {cq : Value} {B : List Int}
theorem ag9(v n:Int)(w:World)(h:gG sp c x F w)(ok:jg sp c)(hc:gI o cq B a H w)(hd:∀k,H k->¬F k)(ho:o<=w.heap.size)(hoF:∀k,F k->o<=k)(v0:-9223372036854775808<=v)(v1:v<=9223372036854775807)(n0:0<=n)(n1:n<18446744073709551616) :
 Calls Tryz.prog 81 #[.pointer (some ⟨x,0,none⟩),.int .i64 v,.int .u64 n,cq] w (jc (gG sp (jQ sp B v n c a).1 x) (gI o cq B (jQ sp B v n c a).2) F H (oL sp c v n) w):=by
 obtain⟨p,G,hB,hI,hFx,zS,hGF,hF⟩:=h;have I5:∀k,H k->¬G k:=fun k h1 h2=>hd k h1 (hGF k h2)
 have fin:∀c' a' er e w',jc (vG sp c' p) (gI o cq B a') G H er w e w'->jc (gG sp c' x) (gI o cq B a') F H er w e w':=fun c' a' er e w' hm=>by
  obtain⟨h1,h2⟩:=Lm hB hFx zS hGF hF hm.2.1 hm.2.2.2 hd;exact⟨hm.1,h1,hm.2.2.1,h2⟩
 have Vl:∀k,G k->o<=k:=fun k h=>hoF k (hGF k h)
 have low:=(jr sp c p).low hI
 cases sp with
 | h lo hi dg u m gr=>
  refine(Qa (Q:=fun v' w'=>jc (gG (.h lo hi dg u m gr) (jQ (.h lo hi dg u m gr) B v n c a).1 x) (gI o cq B (jQ (.h lo hi dg u m gr) B v n c a).2) F H (oL (.h lo hi dg u m gr) c v n) w (.returned v') w') hB ?_).mono ?_
  ·refine(Px v n w hI ok v0 v1 n0 n1).mono ?_
   rintro e w' ⟨rfl,h2,h3⟩;exact⟨_,rfl,fin _ _ _ _ _ (pJ ⟨rfl,h2,h3⟩ (hc.far ho h3 I5 Vl))⟩
  ·rintro e w' ⟨v',rfl,hm⟩;exact hm
 | d ac m=>
  refine(Qb (Q:=fun v' w'=>jc (gG (.d ac m) (jQ (.d ac m) B v n c a).1 x) (gI o cq B (jQ (.d ac m) B v n c a).2) F H (oL (.d ac m) c v n) w (.returned v') w') hB ?_).mono ?_
  ·refine(ab9 v n w hI ok v0 v1 n0 n1).mono ?_
   rintro e w' ⟨rfl,h2,h3⟩;exact⟨_,rfl,fin _ _ _ _ _ (pJ ⟨rfl,h2,h3⟩ (hc.far ho h3 I5 Vl))⟩
  ·rintro e w' ⟨v',rfl,hm⟩;exact hm
 | t d=>
  have ft:=Jo.fit ok;have hd1:=ft.d1;refine(Qc (Q:=fun v' w'=>jc (gG (.t d) (jQ (.t d) B v n c a).1 x) (gI o cq B (jQ (.t d) B v n c a).2) F H (oL (.t d) c v n) w (.returned v') w') hB ?_).mono ?_
  ·by_cases hn:n=0\/281474976710656 - Go.Proofs.YtkiebccnpheloaaGreat.tot (c.s.L++c.s.W)<n
   ·refine(aa1 v n w hI ft hn).mono ?_
    rintro e w' ⟨rfl,hb⟩;have e1:oL (.t d) c v n=if n=0 then 4 else 6:=by
     simp only[oL]
     by_cases h0:n=0
     ·rw[if_pos h0,if_pos h0]
     ·rw[if_neg h0,if_neg h0,if_pos (hn.resolve_left h0)]
    have e2:jQ (.t d) B v n c a=(c,a):=by
     simp only[jQ];rw[if_neg (by rw[e1];split<;>decide)]
    rw[e1,e2];exact⟨_,rfl,fin c a _ _ _ (jv (jr (.t d) c p) hI rfl hb (hc.keep ho hb))⟩
   ·have h0:¬n=0:=fun e=>hn (.inl e)
    have h6:¬281474976710656 - Go.Proofs.YtkiebccnpheloaaGreat.tot (c.s.L++c.s.W)<n:=fun e=>hn (.inr e)
    refine(Cj v n w hI ft ae v0 v1 ae  ae).mono ?_
    rintro e w' ⟨rfl,F',h2,h3,h4⟩;have e1:oL (.t d) c v n=0:=by simp only[oL];rw[if_neg h0,if_neg h6]
    have e2:jQ (.t d) B v n c a=({c with s:=c.s.add d v n},a):=by simp only[jQ];rw[if_pos e1]
    rw[e1,e2];refine⟨_,rfl,fin _ _ _ _ _ ⟨rfl,?_,hc.far ho h4 I5 Vl,h4.mono fun _ h=>.inl h⟩⟩
    exact(jr (.t d) {c with s:=c.s.add d v n} p).gr (F':=F') h3 h2 low h4.size
  ·rintro e w' ⟨v',rfl,hm⟩;exact hm
 | k q=>
  refine(Qd (Q:=fun v' w'=>jc (gG (.k q) (jQ (.k q) B v n c a).1 x) (gI o cq B (jQ (.k q) B v n c a).2) F H (oL (.k q) c v n) w (.returned v') w') hB ?_).mono ?_
  ·have hnn:((n.toNat:Nat):Int)=n:=ae
   have C:=ar0 v n.toNat hI (rY.fit ok) hc I5 ho Vl (rY.q0 ok) (rY.q1 ok) ae
   rw[hnn] at C;refine C.mono ?_
   rintro e w' hm;obtain⟨rfl,h2,h3,h4⟩:=hm;exact⟨_,rfl,fin _ _ _ _ _ ⟨rfl,h2,h3,h4⟩⟩
  ·rintro e w' ⟨v',rfl,hm⟩;exact hm
theorem Vq(w:World)(h:gG sp c x F w)(ok:jg sp c):Calls Tryz.prog 53 #[.pointer (some ⟨x,0,none⟩)] w fun e w'=>e=.returned (.int .u64 (LU sp c))/\Below w.heap.size w w':=by
 obtain⟨p,G,hB,hI,hFx,zS,hGF,hF⟩:=h
 cases sp with
 | h lo hi dg u m gr=>
  obtain⟨v,b1,b2,b3,b4,b5⟩:=hI;have b7:=b1.cell 7;simp only[aF,aC,aG] at b7;refine(I8 hB b7 (l_ v c.l w b2.rd (jo.pos ok) (by have:=jo.sum ok;omega) (by have:=jo.len ok;omega))).mono ?_
  rintro e w' ⟨rfl,rfl⟩;exact⟨rfl,aH _ _⟩
 | d ac m=>
  obtain⟨rv,v,b1,b2,b3,b4⟩:=hI;have b7:=b1.cell 3;simp only[aF,aC,aG] at b7;refine(I9 hB b7 (l_ v c.l w b3.rd (mg.pos ok) (by have:=mg.sum ok;omega) (by have:=mg.len ok;omega))).mono ?_
  rintro e w' ⟨rfl,rfl⟩;exact⟨rfl,aH _ _⟩
 | t d=>
  have ft:=Jo.fit ok;refine I_ (Q:=fun v w'=>nN w' v (c.s.L++c.s.W)) hB ?_ ?_
  ·refine(Go.Proofs.YtkiebccnpheloaaGreat.jC p G d c.s.lo c.s.hi c.s.L c.s.W w hI (by have:=ft.ok.len;have:=ft.d1;omega)).mono ?_
   rintro e w' ⟨v,rfl,h1,h2⟩;exact⟨v,rfl,h1.rd,h2⟩
  ·intro v w1 hv
   exact fE v _ w1 hv ft.ok.ok (by have:=ft.t;omega)
 | k q=>
  obtain⟨lv,vs,hs⟩:=hI;refine(Ja hB (K.fE w hs (rY.fit ok).ok.VU (rY.fit ok).ok.Ag)).mono ?_
  rintro e w' ⟨rfl,rfl⟩;exact⟨rfl,aH _ _⟩
theorem Y_(w:World)(h:gG sp c x F w)(ok:jg sp c):Calls Tryz.prog 32 #[.pointer (some ⟨x,0,none⟩)] w fun e w'=>∃v,e=.returned v/\OwnB w.heap.size w' v (jR sp c)/\Below w.heap.size w w':=by
 obtain⟨p,G,hB,hI,hFx,zS,hGF,hF⟩:=h
 cases sp with
 | h lo hi dg u m gr=>exact MI w hB hI ok
 | d ac m=>
  obtain⟨rv,v,b1,b2,b3,b4⟩:=hI;have c1:=b1.cell 1;have c2:=b1.cell 2;have c3:=b1.cell 3;simp only[aF,aC,aG] at c1 c2 c3;exact MF (Q:=fun v' w'=>OwnB w.heap.size w' v' (jR (.d ac m) c)/\Below w.heap.size w w') hB c1 c2 c3 ((TZ v w.drew b3.rd ok).mono fun e w' ⟨v',h1,h2,h3⟩=>⟨v',h1,h2,(aH _ _).drew.trans h3⟩)
 | t d=>
  have ft:=Jo.fit ok;have hraw:=jY.raw ft.ok.ok (by have:=ft.t;omega)
  refine MG (Q:=fun v' w'=>OwnB w.heap.size w' v' (jR (.t d) c)/\Below w.heap.size w w') hB ?_
  exact NZ p G d c.s.lo c.s.hi c.s.L c.s.W w hI ft.ok.rise (fun m hm=>hraw m (List.mem_append_left _ hm)) (fun m hm=>hraw m (List.mem_append_right _ hm)) (by have:=ft.ok.len;have:=ft.d1;omega) (by have:=ft.d0;omega) (by have:=ft.d1;omega) ft.ok.We ft.ok.lo1 ft.ok.hi0 ft.ok.hi1
 | k q=>
  obtain⟨lv,vs,hs⟩:=hI;have hk:=rY.fit ok;refine MH (Q:=fun v' w'=>OwnB w.heap.size w' v' (jR (.k q) c)/\Below w.heap.size w w') hB hs.cell0 hs.cell1 hs.cell2 ?_
  exact(K.af2 q lv c.L c.led w.drew hs.llr ae (by have:=rY.q1 ok;omega) (by have:=hk.ok.led;simp only at this;omega) (by have:=hk.ok.Ag;omega) (by have:=hk.cnt (by have:=rY.q0 ok;omega) (rY.q1 ok);omega) (fun j=>⟨hk.ok.gY j,rY.bd ok j⟩)).mono (fun e w' ⟨v',h1,h2,h3⟩=>⟨v',h1,h2,(aH _ _).drew.trans h3⟩)
theorem Ew{p p2:Nat}{G G2:Ft}(w:World)(hB:dH w x 146 (sp.cs++sp.four p).toArray)(hI:vG sp c p G w)(hFx:F x)(zS:¬G x)(hGF:∀k,G k->F k)(hF:∀k,F k->k<w.heap.size)
 (hB2:dH w y 146 (sp.cs++sp.four p2).toArray) (hI2:vG sp t p2 G2 w) (hxy:(p2=p/\G2=G/\t=c)\/∀k,G k->¬G2 k) (ok:jg sp c) (ok2:jg sp t) (hc:gI o cq B a H w) (hd:∀k,H k->¬F k) (ho:o<=w.heap.size) (hoF:∀k,F k->o<=k) :
 Calls Tryz.prog 35 #[.pointer (some ⟨x,0,none⟩),.pointer (some ⟨y,0,none⟩),cq] w (jc (gG sp (jh sp B t c a).1 x) (gI o cq B (jh sp B t c a).2) F H (uY sp c t) w):=by
 have I5:∀k,H k->¬G k:=fun k h1 h2=>hd k h1 (hGF k h2)
 have Vl:∀k,G k->o<=k:=fun k h=>hoF k (hGF k h)
 have low:=(jr sp c p).low hI;have fin:∀c' a' er w1 e w',Below w.heap.size w w1->jc (vG sp c' p) (gI o cq B a') G H er w1 e w'->jc (gG sp c' x) (gI o cq B a') F H er w e w':=fun c' a' er w1 e w' hb hm=>by
  have hm:=Es (jr sp c' p) hb low hm;obtain⟨h1,h2⟩:=Lm hB hFx zS hGF hF hm.2.1 hm.2.2.2 hd;exact⟨hm.1,h1,hm.2.2.1,h2⟩
 have kI:∀w1,Below w.heap.size w w1->vG sp c p G w1:=fun w1 hb=>(jr sp c p).keep hI hb
 have LY:∀w1,Below w.heap.size w w1->vG sp t p2 G2 w1:=fun w1 hb=>(jr sp t p2).keep hI2 hb
 have ko:∀w1,Below w.heap.size w w1->o<=w1.heap.size:=fun w1 hb=>bG ho hb.size
 have kc:∀w1,Below w.heap.size w w1->gI o cq B a H w1:=fun w1 hb=>hc.keep ho hb
 clear hI hI2 hc
 cases sp with
 | h lo hi dg u m gr=>
  refine(LZ (Q:=fun v' w'=>jc (gG (.h lo hi dg u m gr) (jh (.h lo hi dg u m gr) B t c a).1 x) (gI o cq B (jh (.h lo hi dg u m gr) B t c a).2) F H (uY (.h lo hi dg u m gr) c t) w (.returned v') w') hB hB2 (fun w1 hb=>?_)).mono ?_
  ·refine(UD w1 (kI w1 hb) (LY w1 hb) ok ok2).mono ?_
   rintro e w' ⟨rfl,h2,h3⟩;exact⟨_,rfl,fin _ _ _ w1 _ _ hb (pJ ⟨rfl,h2,h3⟩ ((kc w1 hb).far (ko w1 hb) h3 I5 Vl))⟩
  ·rintro e w' ⟨v',rfl,hm⟩;exact hm
 | d ac m=>
  refine(L_ (Q:=fun v' w'=>jc (gG (.d ac m) (jh (.d ac m) B t c a).1 x) (gI o cq B (jh (.d ac m) B t c a).2) F H (uY (.d ac m) c t) w (.returned v') w') hB hB2 (fun w1 hb=>?_)).mono ?_
  ·refine(Xn w1 (kI w1 hb) (LY w1 hb) ok ok2).mono ?_
   rintro e w' ⟨rfl,h2,h3⟩;exact⟨_,rfl,fin _ _ _ w1 _ _ hb (pJ ⟨rfl,h2,h3⟩ ((kc w1 hb).far (ko w1 hb) h3 I5 Vl))⟩
  ·rintro e w' ⟨v',rfl,hm⟩;exact hm
 | t d=>
  have ft:=Jo.fit ok;have ft2:=Jo.fit ok2;have hd1:=ft.d1;have hxy':(p2=p/\G2=G/\t.s=c.s)\/∀k,G k->¬G2 k:=hxy.imp (fun h=>⟨h.1,h.2.1,by rw[h.2.2]⟩) id
  refine(Mc (Q:=fun v' w'=>jc (gG (.t d) (jh (.t d) B t c a).1 x) (gI o cq B (jh (.t d) B t c a).2) F H (uY (.t d) c t) w (.returned v') w') hB hB2 (fun w1 hb=>?_)).mono ?_
  ·by_cases hn:281474976710656 - Go.Proofs.YtkiebccnpheloaaGreat.tot (c.s.L++c.s.W)<Go.Proofs.YtkiebccnpheloaaGreat.tot (t.s.L++t.s.W)\/Go.Proofs.YtkiebccnpheloaaGreat.tot (t.s.L++t.s.W)=0
   ·refine(YV w1 (kI w1 hb) (LY w1 hb) ft ft2 hn).mono ?_
    rintro e w' ⟨rfl,hb'⟩;have e2:jh (.t d) B t c a=(c,a):=by
     simp only[jh]
     by_cases he:gU c.s t.s=0
     ·rw[if_pos he]
      have hz:Go.Proofs.YtkiebccnpheloaaGreat.tot (t.s.L++t.s.W)=0:=by
       rcases hn with hn|hn
       ·unfold gU at he;rw[if_pos hn] at he;cases he
       ·exact hn
      have:c.s.take d t.s=c.s:=by unfold St.take;rw[if_pos hz]
      rw[this]
     ·rw[if_neg he]
    rw[e2];exact⟨_,rfl,fin c a _ w1 _ _ hb (jv (jr (.t d) c p) (kI w1 hb) rfl hb' ((kc w1 hb).keep (ko w1 hb) hb'))⟩
   ·have h0:¬Go.Proofs.YtkiebccnpheloaaGreat.tot (t.s.L++t.s.W)=0:=fun e=>hn (.inr e)
    have h6:¬281474976710656 - Go.Proofs.YtkiebccnpheloaaGreat.tot (c.s.L++c.s.W)<Go.Proofs.YtkiebccnpheloaaGreat.tot (t.s.L++t.s.W):=fun e=>hn (.inl e)
    have hnn:=ft2.ok.jA;refine(zi w1 (kI w1 hb) (LY w1 hb) hxy' ft ft2 ae  ae  ae).mono ?_
    rintro e w' ⟨rfl,F',h2,h3,h4⟩;have e1:gU c.s t.s=0:=by unfold gU;rw[if_neg h6]
    have e2:jh (.t d) B t c a=({c with s:=c.s.take d t.s},a):=by simp only[jh];rw[if_pos e1]
    have e3:uY (.t d) c t=0:=e1;rw[e2,e3];refine⟨_,rfl,fin _ _ _ w1 _ _ hb ⟨rfl,?_,(kc w1 hb).far (ko w1 hb) h4 I5 Vl,h4.mono fun _ h=>.inl h⟩⟩
    exact(jr (.t d) {c with s:=c.s.take d t.s} p).gr (F':=F') h3 h2 (fun k hk=>aU (low k hk) hb.size) h4.size
  ·rintro e w' ⟨v',rfl,hm⟩;exact hm
 | k q=>
  refine(Md (Q:=fun v' w'=>jc (gG (.k q) (jh (.k q) B t c a).1 x) (gI o cq B (jh (.k q) B t c a).2) F H (uY (.k q) c t) w (.returned v') w') hB hB2 (fun w1 hb=>?_)).mono ?_
  ·refine(ag1 (kI w1 hb) (rY.fit ok) (LY w1 hb) (rY.fit ok2) (kc w1 hb) I5 (ko w1 hb) Vl (rY.q0 ok) (rY.q1 ok)).mono ?_
   rintro e w' hm;obtain⟨rfl,h2,h3,h4⟩:=hm;exact⟨_,rfl,fin _ _ _ w1 _ _ hb ⟨rfl,h2,h3,h4⟩⟩
  ·rintro e w' ⟨v',rfl,hm⟩;exact hm
theorem MJ(w:World)(h:gG sp c x F w)(h2:gG sp t y Fy w)(hxy:(y=x/\t=c)\/∀k,F k->¬Fy k)(ok:jg sp c)(ok2:jg sp t)(hc:gI o cq B a H w)(hd:∀k,H k->¬F k)(ho:o<=w.heap.size)(hoF:∀k,F k->o<=k) :
 Calls Tryz.prog 35 #[.pointer (some ⟨x,0,none⟩),.pointer (some ⟨y,0,none⟩),cq] w (jc (gG sp (jh sp B t c a).1 x) (gI o cq B (jh sp B t c a).2) F H (uY sp c t) w):=by
 obtain⟨p,G,hB,hI,hFx,zS,hGF,hF⟩:=h
 rcases hxy with⟨rfl,rfl⟩|hxy
 ·exact Ew w hB hI hFx zS hGF hF hB hI (.inl ⟨rfl,rfl,rfl⟩) ok ok2 hc hd ho hoF
 ·obtain⟨p2,G2,hB2,hI2,bj7,bj8,ar6,hF2⟩:=h2
  exact Ew w hB hI hFx zS hGF hF hB2 hI2 (.inr fun k h1 h2=>hxy k (hGF k h1) (ar6 k h2)) ok ok2 hc hd ho hoF
end
open Go.RowKit Go.Lib Go.Shelf
open Go.RowKit Go.Lib Go.Shelf
def Ey(Ow:Nat->Ft)(i:Nat)(F:Ft):Nat->Ft:=fun j k=>if j=i then F k else Ow j k
theorem lV{Ow:Nat->Ft}{i:Nat}{F:Ft}:Ey Ow i F i=F:=by funext k;unfold Ey;rw[if_pos rfl]
theorem h_{Ow:Nat->Ft}{i j:Nat}{F:Ft}(h:j≠i):Ey Ow i F j=Ow j:=by funext k;unfold Ey;rw[if_neg h]
open Go.RowKit Go.Lib Go.Shelf
structure mD(sp:iM)(base:Nat)(S R:Nat->Js)(X Y:Nat->Nat)(Ow:Nat->Ft)(wb vb:Nat)(w:World):Prop where
 win:∀i,i<2->iE sp (S i) (X i) (Ow i) w
 ref:∀i,i<2->gG sp (R i) (Y i) (Ow (2+i)) w
 ok:∀i,i<2->jg sp (S i)
 rok:∀i,i<2->jg sp (R i)
 uniq:∀a b k,Ow a k->Ow b k->a=b
 low:∀a k,Ow a k->base<=k/\k<w.heap.size
 rw:Ow 4 wb
 rv:Ow 4 vb
 cw:∀i,i<2->w.cell? ⟨wb,i,none⟩=some (jF (X i))
 cv:∀i,i<2->w.cell? ⟨vb,i,none⟩=some (jF (Y i))
theorem mD.stay{sp:iM}{base:Nat}{S R:Nat->Js}{X Y:Nat->Nat}{Ow:Nat->Ft}{wb vb:Nat}{w w':World}(h:mD sp base S R X Y Ow wb vb w)(hk:∀a k,Ow a k->w'.heap[k]?=w.heap[k]?)(hz:w.heap.size<=w'.heap.size):mD sp base S R X Y Ow wb vb w':=
 ⟨fun i hi=>(fO sp _ _).stay (h.win i hi) (hk i) hz,fun i hi=>(iG sp _ _).stay (h.ref i hi) (hk _) hz,h.ok,h.rok,h.uniq,fun a k e=>⟨(h.low a k e).1,aU (h.low a k e).2 hz⟩,h.rw,h.rv,
  fun i hi=>(bM (a:=⟨wb,i,none⟩) (hk 4 wb h.rw)).trans (h.cw i hi),fun i hi=>(bM (a:=⟨vb,i,none⟩) (hk 4 vb h.rv)).trans (h.cv i hi)⟩
theorem mD.keep{sp:iM}{base:Nat}{S R:Nat->Js}{X Y:Nat->Nat}{Ow:Nat->Ft}{wb vb:Nat}{w w':World}(h:mD sp base S R X Y Ow wb vb w)(hb:Below w.heap.size w w'):mD sp base S R X Y Ow wb vb w':=
 h.stay (fun a k e=>hb.block k (h.low a k e).2) hb.size
theorem mD.MK{sp:iM}{base i:Nat}{S R:Nat->Js}{X Y:Nat->Nat}{Ow:Nat->Ft}{wb vb:Nat}{H:Ft}{w w':World}{s':Js}(h:mD sp base S R X Y Ow wb vb w)(hi:i<2)(hbz:base<=w.heap.size)(hs:iE sp s' (X i) (Gr (Ow i) w w') w')(ok:jg sp s')(ht:Touch (fun k=>Ow i k\/H k) w w')(hH:∀k,H k->∀a,¬Ow a k) :
 mD sp base (LV S i s') R X Y (Ey Ow i (Gr (Ow i) w w')) wb vb w':=by
 have hk:∀a k,a≠i->Ow a k->w'.heap[k]?=w.heap[k]?:=fun a k ha e=>ht.block k (h.low a k e).2 (fun e2=>e2.elim (fun e3=>ha (h.uniq a i k e e3)) (fun e3=>hH k e3 a e))
 have hz:=ht.size;refine⟨fun j hj=>?_,fun j hj=>?_,fun j hj=>?_,h.rok,fun a b k ha hb=>?_,fun a k e=>?_,?_,?_,fun j hj=>?_,fun j hj=>?_⟩
 ·by_cases e:j=i
  ·subst e;rw[Bh,lV];exact hs
  ·rw[Bi e,h_ e];exact(fO sp _ _).stay (h.win j hj) (fun k=>hk j k e) hz
 ·rw[h_ ae];exact(iG sp _ _).stay (h.ref j hj) (fun k=>hk _ k ae) hz
 ·by_cases e:j=i
  ·subst e;rw[Bh];exact ok
  ·rw[Bi e];exact h.ok j hj
 ·by_cases ea:a=i<;>by_cases eb:b=i
  ·rw[ea,eb]
  ·rw[ea,lV] at ha;rw[h_ eb] at hb
   rcases ha with ha|ha
   ·exact ea.trans (h.uniq i b k ha hb)
   ·have:=(h.low b k hb).2;omega
  ·rw[eb,lV] at hb;rw[h_ ea] at ha
   rcases hb with hb|hb
   ·exact(h.uniq a i k ha hb).trans eb.symm
   ·have:=(h.low a k ha).2;omega
  ·rw[h_ ea] at ha;rw[h_ eb] at hb;exact h.uniq a b k ha hb
 ·by_cases ea:a=i
  ·rw[ea,lV] at e
   rcases e with e|e
   ·exact⟨(h.low i k e).1,aU (h.low i k e).2 hz⟩
   ·omega
  ·rw[h_ ea] at e;exact⟨(h.low a k e).1,aU (h.low a k e).2 hz⟩
 ·rw[h_ ae];exact h.rw
 ·rw[h_ ae];exact h.rv
 ·exact(bM (a:=⟨wb,j,none⟩) (hk 4 wb ae h.rw)).trans (h.cw j hj)
 ·exact(bM (a:=⟨vb,j,none⟩) (hk 4 vb ae h.rv)).trans (h.cv j hj)
theorem mD.ML{sp:iM}{base i:Nat}{S R:Nat->Js}{X Y:Nat->Nat}{Ow:Nat->Ft}{wb vb:Nat}{H:Ft}{w w':World}{s':Js}(h:mD sp base S R X Y Ow wb vb w)(hi:i<2)(hbz:base<=w.heap.size)(hs:gG sp s' (Y i) (Gr (Ow (2+i)) w w') w')(ok:jg sp s')(ht:Touch (fun k=>Ow (2+i) k\/H k) w w')(hH:∀k,H k->∀a,¬Ow a k) :
 mD sp base S (LV R i s') X Y (Ey Ow (2+i) (Gr (Ow (2+i)) w w')) wb vb w':=by
 have hk:∀a k,a≠2+i->Ow a k->w'.heap[k]?=w.heap[k]?:=fun a k ha e=>ht.block k (h.low a k e).2 (fun e2=>e2.elim (fun e3=>ha (h.uniq a _ k e e3)) (fun e3=>hH k e3 a e))
 have hz:=ht.size;refine⟨fun j hj=>?_,fun j hj=>?_,h.ok,fun j hj=>?_,fun a b k ha hb=>?_,fun a k e=>?_,?_,?_,fun j hj=>?_,fun j hj=>?_⟩
 ·rw[h_ ae];exact(fO sp _ _).stay (h.win j hj) (fun k=>hk _ k ae) hz
 ·by_cases e:j=i
  ·subst e;rw[Bh,lV];exact hs
  ·rw[Bi e,h_ ae];exact(iG sp _ _).stay (h.ref j hj) (fun k=>hk _ k ae) hz
 ·by_cases e:j=i
  ·subst e;rw[Bh];exact ok
  ·rw[Bi e];exact h.rok j hj
 ·by_cases ea:a=2+i<;>by_cases eb:b=2+i
  ·rw[ea,eb]
  ·rw[ea,lV] at ha;rw[h_ eb] at hb
   rcases ha with ha|ha
   ·exact ea.trans (h.uniq _ b k ha hb)
   ·have:=(h.low b k hb).2;omega
  ·rw[eb,lV] at hb;rw[h_ ea] at ha
   rcases hb with hb|hb
   ·exact(h.uniq a _ k ha hb).trans eb.symm
   ·have:=(h.low a k ha).2;omega
  ·rw[h_ ea] at ha;rw[h_ eb] at hb;exact h.uniq a b k ha hb
 ·by_cases ea:a=2+i
  ·rw[ea,lV] at e
   rcases e with e|e
   ·exact⟨(h.low _ k e).1,aU (h.low _ k e).2 hz⟩
   ·omega
  ·rw[h_ ea] at e;exact⟨(h.low a k e).1,aU (h.low a k e).2 hz⟩
 ·rw[h_ ae];exact h.rw
 ·rw[h_ ae];exact h.rv
 ·exact(bM (a:=⟨wb,j,none⟩) (hk 4 wb ae h.rw)).trans (h.cw j hj)
 ·exact(bM (a:=⟨vb,j,none⟩) (hk 4 vb ae h.rv)).trans (h.cv j hj)
def wP(Ow Za:Nat->Ft)(w w':World):Prop:=(∀a k,Za a k->Ow a k\/(w.heap.size<=k/\k<w'.heap.size))/\Touch (fun k=>∃a,Ow a k) w w'
theorem wP.keep{Ow O1:Nat->Ft}{w0 w w':World}(h:wP Ow O1 w0 w)(hb:Below w.heap.size w w'):wP Ow O1 w0 w':=
 ⟨fun a k e=>(h.1 a k e).imp id (fun e2=>⟨e2.1,aU e2.2 hb.size⟩),h.2.trans (Touch.of_below (F:=fun k=>∃a,Ow a k) hb (aK _)) (fun _ hk=>.inl hk)⟩
theorem wP.step{Ow O1:Nat->Ft}{c:Nat}{H:Ft}{w0 w w':World}(h:wP Ow O1 w0 w)(ht:Touch (fun k=>O1 c k\/H k) w w')(hH:∀k,H k->w0.heap.size<=k):wP Ow (Ey O1 c (Gr (O1 c) w w')) w0 w':=by
 have hz:=h.2.size;have hz2:=ht.size;refine⟨fun a k e=>?_,h.2.trans ht (fun k hk=>hk.elim (fun e=>(h.1 c k e).elim (fun e2=>.inl ⟨c,e2⟩) (fun e2=>.inr e2.1)) (fun e=>.inr (hH k e)))⟩
 by_cases ea:a=c
 ·rw[ea,lV] at e
  rcases e with e|e
  ·rw[ea];exact(h.1 c k e).imp id (fun e2=>⟨e2.1,ae⟩)
  ·exact .inr ⟨by omega,e.2⟩
 ·rw[h_ ea] at e;exact(h.1 a k e).imp id (fun e2=>⟨e2.1,ae⟩)
theorem wP.refl{Ow:Nat->Ft}{w w':World}(hb:Below w.heap.size w w'):wP Ow Ow w w':=⟨fun _ _ e=>.inl e,Touch.of_below hb (aK _)⟩
open Go.RowKit Go.Lib Go.Shelf
def Jb(o0:Nat)(w:World)(A:Option Addr)(l:List I4):Prop:=0<l.length->∃g off,A=some ⟨g,off,none⟩/\g<o0/\∀j (h:j<l.length),∃cv,
 w.cell? ⟨g,off+j * 5,none⟩=some (.int .u8 l[j].kd)/\w.cell? ⟨g,off+j * 5+1,none⟩=some (.bool l[j].who)/\w.cell? ⟨g,off+j * 5+2,none⟩=some (.int .i64 l[j].v)/\w.cell? ⟨g,off+j * 5+3,none⟩=some (.int .u64 l[j].n)/\w.cell? ⟨g,off+j * 5+4,none⟩=some cv/\Y5 o0 w cv l[j].B
def Jc(o0:Nat)(w:World)(v:Value)(l:List I4):Prop:=o0<=w.heap.size/\∃A c,v=.slice A l.length c/\l.length<=c/\c<=9223372036854775807/\Jb o0 w A l
theorem Jb.keep{o0:Nat}{w w':World}{A:Option Addr}{l:List I4}(h:Jb o0 w A l)(hz:o0<=w.heap.size)(hb:Below o0 w w'):Jb o0 w' A l:=fun h0=>by
 obtain⟨g,off,hA,hg,hj⟩:=h h0;refine⟨g,off,hA,hg,fun j hj'=>?_⟩
 obtain⟨cv,h1,h2,h3,h4,h5,h6⟩:=hj j hj';exact⟨cv,(hb.cell (p:=⟨g,off+j * 5,none⟩) hg).trans h1,(hb.cell (p:=⟨g,off+j * 5+1,none⟩) hg).trans h2,(hb.cell (p:=⟨g,off+j * 5+2,none⟩) hg).trans h3,(hb.cell (p:=⟨g,off+j * 5+3,none⟩) hg).trans h4,(hb.cell (p:=⟨g,off+j * 5+4,none⟩) hg).trans h5,h6.keep hz hb⟩
theorem Jc.keep{o0:Nat}{w w':World}{v:Value}{l:List I4}(h:Jc o0 w v l)(hb:Below o0 w w'):Jc o0 w' v l:=by
 obtain⟨hz,A,c,h1,h2,h3,h4⟩:=h;exact⟨bG hz hb.size,A,c,h1,h2,h3,h4.keep hz hb⟩
section
open Go.ChangeShapes Go.WideShapes Go.Deep
variable {H : Type} {enc : TypeId × Value -> H} {w : World} {base : Nat} {held : Bool}
theorem Vr{v:Value}{d:DataW H}{ps:List MemPlace}{r:Reach}{b0:Nat}
 (hval:Value.okWide Tryz.prog w r b0 45 v) (h:DataW.Trod enc Tryz.prog w base (fun _=>true) held 45 v d ps):∃l:List I4,Jc w.heap.size w v l/\∀o∈l,o.fits:=by
 obtain⟨a0,l0,c0,rfl⟩:=okWide_slice Tryz.underlying45 hval;obtain⟨n,h⟩:=h
 rcases open_slice Tryz.underlying45 h with⟨hcs,_⟩|⟨a,len,cap,m,q,D,Pl,hcs,_,hl,hm,hmm,_,hx⟩
 ·simp[Value.cells] at hcs
  obtain⟨rfl,rfl,rfl⟩:=hcs;exact⟨[],⟨aK _,none,0,rfl,aK _,ae,fun h=>absurd h ag⟩,fun o ho=>by cases ho⟩
 ·simp[Value.cells] at hcs
  obtain⟨rfl,rfl,rfl⟩:=hcs;simp only[if_true] at hmm;have ce:Tryz.prog.cellsOf 55=5:=by kernel_rfl
  have each:∀i,i<m->∃q:I4 × Value,(w.cell? (a.add (i * 5))=some (.int .u8 q.1.kd)/\w.cell? (a.add (i * 5+1))=some (.bool q.1.who)/\w.cell? (a.add (i * 5+2))=some (.int .i64 q.1.v)/\w.cell? (a.add (i * 5+3))=some (.int .u64 q.1.n)/\w.cell? (a.add (i * 5+4))=some q.2)/\Y5 w.heap.size w q.2 q.1.B/\q.1.fits:=by
   intro i hi;obtain⟨cs',h1,h2⟩:=hx i hi;rw[ce] at h1;obtain⟨_,hlen,hcell⟩:=World.cells?_some h1;obtain⟨xs,k,hk,hxy,_,hxl,hf⟩:=DataW.trod_struct Tryz.underlying55 h2
   match xs,hxl,cs',hlen with
   | [y0,y1,y2,y3,y4],_,[v0,v1,v2,v3,v4],_=>
    have g0:=hf 0 _ rfl;have g1:=hf 1 _ rfl;have g2:=hf 2 _ rfl;have g3:=hf 3 _ rfl;have g4:=hf 4 _ rfl;simp[show Tryz.prog.cellsOf 5=1 by kernel_rfl,show Tryz.prog.cellsOf 4=1 by kernel_rfl,show Tryz.prog.cellsOf 2=1 by kernel_rfl,show Tryz.prog.cellsOf 53=1 by kernel_rfl,show Tryz.prog.cellsOf 22=1 by kernel_rfl] at g0 g1 g2 g3 g4
    have e0:=hcell 0 ae
    have e1:=hcell 1 ae
    have e2:=hcell 2 ae
    have e3:=hcell 3 ae
    have e4:=hcell 4 ae
    rw[add_add] at e0 e1 e2 e3 e4;obtain⟨x0,p0,_,b0⟩:=DataW.trod_int (k:=.u8) Tryz.underlying5 g0;obtain⟨x1,p1,_⟩:=DataW.trod_bool Tryz.underlying4 g1;obtain⟨x2,p2,_,b2⟩:=DataW.trod_int (k:=.i64) Tryz.underlying2 g2;obtain⟨x3,p3,_,b3⟩:=DataW.trod_int (k:=.u64) Tryz.underlying53 g3;obtain⟨x4,B4,p4,c4,b4⟩:=Y9 g4;simp only[List.cons.injEq,and_true] at p0 p1 p2 p3 p4;subst p0;subst p1;subst p2;subst p3;subst p4;refine⟨(⟨x0,x1,x2,x3,B4⟩,v4),⟨by simpa[ce] using e0,by simpa[ce] using e1,by simpa[ce] using e2,by simpa[ce] using e3,by simpa[ce] using e4⟩,c4,?_⟩
    have h9:=bounds_i64 b2;have h8:=bounds_u64 b3;have h7:=bounds_u8 b0;refine⟨h7.1,h7.2,h9.1,h9.2,h8.1,by show x3<18446744073709551616;have:=h8.2;omega,b4⟩
  obtain⟨f,hf⟩:=choose_lt each;have hlen:((List.range l0).map fun i=>(f i).1).length=l0:=ag
  refine⟨(List.range l0).map fun i=>(f i).1,⟨aK _,some a,c0,by rw[hlen],by rw[hlen];exact hl,by unfold maxLen at hm;omega,fun hp=>?_⟩,fun x hx=>?_⟩
  ·rw[hlen] at hp
   obtain⟨b,off,spot⟩:=a;have hspot:spot=none:=by simpa[Addr.add] using World.cell?_spot (hf 0 ae).1.1
   subst hspot;refine⟨b,off,rfl,b_ _ _ (hf 0 ae).1.1,fun j hj=>?_⟩
   rw[hlen] at hj;obtain⟨⟨h1,h2,h3,h4,h5⟩,h6,_⟩:=hf j ae
   rw[add_plain] at h1 h2 h3 h4 h5;simp only[List.getElem_map,List.getElem_range];exact⟨_,h1,h2,h3,h4,h5,h6⟩
  ·obtain⟨i,hi,rfl⟩:=List.mem_map.1 hx
   have hi':=List.mem_range.1 hi;exact(hf i ae).2.2
end
open Go.RowKit Go.Lib Go.Shelf
structure wQ(sp:iM)(o0:Nat)(S R:Nat->Js)(X Y:Nat->Nat)(ZM Ow:Nat->Ft)(wb vb bx:Nat)(B:List Int)(dq:Value)(H HR:Ft)(w0 w:World):Prop where
 du:mD sp o0 S R X Y Ow wb vb w
 got:wP ZM Ow w0 w
 hH:∀k,H k->bx<k/\k<w.heap.size/\∀a,¬Ow a k
 hR:∀k,HR k->bx<k/\k<w.heap.size/\∀a,¬Ow a k
 ap:∀k,H k->¬HR k
 rc:gI o0 dq B 0 HR w
 hb:w0.heap.size<=bx/\bx<w.heap.size/\∀a,¬Ow a bx
 bz:o0<=w0.heap.size
section
variable {sp : iM} {o0 : Nat} {S R : Nat -> Js} {X Y : Nat -> Nat} {ZM Ow : Nat -> Ft} {wb vb bx i : Nat} {B : List Int} {dq : Value} {H HR : Ft} {w0 w w' : World} {s' : Js}
theorem wQ.keep(d:wQ sp o0 S R X Y ZM Ow wb vb bx B dq H HR w0 w)(hb:Below w.heap.size w w'):wQ sp o0 S R X Y ZM Ow wb vb bx B dq H HR w0 w':=by
 have hz:=hb.size;have h1:=d.got.2.size;have h2:=d.bz;exact⟨d.du.keep hb,d.got.keep hb,fun k e=>⟨(d.hH k e).1,aU (d.hH k e).2.1 hz,(d.hH k e).2.2⟩,fun k e=>⟨(d.hR k e).1,aU (d.hR k e).2.1 hz,(d.hR k e).2.2⟩,d.ap,d.rc.keep ae hb,⟨d.hb.1,aU d.hb.2.1 hz,d.hb.2.2⟩,d.bz⟩
theorem Qj{c k:Nat}(h:∀a,¬Ow a k)(hk:k<w.heap.size):∀a,¬Ey Ow c (Gr (Ow c) w w') a k:=fun a e=>by
 by_cases ea:a=c
 ·rw[ea,lV] at e
  exact e.elim (h c) (fun e2=>by omega)
 ·rw[h_ ea] at e;exact h a e
theorem wQ.MK(d:wQ sp o0 S R X Y ZM Ow wb vb bx B dq H HR w0 w)(hi:i<2)(hs:iE sp s' (X i) (Gr (Ow i) w w') w')(ok:jg sp s')(ht:Touch (fun k=>Ow i k\/H k) w w') :
 wQ sp o0 (LV S i s') R X Y ZM (Ey Ow i (Gr (Ow i) w w')) wb vb bx B dq H HR w0 w':=by
 have hz:=ht.size;have h1:=d.got.2.size;have h2:=d.bz;exact⟨d.du.MK hi ae hs ok ht (fun k e=>(d.hH k e).2.2),d.got.step ht (fun k e=>by have:=(d.hH k e).1;have:=d.hb.1;omega),
  fun k e=>⟨(d.hH k e).1,aU (d.hH k e).2.1 hz,Qj (d.hH k e).2.2 (d.hH k e).2.1⟩,fun k e=>⟨(d.hR k e).1,aU (d.hR k e).2.1 hz,Qj (d.hR k e).2.2 (d.hR k e).2.1⟩,d.ap,
  d.rc.far ae ht (fun k e e2=>e2.elim ((d.hR k e).2.2 i) (fun e3=>d.ap k e3 e)) (fun k e=>e.elim (fun e2=>(d.du.low i k e2).1) (fun e2=>by have:=(d.hH k e2).1;have:=d.hb.1;omega)),
  ⟨d.hb.1,aU d.hb.2.1 hz,Qj d.hb.2.2 d.hb.2.1⟩,d.bz⟩
theorem wQ.ML(d:wQ sp o0 S R X Y ZM Ow wb vb bx B dq H HR w0 w)(hi:i<2)(hs:gG sp s' (Y i) (Gr (Ow (2+i)) w w') w')(ok:jg sp s')(ht:Touch (fun k=>Ow (2+i) k\/HR k) w w') :
 mD sp o0 S (LV R i s') X Y (Ey Ow (2+i) (Gr (Ow (2+i)) w w')) wb vb w'/\wP ZM (Ey Ow (2+i) (Gr (Ow (2+i)) w w')) w0 w':=by
 have hz:=ht.size;have h1:=d.got.2.size;have h2:=d.bz;exact⟨d.du.ML hi ae hs ok ht (fun k e=>(d.hR k e).2.2),d.got.step ht (fun k e=>by have:=(d.hR k e).1;have:=d.hb.1;omega)⟩
def MN(l:List Nat)(w w':World):Prop:=∀k∈l,w'.heap[k]?=w.heap[k]?
theorem MN.at_{l:List Nat}(h:MN l w w'){p:Addr}(hp:p.block∈l):w'.cell? p=w.cell? p:=bM (h _ hp)
theorem wQ.Zb(d:wQ sp o0 S R X Y ZM Ow wb vb bx B dq H HR w0 w)(hi:i<2)(ht:Touch (fun k=>Ow i k\/H k) w w'):MN [wb,vb,bx] w w':=fun k hk=>by
 have h4:∀k,Ow 4 k->w'.heap[k]?=w.heap[k]?:=fun k e=>ht.block k (d.du.low 4 k e).2 (fun e2=>e2.elim (fun e3=>by have:=d.du.uniq 4 i k e e3;omega) (fun e3=>(d.hH k e3).2.2 4 e))
 simp only[a_,List.not_mem_nil,or_false] at hk
 rcases hk with rfl|rfl|rfl
 ·exact h4 _ d.du.rw
 ·exact h4 _ d.du.rv
 ·exact ht.block _ d.hb.2.1 (fun e2=>e2.elim (d.hb.2.2 i) (fun e3=>by have:=(d.hH _ e3).1;omega))
theorem wQ.Zc(d:wQ sp o0 S R X Y ZM Ow wb vb bx B dq H HR w0 w)(hi:i<2)(ht:Touch (fun k=>Ow (2+i) k\/HR k) w w'):MN [wb,vb,bx] w w':=fun k hk=>by
 have h4:∀k,Ow 4 k->w'.heap[k]?=w.heap[k]?:=fun k e=>ht.block k (d.du.low 4 k e).2 (fun e2=>e2.elim (fun e3=>by have:=d.du.uniq 4 (2+i) k e e3;omega) (fun e3=>(d.hR k e3).2.2 4 e))
 simp only[a_,List.not_mem_nil,or_false] at hk
 rcases hk with rfl|rfl|rfl
 ·exact h4 _ d.du.rw
 ·exact h4 _ d.du.rv
 ·exact ht.block _ d.hb.2.1 (fun e2=>e2.elim (d.hb.2.2 (2+i)) (fun e3=>by have:=(d.hR _ e3).1;omega))
end
structure jK(wb vb bx i j x0 x1 y0 y1 kd n:Nat)(who:Bool)(v:Int)(cv:Value)(w:World):Prop where
 p0:w.cell? ⟨wb,i,none⟩=some (.pointer (some ⟨x0,0,none⟩))
 p1:w.cell? ⟨wb,j,none⟩=some (.pointer (some ⟨x1,0,none⟩))
 q0:w.cell? ⟨vb,i,none⟩=some (.pointer (some ⟨y0,0,none⟩))
 q1:w.cell? ⟨vb,j,none⟩=some (.pointer (some ⟨y1,0,none⟩))
 o0:w.cell? ⟨bx,0,none⟩=some (.int .u8 kd)
 o1:w.cell? ⟨bx,1,none⟩=some (.bool who)
 o2:w.cell? ⟨bx,2,none⟩=some (.int .i64 v)
 o3:w.cell? ⟨bx,3,none⟩=some (.int .u64 n)
 o4:w.cell? ⟨bx,4,none⟩=some cv
theorem jK.same{wb vb bx i j x0 x1 y0 y1 kd n:Nat}{who:Bool}{v:Int}{cv:Value}{w w':World}(h:jK wb vb bx i j x0 x1 y0 y1 kd n who v cv w)(hs:MN [wb,vb,bx] w w'):jK wb vb bx i j x0 x1 y0 y1 kd n who v cv w':=by
 have hw:∀k,w'.cell? ⟨wb,k,none⟩=w.cell? ⟨wb,k,none⟩:=fun k=>hs.at_ ag
 have hv:∀k,w'.cell? ⟨vb,k,none⟩=w.cell? ⟨vb,k,none⟩:=fun k=>hs.at_ ag
 have hb:∀k,w'.cell? ⟨bx,k,none⟩=w.cell? ⟨bx,k,none⟩:=fun k=>hs.at_ ag
 exact⟨(hw _).trans h.p0,(hw _).trans h.p1,(hv _).trans h.q0,(hv _).trans h.q1,(hb _).trans h.o0,(hb _).trans h.o1,(hb _).trans h.o2,(hb _).trans h.o3,(hb _).trans h.o4⟩
end Go.Proofs.YtkiebccnpheloaaGreat.D
namespace Go.Proofs.YtkiebccnpheloaaGreat
open Go.RowKit
inductive Tr where
 | nil
 | rd (i:Nat) (t:Tr)
 | ef (i:Nat) (t:Tr)
 | two (i j:Nat) (t u:Tr)
def Tr.len:Tr->Nat
 | .nil=>0
 | .rd _ t=>t.len+1
 | .ef _ t=>t.len+1
 | .two _ _ t _=>t.len+1
section
variable {P : Program} {ops : Array Oper} {md : Region.Mode} {S : World -> Prop} {Q : Exit -> Act -> World -> Prop}
def ZN(md:Region.Mode)(ops:Array Oper):Tr->Array Bool->Bool
 | .nil,listed=>(Region.ready md ops listed).isEmpty
 | .rd i r,listed=>(Region.ready md ops listed).contains i && Region.free md ops listed i && ZN md ops r (listed.setIfInBounds i true)
 | .ef i r,listed=>decide (Region.ready md ops listed=[i]) && ZN md ops r (listed.setIfInBounds i true)
 | .two i j r q,listed=>decide (Region.ready md ops listed=[i,j]) && decide (r.len=q.len) && ZN md ops r (listed.setIfInBounds i true) && ZN md ops q (listed.setIfInBounds j true)
def uZ(P:Program)(ops:Array Oper)(Q:Exit->Act->World->Prop)(S:World->Prop):Tr->Act->World->Prop
 | .nil,a,w=>Q .normal a w
 | .rd i r,a,w=>∃o v,ops[i]?=some o/\YieldsIf P ops S o v a/\uZ P ops Q S r (a.put o.dst v) w
 | .ef i r,a,w=>wpOp P ops Q i (fun a' w'=>S w'/\uZ P ops Q S r a' w') a w
 | .two i j r q,a,w=>wpOp P ops Q i (fun a' w'=>S w'/\uZ P ops Q S r a' w') a w/\wpOp P ops Q j (fun a' w'=>S w'/\uZ P ops Q S q a' w') a w
theorem t_(hsel:Region.noSelect ops=true)(hQ:∀c a w,¬Q (.panic c) a w):∀(t:Tr) (listed:Array Bool) (a:Act) (w:World),ZN md ops t listed=true->S w ->
 uZ P ops Q S t a w->wpAnyH P md ops Q S t.len listed a w
 | .nil,listed,a,w,hB,_,h=>⟨by simpa[ZN] using hB,h⟩
 | .rd i r,listed,a,w,hB,hS,h=>by
  simp only[ZN,Bool.and_eq_true] at hB;obtain⟨o,v,ho,hy,hn⟩:=h;exact wpAnyH_take ho hsel hB.1.2 hB.1.1 (fun c a w hp=>absurd hp (hQ c _ w)) hy hS (t_ hsel hQ r _ _ w hB.2 hS hn)
 | .ef i r,listed,a,w,hB,hS,h=>by
  simp only[ZN,Bool.and_eq_true,decide_eq_true_eq] at hB;refine⟨fun h0=>(by rw[hB.1] at h0;cases h0),fun j hj=>?_⟩
  rw[hB.1] at hj;have hji:j=i:=by simpa using hj
  subst hji;exact wpOp_mono (fun a' w' h'=>⟨h'.1,t_ hsel hQ r _ a' w' hB.2 h'.1 h'.2⟩) h
 | .two i j r q,listed,a,w,hB,hS,h=>by
  simp only[ZN,Bool.and_eq_true,decide_eq_true_eq] at hB;obtain⟨⟨⟨h1,h2⟩,h3⟩,h4⟩:=hB;refine⟨fun h0=>(by rw[h1] at h0;cases h0),fun k hk=>?_⟩
  rw[h1] at hk;simp only[a_,List.not_mem_nil,or_false] at hk
  rcases hk with rfl|rfl
  ·exact wpOp_mono (fun a' w' h'=>⟨h'.1,t_ hsel hQ r _ a' w' h3 h'.1 h'.2⟩) h.1
  ·exact wpOp_mono (fun a' w' h'=>⟨h'.1,by
    have:=t_ hsel hQ q _ a' w' h4 h'.1 h'.2;rw[<-h2] at this;exact this⟩) h.2
theorem oM{id:Nat}{a:Act}{w:World}(S:World->Prop)(t:Tr)(hm:P.follows .mixedOrders=true)
 (hB:(Region.noSelect ops && decide (t.len=ops.size) && ZN .any ops t (Array.replicate ops.size false))=true)
 (hS:S w.drew) (h:uZ P ops (Calm Q) S t a w.drew):(Code.region id ops true).wp P Q a w:=by
 simp only[Bool.and_eq_true,decide_eq_true_eq] at hB;have H:=t_ (Q:=Calm Q) hB.1.1 (fun _ _ _ h=>h) t _ a _ hB.2 hS h
 rw[hB.1.2] at H;exact Code.wp_mono Calm.imp (wp_region_any hm (wpAny_of_held _ _ _ _ H))
theorem fK{i:Nat}{r:Tr}{a:Act}{w:World}{o:Oper}(ho:ops[i]?=some o)(hw:Region.wanted o (yielded ops a.tmps)=true)
 (h:∀R:Act->Prop,(∀a',uZ P ops Q S r a' w->R a')->∃v,(∀w',S w'->Cb v w' ((execOp a.eval o).run P w'))/\R (a.put o.dst v)):uZ P ops Q S (.rd i r) a w:=by
 obtain⟨v,h1,h2⟩:=h _ (fun _ h=>h)
 refine⟨o,v,ho,.inl ⟨hw,fun w' hS=>?_⟩,h2⟩
 have h3:=h1 w' hS;generalize (execOp a.eval o).run P w'=x at *
 cases x with
 | ok n w''=>obtain⟨rfl,rfl⟩:=h3;rfl
 | halt x w''=>exact h3.elim
theorem iT{i:Nat}{r:Tr}{a:Act}{w:World}{o:Oper}(ho:ops[i]?=some o)(hw:Region.wanted o (yielded ops a.tmps)=true)
 (h:∀K:Act->World->Prop,(∀a' w',S w'->uZ P ops Q S r a' w'->K a' w')->o.wp P a w K Q):uZ P ops Q S (.ef i r) a w:=by
 unfold uZ wpOp;simp only[ho,hw,if_true];exact .inl (h _ fun _ _ h1 h2=>⟨h1,h2⟩)
theorem qK{i j:Nat}{r q:Tr}{a:Act}{w:World}{o o2:Oper}(ho:ops[i]?=some o)(hw:Region.wanted o (yielded ops a.tmps)=true)(ho2:ops[j]?=some o2)(hw2:Region.wanted o2 (yielded ops a.tmps)=true)
 (h:∀K:Act->World->Prop,(∀a' w',S w'->uZ P ops Q S r a' w'->K a' w')->o.wp P a w K Q)
 (h2:∀K:Act->World->Prop,(∀a' w',S w'->uZ P ops Q S q a' w'->K a' w')->o2.wp P a w K Q):uZ P ops Q S (.two i j r q) a w:=by
 unfold uZ wpOp;simp only[ho,hw,ho2,hw2,if_true];exact⟨.inl (h _ fun _ _ h1 h2=>⟨h1,h2⟩),.inl (h2 _ fun _ _ h1 h2=>⟨h1,h2⟩)⟩
theorem kN{a:Act}{w:World}(h:Q .normal a w):uZ P ops (Calm Q) S .nil a w:=h
end
end Go.Proofs.YtkiebccnpheloaaGreat
