/- Parts of a proof. No condition. -/
import Derived.Test.YtilcnjbpmoijmaaGreatPw40
import Derived.Test.YtilcnjbpmoijmaaGreatPw42
set_option maxRecDepth 100000
set_option maxHeartbeats 16000000
set_option linter.unusedVariables false
set_option linter.unusedSimpArgs false
namespace Go.Proofs.YtilcnjbpmoijmaaGreat.D
open Tryz
open Go.RowKit Go.Lib Go.Shelf
theorem H6{P C:Ft->World->Prop}(S:jV P){F H:Ft}{er:Int}{w w1 w':World}{e:Ending}(hb:Below w.heap.size w w1)(h0:∀k,F k->k<w.heap.size)(hm:qP P C F H er w1 e w'):qP P C F H er w e w':=
 ⟨hm.1,S.more hm.2.1 (fun _ h=>h.imp id fun h=>⟨bJ hb.size h.1,h.2⟩) (jU h0 (bJ hb.size hm.2.2.2.size)),hm.2.2.1,Rw hb hm.2.2.2⟩
section
variable {sp : fG} {c t : Js} {x y a : Nat} {F Fy H : Ft} {cq : Value} {B : List Int}
theorem ai5{ac m:Nat}(v n:Int)(w:World)(h:iK (.d ac m) c x F w)(ok:iT (.d ac m) c)(hc:jf cq B a H w)(hd:∀k,H k->¬F k)(v0:-9223372036854775808<=v)(v1:v<=9223372036854775807)(n0:0<=n)(n1:n<18446744073709551616) :
 aH 68 #[.pointer (some ⟨x,0,none⟩),.int .i64 v,.int .u64 n,cq] w (qP (iK (.d ac m) (Hw (.d ac m) B v n c a).1 x) (jf cq B (Hw (.d ac m) B v n c a).2) F H (PS (.d ac m) c v n) w):=by
 obtain⟨p,G,hB,hI,hFx,VF,hGF,hF⟩:=h;have hdG:∀k,H k->¬G k:=fun k h1 h2=>hd k h1 (hGF k h2)
 refine(Xn (Q:=fun v' w'=>qP (iK (.d ac m) (Hw (.d ac m) B v n c a).1 x) (jf cq B (Hw (.d ac m) B v n c a).2) F H (PS (.d ac m) c v n) w (.returned v') w') hB ?_).mono ?_
 ·refine(ba6 v n w hI ok v0 v1 n0 n1).mono ?_
  rintro e w' ⟨rfl,h2,h3⟩;obtain⟨h4,h5⟩:=VE (c':=(Hw (.d ac m) B v n c a).1) hB hFx VF hGF hF h2 (h3.mono fun k e=>.inl e) hd
  exact⟨_,rfl,rfl,h4,hc.far h3 hdG,h5⟩
 ·rintro e w' ⟨v',rfl,hm⟩;exact hm
theorem ai6(w:World)(h:iK sp c x F w)(ok:iT sp c):aH 22 #[.pointer (some ⟨x,0,none⟩)] w fun e w'=>e=.returned (.int .u64 (vT sp c))/\w=w':=by
 obtain⟨p,G,hB,hI,hFx,VF,hGF,hF⟩:=h
 cases sp with
 | h lo hi dg u m gr=>
  refine(Oc (Q:=fun v' w'=>v'=.int .u64 (vT (.h lo hi dg u m gr) c)/\w=w') hB ?_).mono ?_
  ·refine(ac0 w hI).mono ?_
   rintro e w' ⟨rfl,rfl⟩;exact⟨_,rfl,rfl,rfl⟩
  ·rintro e w' ⟨v',rfl,rfl,rfl⟩;exact⟨rfl,rfl⟩
 | d ac m=>
  refine(Oe (Q:=fun v' w'=>v'=.int .u64 (vT (.d ac m) c)/\w=w') hB ?_).mono ?_
  ·refine(ZZ w hI ok).mono ?_
   rintro e w' ⟨rfl,rfl⟩;exact⟨_,rfl,rfl,rfl⟩
  ·rintro e w' ⟨v',rfl,rfl,rfl⟩;exact⟨rfl,rfl⟩
 | t d=>
  refine(Og (Q:=fun v' w'=>v'=.int .u64 (vT (.t d) c)/\w=w') hB ?_).mono ?_
  ·refine(total_any w hI).mono ?_
   rintro e w' ⟨rfl,rfl⟩;exact⟨_,rfl,rfl,rfl⟩
  ·rintro e w' ⟨v',rfl,rfl,rfl⟩;exact⟨rfl,rfl⟩
 | k q=>
  obtain⟨lv,vs,hs⟩:=hI;refine(Oh (Q:=fun v' w'=>v'=.int .u64 (vT (.k q) c)/\w=w') hB ?_).mono ?_
  ·refine(K.total_any w hs).mono ?_
   rintro e w' ⟨rfl,rfl⟩;exact⟨_,rfl,rfl,rfl⟩
  ·rintro e w' ⟨v',rfl,rfl,rfl⟩;exact⟨rfl,rfl⟩
theorem L_(w:World)(h:iK sp c x F w)(ok:iT sp c):aH 54 #[.pointer (some ⟨x,0,none⟩)] w fun e w'=>∃v,e=.returned v/\OwnB w.heap.size w' v (vU sp c)/\Below w.heap.size w w':=by
 obtain⟨p,G,hB,hI,hFx,VF,hGF,hF⟩:=h
 cases sp with
 | h lo hi dg u m gr=>
  refine Sj (Q:=fun v' w'=>OwnB w.heap.size w' v' (vU (.h lo hi dg u m gr) c)/\Below w.heap.size w w') hB ?_
  exact Ph w hB hI ok
 | d ac m=>
  refine Sl (Q:=fun v' w'=>OwnB w.heap.size w' v' (vU (.d ac m) c)/\Below w.heap.size w w') hB ?_
  exact Gq w hI ok
 | t d=>
  refine Sm (Q:=fun v' w'=>OwnB w.heap.size w' v' (vU (.t d) c)/\Below w.heap.size w w') hB ?_
  exact FK p G d c.s _ w hI (IC.fit ok)
 | k q=>
  refine Sr (Q:=fun v' w'=>OwnB w.heap.size w' v' (vU (.k q) c)/\Below w.heap.size w w') hB ?_
  obtain⟨lv,vs,hs⟩:=hI;exact K.Ht w hs ((yH.fit ok).pk (a:=0)) (yH.bd ok) (by have:=yH.q1 ok;omega)
theorem Mc(w:World)(h:iK sp c x F w)(ok:iT sp c):aH 53 #[.pointer (some ⟨x,0,none⟩)] w fun e w'=>e=.returned sp.v/\Below w.heap.size w w':=by
 obtain⟨p,G,hB,hI,hFx,VF,hGF,hF⟩:=h
 cases sp with
 | h lo hi dg u m gr=>exact yh hB (fun w1 hb=>pX w1 ((jF (.h lo hi dg u m gr) c p).keep hI hb)) (fun w1 hb=>zH w1 ((jF (.h lo hi dg u m gr) c p).keep hI hb))
 | d ac m=>exact yg hB (fun w1 hb=>Be w1 ((jF (.d ac m) c p).keep hI hb)) (fun w1 hb=>wL w1 ((jF (.d ac m) c p).keep hI hb))
 | t d=>exact yc hB (fun w1 hb=>oD w1 ((jF (.t d) c p).keep hI hb))
 | k q=>exact yf hB (fun w1 hb=>by
  obtain⟨lv,vs,hs⟩:=(jF (.k q) c p).keep hI hb;exact K.size_any w1 hs)
theorem JP{p p2:Nat}{G G2:Ft}(w:World)(hB:dK w x 126 (sp.five p))(hI:rO sp c p G w)(hFx:F x)(VF:¬G x)(hGF:∀k,G k->F k)(hF:∀k,F k->k<w.heap.size)
 (hB2:dK w y 126 (sp.five p2)) (hI2:rO sp t p2 G2 w) (hxy:(p2=p/\G2=G/\t=c)\/∀k,G k->¬G2 k) (ok:iT sp c) (ok2:iT sp t) (hc:jf cq B a H w) (hq:∀q,sp=.k q->cq=.pointer none->K.iH q (K.lH c.L t.L)=none) (hd:∀k,H k->¬F k) :
 aH 38 #[.pointer (some ⟨x,0,none⟩),.pointer (some ⟨y,0,none⟩),cq] w (qP (iK sp (oO sp B t c a).1 x) (jf cq B (oO sp B t c a).2) F H (D8 sp c t) w):=by
 have hdG:∀k,H k->¬G k:=fun k h1 h2=>hd k h1 (hGF k h2)
 have low:=(jF sp c p).low hI;have fin:∀c' a' er w1 e w',Below w.heap.size w w1->qP (rO sp c' p) (jf cq B a') G H er w1 e w'->qP (iK sp c' x) (jf cq B a') F H er w e w':=fun c' a' er w1 e w' hb hm=>by
  have hm:=H6 (jF sp c' p) hb low hm;obtain⟨h1,h2⟩:=VE hB hFx VF hGF hF hm.2.1 hm.2.2.2 hd;exact⟨hm.1,h1,hm.2.2.1,h2⟩
 have kI:∀w1,Below w.heap.size w w1->rO sp c p G w1:=fun w1 hb=>(jF sp c p).keep hI hb
 have kI2:∀w1,Below w.heap.size w w1->rO sp t p2 G2 w1:=fun w1 hb=>(jF sp t p2).keep hI2 hb
 have kc:∀w1,Below w.heap.size w w1->jf cq B a H w1:=fun w1 hb=>hc.keep hb
 clear hI hI2 hc
 cases sp with
 | h lo hi dg u m gr=>
  refine(SA (Q:=fun v' w'=>qP (iK (.h lo hi dg u m gr) (oO (.h lo hi dg u m gr) B t c a).1 x) (jf cq B (oO (.h lo hi dg u m gr) B t c a).2) F H (D8 (.h lo hi dg u m gr) c t) w (.returned v') w') hB hB2 (fun w1 hb=>pX w1 (kI w1 hb)) (fun w1 hb=>zH w1 (kI w1 hb)) (fun w1 hb=>pX w1 (kI2 w1 hb)) (fun w1 hb=>zH w1 (kI2 w1 hb)) (fun w1 hb=>?_)).mono ?_
  ·refine(ad8 w1 (kI w1 hb) (kI2 w1 hb) ok ok2).mono ?_
   rintro e w' ⟨rfl,h2,h3⟩;exact⟨_,rfl,fin _ _ _ w1 _ _ hb (VK ⟨rfl,h2,h3⟩ ((kc w1 hb).far h3 hdG))⟩
  ·rintro e w' ⟨v',rfl,hm⟩;exact hm
 | d ac m=>
  refine(SB (Q:=fun v' w'=>qP (iK (.d ac m) (oO (.d ac m) B t c a).1 x) (jf cq B (oO (.d ac m) B t c a).2) F H (D8 (.d ac m) c t) w (.returned v') w') hB hB2 (fun w1 hb=>Be w1 (kI w1 hb)) (fun w1 hb=>wL w1 (kI w1 hb)) (fun w1 hb=>Be w1 (kI2 w1 hb)) (fun w1 hb=>wL w1 (kI2 w1 hb)) (fun w1 hb=>?_)).mono ?_
  ·refine(ao3 w1 (kI w1 hb) (kI2 w1 hb) ok ok2 ?_).mono ?_
   ·rcases hxy with⟨h1,_,_⟩|h1
    ·exact .inr h1
    ·exact .inl fun k h2 h3=>h1 k h3 h2
   rintro e w' ⟨rfl,h2,h3⟩;exact⟨_,rfl,fin _ _ _ w1 _ _ hb (VK ⟨rfl,h2,h3⟩ ((kc w1 hb).far h3 hdG))⟩
  ·rintro e w' ⟨v',rfl,hm⟩;exact hm
 | t d=>
  have ft:=IC.fit ok;have ft2:=IC.fit ok2;have hd1:=ft.d1;have hxy':(p2=p/\G2=G/\t.s=c.s)\/∀k,G k->¬G2 k:=hxy.imp (fun h=>⟨h.1,h.2.1,by rw[h.2.2]⟩) id
  refine(Su (Q:=fun v' w'=>qP (iK (.t d) (oO (.t d) B t c a).1 x) (jf cq B (oO (.t d) B t c a).2) F H (D8 (.t d) c t) w (.returned v') w') hB hB2 (fun w1 hb=>oD w1 (kI w1 hb)) (fun w1 hb=>oD w1 (kI2 w1 hb)) (fun w1 hb=>?_)).mono ?_
  ·by_cases hn:281474976710656 - Go.Proofs.YtilcnjbpmoijmaaGreat.tot (c.s.L++c.s.W)<Go.Proofs.YtilcnjbpmoijmaaGreat.tot (t.s.L++t.s.W)\/Go.Proofs.YtilcnjbpmoijmaaGreat.tot (t.s.L++t.s.W)=0
   ·refine(at1 w1 (kI w1 hb) (kI2 w1 hb) ft ft2 hn).mono ?_
    rintro e w' ⟨rfl,hb'⟩;have e2:oO (.t d) B t c a=(c,a):=by
     simp only[oO]
     by_cases he:iJ c.s t.s=0
     ·rw[if_pos he]
      have hz:Go.Proofs.YtilcnjbpmoijmaaGreat.tot (t.s.L++t.s.W)=0:=by
       rcases hn with hn|hn
       ·unfold iJ at he;rw[if_pos hn] at he;cases he
       ·exact hn
      have:c.s.take d t.s=c.s:=by unfold St.take;rw[if_pos hz]
      rw[this]
     ·rw[if_neg he]
    rw[e2];exact⟨_,rfl,fin c a _ w1 _ _ hb (JG (jF (.t d) c p) (kI w1 hb) rfl hb' ((kc w1 hb).keep hb'))⟩
   ·have h0:¬Go.Proofs.YtilcnjbpmoijmaaGreat.tot (t.s.L++t.s.W)=0:=fun e=>hn (.inr e)
    have h6:¬281474976710656 - Go.Proofs.YtilcnjbpmoijmaaGreat.tot (c.s.L++c.s.W)<Go.Proofs.YtilcnjbpmoijmaaGreat.tot (t.s.L++t.s.W):=fun e=>hn (.inl e)
    have hnn:=ft2.ok.qR;refine(G9 w1 (kI w1 hb) (kI2 w1 hb) hxy' ft ft2 ae  ae  ae).mono ?_
    rintro e w' ⟨rfl,F',h2,h3,h4⟩;have e1:iJ c.s t.s=0:=by unfold iJ;rw[if_neg h6]
    have e2:oO (.t d) B t c a=({c with s:=c.s.take d t.s},a):=by simp only[oO];rw[if_pos e1]
    have e3:D8 (.t d) c t=0:=e1;rw[e2,e3];refine⟨_,rfl,fin _ _ _ w1 _ _ hb ⟨rfl,?_,(kc w1 hb).far h4 hdG,h4.mono fun _ h=>.inl h⟩⟩
    exact(jF (.t d) {c with s:=c.s.take d t.s} p).gr (F':=F') h3 h2 (fun k hk=>bF (low k hk) hb.size) h4.size
  ·rintro e w' ⟨v',rfl,hm⟩;exact hm
 | k q=>
  refine(Sz (Q:=fun v' w'=>qP (iK (.k q) (oO (.k q) B t c a).1 x) (jf cq B (oO (.k q) B t c a).2) F H (D8 (.k q) c t) w (.returned v') w') hB hB2 (fun w1 hb=>by
   obtain⟨lv,vs,hs⟩:=kI w1 hb;exact K.size_any w1 hs) (fun w1 hb=>by
   obtain⟨lv,vs,hs⟩:=kI2 w1 hb;exact K.size_any w1 hs) (fun w1 hb=>?_)).mono ?_
  ·refine(bh9 (kI w1 hb) (yH.fit ok) (kI2 w1 hb) (yH.fit ok2) (kc w1 hb) (hq q rfl) hdG (yH.q0 ok) (yH.q1 ok)).mono ?_
   rintro e w' hm;obtain⟨rfl,h2,h3,h4⟩:=hm;exact⟨_,rfl,fin _ _ _ w1 _ _ hb ⟨rfl,h2,h3,h4⟩⟩
  ·rintro e w' ⟨v',rfl,hm⟩;exact hm
theorem au8(w:World)(h:iK sp c x F w)(h2:iK sp t y Fy w)(hxy:(y=x/\t=c)\/∀k,F k->¬Fy k)(ok:iT sp c)(ok2:iT sp t)(hc:jf cq B a H w)(hq:∀q,sp=.k q->cq=.pointer none->K.iH q (K.lH c.L t.L)=none)(hd:∀k,H k->¬F k) :
 aH 38 #[.pointer (some ⟨x,0,none⟩),.pointer (some ⟨y,0,none⟩),cq] w (qP (iK sp (oO sp B t c a).1 x) (jf cq B (oO sp B t c a).2) F H (D8 sp c t) w):=by
 obtain⟨p,G,hB,hI,hFx,VF,hGF,hF⟩:=h
 rcases hxy with⟨rfl,rfl⟩|hxy
 ·exact JP w hB hI hFx VF hGF hF hB hI (.inl ⟨rfl,rfl,rfl⟩) ok ok2 hc hq hd
 ·obtain⟨p2,G2,hB2,hI2,cj8,cj9,cc5,hF2⟩:=h2
  exact JP w hB hI hFx VF hGF hF hB2 hI2 (.inr fun k h1 h2=>hxy k (hGF k h1) (cc5 k h2)) ok ok2 hc hq hd
end
open Tryz
open Go.RowKit Go.Lib Go.Shelf
def mkV:Value:=.agg #[.func (.func 125) #[] #[],.func (.func 126) #[] #[],.func (.func 127) #[] #[],.func (.func 128) #[] #[],
 .func (.func 129) #[] #[],.func (.func 130) #[] #[],.func (.func 131) #[] #[],.func (.func 132) #[] #[]]
theorem kW(w:World):aH 70 #[] w (aG w mkV):=by
 unfold mkV
 go_enter func70,ntmps70
 go_wp2_with fail;refine bodyPost_ret (by simp[results,Tryz.results70,go_sem, *];try rfl) rfl ?_
 exact⟨rfl,bw⟩
section
variable {R : Nat -> World -> Prop} {lo hi dg ac sz : Int} {gr : Bool}
theorem wZ{kd:Int}{mf:Nat}(hkm:(kd=1/\mf=125)\/(kd=2/\mf=127)\/(kd=3/\mf=129)\/(kd=4/\mf=131))(w:World)(hm:∀y w1,Below w.heap.size w w1->w.heap.size<=y->dK w1 y 126 #[.int .u8 kd,.pointer none,.pointer none,.pointer none,.pointer none]->Calls prog mf #[.pointer (some ⟨y,0,none⟩),dS kd lo hi dg gr ac sz] w1 fun e w'=>e=.returned (.int .i64 0)/\R y w'/\Touch (fun j=>j=y) w1 w')
 (hs:∀y w1,R y w1->aH 53 #[.pointer (some ⟨y,0,none⟩)] w1 fun e w'=>e=.returned (dS kd lo hi dg gr ac sz)/\Below w1.heap.size w1 w')
 (hk:∀y w1 w',R y w1->Below w1.heap.size w1 w'->R y w') :
 aH 34 #[dS kd lo hi dg gr ac sz] w fun e w'=>∃y,e=.returned (.tuple #[.pointer (some ⟨y,0,none⟩),.int .i64 0])/\R y w'/\Below w.heap.size w w':=by
 obtain⟨cs,hcs⟩:∃q:Array Value,q=#[.int .u8 kd,.int .i64 lo,.int .i64 hi,.int .i64 dg,.bool gr,.int .i64 ac,.int .i64 sz]:=⟨_,rfl⟩;obtain⟨fv,hfv⟩:∃q:Array Value,q=#[.int .u8 kd,.pointer none,.pointer none,.pointer none,.pointer none]:=⟨_,rfl⟩;have CK0:=fun W=>kP kd W ae  ae
 rcases hkm with⟨rfl,rfl⟩|⟨rfl,rfl⟩|⟨rfl,rfl⟩|⟨rfl,rfl⟩
 all_goals
  have HM:=aI hm;have HS:=aI hs;have HK:=aI hk;clear hm hs hk;unfold dS at *;obtain⟨b,hbb⟩:=aF (w.heap.size);obtain⟨wa,g_⟩:∃z,w.alloc (.cells cs 25)=z:=⟨_,rfl⟩;have ha:Below w.heap.size w wa:=by rw[<-g_];exact bw
  have B0:Hid (dK wa b 25 cs):=by rw[<-g_,<-hbb];exact aI (dK.new _ _ _)
  subst hcs;have hz:wa.heap.size=b+1:=by rw[<-g_,<-hbb,aV]
  have s0:=B0.o.cell 0;simp only[aK,aJ,aN] at s0;have CK:=aI (CK0 wa);have lJ:=aI hbb
  go_enter func34,ntmps34
  go_upto_region 1 with fail;have HZ:=aI hz;clear g_ hbb hz
  go_wp2_with fail;refine(CK.o).mono ?_
  rintro e w' ⟨rfl,rfl⟩;obtain⟨wb,hwb⟩:∃z,wa.alloc (.cells fv 126)=z:=⟨_,rfl⟩;have hab:Below wa.heap.size wa wb:=by rw[<-hwb];exact bw
  have hb:Below w.heap.size w wb:=ha.trans (hab.mono ha.size);have Y0:Hid (dK wb (b+1) 126 fv):=by rw[<-hwb,<-HZ.o];exact aI (dK.new _ _ _)
  subst hfv;have B1:=aI (B0.o.keep hab)
  go_upto_region 4 with fail;try rw[hwb]
  try rw[HZ.o]
  clear hwb s0 hab B0;have B0:=B1;obtain⟨s0,s1,s2,s3,s4,s5,s6⟩:=B0.o.c7;have FS0:=aI s0;have FS1:=aI s1;have FS2:=aI s2;have FS3:=aI s3;have FS4:=aI s4;have FS5:=aI s5;have FS6:=aI s6;clear s0 s1 s2 s3 s4 s5 s6;have lb:b<wb.heap.size:=B0.o.lt;have nb:¬(b=b+1):=ae
  have hby:w.heap.size<=b+1:=by have:=lJ.o;omega
  have T0:Touch (fun j=>j=b+1) wb wb.drew:=(Touch.refl _ wb).drew
  have Bd:Below wb.heap.size wb wb.drew:=(aO _ _).drew;have mW:=aI (fun(w':World) (hS':(Touch (fun j=>j=b+1) wb) w')=>(aP (((dO hS' 0 lb nb).trans FS0.o)) (aP (((dO hS' 1 lb nb).trans FS1.o)) (aP (((dO hS' 2 lb nb).trans FS2.o)) (aP (((dO hS' 3 lb nb).trans FS3.o)) (aP (((dO hS' 4 lb nb).trans FS4.o)) (aP (((dO hS' 5 lb nb).trans FS5.o)) (((dO hS' 6 lb nb).trans FS6.o)))))))))
  refine jh (Touch (fun j=>j=b+1) wb) (dV 1 3 (dV 6 2 (fJ 0 (dV 4 2 (fJ 8 (dV 9 1 [])))))) (T0) ?_
  iterate 5 refine eQ ?_
  refine fO fun K hK=>?_
  go_simp;refine(kW wb.drew).mono ?_
  rintro e ws ⟨rfl,hbs⟩;have Bs:Below wb.heap.size wb ws:=Bd.trans hbs;have Ts:Touch (fun j=>j=b+1) wb ws:=Touch.of_below Bs (aS _)
  have hb1:Below w.heap.size w ws:=hb.trans (Bs.mono hb.size);have C8:=aI (HM.o (b+1) ws hb1 hby (Y0.o.keep Bs));unfold mkV;refine hK _ _ (Ts) ?_
  clear hK K
  iterate 2 refine eQ ?_
  refine fO fun K hK=>?_
  go_simp;refine(C8.o).mono ?_
  rintro e wt ⟨rfl,hr,ht⟩;have Tt:Touch (fun j=>j=b+1) wb wt:=Ts.trans ht (fun _ h=>.inl h)
  have HR:=aI hr;have TT:=aI (hb.trans (Tt.below (fun j hj=>by rw[show j=b+1 from hj];exact hby) hb.size))
  refine hK _ _ (Tt) ?_
  clear hK K;refine eQ ?_
  refine dJ ?_
  have Td:Touch (fun j=>j=b+1) wb wt.drew:=Tt.drew
  have bd:Below wt.heap.size wt wt.drew:=(aO _ _).drew;have CS:=aI (HS.o (b+1) wt.drew (HK.o _ _ _ HR.o bd));have zt:=TT.o.size;clear C8
  go_upto_region 5 with fail;have mW:=aI (fun(w':World) (hS':(Touch (fun j=>j=b+1) wb) w')=>(aP (((dO hS' 0 lb nb).trans FS0.o)) (aP (((dO hS' 1 lb nb).trans FS1.o)) (aP (((dO hS' 2 lb nb).trans FS2.o)) (aP (((dO hS' 3 lb nb).trans FS3.o)) (aP (((dO hS' 4 lb nb).trans FS4.o)) (aP (((dO hS' 5 lb nb).trans FS5.o)) (((dO hS' 6 lb nb).trans FS6.o)))))))))
  refine jh (Touch (fun j=>j=b+1) wb) (dV 0 4 (dV 5 1 (fJ 4 (dV 6 2 [])))) (Td) ?_
  iterate 5 refine eQ ?_
  refine fO fun K hK=>?_
  go_simp;refine(CS.o).mono ?_
  rintro e wu ⟨rfl,hbu⟩;have Tu:Touch (fun j=>j=b+1) wb wu:=tbl Td hbu
  have BU:=aI (TT.o.trans ((bd.trans hbu).mono zt));have RU:=aI (HK.o _ _ _ HR.o (bd.trans hbu));refine hK _ _ (Tu) ?_
  clear hK K
  iterate 2 refine eQ ?_
  refine dJ ?_
  go_wp2_with fail;refine bodyPost_ret (by simp[results,Tryz.results34,go_sem, *];try rfl) rfl ?_
  exact⟨_,rfl,RU.o,BU.o⟩
end
open Tryz
open Go.RowKit Go.Lib Go.Shelf
section
variable {R : Nat -> World -> Prop}
theorem Ue(v:Value)(bs:List Int)(w:World)(hv:iY .u8 w v bs)(hlen:bs.length<=1000000000000)(hm:∀y v1 w1,Below w.heap.size w w1->w.heap.size<=y->dK w1 y 126 #[.int .u8 1,.pointer none,.pointer none,.pointer none,.pointer none]->iY .u8 w1 v1 bs->aH 126 #[.pointer (some ⟨y,0,none⟩),v1] w1 fun e w'=>e=.returned (.int .i64 0)/\R y w'/\Touch (fun j=>j=y) w1 w')
 (hs:∀y w1,R y w1->aH 54 #[.pointer (some ⟨y,0,none⟩)] w1 fun e w'=>∃v,e=.returned v/\OwnB w1.heap.size w' v bs/\Below w1.heap.size w1 w')
 (hk:∀y w1 w',R y w1->Below w1.heap.size w1 w'->R y w') :
 aH 71 #[.int .u8 1,v] w fun e w'=>∃y,e=.returned (.tuple #[.pointer (some ⟨y,0,none⟩),.int .i64 0])/\R y w'/\Below w.heap.size w w':=by
 have HM:=aI hm;have HS:=aI hs;have HK:=aI hk;have HV:=aI hv;clear hm hs hk hv;have CK:=aI (kP 1 w af  af)
 obtain⟨b,hbb⟩:=aF (w.heap.size)
 go_enter func71,ntmps71
 go_wp2_with fail;refine(CK.o).mono ?_
 rintro e w' ⟨rfl,rfl⟩;obtain⟨wb,hwb⟩:∃z,w.alloc (.cells #[.int .u8 1,.pointer none,.pointer none,.pointer none,.pointer none] 126)=z:=⟨_,rfl⟩;have hb:Below w.heap.size w wb:=by rw[<-hwb];exact bw
 have Y0:Hid (dK wb b 126 #[.int .u8 1,.pointer none,.pointer none,.pointer none,.pointer none]):=by rw[<-hwb,<-hbb];exact aI (dK.new _ _ _)
 have lJ:=aI hbb
 go_upto_region 4 with fail;try rw[hwb]
 clear hwb hbb;have hby:w.heap.size<=b:=by have:=lJ.o;omega
 have T0:Touch (fun j=>j=b) wb wb.drew:=(Touch.refl _ wb).drew
 have Bd:Below wb.heap.size wb wb.drew:=(aO _ _).drew;refine jh (Touch (fun j=>j=b) wb) (dV 1 2 (dV 5 2 (fJ 0 (dV 3 2 (fJ 7 (fJ 8 (dV 9 1 []))))))) (T0) ?_
 iterate 4 refine eQ (h:=fun w' hS'=>by skip;go_simp;exact⟨rfl,rfl⟩) ?_
 refine fO fun K hK=>?_
 go_simp;refine(kW wb.drew).mono ?_
 rintro e ws ⟨rfl,hbs⟩;have Bs:Below wb.heap.size wb ws:=Bd.trans hbs;have Ts:Touch (fun j=>j=b) wb ws:=Touch.of_below Bs (aS _)
 have hb1:Below w.heap.size w ws:=hb.trans (Bs.mono hb.size);unfold mkV;have C7:=aI (yX v bs ws (HV.o.keep hb1) hlen);refine hK _ _ (Ts) ?_
 clear hK K
 iterate 2 refine eQ (h:=fun w' hS'=>by skip;go_simp;exact⟨rfl,rfl⟩) ?_
 refine fO fun K hK=>?_
 go_simp;refine(C7.o).mono ?_
 rintro e wc ⟨vc,rfl,oc,hbc⟩;have Bc:Below wb.heap.size wb wc:=Bs.trans (hbc.mono Bs.size);have Tc:Touch (fun j=>j=b) wb wc:=Touch.of_below Bc (aS _)
 have hb2:Below w.heap.size w wc:=hb.trans (Bc.mono hb.size);have C8:=aI (HM.o b vc wc hb2 hby (Y0.o.keep Bc) oc.rd);clear oc;refine hK _ _ (Tc) ?_
 clear hK K;refine fO fun K hK=>?_
 go_simp;refine(C8.o).mono ?_
 rintro e wt ⟨rfl,hr,ht⟩;have Tt:Touch (fun j=>j=b) wb wt:=Tc.trans ht (fun _ h=>.inl h)
 have HR:=aI hr;have TT:=aI (hb.trans (Tt.below (fun j hj=>by rw[show j=b from hj];exact hby) hb.size))
 refine hK _ _ (Tt) ?_
 clear hK K;refine eQ (h:=fun w' hS'=>by skip;go_simp;exact⟨rfl,rfl⟩) ?_
 refine dJ ?_
 have CS:=aI (HS.o b wt HR.o);have zt:=TT.o.size;clear C8 C7
 go_wp2_with fail;refine(CS.o).mono ?_
 rintro e wu ⟨vu,rfl,ou,hbu⟩;have BU:=aI (TT.o.trans (hbu.mono zt));have RU:=aI (HK.o _ _ _ HR.o hbu);have CE:Hid (aH 133 #[vu,v] wu fun e w'=>e=.returned (.bool true)/\Below wu.heap.size wu w'):=aI ((lF vu v bs bs wu ou.rd (HV.o.keep BU.o) hlen hlen).mono (fun e w' h=>⟨by rw[h.1];simp,h.2⟩))
 clear ou
 go_wp2_with fail;refine(CE.o).mono ?_
 rintro e wz ⟨rfl,hbz⟩;have BZ:=aI (BU.o.trans (hbz.mono BU.o.size));have RZ:=aI (HK.o _ _ _ RU.o hbz)
 go_wp2_with fail;refine bodyPost_ret (by simp[results,Tryz.results71,go_sem, *];try rfl) rfl ?_
 exact⟨_,rfl,RZ.o,BZ.o⟩
theorem Uf(v:Value)(bs:List Int)(w:World)(hv:iY .u8 w v bs)(hlen:bs.length<=1000000000000)(hm:∀y v1 w1,Below w.heap.size w w1->w.heap.size<=y->dK w1 y 126 #[.int .u8 2,.pointer none,.pointer none,.pointer none,.pointer none]->iY .u8 w1 v1 bs->aH 128 #[.pointer (some ⟨y,0,none⟩),v1] w1 fun e w'=>e=.returned (.int .i64 0)/\R y w'/\Touch (fun j=>j=y) w1 w')
 (hs:∀y w1,R y w1->aH 54 #[.pointer (some ⟨y,0,none⟩)] w1 fun e w'=>∃v,e=.returned v/\OwnB w1.heap.size w' v bs/\Below w1.heap.size w1 w')
 (hk:∀y w1 w',R y w1->Below w1.heap.size w1 w'->R y w') :
 aH 71 #[.int .u8 2,v] w fun e w'=>∃y,e=.returned (.tuple #[.pointer (some ⟨y,0,none⟩),.int .i64 0])/\R y w'/\Below w.heap.size w w':=by
 have HM:=aI hm;have HS:=aI hs;have HK:=aI hk;have HV:=aI hv;clear hm hs hk hv;have CK:=aI (kP 2 w af  af)
 obtain⟨b,hbb⟩:=aF (w.heap.size)
 go_enter func71,ntmps71
 go_wp2_with fail;refine(CK.o).mono ?_
 rintro e w' ⟨rfl,rfl⟩;obtain⟨wb,hwb⟩:∃z,w.alloc (.cells #[.int .u8 2,.pointer none,.pointer none,.pointer none,.pointer none] 126)=z:=⟨_,rfl⟩;have hb:Below w.heap.size w wb:=by rw[<-hwb];exact bw
 have Y0:Hid (dK wb b 126 #[.int .u8 2,.pointer none,.pointer none,.pointer none,.pointer none]):=by rw[<-hwb,<-hbb];exact aI (dK.new _ _ _)
 have lJ:=aI hbb
 go_upto_region 4 with fail;try rw[hwb]
 clear hwb hbb;have hby:w.heap.size<=b:=by have:=lJ.o;omega
 have T0:Touch (fun j=>j=b) wb wb.drew:=(Touch.refl _ wb).drew
 have Bd:Below wb.heap.size wb wb.drew:=(aO _ _).drew;refine jh (Touch (fun j=>j=b) wb) (dV 1 2 (dV 5 2 (fJ 0 (dV 3 2 (fJ 7 (fJ 8 (dV 9 1 []))))))) (T0) ?_
 iterate 4 refine eQ (h:=fun w' hS'=>by skip;go_simp;exact⟨rfl,rfl⟩) ?_
 refine fO fun K hK=>?_
 go_simp;refine(kW wb.drew).mono ?_
 rintro e ws ⟨rfl,hbs⟩;have Bs:Below wb.heap.size wb ws:=Bd.trans hbs;have Ts:Touch (fun j=>j=b) wb ws:=Touch.of_below Bs (aS _)
 have hb1:Below w.heap.size w ws:=hb.trans (Bs.mono hb.size);unfold mkV;have C7:=aI (yX v bs ws (HV.o.keep hb1) hlen);refine hK _ _ (Ts) ?_
 clear hK K
 iterate 2 refine eQ (h:=fun w' hS'=>by skip;go_simp;exact⟨rfl,rfl⟩) ?_
 refine fO fun K hK=>?_
 go_simp;refine(C7.o).mono ?_
 rintro e wc ⟨vc,rfl,oc,hbc⟩;have Bc:Below wb.heap.size wb wc:=Bs.trans (hbc.mono Bs.size);have Tc:Touch (fun j=>j=b) wb wc:=Touch.of_below Bc (aS _)
 have hb2:Below w.heap.size w wc:=hb.trans (Bc.mono hb.size);have C8:=aI (HM.o b vc wc hb2 hby (Y0.o.keep Bc) oc.rd);clear oc;refine hK _ _ (Tc) ?_
 clear hK K;refine fO fun K hK=>?_
 go_simp;refine(C8.o).mono ?_
 rintro e wt ⟨rfl,hr,ht⟩;have Tt:Touch (fun j=>j=b) wb wt:=Tc.trans ht (fun _ h=>.inl h)
 have HR:=aI hr;have TT:=aI (hb.trans (Tt.below (fun j hj=>by rw[show j=b from hj];exact hby) hb.size))
 refine hK _ _ (Tt) ?_
 clear hK K;refine eQ (h:=fun w' hS'=>by skip;go_simp;exact⟨rfl,rfl⟩) ?_
 refine dJ ?_
 have CS:=aI (HS.o b wt HR.o);have zt:=TT.o.size;clear C8 C7
 go_wp2_with fail;refine(CS.o).mono ?_
 rintro e wu ⟨vu,rfl,ou,hbu⟩;have BU:=aI (TT.o.trans (hbu.mono zt));have RU:=aI (HK.o _ _ _ HR.o hbu);have CE:Hid (aH 133 #[vu,v] wu fun e w'=>e=.returned (.bool true)/\Below wu.heap.size wu w'):=aI ((lF vu v bs bs wu ou.rd (HV.o.keep BU.o) hlen hlen).mono (fun e w' h=>⟨by rw[h.1];simp,h.2⟩))
 clear ou
 go_wp2_with fail;refine(CE.o).mono ?_
 rintro e wz ⟨rfl,hbz⟩;have BZ:=aI (BU.o.trans (hbz.mono BU.o.size));have RZ:=aI (HK.o _ _ _ RU.o hbz)
 go_wp2_with fail;refine bodyPost_ret (by simp[results,Tryz.results71,go_sem, *];try rfl) rfl ?_
 exact⟨_,rfl,RZ.o,BZ.o⟩
theorem Ug(v:Value)(bs:List Int)(w:World)(hv:iY .u8 w v bs)(hlen:bs.length<=1000000000000)(hm:∀y v1 w1,Below w.heap.size w w1->w.heap.size<=y->dK w1 y 126 #[.int .u8 3,.pointer none,.pointer none,.pointer none,.pointer none]->iY .u8 w1 v1 bs->aH 130 #[.pointer (some ⟨y,0,none⟩),v1] w1 fun e w'=>e=.returned (.int .i64 0)/\R y w'/\Touch (fun j=>j=y) w1 w')
 (hs:∀y w1,R y w1->aH 54 #[.pointer (some ⟨y,0,none⟩)] w1 fun e w'=>∃v,e=.returned v/\OwnB w1.heap.size w' v bs/\Below w1.heap.size w1 w')
 (hk:∀y w1 w',R y w1->Below w1.heap.size w1 w'->R y w') :
 aH 71 #[.int .u8 3,v] w fun e w'=>∃y,e=.returned (.tuple #[.pointer (some ⟨y,0,none⟩),.int .i64 0])/\R y w'/\Below w.heap.size w w':=by
 have HM:=aI hm;have HS:=aI hs;have HK:=aI hk;have HV:=aI hv;clear hm hs hk hv;have CK:=aI (kP 3 w af  af)
 obtain⟨b,hbb⟩:=aF (w.heap.size)
 go_enter func71,ntmps71
 go_wp2_with fail;refine(CK.o).mono ?_
 rintro e w' ⟨rfl,rfl⟩;obtain⟨wb,hwb⟩:∃z,w.alloc (.cells #[.int .u8 3,.pointer none,.pointer none,.pointer none,.pointer none] 126)=z:=⟨_,rfl⟩;have hb:Below w.heap.size w wb:=by rw[<-hwb];exact bw
 have Y0:Hid (dK wb b 126 #[.int .u8 3,.pointer none,.pointer none,.pointer none,.pointer none]):=by rw[<-hwb,<-hbb];exact aI (dK.new _ _ _)
 have lJ:=aI hbb
 go_upto_region 4 with fail;try rw[hwb]
 clear hwb hbb;have hby:w.heap.size<=b:=by have:=lJ.o;omega
 have T0:Touch (fun j=>j=b) wb wb.drew:=(Touch.refl _ wb).drew
 have Bd:Below wb.heap.size wb wb.drew:=(aO _ _).drew;refine jh (Touch (fun j=>j=b) wb) (dV 1 2 (dV 5 2 (fJ 0 (dV 3 2 (fJ 7 (fJ 8 (dV 9 1 []))))))) (T0) ?_
 iterate 4 refine eQ (h:=fun w' hS'=>by skip;go_simp;exact⟨rfl,rfl⟩) ?_
 refine fO fun K hK=>?_
 go_simp;refine(kW wb.drew).mono ?_
 rintro e ws ⟨rfl,hbs⟩;have Bs:Below wb.heap.size wb ws:=Bd.trans hbs;have Ts:Touch (fun j=>j=b) wb ws:=Touch.of_below Bs (aS _)
 have hb1:Below w.heap.size w ws:=hb.trans (Bs.mono hb.size);unfold mkV;have C7:=aI (yX v bs ws (HV.o.keep hb1) hlen);refine hK _ _ (Ts) ?_
 clear hK K
 iterate 2 refine eQ (h:=fun w' hS'=>by skip;go_simp;exact⟨rfl,rfl⟩) ?_
 refine fO fun K hK=>?_
 go_simp;refine(C7.o).mono ?_
 rintro e wc ⟨vc,rfl,oc,hbc⟩;have Bc:Below wb.heap.size wb wc:=Bs.trans (hbc.mono Bs.size);have Tc:Touch (fun j=>j=b) wb wc:=Touch.of_below Bc (aS _)
 have hb2:Below w.heap.size w wc:=hb.trans (Bc.mono hb.size);have C8:=aI (HM.o b vc wc hb2 hby (Y0.o.keep Bc) oc.rd);clear oc;refine hK _ _ (Tc) ?_
 clear hK K;refine fO fun K hK=>?_
 go_simp;refine(C8.o).mono ?_
 rintro e wt ⟨rfl,hr,ht⟩;have Tt:Touch (fun j=>j=b) wb wt:=Tc.trans ht (fun _ h=>.inl h)
 have HR:=aI hr;have TT:=aI (hb.trans (Tt.below (fun j hj=>by rw[show j=b from hj];exact hby) hb.size))
 refine hK _ _ (Tt) ?_
 clear hK K;refine eQ (h:=fun w' hS'=>by skip;go_simp;exact⟨rfl,rfl⟩) ?_
 refine dJ ?_
 have CS:=aI (HS.o b wt HR.o);have zt:=TT.o.size;clear C8 C7
 go_wp2_with fail;refine(CS.o).mono ?_
 rintro e wu ⟨vu,rfl,ou,hbu⟩;have BU:=aI (TT.o.trans (hbu.mono zt));have RU:=aI (HK.o _ _ _ HR.o hbu);have CE:Hid (aH 133 #[vu,v] wu fun e w'=>e=.returned (.bool true)/\Below wu.heap.size wu w'):=aI ((lF vu v bs bs wu ou.rd (HV.o.keep BU.o) hlen hlen).mono (fun e w' h=>⟨by rw[h.1];simp,h.2⟩))
 clear ou
 go_wp2_with fail;refine(CE.o).mono ?_
 rintro e wz ⟨rfl,hbz⟩;have BZ:=aI (BU.o.trans (hbz.mono BU.o.size));have RZ:=aI (HK.o _ _ _ RU.o hbz)
 go_wp2_with fail;refine bodyPost_ret (by simp[results,Tryz.results71,go_sem, *];try rfl) rfl ?_
 exact⟨_,rfl,RZ.o,BZ.o⟩
theorem Uh(v:Value)(bs:List Int)(w:World)(hv:iY .u8 w v bs)(hlen:bs.length<=1000000000000)(hm:∀y v1 w1,Below w.heap.size w w1->w.heap.size<=y->dK w1 y 126 #[.int .u8 4,.pointer none,.pointer none,.pointer none,.pointer none]->iY .u8 w1 v1 bs->aH 132 #[.pointer (some ⟨y,0,none⟩),v1] w1 fun e w'=>e=.returned (.int .i64 0)/\R y w'/\Touch (fun j=>j=y) w1 w')
 (hs:∀y w1,R y w1->aH 54 #[.pointer (some ⟨y,0,none⟩)] w1 fun e w'=>∃v,e=.returned v/\OwnB w1.heap.size w' v bs/\Below w1.heap.size w1 w')
 (hk:∀y w1 w',R y w1->Below w1.heap.size w1 w'->R y w') :
 aH 71 #[.int .u8 4,v] w fun e w'=>∃y,e=.returned (.tuple #[.pointer (some ⟨y,0,none⟩),.int .i64 0])/\R y w'/\Below w.heap.size w w':=by
 have HM:=aI hm;have HS:=aI hs;have HK:=aI hk;have HV:=aI hv;clear hm hs hk hv;have CK:=aI (kP 4 w af  af)
 obtain⟨b,hbb⟩:=aF (w.heap.size)
 go_enter func71,ntmps71
 go_wp2_with fail;refine(CK.o).mono ?_
 rintro e w' ⟨rfl,rfl⟩;obtain⟨wb,hwb⟩:∃z,w.alloc (.cells #[.int .u8 4,.pointer none,.pointer none,.pointer none,.pointer none] 126)=z:=⟨_,rfl⟩;have hb:Below w.heap.size w wb:=by rw[<-hwb];exact bw
 have Y0:Hid (dK wb b 126 #[.int .u8 4,.pointer none,.pointer none,.pointer none,.pointer none]):=by rw[<-hwb,<-hbb];exact aI (dK.new _ _ _)
 have lJ:=aI hbb
 go_upto_region 4 with fail;try rw[hwb]
 clear hwb hbb;have hby:w.heap.size<=b:=by have:=lJ.o;omega
 have T0:Touch (fun j=>j=b) wb wb.drew:=(Touch.refl _ wb).drew
 have Bd:Below wb.heap.size wb wb.drew:=(aO _ _).drew;refine jh (Touch (fun j=>j=b) wb) (dV 1 2 (dV 5 2 (fJ 0 (dV 3 2 (fJ 7 (fJ 8 (dV 9 1 []))))))) (T0) ?_
 iterate 4 refine eQ (h:=fun w' hS'=>by skip;go_simp;exact⟨rfl,rfl⟩) ?_
 refine fO fun K hK=>?_
 go_simp;refine(kW wb.drew).mono ?_
 rintro e ws ⟨rfl,hbs⟩;have Bs:Below wb.heap.size wb ws:=Bd.trans hbs;have Ts:Touch (fun j=>j=b) wb ws:=Touch.of_below Bs (aS _)
 have hb1:Below w.heap.size w ws:=hb.trans (Bs.mono hb.size);unfold mkV;have C7:=aI (yX v bs ws (HV.o.keep hb1) hlen);refine hK _ _ (Ts) ?_
 clear hK K
 iterate 2 refine eQ (h:=fun w' hS'=>by skip;go_simp;exact⟨rfl,rfl⟩) ?_
 refine fO fun K hK=>?_
 go_simp;refine(C7.o).mono ?_
 rintro e wc ⟨vc,rfl,oc,hbc⟩;have Bc:Below wb.heap.size wb wc:=Bs.trans (hbc.mono Bs.size);have Tc:Touch (fun j=>j=b) wb wc:=Touch.of_below Bc (aS _)
 have hb2:Below w.heap.size w wc:=hb.trans (Bc.mono hb.size);have C8:=aI (HM.o b vc wc hb2 hby (Y0.o.keep Bc) oc.rd);clear oc;refine hK _ _ (Tc) ?_
 clear hK K;refine fO fun K hK=>?_
 go_simp;refine(C8.o).mono ?_
 rintro e wt ⟨rfl,hr,ht⟩;have Tt:Touch (fun j=>j=b) wb wt:=Tc.trans ht (fun _ h=>.inl h)
 have HR:=aI hr;have TT:=aI (hb.trans (Tt.below (fun j hj=>by rw[show j=b from hj];exact hby) hb.size))
 refine hK _ _ (Tt) ?_
 clear hK K;refine eQ (h:=fun w' hS'=>by skip;go_simp;exact⟨rfl,rfl⟩) ?_
 refine dJ ?_
 have CS:=aI (HS.o b wt HR.o);have zt:=TT.o.size;clear C8 C7
 go_wp2_with fail;refine(CS.o).mono ?_
 rintro e wu ⟨vu,rfl,ou,hbu⟩;have BU:=aI (TT.o.trans (hbu.mono zt));have RU:=aI (HK.o _ _ _ HR.o hbu);have CE:Hid (aH 133 #[vu,v] wu fun e w'=>e=.returned (.bool true)/\Below wu.heap.size wu w'):=aI ((lF vu v bs bs wu ou.rd (HV.o.keep BU.o) hlen hlen).mono (fun e w' h=>⟨by rw[h.1];simp,h.2⟩))
 clear ou
 go_wp2_with fail;refine(CE.o).mono ?_
 rintro e wz ⟨rfl,hbz⟩;have BZ:=aI (BU.o.trans (hbz.mono BU.o.size));have RZ:=aI (HK.o _ _ _ RU.o hbz)
 go_wp2_with fail;refine bodyPost_ret (by simp[results,Tryz.results71,go_sem, *];try rfl) rfl ?_
 exact⟨_,rfl,RZ.o,BZ.o⟩
end
end Go.Proofs.YtilcnjbpmoijmaaGreat.D
