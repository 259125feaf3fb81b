/- Parts of a proof: what its theorem reaches, words cut short. No condition of its own. -/
import Derived.Test.YtingnldfpokckaaGreatPm44
set_option maxRecDepth 100000
set_option maxHeartbeats 16000000
set_option linter.unusedVariables false
set_option linter.unusedSimpArgs false
namespace Go.Proofs.YtingnldfpokckaaGreat.D
open Go.RowKit Go.Lib Go.Shelf
theorem mutc_after{P C:Ft->World->Prop}(S:Stay P){F H:Ft}{er:Int}{w w1 w':World}{e:Ending}(hb:Below w.heap.size w w1)(h0:∀k,F k->k<w.heap.size)(hm:MutC P C F H er w1 e w'):MutC P C F H er w e w':=
 ⟨hm.1,S.more hm.2.1 (fun _ h=>h.imp id fun h=>⟨Nat.le_trans hb.size h.1,h.2⟩) (gr_lt h0 (Nat.le_trans hb.size hm.2.2.2.size)),hm.2.2.1,btl hb hm.2.2.2⟩
section
variable {sp : Spk} {c t : Js} {x y a : Nat} {F Fy H : Ft} {cq : Value} {B : List Int}
theorem js_total(w:World)(h:JsAt sp c x F w)(ok:JsOk sp c):Calls Tryz.prog 20 #[.pointer (some ⟨x,0,none⟩)] w fun e w'=>e=.returned (.int .u64 (jtot sp c))/\w=w':=by
 obtain⟨p,G,hB,hI,hFx,hGx,hGF,hF⟩:=h
 cases sp with
 | h lo hi dg u m gr=>
  refine(jtotal1_any (Q:=fun v' w'=>v'=.int .u64 (jtot (.h lo hi dg u m gr) c)/\w=w') hB ?_).mono ?_
  ·refine(hs_total w hI).mono ?_
   rintro e w' ⟨rfl,rfl⟩;exact⟨_,rfl,rfl,rfl⟩
  ·rintro e w' ⟨v',rfl,rfl,rfl⟩;exact⟨rfl,rfl⟩
 | d ac m=>
  refine(jtotal2_any (Q:=fun v' w'=>v'=.int .u64 (jtot (.d ac m) c)/\w=w') hB ?_).mono ?_
  ·refine(dd_total w hI ok).mono ?_
   rintro e w' ⟨rfl,rfl⟩;exact⟨_,rfl,rfl,rfl⟩
  ·rintro e w' ⟨v',rfl,rfl,rfl⟩;exact⟨rfl,rfl⟩
 | t d=>
  refine(jtotal3_any (Q:=fun v' w'=>v'=.int .u64 (jtot (.t d) c)/\w=w') hB ?_).mono ?_
  ·refine(total_any w hI).mono ?_
   rintro e w' ⟨rfl,rfl⟩;exact⟨_,rfl,rfl,rfl⟩
  ·rintro e w' ⟨v',rfl,rfl,rfl⟩;exact⟨rfl,rfl⟩
 | k q=>
  obtain⟨lv,vs,hs⟩:=hI
  refine(jtotal4_any (Q:=fun v' w'=>v'=.int .u64 (jtot (.k q) c)/\w=w') hB ?_).mono ?_
  ·refine(K.total_any w hs).mono ?_
   rintro e w' ⟨rfl,rfl⟩;exact⟨_,rfl,rfl,rfl⟩
  ·rintro e w' ⟨v',rfl,rfl,rfl⟩;exact⟨rfl,rfl⟩
theorem js_text(w:World)(h:JsAt sp c x F w)(ok:JsOk sp c):Calls Tryz.prog 19 #[.pointer (some ⟨x,0,none⟩)] w fun e w'=>∃v,e=.returned v/\OwnB w.heap.size w' v (jtxt sp c)/\Below w.heap.size w w':=by
 obtain⟨p,G,hB,hI,hFx,hGx,hGF,hF⟩:=h
 cases sp with
 | h lo hi dg u m gr=>
  refine jtext1_any (Q:=fun v' w'=>OwnB w.heap.size w' v' (jtxt (.h lo hi dg u m gr) c)/\Below w.heap.size w w') hB ?_
  exact hdrText_any w hB hI ok
 | d ac m=>
  refine jtext2_any (Q:=fun v' w'=>OwnB w.heap.size w' v' (jtxt (.d ac m) c)/\Below w.heap.size w w') hB ?_
  exact dwrite_any w hI ok
 | t d=>
  refine jtext3_any (Q:=fun v' w'=>OwnB w.heap.size w' v' (jtxt (.t d) c)/\Below w.heap.size w w') hB ?_
  exact twrite_any p G d c.s _ w hI (TOk.fit ok)
 | k q=>
  refine jtext4_any (Q:=fun v' w'=>OwnB w.heap.size w' v' (jtxt (.k q) c)/\Below w.heap.size w w') hB ?_
  obtain⟨lv,vs,hs⟩:=hI
  exact K.kwrite_any w hs ((KOk.fit ok).pk (a:=0)) (KOk.bd ok) (by have:=KOk.q1 ok;omega)
theorem js_spec(w:World)(h:JsAt sp c x F w)(ok:JsOk sp c):Calls Tryz.prog 8 #[.pointer (some ⟨x,0,none⟩)] w fun e w'=>e=.returned sp.v/\Below w.heap.size w w':=by
 obtain⟨p,G,hB,hI,hFx,hGx,hGF,hF⟩:=h
 cases sp with
 | h lo hi dg u m gr=>exact jspec1_any hB (fun w1 hb=>hs_shape w1 ((in_stay (.h lo hi dg u m gr) c p).keep hI hb)) (fun w1 hb=>hs_grows w1 ((in_stay (.h lo hi dg u m gr) c p).keep hI hb))
 | d ac m=>exact jspec2_any hB (fun w1 hb=>dd_acc w1 ((in_stay (.d ac m) c p).keep hI hb)) (fun w1 hb=>dd_budget w1 ((in_stay (.d ac m) c p).keep hI hb))
 | t d=>exact jspec3_any hB (fun w1 hb=>fineness_any w1 ((in_stay (.t d) c p).keep hI hb))
 | k q=>exact jspec4_any hB (fun w1 hb=>by
  obtain⟨lv,vs,hs⟩:=(in_stay (.k q) c p).keep hI hb
  exact K.size_any w1 hs)
theorem js_take_c{p p2:Nat}{G G2:Ft}(w:World)(hB:Blk w x 66 (sp.five p))(hI:InAt sp c p G w)(hFx:F x)(hGx:¬G x)(hGF:∀k,G k->F k)(hF:∀k,F k->k<w.heap.size)
 (hB2:Blk w y 66 (sp.five p2)) (hI2:InAt sp t p2 G2 w) (hxy:(p2=p/\G2=G/\t=c)\/∀k,G k->¬G2 k) (ok:JsOk sp c) (ok2:JsOk sp t) (hc:CnAt cq B a H w) (hq:∀q,sp=.k q->cq=.pointer none->K.fullN q (K.takeL c.L t.L)=none) (hd:∀k,H k->¬F k) :
 Calls Tryz.prog 9 #[.pointer (some ⟨x,0,none⟩),.pointer (some ⟨y,0,none⟩),cq] w (MutC (JsAt sp (jtkS sp B t c a).1 x) (CnAt cq B (jtkS sp B t c a).2) F H (jtkE sp c t) w):=by
 have hdG:∀k,H k->¬G k:=fun k h1 h2=>hd k h1 (hGF k h2)
 have low:=(in_stay sp c p).low hI
 have fin:∀c' a' er w1 e w',Below w.heap.size w w1->MutC (InAt sp c' p) (CnAt cq B a') G H er w1 e w'->MutC (JsAt sp c' x) (CnAt cq B a') F H er w e w':=fun c' a' er w1 e w' hb hm=>by
  have hm:=mutc_after (in_stay sp c' p) hb low hm
  obtain⟨h1,h2⟩:=js_turn hB hFx hGx hGF hF hm.2.1 hm.2.2.2 hd
  exact⟨hm.1,h1,hm.2.2.1,h2⟩
 have kI:∀w1,Below w.heap.size w w1->InAt sp c p G w1:=fun w1 hb=>(in_stay sp c p).keep hI hb
 have kI2:∀w1,Below w.heap.size w w1->InAt sp t p2 G2 w1:=fun w1 hb=>(in_stay sp t p2).keep hI2 hb
 have kc:∀w1,Below w.heap.size w w1->CnAt cq B a H w1:=fun w1 hb=>hc.keep hb
 clear hI hI2 hc
 cases sp with
 | h lo hi dg u m gr=>
  refine(jtake1_any (Q:=fun v' w'=>MutC (JsAt (.h lo hi dg u m gr) (jtkS (.h lo hi dg u m gr) B t c a).1 x) (CnAt cq B (jtkS (.h lo hi dg u m gr) B t c a).2) F H (jtkE (.h lo hi dg u m gr) c t) w (.returned v') w') hB hB2 (fun w1 hb=>hs_shape w1 (kI w1 hb)) (fun w1 hb=>hs_grows w1 (kI w1 hb)) (fun w1 hb=>hs_shape w1 (kI2 w1 hb)) (fun w1 hb=>hs_grows w1 (kI2 w1 hb)) (fun w1 hb=>?_)).mono ?_
  ·refine(hs_taken w1 (kI w1 hb) (kI2 w1 hb) ok ok2).mono ?_
   rintro e w' ⟨rfl,h2,h3⟩
   exact⟨_,rfl,fin _ _ _ w1 _ _ hb (mutc_of ⟨rfl,h2,h3⟩ ((kc w1 hb).far h3 hdG))⟩
  ·rintro e w' ⟨v',rfl,hm⟩;exact hm
 | d ac m=>
  refine(jtake2_any (Q:=fun v' w'=>MutC (JsAt (.d ac m) (jtkS (.d ac m) B t c a).1 x) (CnAt cq B (jtkS (.d ac m) B t c a).2) F H (jtkE (.d ac m) c t) w (.returned v') w') hB hB2 (fun w1 hb=>dd_acc w1 (kI w1 hb)) (fun w1 hb=>dd_budget w1 (kI w1 hb)) (fun w1 hb=>dd_acc w1 (kI2 w1 hb)) (fun w1 hb=>dd_budget w1 (kI2 w1 hb)) (fun w1 hb=>?_)).mono ?_
  ·refine(dd_take w1 (kI w1 hb) (kI2 w1 hb) ok ok2 ?_).mono ?_
   ·rcases hxy with⟨h1,_,_⟩|h1
    ·exact .inr h1
    ·exact .inl fun k h2 h3=>h1 k h3 h2
   rintro e w' ⟨rfl,h2,h3⟩
   exact⟨_,rfl,fin _ _ _ w1 _ _ hb (mutc_of ⟨rfl,h2,h3⟩ ((kc w1 hb).far h3 hdG))⟩
  ·rintro e w' ⟨v',rfl,hm⟩;exact hm
 | t d=>
  have ft:=TOk.fit ok
  have ft2:=TOk.fit ok2
  have hd1:=ft.d1
  have hxy':(p2=p/\G2=G/\t.s=c.s)\/∀k,G k->¬G2 k:=hxy.imp (fun h=>⟨h.1,h.2.1,by rw[h.2.2]⟩) id
  refine(jtake3_any (Q:=fun v' w'=>MutC (JsAt (.t d) (jtkS (.t d) B t c a).1 x) (CnAt cq B (jtkS (.t d) B t c a).2) F H (jtkE (.t d) c t) w (.returned v') w') hB hB2 (fun w1 hb=>fineness_any w1 (kI w1 hb)) (fun w1 hb=>fineness_any w1 (kI2 w1 hb)) (fun w1 hb=>?_)).mono ?_
  ·by_cases hn:281474976710656 - Go.Proofs.YtingnldfpokckaaGreat.tot (c.s.L++c.s.W)<Go.Proofs.YtingnldfpokckaaGreat.tot (t.s.L++t.s.W)\/Go.Proofs.YtingnldfpokckaaGreat.tot (t.s.L++t.s.W)=0
   ·refine(take_no w1 (kI w1 hb) (kI2 w1 hb) ft ft2 hn).mono ?_
    rintro e w' ⟨rfl,hb'⟩
    have e2:jtkS (.t d) B t c a=(c,a):=by
     simp only[jtkS]
     by_cases he:takeE c.s t.s=0
     ·rw[if_pos he]
      have hz:Go.Proofs.YtingnldfpokckaaGreat.tot (t.s.L++t.s.W)=0:=by
       rcases hn with hn|hn
       ·unfold takeE at he;rw[if_pos hn] at he;cases he
       ·exact hn
      have:c.s.take d t.s=c.s:=by unfold St.take;rw[if_pos hz]
      rw[this]
     ·rw[if_neg he]
    rw[e2]
    exact⟨_,rfl,fin c a _ w1 _ _ hb (mutc_same (in_stay (.t d) c p) (kI w1 hb) rfl hb' ((kc w1 hb).keep hb'))⟩
   ·have h0:¬Go.Proofs.YtingnldfpokckaaGreat.tot (t.s.L++t.s.W)=0:=fun e=>hn (.inr e)
    have h6:¬281474976710656 - Go.Proofs.YtingnldfpokckaaGreat.tot (c.s.L++c.s.W)<Go.Proofs.YtingnldfpokckaaGreat.tot (t.s.L++t.s.W):=fun e=>hn (.inl e)
    have hnn:=ft2.ok.n_nonneg
    refine(take_yes w1 (kI w1 hb) (kI2 w1 hb) hxy' ft ft2 (by omega) (by omega) (by omega)).mono ?_
    rintro e w' ⟨rfl,F',h2,h3,h4⟩
    have e1:takeE c.s t.s=0:=by unfold takeE;rw[if_neg h6]
    have e2:jtkS (.t d) B t c a=({c with s:=c.s.take d t.s},a):=by simp only[jtkS];rw[if_pos e1]
    have e3:jtkE (.t d) c t=0:=e1
    rw[e2,e3]
    refine⟨_,rfl,fin _ _ _ w1 _ _ hb ⟨rfl,?_,(kc w1 hb).far h4 hdG,h4.mono fun _ h=>.inl h⟩⟩
    exact(in_stay (.t d) {c with s:=c.s.take d t.s} p).gr (F':=F') h3 h2 (fun k hk=>Nat.lt_of_lt_of_le (low k hk) hb.size) h4.size
  ·rintro e w' ⟨v',rfl,hm⟩;exact hm
 | k q=>
  refine(jtake4_any (Q:=fun v' w'=>MutC (JsAt (.k q) (jtkS (.k q) B t c a).1 x) (CnAt cq B (jtkS (.k q) B t c a).2) F H (jtkE (.k q) c t) w (.returned v') w') hB hB2 (fun w1 hb=>by
   obtain⟨lv,vs,hs⟩:=kI w1 hb
   exact K.size_any w1 hs) (fun w1 hb=>by
   obtain⟨lv,vs,hs⟩:=kI2 w1 hb
   exact K.size_any w1 hs) (fun w1 hb=>?_)).mono ?_
  ·refine(k_take (kI w1 hb) (KOk.fit ok) (kI2 w1 hb) (KOk.fit ok2) (kc w1 hb) (hq q rfl) hdG (KOk.q0 ok) (KOk.q1 ok)).mono ?_
   rintro e w' hm
   obtain⟨rfl,h2,h3,h4⟩:=hm
   exact⟨_,rfl,fin _ _ _ w1 _ _ hb ⟨rfl,h2,h3,h4⟩⟩
  ·rintro e w' ⟨v',rfl,hm⟩;exact hm
theorem js_take(w:World)(h:JsAt sp c x F w)(h2:JsAt sp t y Fy w)(hxy:(y=x/\t=c)\/∀k,F k->¬Fy k)(ok:JsOk sp c)(ok2:JsOk sp t)(hc:CnAt cq B a H w)(hq:∀q,sp=.k q->cq=.pointer none->K.fullN q (K.takeL c.L t.L)=none)(hd:∀k,H k->¬F k) :
 Calls Tryz.prog 9 #[.pointer (some ⟨x,0,none⟩),.pointer (some ⟨y,0,none⟩),cq] w (MutC (JsAt sp (jtkS sp B t c a).1 x) (CnAt cq B (jtkS sp B t c a).2) F H (jtkE sp c t) w):=by
 obtain⟨p,G,hB,hI,hFx,hGx,hGF,hF⟩:=h
 rcases hxy with⟨rfl,rfl⟩|hxy
 ·exact js_take_c w hB hI hFx hGx hGF hF hB hI (.inl ⟨rfl,rfl,rfl⟩) ok ok2 hc hq hd
 ·obtain⟨p2,G2,hB2,hI2,hFx2,hGx2,hGF2,hF2⟩:=h2
  exact js_take_c w hB hI hFx hGx hGF hF hB2 hI2 (.inr fun k h1 h2=>hxy k (hGF k h1) (hGF2 k h2)) ok ok2 hc hq hd
end
open Go.RowKit Go.Lib Go.Shelf
section
variable {R : Nat -> World -> Prop}
theorem jread4_any(v:Value)(bs:List Int)(w:World)(hv:RdI .u8 w v bs)(hlen:bs.length<=1000000000000)(hm:∀y v1 w1,Below w.heap.size w w1->w.heap.size<=y->Blk w1 y 66 #[.int .u8 4,.pointer none,.pointer none,.pointer none,.pointer none]->RdI .u8 w1 v1 bs->Calls Tryz.prog 65 #[.pointer (some ⟨y,0,none⟩),v1] w1 fun e w'=>e=.returned (.int .i64 0)/\R y w'/\Touch (fun j=>j=y) w1 w')
 (hs:∀y w1,R y w1->Calls Tryz.prog 19 #[.pointer (some ⟨y,0,none⟩)] w1 fun e w'=>∃v,e=.returned v/\OwnB w1.heap.size w' v bs/\Below w1.heap.size w1 w')
 (hk:∀y w1 w',R y w1->Below w1.heap.size w1 w'->R y w') :
 Calls Tryz.prog 49 #[.int .u8 4,v] w fun e w'=>∃y,e=.returned (.tuple #[.pointer (some ⟨y,0,none⟩),.int .i64 0])/\R y w'/\Below w.heap.size w w':=by
 have HM:=Lib.hid hm
 have HS:=Lib.hid hs
 have HK:=Lib.hid hk
 have HV:=Lib.hid hv
 clear hm hs hk hv
 have CK:=Lib.hid (isKind_any 4 w (by decide) (by decide))
 obtain⟨b,hbb⟩:∃b,w.heap.size=b:=⟨_,rfl⟩
 go_enter Tryz.func49,Tryz.ntmps49
 go_wp2_with fail
 refine(CK.out).mono ?_
 rintro e w' ⟨rfl,rfl⟩
 obtain⟨wb,hwb⟩:∃z,w.alloc (.cells #[.int .u8 4,.pointer none,.pointer none,.pointer none,.pointer none] 66)=z:=⟨_,rfl⟩
 have hb:Below w.heap.size w wb:=by rw[<-hwb];(repeat' (first|(with_reducible exact Below.refl _ _)|(with_reducible refine Below.alloc ?_ ?_ _)|(with_reducible refine Below.drew ?_)|(with_reducible refine below_drewN ?_ _)|(with_reducible refine Below.setCell ?_ ?_ _)|(with_reducible refine below_of (by assumption) ?_ ?_)|go_size))
 have Y0:Hid (Blk wb b 66 #[.int .u8 4,.pointer none,.pointer none,.pointer none,.pointer none]):=by rw[<-hwb,<-hbb];exact Lib.hid (Blk.new _ _ _)
 have HBB:=Lib.hid hbb
 go_upto_region 4 with fail
 try rw[hwb]
 clear hwb hbb
 have hby:w.heap.size<=b:=by have:=HBB.out;omega
 have T0:Touch (fun j=>j=b) wb wb.drew:=(Touch.refl _ wb).drew
 have Bd:Below wb.heap.size wb wb.drew:=(Below.refl _ _).drew
 refine wp_region_plan (Touch (fun j=>j=b) wb) [(1,true),(2,true),(5,true),(6,true),(0,false),(3,true),(4,true),(7,false),(8,false),(9,true)] (by kernel_rfl) (by kernel_rfl) (T0) ?_
 iterate 4
  refine wpPlan_read (by rfl) (by rfl) (fun R hR=>?_)
  apply Exists.intro
  refine⟨fun w' hS'=>?_,?_⟩
  ·skip
   go_simp
   exact⟨rfl,rfl⟩
  go_simp
  refine hR _ ?_
  clear hR R
 refine wpPlan_do (by rfl) (by rfl) (fun K hK=>?_)
 go_simp
 refine(makers_any wb.drew).mono ?_
 rintro e ws ⟨rfl,hbs⟩
 have Bs:Below wb.heap.size wb ws:=Bd.trans hbs
 have Ts:Touch (fun j=>j=b) wb ws:=Touch.of_below Bs (Nat.le_refl _)
 have hb1:Below w.heap.size w ws:=hb.trans (Bs.mono hb.size)
 unfold mkV
 have C7:=Lib.hid (clone_B v bs ws (HV.out.keep hb1) hlen)
 refine hK _ _ (Ts) ?_
 clear hK K
 iterate 2
  refine wpPlan_read (by rfl) (by rfl) (fun R hR=>?_)
  apply Exists.intro
  refine⟨fun w' hS'=>?_,?_⟩
  ·skip
   go_simp
   exact⟨rfl,rfl⟩
  go_simp
  refine hR _ ?_
  clear hR R
 refine wpPlan_do (by rfl) (by rfl) (fun K hK=>?_)
 go_simp
 refine(C7.out).mono ?_
 rintro e wc ⟨vc,rfl,oc,hbc⟩
 have Bc:Below wb.heap.size wb wc:=Bs.trans (hbc.mono Bs.size)
 have Tc:Touch (fun j=>j=b) wb wc:=Touch.of_below Bc (Nat.le_refl _)
 have hb2:Below w.heap.size w wc:=hb.trans (Bc.mono hb.size)
 have C8:=Lib.hid (HM.out b vc wc hb2 hby (Y0.out.keep Bc) oc.rd)
 clear oc
 refine hK _ _ (Tc) ?_
 clear hK K
 refine wpPlan_do (by rfl) (by rfl) (fun K hK=>?_)
 go_simp
 refine(C8.out).mono ?_
 rintro e wt ⟨rfl,hr,ht⟩
 have Tt:Touch (fun j=>j=b) wb wt:=Tc.trans ht (fun _ h=>.inl h)
 have HR:=Lib.hid hr
 have TT:=Lib.hid (hb.trans (Tt.below (fun j hj=>by rw[show j=b from hj];exact hby) hb.size))
 refine hK _ _ (Tt) ?_
 clear hK K
 iterate 1
  refine wpPlan_read (by rfl) (by rfl) (fun R hR=>?_)
  apply Exists.intro
  refine⟨fun w' hS'=>?_,?_⟩
  ·skip
   go_simp
   exact⟨rfl,rfl⟩
  go_simp
  refine hR _ ?_
  clear hR R
 refine wpPlan_nil ?_
 have CS:=Lib.hid (HS.out b wt HR.out)
 have zt:=TT.out.size
 clear C8 C7
 go_wp2_with fail
 refine(CS.out).mono ?_
 rintro e wu ⟨vu,rfl,ou,hbu⟩
 have BU:=Lib.hid (TT.out.trans (hbu.mono zt))
 have RU:=Lib.hid (HK.out _ _ _ HR.out hbu)
 have CE:Hid (Calls Tryz.prog 112 #[vu,v] wu fun e w'=>e=.returned (.bool true)/\Below wu.heap.size wu w'):=Lib.hid ((equal_any vu v bs bs wu ou.rd (HV.out.keep BU.out) hlen hlen).mono (fun e w' h=>⟨by rw[h.1];simp,h.2⟩))
 clear ou
 go_wp2_with fail
 refine(CE.out).mono ?_
 rintro e wz ⟨rfl,hbz⟩
 have BZ:=Lib.hid (BU.out.trans (hbz.mono BU.out.size))
 have RZ:=Lib.hid (HK.out _ _ _ RU.out hbz)
 go_wp2_with fail
 refine bodyPost_ret (by simp[results,Tryz.results49,go_sem, *];try rfl) rfl ?_
 exact⟨_,rfl,RZ.out,BZ.out⟩
end
open Go.RowKit Go.Lib Go.Shelf
theorem placed_js{sp:Spk}{c:Js}{y i:Nat}{cs:Array Value}{w0 w1 w':World}{e:Ending}(h:Placed y i cs (fun p w'=>∃x G,p=ptrV x/\InAt sp c x G w'/\∀k,G k->w1.heap.size<=k) w1 e w')(hi:∀x,cs.setIfInBounds i (ptrV x)=sp.five x)(hyl:y<w1.heap.size)(hy0:w0.heap.size<=y) :
 e=.returned (.int .i64 0)/\(∃F,JsAt sp c y F w'/\∀k,F k->w0.heap.size<=k)/\Touch (fun j=>j=y) w1 w':=by
 obtain⟨rfl,p,wz,⟨x,G,rfl,hI,hG⟩,hb,hB,ht,ht2⟩:=h
 rw[hi] at hB
 have I:=(in_stay sp c x).far hI ht (fun k hk e=>by have:=hG k hk;rw[show k=y from e] at this;omega)
 refine⟨rfl,⟨fun k=>k=y\/G k,⟨x,G,hB,I,.inl rfl,fun hg=>by have:=hG y hg;omega,fun k hk=>.inr hk,fun k hk=>hk.elim (fun e=>by rw[e];exact hB.lt) ((in_stay sp c x).low I k)⟩,fun k hk=>hk.elim (fun e=>by rw[e];exact hy0) (fun h=>by have:=hG k h;omega)⟩,ht2⟩
theorem js_fresh{sp:Spk}{c:Js}{y:Nat}{w w':World}(h:∃F,JsAt sp c y F w'/\∀k,F k->w.heap.size<=k):JsAt sp c y (Gr (fun _=>False) w w') w':=by
 obtain⟨F,h1,h2⟩:=h
 exact(js_stay sp c y).more h1 (fun k hk=>.inr ⟨h2 k hk,(js_stay sp c y).low h1 k hk⟩) (fun k hk=>hk.elim False.elim And.right)
theorem js_make{sp:Spk}(w:World)(ok:SpOk sp):Calls Tryz.prog 6 #[sp.v] w fun e w'=>∃x,e=.returned (.tuple #[.pointer (some ⟨x,0,none⟩),.int .i64 0])/\JsAt sp sp.new x (Gr (fun _=>False) w w') w'/\Below w.heap.size w w':=by
 have hs:∀y w1,(∃F,JsAt sp sp.new y F w1/\∀k,F k->w.heap.size<=k)->Calls Tryz.prog 8 #[.pointer (some ⟨y,0,none⟩)] w1 fun e w'=>e=.returned sp.v/\Below w1.heap.size w1 w':=fun y w1 ⟨F,h,_⟩=>js_spec w1 h (new_ok ok)
 have hk:∀y w1 w',(∃F,JsAt sp sp.new y F w1/\∀k,F k->w.heap.size<=k)->Below w1.heap.size w1 w'->(∃F,JsAt sp sp.new y F w'/\∀k,F k->w.heap.size<=k):=fun y w1 w' ⟨F,h,h2⟩ hb=>⟨F,(js_stay sp _ y).keep h hb,h2⟩
 cases sp with
 | h lo hi dg u m gr=>
  refine(jmake_any (.inl ⟨rfl,rfl⟩) w (fun y w1 hb hy hB=>?_) hs hk).mono (fun e w' ⟨x,h1,h2,h3⟩=>⟨x,h1,js_fresh h2,h3⟩)
  refine(makeHdr_any hB (Q:=fun p w'=>∃x G,p=ptrV x/\InAt (.h lo hi dg u m gr) (Spk.h lo hi dg u m gr).new x G w'/\∀k,G k->w1.heap.size<=k) (fun wa hwa=>?_)).mono (fun e w' h=>placed_js h (fun x=>rfl) hB.lt hy)
  refine(hs_make gr wa ok).mono ?_
  rintro e w' ⟨x,rfl,h1,h2⟩
  exact⟨x,rfl,⟨x,_,rfl,h1,fun k hk=>hk.elim False.elim (fun h=>Nat.le_trans hwa.size h.1)⟩,h2⟩
 | d a m=>
  refine(jmake_any (.inr (.inl ⟨rfl,rfl⟩)) w (fun y w1 hb hy hB=>?_) hs hk).mono (fun e w' ⟨x,h1,h2,h3⟩=>⟨x,h1,js_fresh h2,h3⟩)
  refine(makeDd_any hB (Q:=fun p w'=>∃x G,p=ptrV x/\InAt (.d a m) (Spk.d a m).new x G w'/\∀k,G k->w1.heap.size<=k) (fun wa hwa=>?_)).mono (fun e w' h=>placed_js h (fun x=>rfl) hB.lt hy)
  refine(dd_new a m wa ok.1 ok.2.1 ok.2.2.1 ok.2.2.2).mono ?_
  rintro e w' ⟨x,rfl,h1,h2⟩
  exact⟨x,rfl,⟨x,_,rfl,h1,fun k hk=>hk.elim False.elim (fun h=>Nat.le_trans hwa.size h.1)⟩,h2⟩
 | t d=>
  refine(jmake_any (.inr (.inr (.inl ⟨rfl,rfl⟩))) w (fun y w1 hb hy hB=>?_) hs hk).mono (fun e w' ⟨x,h1,h2,h3⟩=>⟨x,h1,js_fresh h2,h3⟩)
  refine(makeDigest_any hB (Q:=fun p w'=>∃x G,p=ptrV x/\InAt (.t d) (Spk.t d).new x G w'/\∀k,G k->w1.heap.size<=k) (fun wa hwa=>?_)).mono (fun e w' h=>placed_js h (fun x=>rfl) hB.lt hy)
  refine(new_yes d wa (by have:=ok.1;omega) (by have:=ok.2;omega)).mono ?_
  rintro e w' ⟨x,rfl,h0,h1,h2⟩
  exact⟨x,rfl,⟨x,fun k=>k=x,rfl,h1,fun k hk=>by rw[show k=x from hk];exact Nat.le_trans hwa.size h0⟩,h2⟩
 | k q=>
  refine(jmake_any (.inr (.inr (.inr ⟨rfl,rfl⟩))) w (fun y w1 hb hy hB=>?_) hs hk).mono (fun e w' ⟨x,h1,h2,h3⟩=>⟨x,h1,js_fresh h2,h3⟩)
  refine(makeKll_any hB (Q:=fun p w'=>∃x G,p=ptrV x/\InAt (.k q) (Spk.k q).new x G w'/\∀k,G k->w1.heap.size<=k) (fun wa hwa=>?_)).mono (fun e w' h=>placed_js h (fun x=>rfl) hB.lt hy)
  refine(K.new_any q wa ok.1 ok.2).mono ?_
  rintro e w' ⟨rfl,rfl⟩
  exact⟨_,rfl,⟨_,_,rfl,K.kAt_new q wa,fun k hk=>by rw[show k=wa.heap.size from hk];exact hwa.size⟩,by(repeat' (first|(with_reducible exact Below.refl _ _)|(with_reducible refine Below.alloc ?_ ?_ _)|(with_reducible refine Below.drew ?_)|(with_reducible refine below_drewN ?_ _)|(with_reducible refine Below.setCell ?_ ?_ _)|(with_reducible refine below_of (by assumption) ?_ ?_)|go_size))⟩
theorem KOk.right{q:Nat}{L:K.LL}{led:Nat}(h:KOk q L led):K.RightP q L led:=K.fit_right h.fit h.q0 h.q1 h.emp
open Go.RowKit Go.Lib Go.Shelf
theorem hnew_er(lo hi dg:Int)(gr:Bool)(w:World)(C:∀W,Calls Tryz.prog 207 #[.agg #[.int .i64 lo,.int .i64 hi,.int .i64 dg]] W fun e w'=>e=.returned (.tuple #[.pointer none,.int .i64 1])/\Below W.heap.size W w') :
 Calls Tryz.prog 127 #[.agg #[.int .i64 lo,.int .i64 hi,.int .i64 dg],.bool gr] w fun e w'=>e=.returned (.tuple #[.pointer none,.int .i64 1])/\Below w.heap.size w w':=by
 have HC:=Lib.hid C
 obtain⟨w0,hw0⟩:∃w0,w.alloc (.cells #[.int .i64 lo,.int .i64 hi,.int .i64 dg] 23)=w0:=⟨_,rfl⟩
 have hb0:Below w.heap.size w w0:=by rw[<-hw0];(repeat' (first|(with_reducible exact Below.refl _ _)|(with_reducible refine Below.alloc ?_ ?_ _)|(with_reducible refine Below.drew ?_)|(with_reducible refine below_drewN ?_ _)|(with_reducible refine Below.setCell ?_ ?_ _)|(with_reducible refine below_of (by assumption) ?_ ?_)|go_size))
 have B0:Blk w0 w.heap.size 23 #[.int .i64 lo,.int .i64 hi,.int .i64 dg]:=by rw[<-hw0];exact Blk.new _ _ _
 have k0:=B0.cell 0
 have k1:=B0.cell 1
 have k2:=B0.cell 2
 simp only[List.getElem?_toArray,List.getElem?_cons_zero,List.getElem?_cons_succ] at k0 k1 k2
 have X:=Lib.hid hb0
 clear B0 hb0 C
 go_enter Tryz.func127,Tryz.ntmps127
 go_upto_region 1 with fail
 clear hw0
 go_wp2_with fail
 refine(HC.out w0).mono ?_
 rintro e w1 ⟨rfl,hb1⟩
 have Y:=Lib.hid (X.out.trans (hb1.mono X.out.size))
 clear hb1 k0 k1 k2
 go_wp2_with fail
 go_ret2
 exact⟨rfl,Y.out⟩
theorem isKind_no(kd:Int)(w:World)(h:kd<1\/4<kd):Calls Tryz.prog 21 #[.int .u8 kd] w fun e w'=>e=.returned (.bool false)/\w=w':=by
 by_cases h1:kd<1
 ·have h2:¬1<=kd:=by omega
  clear h
  go_enter Tryz.func21,Tryz.ntmps21
  go_wp2_with fail
  go_ret
  exact⟨rfl,rfl⟩
 ·have h2:1<=kd:=by omega
  have h3:¬kd<=4:=by omega
  clear h h1
  go_enter Tryz.func21,Tryz.ntmps21
  go_wp2_with fail
  go_ret
  exact⟨rfl,rfl⟩
theorem jmake_no(kd lo hi dg ac sz:Int)(gr:Bool)(w:World)(h:kd<1\/4<kd):Calls Tryz.prog 6 #[specV kd lo hi dg gr ac sz] w fun e w'=>e=.returned (.tuple #[.pointer none,.int .i64 1])/\Below w.heap.size w w':=by
 have C:=fun W=>Lib.hid (isKind_no kd W h)
 unfold specV
 clear h
 go_enter Tryz.func6,Tryz.ntmps6
 go_wp2_with fail
 refine((C _).out).mono ?_
 rintro e w' ⟨rfl,rfl⟩
 go_wp2_with fail
 refine bodyPost_ret (by simp[results,Tryz.results6,go_sem, *];try rfl) rfl ?_
 exact⟨rfl,by(repeat' (first|(with_reducible exact Below.refl _ _)|(with_reducible refine Below.alloc ?_ ?_ _)|(with_reducible refine Below.drew ?_)|(with_reducible refine below_drewN ?_ _)|(with_reducible refine Below.setCell ?_ ?_ _)|(with_reducible refine below_of (by assumption) ?_ ?_)|go_size))⟩
def MadeP(kd lo hi dg:Int)(gr:Bool)(ac sz:Int)(w:World)(e:Ending)(w':World):Prop:=
 ((∃sp x,SpOk sp/\sp.v=specV kd lo hi dg gr ac sz/\e=.returned (.tuple #[.pointer (some ⟨x,0,none⟩),.int .i64 0])/\JsAt sp sp.new x (Gr (fun _=>False) w w') w')\/(¬SpecOk kd lo hi dg gr ac sz/\e=.returned (.tuple #[.pointer none,.int .i64 1])))/\Below w.heap.size w w'
theorem jmake_un{sp:Spk}(ok:SpOk sp){kd lo hi dg ac sz lo2 hi2 dg2 ac2 sz2:Int}{gr gr2:Bool}{mf:Nat}(hkm:(kd=1/\mf=58)\/(kd=2/\mf=60)\/(kd=3/\mf=62)\/(kd=4/\mf=64))(w:World)(hv:sp.v=specV kd lo2 hi2 dg2 gr2 ac2 sz2)(hne:¬(lo2=lo/\hi2=hi/\dg2=dg/\gr2=gr/\ac2=ac/\sz2=sz))
 (hm:∀y w1,Below w.heap.size w w1->w.heap.size<=y->Blk w1 y 66 #[.int .u8 kd,.pointer none,.pointer none,.pointer none,.pointer none]->Calls Tryz.prog mf #[.pointer (some ⟨y,0,none⟩),specV kd lo hi dg gr ac sz] w1 fun e w'=>e=.returned (.int .i64 0)/\(∃F,JsAt sp sp.new y F w'/\∀k,F k->w.heap.size<=k)/\Touch (fun j=>j=y) w1 w') :
 Calls Tryz.prog 6 #[specV kd lo hi dg gr ac sz] w fun e w'=>e=.returned (.tuple #[.pointer none,.int .i64 1])/\Below w.heap.size w w':=by
 have hs:∀y w1,(∃F,JsAt sp sp.new y F w1/\∀k,F k->w.heap.size<=k)->Calls Tryz.prog 8 #[.pointer (some ⟨y,0,none⟩)] w1 fun e w'=>e=.returned (specV kd lo2 hi2 dg2 gr2 ac2 sz2)/\Below w1.heap.size w1 w':=fun y w1 ⟨F,h,_⟩=>hv▸js_spec w1 h (new_ok ok)
 have hk:∀y w1 w',(∃F,JsAt sp sp.new y F w1/\∀k,F k->w.heap.size<=k)->Below w1.heap.size w1 w'->(∃F,JsAt sp sp.new y F w'/\∀k,F k->w.heap.size<=k):=fun y w1 w' ⟨F,h,h2⟩ hb=>⟨F,(js_stay sp _ y).keep h hb,h2⟩
 exact jmake_ne hkm w hm hs hk hne
open Go.RowKit Go.Lib Go.Shelf
theorem made_no{kd lo hi dg ac sz:Int}{gr:Bool}{w w':World}{e:Ending}(hn:¬SpecOk kd lo hi dg gr ac sz)(h:e=.returned (.tuple #[.pointer none,.int .i64 1])/\Below w.heap.size w w'):MadeP kd lo hi dg gr ac sz w e w':=⟨.inr ⟨hn,h.1⟩,h.2⟩
theorem jmake_all(kd lo hi dg ac sz:Int)(gr:Bool)(w:World)(h0:-9223372036854775808<=hi)(h1:hi<=9223372036854775807) :
 Calls Tryz.prog 6 #[specV kd lo hi dg gr ac sz] w (MadeP kd lo hi dg gr ac sz w):=by
 by_cases hs:SpecOk kd lo hi dg gr ac sz
 ·obtain⟨sp,ok,hv⟩:=hs
  have C:=js_make w ok
  rw[hv] at C
  exact C.mono fun e w' ⟨x,h1,h2,h3⟩=>⟨.inl ⟨sp,x,ok,hv,h1,h2⟩,h3⟩
 by_cases k0:kd<1\/4<kd
 ·exact(jmake_no kd lo hi dg ac sz gr w k0).mono fun _ _ h=>made_no hs h
 rcases(by omega:kd=1\/kd=2\/kd=3\/kd=4) with rfl|rfl|rfl|rfl
 ·have bad:(∀W,Calls Tryz.prog 207 #[.agg #[.int .i64 lo,.int .i64 hi,.int .i64 dg]] W fun e w'=>e=.returned (.tuple #[.pointer none,.int .i64 1])/\Below W.heap.size W w')->Calls Tryz.prog 6 #[specV 1 lo hi dg gr ac sz] w (MadeP 1 lo hi dg gr ac sz w):=fun C=>
   (jmake_er (.inl ⟨rfl,rfl⟩) w (fun y w1 hb hy hB=>makeHdr_er hB (fun wa _=>hnew_er lo hi dg gr wa C))).mono fun _ _ h=>made_no hs h
  rcases shape_cases lo hi dg h1 with hn|⟨l,h,d,u,m,rfl,rfl,rfl,hp⟩
  ·exact bad fun W=>mnew_not lo hi dg W hn h0 h1
  ·by_cases hu:u+m<=62
   ·have ok:SpOk (.h l h d u m gr):=hp.ok hu
    have hne:¬((l:Int)=l/\(h:Int)=h/\(d:Int)=d/\gr=gr/\(0:Int)=ac/\(0:Int)=sz):=fun⟨_,_,_,_,e5,e6⟩=>hs (specOk_1.2 ⟨e5.symm,e6.symm,l,h,d,u,m,rfl,rfl,rfl,hp.ok hu⟩)
    refine(jmake_un ok (.inl ⟨rfl,rfl⟩) w rfl hne fun y w1 hb hy hB=>?_).mono fun _ _ h=>made_no hs h
    refine(makeHdr_any hB (Q:=fun p w'=>∃x G,p=ptrV x/\InAt (.h l h d u m gr) (Spk.h l h d u m gr).new x G w'/\∀k,G k->w1.heap.size<=k) (fun wa hwa=>?_)).mono (fun e w' h=>placed_js h (fun x=>rfl) hB.lt hy)
    refine(hs_make gr wa (hp.ok hu)).mono ?_
    rintro e w' ⟨x,rfl,h1,h2⟩
    exact⟨x,rfl,⟨x,_,rfl,h1,fun k hk=>hk.elim False.elim (fun h=>Nat.le_trans hwa.size h.1)⟩,h2⟩
   ·exact bad fun W=>mnew_big W hp (by omega)
 ·by_cases hd:ac<100\/5000<ac\/sz<2\/4096<sz
  ·exact(jmake_er (.inr (.inl ⟨rfl,rfl⟩)) w (fun y w1 hb hy hB=>makeDd_er hB (fun wa _=>dd_no ac sz wa hd))).mono fun _ _ h=>made_no hs h
  ·obtain⟨a,rfl⟩:=Int.eq_ofNat_of_zero_le (a:=ac) (by omega)
   obtain⟨m,rfl⟩:=Int.eq_ofNat_of_zero_le (a:=sz) (by omega)
   have ok:SpOk (.d a m):=(show 100<=a/\a<=5000/\2<=m/\m<=4096 from⟨by omega,by omega,by omega,by omega⟩)
   have hne:¬((0:Int)=lo/\(0:Int)=hi/\(0:Int)=dg/\false=gr/\(a:Int)=a/\(m:Int)=m):=fun⟨e1,e2,e3,e4,_,_⟩=>hs (specOk_2.2 ⟨e1.symm,e2.symm,e3.symm,e4.symm,by omega,by omega,by omega,by omega⟩)
   refine(jmake_un ok (.inr (.inl ⟨rfl,rfl⟩)) w rfl hne fun y w1 hb hy hB=>?_).mono fun _ _ h=>made_no hs h
   refine(makeDd_any hB (Q:=fun p w'=>∃x G,p=ptrV x/\InAt (.d a m) (Spk.d a m).new x G w'/\∀k,G k->w1.heap.size<=k) (fun wa hwa=>?_)).mono (fun e w' h=>placed_js h (fun x=>rfl) hB.lt hy)
   refine(dd_new a m wa ok.1 ok.2.1 ok.2.2.1 ok.2.2.2).mono ?_
   rintro e w' ⟨x,rfl,h1,h2⟩
   exact⟨x,rfl,⟨x,_,rfl,h1,fun k hk=>hk.elim False.elim (fun h=>Nat.le_trans hwa.size h.1)⟩,h2⟩
 ·by_cases hd:sz<10\/1000<sz
  ·exact(jmake_er (.inr (.inr (.inl ⟨rfl,rfl⟩))) w (fun y w1 hb hy hB=>makeDigest_er hB (fun wa _=>new_no sz wa hd))).mono fun _ _ h=>made_no hs h
  ·obtain⟨d,rfl⟩:=Int.eq_ofNat_of_zero_le (a:=sz) (by omega)
   have ok:SpOk (.t d):=(show 10<=d/\d<=1000 from⟨by omega,by omega⟩)
   have hne:¬((0:Int)=lo/\(0:Int)=hi/\(0:Int)=dg/\false=gr/\(0:Int)=ac/\(d:Int)=d):=fun⟨e1,e2,e3,e4,e5,_⟩=>hs (specOk_3.2 ⟨e1.symm,e2.symm,e3.symm,e4.symm,e5.symm,by omega,by omega⟩)
   refine(jmake_un ok (.inr (.inr (.inl ⟨rfl,rfl⟩))) w rfl hne fun y w1 hb hy hB=>?_).mono fun _ _ h=>made_no hs h
   refine(makeDigest_any hB (Q:=fun p w'=>∃x G,p=ptrV x/\InAt (.t d) (Spk.t d).new x G w'/\∀k,G k->w1.heap.size<=k) (fun wa hwa=>?_)).mono (fun e w' h=>placed_js h (fun x=>rfl) hB.lt hy)
   refine(new_yes d wa (by omega) (by omega)).mono ?_
   rintro e w' ⟨x,rfl,h0,h1,h2⟩
   exact⟨x,rfl,⟨x,fun k=>k=x,rfl,h1,fun k hk=>by rw[show k=x from hk];exact Nat.le_trans hwa.size h0⟩,h2⟩
 ·by_cases hd:sz<8\/4096<sz
  ·exact(jmake_er (.inr (.inr (.inr ⟨rfl,rfl⟩))) w (fun y w1 hb hy hB=>makeKll_er hB (fun wa _=>(K.new_no sz wa hd).mono fun _ _ h=>⟨h.1,h.2▸Below.refl _ _⟩))).mono fun _ _ h=>made_no hs h
  ·obtain⟨q,rfl⟩:=Int.eq_ofNat_of_zero_le (a:=sz) (by omega)
   have ok:SpOk (.k q):=(show 8<=q/\q<=4096 from⟨by omega,by omega⟩)
   have hne:¬((0:Int)=lo/\(0:Int)=hi/\(0:Int)=dg/\false=gr/\(0:Int)=ac/\(q:Int)=q):=fun⟨e1,e2,e3,e4,e5,_⟩=>hs (specOk_4.2 ⟨e1.symm,e2.symm,e3.symm,e4.symm,e5.symm,by omega,by omega⟩)
   refine(jmake_un ok (.inr (.inr (.inr ⟨rfl,rfl⟩))) w rfl hne fun y w1 hb hy hB=>?_).mono fun _ _ h=>made_no hs h
   refine(makeKll_any hB (Q:=fun p w'=>∃x G,p=ptrV x/\InAt (.k q) (Spk.k q).new x G w'/\∀k,G k->w1.heap.size<=k) (fun wa hwa=>?_)).mono (fun e w' h=>placed_js h (fun x=>rfl) hB.lt hy)
   refine(K.new_any q wa ok.1 ok.2).mono ?_
   rintro e w' ⟨rfl,rfl⟩
   exact⟨_,rfl,⟨_,_,rfl,K.kAt_new q wa,fun k hk=>by rw[show k=wa.heap.size from hk];exact hwa.size⟩,by(repeat' (first|(with_reducible exact Below.refl _ _)|(with_reducible refine Below.alloc ?_ ?_ _)|(with_reducible refine Below.drew ?_)|(with_reducible refine below_drewN ?_ _)|(with_reducible refine Below.setCell ?_ ?_ _)|(with_reducible refine below_of (by assumption) ?_ ?_)|go_size))⟩
open Go.RowKit Go.Lib Go.Shelf
theorem jtkE_new{sp:Spk}{c:Js}(h:JsOk sp c):jtkE sp sp.new c=0:=by
 have hb:=jtot_bd h
 cases sp with
 | h lo hi dg u m gr=>
  show htE [] c.l=0
  unfold htE
  rw[if_neg]
  have:jtot (.h lo hi dg u m gr) c=tot c.l:=rfl
  have h0:tot ([]:List Pr)=0:=rfl
  omega
 | d a m=>
  show ctakeE [] c.l=0
  unfold ctakeE
  rw[if_neg]
  have:jtot (.d a m) c=tot c.l:=rfl
  have h0:tot ([]:List Pr)=0:=rfl
  omega
 | t d=>
  show takeE St.zero c.s=0
  unfold takeE
  rw[if_neg]
  have h1:=h.fit.t
  have h0:Go.Proofs.YtingnldfpokckaaGreat.tot (St.zero.L++St.zero.W)=0:=rfl
  omega
 | k q=>
  show K.takeE [] c.L=0
  unfold K.takeE
  rw[if_neg]
  have h1:=h.fit.ok.wtL
  have h0:K.wt []=0:=rfl
  omega
open Go.RowKit Go.Lib Go.Shelf
open Go.RowKit Go.Lib Go.Shelf
open Go.RowKit Go.Lib Go.Shelf
end Go.Proofs.YtingnldfpokckaaGreat.D
