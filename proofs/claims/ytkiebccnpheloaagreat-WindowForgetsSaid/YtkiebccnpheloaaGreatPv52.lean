/- Parts of a proof: what its theorem reaches, words cut short. No condition of its own. -/
import Derived.Test.YtkiebccnpheloaaGreatPv50
set_option maxRecDepth 100000
set_option maxHeartbeats 16000000
set_option linter.unusedVariables false
set_option linter.unusedSimpArgs false
namespace Go.Proofs.YtkiebccnpheloaaGreat.D
open Go.RowKit Go.Lib Go.Shelf
theorem Duo.down{sp:Spk}{n base o0:Nat}{S R:Nat->Wn}{X Y:Nat->Nat}{Ow:Nat->Ft}{wb vb:Nat}{w:World}(h:Duo sp n base S R X Y Ow wb vb w)(hb:o0<=base):Duo sp n o0 S R X Y Ow wb vb w:=
 ⟨h.win,h.ref,h.ok,h.rok,h.uniq,fun a k e=>⟨Nat.le_trans hb (h.low a k e).1,(h.low a k e).2⟩,h.rw,h.rv,h.cw,h.cv⟩
def two(a b:Nat):Nat->Nat:=fun i=>if i=0 then a else b
def owS(F0 F1 F2 F3:Ft)(wb vb:Nat):Nat->Ft:=fun a k=>(a=0/\F0 k)\/(a=1/\F1 k)\/(a=2/\F2 k)\/(a=3/\F3 k)\/(a=4/\(k=wb\/k=vb))
theorem owS_at{F0 F1 F2 F3:Ft}{wb vb:Nat}:owS F0 F1 F2 F3 wb vb 0=F0/\owS F0 F1 F2 F3 wb vb 1=F1/\owS F0 F1 F2 F3 wb vb 2=F2/\owS F0 F1 F2 F3 wb vb 3=F3:=by
 refine⟨?_,?_,?_,?_⟩<;>funext k<;>unfold owS<;>simp
theorem duo_start{sp:Spk}{n base x0 x1 y0 y1 wb vb m1 m2 l2 u2 l3 u3:Nat}{F0 F1 F2 F3:Ft}{w:World}(ok:SpOk sp)
 (h0:WinAt sp (wnew sp n) x0 F0 w) (h1:WinAt sp (wnew sp n) x1 F1 w) (h2:RWinAt sp (wnew sp n) y0 F2 w) (h3:RWinAt sp (wnew sp n) y1 F3 w)
 (b0:∀k,F0 k->base<=k/\k<m1) (b1:∀k,F1 k->m1<=k/\k<m2) (b2:∀k,F2 k->l2<=k/\k<u2) (b3:∀k,F3 k->l3<=k/\k<u3) (bm:base<=m1) (bm2:m1<=m2) (c2:m2<=l2) (c3:m2<=l3) (cw:m2<=wb) (cv:m2<=vb)
 (d23:u2<=l3) (dw2:wb<l2\/u2<=wb) (dw3:wb<l3\/u3<=wb) (dv2:vb<l2\/u2<=vb) (dv3:vb<l3\/u3<=vb) (ew:wb<w.heap.size) (ev:vb<w.heap.size)
 (c0:w.cell? ⟨wb,0,none⟩=some (ptrV x0)) (c1:w.cell? ⟨wb,1,none⟩=some (ptrV x1)) (d0:w.cell? ⟨vb,0,none⟩=some (ptrV y0)) (d1:w.cell? ⟨vb,1,none⟩=some (ptrV y1)) :
 Duo sp n base (fun _=>wnew sp n) (fun _=>wnew sp n) (two x0 x1) (two y0 y1) (owS F0 F1 F2 F3 wb vb) wb vb w:=by
 have g0:=(win_stay sp _ _).low h0
 have g1:=(win_stay sp _ _).low h1
 have g2:=(rwin_stay sp _ _).low h2
 have g3:=(rwin_stay sp _ _).low h3
 obtain⟨e0,e1,e2,e3⟩:=@owS_at F0 F1 F2 F3 wb vb
 refine⟨fun i hi=>?_,fun i hi=>?_,fun i _=>wnew_ok ok,fun i _=>wnew_ok ok,fun a b k ha hb=>?_,fun a k e=>?_,.inr (.inr (.inr (.inr ⟨rfl,.inl rfl⟩))),.inr (.inr (.inr (.inr ⟨rfl,.inr rfl⟩))),fun i hi=>?_,fun i hi=>?_⟩
 ·rcases(by omega:i=0\/i=1) with rfl|rfl
  ·rw[e0];exact h0
  ·rw[e1];exact h1
 ·rcases(by omega:i=0\/i=1) with rfl|rfl
  ·show RWinAt sp _ _ (owS F0 F1 F2 F3 wb vb 2) w
   rw[e2];exact h2
  ·show RWinAt sp _ _ (owS F0 F1 F2 F3 wb vb 3) w
   rw[e3];exact h3
 ·have q0:=b0 k;have q1:=b1 k;have q2:=b2 k;have q3:=b3 k
  rcases ha with⟨ea,ha⟩|⟨ea,ha⟩|⟨ea,ha⟩|⟨ea,ha⟩|⟨ea,ha⟩<;>rcases hb with⟨eb,hb⟩|⟨eb,hb⟩|⟨eb,hb⟩|⟨eb,hb⟩|⟨eb,hb⟩<;>first
   | omega
   | (have p1:=q0 ha;have p2:=q1 hb;omega)
   | (have p1:=q0 ha;have p2:=q2 hb;omega)
   | (have p1:=q0 ha;have p2:=q3 hb;omega)
   | (have p1:=q0 ha;omega)
   | (have p1:=q1 ha;have p2:=q0 hb;omega)
   | (have p1:=q1 ha;have p2:=q2 hb;omega)
   | (have p1:=q1 ha;have p2:=q3 hb;omega)
   | (have p1:=q1 ha;omega)
   | (have p1:=q2 ha;have p2:=q0 hb;omega)
   | (have p1:=q2 ha;have p2:=q1 hb;omega)
   | (have p1:=q2 ha;have p2:=q3 hb;omega)
   | (have p1:=q2 ha;omega)
   | (have p1:=q3 ha;have p2:=q0 hb;omega)
   | (have p1:=q3 ha;have p2:=q1 hb;omega)
   | (have p1:=q3 ha;have p2:=q2 hb;omega)
   | (have p1:=q3 ha;omega)
   | (have p2:=q0 hb;omega)
   | (have p2:=q1 hb;omega)
   | (have p2:=q2 hb;omega)
   | (have p2:=q3 hb;omega)
 ·have q0:=b0 k;have q1:=b1 k;have q2:=b2 k;have q3:=b3 k
  rcases e with⟨_,e⟩|⟨_,e⟩|⟨_,e⟩|⟨_,e⟩|⟨_,e⟩
  ·have:=q0 e;have:=g0 k e;omega
  ·have:=q1 e;have:=g1 k e;omega
  ·have:=q2 e;have:=g2 k e;omega
  ·have:=q3 e;have:=g3 k e;omega
  ·omega
 ·rcases(by omega:i=0\/i=1) with rfl|rfl
  ·exact c0
  ·exact c1
 ·rcases(by omega:i=0\/i=1) with rfl|rfl
  ·exact d0
  ·exact d1
theorem pair30_c{sp:Spk}{kd lo hi dg ac sz:Int}{gr:Bool}(hv:sp.v=specV kd lo hi dg gr ac sz)(ok:SpOk sp)(n:Nat)(w:World)(n1:1<=n)(n60:n<=60) :
 Calls Tryz.prog 46 #[specV kd lo hi dg gr ac sz,.int .i64 n] w fun e w'=>∃X Y Ow wb vb,e=.returned (.tuple #[.slice (some ⟨wb,0,none⟩) 2 2,.slice (some ⟨vb,0,none⟩) 2 2])/\Duo sp n w.heap.size (fun _=>wnew sp n) (fun _=>wnew sp n) X Y Ow wb vb w'/\Below w.heap.size w w':=by
 have CN:=Lib.hid (fun W=>win_new n W ok n1 n60)
 have CR:=Lib.hid (fun W=>rwin_new n W ok n1 n60)
 rw[hv] at CN CR
 unfold specV at CN CR |-
 have OK:=Lib.hid ok
 clear hv ok
 obtain⟨b,hbb⟩:∃b,w.heap.size=b:=⟨_,rfl⟩
 obtain⟨wa,hwa⟩:∃z,w.alloc (.cells #[.int .u8 kd,.int .i64 lo,.int .i64 hi,.int .i64 dg,.bool gr,.int .i64 ac,.int .i64 sz] 34)=z:=⟨_,rfl⟩
 have ha:Below w.heap.size w wa:=by rw[<-hwa];(repeat' (first|(with_reducible exact Below.refl _ _)|(with_reducible refine Below.alloc ?_ ?_ _)|(with_reducible refine Below.drew ?_)|(with_reducible refine below_drewN ?_ _)|(with_reducible refine Below.setCell ?_ ?_ _)|(with_reducible refine below_of (by assumption) ?_ ?_)|go_size))
 have hbl:Blk wa b 34 #[.int .u8 kd,.int .i64 lo,.int .i64 hi,.int .i64 dg,.bool gr,.int .i64 ac,.int .i64 sz]:=by rw[<-hwa,<-hbb];exact Blk.new _ _ _
 have hza:wa.heap.size=b+1:=by rw[<-hwa,<-hbb,World.size_alloc]
 have f0:=hbl.cell 0
 have f1:=hbl.cell 1
 have f2:=hbl.cell 2
 have f3:=hbl.cell 3
 have f4:=hbl.cell 4
 have f5:=hbl.cell 5
 have f6:=hbl.cell 6
 simp only[List.getElem?_toArray,List.getElem?_cons_zero,List.getElem?_cons_succ] at f0 f1 f2 f3 f4 f5 f6
 have FF:=Lib.hid (And.intro f0 (And.intro f1 (And.intro f2 (And.intro f3 (And.intro f4 (And.intro f5 f6))))))
 have lb:=hbl.lt
 have HB0:=Lib.hid ha
 have HBB:=Lib.hid hbb
 have HZA:=Lib.hid hza
 clear hbl
 go_enter Tryz.func46,Tryz.ntmps46
 go_upto_region 1 with fail
 clear hwa hbb hza
 go_wp2_with fail
 refine(CN.out wa).mono ?_
 rintro e w1 ⟨x0,rfl,h0,hb1⟩
 have H0:=Lib.hid h0
 have B1:=Lib.hid hb1
 clear h0 hb1 f0 f1 f2 f3 f4 f5 f6
 have f0:w1.cell? ⟨b,0,none⟩=_:=(B1.out.cell (p:=⟨b,0,none⟩) lb).trans FF.out.1
 have f1:w1.cell? ⟨b,1,none⟩=_:=(B1.out.cell (p:=⟨b,1,none⟩) lb).trans FF.out.2.1
 have f2:w1.cell? ⟨b,2,none⟩=_:=(B1.out.cell (p:=⟨b,2,none⟩) lb).trans FF.out.2.2.1
 have f3:w1.cell? ⟨b,3,none⟩=_:=(B1.out.cell (p:=⟨b,3,none⟩) lb).trans FF.out.2.2.2.1
 have f4:w1.cell? ⟨b,4,none⟩=_:=(B1.out.cell (p:=⟨b,4,none⟩) lb).trans FF.out.2.2.2.2.1
 have f5:w1.cell? ⟨b,5,none⟩=_:=(B1.out.cell (p:=⟨b,5,none⟩) lb).trans FF.out.2.2.2.2.2.1
 have f6:w1.cell? ⟨b,6,none⟩=_:=(B1.out.cell (p:=⟨b,6,none⟩) lb).trans FF.out.2.2.2.2.2.2
 go_wp2_with fail
 refine(CN.out w1).mono ?_
 rintro e w2 ⟨x1,rfl,h1,hb2⟩
 have H1:=Lib.hid h1
 have B2:=Lib.hid hb2
 clear h1 hb2 f0 f1 f2 f3 f4 f5 f6
 have l2:b<w2.heap.size:=by have:=B1.out.size;have:=B2.out.size;omega
 have GG:Hid (w2.cell? ⟨b,0,none⟩=_/\w2.cell? ⟨b,1,none⟩=_/\w2.cell? ⟨b,2,none⟩=_/\w2.cell? ⟨b,3,none⟩=_/\w2.cell? ⟨b,4,none⟩=_/\w2.cell? ⟨b,5,none⟩=_/\w2.cell? ⟨b,6,none⟩=_):=Lib.hid ⟨(B2.out.cell (p:=⟨b,0,none⟩) (Nat.lt_of_lt_of_le lb B1.out.size)).trans ((B1.out.cell (p:=⟨b,0,none⟩) lb).trans FF.out.1),(B2.out.cell (p:=⟨b,1,none⟩) (Nat.lt_of_lt_of_le lb B1.out.size)).trans ((B1.out.cell (p:=⟨b,1,none⟩) lb).trans FF.out.2.1),(B2.out.cell (p:=⟨b,2,none⟩) (Nat.lt_of_lt_of_le lb B1.out.size)).trans ((B1.out.cell (p:=⟨b,2,none⟩) lb).trans FF.out.2.2.1),(B2.out.cell (p:=⟨b,3,none⟩) (Nat.lt_of_lt_of_le lb B1.out.size)).trans ((B1.out.cell (p:=⟨b,3,none⟩) lb).trans FF.out.2.2.2.1),(B2.out.cell (p:=⟨b,4,none⟩) (Nat.lt_of_lt_of_le lb B1.out.size)).trans ((B1.out.cell (p:=⟨b,4,none⟩) lb).trans FF.out.2.2.2.2.1),(B2.out.cell (p:=⟨b,5,none⟩) (Nat.lt_of_lt_of_le lb B1.out.size)).trans ((B1.out.cell (p:=⟨b,5,none⟩) lb).trans FF.out.2.2.2.2.2.1),(B2.out.cell (p:=⟨b,6,none⟩) (Nat.lt_of_lt_of_le lb B1.out.size)).trans ((B1.out.cell (p:=⟨b,6,none⟩) lb).trans FF.out.2.2.2.2.2.2)⟩
 have FIN:Hid (∀(wx:World) (wb vb y0 y1:Nat) (F2 F3:Ft) (l2 u2 l3 u3:Nat),Below w2.heap.size w2 wx->RWinAt sp (wnew sp n) y0 F2 wx->RWinAt sp (wnew sp n) y1 F3 wx->(∀k,F2 k->l2<=k/\k<u2)->(∀k,F3 k->l3<=k/\k<u3)->w2.heap.size<=l2->w2.heap.size<=l3->w2.heap.size<=wb->w2.heap.size<=vb->u2<=l3->(wb<l2\/u2<=wb)->(wb<l3\/u3<=wb)->(vb<l2\/u2<=vb)->(vb<l3\/u3<=vb)->wb<wx.heap.size->vb<wx.heap.size ->
  wx.cell? ⟨wb,0,none⟩=some (ptrV x0)->wx.cell? ⟨wb,1,none⟩=some (ptrV x1)->wx.cell? ⟨vb,0,none⟩=some (ptrV y0)->wx.cell? ⟨vb,1,none⟩=some (ptrV y1) ->
  ∃X Y Ow wb' vb',Ending.returned (.tuple #[.slice (some ⟨wb,0,none⟩) 2 2,.slice (some ⟨vb,0,none⟩) 2 2])=.returned (.tuple #[.slice (some ⟨wb',0,none⟩) 2 2,.slice (some ⟨vb',0,none⟩) 2 2])/\Duo sp n w.heap.size (fun _=>wnew sp n) (fun _=>wnew sp n) X Y Ow wb' vb' wx/\Below w.heap.size w wx):=Lib.hid (fun wx wb vb y0 y1 F2 F3 l2 u2 l3 u3 hb h2 h3 b2 b3 c2 c3 cw cv d23 dw2 dw3 dv2 dv3 ew ev p0 p1 p2 p3=>by
  have s0:=HB0.out.size
  have s1:=B1.out.size
  have s2:=B2.out.size
  have a16:Below w1.heap.size w1 wx:=B2.out.trans (hb.mono s2)
  have hD:=duo_start OK.out ((win_stay sp _ _).keep H0.out a16) ((win_stay sp _ _).keep H1.out hb) h2 h3 (base:=wa.heap.size) (m1:=w1.heap.size) (m2:=w2.heap.size) (wb:=wb) (vb:=vb) (fun k e=>e.elim False.elim id) (fun k e=>e.elim False.elim id) b2 b3 s1 s2 c2 c3 cw cv d23 dw2 dw3 dv2 dv3 ew ev p0 p1 p2 p3
  exact⟨_,_,_,_,_,rfl,hD.down s0,HB0.out.trans ((B1.out.trans (a16.mono s1)).mono s0)⟩)
 have TD:Below w2.heap.size w2 w2.drew:=(Below.refl _ _).drew
 go_upto_region 5 with fail
 have FBq:=Lib.hid (fun w' (hS':(fun w'=>Below w2.heap.size w2 w') w')=>(And.intro ((hS'.cell (p:=⟨b,0,none⟩) l2).trans GG.out.1) (And.intro ((hS'.cell (p:=⟨b,1,none⟩) l2).trans GG.out.2.1) (And.intro ((hS'.cell (p:=⟨b,2,none⟩) l2).trans GG.out.2.2.1) (And.intro ((hS'.cell (p:=⟨b,3,none⟩) l2).trans GG.out.2.2.2.1) (And.intro ((hS'.cell (p:=⟨b,4,none⟩) l2).trans GG.out.2.2.2.2.1) (And.intro ((hS'.cell (p:=⟨b,5,none⟩) l2).trans GG.out.2.2.2.2.2.1) ((hS'.cell (p:=⟨b,6,none⟩) l2).trans GG.out.2.2.2.2.2.2))))))))
 refine wp_region_tree (fun w'=>Below w2.heap.size w2 w') (.rd 0 (.rd 1 (.rd 3 (.rd 4 (.rd 6 (.rd 7 (.two 2 5 (.ef 5 (.ef 8 (.rd 10 (.ef 9 (.rd 11 .nil))))) (.two 2 8 (.ef 8 (.rd 10 (.ef 9 (.rd 11 .nil)))) (.two 2 9 (.rd 10 (.ef 9 (.rd 11 .nil))) (.ef 2 (.rd 10 (.rd 11 .nil)))))))))))) (by kernel_rfl) (by kernel_rfl) ((Below.refl _ _).drew) ?_
 iterate 6
  refine wpTr_read (by rfl) (by rfl) (fun R hR=>?_)
  apply Exists.intro
  refine⟨fun w' hS'=>?_,?_⟩
  ·obtain⟨f0,f1,f2,f3,f4,f5,f6⟩:=FBq.out w' hS'
   go_simp
   exact⟨rfl,rfl⟩
  go_simp
  refine hR _ ?_
  clear hR R
 refine wpTr_two (by rfl) (by rfl) (by rfl) (by rfl) (fun K hK=>?_) (fun K hK=>?_)
 go_simp
 have TW:Below w2.heap.size w2 _:=TD.alloc TD.size (.cells #[.pointer (some ⟨x0,0,none⟩),.pointer (some ⟨x1,0,none⟩)] 82)
 refine hK _ _ (TW) ?_
 clear hK K
 refine wpTr_do (by rfl) (by rfl) (fun K hK=>?_)
 go_simp
 refine(CR.out _).mono ?_
 rintro e w4 ⟨y0,rfl,h2,hb4⟩
 have T4:Below w2.heap.size w2 w4:=TW.trans (hb4.mono TW.size)
 refine hK _ _ (T4) ?_
 clear hK K
 refine wpTr_do (by rfl) (by rfl) (fun K hK=>?_)
 go_simp
 refine(CR.out _).mono ?_
 rintro e w5 ⟨y1,rfl,h3,hb5⟩
 have T5:Below w2.heap.size w2 w5:=T4.trans (hb5.mono T4.size)
 refine hK _ _ (T5) ?_
 clear hK K
 iterate 1
  refine wpTr_read (by rfl) (by rfl) (fun R hR=>?_)
  apply Exists.intro
  refine⟨fun w' hS'=>?_,?_⟩
  ·obtain⟨f0,f1,f2,f3,f4,f5,f6⟩:=FBq.out w' hS'
   go_simp
   exact⟨rfl,rfl⟩
  go_simp
  refine hR _ ?_
  clear hR R
 refine wpTr_do (by rfl) (by rfl) (fun K hK=>?_)
 go_simp
 have TV:Below w2.heap.size w2 _:=T5.alloc T5.size (.cells #[.pointer (some ⟨y0,0,none⟩),.pointer (some ⟨y1,0,none⟩)] 85)
 refine hK _ _ (TV) ?_
 clear hK K
 iterate 1
  refine wpTr_read (by rfl) (by rfl) (fun R hR=>?_)
  apply Exists.intro
  refine⟨fun w' hS'=>?_,?_⟩
  ·obtain⟨f0,f1,f2,f3,f4,f5,f6⟩:=FBq.out w' hS'
   go_simp
   exact⟨rfl,rfl⟩
  go_simp
  refine hR _ ?_
  clear hR R
 refine wpTr_nil ?_
 rotate_left
 go_simp
 refine(CR.out _).mono ?_
 rintro e w4 ⟨y0,rfl,h2,hb4⟩
 have T4:Below w2.heap.size w2 w4:=TD.trans (hb4.mono TD.size)
 refine hK _ _ (T4) ?_
 clear hK K
 refine wpTr_two (by rfl) (by rfl) (by rfl) (by rfl) (fun K hK=>?_) (fun K hK=>?_)
 go_simp
 have TW:Below w2.heap.size w2 _:=T4.alloc T4.size (.cells #[.pointer (some ⟨x0,0,none⟩),.pointer (some ⟨x1,0,none⟩)] 82)
 refine hK _ _ (TW) ?_
 clear hK K
 refine wpTr_do (by rfl) (by rfl) (fun K hK=>?_)
 go_simp
 refine(CR.out _).mono ?_
 rintro e w5 ⟨y1,rfl,h3,hb5⟩
 have T5:Below w2.heap.size w2 w5:=TW.trans (hb5.mono TW.size)
 refine hK _ _ (T5) ?_
 clear hK K
 iterate 1
  refine wpTr_read (by rfl) (by rfl) (fun R hR=>?_)
  apply Exists.intro
  refine⟨fun w' hS'=>?_,?_⟩
  ·obtain⟨f0,f1,f2,f3,f4,f5,f6⟩:=FBq.out w' hS'
   go_simp
   exact⟨rfl,rfl⟩
  go_simp
  refine hR _ ?_
  clear hR R
 refine wpTr_do (by rfl) (by rfl) (fun K hK=>?_)
 go_simp
 have TV:Below w2.heap.size w2 _:=T5.alloc T5.size (.cells #[.pointer (some ⟨y0,0,none⟩),.pointer (some ⟨y1,0,none⟩)] 85)
 refine hK _ _ (TV) ?_
 clear hK K
 iterate 1
  refine wpTr_read (by rfl) (by rfl) (fun R hR=>?_)
  apply Exists.intro
  refine⟨fun w' hS'=>?_,?_⟩
  ·obtain⟨f0,f1,f2,f3,f4,f5,f6⟩:=FBq.out w' hS'
   go_simp
   exact⟨rfl,rfl⟩
  go_simp
  refine hR _ ?_
  clear hR R
 refine wpTr_nil ?_
 rotate_left
 go_simp
 refine(CR.out _).mono ?_
 rintro e w5 ⟨y1,rfl,h3,hb5⟩
 have T5:Below w2.heap.size w2 w5:=T4.trans (hb5.mono T4.size)
 refine hK _ _ (T5) ?_
 clear hK K
 refine wpTr_two (by rfl) (by rfl) (by rfl) (by rfl) (fun K hK=>?_) (fun K hK=>?_)
 go_simp
 have TW:Below w2.heap.size w2 _:=T5.alloc T5.size (.cells #[.pointer (some ⟨x0,0,none⟩),.pointer (some ⟨x1,0,none⟩)] 82)
 refine hK _ _ (TW) ?_
 clear hK K
 iterate 1
  refine wpTr_read (by rfl) (by rfl) (fun R hR=>?_)
  apply Exists.intro
  refine⟨fun w' hS'=>?_,?_⟩
  ·obtain⟨f0,f1,f2,f3,f4,f5,f6⟩:=FBq.out w' hS'
   go_simp
   exact⟨rfl,rfl⟩
  go_simp
  refine hR _ ?_
  clear hR R
 refine wpTr_do (by rfl) (by rfl) (fun K hK=>?_)
 go_simp
 have TV:Below w2.heap.size w2 _:=TW.alloc TW.size (.cells #[.pointer (some ⟨y0,0,none⟩),.pointer (some ⟨y1,0,none⟩)] 85)
 refine hK _ _ (TV) ?_
 clear hK K
 iterate 1
  refine wpTr_read (by rfl) (by rfl) (fun R hR=>?_)
  apply Exists.intro
  refine⟨fun w' hS'=>?_,?_⟩
  ·obtain⟨f0,f1,f2,f3,f4,f5,f6⟩:=FBq.out w' hS'
   go_simp
   exact⟨rfl,rfl⟩
  go_simp
  refine hR _ ?_
  clear hR R
 refine wpTr_nil ?_
 rotate_left
 go_simp
 have TV:Below w2.heap.size w2 _:=T5.alloc T5.size (.cells #[.pointer (some ⟨y0,0,none⟩),.pointer (some ⟨y1,0,none⟩)] 85)
 refine hK _ _ (TV) ?_
 clear hK K
 refine wpTr_do (by rfl) (by rfl) (fun K hK=>?_)
 go_simp
 have TW:Below w2.heap.size w2 _:=TV.alloc TV.size (.cells #[.pointer (some ⟨x0,0,none⟩),.pointer (some ⟨x1,0,none⟩)] 82)
 refine hK _ _ (TW) ?_
 clear hK K
 iterate 2
  refine wpTr_read (by rfl) (by rfl) (fun R hR=>?_)
  apply Exists.intro
  refine⟨fun w' hS'=>?_,?_⟩
  ·obtain⟨f0,f1,f2,f3,f4,f5,f6⟩:=FBq.out w' hS'
   go_simp
   exact⟨rfl,rfl⟩
  go_simp
  refine hR _ ?_
  clear hR R
 refine wpTr_nil ?_
 all_goals try refine calm_normal ?_
 ·go_wp2_with fail
  refine bodyPost_ret (by simp[results,Tryz.results46,go_sem, *];try rfl) rfl ?_
  have k6:=Blk.new w5 85 #[.pointer (some ⟨y0,0,none⟩),.pointer (some ⟨y1,0,none⟩)]
  have t4:Below w5.heap.size w5 (w5.alloc (.cells #[.pointer (some ⟨y0,0,none⟩),.pointer (some ⟨y1,0,none⟩)] 85)):=(Below.refl _ _).alloc (Nat.le_refl _) _
  have z3:(w5.alloc (.cells #[.pointer (some ⟨y0,0,none⟩),.pointer (some ⟨y1,0,none⟩)] 85)).heap.size=w5.heap.size+1:=by simp
  have k3:=Blk.new (w5.alloc (.cells #[.pointer (some ⟨y0,0,none⟩),.pointer (some ⟨y1,0,none⟩)] 85)) 82 #[.pointer (some ⟨x0,0,none⟩),.pointer (some ⟨x1,0,none⟩)]
  have t6:Below (w5.alloc (.cells #[.pointer (some ⟨y0,0,none⟩),.pointer (some ⟨y1,0,none⟩)] 85)).heap.size (w5.alloc (.cells #[.pointer (some ⟨y0,0,none⟩),.pointer (some ⟨y1,0,none⟩)] 85)) ((w5.alloc (.cells #[.pointer (some ⟨y0,0,none⟩),.pointer (some ⟨y1,0,none⟩)] 85)).alloc (.cells #[.pointer (some ⟨x0,0,none⟩),.pointer (some ⟨x1,0,none⟩)] 82)):=(Below.refl _ _).alloc (Nat.le_refl _) _
  rw[z3] at k3
  have z6:((w5.alloc (.cells #[.pointer (some ⟨y0,0,none⟩),.pointer (some ⟨y1,0,none⟩)] 85)).alloc (.cells #[.pointer (some ⟨x0,0,none⟩),.pointer (some ⟨x1,0,none⟩)] 82)).heap.size=w5.heap.size+2:=by simp
  have s4:=hb4.size
  have s5:=hb5.size
  have e2:w2.drew.heap.size=w2.heap.size:=rfl
  have kb:=t4.trans (t6.mono t4.size)
  exact FIN.out _ _ _ _ _ _ _ w2.drew.heap.size w4.heap.size w4.heap.size w5.heap.size (T5.trans (kb.mono T5.size)) ((rwin_stay sp _ _).keep h2 (hb5.trans (kb.mono s5))) ((rwin_stay sp _ _).keep h3 kb) (fun k e=>e.elim False.elim id) (fun k e=>e.elim False.elim id) (by omega) (by omega) (by omega) (by omega) (by omega) (.inr (by omega)) (.inr (by omega)) (.inr (by omega)) (.inr (by omega)) (by omega) (by omega) (k3.cell 0) (k3.cell 1) ((t6.cell (p:=⟨w5.heap.size,0,none⟩) (by show w5.heap.size<_;omega)).trans (k6.cell 0)) ((t6.cell (p:=⟨w5.heap.size,1,none⟩) (by show w5.heap.size<_;omega)).trans (k6.cell 1))
 ·go_wp2_with fail
  refine bodyPost_ret (by simp[results,Tryz.results46,go_sem, *];try rfl) rfl ?_
  have k3:=(Blk.new w2 82 #[.pointer (some ⟨x0,0,none⟩),.pointer (some ⟨x1,0,none⟩)]).drew
  obtain⟨w3,hw3⟩:∃q,(w2.alloc (.cells #[.pointer (some ⟨x0,0,none⟩),.pointer (some ⟨x1,0,none⟩)] 82)).drew=q:=⟨_,rfl⟩
  have z3:w3.heap.size=w2.heap.size+1:=by rw[<-hw3];simp
  rw[hw3] at k3 h2 hb4
  have k6:=Blk.new w5 85 #[.pointer (some ⟨y0,0,none⟩),.pointer (some ⟨y1,0,none⟩)]
  have t6:Below w5.heap.size w5 (w5.alloc (.cells #[.pointer (some ⟨y0,0,none⟩),.pointer (some ⟨y1,0,none⟩)] 85)):=(Below.refl _ _).alloc (Nat.le_refl _) _
  have z6:(w5.alloc (.cells #[.pointer (some ⟨y0,0,none⟩),.pointer (some ⟨y1,0,none⟩)] 85)).heap.size=w5.heap.size+1:=by simp
  have s4:=hb4.size
  have s5:=hb5.size
  have kb:=hb4.trans ((hb5.trans (t6.mono s5)).mono s4)
  exact FIN.out _ _ _ _ _ _ _ w3.heap.size w4.heap.size w4.heap.size w5.heap.size (T5.trans (t6.mono T5.size)) ((rwin_stay sp _ _).keep h2 (hb5.trans (t6.mono s5))) ((rwin_stay sp _ _).keep h3 t6) (fun k e=>e.elim False.elim id) (fun k e=>e.elim False.elim id) (by omega) (by omega) (Nat.le_refl _) (by omega) (Nat.le_refl _) (.inl (by omega)) (.inl (by omega)) (.inr (by omega)) (.inr (by omega)) (by omega) (by omega) ((kb.cell (p:=⟨w2.heap.size,0,none⟩) (by show w2.heap.size<_;omega)).trans (k3.cell 0)) ((kb.cell (p:=⟨w2.heap.size,1,none⟩) (by show w2.heap.size<_;omega)).trans (k3.cell 1)) (k6.cell 0) (k6.cell 1)
 ·go_wp2_with fail
  refine bodyPost_ret (by simp[results,Tryz.results46,go_sem, *];try rfl) rfl ?_
  have k3:=Blk.new w4 82 #[.pointer (some ⟨x0,0,none⟩),.pointer (some ⟨x1,0,none⟩)]
  have t4:Below w4.heap.size w4 (w4.alloc (.cells #[.pointer (some ⟨x0,0,none⟩),.pointer (some ⟨x1,0,none⟩)] 82)):=(Below.refl _ _).alloc (Nat.le_refl _) _
  obtain⟨w3,hw3⟩:∃q,w4.alloc (.cells #[.pointer (some ⟨x0,0,none⟩),.pointer (some ⟨x1,0,none⟩)] 82)=q:=⟨_,rfl⟩
  have z3:w3.heap.size=w4.heap.size+1:=by rw[<-hw3];simp
  rw[hw3] at k3 h3 hb5 t4
  have k6:=Blk.new w5 85 #[.pointer (some ⟨y0,0,none⟩),.pointer (some ⟨y1,0,none⟩)]
  have t6:Below w5.heap.size w5 (w5.alloc (.cells #[.pointer (some ⟨y0,0,none⟩),.pointer (some ⟨y1,0,none⟩)] 85)):=(Below.refl _ _).alloc (Nat.le_refl _) _
  have z6:(w5.alloc (.cells #[.pointer (some ⟨y0,0,none⟩),.pointer (some ⟨y1,0,none⟩)] 85)).heap.size=w5.heap.size+1:=by simp
  have s4:=hb4.size
  have s5:=hb5.size
  have e2:w2.drew.heap.size=w2.heap.size:=rfl
  have kb:=hb5.trans (t6.mono s5)
  exact FIN.out _ _ _ _ _ _ _ w2.drew.heap.size w4.heap.size w3.heap.size w5.heap.size (T5.trans (t6.mono T5.size)) ((rwin_stay sp _ _).keep h2 (t4.trans (kb.mono t4.size))) ((rwin_stay sp _ _).keep h3 t6) (fun k e=>e.elim False.elim id) (fun k e=>e.elim False.elim id) (by omega) (by omega) (by omega) (by omega) (by omega) (.inr (by omega)) (.inl (by omega)) (.inr (by omega)) (.inr (by omega)) (by omega) (by omega) ((kb.cell (p:=⟨w4.heap.size,0,none⟩) (by show w4.heap.size<_;omega)).trans (k3.cell 0)) ((kb.cell (p:=⟨w4.heap.size,1,none⟩) (by show w4.heap.size<_;omega)).trans (k3.cell 1)) (k6.cell 0) (k6.cell 1)
 ·go_wp2_with fail
  refine bodyPost_ret (by simp[results,Tryz.results46,go_sem, *];try rfl) rfl ?_
  have k3:=Blk.new w5 82 #[.pointer (some ⟨x0,0,none⟩),.pointer (some ⟨x1,0,none⟩)]
  have t4:Below w5.heap.size w5 (w5.alloc (.cells #[.pointer (some ⟨x0,0,none⟩),.pointer (some ⟨x1,0,none⟩)] 82)):=(Below.refl _ _).alloc (Nat.le_refl _) _
  have z3:(w5.alloc (.cells #[.pointer (some ⟨x0,0,none⟩),.pointer (some ⟨x1,0,none⟩)] 82)).heap.size=w5.heap.size+1:=by simp
  have k6:=Blk.new (w5.alloc (.cells #[.pointer (some ⟨x0,0,none⟩),.pointer (some ⟨x1,0,none⟩)] 82)) 85 #[.pointer (some ⟨y0,0,none⟩),.pointer (some ⟨y1,0,none⟩)]
  have t6:Below (w5.alloc (.cells #[.pointer (some ⟨x0,0,none⟩),.pointer (some ⟨x1,0,none⟩)] 82)).heap.size (w5.alloc (.cells #[.pointer (some ⟨x0,0,none⟩),.pointer (some ⟨x1,0,none⟩)] 82)) ((w5.alloc (.cells #[.pointer (some ⟨x0,0,none⟩),.pointer (some ⟨x1,0,none⟩)] 82)).alloc (.cells #[.pointer (some ⟨y0,0,none⟩),.pointer (some ⟨y1,0,none⟩)] 85)):=(Below.refl _ _).alloc (Nat.le_refl _) _
  rw[z3] at k6
  have z6:((w5.alloc (.cells #[.pointer (some ⟨x0,0,none⟩),.pointer (some ⟨x1,0,none⟩)] 82)).alloc (.cells #[.pointer (some ⟨y0,0,none⟩),.pointer (some ⟨y1,0,none⟩)] 85)).heap.size=w5.heap.size+2:=by simp
  have s4:=hb4.size
  have s5:=hb5.size
  have e2:w2.drew.heap.size=w2.heap.size:=rfl
  have kb:=t4.trans (t6.mono t4.size)
  exact FIN.out _ _ _ _ _ _ _ w2.drew.heap.size w4.heap.size w4.heap.size w5.heap.size (T5.trans (kb.mono T5.size)) ((rwin_stay sp _ _).keep h2 (hb5.trans (kb.mono s5))) ((rwin_stay sp _ _).keep h3 kb) (fun k e=>e.elim False.elim id) (fun k e=>e.elim False.elim id) (by omega) (by omega) (by omega) (by omega) (by omega) (.inr (by omega)) (.inr (by omega)) (.inr (by omega)) (.inr (by omega)) (by omega) (by omega) ((t6.cell (p:=⟨w5.heap.size,0,none⟩) (by show w5.heap.size<_;omega)).trans (k3.cell 0)) ((t6.cell (p:=⟨w5.heap.size,1,none⟩) (by show w5.heap.size<_;omega)).trans (k3.cell 1)) (k6.cell 0) (k6.cell 1)
theorem pair30_any{sp:Spk}(ok:SpOk sp)(n:Nat)(w:World)(n1:1<=n)(n60:n<=60) :
 Calls Tryz.prog 46 #[sp.v,.int .i64 n] w fun e w'=>∃X Y Ow wb vb,e=.returned (.tuple #[.slice (some ⟨wb,0,none⟩) 2 2,.slice (some ⟨vb,0,none⟩) 2 2])/\Duo sp n w.heap.size (fun _=>wnew sp n) (fun _=>wnew sp n) X Y Ow wb vb w'/\Below w.heap.size w w':=by
 cases sp with
 | h lo hi dg u m gr=>exact pair30_c rfl ok n w n1 n60
 | d a m=>exact pair30_c rfl ok n w n1 n60
 | t d=>exact pair30_c rfl ok n w n1 n60
 | k q=>exact pair30_c rfl ok n w n1 n60
open Go.RowKit Go.Lib Go.Shelf
def spkN(kind a b:Nat):Spk:=
 if kind % 4=0 then .h (1+a % 50) (2 * (1+a % 50)+b) (1+a % 3) (Lib.bitLen (1+a % 50) - 1) (Lib.bitLen (2 * 10 ^ (1+a % 3) - 1)) true
 else if kind % 4=1 then .d (500+a % 46 * 100) (2+b % 20)
 else if kind % 4=2 then .t (10+a % 30)
 else .k (8+a % 30)
theorem spkN_ok{kind a b:Nat}(hb:b<=65535):SpOk (spkN kind a b)/\(spkN kind a b).small:=by
 unfold spkN
 split
 ·have h1:Lib.bitLen (1+a % 50)<=6:=(bit_le (by omega)).2 (by omega)
  have h2:=mag_bd (dg:=1+a % 3) (by omega)
  exact⟨⟨by omega,by omega,by omega,by omega,by omega,rfl,rfl,by omega⟩,trivial⟩
 ·split
  ·exact⟨⟨by omega,by omega,by omega,by omega⟩,trivial⟩
  ·split
   ·exact⟨⟨by omega,by omega⟩,by show 10+a % 30<=300;omega⟩
   ·exact⟨⟨by omega,by omega⟩,trivial⟩
open Go.RowKit Go.Lib Go.Shelf
theorem spec_any(kind a b:Nat)(w:World)(hk:kind<=255)(ha:a<=65535)(hb:b<=65535) :
 Calls Tryz.prog 27 #[.int .u8 kind,.int .u16 a,.int .u16 b,.bool true] w fun e w'=>e=.returned (spkN kind a b).v/\Below w.heap.size w w':=by
 have hmod:((kind:Int) % 4)=((kind % 4:Nat):Int):=by omega
 obtain⟨m,hm⟩:∃m,kind % 4=m:=⟨_,rfl⟩
 have hm4:m<4:=by omega
 have HM:=Lib.hid hm
 rw[hm] at hmod
 clear hm
 by_cases e0:m=0
 ·subst e0
  go_enter Tryz.func27,Tryz.ntmps27
  go_wp2_with fail
  refine bodyPost_ret (by simp[results,Tryz.results27,go_sem, *];try rfl) rfl ?_
  refine⟨?_,by(repeat' (first|(with_reducible exact Below.refl _ _)|(with_reducible refine Below.alloc ?_ ?_ _)|(with_reducible refine Below.drew ?_)|(with_reducible refine below_drewN ?_ _)|(with_reducible refine Below.setCell ?_ ?_ _)|(with_reducible refine below_of (by assumption) ?_ ?_)|go_size))⟩
  unfold spkN
  rw[if_pos HM.out]
  unfold Spk.v specV
  simp only[Ending.returned.injEq,Value.agg.injEq]
  congr 1
  try simp
 by_cases e1:m=1
 ·subst e1
  go_enter Tryz.func27,Tryz.ntmps27
  go_wp2_with fail
  refine bodyPost_ret (by simp[results,Tryz.results27,go_sem, *];try rfl) rfl ?_
  refine⟨?_,by(repeat' (first|(with_reducible exact Below.refl _ _)|(with_reducible refine Below.alloc ?_ ?_ _)|(with_reducible refine Below.drew ?_)|(with_reducible refine below_drewN ?_ _)|(with_reducible refine Below.setCell ?_ ?_ _)|(with_reducible refine below_of (by assumption) ?_ ?_)|go_size))⟩
  unfold spkN
  rw[if_neg (by rw[HM.out];decide),if_pos HM.out]
  unfold Spk.v specV
  simp only[Ending.returned.injEq,Value.agg.injEq]
  congr 1
  try simp
 by_cases e2:m=2
 ·subst e2
  go_enter Tryz.func27,Tryz.ntmps27
  go_wp2_with fail
  refine bodyPost_ret (by simp[results,Tryz.results27,go_sem, *];try rfl) rfl ?_
  refine⟨?_,by(repeat' (first|(with_reducible exact Below.refl _ _)|(with_reducible refine Below.alloc ?_ ?_ _)|(with_reducible refine Below.drew ?_)|(with_reducible refine below_drewN ?_ _)|(with_reducible refine Below.setCell ?_ ?_ _)|(with_reducible refine below_of (by assumption) ?_ ?_)|go_size))⟩
  unfold spkN
  rw[if_neg (by rw[HM.out];decide),if_neg (by rw[HM.out];decide),if_pos HM.out]
  unfold Spk.v specV
  simp only[Ending.returned.injEq,Value.agg.injEq]
  congr 1
  try simp
 ·have e3:m=3:=by omega
  subst e3
  go_enter Tryz.func27,Tryz.ntmps27
  go_wp2_with fail
  refine bodyPost_ret (by simp[results,Tryz.results27,go_sem, *];try rfl) rfl ?_
  refine⟨?_,by(repeat' (first|(with_reducible exact Below.refl _ _)|(with_reducible refine Below.alloc ?_ ?_ _)|(with_reducible refine Below.drew ?_)|(with_reducible refine below_drewN ?_ _)|(with_reducible refine Below.setCell ?_ ?_ _)|(with_reducible refine below_of (by assumption) ?_ ?_)|go_size))⟩
  unfold spkN
  rw[if_neg (by rw[HM.out];decide),if_neg (by rw[HM.out];decide),if_neg (by rw[HM.out];decide)]
  unfold Spk.v specV
  simp only[Ending.returned.injEq,Value.agg.injEq]
  congr 1
  try simp
end Go.Proofs.YtkiebccnpheloaaGreat.D
