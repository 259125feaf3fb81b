/- Parts of a proof: what its theorem reaches, words cut short. No condition of its own. -/
import Derived.Test.YtkiebccnpheloaaGreatPk50
import Derived.Test.YtkiebccnpheloaaGreatPk51
import Derived.Lib.SliceRun
set_option maxRecDepth 100000
set_option maxHeartbeats 16000000
set_option linter.unusedVariables false
set_option linter.unusedSimpArgs false
namespace Go.Proofs.YtkiebccnpheloaaGreat.D
open Go.RowKit Go.Lib Go.Shelf
theorem mD.down{sp:iM}{base o0:Nat}{S R:Nat->Js}{X Y:Nat->Nat}{Ow:Nat->Ft}{wb vb:Nat}{w:World}(h:mD sp base S R X Y Ow wb vb w)(hb:o0<=base):mD sp o0 S R X Y Ow wb vb w:=
 ⟨h.win,h.ref,h.ok,h.rok,h.uniq,fun a k e=>⟨bG hb (h.low a k e).1,(h.low a k e).2⟩,h.rw,h.rv,h.cw,h.cv⟩
def two(a b:Nat):Nat->Nat:=fun i=>if i=0 then a else b
def owS(F0 F1 F2 F3:Ft)(wb vb:Nat):Nat->Ft:=fun a k=>(a=0/\F0 k)\/(a=1/\F1 k)\/(a=2/\F2 k)\/(a=3/\F3 k)\/(a=4/\(k=wb\/k=vb))
theorem at1{F0 F1 F2 F3:Ft}{wb vb:Nat}:owS F0 F1 F2 F3 wb vb 0=F0/\owS F0 F1 F2 F3 wb vb 1=F1/\owS F0 F1 F2 F3 wb vb 2=F2/\owS F0 F1 F2 F3 wb vb 3=F3:=by
 refine⟨?_,?_,?_,?_⟩<;>funext k<;>unfold owS<;>simp
theorem VH{sp:iM}{base x0 x1 y0 y1 wb vb m1 m2 l2 u2 l3 u3:Nat}{F0 F1 F2 F3:Ft}{w:World}(ok:uX sp)
 (h0:iE sp sp.new x0 F0 w) (h1:iE sp sp.new x1 F1 w) (h2:gG sp sp.new y0 F2 w) (h3:gG sp sp.new y1 F3 w)
 (b0:∀k,F0 k->base<=k/\k<m1) (b1:∀k,F1 k->m1<=k/\k<m2) (b2:∀k,F2 k->l2<=k/\k<u2) (b3:∀k,F3 k->l3<=k/\k<u3) (bm:base<=m1) (bm2:m1<=m2) (c2:m2<=l2) (c3:m2<=l3) (cw:m2<=wb) (cv:m2<=vb)
 (d23:u2<=l3) (dw2:wb<l2\/u2<=wb) (dw3:wb<l3\/u3<=wb) (dv2:vb<l2\/u2<=vb) (dv3:vb<l3\/u3<=vb) (ew:wb<w.heap.size) (ev:vb<w.heap.size)
 (c0:w.cell? ⟨wb,0,none⟩=some (jF x0)) (c1:w.cell? ⟨wb,1,none⟩=some (jF x1)) (d0:w.cell? ⟨vb,0,none⟩=some (jF y0)) (d1:w.cell? ⟨vb,1,none⟩=some (jF y1)) :
 mD sp base (fun _=>sp.new) (fun _=>sp.new) (two x0 x1) (two y0 y1) (owS F0 F1 F2 F3 wb vb) wb vb w:=by
 have g0:=(fO sp _ _).low h0;have g1:=(fO sp _ _).low h1;have g2:=(iG sp _ _).low h2;have g3:=(iG sp _ _).low h3;obtain⟨e0,e1,e2,e3⟩:=@at1 F0 F1 F2 F3 wb vb;refine⟨fun i hi=>?_,fun i hi=>?_,fun i _=>En ok,fun i _=>En ok,fun a b k ha hb=>?_,fun a k e=>?_,.inr (.inr (.inr (.inr ⟨rfl,.inl rfl⟩))),.inr (.inr (.inr (.inr ⟨rfl,.inr rfl⟩))),fun i hi=>?_,fun i hi=>?_⟩
 ·rcases(by omega:i=0\/i=1) with rfl|rfl
  ·rw[e0];exact h0
  ·rw[e1];exact h1
 ·rcases(by omega:i=0\/i=1) with rfl|rfl
  ·show gG sp _ _ (owS F0 F1 F2 F3 wb vb 2) w
   rw[e2];exact h2
  ·show gG sp _ _ (owS F0 F1 F2 F3 wb vb 3) w
   rw[e3];exact h3
 ·have q0:=b0 k;have q1:=b1 k;have q2:=b2 k;have q3:=b3 k
  rcases ha with⟨ea,ha⟩|⟨ea,ha⟩|⟨ea,ha⟩|⟨ea,ha⟩|⟨ea,ha⟩<;>rcases hb with⟨eb,hb⟩|⟨eb,hb⟩|⟨eb,hb⟩|⟨eb,hb⟩|⟨eb,hb⟩<;>first
   | omega
   | (have p1:=q0 ha;have p2:=q1 hb;omega)
   | (have p1:=q0 ha;have p2:=q2 hb;omega)
   | (have p1:=q0 ha;have p2:=q3 hb;omega)
   | (have p1:=q0 ha;omega)
   | (have p1:=q1 ha;have p2:=q0 hb;omega)
   | (have p1:=q1 ha;have p2:=q2 hb;omega)
   | (have p1:=q1 ha;have p2:=q3 hb;omega)
   | (have p1:=q1 ha;omega)
   | (have p1:=q2 ha;have p2:=q0 hb;omega)
   | (have p1:=q2 ha;have p2:=q1 hb;omega)
   | (have p1:=q2 ha;have p2:=q3 hb;omega)
   | (have p1:=q2 ha;omega)
   | (have p1:=q3 ha;have p2:=q0 hb;omega)
   | (have p1:=q3 ha;have p2:=q1 hb;omega)
   | (have p1:=q3 ha;have p2:=q2 hb;omega)
   | (have p1:=q3 ha;omega)
   | (have p2:=q0 hb;omega)
   | (have p2:=q1 hb;omega)
   | (have p2:=q2 hb;omega)
   | (have p2:=q3 hb;omega)
 ·have q0:=b0 k;have q1:=b1 k;have q2:=b2 k;have q3:=b3 k
  rcases e with⟨_,e⟩|⟨_,e⟩|⟨_,e⟩|⟨_,e⟩|⟨_,e⟩
  ·have:=q0 e;have:=g0 k e;omega
  ·have:=q1 e;have:=g1 k e;omega
  ·have:=q2 e;have:=g2 k e;omega
  ·have:=q3 e;have:=g3 k e;omega
  ·omega
 ·rcases(by omega:i=0\/i=1) with rfl|rfl
  ·exact c0
  ·exact c1
 ·rcases(by omega:i=0\/i=1) with rfl|rfl
  ·exact d0
  ·exact d1
theorem yt{sp:iM}{kd lo hi dg ac sz:Int}{gr:Bool}(hv:sp.v=gu kd lo hi dg gr ac sz)(ok:uX sp)(w:World) :
 Calls Tryz.prog 26 #[gu kd lo hi dg gr ac sz] w fun e w'=>∃X Y Ow wb vb,e=.returned (.tuple #[.slice (some ⟨wb,0,none⟩) 2 2,.slice (some ⟨vb,0,none⟩) 2 2])/\mD sp w.heap.size (fun _=>sp.new) (fun _=>sp.new) X Y Ow wb vb w'/\Below w.heap.size w w':=by
 have CN:=aB (fun W=>Jf W ok)
 have CR:=aB (fun W=>Zy W ok)
 rw[hv] at CN CR;unfold gu at CN CR |-;have OK:=aB ok;clear hv ok;obtain⟨b,hbb⟩:∃b,w.heap.size=b:=⟨_,rfl⟩;obtain⟨wa,jM⟩:∃z,w.alloc (.cells #[.int .u8 kd,.int .i64 lo,.int .i64 hi,.int .i64 dg,.bool gr,.int .i64 ac,.int .i64 sz] 34)=z:=⟨_,rfl⟩;have ha:Below w.heap.size w wa:=by rw[<-jM];exact bw
 have hbl:dH wa b 34 #[.int .u8 kd,.int .i64 lo,.int .i64 hi,.int .i64 dg,.bool gr,.int .i64 ac,.int .i64 sz]:=by rw[<-jM,<-hbb];exact dH.new _ _ _
 have hza:wa.heap.size=b+1:=by rw[<-jM,<-hbb,aO]
 have f0:=hbl.cell 0;have f1:=hbl.cell 1;have f2:=hbl.cell 2;have f3:=hbl.cell 3;have f4:=hbl.cell 4;have f5:=hbl.cell 5;have f6:=hbl.cell 6;simp only[aF,aC,aG] at f0 f1 f2 f3 f4 f5 f6;have FF:=aB (aN f0 (aN f1 (aN f2 (aN f3 (aN f4 (aN f5 f6))))));have lb:=hbl.lt;have HB0:=aB ha;have o_:=aB hbb;have HZA:=aB hza;clear hbl
 go_enter Tryz.func26,Tryz.ntmps26
 go_upto_region 1 with fail;clear jM hbb hza
 go_wp2_with fail;refine(CN.out wa).mono ?_
 rintro e w1 ⟨x0,rfl,h0,hb1⟩;have H0:=aB h0;have B1:=aB hb1;clear h0 hb1 f0 f1 f2 f3 f4 f5 f6;have f0:w1.cell? ⟨b,0,none⟩=_:=(B1.out.cell (p:=⟨b,0,none⟩) lb).trans FF.out.1;have f1:w1.cell? ⟨b,1,none⟩=_:=(B1.out.cell (p:=⟨b,1,none⟩) lb).trans FF.out.2.1;have f2:w1.cell? ⟨b,2,none⟩=_:=(B1.out.cell (p:=⟨b,2,none⟩) lb).trans FF.out.2.2.1;have f3:w1.cell? ⟨b,3,none⟩=_:=(B1.out.cell (p:=⟨b,3,none⟩) lb).trans FF.out.2.2.2.1;have f4:w1.cell? ⟨b,4,none⟩=_:=(B1.out.cell (p:=⟨b,4,none⟩) lb).trans FF.out.2.2.2.2.1;have f5:w1.cell? ⟨b,5,none⟩=_:=(B1.out.cell (p:=⟨b,5,none⟩) lb).trans FF.out.2.2.2.2.2.1;have f6:w1.cell? ⟨b,6,none⟩=_:=(B1.out.cell (p:=⟨b,6,none⟩) lb).trans FF.out.2.2.2.2.2.2
 go_wp2_with fail;refine(CN.out w1).mono ?_
 rintro e w2 ⟨x1,rfl,h1,hb2⟩;have H1:=aB h1;have B2:=aB hb2;clear h1 hb2 f0 f1 f2 f3 f4 f5 f6;have l2:b<w2.heap.size:=by have:=B1.out.size;have:=B2.out.size;omega
 have GG:Hid (w2.cell? ⟨b,0,none⟩=_/\w2.cell? ⟨b,1,none⟩=_/\w2.cell? ⟨b,2,none⟩=_/\w2.cell? ⟨b,3,none⟩=_/\w2.cell? ⟨b,4,none⟩=_/\w2.cell? ⟨b,5,none⟩=_/\w2.cell? ⟨b,6,none⟩=_):=aB ⟨(B2.out.cell (p:=⟨b,0,none⟩) (aU lb B1.out.size)).trans ((B1.out.cell (p:=⟨b,0,none⟩) lb).trans FF.out.1),(B2.out.cell (p:=⟨b,1,none⟩) (aU lb B1.out.size)).trans ((B1.out.cell (p:=⟨b,1,none⟩) lb).trans FF.out.2.1),(B2.out.cell (p:=⟨b,2,none⟩) (aU lb B1.out.size)).trans ((B1.out.cell (p:=⟨b,2,none⟩) lb).trans FF.out.2.2.1),(B2.out.cell (p:=⟨b,3,none⟩) (aU lb B1.out.size)).trans ((B1.out.cell (p:=⟨b,3,none⟩) lb).trans FF.out.2.2.2.1),(B2.out.cell (p:=⟨b,4,none⟩) (aU lb B1.out.size)).trans ((B1.out.cell (p:=⟨b,4,none⟩) lb).trans FF.out.2.2.2.2.1),(B2.out.cell (p:=⟨b,5,none⟩) (aU lb B1.out.size)).trans ((B1.out.cell (p:=⟨b,5,none⟩) lb).trans FF.out.2.2.2.2.2.1),(B2.out.cell (p:=⟨b,6,none⟩) (aU lb B1.out.size)).trans ((B1.out.cell (p:=⟨b,6,none⟩) lb).trans FF.out.2.2.2.2.2.2)⟩;have FIN:Hid (∀(wx:World) (wb vb y0 y1:Nat) (F2 F3:Ft) (l2 u2 l3 u3:Nat),Below w2.heap.size w2 wx->gG sp sp.new y0 F2 wx->gG sp sp.new y1 F3 wx->(∀k,F2 k->l2<=k/\k<u2)->(∀k,F3 k->l3<=k/\k<u3)->w2.heap.size<=l2->w2.heap.size<=l3->w2.heap.size<=wb->w2.heap.size<=vb->u2<=l3->(wb<l2\/u2<=wb)->(wb<l3\/u3<=wb)->(vb<l2\/u2<=vb)->(vb<l3\/u3<=vb)->wb<wx.heap.size->vb<wx.heap.size ->
  wx.cell? ⟨wb,0,none⟩=some (jF x0)->wx.cell? ⟨wb,1,none⟩=some (jF x1)->wx.cell? ⟨vb,0,none⟩=some (jF y0)->wx.cell? ⟨vb,1,none⟩=some (jF y1) ->
  ∃X Y Ow wb' vb',Ending.returned (.tuple #[.slice (some ⟨wb,0,none⟩) 2 2,.slice (some ⟨vb,0,none⟩) 2 2])=.returned (.tuple #[.slice (some ⟨wb',0,none⟩) 2 2,.slice (some ⟨vb',0,none⟩) 2 2])/\mD sp w.heap.size (fun _=>sp.new) (fun _=>sp.new) X Y Ow wb' vb' wx/\Below w.heap.size w wx):=aB (fun wx wb vb y0 y1 F2 F3 l2 u2 l3 u3 hb h2 h3 b2 b3 c2 c3 cw cv d23 dw2 dw3 dv2 dv3 ew ev p0 p1 p2 p3=>by
  have s0:=HB0.out.size;have s1:=B1.out.size;have s2:=B2.out.size;have a16:Below w1.heap.size w1 wx:=B2.out.trans (hb.mono s2);have hD:=VH OK.out ((fO sp _ _).keep H0.out a16) ((fO sp _ _).keep H1.out hb) h2 h3 (base:=wa.heap.size) (m1:=w1.heap.size) (m2:=w2.heap.size) (wb:=wb) (vb:=vb) (fun k e=>e.elim False.elim id) (fun k e=>e.elim False.elim id) b2 b3 s1 s2 c2 c3 cw cv d23 dw2 dw3 dv2 dv3 ew ev p0 p1 p2 p3
  exact⟨_,_,_,_,_,rfl,hD.down s0,HB0.out.trans ((B1.out.trans (a16.mono s1)).mono s0)⟩)
 have TD:Below w2.heap.size w2 w2.drew:=(aH _ _).drew
 go_upto_region 5 with fail;have lS:=aB (fun w' (hS':(fun w'=>Below w2.heap.size w2 w') w')=>(aN ((hS'.cell (p:=⟨b,0,none⟩) l2).trans GG.out.1) (aN ((hS'.cell (p:=⟨b,1,none⟩) l2).trans GG.out.2.1) (aN ((hS'.cell (p:=⟨b,2,none⟩) l2).trans GG.out.2.2.1) (aN ((hS'.cell (p:=⟨b,3,none⟩) l2).trans GG.out.2.2.2.1) (aN ((hS'.cell (p:=⟨b,4,none⟩) l2).trans GG.out.2.2.2.2.1) (aN ((hS'.cell (p:=⟨b,5,none⟩) l2).trans GG.out.2.2.2.2.2.1) ((hS'.cell (p:=⟨b,6,none⟩) l2).trans GG.out.2.2.2.2.2.2))))))))
 refine oM (fun w'=>Below w2.heap.size w2 w') (.rd 0 (.rd 1 (.rd 3 (.rd 5 (.two 2 4 (.ef 4 (.ef 6 (.rd 8 (.ef 7 (.rd 9 .nil))))) (.two 2 6 (.ef 6 (.rd 8 (.ef 7 (.rd 9 .nil)))) (.two 2 7 (.rd 8 (.ef 7 (.rd 9 .nil))) (.ef 2 (.rd 8 (.rd 9 .nil)))))))))) (by kernel_rfl) (by kernel_rfl) ((aH _ _).drew) ?_
 iterate 4
  refine fK ax  ax (fun R hR=>?_)
  apply aJ
  refine⟨fun w' hS'=>?_,?_⟩
  ·obtain⟨f0,f1,f2,f3,f4,f5,f6⟩:=lS.out w' hS'
   go_simp;exact⟨rfl,rfl⟩
  go_simp;refine hR _ ?_;clear hR R
 refine qK ax  ax  ax  ax (fun K hK=>?_) (fun K hK=>?_)
 go_simp;have TW:Below w2.heap.size w2 _:=TD.alloc TD.size (.cells #[.pointer (some ⟨x0,0,none⟩),.pointer (some ⟨x1,0,none⟩)] 24);refine hK _ _ (TW) ?_
 clear hK K;refine iT ax  ax (fun K hK=>?_)
 go_simp;refine(CR.out _).mono ?_
 rintro e w4 ⟨y0,rfl,h2,hb4⟩;have T4:Below w2.heap.size w2 w4:=TW.trans (hb4.mono TW.size);refine hK _ _ (T4) ?_
 clear hK K;refine iT ax  ax (fun K hK=>?_)
 go_simp;refine(CR.out _).mono ?_
 rintro e w5 ⟨y1,rfl,h3,hb5⟩;have T5:Below w2.heap.size w2 w5:=T4.trans (hb5.mono T4.size);refine hK _ _ (T5) ?_
 clear hK K
 iterate 1
  refine fK ax  ax (fun R hR=>?_)
  apply aJ
  refine⟨fun w' hS'=>?_,?_⟩
  ·obtain⟨f0,f1,f2,f3,f4,f5,f6⟩:=lS.out w' hS'
   go_simp;exact⟨rfl,rfl⟩
  go_simp;refine hR _ ?_;clear hR R
 refine iT ax  ax (fun K hK=>?_)
 go_simp;have TV:Below w2.heap.size w2 _:=T5.alloc T5.size (.cells #[.pointer (some ⟨y0,0,none⟩),.pointer (some ⟨y1,0,none⟩)] 41);refine hK _ _ (TV) ?_
 clear hK K
 iterate 1
  refine fK ax  ax (fun R hR=>?_)
  apply aJ
  refine⟨fun w' hS'=>?_,?_⟩
  ·obtain⟨f0,f1,f2,f3,f4,f5,f6⟩:=lS.out w' hS'
   go_simp;exact⟨rfl,rfl⟩
  go_simp;refine hR _ ?_;clear hR R
 refine kN ?_
 rotate_left
 go_simp;refine(CR.out _).mono ?_
 rintro e w4 ⟨y0,rfl,h2,hb4⟩;have T4:Below w2.heap.size w2 w4:=TD.trans (hb4.mono TD.size);refine hK _ _ (T4) ?_
 clear hK K;refine qK ax  ax  ax  ax (fun K hK=>?_) (fun K hK=>?_)
 go_simp;have TW:Below w2.heap.size w2 _:=T4.alloc T4.size (.cells #[.pointer (some ⟨x0,0,none⟩),.pointer (some ⟨x1,0,none⟩)] 24);refine hK _ _ (TW) ?_
 clear hK K;refine iT ax  ax (fun K hK=>?_)
 go_simp;refine(CR.out _).mono ?_
 rintro e w5 ⟨y1,rfl,h3,hb5⟩;have T5:Below w2.heap.size w2 w5:=TW.trans (hb5.mono TW.size);refine hK _ _ (T5) ?_
 clear hK K
 iterate 1
  refine fK ax  ax (fun R hR=>?_)
  apply aJ
  refine⟨fun w' hS'=>?_,?_⟩
  ·obtain⟨f0,f1,f2,f3,f4,f5,f6⟩:=lS.out w' hS'
   go_simp;exact⟨rfl,rfl⟩
  go_simp;refine hR _ ?_;clear hR R
 refine iT ax  ax (fun K hK=>?_)
 go_simp;have TV:Below w2.heap.size w2 _:=T5.alloc T5.size (.cells #[.pointer (some ⟨y0,0,none⟩),.pointer (some ⟨y1,0,none⟩)] 41);refine hK _ _ (TV) ?_
 clear hK K
 iterate 1
  refine fK ax  ax (fun R hR=>?_)
  apply aJ
  refine⟨fun w' hS'=>?_,?_⟩
  ·obtain⟨f0,f1,f2,f3,f4,f5,f6⟩:=lS.out w' hS'
   go_simp;exact⟨rfl,rfl⟩
  go_simp;refine hR _ ?_;clear hR R
 refine kN ?_
 rotate_left
 go_simp;refine(CR.out _).mono ?_
 rintro e w5 ⟨y1,rfl,h3,hb5⟩;have T5:Below w2.heap.size w2 w5:=T4.trans (hb5.mono T4.size);refine hK _ _ (T5) ?_
 clear hK K;refine qK ax  ax  ax  ax (fun K hK=>?_) (fun K hK=>?_)
 go_simp;have TW:Below w2.heap.size w2 _:=T5.alloc T5.size (.cells #[.pointer (some ⟨x0,0,none⟩),.pointer (some ⟨x1,0,none⟩)] 24);refine hK _ _ (TW) ?_
 clear hK K
 iterate 1
  refine fK ax  ax (fun R hR=>?_)
  apply aJ
  refine⟨fun w' hS'=>?_,?_⟩
  ·obtain⟨f0,f1,f2,f3,f4,f5,f6⟩:=lS.out w' hS'
   go_simp;exact⟨rfl,rfl⟩
  go_simp;refine hR _ ?_;clear hR R
 refine iT ax  ax (fun K hK=>?_)
 go_simp;have TV:Below w2.heap.size w2 _:=TW.alloc TW.size (.cells #[.pointer (some ⟨y0,0,none⟩),.pointer (some ⟨y1,0,none⟩)] 41);refine hK _ _ (TV) ?_
 clear hK K
 iterate 1
  refine fK ax  ax (fun R hR=>?_)
  apply aJ
  refine⟨fun w' hS'=>?_,?_⟩
  ·obtain⟨f0,f1,f2,f3,f4,f5,f6⟩:=lS.out w' hS'
   go_simp;exact⟨rfl,rfl⟩
  go_simp;refine hR _ ?_;clear hR R
 refine kN ?_
 rotate_left
 go_simp;have TV:Below w2.heap.size w2 _:=T5.alloc T5.size (.cells #[.pointer (some ⟨y0,0,none⟩),.pointer (some ⟨y1,0,none⟩)] 41);refine hK _ _ (TV) ?_
 clear hK K;refine iT ax  ax (fun K hK=>?_)
 go_simp;have TW:Below w2.heap.size w2 _:=TV.alloc TV.size (.cells #[.pointer (some ⟨x0,0,none⟩),.pointer (some ⟨x1,0,none⟩)] 24);refine hK _ _ (TW) ?_
 clear hK K
 iterate 2
  refine fK ax  ax (fun R hR=>?_)
  apply aJ
  refine⟨fun w' hS'=>?_,?_⟩
  ·obtain⟨f0,f1,f2,f3,f4,f5,f6⟩:=lS.out w' hS'
   go_simp;exact⟨rfl,rfl⟩
  go_simp;refine hR _ ?_;clear hR R
 refine kN ?_
 all_goals try refine dO ?_
 ·go_wp2_with fail
  refine bodyPost_ret (by simp[results,Tryz.results26,go_sem, *];try rfl) rfl ?_
  have k6:=dH.new w5 41 #[.pointer (some ⟨y0,0,none⟩),.pointer (some ⟨y1,0,none⟩)];have t4:Below w5.heap.size w5 (w5.alloc (.cells #[.pointer (some ⟨y0,0,none⟩),.pointer (some ⟨y1,0,none⟩)] 41)):=(aH _ _).alloc (aK _) _;have z3:(w5.alloc (.cells #[.pointer (some ⟨y0,0,none⟩),.pointer (some ⟨y1,0,none⟩)] 41)).heap.size=w5.heap.size+1:=ag
  have k3:=dH.new (w5.alloc (.cells #[.pointer (some ⟨y0,0,none⟩),.pointer (some ⟨y1,0,none⟩)] 41)) 24 #[.pointer (some ⟨x0,0,none⟩),.pointer (some ⟨x1,0,none⟩)];have t6:Below (w5.alloc (.cells #[.pointer (some ⟨y0,0,none⟩),.pointer (some ⟨y1,0,none⟩)] 41)).heap.size (w5.alloc (.cells #[.pointer (some ⟨y0,0,none⟩),.pointer (some ⟨y1,0,none⟩)] 41)) ((w5.alloc (.cells #[.pointer (some ⟨y0,0,none⟩),.pointer (some ⟨y1,0,none⟩)] 41)).alloc (.cells #[.pointer (some ⟨x0,0,none⟩),.pointer (some ⟨x1,0,none⟩)] 24)):=(aH _ _).alloc (aK _) _;rw[z3] at k3;have z6:((w5.alloc (.cells #[.pointer (some ⟨y0,0,none⟩),.pointer (some ⟨y1,0,none⟩)] 41)).alloc (.cells #[.pointer (some ⟨x0,0,none⟩),.pointer (some ⟨x1,0,none⟩)] 24)).heap.size=w5.heap.size+2:=ag
  have s4:=hb4.size;have s5:=hb5.size;have e2:w2.drew.heap.size=w2.heap.size:=rfl;have kb:=t4.trans (t6.mono t4.size);exact FIN.out _ _ _ _ _ _ _ w2.drew.heap.size w4.heap.size w4.heap.size w5.heap.size (T5.trans (kb.mono T5.size)) ((iG sp _ _).keep h2 (hb5.trans (kb.mono s5))) ((iG sp _ _).keep h3 kb) (fun k e=>e.elim False.elim id) (fun k e=>e.elim False.elim id) ae  ae  ae  ae  ae (.inr ae) (.inr ae) (.inr ae) (.inr ae) ae  ae (k3.cell 0) (k3.cell 1) ((t6.cell (p:=⟨w5.heap.size,0,none⟩) (by show w5.heap.size<_;omega)).trans (k6.cell 0)) ((t6.cell (p:=⟨w5.heap.size,1,none⟩) (by show w5.heap.size<_;omega)).trans (k6.cell 1))
 ·go_wp2_with fail
  refine bodyPost_ret (by simp[results,Tryz.results26,go_sem, *];try rfl) rfl ?_
  have k3:=(dH.new w2 24 #[.pointer (some ⟨x0,0,none⟩),.pointer (some ⟨x1,0,none⟩)]).drew;obtain⟨w3,hw3⟩:∃q,(w2.alloc (.cells #[.pointer (some ⟨x0,0,none⟩),.pointer (some ⟨x1,0,none⟩)] 24)).drew=q:=⟨_,rfl⟩;have z3:w3.heap.size=w2.heap.size+1:=by rw[<-hw3];simp
  rw[hw3] at k3 h2 hb4;have k6:=dH.new w5 41 #[.pointer (some ⟨y0,0,none⟩),.pointer (some ⟨y1,0,none⟩)];have t6:Below w5.heap.size w5 (w5.alloc (.cells #[.pointer (some ⟨y0,0,none⟩),.pointer (some ⟨y1,0,none⟩)] 41)):=(aH _ _).alloc (aK _) _;have z6:(w5.alloc (.cells #[.pointer (some ⟨y0,0,none⟩),.pointer (some ⟨y1,0,none⟩)] 41)).heap.size=w5.heap.size+1:=ag
  have s4:=hb4.size;have s5:=hb5.size;have kb:=hb4.trans ((hb5.trans (t6.mono s5)).mono s4);exact FIN.out _ _ _ _ _ _ _ w3.heap.size w4.heap.size w4.heap.size w5.heap.size (T5.trans (t6.mono T5.size)) ((iG sp _ _).keep h2 (hb5.trans (t6.mono s5))) ((iG sp _ _).keep h3 t6) (fun k e=>e.elim False.elim id) (fun k e=>e.elim False.elim id) ae  ae (aK _) ae (aK _) (.inl ae) (.inl ae) (.inr ae) (.inr ae) ae  ae ((kb.cell (p:=⟨w2.heap.size,0,none⟩) (by show w2.heap.size<_;omega)).trans (k3.cell 0)) ((kb.cell (p:=⟨w2.heap.size,1,none⟩) (by show w2.heap.size<_;omega)).trans (k3.cell 1)) (k6.cell 0) (k6.cell 1)
 ·go_wp2_with fail
  refine bodyPost_ret (by simp[results,Tryz.results26,go_sem, *];try rfl) rfl ?_
  have k3:=dH.new w4 24 #[.pointer (some ⟨x0,0,none⟩),.pointer (some ⟨x1,0,none⟩)];have t4:Below w4.heap.size w4 (w4.alloc (.cells #[.pointer (some ⟨x0,0,none⟩),.pointer (some ⟨x1,0,none⟩)] 24)):=(aH _ _).alloc (aK _) _;obtain⟨w3,hw3⟩:∃q,w4.alloc (.cells #[.pointer (some ⟨x0,0,none⟩),.pointer (some ⟨x1,0,none⟩)] 24)=q:=⟨_,rfl⟩;have z3:w3.heap.size=w4.heap.size+1:=by rw[<-hw3];simp
  rw[hw3] at k3 h3 hb5 t4;have k6:=dH.new w5 41 #[.pointer (some ⟨y0,0,none⟩),.pointer (some ⟨y1,0,none⟩)];have t6:Below w5.heap.size w5 (w5.alloc (.cells #[.pointer (some ⟨y0,0,none⟩),.pointer (some ⟨y1,0,none⟩)] 41)):=(aH _ _).alloc (aK _) _;have z6:(w5.alloc (.cells #[.pointer (some ⟨y0,0,none⟩),.pointer (some ⟨y1,0,none⟩)] 41)).heap.size=w5.heap.size+1:=ag
  have s4:=hb4.size;have s5:=hb5.size;have e2:w2.drew.heap.size=w2.heap.size:=rfl;have kb:=hb5.trans (t6.mono s5);exact FIN.out _ _ _ _ _ _ _ w2.drew.heap.size w4.heap.size w3.heap.size w5.heap.size (T5.trans (t6.mono T5.size)) ((iG sp _ _).keep h2 (t4.trans (kb.mono t4.size))) ((iG sp _ _).keep h3 t6) (fun k e=>e.elim False.elim id) (fun k e=>e.elim False.elim id) ae  ae  ae  ae  ae (.inr ae) (.inl ae) (.inr ae) (.inr ae) ae  ae ((kb.cell (p:=⟨w4.heap.size,0,none⟩) (by show w4.heap.size<_;omega)).trans (k3.cell 0)) ((kb.cell (p:=⟨w4.heap.size,1,none⟩) (by show w4.heap.size<_;omega)).trans (k3.cell 1)) (k6.cell 0) (k6.cell 1)
 ·go_wp2_with fail
  refine bodyPost_ret (by simp[results,Tryz.results26,go_sem, *];try rfl) rfl ?_
  have k3:=dH.new w5 24 #[.pointer (some ⟨x0,0,none⟩),.pointer (some ⟨x1,0,none⟩)];have t4:Below w5.heap.size w5 (w5.alloc (.cells #[.pointer (some ⟨x0,0,none⟩),.pointer (some ⟨x1,0,none⟩)] 24)):=(aH _ _).alloc (aK _) _;have z3:(w5.alloc (.cells #[.pointer (some ⟨x0,0,none⟩),.pointer (some ⟨x1,0,none⟩)] 24)).heap.size=w5.heap.size+1:=ag
  have k6:=dH.new (w5.alloc (.cells #[.pointer (some ⟨x0,0,none⟩),.pointer (some ⟨x1,0,none⟩)] 24)) 41 #[.pointer (some ⟨y0,0,none⟩),.pointer (some ⟨y1,0,none⟩)];have t6:Below (w5.alloc (.cells #[.pointer (some ⟨x0,0,none⟩),.pointer (some ⟨x1,0,none⟩)] 24)).heap.size (w5.alloc (.cells #[.pointer (some ⟨x0,0,none⟩),.pointer (some ⟨x1,0,none⟩)] 24)) ((w5.alloc (.cells #[.pointer (some ⟨x0,0,none⟩),.pointer (some ⟨x1,0,none⟩)] 24)).alloc (.cells #[.pointer (some ⟨y0,0,none⟩),.pointer (some ⟨y1,0,none⟩)] 41)):=(aH _ _).alloc (aK _) _;rw[z3] at k6;have z6:((w5.alloc (.cells #[.pointer (some ⟨x0,0,none⟩),.pointer (some ⟨x1,0,none⟩)] 24)).alloc (.cells #[.pointer (some ⟨y0,0,none⟩),.pointer (some ⟨y1,0,none⟩)] 41)).heap.size=w5.heap.size+2:=ag
  have s4:=hb4.size;have s5:=hb5.size;have e2:w2.drew.heap.size=w2.heap.size:=rfl;have kb:=t4.trans (t6.mono t4.size);exact FIN.out _ _ _ _ _ _ _ w2.drew.heap.size w4.heap.size w4.heap.size w5.heap.size (T5.trans (kb.mono T5.size)) ((iG sp _ _).keep h2 (hb5.trans (kb.mono s5))) ((iG sp _ _).keep h3 kb) (fun k e=>e.elim False.elim id) (fun k e=>e.elim False.elim id) ae  ae  ae  ae  ae (.inr ae) (.inr ae) (.inr ae) (.inr ae) ae  ae ((t6.cell (p:=⟨w5.heap.size,0,none⟩) (by show w5.heap.size<_;omega)).trans (k3.cell 0)) ((t6.cell (p:=⟨w5.heap.size,1,none⟩) (by show w5.heap.size<_;omega)).trans (k3.cell 1)) (k6.cell 0) (k6.cell 1)
theorem Qr{sp:iM}(ok:uX sp)(w:World) :
 Calls Tryz.prog 26 #[sp.v] w fun e w'=>∃X Y Ow wb vb,e=.returned (.tuple #[.slice (some ⟨wb,0,none⟩) 2 2,.slice (some ⟨vb,0,none⟩) 2 2])/\mD sp w.heap.size (fun _=>sp.new) (fun _=>sp.new) X Y Ow wb vb w'/\Below w.heap.size w w':=by
 cases sp with
 | h lo hi dg u m gr=>exact yt rfl ok w
 | d a m=>exact yt rfl ok w
 | t d=>exact yt rfl ok w
 | k q=>exact yt rfl ok w
open Go.RowKit Go.Lib Go.Shelf
def Jg(kind a b:Nat)(gr:Bool):iM:=
 if kind % 4=0 then .h (1+a % 50) (2 * (1+a % 50)+b) (1+a % 3) (Lib.bitLen (1+a % 50) - 1) (Lib.bitLen (2 * 10 ^ (1+a % 3) - 1)) gr
 else if kind % 4=1 then .d (500+a % 46 * 100) (2+b % 20)
 else if kind % 4=2 then .t (10+a % 30)
 else .k (8+a % 30)
theorem ah3{kind a b:Nat}{gr:Bool}(hb:b<=65535):uX (Jg kind a b gr)/\(Jg kind a b gr).small:=by
 unfold Jg
 split
 ·have h1:Lib.bitLen (1+a % 50)<=6:=(v_ ae).2 ae
  have h2:=IC (dg:=1+a % 3) ae
  exact⟨⟨by omega,ae,ae,ae,ae,rfl,rfl,ae⟩,trivial⟩
 ·split
  ·exact⟨⟨by omega,ae,ae,ae⟩,trivial⟩
  ·split
   ·exact⟨⟨by omega,ae⟩,by show 10+a % 30<=300;omega⟩
   ·exact⟨⟨by omega,ae⟩,trivial⟩
open Go.RowKit Go.Lib Go.Shelf
theorem Qs(kind a b:Nat)(gr:Bool)(w:World)(hk:kind<=255)(ha:a<=65535)(hb:b<=65535) :
 Calls Tryz.prog 27 #[.int .u8 kind,.int .u16 a,.int .u16 b,.bool gr] w fun e w'=>e=.returned (Jg kind a b gr).v/\Below w.heap.size w w':=by
 have hmod:((kind:Int) % 4)=((kind % 4:Nat):Int):=ae
 obtain⟨m,hm⟩:∃m,kind % 4=m:=⟨_,rfl⟩;have hm4:m<4:=ae
 have HM:=aB hm;rw[hm] at hmod;clear hm
 by_cases e0:m=0
 ·subst e0
  go_enter Tryz.func27,Tryz.ntmps27
  go_wp2_with fail;refine bodyPost_ret (by simp[results,Tryz.results27,go_sem, *];try rfl) rfl ?_
  refine⟨?_,bw⟩
  unfold Jg;rw[if_pos HM.out];unfold iM.v gu;simp only[Ending.returned.injEq,Value.agg.injEq]
  congr 1
  try simp
 by_cases e1:m=1
 ·subst e1
  go_enter Tryz.func27,Tryz.ntmps27
  go_wp2_with fail;refine bodyPost_ret (by simp[results,Tryz.results27,go_sem, *];try rfl) rfl ?_
  refine⟨?_,bw⟩
  unfold Jg;rw[if_neg (by rw[HM.out];decide),if_pos HM.out]
  unfold iM.v gu;simp only[Ending.returned.injEq,Value.agg.injEq]
  congr 1
  try simp
 by_cases e2:m=2
 ·subst e2
  go_enter Tryz.func27,Tryz.ntmps27
  go_wp2_with fail;refine bodyPost_ret (by simp[results,Tryz.results27,go_sem, *];try rfl) rfl ?_
  refine⟨?_,bw⟩
  unfold Jg;rw[if_neg (by rw[HM.out];decide),if_neg (by rw[HM.out];decide),if_pos HM.out]
  unfold iM.v gu;simp only[Ending.returned.injEq,Value.agg.injEq]
  congr 1
  try simp
 ·have e3:m=3:=ae
  subst e3
  go_enter Tryz.func27,Tryz.ntmps27
  go_wp2_with fail;refine bodyPost_ret (by simp[results,Tryz.results27,go_sem, *];try rfl) rfl ?_
  refine⟨?_,bw⟩
  unfold Jg;rw[if_neg (by rw[HM.out];decide),if_neg (by rw[HM.out];decide),if_neg (by rw[HM.out];decide)]
  unfold iM.v gu;simp only[Ending.returned.injEq,Value.agg.injEq]
  congr 1
  try simp
open Go.RowKit Go.Lib Go.Shelf
theorem Nq(kind a b:Nat)(gr:Bool)(v4:Value)(l:List I4)(W:World)(hk:kind<=255)(ha:a<=65535)(hb:b<=65535)(hl:Jc W.heap.size W v4 l)(hf:∀o∈l,o.fits) :
 Calls Tryz.prog 5 #[.int .u8 kind,.int .u16 a,.int .u16 b,.bool gr,v4] W fun e W'=>e=.returned (.bool true)/\Below W.heap.size W W':=by
 obtain⟨hz,A,c,rfl,hc1,hc2,hof⟩:=hl;have HL:Hid (Jc W.heap.size W (.slice A l.length c) l):=aB ⟨hz,A,c,rfl,hc1,hc2,hof⟩;have HF:=aB hf;have hsp:=ah3 (kind:=kind) (a:=a) (b:=b) (gr:=gr) hb;have CS:=aB (fun w=>Qs kind a b gr w hk ha hb)
 obtain⟨sp,bc6⟩:∃q,Jg kind a b gr=q:=⟨_,rfl⟩;rw[bc6] at hsp CS;obtain⟨oks,hsm⟩:=hsp;have CA:=aB (Nh W);have CG:=aB (fun w (h:Below W.heap.size W w)=>MQ w (HL.out.keep h))
 have CP:=aB (fun w=>Qr oks w)
 have OKS:=aB oks;have HSM:=aB hsm;clear hof hf bc6 oks hsm;have hnil:=fun(w:World) (g:Nat)=>Go.Lib.run_eql_slice_nil (P:=Tryz.prog) w 47 24 (some ⟨g,0,none⟩) 2 2 0 0 Tryz.underlying47
 go_enter Tryz.func5,Tryz.ntmps5
 go_wp2_with fail;refine(CA.out).mono ?_
 rintro e w1 ⟨rfl,hb1⟩;have B1:=aB hb1;clear hb1 CA
 go_wp2_with fail;refine(CG.out w1 B1.out).mono ?_
 rintro e w2 ⟨⟨g,rfl,hg⟩,hb2⟩;have B2:Hid (Below W.heap.size W w2):=aB (B1.out.trans (hb2.mono B1.out.size));have HG:=aB hg;clear hb2 hg CG
 cases g with
 | true=>
  go_wp2_with fail;refine bodyPost_ret (by simp[results,Tryz.results5,go_sem, *];try rfl) rfl ?_
  exact⟨rfl,B2.out⟩
 | false=>
  go_wp2_with fail;refine(CS.out w2).mono ?_
  rintro e w3 ⟨rfl,hb3⟩;have B3:Hid (Below W.heap.size W w3):=aB (B2.out.trans (hb3.mono B2.out.size));clear hb3 CS
  go_wp2_with fail;refine(CP.out w3).mono ?_
  rintro e w4 ⟨X,Y,Ow,wb,vb,rfl,hd,hb4⟩;have L4:Hid (VV W sp (zY sp l (fun _=>sp.new) 0) X Y wb vb w4):=aB ⟨⟨Ow,hd.down B3.out.size⟩,B3.out.trans (hb4.mono B3.out.size)⟩
  clear hd hb4 CP B1 B2 B3
  go_wp2_with fail
  go_loopg [13] (l.length) (fun q t13 wr=>∃i:Nat,q=l.length - i/\i<=l.length/\i<=30/\t13=.int .i64 (i:Int)/\Hid (VV W sp (zY sp l (fun _=>sp.new) i) X Y wb vb wr))
  case atStart=>exact⟨0,ae,ae,ae,rfl,L4⟩
  case round=>
   obtain⟨i,hq,hi,hi2,rfl,HP⟩:=hrel;have HQ:=aB hq;clear hq L4
   by_cases hgo:i<l.length/\i<30
   ·obtain⟨hlt,h25⟩:=hgo
    have ZI:(i:Int)<(l.length:Int):=ae
    have h2i:(i:Int)<30:=ae
    obtain⟨g,off,cv,rfl,hg,hin,c0,c1,c2,c3,c4⟩:=HL.out.act hlt;have CC:=aB (aN c0 (aN c1 (aN c2 (aN c3 c4))));have DN:Hid (zY sp l (fun _=>sp.new) (i+1)=doJ sp l[i] (zY sp l (fun _=>sp.new) i)):=aB (by
     rw[zY,List.getD_eq_getElem?_getD,aY hlt,Option.getD_some])
    have CD:=aB (fun w' (hp:VV W sp (zY sp l (fun _=>sp.new) i) X Y wb vb w')=>hp.act l[i] OKS.out HSM.out (HF.out _ (bu hlt)) (hin.keep (aK _) hp.below) (HG.out (by first|rfl|trivial) i ae hlt))
    rw[<-DN.out] at CD;obtain⟨_,_,_,p0,q0,lw,lv⟩:=HP.out.win (i:=0) af
    obtain⟨_,_,_,p1,q1,_,_⟩:=HP.out.win (i:=1) af
    have PQ:=aB (aN p0 (aN q0 (aN p1 q1)));have C2:=aB (fun w' j (hj:j<2) (hp:VV W sp (zY sp l (fun _=>sp.new) (i+1)) X Y wb vb w')=>(show Calls Tryz.prog 23 #[.pointer (some ⟨X j,0,none⟩),.pointer (some ⟨Y j,0,none⟩)] w' (fun e w''=>e=.returned (.bool true)/\Below w'.heap.size w' w'') by
     obtain⟨⟨F,h1⟩,⟨G,h2⟩,h3,_⟩:=hp.win hj;exact Qk w' h1 h2 h3))
    clear c0 c1 c2 c3 c4 hin p0 q0 p1 q1 DN;generalize l[i].kd=okd at *;generalize l[i].who=bp3 at *;generalize l[i].v=ov at *;generalize l[i].n=onn at *
    go_upto_region 11 with fail;have lS:=aB (fun w' (hS':(fun w'=>Below W.heap.size W w'/\w'.cell? ⟨wb,0,none⟩=some (.pointer (some ⟨X 0,0,none⟩))/\w'.cell? ⟨vb,0,none⟩=some (.pointer (some ⟨Y 0,0,none⟩))/\w'.cell? ⟨wb,1,none⟩=some (.pointer (some ⟨X 1,0,none⟩))/\w'.cell? ⟨vb,1,none⟩=some (.pointer (some ⟨Y 1,0,none⟩))) w')=>(aN (hS'.2.1) (aN (hS'.2.2.1) (aN (hS'.2.2.2.1) (aN (hS'.2.2.2.2) (aN ((hS'.1.cell (p:=⟨g,off+i * 5,none⟩) hg).trans CC.out.1) (aN ((hS'.1.cell (p:=⟨g,off+i * 5+1,none⟩) hg).trans CC.out.2.1) (aN ((hS'.1.cell (p:=⟨g,off+i * 5+2,none⟩) hg).trans CC.out.2.2.1) (aN ((hS'.1.cell (p:=⟨g,off+i * 5+3,none⟩) hg).trans CC.out.2.2.2.1) ((hS'.1.cell (p:=⟨g,off+i * 5+4,none⟩) hg).trans CC.out.2.2.2.2))))))))))
    refine dD (fun w'=>Below W.heap.size W w'/\w'.cell? ⟨wb,0,none⟩=some (.pointer (some ⟨X 0,0,none⟩))/\w'.cell? ⟨vb,0,none⟩=some (.pointer (some ⟨Y 0,0,none⟩))/\w'.cell? ⟨wb,1,none⟩=some (.pointer (some ⟨X 1,0,none⟩))/\w'.cell? ⟨vb,1,none⟩=some (.pointer (some ⟨Y 1,0,none⟩))) [(0,true),(1,true),(2,true),(3,true),(4,true),(5,true),(6,false),(7,true),(8,true),(9,true),(10,true),(11,true),(12,true),(13,true),(14,true),(15,false),(16,true),(17,true),(18,true),(19,true),(20,true),(21,true),(22,true),(23,true),(24,true),(25,false),(26,true),(27,true)] (by kernel_rfl) (by kernel_rfl) (⟨HP.out.below.drew,PQ.out.1,PQ.out.2.1,PQ.out.2.2.1,PQ.out.2.2.2⟩) ?_
    iterate 6
     refine dC ax  ax (fun R hR=>?_)
     apply aJ
     refine⟨fun w' hS'=>?_,?_⟩
     ·obtain⟨z0,z1,z2,z3,c0,c1,c2,c3,c4⟩:=lS.out w' hS'
      go_simp;exact⟨rfl,rfl⟩
     go_simp;refine hR _ ?_;clear hR R
    refine dE ax  ax (fun K hK=>?_)
    go_simp;refine(CD.out _ (HP.out.keep (aH _ _).drew)).mono ?_
    rintro e w6 ⟨rfl,hp6⟩;have P6:=aB hp6;have S6:=aB (aN P6.out.below (aN (P6.out.win (i:=0) af).2.2.2.1 (aN (P6.out.win (i:=0) af).2.2.2.2.1 (aN (P6.out.win (i:=1) af).2.2.2.1 (P6.out.win (i:=1) af).2.2.2.2.1))))
    clear hp6;refine hK _ _ (S6.out) ?_
    clear hK K
    iterate 8
     refine dC ax  ax (fun R hR=>?_)
     apply aJ
     refine⟨fun w' hS'=>?_,?_⟩
     ·obtain⟨z0,z1,z2,z3,c0,c1,c2,c3,c4⟩:=lS.out w' hS'
      go_simp;exact⟨rfl,rfl⟩
     go_simp;refine hR _ ?_;clear hR R
    refine dE ax  ax (fun K hK=>?_)
    go_simp;refine(C2.out w6 0 af P6.out).mono ?_
    rintro e w7 ⟨rfl,hb7⟩;have P7:=aB (P6.out.keep hb7);have S7:=aB (aN P7.out.below (aN (P7.out.win (i:=0) af).2.2.2.1 (aN (P7.out.win (i:=0) af).2.2.2.2.1 (aN (P7.out.win (i:=1) af).2.2.2.1 (P7.out.win (i:=1) af).2.2.2.2.1))))
    clear hb7;refine hK _ _ (S7.out) ?_
    clear hK K
    iterate 9
     refine dC ax  ax (fun R hR=>?_)
     apply aJ
     refine⟨fun w' hS'=>?_,?_⟩
     ·obtain⟨z0,z1,z2,z3,c0,c1,c2,c3,c4⟩:=lS.out w' hS'
      go_simp;exact⟨rfl,rfl⟩
     go_simp;refine hR _ ?_;clear hR R
    refine dE ax  ax (fun K hK=>?_)
    go_simp;refine(C2.out w7 1 af P7.out).mono ?_
    rintro e w8 ⟨rfl,hb8⟩;have P8:=aB (P7.out.keep hb8);have S8:=aB (aN P8.out.below (aN (P8.out.win (i:=0) af).2.2.2.1 (aN (P8.out.win (i:=0) af).2.2.2.2.1 (aN (P8.out.win (i:=1) af).2.2.2.1 (P8.out.win (i:=1) af).2.2.2.2.1))))
    clear hb8;refine hK _ _ (S8.out) ?_
    clear hK K
    iterate 2
     refine dC ax  ax (fun R hR=>?_)
     apply aJ
     refine⟨fun w' hS'=>?_,?_⟩
     ·obtain⟨z0,z1,z2,z3,c0,c1,c2,c3,c4⟩:=lS.out w' hS'
      go_simp;exact⟨rfl,rfl⟩
     go_simp;refine hR _ ?_;clear hR R
    refine dF ?_
    try refine dO ?_
    clear P6 P7 S6 S7 S8 CD C2 PQ CC HP
    go_wp2_with fail
    go_roundg (l.length - (i+1))
    case measure=>have:=HQ.out;omega
    case rel=>exact⟨i+1,rfl,ae,ae,ai,P8⟩
   ·by_cases hlt:i<l.length
    ·have ZI:(i:Int)<(l.length:Int):=ae
     have h2i:¬((i:Int)<30):=ae
     go_wp2_with fail;refine bodyPost_ret (by simp[results,Tryz.results5,go_sem, *];try rfl) rfl ?_
     exact⟨rfl,HP.out.below⟩
    ·have ZI:¬((i:Int)<(l.length:Int)):=ae
     go_wp2_with fail;refine bodyPost_ret (by simp[results,Tryz.results5,go_sem, *];try rfl) rfl ?_
     exact⟨rfl,HP.out.below⟩
end Go.Proofs.YtkiebccnpheloaaGreat.D
