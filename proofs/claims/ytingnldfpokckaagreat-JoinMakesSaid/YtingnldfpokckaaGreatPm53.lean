/- Parts of a proof: what its theorem reaches, words cut short. No condition of its own. -/
import Derived.Test.YtingnldfpokckaaGreatPm52
set_option maxRecDepth 100000
set_option maxHeartbeats 16000000
set_option linter.unusedVariables false
set_option linter.unusedSimpArgs false
namespace Go.Proofs.YtingnldfpokckaaGreat.D
open Go.RowKit Go.Lib Go.Shelf
theorem v_inj{sp tp:Spk}(ok:SpOk sp)(ok2:SpOk tp)(h:sp.v=tp.v):sp=tp:=by
 cases sp<;>cases tp<;>simp only[Spk.v,specV,Value.agg.injEq,Array.mk.injEq,List.cons.injEq,Value.int.injEq,Value.bool.injEq,true_and,and_true] at h<;>(try omega)
 case h.h l h1 d u m g l2 h2 d2 u2 m2 g2=>
  obtain⟨e1,e2,e3,rfl⟩:=h
  obtain rfl:l=l2:=by omega
  obtain rfl:h1=h2:=by omega
  obtain rfl:d=d2:=by omega
  have p:HdOk l h1 d u m:=ok
  have q:HdOk l h1 d u2 m2:=ok2
  obtain rfl:u=u2:=p.ue.trans q.ue.symm
  obtain rfl:m=m2:=p.me.trans q.me.symm
  rfl
 case d.d=>
  obtain⟨e1,e2⟩:=h
  congr 1<;>omega
 case t.t=>congr 1;omega
 case k.k=>congr 1;omega
theorem take_new{sp tp:Spk}{x y:Nat}{F Fy:Ft}(ok:SpOk sp)(ok2:SpOk tp)(w:World)(h:JsAt sp sp.new x F w)(h2:JsAt tp tp.new y Fy w)(hd:∀k,F k->¬Fy k) :
 Calls Tryz.prog 9 #[.pointer (some ⟨x,0,none⟩),.pointer (some ⟨y,0,none⟩),.pointer none] w fun e w'=>∃er,e=.returned (.int .i64 er)/\(er=0<->sp.v=tp.v)/\(∃F',JsAt sp sp.new x F' w')/\Touch F w w':=by
 by_cases hv:sp.v=tp.v
 ·obtain rfl:=v_inj ok ok2 hv
  obtain⟨n1,n2,n3⟩:=jtk_new ok
  have C:=js_take w h h2 (.inr hd) (new_ok ok) (new_ok ok) (CnAt.nil_ w) (fun q e _=>n3 q e) (fun k h=>h.elim)
  rw[n1,n2] at C
  refine C.mono ?_
  rintro e w' ⟨rfl,h3,_,h5⟩
  exact⟨0,rfl,⟨fun _=>hv,fun _=>rfl⟩,⟨_,h3⟩,h5.mono fun k h=>h.elim id False.elim⟩
 ·refine(js_take_ne w h h2 (new_ok ok) (new_ok ok2) hv).mono ?_
  rintro e w' ⟨rfl,hb⟩
  exact⟨3,rfl,⟨(fun e=>by cases e),(fun e=>absurd e hv)⟩,⟨F,(js_stay sp _ x).keep h hb⟩,Touch.of_below hb (Nat.le_refl _)⟩
theorem makes27_any(k1 l1 h1 d1 a1 s1 k2 l2 h2 d2 a2 s2:Int)(g1 g2:Bool)(W:World)(b0:-9223372036854775808<=h1)(b1:h1<=9223372036854775807)(c0:-9223372036854775808<=h2)(c1:h2<=9223372036854775807) :
 Calls Tryz.prog 3 #[specV k1 l1 h1 d1 g1 a1 s1,specV k2 l2 h2 d2 g2 a2 s2] W fun e W'=>e=.returned (.bool true)/\Below W.heap.size W W':=by
 have M1:=Lib.hid (fun w=>jmake_all k1 l1 h1 d1 a1 s1 g1 w b0 b1)
 have M2:=Lib.hid (fun w=>jmake_all k2 l2 h2 d2 a2 s2 g2 w c0 c1)
 have R1:=Lib.hid (fun w=>right27_all k1 l1 h1 d1 a1 s1 g1 w b0 b1)
 have R2:=Lib.hid (fun w=>right27_all k2 l2 h2 d2 a2 s2 g2 w c0 c1)
 unfold specV at M1 M2 R1 R2 |-
 obtain⟨b,hbb⟩:∃b,W.heap.size=b:=⟨_,rfl⟩
 obtain⟨w1,hw1⟩:∃q,(W.alloc (.cells #[.int .u8 k1,.int .i64 l1,.int .i64 h1,.int .i64 d1,.bool g1,.int .i64 a1,.int .i64 s1] 25)).alloc (.cells #[.int .u8 k2,.int .i64 l2,.int .i64 h2,.int .i64 d2,.bool g2,.int .i64 a2,.int .i64 s2] 25)=q:=⟨_,rfl⟩
 have hb1:Below W.heap.size W w1:=by rw[<-hw1];(repeat' (first|(with_reducible exact Below.refl _ _)|(with_reducible refine Below.alloc ?_ ?_ _)|(with_reducible refine Below.drew ?_)|(with_reducible refine below_drewN ?_ _)|(with_reducible refine Below.setCell ?_ ?_ _)|(with_reducible refine below_of (by assumption) ?_ ?_)|go_size))
 have X1:Blk w1 b 25 #[.int .u8 k1,.int .i64 l1,.int .i64 h1,.int .i64 d1,.bool g1,.int .i64 a1,.int .i64 s1]:=by rw[<-hw1,<-hbb];exact(Blk.new _ _ _).alloc _
 have X2:Blk w1 (b+1) 25 #[.int .u8 k2,.int .i64 l2,.int .i64 h2,.int .i64 d2,.bool g2,.int .i64 a2,.int .i64 s2]:=by
  have h:=Blk.new (W.alloc (.cells #[.int .u8 k1,.int .i64 l1,.int .i64 h1,.int .i64 d1,.bool g1,.int .i64 a1,.int .i64 s1] 25)) 25 #[.int .u8 k2,.int .i64 l2,.int .i64 h2,.int .i64 d2,.bool g2,.int .i64 a2,.int .i64 s2]
  rw[hw1,World.size_alloc,hbb] at h
  exact h
 have HX:=Lib.hid (And.intro X1 X2)
 have CA:=Lib.hid (alive27_any w1)
 have HB1:=Lib.hid hb1
 have hz1:w1.heap.size=b+2:=by rw[<-hw1,World.size_alloc,World.size_alloc,hbb]
 have HZ1:=Lib.hid (And.intro hz1 hbb)
 clear X1 X2 b0 b1 c0 c1 hb1
 go_enter Tryz.func3,Tryz.ntmps3
 go_upto_region 1 with fail
 try rw[hw1]
 clear hw1 hz1 hbb
 go_wp2_with fail
 refine(CA.out).mono ?_
 rintro e w2 ⟨rfl,hb2⟩
 have HY:=Lib.hid (And.intro (HX.out.1.keep hb2) (HX.out.2.keep hb2))
 have HB2:=Lib.hid (HB1.out.trans (hb2.mono HB1.out.size))
 have hz2:=hb2.size
 have HZ2:=Lib.hid hz2
 clear hb2 CA HX hz2
 have f0:=HY.out.1.cell 0
 have f1:=HY.out.1.cell 1
 have f2:=HY.out.1.cell 2
 have f3:=HY.out.1.cell 3
 have f4:=HY.out.1.cell 4
 have f5:=HY.out.1.cell 5
 have f6:=HY.out.1.cell 6
 simp only[List.getElem?_toArray,List.getElem?_cons_zero,List.getElem?_cons_succ] at f0 f1 f2 f3 f4 f5 f6
 go_wp2_with fail
 refine(M1.out w2).mono ?_
 rintro e w3 ⟨hm,hb3⟩
 have HY3:=Lib.hid (And.intro (HY.out.1.keep hb3) (HY.out.2.keep hb3))
 have HB3:=Lib.hid (HB2.out.trans (hb3.mono HB2.out.size))
 have HQ3:=Lib.hid hb3
 clear hb3 f0 f1 f2 f3 f4 f5 f6
 have q0:=HY3.out.2.cell 0
 have q1:=HY3.out.2.cell 1
 have q2:=HY3.out.2.cell 2
 have q3:=HY3.out.2.cell 3
 have q4:=HY3.out.2.cell 4
 have q5:=HY3.out.2.cell 5
 have q6:=HY3.out.2.cell 6
 simp only[List.getElem?_toArray,List.getElem?_cons_zero,List.getElem?_cons_succ] at q0 q1 q2 q3 q4 q5 q6
 rcases hm with⟨sp,x,ok,hv,rfl,hj⟩|⟨hn,rfl⟩
 ·have HJ:=Lib.hid hj
  have OK:=Lib.hid (And.intro ok hv)
  clear ok hv hj
  go_wp2_with fail
  refine(M2.out w3).mono ?_
  rintro e w4 ⟨hm2,hb4⟩
  have HY4:=Lib.hid (And.intro (HY3.out.1.keep hb4) (HY3.out.2.keep hb4))
  have HB4:=Lib.hid (HB3.out.trans (hb4.mono HB3.out.size))
  have HQ4:=Lib.hid hb4
  clear hb4 q0 q1 q2 q3 q4 q5 q6
  have f0:=HY4.out.1.cell 0
  have f1:=HY4.out.1.cell 1
  have f2:=HY4.out.1.cell 2
  have f3:=HY4.out.1.cell 3
  have f4:=HY4.out.1.cell 4
  have f5:=HY4.out.1.cell 5
  have f6:=HY4.out.1.cell 6
  simp only[List.getElem?_toArray,List.getElem?_cons_zero,List.getElem?_cons_succ] at f0 f1 f2 f3 f4 f5 f6
  rcases hm2 with⟨tp,y,ok2,hv2,rfl,hj2⟩|⟨hn2,rfl⟩
  ·have HJ2:=Lib.hid hj2
   have OK2:=Lib.hid (And.intro ok2 hv2)
   clear ok2 hv2 hj2
   go_wp2_with fail
   refine(R1.out w4).mono ?_
   rintro e w5 ⟨⟨bb1,rfl,hq1⟩,hb5⟩
   obtain rfl:bb1=true:=hq1.2 ⟨sp,OK.out.1,OK.out.2⟩
   clear hq1
   have HY5:=Lib.hid (And.intro (HY4.out.1.keep hb5) (HY4.out.2.keep hb5))
   have HB5:=Lib.hid (HB4.out.trans (hb5.mono HB4.out.size))
   have HQ5:=Lib.hid hb5
   clear hb5 f0 f1 f2 f3 f4 f5 f6
   have q0:=HY5.out.2.cell 0
   have q1:=HY5.out.2.cell 1
   have q2:=HY5.out.2.cell 2
   have q3:=HY5.out.2.cell 3
   have q4:=HY5.out.2.cell 4
   have q5:=HY5.out.2.cell 5
   have q6:=HY5.out.2.cell 6
   simp only[List.getElem?_toArray,List.getElem?_cons_zero,List.getElem?_cons_succ] at q0 q1 q2 q3 q4 q5 q6
   go_wp2_with fail
   refine(R2.out w5).mono ?_
   rintro e w6 ⟨⟨bb2,rfl,hq2⟩,hb6⟩
   obtain rfl:bb2=true:=hq2.2 ⟨tp,OK2.out.1,OK2.out.2⟩
   clear hq2
   have HY6:=Lib.hid (And.intro (HY5.out.1.keep hb6) (HY5.out.2.keep hb6))
   have HB6:=Lib.hid (HB5.out.trans (hb6.mono HB5.out.size))
   have HQ6:=Lib.hid hb6
   clear hb6 q0 q1 q2 q3 q4 q5 q6
   have lb:b<w6.heap.size:=HY6.out.1.lt
   have lb2:b+1<w6.heap.size:=HY6.out.2.lt
   have HJ6:=Lib.hid ((js_stay sp _ x).keep HJ.out (HQ4.out.trans ((HQ5.out.trans (HQ6.out.mono HQ5.out.size)).mono HQ4.out.size)))
   have HK6:=Lib.hid ((js_stay tp _ y).keep HJ2.out (HQ5.out.trans (HQ6.out.mono HQ5.out.size)))
   have hdj:∀k,Gr (fun _=>False) w2 w3 k->¬Gr (fun _=>False) w3 w4 k:=fun k p1 p2=>by
    rcases p1 with p1|p1
    ·exact p1
    ·rcases p2 with p2|p2
     ·exact p2
     ·omega
   have nb:¬Gr (fun _=>False) w2 w3 b:=fun p=>by
    rcases p with p|p
    ·exact p
    ·have:=HZ1.out;have:=HZ2.out;omega
   have nb2:¬Gr (fun _=>False) w2 w3 (b+1):=fun p=>by
    rcases p with p|p
    ·exact p
    ·have:=HZ1.out;have:=HZ2.out;omega
   have hlow:∀k,Gr (fun _=>False) w2 w3 k->W.heap.size<=k:=fun k p=>by
    rcases p with p|p
    ·exact p.elim
    ·have:=HB2.out.size;omega
   have C1:Hid (∀U,Below w6.heap.size w6 U->_):=Lib.hid (fun U hb=>js_spec U ((js_stay sp _ x).keep HJ6.out hb) (new_ok OK.out.1))
   have C2:Hid (∀U,Below w6.heap.size w6 U->_):=Lib.hid (fun U hb=>js_spec U ((js_stay tp _ y).keep HK6.out hb) (new_ok OK2.out.1))
   have C3:Hid (∀U,Below w6.heap.size w6 U->_):=Lib.hid (fun U hb=>take_new OK.out.1 OK2.out.1 U ((js_stay sp _ x).keep HJ6.out hb) ((js_stay tp _ y).keep HK6.out hb) hdj)
   have C4:=Lib.hid (fun U=>rjs_make U OK.out.1)
   rw[OK.out.2] at C1 C3 C4
   rw[OK2.out.2] at C2 C3
   unfold specV at C1 C2 C3 C4
   have u0:=HY6.out.1.cell 0
   have u1:=HY6.out.1.cell 1
   have u2:=HY6.out.1.cell 2
   have u3:=HY6.out.1.cell 3
   have u4:=HY6.out.1.cell 4
   have u5:=HY6.out.1.cell 5
   have u6:=HY6.out.1.cell 6
   simp only[List.getElem?_toArray,List.getElem?_cons_zero,List.getElem?_cons_succ] at u0 u1 u2 u3 u4 u5 u6
   have v0:=HY6.out.2.cell 0
   have v1:=HY6.out.2.cell 1
   have v2:=HY6.out.2.cell 2
   have v3:=HY6.out.2.cell 3
   have v4:=HY6.out.2.cell 4
   have v5:=HY6.out.2.cell 5
   have v6:=HY6.out.2.cell 6
   simp only[List.getElem?_toArray,List.getElem?_cons_zero,List.getElem?_cons_succ] at v0 v1 v2 v3 v4 v5 v6
   have YF:=Lib.hid (And.intro (And.intro u0 (And.intro u1 (And.intro u2 (And.intro u3 (And.intro u4 (And.intro u5 u6)))))) (And.intro v0 (And.intro v1 (And.intro v2 (And.intro v3 (And.intro v4 (And.intro v5 v6)))))))
   clear u0 u1 u2 u3 u4 u5 u6 v0 v1 v2 v3 v4 v5 v6
   obtain⟨G,hG⟩:∃G:Ft,Gr (fun _=>False) w2 w3=G:=⟨_,rfl⟩
   rw[hG] at hdj nb nb2 hlow HJ6 C3
   clear hG
   have Bd:Below w6.heap.size w6 w6.drew:=(Below.refl _ _).drew
   have T0:Touch G w6 w6.drew:=Touch.of_below Bd (Nat.le_refl _)
   by_cases hst:k1=k2/\l1=l2/\h1=h2/\d1=d2/\g1=g2/\a1=a2/\s1=s2
   ·obtain⟨rfl,rfl,rfl,rfl,rfl,rfl,rfl⟩:=hst
    go_upto_region 9 with fail
    have FBq:=Lib.hid (fun w' (hS':(Touch G w6) w')=>(And.intro ((tcell hS' 0 lb nb).trans YF.out.1.1) (And.intro ((tcell hS' 1 lb nb).trans YF.out.1.2.1) (And.intro ((tcell hS' 2 lb nb).trans YF.out.1.2.2.1) (And.intro ((tcell hS' 3 lb nb).trans YF.out.1.2.2.2.1) (And.intro ((tcell hS' 4 lb nb).trans YF.out.1.2.2.2.2.1) (And.intro ((tcell hS' 5 lb nb).trans YF.out.1.2.2.2.2.2.1) (And.intro ((tcell hS' 6 lb nb).trans YF.out.1.2.2.2.2.2.2) (And.intro ((tcell hS' 0 lb2 nb2).trans YF.out.2.1) (And.intro ((tcell hS' 1 lb2 nb2).trans YF.out.2.2.1) (And.intro ((tcell hS' 2 lb2 nb2).trans YF.out.2.2.2.1) (And.intro ((tcell hS' 3 lb2 nb2).trans YF.out.2.2.2.2.1) (And.intro ((tcell hS' 4 lb2 nb2).trans YF.out.2.2.2.2.2.1) (And.intro ((tcell hS' 5 lb2 nb2).trans YF.out.2.2.2.2.2.2.1) ((tcell hS' 6 lb2 nb2).trans YF.out.2.2.2.2.2.2.2)))))))))))))))
    refine wp_region_plan (Touch G w6) [(0,true),(2,true),(1,false),(3,true),(4,true),(5,true),(7,true),(6,false),(8,true),(9,true),(10,true),(11,true),(12,true),(15,true),(16,true),(17,true),(13,false),(14,true),(18,true),(19,true),(20,true),(21,true),(22,false),(23,true),(24,true),(25,true),(26,true),(27,true),(28,false),(29,false),(30,true),(31,true)] (by kernel_rfl) (by kernel_rfl) (T0) ?_
    iterate 2
     refine wpPlan_read (by rfl) (by rfl) (fun R hR=>?_)
     apply Exists.intro
     refine⟨fun w' hS'=>?_,?_⟩
     ·obtain⟨f0,f1,f2,f3,f4,f5,f6,q0,q1,q2,q3,q4,q5,q6⟩:=FBq.out w' hS'
      go_simp
      exact⟨rfl,rfl⟩
     go_simp
     refine hR _ ?_
     clear hR R
    refine wpPlan_do (by rfl) (by rfl) (fun K hK=>?_)
    go_simp
    refine(C1.out _ Bd).mono ?_
    rintro e u1 ⟨rfl,hc1⟩
    have B1:Below w6.heap.size w6 u1:=Bd.trans hc1
    have T1:Touch G w6 u1:=Touch.of_below B1 (Nat.le_refl _)
    refine hK _ _ (T1) ?_
    clear hK K
    iterate 4
     refine wpPlan_read (by rfl) (by rfl) (fun R hR=>?_)
     apply Exists.intro
     refine⟨fun w' hS'=>?_,?_⟩
     ·obtain⟨f0,f1,f2,f3,f4,f5,f6,q0,q1,q2,q3,q4,q5,q6⟩:=FBq.out w' hS'
      go_simp
      exact⟨rfl,rfl⟩
     go_simp
     refine hR _ ?_
     clear hR R
    refine wpPlan_do (by rfl) (by rfl) (fun K hK=>?_)
    go_simp
    refine(C2.out _ B1).mono ?_
    rintro e u2 ⟨rfl,hc2⟩
    have B2:Below w6.heap.size w6 u2:=B1.trans (hc2.mono B1.size)
    have T2:Touch G w6 u2:=Touch.of_below B2 (Nat.le_refl _)
    refine hK _ _ (T2) ?_
    clear hK K
    iterate 8
     refine wpPlan_read (by rfl) (by rfl) (fun R hR=>?_)
     apply Exists.intro
     refine⟨fun w' hS'=>?_,?_⟩
     ·obtain⟨f0,f1,f2,f3,f4,f5,f6,q0,q1,q2,q3,q4,q5,q6⟩:=FBq.out w' hS'
      go_simp
      exact⟨rfl,rfl⟩
     go_simp
     refine hR _ ?_
     clear hR R
    refine wpPlan_do (by rfl) (by rfl) (fun K hK=>?_)
    go_simp
    refine(C3.out _ B2).mono ?_
    rintro e u3 ⟨er,rfl,her,⟨F3,hx3⟩,hc3⟩
    obtain rfl:er=0:=her.2 trivial
    have T3:Touch G w6 u3:=T2.trans hc3 (fun _ h=>.inl h)
    have HX3:=Lib.hid hx3
    clear hx3 her
    refine hK _ _ (T3) ?_
    clear hK K
    iterate 5
     refine wpPlan_read (by rfl) (by rfl) (fun R hR=>?_)
     apply Exists.intro
     refine⟨fun w' hS'=>?_,?_⟩
     ·obtain⟨f0,f1,f2,f3,f4,f5,f6,q0,q1,q2,q3,q4,q5,q6⟩:=FBq.out w' hS'
      go_simp
      exact⟨rfl,rfl⟩
     go_simp
     refine hR _ ?_
     clear hR R
    refine wpPlan_do (by rfl) (by rfl) (fun K hK=>?_)
    go_simp
    refine(js_take_nil _ _ u3).mono ?_
    rintro e u4 ⟨rfl,rfl⟩
    refine hK _ _ (T3) ?_
    clear hK K
    iterate 5
     refine wpPlan_read (by rfl) (by rfl) (fun R hR=>?_)
     apply Exists.intro
     refine⟨fun w' hS'=>?_,?_⟩
     ·obtain⟨f0,f1,f2,f3,f4,f5,f6,q0,q1,q2,q3,q4,q5,q6⟩:=FBq.out w' hS'
      go_simp
      exact⟨rfl,rfl⟩
     go_simp
     refine hR _ ?_
     clear hR R
    refine wpPlan_do (by rfl) (by rfl) (fun K hK=>?_)
    go_simp
    refine(C4.out u3).mono ?_
    rintro e u5 ⟨z,rfl,hz5,hc5⟩
    have T5:Touch G w6 u5:=tbl T3 hc5
    have C5:=Lib.hid (same27_any u5 ((js_stay sp _ x).keep HX3.out hc5) hz5 (new_ok OK.out.1))
    clear hz5
    refine hK _ _ (T5) ?_
    clear hK K
    refine wpPlan_do (by rfl) (by rfl) (fun K hK=>?_)
    go_simp
    refine(C5.out).mono ?_
    rintro e u6 ⟨rfl,hc6⟩
    have T6:Touch G w6 u6:=tbl T5 hc6
    refine hK _ _ (T6) ?_
    clear hK K
    iterate 2
     refine wpPlan_read (by rfl) (by rfl) (fun R hR=>?_)
     apply Exists.intro
     refine⟨fun w' hS'=>?_,?_⟩
     ·obtain⟨f0,f1,f2,f3,f4,f5,f6,q0,q1,q2,q3,q4,q5,q6⟩:=FBq.out w' hS'
      go_simp
      exact⟨rfl,rfl⟩
     go_simp
     refine hR _ ?_
     clear hR R
    refine wpPlan_nil ?_
    have HBE:=HB6.out.trans (T6.below hlow HB6.out.size)
    go_wp2_with fail
    refine bodyPost_ret (by simp[results,Tryz.results3,go_sem, *];try rfl) rfl ?_
    exact⟨rfl,HBE⟩
   ·have HI:Hid (∀W:World,((if k1=k2 then if l1=l2 then if h1=h2 then if d1=d2 then if g1=g2 then if a1=a2 then if s1=s2 then Result.ok (Next.value (Value.bool true)) W else Result.ok (Next.value (Value.bool false)) W else Result.ok (Next.value (Value.bool false)) W else Result.ok (Next.value (Value.bool false)) W else Result.ok (Next.value (Value.bool false)) W else Result.ok (Next.value (Value.bool false)) W else Result.ok (Next.value (Value.bool false)) W else Result.ok (Next.value (Value.bool false)) W):Result Next)=Result.ok (Next.value (Value.bool false)) W):=Lib.hid (by
     intro W
     repeat' split
     all_goals first|rfl|exact absurd ⟨‹_›,‹_›,‹_›,‹_›,‹_›,‹_›,‹_›⟩ hst)
    have HST:=Lib.hid hst
    clear hst
    go_upto_region 9 with fail
    have FBq:=Lib.hid (fun w' (hS':(Touch G w6) w')=>(And.intro ((tcell hS' 0 lb nb).trans YF.out.1.1) (And.intro ((tcell hS' 1 lb nb).trans YF.out.1.2.1) (And.intro ((tcell hS' 2 lb nb).trans YF.out.1.2.2.1) (And.intro ((tcell hS' 3 lb nb).trans YF.out.1.2.2.2.1) (And.intro ((tcell hS' 4 lb nb).trans YF.out.1.2.2.2.2.1) (And.intro ((tcell hS' 5 lb nb).trans YF.out.1.2.2.2.2.2.1) (And.intro ((tcell hS' 6 lb nb).trans YF.out.1.2.2.2.2.2.2) (And.intro ((tcell hS' 0 lb2 nb2).trans YF.out.2.1) (And.intro ((tcell hS' 1 lb2 nb2).trans YF.out.2.2.1) (And.intro ((tcell hS' 2 lb2 nb2).trans YF.out.2.2.2.1) (And.intro ((tcell hS' 3 lb2 nb2).trans YF.out.2.2.2.2.1) (And.intro ((tcell hS' 4 lb2 nb2).trans YF.out.2.2.2.2.2.1) (And.intro ((tcell hS' 5 lb2 nb2).trans YF.out.2.2.2.2.2.2.1) (And.intro ((tcell hS' 6 lb2 nb2).trans YF.out.2.2.2.2.2.2.2) (HI.out w'))))))))))))))))
    refine wp_region_plan (Touch G w6) [(0,true),(2,true),(1,false),(3,true),(4,true),(5,true),(7,true),(6,false),(8,true),(9,true),(10,true),(11,true),(12,true),(15,true),(16,true),(17,true),(13,false),(14,true),(18,true),(19,true),(20,true),(21,true),(22,false),(23,true),(24,true),(25,true),(26,true),(27,true),(28,false),(29,false),(30,true),(31,true)] (by kernel_rfl) (by kernel_rfl) (T0) ?_
    iterate 2
     refine wpPlan_read (by rfl) (by rfl) (fun R hR=>?_)
     apply Exists.intro
     refine⟨fun w' hS'=>?_,?_⟩
     ·obtain⟨f0,f1,f2,f3,f4,f5,f6,q0,q1,q2,q3,q4,q5,q6,hite⟩:=FBq.out w' hS'
      go_simp
      exact⟨rfl,rfl⟩
     go_simp
     refine hR _ ?_
     clear hR R
    refine wpPlan_do (by rfl) (by rfl) (fun K hK=>?_)
    go_simp
    refine(C1.out _ Bd).mono ?_
    rintro e u1 ⟨rfl,hc1⟩
    have B1:Below w6.heap.size w6 u1:=Bd.trans hc1
    have T1:Touch G w6 u1:=Touch.of_below B1 (Nat.le_refl _)
    refine hK _ _ (T1) ?_
    clear hK K
    iterate 4
     refine wpPlan_read (by rfl) (by rfl) (fun R hR=>?_)
     apply Exists.intro
     refine⟨fun w' hS'=>?_,?_⟩
     ·obtain⟨f0,f1,f2,f3,f4,f5,f6,q0,q1,q2,q3,q4,q5,q6,hite⟩:=FBq.out w' hS'
      go_simp
      exact⟨rfl,rfl⟩
     go_simp
     refine hR _ ?_
     clear hR R
    refine wpPlan_do (by rfl) (by rfl) (fun K hK=>?_)
    go_simp
    refine(C2.out _ B1).mono ?_
    rintro e u2 ⟨rfl,hc2⟩
    have B2:Below w6.heap.size w6 u2:=B1.trans (hc2.mono B1.size)
    have T2:Touch G w6 u2:=Touch.of_below B2 (Nat.le_refl _)
    refine hK _ _ (T2) ?_
    clear hK K
    iterate 8
     refine wpPlan_read (by rfl) (by rfl) (fun R hR=>?_)
     apply Exists.intro
     refine⟨fun w' hS'=>?_,?_⟩
     ·obtain⟨f0,f1,f2,f3,f4,f5,f6,q0,q1,q2,q3,q4,q5,q6,hite⟩:=FBq.out w' hS'
      go_simp
      exact⟨rfl,rfl⟩
     go_simp
     refine hR _ ?_
     clear hR R
    refine wpPlan_do (by rfl) (by rfl) (fun K hK=>?_)
    go_simp
    refine(C3.out _ B2).mono ?_
    rintro e u3 ⟨er,rfl,her,⟨F3,hx3⟩,hc3⟩
    have hne:¬er=0:=fun e=>HST.out (by have h:=her.1 e;simpa using h)
    have he0:(er == 0)=false:=beq_eq_false_iff_ne.2 hne
    have T3:Touch G w6 u3:=T2.trans hc3 (fun _ h=>.inl h)
    have HX3:=Lib.hid hx3
    clear hx3 her
    refine hK _ _ (T3) ?_
    clear hK K
    iterate 5
     refine wpPlan_read (by rfl) (by rfl) (fun R hR=>?_)
     apply Exists.intro
     refine⟨fun w' hS'=>?_,?_⟩
     ·obtain⟨f0,f1,f2,f3,f4,f5,f6,q0,q1,q2,q3,q4,q5,q6,hite⟩:=FBq.out w' hS'
      go_simp
      exact⟨rfl,rfl⟩
     go_simp
     refine hR _ ?_
     clear hR R
    refine wpPlan_do (by rfl) (by rfl) (fun K hK=>?_)
    go_simp
    refine(js_take_nil _ _ u3).mono ?_
    rintro e u4 ⟨rfl,rfl⟩
    refine hK _ _ (T3) ?_
    clear hK K
    iterate 5
     refine wpPlan_read (by rfl) (by rfl) (fun R hR=>?_)
     apply Exists.intro
     refine⟨fun w' hS'=>?_,?_⟩
     ·obtain⟨f0,f1,f2,f3,f4,f5,f6,q0,q1,q2,q3,q4,q5,q6,hite⟩:=FBq.out w' hS'
      go_simp
      exact⟨rfl,rfl⟩
     go_simp
     refine hR _ ?_
     clear hR R
    refine wpPlan_do (by rfl) (by rfl) (fun K hK=>?_)
    go_simp
    refine(C4.out u3).mono ?_
    rintro e u5 ⟨z,rfl,hz5,hc5⟩
    have T5:Touch G w6 u5:=tbl T3 hc5
    have C5:=Lib.hid (same27_any u5 ((js_stay sp _ x).keep HX3.out hc5) hz5 (new_ok OK.out.1))
    clear hz5
    refine hK _ _ (T5) ?_
    clear hK K
    refine wpPlan_do (by rfl) (by rfl) (fun K hK=>?_)
    go_simp
    refine(C5.out).mono ?_
    rintro e u6 ⟨rfl,hc6⟩
    have T6:Touch G w6 u6:=tbl T5 hc6
    refine hK _ _ (T6) ?_
    clear hK K
    iterate 2
     refine wpPlan_read (by rfl) (by rfl) (fun R hR=>?_)
     apply Exists.intro
     refine⟨fun w' hS'=>?_,?_⟩
     ·obtain⟨f0,f1,f2,f3,f4,f5,f6,q0,q1,q2,q3,q4,q5,q6,hite⟩:=FBq.out w' hS'
      go_simp
      exact⟨rfl,rfl⟩
     go_simp
     refine hR _ ?_
     clear hR R
    refine wpPlan_nil ?_
    have HBE:=HB6.out.trans (T6.below hlow HB6.out.size)
    go_wp2_with fail
    refine bodyPost_ret (by simp[results,Tryz.results3,go_sem, *];try rfl) rfl ?_
    exact⟨rfl,HBE⟩
  ·have HN2:=Lib.hid hn2
   clear hn2
   go_wp2_with fail
   refine(R1.out w4).mono ?_
   rintro e w5 ⟨⟨bb1,rfl,hq1⟩,hb5⟩
   obtain rfl:bb1=true:=hq1.2 ⟨sp,OK.out.1,OK.out.2⟩
   clear hq1
   have HY5:=Lib.hid (And.intro (HY4.out.1.keep hb5) (HY4.out.2.keep hb5))
   have HB5:=Lib.hid (HB4.out.trans (hb5.mono HB4.out.size))
   have HQ5:=Lib.hid hb5
   clear hb5 f0 f1 f2 f3 f4 f5 f6
   have q0:=HY5.out.2.cell 0
   have q1:=HY5.out.2.cell 1
   have q2:=HY5.out.2.cell 2
   have q3:=HY5.out.2.cell 3
   have q4:=HY5.out.2.cell 4
   have q5:=HY5.out.2.cell 5
   have q6:=HY5.out.2.cell 6
   simp only[List.getElem?_toArray,List.getElem?_cons_zero,List.getElem?_cons_succ] at q0 q1 q2 q3 q4 q5 q6
   go_wp2_with fail
   refine(R2.out w5).mono ?_
   rintro e w6 ⟨⟨bb2,rfl,hq2⟩,hb6⟩
   obtain rfl:bb2=false:=by cases bb2;rfl;exact absurd (hq2.1 rfl) HN2.out
   clear hq2
   have HY6:=Lib.hid (And.intro (HY5.out.1.keep hb6) (HY5.out.2.keep hb6))
   have HB6:=Lib.hid (HB5.out.trans (hb6.mono HB5.out.size))
   have HQ6:=Lib.hid hb6
   clear hb6 q0 q1 q2 q3 q4 q5 q6
   go_wp2_with fail
   refine bodyPost_ret (by simp[results,Tryz.results3,go_sem, *];try rfl) rfl ?_
   exact⟨rfl,HB6.out⟩
 ·have HN:=Lib.hid hn
  clear hn
  go_wp2_with fail
  refine(M2.out w3).mono ?_
  rintro e w4 ⟨hm2,hb4⟩
  have HY4:=Lib.hid (And.intro (HY3.out.1.keep hb4) (HY3.out.2.keep hb4))
  have HB4:=Lib.hid (HB3.out.trans (hb4.mono HB3.out.size))
  have HQ4:=Lib.hid hb4
  clear hb4 q0 q1 q2 q3 q4 q5 q6
  have f0:=HY4.out.1.cell 0
  have f1:=HY4.out.1.cell 1
  have f2:=HY4.out.1.cell 2
  have f3:=HY4.out.1.cell 3
  have f4:=HY4.out.1.cell 4
  have f5:=HY4.out.1.cell 5
  have f6:=HY4.out.1.cell 6
  simp only[List.getElem?_toArray,List.getElem?_cons_zero,List.getElem?_cons_succ] at f0 f1 f2 f3 f4 f5 f6
  rcases hm2 with⟨tp,y,ok2,hv2,rfl,hj2⟩|⟨hn2,rfl⟩
  ·have OK2:=Lib.hid (And.intro ok2 hv2)
   clear ok2 hv2 hj2
   go_wp2_with fail
   refine(R1.out w4).mono ?_
   rintro e w5 ⟨⟨bb1,rfl,hq1⟩,hb5⟩
   obtain rfl:bb1=false:=by cases bb1;rfl;exact absurd (hq1.1 rfl) HN.out
   clear hq1
   have HY5:=Lib.hid (And.intro (HY4.out.1.keep hb5) (HY4.out.2.keep hb5))
   have HB5:=Lib.hid (HB4.out.trans (hb5.mono HB4.out.size))
   have HQ5:=Lib.hid hb5
   clear hb5 f0 f1 f2 f3 f4 f5 f6
   have q0:=HY5.out.2.cell 0
   have q1:=HY5.out.2.cell 1
   have q2:=HY5.out.2.cell 2
   have q3:=HY5.out.2.cell 3
   have q4:=HY5.out.2.cell 4
   have q5:=HY5.out.2.cell 5
   have q6:=HY5.out.2.cell 6
   simp only[List.getElem?_toArray,List.getElem?_cons_zero,List.getElem?_cons_succ] at q0 q1 q2 q3 q4 q5 q6
   go_wp2_with fail
   refine(R2.out w5).mono ?_
   rintro e w6 ⟨⟨bb2,rfl,hq2⟩,hb6⟩
   obtain rfl:bb2=true:=hq2.2 ⟨tp,OK2.out.1,OK2.out.2⟩
   clear hq2
   have HY6:=Lib.hid (And.intro (HY5.out.1.keep hb6) (HY5.out.2.keep hb6))
   have HB6:=Lib.hid (HB5.out.trans (hb6.mono HB5.out.size))
   have HQ6:=Lib.hid hb6
   clear hb6 q0 q1 q2 q3 q4 q5 q6
   go_wp2_with fail
   refine bodyPost_ret (by simp[results,Tryz.results3,go_sem, *];try rfl) rfl ?_
   exact⟨rfl,HB6.out⟩
  ·have HN2:=Lib.hid hn2
   clear hn2
   go_wp2_with fail
   refine(R1.out w4).mono ?_
   rintro e w5 ⟨⟨bb1,rfl,hq1⟩,hb5⟩
   obtain rfl:bb1=false:=by cases bb1;rfl;exact absurd (hq1.1 rfl) HN.out
   clear hq1
   have HY5:=Lib.hid (And.intro (HY4.out.1.keep hb5) (HY4.out.2.keep hb5))
   have HB5:=Lib.hid (HB4.out.trans (hb5.mono HB4.out.size))
   have HQ5:=Lib.hid hb5
   clear hb5 f0 f1 f2 f3 f4 f5 f6
   have q0:=HY5.out.2.cell 0
   have q1:=HY5.out.2.cell 1
   have q2:=HY5.out.2.cell 2
   have q3:=HY5.out.2.cell 3
   have q4:=HY5.out.2.cell 4
   have q5:=HY5.out.2.cell 5
   have q6:=HY5.out.2.cell 6
   simp only[List.getElem?_toArray,List.getElem?_cons_zero,List.getElem?_cons_succ] at q0 q1 q2 q3 q4 q5 q6
   go_wp2_with fail
   refine(R2.out w5).mono ?_
   rintro e w6 ⟨⟨bb2,rfl,hq2⟩,hb6⟩
   obtain rfl:bb2=false:=by cases bb2;rfl;exact absurd (hq2.1 rfl) HN2.out
   clear hq2
   have HY6:=Lib.hid (And.intro (HY5.out.1.keep hb6) (HY5.out.2.keep hb6))
   have HB6:=Lib.hid (HB5.out.trans (hb6.mono HB5.out.size))
   have HQ6:=Lib.hid hb6
   clear hb6 q0 q1 q2 q3 q4 q5 q6
   go_wp2_with fail
   refine bodyPost_ret (by simp[results,Tryz.results3,go_sem, *];try rfl) rfl ?_
   exact⟨rfl,HB6.out⟩
open Go.RowKit Go.Lib Go.Shelf
section
open Go.ChangeShapes Go.WideShapes Go.Deep
variable {H : Type} {enc : TypeId × Value -> H} {w : World} {base : Nat} {held : Bool}
theorem open_spec{v:Value}{d:DataW H}{ps:List MemPlace}{r:Reach}{b0:Nat}
 (hval:Value.okWide Tryz.prog w r b0 25 v) (h:DataW.Trod enc Tryz.prog w base (fun _=>true) held 25 v d ps) :
 ∃(kd lo hi dg ac sz:Int) (gr:Bool),v=specV kd lo hi dg gr ac sz/\-9223372036854775808<=hi/\hi<=9223372036854775807:=by
 obtain⟨cs,rfl,hsz⟩:=okWide_struct Tryz.underlying25 hval
 have ce:Tryz.prog.cellsOf 25=7:=by kernel_rfl
 rw[ce] at hsz
 obtain⟨n,h⟩:=h
 obtain⟨xs,k,hk,hxy,_,hxl,hf⟩:=DataW.trod_struct Tryz.underlying25 h
 obtain⟨l,rfl⟩:∃l:List Value,cs=l.toArray:=⟨cs.toList,by simp⟩
 match xs,hxl,l,hsz with
 | [y0,y1,y2,y3,y4],_,[v0,v1,v2,v3,v4,v5,v6],_=>
  have g0:=hf 0 _ rfl
  have g1:=hf 1 _ rfl
  have g2:=hf 2 _ rfl
  have g3:=hf 3 _ rfl
  have g4:=hf 4 _ rfl
  simp[Value.cells,show Tryz.prog.cellsOf 5=1 by kernel_rfl,show Tryz.prog.cellsOf 4=1 by kernel_rfl,show Tryz.prog.cellsOf 3=1 by kernel_rfl,show Tryz.prog.cellsOf 23=3 by kernel_rfl] at g0 g1 g2 g3 g4
  obtain⟨zs,k2,hk2,hzy,_,hzl,hg⟩:=DataW.trod_struct Tryz.underlying23 g1
  match zs,hzl with
  | [z0,z1,z2],_=>
   have q0:=hg 0 _ rfl
   have q1:=hg 1 _ rfl
   have q2:=hg 2 _ rfl
   simp[show Tryz.prog.cellsOf 2=1 by kernel_rfl,show Tryz.prog.cellsOf 3=1 by kernel_rfl] at q0 q1 q2
   obtain⟨x0,p0,_,_⟩:=DataW.trod_int (k:=.u8) Tryz.underlying5 g0
   obtain⟨x1,p1,_,_⟩:=DataW.trod_int (k:=.i64) Tryz.underlying2 q0
   obtain⟨x2,p2,_,b2⟩:=DataW.trod_int (k:=.i64) Tryz.underlying2 q1
   obtain⟨x3,p3,_,_⟩:=DataW.trod_int (k:=.i64) Tryz.underlying3 q2
   obtain⟨x4,p4,_⟩:=DataW.trod_bool Tryz.underlying4 g2
   obtain⟨x5,p5,_,_⟩:=DataW.trod_int (k:=.i64) Tryz.underlying3 g3
   obtain⟨x6,p6,_,_⟩:=DataW.trod_int (k:=.i64) Tryz.underlying3 g4
   simp only[List.cons.injEq,and_true] at p0 p1 p2 p3 p4 p5 p6
   subst p0;subst p1;subst p2;subst p3;subst p4;subst p5;subst p6
   have h9:=bounds_i64 b2
   exact⟨x0,x1,x2,x3,x5,x6,x4,rfl,h9.1,h9.2⟩
end
end Go.Proofs.YtingnldfpokckaaGreat.D
