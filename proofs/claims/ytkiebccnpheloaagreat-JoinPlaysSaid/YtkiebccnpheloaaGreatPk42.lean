/- Parts of a proof: what its theorem reaches, words cut short. No condition of its own. -/
import Derived.Test.YtkiebccnpheloaaGreatPk41
import Derived.Deep.SlicePairs
set_option maxRecDepth 100000
set_option maxHeartbeats 16000000
set_option linter.unusedVariables false
set_option linter.unusedSimpArgs false
namespace Go.Proofs.YtkiebccnpheloaaGreat
section
open Go.RowKit Go.Lib
theorem D_{g gt:Nat}{F Ft:Nat->Prop}{d:Int}{s t:St}{k kt:Nat}(w:World)(h:NU w g F d s)(ht:NU w gt Ft d t)(hx:(gt=g/\Ft=F/\t=s)\/(∀k,F k->¬Ft k))(ft:Fit d s k)(Ha:Fit d t kt)(hk:k+kt<=100000000)
 (hcap:tot (t.L++t.W)<=281474976710656 - tot (s.L++s.W)) (hne:0<tot (t.L++t.W)) :
 Calls Tryz.prog 77 #[.pointer (some ⟨g,0,none⟩),.pointer (some ⟨gt,0,none⟩)] w fun e w'=>e=.returned (.int .i64 0)/\∃F':Nat->Prop,(∀k,F' k->F k\/w.heap.size<=k)/\NU w' g F' d (s.take d t)/\Touch F w w':=by
 have H:=aB h;have HT:=aB ht;have s0:=ft.ok.jA;have s1:=ft.t;have d0:=ft.d0;have d1:=ft.d1;have hls:=ft.ok.len;have hlt:=Ha.ok.len;have HB1:=aB (aN (aN ft.ok.We ft.ok.lo1) (aN ft.ok.hi0 ft.ok.hi1));have HB2:=aB (aN (aN Ha.ok.We Ha.ok.lo1) (aN Ha.ok.hi0 Ha.ok.hi1));have oN:Hid (jY (s.L++(s.W++(t.L++t.W)))):=by show jY _;rw[<-aS];exact ft.ok.ok.append Ha.ok.ok
 have ZY:Hid (tot (s.L++(s.W++(t.L++t.W)))=tot (s.L++s.W)+tot (t.L++t.W)):=by show _=_;rw[<-aS,dS]
 have HST:Hid (s.take d t=⟨sF d (s.L++(s.W++(t.L++t.W))),[],if tot (s.L++s.W)=0 then t.lo else min s.lo t.lo,if tot (s.L++s.W)=0 then t.hi else max s.hi t.hi⟩):=by show s.take d t=_;unfold St.take;rw[if_neg ae]
 have HX:=aB hx;obtain⟨slv,swv,sb,_⟩:=id h;obtain⟨tlv,twv,tb,_⟩:=id ht;have hg:=sb.lt;have hgt:=tb.lt;have x0:=sb.cell 0;have x5:=sb.cell 5;have y0:=tb.cell 0;have y3:=tb.cell 3;have y4:=tb.cell 4;have y5:=tb.cell 5;simp only[aF,aG,aC] at x0 x5 y0 y3 y4 y5;have Y3:=aB y3;have Y4:=aB y4;have hdd:(d != d)=false:=ag
 have htz:(tot (t.L++t.W) == 0)=false:=beq_eq_false_iff_ne.2 ae
 have hcb:decide (281474976710656 - tot (s.L++s.W)<tot (t.L++t.W))=false:=decide_eq_false ae
 have EW:=aB (IntWalk.u64_in (281474976710656 - tot (s.L++s.W)) ae)
 clear h ht hx sb tb y3 y4 ft Ha
 go_enter Tryz.func77,Tryz.ntmps77
 go_wp2_with fail
 go_quiet (fail)
 go_wp2_with fail;have ew:=EW.out
 go_quiet (fail)
 clear ew
 go_upto_region 10 with fail;refine dJ (fun w'=>Below w.heap.size w w') 9 [(0,true),(1,true),(2,true),(3,true),(4,true),(5,true),(6,true),(7,true),(8,true)] (by kernel_rfl) (by kernel_rfl) ((below_drewN (aH _ _) _).drew) ?_
 iterate 9
  refine dK ax  ax (fun R hR=>?_)
  apply aJ
  refine⟨fun w' hS'=>?_,?_⟩
  ·have k3:=(hS'.cell (p:=⟨gt,3,none⟩) hgt).trans Y3.out
   have k4:=(hS'.cell (p:=⟨gt,4,none⟩) hgt).trans Y4.out
   go_simp;exact⟨rfl,rfl⟩
  go_simp;refine hR _ ?_;clear hR R
 refine dQ ?_
 simp only[bD,bQ]
 go_wp2_with fail;refine(JE t.lo t.hi _ (Dg.keep H.out (below_drewN (aH _ _) _).drew) HB1.out.1 HB1.out.2 HB2.out.1 HB2.out.2 ⟨s0,ae⟩).mono ?_
 rintro e w1 ⟨rfl,X1,T1⟩;have T1':Hid (Touch (fun k=>k=g) w w1):=aB ((Touch.of_below (F:=fun k=>k=g) (below_drewN (aH w.heap.size w) _).drew (aK _)).trans T1 (fun i hi=>.inl hi))
 have TD1:Hid (∃lo2 hi2:Int,Dg w1 gt Ft d t.L t.W lo2 hi2 (tot (t.L++t.W))):=by
  rcases HX.out with⟨rfl,rfl,rfl⟩|hd
  ·exact⟨_,_,X1⟩
  ·exact⟨t.lo,t.hi,Dg.stay HT.out (fun k hk=>T1'.out.block k (Dg.low HT.out k hk) (fun e=>hd g (Dg.mem H.out) (e▸hk))) T1'.out.size⟩
 have ZA:=aB X1;have hz1:=T1'.out.size;clear X1 T1 x0 x5 y0 y5 hcb hdd htz
 go_wp2_with fail;refine dO ?_
 obtain⟨lo2,hi2,tlv,twv,tb,tol,tow,tF⟩:=TD1.out;obtain⟨A,ca,rfl,na,ma,fa⟩:=tol.form;obtain⟨B,cb,rfl,nb,mb,fb⟩:=tow.form;have hgt1:=tb.lt;have t1:=tb.cell 1;have t2:=tb.cell 2;have t5:=tb.cell 5;simp only[aF,aG,aC] at t1 t2 t5;have Q1:=aB t1;have Q2:=aB t2;have Q5:=aB t5;have TL:=aB tol.rd;have TW:=aB tow.rd;have bo5:g<w1.heap.size:=Dg.lt ZA.out;clear tb tol tow tF fa fb t1 t2 t5 TD1
 go_wp2_with fail;refine dD (fun w'=>Below w1.heap.size w1 w') [(0,true),(1,true),(2,true),(3,true),(4,true),(5,true),(6,true),(7,true),(8,false),(9,false),(10,true)] (by kernel_rfl) (by kernel_rfl) ((aH _ _).drew) ?_
 iterate 8
  refine dC ax  ax (fun R hR=>?_)
  apply aJ
  refine⟨fun w' hS'=>?_,?_⟩
  ·have k1:=(hS'.cell (p:=⟨gt,1,none⟩) hgt1).trans Q1.out
   have k2:=(hS'.cell (p:=⟨gt,2,none⟩) hgt1).trans Q2.out
   go_simp;exact⟨rfl,rfl⟩
  go_simp;refine hR _ ?_;clear hR R
 refine dE ax  ax (fun K hK=>?_)
 go_simp;refine hK _ _ (((aH _ _).drew).alloc aj _) ?_
 clear hK K;refine dE ax  ax (fun K hK=>?_)
 go_simp;have hrow:Ce (w1.drew.alloc (.cells #[.slice A t.L.length ca,.slice B t.W.length cb] 149)) w1.heap.size [t.L,t.W]:=QI (TL.out.keep (((aH _ _).drew).alloc aj _)) (TW.out.keep (((aH _ _).drew).alloc aj _))
 refine(JC w1.heap.size [t.L,t.W] _ aj hrow ag ah).mono ?_
 rintro e w3 ⟨v3,rfl,o3,hb3⟩;have hbw3:Below w1.heap.size w1 w3:=(((aH _ _).drew).alloc aj _).trans (hb3.mono aj)
 have hz3:=hbw3.size;rw[show([t.L,t.W]:List (List Mn)).flatten=t.L++t.W by simp] at o3
 have O3:=aB o3;clear o3;refine hK _ _ (hbw3) ?_
 clear hK K
 iterate 1
  refine dC ax  ax (fun R hR=>?_)
  apply aJ
  refine⟨fun w' hS'=>?_,?_⟩
  ·have k1:=(hS'.cell (p:=⟨gt,1,none⟩) hgt1).trans Q1.out
   have k2:=(hS'.cell (p:=⟨gt,2,none⟩) hgt1).trans Q2.out
   go_simp;exact⟨rfl,rfl⟩
  go_simp;refine hR _ ?_;clear hR R
 refine dF ?_
 obtain⟨A9,c9,rfl,n9,m9,f9⟩:=O3.out.form;clear f9;have X3:=aB (Dg.keep ZA.out hbw3);have r5:=(hbw3.cell (p:=⟨gt,5,none⟩) hgt1).trans Q5.out;obtain⟨lv3,wv3,b3,l3,x3,hF3⟩:=X3.out;obtain⟨B3,cb3,rfl,nb3,mb3,fb3⟩:=x3.form;have z5:=b3.cell 5;have u5:=b3.frozen 5;simp only[aF,aG,aC] at z5;have NL1:=b3.jU l3 af
 have NR:=b3.jU x3 af
 have BB3:=aB b3;have L3:=aB l3;have W3:=aB x3;have HF:=aB hF3;have EW2:=aB (IntWalk.u64_in (tot (s.L++s.W)+tot (t.L++t.W)) ae)
 clear b3 l3 x3 hF3 fb3
 go_wp2_with fail;refine dJ (fun w'=>Below w3.heap.size w3 w') 11 [(0,true),(1,true),(2,true),(3,true),(4,true),(5,true),(6,true),(7,true),(8,true),(9,true),(10,true)] (by kernel_rfl) (by kernel_rfl) ((aH _ _).drew) ?_
 iterate 11
  refine dK ax  ax (fun R hR=>?_)
  apply aJ
  refine⟨fun w' hS'=>?_,?_⟩
  ·have k5:=(hS'.cell (p:=⟨g,5,none⟩) (by show g<_;omega)).trans z5
   have j5:=(hS'.cell (p:=⟨gt,5,none⟩) (by show gt<_;omega)).trans r5
   have ew:=EW2.out
   go_simp;exact⟨rfl,rfl⟩
  go_simp;refine hR _ ?_;clear hR R
 refine dQ ?_
 simp only[bD,bQ]
 go_wp2_with fail;refine dO ?_
 have O3':Hid (dU (w1.drew.alloc (.cells #[.slice A t.L.length ca,.slice B t.W.length cb] 149)).heap.size w3 (.slice A9 (t.L.length+t.W.length) c9) (t.L++t.W)):=by have:=O3.out;rw[aI] at this;exact this
 go_upto_region 13 with fail;have T3:Hid (Touch (fun k=>k=g) w (w3.setCell ⟨g,5,none⟩ (.int .u64 (tot (s.L++s.W)+tot (t.L++t.W)))).drew):=aB ((touch_of (hbw3) T1'.out).setCell (p:=⟨g,5,none⟩) (.inl rfl) (.int .u64 (tot (s.L++s.W)+tot (t.L++t.W)))).drew
 have Xa:(w3.setCell ⟨g,5,none⟩ (.int .u64 (tot (s.L++s.W)+tot (t.L++t.W)))).drew.heap.size=w3.heap.size:=by show(w3.setCell _ _).heap.size=_;exact bZ ..
 have mG:w3.heap.size<=(w3.setCell ⟨g,5,none⟩ (.int .u64 (tot (s.L++s.W)+tot (t.L++t.W)))).drew.heap.size:=by rw[Xa];exact aK _
 have B4:Hid (dH (w3.setCell ⟨g,5,none⟩ (.int .u64 (tot (s.L++s.W)+tot (t.L++t.W)))).drew g _ _):=aB (BB3.out.dP 5 (.int .u64 (tot (s.L++s.W)+tot (t.L++t.W))));have L4:Hid (dU 0 (w3.setCell ⟨g,5,none⟩ (.int .u64 (tot (s.L++s.W)+tot (t.L++t.W)))).drew lv3 s.L):=aB (L3.out.far (p:=⟨g,5,none⟩) NL1 _);have X4:Hid (dU 0 (w3.setCell ⟨g,5,none⟩ (.int .u64 (tot (s.L++s.W)+tot (t.L++t.W)))).drew (.slice B3 s.W.length cb3) s.W):=aB (W3.out.far (p:=⟨g,5,none⟩) NR _);have M4:Hid (dU w1.heap.size (w3.setCell ⟨g,5,none⟩ (.int .u64 (tot (s.L++s.W)+tot (t.L++t.W)))).drew (.slice A9 (t.L.length+t.W.length) c9) (t.L++t.W)):=aB ((O3'.out.more aj).far (p:=⟨g,5,none⟩) (fun e=>by have h9:=(O3'.out.lt _ e).1;simp only[aO,World.size_drew] at h9;have h8:w1.heap.size<=g:=(by show _<=(⟨g,5,none⟩:Addr).block;omega);omega) _)
 have HF4:Hid (∀k1,F k1->k1<(w3.setCell ⟨g,5,none⟩ (.int .u64 (tot (s.L++s.W)+tot (t.L++t.W)))).drew.heap.size):=fun k1 hf=>(by rw[Xa];exact HF.out.2.2.2.2 k1 hf)
 have HZ9:=aB Xa;clear Xa z5 u5 r5;generalize (w3.setCell ⟨g,5,none⟩ (.int .u64 (tot (s.L++s.W)+tot (t.L++t.W)))).drew=w4 at *;have q2:=B4.out.cell 2;have r2:=B4.out.frozen 2;simp only[aF,aG,aC,bP,List.set_cons_succ,List.set_cons_zero] at q2;have Em:(t.L++t.W).length=t.L.length+t.W.length:=aI ..;have HL9:=aB Em;clear Em;have YU:s.W.length+(t.L++t.W).length<=1099511627776:=by rw[HL9.out];omega
 go_upto_region 14 with(first|(at_builtin;go_must (refine gm rfl (.tmp 74) (.tmp 75) rfl 0 (.slice B3 s.W.length cb3) s.W rfl X4.out (.slice A9 (t.L.length+t.W.length) c9) (t.L++t.W) rfl M4.out.rd YU (bW _) ?_);intro v5 w5 o5 g5 a5;have b5:=(g5.block g B4.out.lt (fun e=>NR e.symm)).trans B4.out;obtain⟨A5,c5,rfl,n5,m5,f5⟩:=o5.form;have s2:=dH.cell b5 2;have u2:=dH.frozen b5 2;simp only[aF,aG,aC,bP,List.set_cons_succ,List.set_cons_zero] at s2;have B5:Hid (dH w5 g _ _):=aB b5;have O5:=aB o5;clear b5 o5 f5 q2 r2;go_simp))
 have KF:Hid (∃(F':Nat->Prop),(∀k,F' k->F k\/w.heap.size<=k)/\Dg (w5.setCell ⟨g,2,none⟩ (.slice A5 (s.W.length+(t.L.length+t.W.length)) c5)) g F' d s.L (s.W++(t.L++t.W)) (if tot (s.L++s.W)=0 then t.lo else min s.lo t.lo) (if tot (s.L++s.W)=0 then t.hi else max s.hi t.hi) (tot (s.L++(s.W++(t.L++t.W))))/\Touch F w (w5.setCell ⟨g,2,none⟩ (.slice A5 (s.W.length+(t.L.length+t.W.length)) c5))):=by
  obtain⟨p1,p2,p3,p4,p5⟩:=HF.out;have hlen3:(s.W++(t.L++t.W)).length=s.W.length+(t.L.length+t.W.length):=ag
  have O5':=O5.out;rw[hlen3] at O5' a5;have T5:Touch F w w5:=(T3.out.mono (fun i (hi:i=g)=>hi▸p1)).grown g5 (fun k1 hk1=>.inl (p3 k1 hk1))
  have T6:=T5.setCell (p:=⟨g,2,none⟩) (.inl p1) (.slice A5 (s.W.length+(t.L.length+t.W.length)) c5);have NS:∀k1,(Value.slice A5 (s.W.length+(t.L.length+t.W.length)) c5).ownBlock=some k1->F k1\/k1=w4.heap.size:=fun k1 e=>by
   rcases a5 with e3|e3
   ·exact .inl (p3 k1 (by rw[<-e3];exact e))
   ·rw[e3] at e;simp only[bC] at e;exact .inr e.symm
  have sz3:w4.heap.size<=w5.heap.size:=g5.size;have hg4:=B4.out.lt;have ng3:(Value.slice A5 (s.W.length+(t.L.length+t.W.length)) c5).ownBlock≠some g:=fun e=>by
   rcases a5 with e3|e3
   ·exact NR (by rw[<-e3];exact e)
   ·rw[e3] at e;simp only[bC] at e;omega
  have L5:dU 0 w5 lv3 s.L:=L4.out.stay fun k1 e=>g5.block k1 (HF4.out k1 (p2 k1 e)) (fun e2=>p4 k1 e2.symm e)
  have B5':=B5.out;rw[<-ZY.out] at B5';refine⟨fun k1=>F k1\/(Value.slice A5 (s.W.length+(t.L.length+t.W.length)) c5).ownBlock=some k1,?_,⟨lv3,_,B5'.dP 2 _,L5.far (p:=⟨g,2,none⟩) (fun e=>B5.out.jU L5 af e) _,O5'.far (p:=⟨g,2,none⟩) ng3 (.slice A5 (s.W.length+(t.L.length+t.W.length)) c5),.inl p1,fun k1 e=>.inl (p2 k1 e),fun k1 e=>.inr e,?_,?_⟩,T6⟩
  ·rintro k1 (hf|e)
   ·exact .inl hf
   ·rcases NS k1 e with hf|hf
    ·exact .inl hf
    ·exact .inr (by have:=T3.out.size;omega)
  ·intro k1 e e2
   rcases a5 with e3|e3
   ·exact p4 k1 (by rw[<-e3];exact e) e2
   ·rw[e3] at e;simp only[bC] at e
    have:=HF4.out k1 (p2 k1 e2);omega
  ·intro k1 hk1
   rw[bZ]
   rcases hk1 with hf|e
   ·have:=HF4.out k1 hf;omega
   ·exact(O5'.lt k1 e).2
 clear B5 O5 s2 u2 g5 a5;generalize w5.setCell ⟨g,2,none⟩ (.slice A5 (s.W.length+(t.L.length+t.W.length)) c5)=w6 at *;obtain⟨F1,f1,f2,f3⟩:=KF.out;have LP:s.L.length+(s.W++(t.L++t.W)).length<=100000000:=by simp only[aI];omega
 have ht6:tot (s.L++(s.W++(t.L++t.W)))<=281474976710656:=by rw[ZY.out];omega
 have ba2:s.L++(s.W++(t.L++t.W))≠[]:=fun e=>by have:=ZY.out;rw[e] at this;simp only[tot] at this;omega
 have PC:=aB (F_ g F1 d _ _ s.L (s.W++(t.L++t.W)) w6 f2 oN.out ba2 LP ht6 ae d1)
 have T6:=aB f3;have F6:=aB f1;clear f1 f2 f3 LP ht6 ba2 KF
 go_wp2_with fail;refine(PC.out).mono ?_
 rintro e w7 ⟨rfl,F2,g1,g2,g3⟩;have G1:=aB g1;have G2:=aB g2;have G3:=aB g3;have hs6:=T6.out.size;clear g1 g2 g3
 go_wp2_with fail;refine bodyPost_ret (by simp[results,Tryz.results77,go_sem, *];try rfl) rfl ?_
 refine⟨rfl,F2,?_,?_,T6.out.trans G3.out (fun i hi=>F6.out i hi)⟩
 ·intro k1 h1
  rcases G1.out k1 h1 with h2|h2
  ·exact F6.out k1 h2
  ·exact .inr ae
 ·rw[HST.out]
  unfold NU;simp only[List.append_nil,Aq];exact G2.out
end
section
open Go.RowKit Go.Lib
theorem zi{g gt:Nat}{F Ft:Nat->Prop}{d:Int}{s t:St}{k kt:Nat}(w:World)(h:yK w g F d s)(ht:yK w gt Ft d t)(_hx:(gt=g/\Ft=F/\t=s)\/(∀k,F k->¬Ft k))(ft:Fit d s k)(Ha:Fit d t kt)(hk:k+kt<=100000000)
 (hcap:tot (t.L++t.W)<=281474976710656 - tot (s.L++s.W)) (hne:0<tot (t.L++t.W)) :
 Calls Tryz.prog 93 #[.pointer (some ⟨g,0,none⟩),.pointer (some ⟨gt,0,none⟩)] w fun e w'=>e=.returned (.int .i64 0)/\∃F':Nat->Prop,(∀k,F' k->F k\/w.heap.size<=k)/\yK w' g F' d (s.take d t)/\Touch F w w':=by
 have H:=aB h;have HT:=aB ht;have s0:=ft.ok.jA;have s1:=ft.t;have d0:=ft.d0;have d1:=ft.d1;have hls:=ft.ok.len;have hlt:=Ha.ok.len;have Nu:=aB ft.ok.ok;have AU:=aB Ha.ok.ok;have oN:Hid (jY (s.L++(s.W++(t.L++t.W)))):=by show jY _;rw[<-aS];exact ft.ok.ok.append Ha.ok.ok
 have ZY:Hid (tot (s.L++(s.W++(t.L++t.W)))=tot (s.L++s.W)+tot (t.L++t.W)):=by show _=_;rw[<-aS,dS]
 have hnz:(s.L.length+s.W.length=0)<->tot (s.L++s.W)=0:=by
  rw[ft.ok.yE];constructor
  ·intro h;exact aW (by rw[aI];exact h)
  ·intro h;rw[<-aI,h];rfl
 have EN:Hid (∀w1,sU w1 g F d s.L s.W s.lo s.hi->Calls Tryz.prog 190 #[.pointer (some ⟨g,0,none⟩),.int .i64 t.lo,.int .i64 t.hi] w1 fun e w'=>e=.returned (.tuple #[])/\sU w' g F d s.L s.W (if tot (s.L++s.W)=0 then t.lo else min s.lo t.lo) (if tot (s.L++s.W)=0 then t.hi else max s.hi t.hi)/\Touch (fun k=>k=g) w1 w'):=by
  intro w1 hb;have:=Gf t.lo t.hi w1 hb ae
  simp only[hnz] at this;exact this
 have HST:Hid (s.take d t=⟨sF d (s.L++(s.W++(t.L++t.W))),[],if tot (s.L++s.W)=0 then t.lo else min s.lo t.lo,if tot (s.L++s.W)=0 then t.hi else max s.hi t.hi⟩):=by show s.take d t=_;unfold St.take;rw[if_neg ae]
 generalize (if tot (s.L++s.W)=0 then t.lo else min s.lo t.lo)=lo1 at EN HST
 generalize (if tot (s.L++s.W)=0 then t.hi else max s.hi t.hi)=hi1 at EN HST
 have hlen0:t.L.length+t.W.length≠0:=fun e=>by
  have:t.L++t.W=[]:=aW (by rw[aI];exact e)
  rw[this] at hne;simp[tot] at hne
 have hlb:(((t.L.length:Int)+(t.W.length:Int)) == 0)=false:=beq_eq_false_iff_ne.2 ae
 have hlc:0<t.L.length+t.W.length:=ae
 obtain⟨slv,swv,sb,_⟩:=id h;obtain⟨tlv,twv,tb,_⟩:=id ht;have hg:=sb.lt;have hgt:=tb.lt;have x0:=sb.cell 0;have y0:=tb.cell 0;have y3:=tb.cell 3;have y4:=tb.cell 4;simp only[aF,aG,aC] at x0 y0 y3 y4;have Y3:=aB y3;have Y4:=aB y4;have hdd:(d != d)=false:=ag
 clear h ht _hx sb tb y3 y4 ft Ha hnz hlen0
 go_enter Tryz.func93,Tryz.ntmps93
 go_wp2_with fail
 go_quiet (fail)
 go_wp2_with fail;have CA:=fun q=>aB (jC gt Ft d t.lo t.hi t.L t.W (w.drewN q) (sU.keep HT.out (below_drewN (aH _ _) q)) ae)
 refine((CA _).out).mono ?_
 rintro e w1 ⟨v1,rfl,o1,hb1'⟩;clear CA;have hb1:Below w.heap.size w w1:=(below_drewN (aH _ _) _).trans hb1';have hz1:=hb1.size;obtain⟨A1,c1,rfl,n1,m1,f1⟩:=o1.form;have Em:(t.L++t.W).length=t.L.length+t.W.length:=aI ..;have O1:Hid (dU w.heap.size w1 (.slice A1 (t.L.length+t.W.length) c1) (t.L++t.W)):=aB (by rw[Em] at o1;exact o1)
 rw[Em];have HL9:=aB Em;clear o1 f1 hb1' Em
 go_wp2_with fail;refine(fE _ (t.L++t.W) w1 O1.out.rd AU.out ae).mono ?_
 rintro e w2 ⟨rfl,hb2⟩;have hbw2:Below w.heap.size w w2:=hb1.trans (hb2.mono hz1);have hz2:=hbw2.size
 go_wp2_with fail;refine(jC g F d s.lo s.hi s.L s.W w2 (sU.keep H.out hbw2) ae).mono ?_
 rintro e w3 ⟨v3,rfl,o3,hb3⟩;have hbw3:Below w.heap.size w w3:=hbw2.trans (hb3.mono hz2);have hz3:=hbw3.size;have O3:=aB o3;clear o3
 go_wp2_with fail;refine(fE v3 (s.L++s.W) w3 O3.out.rd Nu.out ae).mono ?_
 rintro e w4 ⟨rfl,hb4⟩;have uS:Below w.heap.size w w4:=hbw3.trans (hb4.mono hz3);have mG:=uS.size;have O4:=aB (O1.out.keep ((hb2.trans (hb3.mono hb2.size)).trans (hb4.mono (by have:=hb2.size;have:=hb3.size;omega))))
 have D4:=aB (sU.keep H.out uS);have j3:=(uS.cell (p:=⟨gt,3,none⟩) hgt).trans Y3.out;have j4:=(uS.cell (p:=⟨gt,4,none⟩) hgt).trans Y4.out;clear x0 y0 hdd
 go_upto_region 8 with fail;refine dJ (fun w'=>Below w4.heap.size w4 w') 9 [(0,true),(1,true),(2,true),(3,true),(4,true),(5,true),(6,true),(7,true),(8,true)] (by kernel_rfl) (by kernel_rfl) ((aH _ _).drew) ?_
 iterate 9
  refine dK ax  ax (fun R hR=>?_)
  apply aJ
  refine⟨fun w' hS'=>?_,?_⟩
  ·have k3:=(hS'.cell (p:=⟨gt,3,none⟩) (by show gt<_;omega)).trans j3
   have k4:=(hS'.cell (p:=⟨gt,4,none⟩) (by show gt<_;omega)).trans j4
   go_simp;exact⟨rfl,rfl⟩
  go_simp;refine hR _ ?_;clear hR R
 refine dQ ?_
 simp only[bD,bQ]
 go_wp2_with fail;refine(EN.out _ (sU.keep D4.out (aH _ _).drew)).mono ?_
 rintro e w5 ⟨rfl,⟨lv5,wv5,b5,l5,x5,hF5⟩,T5'⟩;have T5:Hid (Touch (fun k=>k=g) w w5):=aB ((Touch.of_below (F:=fun k=>k=g) uS.drew (aK _)).trans T5' (fun i hi=>.inl hi))
 obtain⟨B5,cb5,rfl,nb5,mb5,fb5⟩:=x5.form;have JO:=T5'.size;have O5:=aB (O4.out.stay fun k e=>T5'.block k (O4.out.lt k e).2 (fun e2=>by have:=(O4.out.lt k e).1;omega))
 have q2:=b5.cell 2;have r2:=b5.frozen 2;simp only[aF,aG,aC] at q2;have NR:=b5.jU x5 af
 have BB:=aB b5;have L5:=aB l5;have X5:=aB x5;have HF:=aB hF5;clear b5 l5 x5 hF5 fb5 T5' j3 j4
 go_wp2_with fail;refine dO ?_
 have YU:s.W.length+(t.L++t.W).length<=1099511627776:=by rw[HL9.out];omega
 go_upto_region 10 with(first|(at_builtin;go_must (refine gm rfl (.tmp 41) (.tmp 42) rfl 0 (.slice B5 s.W.length cb5) s.W rfl X5.out (.slice A1 (t.L.length+t.W.length) c1) (t.L++t.W) rfl O5.out.rd YU (bW _) ?_);intro v6 w6 o6 g6 a6;have b6:=(g6.block g BB.out.lt (fun e=>NR e.symm)).trans BB.out;obtain⟨A6,c6,rfl,n6,m6,f6⟩:=o6.form;have s2:=dH.cell b6 2;have u2:=dH.frozen b6 2;simp only[aF,aG,aC] at s2;have B6:Hid (dH w6 g _ _):=aB b6;have O6:=aB o6;clear b6 o6 f6 q2 r2;go_simp))
 have KF:Hid (∃(F':Nat->Prop),(∀k,F' k->F k\/w.heap.size<=k)/\sU (w6.setCell ⟨g,2,none⟩ (.slice A6 (s.W.length+(t.L.length+t.W.length)) c6)) g F' d s.L (s.W++(t.L++t.W)) lo1 hi1/\Touch F w (w6.setCell ⟨g,2,none⟩ (.slice A6 (s.W.length+(t.L.length+t.W.length)) c6))):=by
  obtain⟨p1,p2,p3,p4,p5⟩:=HF.out;have hlen3:(s.W++(t.L++t.W)).length=s.W.length+(t.L.length+t.W.length):=ag
  have O6':=O6.out;rw[hlen3] at O6' a6;have T6:Touch F w w6:=(T5.out.mono (fun i (hi:i=g)=>hi▸p1)).grown g6 (fun k1 hk1=>.inl (p3 k1 hk1))
  have T7:=T6.setCell (p:=⟨g,2,none⟩) (.inl p1) (.slice A6 (s.W.length+(t.L.length+t.W.length)) c6);have NS:∀k1,(Value.slice A6 (s.W.length+(t.L.length+t.W.length)) c6).ownBlock=some k1->F k1\/k1=w5.heap.size:=fun k1 e=>by
   rcases a6 with e3|e3
   ·exact .inl (p3 k1 (by rw[<-e3];exact e))
   ·rw[e3] at e;simp only[bC] at e;exact .inr e.symm
  have sz3:w5.heap.size<=w6.heap.size:=g6.size;have hg4:=BB.out.lt;have ng3:(Value.slice A6 (s.W.length+(t.L.length+t.W.length)) c6).ownBlock≠some g:=fun e=>by
   rcases a6 with e3|e3
   ·exact NR (by rw[<-e3];exact e)
   ·rw[e3] at e;simp only[bC] at e;omega
  have L6:dU 0 w6 lv5 s.L:=L5.out.stay fun k1 e=>g6.block k1 (p5 k1 (p2 k1 e)) (fun e2=>p4 k1 e2.symm e)
  refine⟨fun k1=>F k1\/(Value.slice A6 (s.W.length+(t.L.length+t.W.length)) c6).ownBlock=some k1,?_,⟨lv5,_,B6.out.dP 2 _,L6.far (p:=⟨g,2,none⟩) (fun e=>B6.out.jU L6 af e) _,O6'.far (p:=⟨g,2,none⟩) ng3 (.slice A6 (s.W.length+(t.L.length+t.W.length)) c6),.inl p1,fun k1 e=>.inl (p2 k1 e),fun k1 e=>.inr e,?_,?_⟩,T7⟩
  ·rintro k1 (hf|e)
   ·exact .inl hf
   ·rcases NS k1 e with hf|hf
    ·exact .inl hf
    ·exact .inr (by have:=T5.out.size;omega)
  ·intro k1 e e2
   rcases a6 with e3|e3
   ·exact p4 k1 (by rw[<-e3];exact e) e2
   ·rw[e3] at e;simp only[bC] at e
    have:=p5 k1 (p2 k1 e2);omega
  ·intro k1 hk1
   rw[bZ]
   rcases hk1 with hf|e
   ·have:=p5 k1 hf;omega
   ·exact(O6'.lt k1 e).2
 clear B6 O6 s2 u2 g6 a6;generalize w6.setCell ⟨g,2,none⟩ (.slice A6 (s.W.length+(t.L.length+t.W.length)) c6)=w7 at *;obtain⟨F1,f1,f2,f3⟩:=KF.out;have LP:s.L.length+(s.W++(t.L++t.W)).length<=100000000:=by simp only[aI];omega
 have ht6:tot (s.L++(s.W++(t.L++t.W)))<=281474976710656:=by rw[ZY.out];omega
 have PC:=aB (Ci g F1 d _ _ s.L (s.W++(t.L++t.W)) w7 f2 oN.out LP ht6 ae d1)
 have T7:=aB f3;have F7:=aB f1;clear f1 f2 f3 LP ht6 KF
 go_wp2_with fail;refine(PC.out).mono ?_
 rintro e w8 ⟨rfl,F2,g1,g2,g3⟩;have G1:=aB g1;have G2:=aB g2;have G3:=aB g3;have hs6:=T7.out.size;clear g1 g2 g3
 go_wp2_with fail;refine bodyPost_ret (by simp[results,Tryz.results93,go_sem, *];try rfl) rfl ?_
 refine⟨rfl,F2,?_,?_,T7.out.trans G3.out (fun i hi=>F7.out i hi)⟩
 ·intro k1 h1
  rcases G1.out k1 h1 with h2|h2
  ·exact F7.out k1 h2
  ·exact .inr ae
 ·rw[HST.out]
  unfold yK;exact G2.out
end
section
open Go.RowKit Go.Lib
def gU(s t:St):Int:=if 281474976710656 - tot (s.L++s.W)<tot (t.L++t.W) then 6 else 0
theorem ag3{g gt:Nat}{F Ft:Nat->Prop}{d:Int}{s t:St}{k kt:Nat}(w:World)(h:NU w g F d s)(ht:NU w gt Ft d t)(ft:Fit d s k)(bj6:Fit d t kt)
 (hc:281474976710656 - tot (s.L++s.W)<tot (t.L++t.W)\/tot (t.L++t.W)=0) :
 Calls Tryz.prog 77 #[.pointer (some ⟨g,0,none⟩),.pointer (some ⟨gt,0,none⟩)] w fun e w'=>e=.returned (.int .i64 (gU s t))/\Below w.heap.size w w':=by
 obtain⟨slv,swv,sb,_⟩:=h;obtain⟨tlv,twv,tb,_⟩:=ht;have x0:=sb.cell 0;have x5:=sb.cell 5;have y0:=tb.cell 0;have y5:=tb.cell 5;simp only[aF,aC,aG] at x0 y0 x5 y5;have hdd:(d != d)=false:=ag
 have s0:=ft.ok.jA;have s1:=ft.t;have EW:=aB (IntWalk.u64_in (281474976710656 - tot (s.L++s.W)) ae)
 clear sb tb ft bj6
 by_cases h6:281474976710656 - tot (s.L++s.W)<tot (t.L++t.W)
 ·have hE:Hid (gU s t=6):=if_pos h6
  have hcb:decide (281474976710656 - tot (s.L++s.W)<tot (t.L++t.W))=true:=decide_eq_true h6;clear hc
  go_enter Tryz.func77,Tryz.ntmps77
  go_wp2_with fail
  go_quiet (fail)
  go_wp2_with fail;have ew:=EW.out
  go_quiet (fail)
  clear ew
  go_wp2_with fail
  go_ret;exact⟨ik hE.out.symm,bw⟩
 ·have hE:Hid (gU s t=0):=if_neg h6
  have h0:tot (t.L++t.W)=0:=ae
  have hcb:decide (281474976710656 - tot (s.L++s.W)<0)=false:=decide_eq_false ae
  rw[h0] at y5;clear hc h0 h6
  go_enter Tryz.func77,Tryz.ntmps77
  go_wp2_with fail
  go_quiet (fail)
  go_wp2_with fail;have ew:=EW.out
  go_quiet (fail)
  clear ew
  go_wp2_with fail
  go_ret;exact⟨ik hE.out.symm,bw⟩
theorem YV{g gt:Nat}{F Ft:Nat->Prop}{d:Int}{s t:St}{k kt:Nat}(w:World)(h:yK w g F d s)(ht:yK w gt Ft d t)(ft:Fit d s k)(Ha:Fit d t kt)
 (hc:281474976710656 - tot (s.L++s.W)<tot (t.L++t.W)\/tot (t.L++t.W)=0) :
 Calls Tryz.prog 93 #[.pointer (some ⟨g,0,none⟩),.pointer (some ⟨gt,0,none⟩)] w fun e w'=>e=.returned (.int .i64 (gU s t))/\Below w.heap.size w w':=by
 have H:=aB h;have HT:=aB ht;have s0:=ft.ok.jA;have s1:=ft.t;have t0:=Ha.ok.jA;have t1:=Ha.t;have hls:s.L.length+s.W.length<=100000000:=by have:=ft.ok.len;have:=ft.k1;omega
 have hlt:t.L.length+t.W.length<=100000000:=by have:=Ha.ok.len;have:=Ha.k1;omega
 have Nu:=aB ft.ok.ok;have AU:=aB Ha.ok.ok;have hz:tot (t.L++t.W)=0->t.L.length+t.W.length=0:=fun e=>by rw[<-aI,Ha.ok.yE.1 e];rfl
 obtain⟨slv,swv,sb,_⟩:=h;obtain⟨tlv,twv,tb,_⟩:=ht;have x0:=sb.cell 0;have y0:=tb.cell 0;simp only[aF,aC] at x0 y0;have hdd:(d != d)=false:=ag
 have CA:=fun q=>aB (jC gt Ft d t.lo t.hi t.L t.W (w.drewN q) (sU.keep HT.out (below_drewN (aH _ _) q)) ae)
 have hw:(281474976710656 - tot (s.L++s.W)<tot (t.L++t.W)/\gU s t=6)\/(tot (t.L++t.W)=0/\gU s t=0/\¬281474976710656 - tot (s.L++s.W)<tot (t.L++t.W)):=by
  by_cases h6:281474976710656 - tot (s.L++s.W)<tot (t.L++t.W)
  ·exact .inl ⟨h6,if_pos h6⟩
  ·exact .inr ⟨by omega,if_neg h6,h6⟩
 clear sb tb ft Ha hc
 rcases hw with⟨h6,hE'⟩|⟨h0,hE',h6⟩
 ·have hE:=aB hE'
  clear hE' hz
  go_enter Tryz.func93,Tryz.ntmps93
  go_wp2_with fail
  go_quiet (fail)
  go_wp2_with fail;refine((CA _).out).mono ?_
  rintro e w1 ⟨v1,rfl,o1,hb1'⟩;have hb1:Below w.heap.size w w1:=(below_drewN (aH _ _) _).trans hb1';have hz1:=hb1.size;have O1:=aB o1;clear o1 hb1' CA
  go_wp2_with fail;refine(fE _ (t.L++t.W) w1 O1.out.rd AU.out ae).mono ?_
  rintro e w2 ⟨rfl,hb2⟩;have hbw2:Below w.heap.size w w2:=hb1.trans (hb2.mono hz1);have hz2:=hbw2.size
  go_wp2_with fail;refine(jC g F d s.lo s.hi s.L s.W w2 (sU.keep H.out hbw2) ae).mono ?_
  rintro e w3 ⟨v3,rfl,o3,hb3⟩;have hbw3:Below w.heap.size w w3:=hbw2.trans (hb3.mono hz2);have hz3:=hbw3.size;have O3:=aB o3;clear o3
  go_wp2_with fail;refine(fE v3 (s.L++s.W) w3 O3.out.rd Nu.out ae).mono ?_
  rintro e w4 ⟨rfl,hb4⟩;have uS:Below w.heap.size w w4:=hbw3.trans (hb4.mono hz3)
  go_wp2_with fail
  go_ret;exact⟨ik hE.out.symm,uS⟩
 ·have hE:=aB hE'
  have hl0:=hz h0;have HL0:Hid ((t.L++t.W).length=0):=by show _=0;rw[aI];exact hl0
  have H0:=aB h0;have hlb:(((t.L.length:Int)+(t.W.length:Int)) == 0)=true:=beq_iff_eq.2 ae
  have hll:t.L.length+t.W.length<=0:=ae
  clear hE' hz h0 hl0
  go_enter Tryz.func93,Tryz.ntmps93
  go_wp2_with fail
  go_quiet (fail)
  go_wp2_with fail;refine((CA _).out).mono ?_
  rintro e w1 ⟨v1,rfl,o1,hb1'⟩;have hb1:Below w.heap.size w w1:=(below_drewN (aH _ _) _).trans hb1';have hz1:=hb1.size;obtain⟨A1,c1,rfl,n1,m1,f1⟩:=o1.form;have O1:=aB o1;rw[HL0.out];rw[HL0.out] at O1;clear o1 hb1' CA f1 n1
  go_wp2_with fail;refine(fE _ (t.L++t.W) w1 O1.out.rd AU.out ae).mono ?_
  rintro e w2 ⟨rfl,hb2⟩;have hbw2:Below w.heap.size w w2:=hb1.trans (hb2.mono hz1);have hz2:=hbw2.size
  go_wp2_with fail;refine(jC g F d s.lo s.hi s.L s.W w2 (sU.keep H.out hbw2) ae).mono ?_
  rintro e w3 ⟨v3,rfl,o3,hb3⟩;have hbw3:Below w.heap.size w w3:=hbw2.trans (hb3.mono hz2);have hz3:=hbw3.size;have O3:=aB o3;clear o3
  go_wp2_with fail;refine(fE v3 (s.L++s.W) w3 O3.out.rd Nu.out ae).mono ?_
  rintro e w4 ⟨rfl,hb4⟩;have uS:Below w.heap.size w w4:=hbw3.trans (hb4.mono hz3)
  go_wp2_with fail
  go_ret;exact⟨ik hE.out.symm,uS⟩
end
open Go.RowKit Go.Lib
open Go.RowKit Go.Lib
open Go.RowKit Go.Lib
open Go.RowKit Go.Lib
open Go.RowKit Go.Lib
section
open Go.RowKit Go.Lib
theorem St.Ok.take{d:Int}{s t:St}{k kt:Nat}(h:s.Ok d k)(ht:t.Ok d kt)(hd:0<d)(hz:tot (t.L++t.W)≠0)(hs:tot (s.L++s.W)+tot (t.L++t.W)<=281474976710656) :
 ∃k':Nat,(k':Int)<=194 * d+99/\(s.take d t).Ok d k'/\tot ((s.take d t).L++(s.take d t).W)=tot (s.L++s.W)+tot (t.L++t.W):=by
 have hT:s.take d t=⟨sF d (s.L++(s.W++(t.L++t.W))),[],if tot (s.L++s.W)=0 then t.lo else min s.lo t.lo,if tot (s.L++s.W)=0 then t.hi else max s.hi t.hi⟩:=by
  unfold St.take;rw[if_neg hz]
 have hlo:(if tot (s.L++s.W)=0 then t.lo else min s.lo t.lo)<=t.lo/\(tot (s.L++s.W)≠0->(if tot (s.L++s.W)=0 then t.lo else min s.lo t.lo)<=s.lo)/\-9223372036854775808<=(if tot (s.L++s.W)=0 then t.lo else min s.lo t.lo)/\(if tot (s.L++s.W)=0 then t.lo else min s.lo t.lo)<=9223372036854775807:=by
  have:=h.We;have:=ht.We;have:=ht.lo1
  split<;>refine⟨by omega,ae,ae,ae⟩
 have hhi:t.hi<=(if tot (s.L++s.W)=0 then t.hi else max s.hi t.hi)/\(tot (s.L++s.W)≠0->s.hi<=(if tot (s.L++s.W)=0 then t.hi else max s.hi t.hi))/\(if tot (s.L++s.W)=0 then t.hi else max s.hi t.hi)<=9223372036854775807/\-9223372036854775808<=(if tot (s.L++s.W)=0 then t.hi else max s.hi t.hi):=by
  have:=h.hi1;have:=ht.hi1;have:=ht.hi0
  split<;>refine⟨by omega,ae,ae,ae⟩
 have hall:jY (s.L++(s.W++(t.L++t.W))):=by
  rw[<-aS];exact h.ok.append ht.ok
 have hne:s.L++(s.W++(t.L++t.W))≠[]:=by
  rw[<-aS];intro e;have:=List.append_eq_nil_iff.1 e;rw[this.2] at hz;exact hz rfl
 have hbd:∀m∈s.L++(s.W++(t.L++t.W)),(if tot (s.L++s.W)=0 then t.lo else min s.lo t.lo)<=m.1/\m.1<=(if tot (s.L++s.W)=0 then t.hi else max s.hi t.hi):=by
  intro m hm;rw[<-aS] at hm
  rcases cO.1 hm with h1|h1
  ·have h2:=h.bd m h1
   have h3:tot (s.L++s.W)≠0:=fun e=>by rw[h.yE.1 e] at h1;cases h1
   have:=hlo.2.1 h3;have:=hhi.2.1 h3;omega
  ·have h2:=ht.bd m h1
   omega
 have htot:tot (s.L++(s.W++(t.L++t.W)))=tot (s.L++s.W)+tot (t.L++t.W):=by rw[<-aS,dS]
 have hlen:=RN hall hbd (by omega:1<=d) ae
 have hp:=Bv d _ _ hall hbd;refine⟨(sF d (s.L++(s.W++(t.L++t.W)))).length,hlen,?_,?_⟩
 ·rw[hT]
  exact⟨by simpa using hp.1,by simpa using hp.2.2,hlo.2.2.1,hlo.2.2.2,hhi.2.2.2,hhi.2.2.1,fun e=>absurd (by simpa using e) (Qx d hne),ag,by simpa using hd,hp.2.1⟩
 ·rw[hT]
  simp[Aq,htot]
end
open Go.RowKit
end Go.Proofs.YtkiebccnpheloaaGreat
namespace Go.Proofs.YtkiebccnpheloaaGreat.K
open Go.RowKit
open Go.RowKit
open Go.RowKit
open Go.RowKit
open Go.RowKit
open Go.RowKit
open Go.RowKit
theorem Vo{K led:Nat}{L:LL}(h:Fit K L led)(h8:8<=K)(hk:K<=4096)(he:L.length=0->led=0):iw K L led:=
 ⟨by omega,ae,h.ok.Ag,h.ok.led,he,h.ok.top,fun j hj=>by rw[bY];exact⟨wF h.none j hj,h.ok.gY j⟩,h.ok.VU⟩
theorem YW{L:LL}(h:L.length=0):wt L=0:=by rw[aW h];rfl
theorem kM{L:LL}{x:Int}:x∈tX L<->∃h,x∈lvl L h:=by
 unfold tX;rw[List.mem_flatten];constructor
 ·rintro ⟨l,hl,hx⟩
  obtain⟨h,hh,rfl⟩:=List.getElem_of_mem hl;exact⟨h,by rw[jV hh];exact hx⟩
 ·rintro ⟨h,hx⟩
  rcases bJ h L.length with hh|hh
  ·exact⟨L[h],bu hh,by rw[<-jV hh];exact hx⟩
  ·rw[qB hh] at hx;cases hx
theorem IZ{L:LL}{h:Nat}{vs:List Int}{x:Int}(hx:x∈tX (jP L h vs)):x∈tX L\/x∈vs:=by
 obtain⟨j,hj⟩:=kM.1 hx;rw[kK] at hj
 split at hj
 ·rcases XM.1 hj with h1|h1
  ·exact .inl (kM.2 ⟨_,h1⟩)
  ·exact .inr h1
 ·exact .inl (kM.2 ⟨_,hj⟩)
theorem YX{L:LL}{h y:Nat}{x:Int}(hh:h<L.length)(hy:y<=1)(hx:x∈tX (kZ L h y)):x∈tX L:=by
 unfold kZ at hx
 rcases IZ hx with h1|h1
 ·obtain⟨j,hj⟩:=kM.1 h1
  rw[nI _ _ _ _ hh] at hj
  split at hj
  ·exact kM.2 ⟨h,List.mem_of_mem_drop hj⟩
  ·exact kM.2 ⟨j,hj⟩
 ·unfold XQ at h1
  obtain⟨i,hi,rfl⟩:=List.mem_map.1 h1;have hi':=List.mem_range.1 hi;have hlt:2 * i+y<(lvl L h).length:=ae
  rw[List.getD,aY hlt,Option.getD_some];exact kM.2 ⟨h,bu hlt⟩
theorem He{k:Nat}{B:List Int}{s:KS}{x:Int}(hx:x∈tX (gB k B s).1):x∈tX s.1:=by
 have:=wH (k:=k) (B:=B) (P:=fun t=>∀x∈tX t.1,x∈tX s.1) (fun t h hs e=>fun x hx=>hs x (YX (jW e).1 (uH B t.2.2) hx)) (s:=s) (fun x hx=>hx)
 exact this x hx
theorem LQ:∀(f h m:Nat) (L:LL) (v:Int) {x:Int},x∈tX (nM f h m L v)->x∈tX L\/x=v
 | 0,_,_,_,_,x,hx=>.inl hx
 | f+1,h,m,L,v,x,hx=>by
  rw[nM] at hx
  split at hx
  ·exact .inl hx
  ·rcases LQ f _ _ _ v hx with h1|h1
   ·split at h1
    ·rcases IZ h1 with h2|h2
     ·exact .inl h2
     ·exact .inr (by simpa using h2)
    ·exact .inl h1
   ·exact .inr h1
theorem Hf(M L:LL):∀j {x:Int},x∈tX (takeN M j L)->x∈tX L\/x∈tX M
 | 0,_,hx=>.inl hx
 | j+1,x,hx=>by
  rw[takeN] at hx
  rcases IZ hx with h1|h1
  ·exact Hf M L j h1
  ·exact .inr (kM.2 ⟨j,h1⟩)
end Go.Proofs.YtkiebccnpheloaaGreat.K
