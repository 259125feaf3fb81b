/- Parts of a proof. No condition. -/
import Derived.Test.YtilcnjbpmoijmaaGreatPw07
set_option maxRecDepth 100000
set_option maxHeartbeats 16000000
set_option linter.unusedVariables false
set_option linter.unusedSimpArgs false
namespace Go.Proofs.YtilcnjbpmoijmaaGreat
open Tryz
open Go.RowKit Go.Lib
variable{w w':World}{g t:Nat}{F:Nat->Prop}{d hi lo n:Int}{L W:List Mn}
def Dg(w:World)(g:Nat)(F:Nat->Prop)(d:Int)(L W:List Mn)(lo hi n:Int):Prop:=
 ∃lv wv,dK w g 199 #[.int .i64 d,lv,wv,.int .i64 lo,.int .i64 hi,.int .u64 n]/\fA 0 w lv L/\fA 0 w wv W/\F g/\(∀k,lv.ownBlock=some k->F k)/\(∀k,wv.ownBlock=some k->F k) /\
  (∀k,wv.ownBlock=some k->lv.ownBlock≠some k)/\(∀k,F k->k<w.heap.size)
theorem Dg.stay{w w':World}{g:Nat}{F:Nat->Prop}{d lo hi n:Int}{L W:List Mn}(h:Dg w g F d L W lo hi n)(hk:∀k,F k->w'.heap[k]?=w.heap[k]?)(hz:w.heap.size<=w'.heap.size):Dg w' g F d L W lo hi n:=by
 obtain⟨lv,wv,hb,hl,hw,hg,h1,h2,h3,h4⟩:=h;exact⟨lv,wv,(hk g hg).trans hb,hl.stay fun k e=>hk k (h1 k e),hw.stay fun k e=>hk k (h2 k e),hg,h1,h2,h3,fun k hf=>bF (h4 k hf) hz⟩
theorem Dg.keep(h:Dg w g F d L W lo hi n)(hb:Below w.heap.size w w'):Dg w' g F d L W lo hi n:=by
 have h4:=h;obtain⟨lv,wv,_,_,_,_,_,_,_,h4⟩:=h4;exact h.stay (fun k hk=>hb.block k (h4 k hk)) hb.size
theorem Kr{a b:Value}(h1:qw (w.alloc (.cells #[a,b] t)) a L)(h2:qw (w.alloc (.cells #[a,b] t)) b W):Ce (w.alloc (.cells #[a,b] t)) w.heap.size [L,W]:=by
 intro i hi;have:i=0\/i=1:=by simp at hi;omega
 rcases this with rfl|rfl
 ·exact⟨a,by simp[World.cell?_alloc_new],h1⟩
 ·exact⟨b,by simp[World.cell?_alloc_new],h2⟩
structure PrS(g:Nat)(d:Int)(B:Option Addr)(n c:Nat)(t:Int)(w w':World):Prop where
 touch:Touch (fun k=>k=g) w w'
 c0:w'.cell? ⟨g,0,none⟩=some (.int .i64 d)
 c2:w'.cell? ⟨g,2,none⟩=some (.slice B n c)
 c5:w'.cell? ⟨g,5,none⟩=some (.int .u64 t)
theorem PrS.dQ{B:Option Addr}{n c:Nat}{t:Int}(h:PrS g d B n c t w w')(v:Value):PrS g d B n c t w (w'.setCell ⟨g,1,none⟩ v):=
 ⟨h.touch.setCell (.inl rfl) v,(World.cell?_setCell_other _ _ _ _ ag).trans h.c0,(World.cell?_setCell_other _ _ _ _ ag).trans h.c2,(World.cell?_setCell_other _ _ _ _ ag).trans h.c5⟩
theorem Wy(g:Nat)(F:Nat->Prop)(d lo hi:Int)(L W:List Mn)(w:World)(h:Dg w g F d L W lo hi (tot (L++W)))(ho:mi (L++W))(hne:L++W≠[])(hlen:L.length+W.length<=100000000)(ht:tot (L++W)<=281474976710656)(d0:0<=d)(d1:d<=1000) :
 aH 136 #[.pointer (some ⟨g,0,none⟩)] w fun e w'=>e=.returned (.tuple #[])/\∃F':Nat->Prop,(∀k,F' k->F k\/w.heap.size<=k)/\Dg w' g F' d (EH d (L++W)) [] lo hi (tot (L++W))/\Touch F w w':=by
 obtain⟨lv,wv,hb,hl,hw,hg,h1,h2,h3,h4⟩:=h;have c0:=hb.cell 0;have c1:=hb.cell 1;have c2:=hb.cell 2;have c5:=hb.cell 5;have f1:=hb.frozen 1;have f2:=hb.frozen 2;simp only[aK,aN,aJ] at c0 c1 c2 c5;have hlt:=hb.lt;have HB:=aI hb;have HL:=aI hl;have HW:=aI hw;obtain⟨A,ca,rfl,na,ma,fa⟩:=hl.form;obtain⟨B,cb,rfl,nb,mb,fb⟩:=hw.form;have HG:=aI (aP hg (aP h1 (aP h2 (aP h3 h4))));have HC0:=aI c0;have HC1:=aI c1;have HC2:=aI c2;have HC5:=aI c5;have HO:=aI ho;have YJ:0<L.length+W.length:=by
  rcases bQ (L.length+W.length) with h0|h0
  ·exact absurd (bz (by rw[aQ];exact h0)) hne
  ·exact h0
 have hp:∀W0:Prop,(0<W.length->W0)->(¬0<W.length->0<L.length->W0)->W0:=fun W0 a b=>by
  by_cases h:0<W.length
  ·exact a h
  ·exact b h ae
 clear hb hl hw fa fb ho hg h1 h2 h3 h4 hne hp
 by_cases hW:0<W.length
 all_goals
  try (have hL:0<L.length:=ae)
  go_enter func136,ntmps136
  go_upto_region 1 with fail;have bu8:=aI HL.o.rd;have bu9:=aI HW.o.rd;have HSB:∀w',Below w.heap.size w w'->PrS g d B W.length cb (tot (L++W)) w w':=fun w' hb=>⟨Touch.of_below hb (aS _),(hb.cell (p:=⟨g,0,none⟩) hlt).trans HC0.o,(hb.cell (p:=⟨g,2,none⟩) hlt).trans HC2.o,(hb.cell (p:=⟨g,5,none⟩) hlt).trans HC5.o⟩
  have mW:=aI (fun(w':World) (hS':(PrS g d B W.length cb (tot (L++W)) w) w')=>(aP (hS'.c0) (aP (hS'.c2) (hS'.c5))))
  refine qm (PrS g d B W.length cb (tot (L++W)) w) 27 (dV 0 13 (dV 14 4 (fJ 13 (fJ 18 (fJ 19 (fJ 20 (fJ 21 (dV 22 2 (fJ 24 (dV 25 2 [])))))))))) (HSB _ (aO _ _).drew) ?_
  iterate 17 refine mr ?_
  refine yU fun K hK=>?_
  go_simp;refine hK _ _ (HSB _ (aO _ _).drew) ?_
  clear hK K;refine yU fun K hK=>?_
  go_simp;refine hK _ _ (HSB _ (((aO _ _).drew).alloc aj _)) ?_
  clear hK K;refine yU fun K hK=>?_
  go_simp;have hrow:Ce (w.drew.alloc (.cells #[.slice A L.length ca,.slice B W.length cb] 111)) w.heap.size [L,W]:=Kr (bu8.o.keep (((aO _ _).drew).alloc aj _)) (bu9.o.keep (((aO _ _).drew).alloc aj _))
  refine(Fq w.heap.size [L,W] _ aj hrow ag ah).mono ?_
  rintro e w1 ⟨v1,rfl,o1,hb1⟩;have Ip:Below w.heap.size w w1:=(((aO _ _).drew).alloc aj _).trans (hb1.mono aj)
  have hz1:=Ip.size;rw[show([L,W]:List (List Mn)).flatten=L++W by simp] at o1
  have O1:=aI o1;clear o1;refine hK _ _ (HSB _ Ip) ?_
  clear hK K;refine yU fun K hK=>?_
  go_simp;refine(xP _ (L++W) v1 _ (aS _) (by rw[aQ];omega) O1.o.rd).mono ?_
  rintro e w2 ⟨v2,rfl,o2,hb2⟩;have hbw2:Below w.heap.size w w2:=Ip.trans (hb2.mono hz1);have hz2:=hbw2.size;have O2:=aI o2;clear o2;refine hK _ _ (HSB _ hbw2) ?_
  clear hK K;refine yU fun K hK=>?_
  go_simp;have hpr:=Ns d v2 (iU (L++W)) w2 O2.o (by rw[mO,aQ];exact YJ) (HO.o.iU) (IP _) (by rw[mO,aQ];omega) (by rw[JY];exact ht) d0 d1
  rw[JY] at hpr;refine hpr.mono ?_
  rintro e w3 ⟨v3,rfl,o3,hb3⟩;have hbw3:Below w.heap.size w w3:=hbw2.trans (hb3.mono hz2);have hz3:=hbw3.size;have O3:=aI o3;clear o3 hpr;refine hK _ _ (HSB _ hbw3) ?_
  clear hK K
  iterate 2 refine mr ?_
  refine yU fun K hK=>?_
  obtain⟨A3,c3,rfl,n3,m3,f3⟩:=O3.o.form;clear f3;have k1:=(hbw3.frozen (p:=⟨g,1,none⟩) hlt).trans f1;have k3:=(hbw3.cell (p:=⟨g,1,none⟩) hlt).trans HC1.o
  go_simp;refine hK _ _ ((HSB _ hbw3).dQ _) ?_
  clear hK K
  iterate 2 refine mr ?_
  refine d_ ?_
  simp only[bT,cO];have k2:=(hbw3.frozen (p:=⟨g,2,none⟩) hlt).trans f2;have k4:=(hbw3.cell (p:=⟨g,2,none⟩) hlt).trans HC2.o
  go_wp2_with fail;refine dR ?_
  go_wp2_with fail;refine bodyPost_end (v:=.tuple #[]) (by simp[results,Tryz.results136,go_sem, *];try rfl) rfl ?_
  refine⟨rfl,fun k=>k=g\/(Value.slice A3 (EH d (L++W)).length c3).ownBlock=some k,?_,?_,?_⟩
  ·rintro k (rfl|hk)
   ·exact .inl HG.o.1
   ·exact .inr (by have:=(O3.o.lt k hk).1;omega)
  ·obtain⟨hg,h1,h2,h3,h4⟩:=HG.o
   have hgo:∀k,(Value.slice A3 (EH d (L++W)).length c3).ownBlock=some k->w.heap.size<=k/\k<w3.heap.size:=fun k hk=>by have:=O3.o.lt k hk;omega
   have hgn:∀i,(Value.slice A3 (EH d (L++W)).length c3).ownBlock≠some (⟨g,i,none⟩:Addr).block:=fun i hk=>by have:=hgo g hk;omega
   refine⟨_,_,((HB.o.keep hbw3).dQ 1 _).dQ 2 _,((O3.o.more (df _)).far (hgn 1) _).far (hgn 2) _,fA.nil_ _ _,.inl rfl,fun k hk=>.inr hk,fun k hk=>(by cases hk),fun k hk=>(by cases hk),fun k hk=>?_⟩
   simp only[dA]
   rcases hk with rfl|hk
   ·omega
   ·have:=hgo k hk;omega
  ·exact((Touch.of_below hbw3 (aS _)).setCell (.inl HG.o.1) _).setCell (.inl HG.o.1) _
open Tryz
open Go.RowKit Go.Lib
theorem total_any(w:World)(h:Dg w g F d L W lo hi n) :
 aH 57 #[.pointer (some ⟨g,0,none⟩)] w fun e w'=>e=.returned (.int .u64 n)/\w=w':=by
 obtain⟨lv,wv,hb,_⟩:=h;have c5:=hb.cell 5;simp only[aK,aN,aJ] at c5
 go_enter func57,ntmps57
 go_wp2_with fail;refine bodyPost_ret (by simp[results,Tryz.results57,go_sem, *];try rfl) rfl ?_
 exact⟨rfl,rfl⟩
theorem dK.Aw{b:Nat}{cs:Array Value}{v:Value}{l:List Mn}(h:dK w g t cs)(ho:fA b w v l)(ht:t≠203):v.ownBlock≠some g:=by
 intro e
 rcases ho.2 with h2|⟨g',cap,cur,rfl,e2,e3,r⟩
 ·rw[h2.1] at e;cases e
 ·cases e
  unfold dK at h;rw[h] at e3
  cases e3
  exact ht rfl
theorem Dg.cells{d' lo' hi' n':Int}{lv wv:Value}(hb:dK w g 199 #[.int .i64 d,lv,wv,.int .i64 lo,.int .i64 hi,.int .u64 n])(hl:fA 0 w lv L)(hw:fA 0 w wv W)
 (hF:F g/\(∀k,lv.ownBlock=some k->F k)/\(∀k,wv.ownBlock=some k->F k)/\(∀k,wv.ownBlock=some k->lv.ownBlock≠some k)/\(∀k,F k->k<w.heap.size))
 (ht:Touch (fun k=>k=g) w w') (hb':dK w' g 199 #[.int .i64 d',lv,wv,.int .i64 lo',.int .i64 hi',.int .u64 n']):Dg w' g F d' L W lo' hi' n':=by
 obtain⟨hg,h1,h2,h3,h4⟩:=hF;have nl:=hb.Aw hl af
 have nw:=hb.Aw hw af
 exact⟨lv,wv,hb',hl.stay fun k e=>ht.block k (h4 k (h1 k e)) (fun h=>nl (by rw[e,h])),hw.stay fun k e=>ht.block k (h4 k (h2 k e)) (fun h=>nw (by rw[e,h])),hg,h1,h2,h3,fun k hf=>bF (h4 k hf) ht.size⟩
structure EnS(g:Nat)(hi:Int)(w w':World):Prop where
 c4:w'.cell? ⟨g,4,none⟩=some (.int .i64 hi)
theorem Zq(a b:Int)(w:World)(h:Dg w g F d L W lo hi n)(ce5:-9223372036854775808<=lo/\lo<=9223372036854775807)(ce6:-9223372036854775808<=hi/\hi<=9223372036854775807)(_ha:-9223372036854775808<=a/\a<=9223372036854775807)(ce7:-9223372036854775808<=b/\b<=9223372036854775807)(hn0:0<=n/\n<=18446744073709551615) :
 aH 137 #[.pointer (some ⟨g,0,none⟩),.int .i64 a,.int .i64 b] w fun e w'=>e=.returned (.tuple #[])/\Dg w' g F d L W (if n=0 then a else min lo a) (if n=0 then b else max hi b) n/\Touch (fun k=>k=g) w w':=by
 obtain⟨lv,wv,hb,hl,hw,hg,h1,h2,h3,h4⟩:=h;have c3:=hb.cell 3;have c4:=hb.cell 4;have c5:=hb.cell 5;have f3:=hb.frozen 3;have f4:=hb.frozen 4;have hlt:=hb.lt;simp only[aK,aN,aJ] at c3 c4 c5;have HB:=aI hb;have HL:=aI hl;have HW:=aI hw;have HG:=aI (aP hg (aP h1 (aP h2 (aP h3 h4))));clear hb hl hw hg h1 h2 h3 h4;clear c3 c4 f3 f4
 by_cases hn:n=0
 ·subst hn
  go_enter func137,ntmps137
  have c3:=HB.o.cell 3;have c4:=HB.o.cell 4;have f3:=HB.o.frozen 3;have f4:=HB.o.frozen 4;simp only[aK,aN,aJ] at c3 c4
  go_wp2_with fail;have HB2:=aI ((HB.o.dQ 3 (.int .i64 a)).dQ 4 (.int .i64 b));have T2:Touch (fun k=>k=g) w ((w.setCell ⟨g,3,none⟩ (.int .i64 a)).setCell ⟨g,4,none⟩ (.int .i64 b)):=((Touch.refl (fun k=>k=g) w).setCell (p:=⟨g,3,none⟩) (.inl rfl) _).setCell (p:=⟨g,4,none⟩) (.inl rfl) _
  generalize (w.setCell ⟨g,3,none⟩ (.int .i64 a)).setCell ⟨g,4,none⟩ (.int .i64 b)=w2 at *;clear c3 c4 f3 f4 c5;have c3:=HB2.o.cell 3;have c4:=HB2.o.cell 4;have f3:=HB2.o.frozen 3;have f4:=HB2.o.frozen 4;simp only[aK,aN,aJ,bY,List.set_cons_succ,List.set_cons_zero] at c3 c4;have mW:=aI (fun(w':World) (hS':(EnS g b w) w')=>(hS'.c4))
  refine qm (EnS g b w) 19 (dV 0 5 (dV 6 1 (dV 8 6 (fJ 5 (dV 7 1 (dV 14 2 (fJ 16 (dV 17 2 [])))))))) (⟨c4⟩) ?_
  iterate 12 refine mr ?_
  refine yU fun K hK=>?_
  go_simp;refine hK _ _ (⟨c4⟩) ?_
  clear hK K
  iterate 3 refine mr ?_
  refine yU fun K hK=>?_
  go_simp;refine hK _ _ (⟨(World.cell?_setCell_other _ _ _ _ ag).trans c4⟩) ?_
  clear hK K
  iterate 2 refine mr ?_
  refine d_ ?_
  simp only[bT,cO]
  go_wp2_with fail;refine dR ?_
  go_wp2_with fail;refine bodyPost_end (v:=.tuple #[]) (by simp[results,Tryz.results137,go_sem, *];try rfl) rfl ?_
  have T3:=((T2.setCell (p:=⟨g,3,none⟩) (.inl rfl) (.int .i64 a)).setCell (p:=⟨g,4,none⟩) (.inl rfl) (.int .i64 b)).drew;exact⟨rfl,Dg.cells HB.o HL.o HW.o HG.o T3 ((HB2.o.dQ 3 _).dQ 4 _),T3⟩
 ·go_enter func137,ntmps137
  have c3:=HB.o.cell 3;have c4:=HB.o.cell 4;have f3:=HB.o.frozen 3;have f4:=HB.o.frozen 4;simp only[aK,aN,aJ] at c3 c4
  go_upto_region 2 with fail;have mW:=aI (fun(w':World) (hS':(EnS g hi w) w')=>(hS'.c4))
  refine qm (EnS g hi w) 19 (dV 0 5 (dV 6 1 (dV 8 6 (fJ 5 (dV 7 1 (dV 14 2 (fJ 16 (dV 17 2 [])))))))) (⟨c4⟩) ?_
  iterate 12 refine mr ?_
  refine yU fun K hK=>?_
  go_simp;refine hK _ _ (⟨c4⟩) ?_
  clear hK K
  iterate 3 refine mr ?_
  refine yU fun K hK=>?_
  go_simp;refine hK _ _ (⟨(World.cell?_setCell_other _ _ _ _ ag).trans c4⟩) ?_
  clear hK K
  iterate 2 refine mr ?_
  refine d_ ?_
  simp only[bT,cO]
  go_wp2_with fail;refine dR ?_
  go_wp2_with fail;refine bodyPost_end (v:=.tuple #[]) (by simp[results,Tryz.results137,go_sem, *];try rfl) rfl ?_
  have T3:=(((Touch.refl (fun k=>k=g) w).setCell (p:=⟨g,3,none⟩) (.inl rfl) (.int .i64 (min lo a))).setCell (p:=⟨g,4,none⟩) (.inl rfl) (.int .i64 (max hi b))).drew
  exact⟨rfl,Dg.cells HB.o HL.o HW.o HG.o T3 ((HB.o.dQ 3 _).dQ 4 _),T3⟩
open Tryz
open Go.RowKit Go.Lib
theorem Dg.lt{w:World}{g:Nat}{F:Nat->Prop}{d lo hi n:Int}{L W:List Mn}(h:Dg w g F d L W lo hi n):g<w.heap.size:=by
 obtain⟨lv,wv,hb,_⟩:=h;exact hb.lt
theorem Dg.mem(h:Dg w g F d L W lo hi n):F g:=by
 obtain⟨lv,wv,_,_,_,hg,_⟩:=h;exact hg
theorem Dg.low(h:Dg w g F d L W lo hi n):∀k,F k->k<w.heap.size:=by
 obtain⟨lv,wv,_,_,_,_,_,_,_,h4⟩:=h;exact h4
theorem oD(w:World)(h:Dg w g F d L W lo hi n) :
 aH 100 #[.pointer (some ⟨g,0,none⟩)] w fun e w'=>e=.returned (.int .i64 d)/\w=w':=by
 obtain⟨lv,wv,hb,_⟩:=h;have c5:=hb.cell 0;simp only[aK,aJ] at c5
 go_enter func100,ntmps100
 go_wp2_with fail;refine bodyPost_ret (by simp[results,Tryz.results100,go_sem, *];try rfl) rfl ?_
 exact⟨rfl,rfl⟩
theorem WB(w:World)(h:Dg w g F d L W lo hi 0) :
 aH 169 #[.pointer (some ⟨g,0,none⟩)] w (aG w (.tuple #[.int .i64 0,.int .i64 0,.int .i64 8])):=by
 obtain⟨lv,wv,hb,_⟩:=h;have c5:=hb.cell 5;simp only[aK,aN,aJ] at c5;clear hb
 go_enter func169,ntmps169
 go_wp2_with fail;refine bodyPost_ret (by simp[results,Tryz.results169,go_sem, *];try rfl) rfl ?_
 exact⟨rfl,bw⟩
theorem WC(w:World)(h:Dg w g F d L W lo hi n)(hn:0<n) :
 aH 169 #[.pointer (some ⟨g,0,none⟩)] w (aG w (.tuple #[.int .i64 lo,.int .i64 hi,.int .i64 0])):=by
 obtain⟨lv,wv,hb,_⟩:=h;have c5:=hb.cell 5;have c3:=hb.cell 3;have c4:=hb.cell 4;simp only[aK,aN,aJ] at c3 c4 c5;have h0:(n == 0)=false:=ah
 clear hb
 go_enter func169,ntmps169
 go_wp2_with fail
 go_quiet (fail)
 go_wp2_with fail;refine bodyPost_ret (by simp[results,Tryz.results169,go_sem, *];try rfl) rfl ?_
 exact⟨rfl,bw⟩
theorem Zr(w:World)(h:Dg w g F d L W lo hi n)(hl:L.length<=1099511627776) :
 aH 171 #[.pointer (some ⟨g,0,none⟩)] w fun e w'=>∃v,e=.returned v/\fA w.heap.size w' v L/\Below w.heap.size w w':=by
 obtain⟨lv,wv,hb,ho,_⟩:=h;have c1:=hb.cell 1;simp only[aK,aN,aJ] at c1;have HO:=aI ho;clear hb ho
 go_enter func171,ntmps171
 go_wp2_with fail;refine(wH lv L _ HO.o.rd hl).mono ?_
 rintro e w1 ⟨v,rfl,o,hb1⟩;have O:=aI o;clear o
 go_wp2_with fail;refine bodyPost_ret (by simp[results,Tryz.results171,go_sem, *];try rfl) rfl ?_
 exact⟨_,rfl,O.o,hb1⟩
theorem WE(w:World)(h:Dg w g F d L W lo hi n)(hl:W.length<=1099511627776) :
 aH 173 #[.pointer (some ⟨g,0,none⟩)] w fun e w'=>∃v,e=.returned v/\fA w.heap.size w' v W/\Below w.heap.size w w':=by
 obtain⟨lv,wv,hb,_,ho,_⟩:=h;have c1:=hb.cell 2;simp only[aK,aN,aJ] at c1;have HO:=aI ho;clear hb ho
 go_enter func173,ntmps173
 go_wp2_with fail;refine(wH wv W _ HO.o.rd hl).mono ?_
 rintro e w1 ⟨v,rfl,o,hb1⟩;have O:=aI o;clear o
 go_wp2_with fail;refine bodyPost_ret (by simp[results,Tryz.results173,go_sem, *];try rfl) rfl ?_
 exact⟨_,rfl,O.o,hb1⟩
theorem Fv(d:Int)(w:World)(h:d<10\/1000<d) :
 aH 207 #[.int .i64 d] w (aG w (.tuple #[.pointer none,.int .i64 1])):=by
 by_cases h1:d<10
 ·go_enter func207,ntmps207
  go_wp2_with fail
  all_goals
   refine bodyPost_ret (by simp[results,Tryz.results207,go_sem, *];try rfl) rfl ?_
   exact⟨rfl,bw⟩
 ·have h2:1000<d:=ae
  go_enter func207,ntmps207
  go_wp2_with fail
  all_goals
   refine bodyPost_ret (by simp[results,Tryz.results207,go_sem, *];try rfl) rfl ?_
   exact⟨rfl,bw⟩
theorem Ef(d:Int)(w:World)(h0:10<=d)(h1:d<=1000) :
 aH 207 #[.int .i64 d] w fun e w'=>∃g,e=.returned (.tuple #[.pointer (some ⟨g,0,none⟩),.int .i64 0])/\w.heap.size<=g/\Dg w' g (fun k=>k=g) d [] [] 0 0 0/\Below w.heap.size w w':=by
 go_enter func207,ntmps207
 go_wp2_with fail;refine bodyPost_ret (by simp[results,Tryz.results207,go_sem, *];try rfl) rfl ?_
 refine⟨_,rfl,?_,⟨.slice none 0 0,.slice none 0 0,?_,fA.nil_ _ _,fA.nil_ _ _,rfl,(fun k e=>by cases e),(fun k e=>by cases e),(fun k e=>by cases e),(fun k e=>by subst e;simp)⟩,?_⟩
 ·simp
 ·exact dK.new _ _ _
 ·(repeat' (first|(with_reducible exact aO _ _)|(with_reducible refine dG ?_ ?_ _)|(with_reducible refine Below.drew ?_)|(with_reducible refine below_drewN ?_ _)|(with_reducible refine dI ?_ ?_ _)|(with_reducible refine Ey (by assumption) ?_ ?_)|go_size))
open Tryz
open Go.RowKit Go.Lib
open Tryz
open Go.RowKit Go.Lib
def Found(n:Nat)(p:Nat->Bool)(w:World)(e:Ending)(w':World):Prop:=∃i q:Nat,e=.returned (.int .i64 i)/\i<=n/\(∀t,t<i->p t=false)/\(∀t,i<=t->t<n->p t=true)/\w'=w.drewN q
theorem QW(K:Nat)(cb:Array Value)(n:Nat)(p:Nat->Bool)(w:World)(eg:∀args w,(callFunc K args).run prog w=.ok (.enter K args) w)(hsz:n<4611686018427387904)
 (hf:∀(m i:Nat),i<n->Calls prog K (#[.int .i64 i]++cb) (w.drewN m) fun e w'=>e=.returned (.bool (p i))/\∃q,w'=(w.drewN m).drewN q)
 (hmono:∀a b,a<=b->b<n->p a=true->p b=true) :
 aH 261 #[.int .i64 n,.func (.func K) #[] cb] w (Found n p w):=by
 have HF:=aI hf;have M:=aI hmono;clear hf hmono
 go_enter func261,ntmps261
 go_wp2_with fail
 go_loopg [5,6] n (fun kx s5 s6 wr=>∃lo hi q:Nat,s5=.int .i64 lo/\s6=.int .i64 hi/\lo<=hi/\hi<=n/\hi - lo<=kx/\wr=w.drewN q /\
  Hid ((∀t,t<lo->p t=false)/\(∀t,hi<=t->t<n->p t=true)))
 case atStart=>exact⟨0,n,0,rfl,rfl,df _,aS _,ae,rfl,(⟨fun t ht=>absurd ht (Nat.not_lt_zero _),fun t h1 h2=>by omega⟩:(∀t,t<0->p t=false)/\(∀t,n<=t->t<n->p t=true))⟩
 case round=>
  obtain⟨lo,hi,q,rfl,rfl,hlh,hin,hg,rfl,I⟩:=hrel
  by_cases hlt:lo<hi
  ·have hc:=HF.o q ((lo+hi) / 2) ae
   rw[show(((lo+hi) / 2:Nat):Int)=((lo:Int)+(hi:Int)) / 2 by omega] at hc
   cases hp:p ((lo+hi) / 2)<;>rw[hp] at hc
   ·have HP:=aI hp
    have HC:=aI hc;clear hp hc
    go_wp2_with (go_at_fn K;refine HC.o.mono ?_;rintro e w' ⟨rfl,nq,rfl⟩)
    go_roundg (hi - ((lo+hi) / 2+1))
    case measure=>omega
    case rel=>
     have I2:Hid ((∀t,t<(lo+hi) / 2+1->p t=false)/\(∀t,hi<=t->t<n->p t=true)):=⟨fun t ht=>(by
      cases h:p t with
      | false=>rfl
      | true=>have:=M.o t ((lo+hi) / 2) ae  ae h;rw[HP.o] at this;cases this),I.o.2⟩
     exact⟨(lo+hi) / 2+1,hi,q+nq,by rw[show((lo:Int)+(hi:Int)) / 2+1=(((lo+hi) / 2+1:Nat):Int) by omega],rfl,ae,hin,aS _,rfl,I2⟩
   ·have HP:=aI hp
    have HC:=aI hc;clear hp hc
    go_wp2_with (go_at_fn K;refine HC.o.mono ?_;rintro e w' ⟨rfl,nq,rfl⟩)
    go_roundg ((lo+hi) / 2 - lo)
    case measure=>omega
    case rel=>
     have I2:Hid ((∀t,t<lo->p t=false)/\(∀t,(lo+hi) / 2<=t->t<n->p t=true)):=⟨I.o.1,fun t ht htn=>M.o ((lo+hi) / 2) t ht htn HP.o⟩
     exact⟨lo,(lo+hi) / 2,q+nq,rfl,by rw[show((lo:Int)+(hi:Int)) / 2=(((lo+hi) / 2:Nat):Int) by omega],ae,ae,aS _,rfl,I2⟩
  ·obtain rfl:hi=lo:=ae
   go_wp2_with fail
   go_ret;exact⟨hi,q,rfl,hin,I.o.1,I.o.2,rfl⟩
open Tryz
open Go.RowKit Go.Lib
def Ie(w:World)(g:Nat)(F:Nat->Prop)(d:Int)(s:St):Prop:=Dg w g F d s.L s.W s.lo s.hi (tot (s.L++s.W))
structure Fit(d:Int)(s:St)(k:Nat):Prop where
 ok:s.Ok d k
 k1:k<=100000000
 t:tot (s.L++s.W)<=281474976710656
 d0:10<=d
 d1:d<=1000
open Tryz
open Go.RowKit Go.Lib
open Tryz
open Go.RowKit Go.Lib
theorem RDg.low(h:RDg w g F d L W lo hi):∀k,F k->k<w.heap.size:=by
 obtain⟨lv,wv,_,_,_,_,_,_,_,h4⟩:=h;exact h4
open Tryz
open Go.RowKit Go.Lib
def bk8(w:World)(g:Nat)(F:Nat->Prop)(d:Int)(s:St):Prop:=RDg w g F d s.L s.W s.lo s.hi
open Tryz
open Go.RowKit Go.Lib
end Go.Proofs.YtilcnjbpmoijmaaGreat
