/- Parts of a proof: what its theorem reaches, words cut short. No condition of its own. -/
import Derived.Test.YtkiebccnpheloaaGreatPk08
set_option maxRecDepth 100000
set_option maxHeartbeats 16000000
set_option linter.unusedVariables false
set_option linter.unusedSimpArgs false
namespace Go.Proofs.YtkiebccnpheloaaGreat
open Go.RowKit Go.Lib
theorem total_any{g:Nat}{F:Nat->Prop}{d lo hi n:Int}{L W:List Mn}(w:World)(h:Dg w g F d L W lo hi n) :
 Calls Tryz.prog 125 #[.pointer (some ⟨g,0,none⟩)] w fun e w'=>e=.returned (.int .u64 n)/\w=w':=by
 obtain⟨lv,wv,hb,_⟩:=h;have c5:=hb.cell 5;simp only[aF,aG,aC] at c5
 go_enter Tryz.func125,Tryz.ntmps125
 go_wp2_with fail;refine bodyPost_ret (by simp[results,Tryz.results125,go_sem, *];try rfl) rfl ?_
 exact⟨rfl,rfl⟩
theorem dH.jU{w:World}{g t b:Nat}{cs:Array Value}{v:Value}{l:List Mn}(h:dH w g t cs)(ho:dU b w v l)(ht:t≠231):v.ownBlock≠some g:=by
 intro e
 rcases ho.2 with h2|⟨g',cap,cur,rfl,e2,e3,r⟩
 ·rw[h2.1] at e;cases e
 ·cases e
  unfold dH at h;rw[h] at e3
  cases e3
  exact ht rfl
theorem Dg.cells{w w':World}{g:Nat}{F:Nat->Prop}{d d' lo hi n lo' hi' n':Int}{L W:List Mn}{lv wv:Value}(hb:dH w g 247 #[.int .i64 d,lv,wv,.int .i64 lo,.int .i64 hi,.int .u64 n])(hl:dU 0 w lv L)(hw:dU 0 w wv W)
 (hF:F g/\(∀k,lv.ownBlock=some k->F k)/\(∀k,wv.ownBlock=some k->F k)/\(∀k,wv.ownBlock=some k->lv.ownBlock≠some k)/\(∀k,F k->k<w.heap.size))
 (ht:Touch (fun k=>k=g) w w') (hb':dH w' g 247 #[.int .i64 d',lv,wv,.int .i64 lo',.int .i64 hi',.int .u64 n']):Dg w' g F d' L W lo' hi' n':=by
 obtain⟨hg,h1,h2,h3,h4⟩:=hF;have nl:=hb.jU hl af
 have nw:=hb.jU hw af
 exact⟨lv,wv,hb',hl.stay fun k e=>ht.block k (h4 k (h1 k e)) (fun h=>nl (by rw[e,h])),hw.stay fun k e=>ht.block k (h4 k (h2 k e)) (fun h=>nw (by rw[e,h])),hg,h1,h2,h3,fun k hf=>aU (h4 k hf) ht.size⟩
structure EnS(g:Nat)(hi:Int)(w w':World):Prop where
 c4:w'.cell? ⟨g,4,none⟩=some (.int .i64 hi)
theorem JE{g:Nat}{F:Nat->Prop}{d lo hi n:Int}{L W:List Mn}(a b:Int)(w:World)(h:Dg w g F d L W lo hi n)(bl4:-9223372036854775808<=lo/\lo<=9223372036854775807)(bl5:-9223372036854775808<=hi/\hi<=9223372036854775807)(_ha:-9223372036854775808<=a/\a<=9223372036854775807)(bl6:-9223372036854775808<=b/\b<=9223372036854775807)(hn0:0<=n/\n<=18446744073709551615) :
 Calls Tryz.prog 167 #[.pointer (some ⟨g,0,none⟩),.int .i64 a,.int .i64 b] w fun e w'=>e=.returned (.tuple #[])/\Dg w' g F d L W (if n=0 then a else min lo a) (if n=0 then b else max hi b) n/\Touch (fun k=>k=g) w w':=by
 obtain⟨lv,wv,hb,hl,hw,hg,h1,h2,h3,h4⟩:=h;have c3:=hb.cell 3;have c4:=hb.cell 4;have c5:=hb.cell 5;have f3:=hb.frozen 3;have f4:=hb.frozen 4;have hlt:=hb.lt;simp only[aF,aG,aC] at c3 c4 c5;have HB:=aB hb;have HL:=aB hl;have HW:=aB hw;have HG:=aB (aN hg (aN h1 (aN h2 (aN h3 h4))));clear hb hl hw hg h1 h2 h3 h4;clear c3 c4 f3 f4
 by_cases hn:n=0
 ·subst hn
  go_enter Tryz.func167,Tryz.ntmps167
  have c3:=HB.out.cell 3;have c4:=HB.out.cell 4;have f3:=HB.out.frozen 3;have f4:=HB.out.frozen 4;simp only[aF,aG,aC] at c3 c4
  go_wp2_with fail;have HB2:=aB ((HB.out.dP 3 (.int .i64 a)).dP 4 (.int .i64 b));have T2:Touch (fun k=>k=g) w ((w.setCell ⟨g,3,none⟩ (.int .i64 a)).setCell ⟨g,4,none⟩ (.int .i64 b)):=((Touch.refl (fun k=>k=g) w).setCell (p:=⟨g,3,none⟩) (.inl rfl) _).setCell (p:=⟨g,4,none⟩) (.inl rfl) _
  generalize (w.setCell ⟨g,3,none⟩ (.int .i64 a)).setCell ⟨g,4,none⟩ (.int .i64 b)=w2 at *;clear c3 c4 f3 f4 c5;have c3:=HB2.out.cell 3;have c4:=HB2.out.cell 4;have f3:=HB2.out.frozen 3;have f4:=HB2.out.frozen 4;simp only[aF,aG,aC,bP,List.set_cons_succ,List.set_cons_zero] at c3 c4;refine dJ (EnS g b w) 19 [(0,true),(1,true),(2,true),(3,true),(4,true),(6,true),(8,true),(9,true),(10,true),(11,true),(12,true),(13,true),(5,false),(7,true),(14,true),(15,true),(16,false),(17,true),(18,true)] (by kernel_rfl) (by kernel_rfl) (⟨c4⟩) ?_
  iterate 12
   refine dK ax  ax (fun R hR=>?_)
   apply aJ
   refine⟨fun w' hS'=>?_,?_⟩
   ·have k4:=hS'.c4
    go_simp;exact⟨rfl,rfl⟩
   go_simp;refine hR _ ?_;clear hR R
  refine d_ ax  ax (fun K hK=>?_)
  go_simp;refine hK _ _ (⟨c4⟩) ?_
  clear hK K
  iterate 3
   refine dK ax  ax (fun R hR=>?_)
   apply aJ
   refine⟨fun w' hS'=>?_,?_⟩
   ·have k4:=hS'.c4
    go_simp;exact⟨rfl,rfl⟩
   go_simp;refine hR _ ?_;clear hR R
  refine d_ ax  ax (fun K hK=>?_)
  go_simp;refine hK _ _ (⟨(World.cell?_setCell_other _ _ _ _ ag).trans c4⟩) ?_
  clear hK K
  iterate 2
   refine dK ax  ax (fun R hR=>?_)
   apply aJ
   refine⟨fun w' hS'=>?_,?_⟩
   ·have k4:=hS'.c4
    go_simp;exact⟨rfl,rfl⟩
   go_simp;refine hR _ ?_;clear hR R
  refine dQ ?_
  simp only[bD,bQ]
  go_wp2_with fail;refine dO ?_
  go_wp2_with fail;refine bodyPost_end (v:=.tuple #[]) (by simp[results,Tryz.results167,go_sem, *];try rfl) rfl ?_
  have T3:=((T2.setCell (p:=⟨g,3,none⟩) (.inl rfl) (.int .i64 a)).setCell (p:=⟨g,4,none⟩) (.inl rfl) (.int .i64 b)).drew;exact⟨rfl,Dg.cells HB.out HL.out HW.out HG.out T3 ((HB2.out.dP 3 _).dP 4 _),T3⟩
 ·go_enter Tryz.func167,Tryz.ntmps167
  have c3:=HB.out.cell 3;have c4:=HB.out.cell 4;have f3:=HB.out.frozen 3;have f4:=HB.out.frozen 4;simp only[aF,aG,aC] at c3 c4
  go_upto_region 2 with fail;refine dJ (EnS g hi w) 19 [(0,true),(1,true),(2,true),(3,true),(4,true),(6,true),(8,true),(9,true),(10,true),(11,true),(12,true),(13,true),(5,false),(7,true),(14,true),(15,true),(16,false),(17,true),(18,true)] (by kernel_rfl) (by kernel_rfl) (⟨c4⟩) ?_
  iterate 12
   refine dK ax  ax (fun R hR=>?_)
   apply aJ
   refine⟨fun w' hS'=>?_,?_⟩
   ·have k4:=hS'.c4
    go_simp;exact⟨rfl,rfl⟩
   go_simp;refine hR _ ?_;clear hR R
  refine d_ ax  ax (fun K hK=>?_)
  go_simp;refine hK _ _ (⟨c4⟩) ?_
  clear hK K
  iterate 3
   refine dK ax  ax (fun R hR=>?_)
   apply aJ
   refine⟨fun w' hS'=>?_,?_⟩
   ·have k4:=hS'.c4
    go_simp;exact⟨rfl,rfl⟩
   go_simp;refine hR _ ?_;clear hR R
  refine d_ ax  ax (fun K hK=>?_)
  go_simp;refine hK _ _ (⟨(World.cell?_setCell_other _ _ _ _ ag).trans c4⟩) ?_
  clear hK K
  iterate 2
   refine dK ax  ax (fun R hR=>?_)
   apply aJ
   refine⟨fun w' hS'=>?_,?_⟩
   ·have k4:=hS'.c4
    go_simp;exact⟨rfl,rfl⟩
   go_simp;refine hR _ ?_;clear hR R
  refine dQ ?_
  simp only[bD,bQ]
  go_wp2_with fail;refine dO ?_
  go_wp2_with fail;refine bodyPost_end (v:=.tuple #[]) (by simp[results,Tryz.results167,go_sem, *];try rfl) rfl ?_
  have T3:=(((Touch.refl (fun k=>k=g) w).setCell (p:=⟨g,3,none⟩) (.inl rfl) (.int .i64 (min lo a))).setCell (p:=⟨g,4,none⟩) (.inl rfl) (.int .i64 (max hi b))).drew
  exact⟨rfl,Dg.cells HB.out HL.out HW.out HG.out T3 ((HB.out.dP 3 _).dP 4 _),T3⟩
theorem add_any{g:Nat}{F:Nat->Prop}{d lo hi:Int}{L W:List Mn}(a k:Int)(w:World)(h:Dg w g F d L W lo hi (tot (L++W)))(ho:jY (L++W))(hlo:-9223372036854775808<=lo/\lo<=9223372036854775807)(hhi:-9223372036854775808<=hi/\hi<=9223372036854775807)(ha:-9223372036854775808<=a/\a<=9223372036854775807)(hk:0<=k/\k<=18446744073709551615)
 (hlen:L.length+W.length<100000000) (ht:tot (L++W)<=281474976710656) (d0:0<=d) (d1:d<=1000) :
 Calls Tryz.prog 133 #[.pointer (some ⟨g,0,none⟩),.int .i64 a,.int .u64 k] w fun e w'=>
  if k=0 then e=.returned (.int .i64 4)/\Below w.heap.size w w' else if 281474976710656 - tot (L++W)<k then e=.returned (.int .i64 6)/\Below w.heap.size w w' else
  e=.returned (.int .i64 0)/\∃F':Nat->Prop,(∀k,F' k->F k\/w.heap.size<=k) /\
   Dg w' g F' d (gW d L W (a,k)) (ni d W (a,k)) (if tot (L++W)=0 then a else min lo a) (if tot (L++W)=0 then a else max hi a) (tot (L++W)+k)/\Touch F w w':=by
 have t0:=ho.dL;have HD:=aB h;obtain⟨lv,wv,hb,hl,hw,hg,h1,h2,h3,h4⟩:=h;have c5:=hb.cell 5;simp only[aF,aG,aC] at c5;clear hb hl hw hg h1 h2 h3 h4
 by_cases hk0:k=0
 ·subst hk0
  go_enter Tryz.func133,Tryz.ntmps133
  go_wp2_with fail;refine bodyPost_ret (by simp[results,Tryz.results133,go_sem, *];try rfl) rfl ?_
  exact⟨rfl,bw⟩
 ·simp only[if_neg hk0]
  by_cases hk1:281474976710656 - tot (L++W)<k
  ·simp only[if_pos hk1]
   go_enter Tryz.func133,Tryz.ntmps133
   go_wp2_with fail;refine bodyPost_ret (by simp[results,Tryz.results133,go_sem, *];try rfl) rfl ?_
   exact⟨rfl,bw⟩
  ·simp only[if_neg hk1]
   have EN:=aB (JE a a w HD.out hlo hhi ha ha ae)
   generalize (if tot (L++W)=0 then a else min lo a)=lo1 at EN |-
   generalize (if tot (L++W)=0 then a else max hi a)=hi1 at EN |-
   go_enter Tryz.func133,Tryz.ntmps133
   go_upto_region 6 with(first|(go_at_call 167;refine EN.out.mono ?_;rintro e w1 ⟨rfl,⟨oP,wv1,b1,l1,x1,hF⟩,T1⟩;obtain⟨B,cb,rfl,nb,mb,fb⟩:=x1.form;have q5:=b1.cell 5;have q2:=b1.cell 2;have r5:=b1.frozen 5;have r2:=b1.frozen 2;simp only[aF,aG,aC] at q5 q2;have B1:=aB b1;have L1:=aB l1;have X1:=aB x1;have HF1:=aB hF;clear b1 l1 x1 hF fb;go_simp))
   go_upto_region 7 with fail;have T2:=T1.setCell (p:=⟨g,5,none⟩) (.inl rfl) (.int .u64 (tot (L++W)+k));have hz2:=T2.size;have NL1:=B1.out.jU L1.out af
   have NR:=B1.out.jU X1.out af
   have B2:=aB (B1.out.dP 5 (.int .u64 (tot (L++W)+k)));have L2:=aB (L1.out.far (p:=⟨g,5,none⟩) NL1 (.int .u64 (tot (L++W)+k)));have X2:=aB (X1.out.far (p:=⟨g,5,none⟩) NR (.int .u64 (tot (L++W)+k)));have HF2:Hid (∀k1,F k1->k1<(w1.setCell ⟨g,5,none⟩ (.int .u64 (tot (L++W)+k))).heap.size):=fun k1 hf=>(by rw[bZ];exact HF1.out.2.2.2.2 k1 hf)
   generalize w1.setCell ⟨g,5,none⟩ (.int .u64 (tot (L++W)+k))=w2 at *;clear q5 q2 r5 r2;have q0:=B2.out.cell 0;have q2:=B2.out.cell 2;have r2:=B2.out.frozen 2;simp only[aF,aG,aC,bP,List.set_cons_succ,List.set_cons_zero] at q0 q2;have hlt2:=B2.out.lt
   go_upto_block 0 with(first|(at_builtin;refine gm rfl (.tmp 34) (.tmp 38) rfl 0 (.slice B W.length cb) W rfl (X2.out.alloc _) _ [(a,k)] rfl (nN.one _ (a,k)) (by simp only[bK];omega) (bW _) ?_;intro v1 w3 o3 g3 a3;have b3:=(g3.block g (by rw[aO];omega) (fun e=>NR e.symm)).trans (B2.out.alloc (.cells #[.int .i64 a,.int .u64 k] 231));obtain⟨A3,c3,rfl,n3,m3,f3⟩:=o3.form;have s2:=dH.cell b3 2;have s0:=dH.cell b3 0;have u2:=dH.frozen b3 2;simp only[aF,aG,aC,bP,List.set_cons_succ,List.set_cons_zero] at s0 s2;have B3:Hid (dH w3 g _ _):=aB b3;have O3:=aB o3;clear b3 o3 f3;go_simp))
   have KF:Hid (∃F':Nat->Prop,(∀k,F' k->F k\/w.heap.size<=k)/\Dg (w3.setCell ⟨g,2,none⟩ (.slice A3 (W.length+1) c3)) g F' d L (W++[(a,k)]) lo1 hi1 (tot (L++(W++[(a,k)])))/\Touch F w (w3.setCell ⟨g,2,none⟩ (.slice A3 (W.length+1) c3))):=by
    obtain⟨p1,p2,p3,p4,p5⟩:=HF1.out;have hlen3:(W++[(a,k)]).length=W.length+1:=ag
    have O3':=O3.out;rw[hlen3] at O3' a3;have T3:Touch F w w3:=((T2.mono (fun i (hi:i=g)=>hi▸p1)).alloc (.cells #[.int .i64 a,.int .u64 k] 231)).grown g3 (fun k1 hk1=>.inl (p3 k1 hk1))
    have T4:=T3.setCell (p:=⟨g,2,none⟩) (.inl p1) (.slice A3 (W.length+1) c3);have NS:∀k1,(Value.slice A3 (W.length+1) c3).ownBlock=some k1->F k1\/k1=w2.heap.size+1:=fun k1 e=>by
     rcases a3 with e3|e3
     ·exact .inl (p3 k1 (by rw[<-e3];exact e))
     ·rw[e3] at e;simp only[aO,bC] at e;exact .inr e.symm
    have sz3:w2.heap.size+1<=w3.heap.size:=by have:=g3.size;rw[aO] at this;exact this
    have ng3:(Value.slice A3 (W.length+1) c3).ownBlock≠some g:=fun e=>by
     rcases a3 with e3|e3
     ·exact NR (by rw[<-e3];exact e)
     ·rw[e3] at e;simp only[aO,bC] at e;omega
    have L3:dU 0 w3 oP L:=(L2.out.alloc (.cells #[.int .i64 a,.int .u64 k] 231)).stay fun k1 e=>g3.block k1 (by rw[aO];have:=HF2.out k1 (p2 k1 e);omega) (fun e2=>p4 k1 e2.symm e)
    have ht3:tot (L++W)+k=tot (L++(W++[(a,k)])):=by simp only[dS,tot];omega
    have B3':=B3.out;rw[ht3] at B3';refine⟨fun k1=>F k1\/(Value.slice A3 (W.length+1) c3).ownBlock=some k1,?_,⟨oP,_,B3'.dP 2 _,L3.far (p:=⟨g,2,none⟩) (fun e=>B3.out.jU L3 af e) _,?_,.inl p1,fun k1 e=>.inl (p2 k1 e),fun k1 e=>.inr e,?_,?_⟩,T4⟩
    ·rintro k1 (hf|e)
     ·exact .inl hf
     ·rcases NS k1 e with hf|hf
      ·exact .inl hf
      ·exact .inr (by have:=T2.size;omega)
    ·have:=O3'.far (p:=⟨g,2,none⟩) ng3 (.slice A3 (W.length+1) c3)
     exact this
    ·intro k1 e e2
     rcases a3 with e3|e3
     ·exact p4 k1 (by rw[<-e3];exact e) e2
     ·rw[e3] at e;simp only[aO,bC] at e
      have:=HF2.out k1 (p2 k1 e2);omega
    ·intro k1 hk1
     rw[bZ]
     rcases hk1 with hf|e
     ·have:=HF2.out k1 hf;omega
     ·exact(O3'.lt k1 e).2
   have B4:=B3.out.dP 2 (.slice A3 (W.length+1) c3);have v0:=B4.cell 0;have v2:=B4.cell 2;simp only[aF,aG,aC,bP,List.set_cons_succ,List.set_cons_zero] at v0 v2;clear B4 s0 s2 u2 NL1 NR q0 q2 r2 g3 a3;generalize w3.setCell ⟨g,2,none⟩ (.slice A3 (W.length+1) c3)=w4 at *;clear B3 O3 B2 L2 X2 HF2 T2 B1 L1 X1 HF1 T1 HD EN c5;have hok:jY (L++(W++[(a,k)])):=by
    rw[<-aS];exact ho.append (fun m hm=>by simp only[List.mem_singleton] at hm;subst hm;exact⟨ha.1,ha.2,by show 0<k;omega⟩)
   have oN:=aB hok;have HT:Hid (tot (L++(W++[(a,k)]))=tot (L++W)+k):=by show _=_;simp only[dS,tot];omega
   clear hok
   by_cases hd:d<=(W.length:Int)+1
   ·have EL:Hid (gW d L W (a,k)=sF d (L++(W++[(a,k)]))/\ni d W (a,k)=[]):=by unfold gW ni;rw[if_pos hd,if_pos hd];exact⟨rfl,rfl⟩
    obtain⟨F1,f1,f2,f3⟩:=KF.out;have JF:L.length+(W++[(a,k)]).length<=100000000:=by simp only[aI,bK];omega
    have ht4:tot (L++(W++[(a,k)]))<=281474976710656:=by rw[HT.out];omega
    have PC:=aB (fun nq=>F_ g F1 d lo1 hi1 L (W++[(a,k)]) (w4.drewN nq) (f2.keep (below_drewN (aH _ _) nq)) oN.out ag JF ht4 d0 d1)
    have T5:=aB f3;have F5:=aB f1;clear f1 f2 f3 JF ht4 KF
    go_quiet (fail)
    go_wp2_with fail;refine(PC.out _).mono ?_
    rintro e w5 ⟨rfl,F2,g1,g2,g3⟩;have G1:=aB g1;have G2:=aB g2;have G3:=aB g3;have hs5:=T5.out.size;clear g1 g2 g3
    go_wp2_with fail;refine bodyPost_ret (by simp[results,Tryz.results133,go_sem, *];try rfl) rfl ?_
    refine⟨rfl,F2,?_,?_,?_⟩
    ·intro k1 h1
     rcases G1.out k1 h1 with h2|h2
     ·exact F5.out k1 h2
     ·exact .inr (by rw[fG] at h2;omega)
    ·rw[EL.out.1,EL.out.2,<-HT.out]
     exact G2.out
    ·exact(T5.out.drewN _).trans G3.out (fun i hi=>F5.out i hi)
   ·have EL:Hid (gW d L W (a,k)=L/\ni d W (a,k)=W++[(a,k)]):=by unfold gW ni;rw[if_neg hd,if_neg hd];exact⟨rfl,rfl⟩
    obtain⟨F1,f1,f2,f3⟩:=KF.out;have D5:=aB f2;have T5:=aB f3;have F5:=aB f1;clear f1 f2 f3 KF
    go_quiet (fail)
    go_wp2_with fail;refine bodyPost_ret (by simp[results,Tryz.results133,go_sem, *];try rfl) rfl ?_
    refine⟨rfl,F1,F5.out,?_,T5.out.drewN _⟩
    rw[EL.out.1,EL.out.2,<-HT.out];exact D5.out.keep (below_drewN (aH _ _) _)
open Go.RowKit Go.Lib
theorem Dg.lt{w:World}{g:Nat}{F:Nat->Prop}{d lo hi n:Int}{L W:List Mn}(h:Dg w g F d L W lo hi n):g<w.heap.size:=by
 obtain⟨lv,wv,hb,_⟩:=h;exact hb.lt
theorem Dg.mem{w:World}{g:Nat}{F:Nat->Prop}{d lo hi n:Int}{L W:List Mn}(h:Dg w g F d L W lo hi n):F g:=by
 obtain⟨lv,wv,_,_,_,hg,_⟩:=h;exact hg
theorem Dg.low{w:World}{g:Nat}{F:Nat->Prop}{d lo hi n:Int}{L W:List Mn}(h:Dg w g F d L W lo hi n):∀k,F k->k<w.heap.size:=by
 obtain⟨lv,wv,_,_,_,_,_,_,_,h4⟩:=h;exact h4
theorem nC{g:Nat}{F:Nat->Prop}{d lo hi n:Int}{L W:List Mn}(w:World)(h:Dg w g F d L W lo hi n) :
 Calls Tryz.prog 72 #[.pointer (some ⟨g,0,none⟩)] w fun e w'=>e=.returned (.int .i64 d)/\w=w':=by
 obtain⟨lv,wv,hb,_⟩:=h;have c5:=hb.cell 0;simp only[aF,aC] at c5
 go_enter Tryz.func72,Tryz.ntmps72
 go_wp2_with fail;refine bodyPost_ret (by simp[results,Tryz.results72,go_sem, *];try rfl) rfl ?_
 exact⟨rfl,rfl⟩
theorem Tf{g:Nat}{F:Nat->Prop}{d lo hi:Int}{L W:List Mn}(w:World)(h:Dg w g F d L W lo hi 0) :
 Calls Tryz.prog 152 #[.pointer (some ⟨g,0,none⟩)] w fun e w'=>e=.returned (.tuple #[.int .i64 0,.int .i64 0,.int .i64 8])/\Below w.heap.size w w':=by
 obtain⟨lv,wv,hb,_⟩:=h;have c5:=hb.cell 5;simp only[aF,aG,aC] at c5;clear hb
 go_enter Tryz.func152,Tryz.ntmps152
 go_wp2_with fail;refine bodyPost_ret (by simp[results,Tryz.results152,go_sem, *];try rfl) rfl ?_
 exact⟨rfl,bw⟩
theorem Ti{g:Nat}{F:Nat->Prop}{d lo hi n:Int}{L W:List Mn}(w:World)(h:Dg w g F d L W lo hi n)(hn:0<n) :
 Calls Tryz.prog 152 #[.pointer (some ⟨g,0,none⟩)] w fun e w'=>e=.returned (.tuple #[.int .i64 lo,.int .i64 hi,.int .i64 0])/\Below w.heap.size w w':=by
 obtain⟨lv,wv,hb,_⟩:=h;have c5:=hb.cell 5;have c3:=hb.cell 3;have c4:=hb.cell 4;simp only[aF,aG,aC] at c3 c4 c5;have h0:(n == 0)=false:=ah
 clear hb
 go_enter Tryz.func152,Tryz.ntmps152
 go_wp2_with fail
 go_quiet (fail)
 go_wp2_with fail;refine bodyPost_ret (by simp[results,Tryz.results152,go_sem, *];try rfl) rfl ?_
 exact⟨rfl,bw⟩
theorem WI{g:Nat}{F:Nat->Prop}{d lo hi n:Int}{L W:List Mn}(w:World)(h:Dg w g F d L W lo hi n)(hl:L.length<=1099511627776) :
 Calls Tryz.prog 154 #[.pointer (some ⟨g,0,none⟩)] w fun e w'=>∃v,e=.returned v/\dU w.heap.size w' v L/\Below w.heap.size w w':=by
 obtain⟨lv,wv,hb,ho,_⟩:=h;have c1:=hb.cell 1;simp only[aF,aG,aC] at c1;have HO:=aB ho;clear hb ho
 go_enter Tryz.func154,Tryz.ntmps154
 go_wp2_with fail;refine(QH lv L _ HO.out.rd hl).mono ?_
 rintro e w1 ⟨v,rfl,o,hb1⟩;have O:=aB o;clear o
 go_wp2_with fail;refine bodyPost_ret (by simp[results,Tryz.results154,go_sem, *];try rfl) rfl ?_
 exact⟨_,rfl,O.out,hb1⟩
theorem Tj{g:Nat}{F:Nat->Prop}{d lo hi n:Int}{L W:List Mn}(w:World)(h:Dg w g F d L W lo hi n)(hl:W.length<=1099511627776) :
 Calls Tryz.prog 156 #[.pointer (some ⟨g,0,none⟩)] w fun e w'=>∃v,e=.returned v/\dU w.heap.size w' v W/\Below w.heap.size w w':=by
 obtain⟨lv,wv,hb,_,ho,_⟩:=h;have c1:=hb.cell 2;simp only[aF,aG,aC] at c1;have HO:=aB ho;clear hb ho
 go_enter Tryz.func156,Tryz.ntmps156
 go_wp2_with fail;refine(QH wv W _ HO.out.rd hl).mono ?_
 rintro e w1 ⟨v,rfl,o,hb1⟩;have O:=aB o;clear o
 go_wp2_with fail;refine bodyPost_ret (by simp[results,Tryz.results156,go_sem, *];try rfl) rfl ?_
 exact⟨_,rfl,O.out,hb1⟩
theorem Z_(d:Int)(w:World)(h0:10<=d)(h1:d<=1000) :
 Calls Tryz.prog 230 #[.int .i64 d] w fun e w'=>∃g,e=.returned (.tuple #[.pointer (some ⟨g,0,none⟩),.int .i64 0])/\w.heap.size<=g/\Dg w' g (fun k=>k=g) d [] [] 0 0 0/\Below w.heap.size w w':=by
 go_enter Tryz.func230,Tryz.ntmps230
 go_wp2_with fail;refine bodyPost_ret (by simp[results,Tryz.results230,go_sem, *];try rfl) rfl ?_
 refine⟨_,rfl,?_,⟨.slice none 0 0,.slice none 0 0,?_,dU.nil_ _ _,dU.nil_ _ _,rfl,(fun k e=>by cases e),(fun k e=>by cases e),(fun k e=>by cases e),(fun k e=>by subst e;simp)⟩,?_⟩
 ·simp
 ·exact dH.new _ _ _
 ·(repeat' (first|(with_reducible exact aH _ _)|(with_reducible refine dB ?_ ?_ _)|(with_reducible refine Below.drew ?_)|(with_reducible refine below_drewN ?_ _)|(with_reducible refine dA ?_ ?_ _)|(with_reducible refine wV (by assumption) ?_ ?_)|go_size))
open Go.RowKit Go.Lib
open Go.RowKit Go.Lib
def Found(n:Nat)(p:Nat->Bool)(w:World)(e:Ending)(w':World):Prop:=∃i q:Nat,e=.returned (.int .i64 i)/\i<=n/\(∀t,t<i->p t=false)/\(∀t,i<=t->t<n->p t=true)/\w'=w.drewN q
theorem NT(K:Nat)(cb:Array Value)(n:Nat)(p:Nat->Bool)(w:World)(eg:∀args w,(callFunc K args).run Tryz.prog w=.ok (.enter K args) w)(hsz:n<4611686018427387904)
 (hf:∀(m i:Nat),i<n->Calls Tryz.prog K (#[.int .i64 i]++cb) (w.drewN m) fun e w'=>e=.returned (.bool (p i))/\∃q,w'=(w.drewN m).drewN q)
 (hmono:∀a b,a<=b->b<n->p a=true->p b=true) :
 Calls Tryz.prog 211 #[.int .i64 n,.func (.func K) #[] cb] w (Found n p w):=by
 have HF:=aB hf;have M:=aB hmono;clear hf hmono
 go_enter Tryz.func211,Tryz.ntmps211
 go_wp2_with fail
 go_loopg [5,6] n (fun kx s5 s6 wr=>∃lo hi q:Nat,s5=.int .i64 lo/\s6=.int .i64 hi/\lo<=hi/\hi<=n/\hi - lo<=kx/\wr=w.drewN q /\
  Hid ((∀t,t<lo->p t=false)/\(∀t,hi<=t->t<n->p t=true)))
 case atStart=>exact⟨0,n,0,rfl,rfl,bW _,aK _,ae,rfl,(⟨fun t ht=>absurd ht (Nat.not_lt_zero _),fun t h1 h2=>by omega⟩:(∀t,t<0->p t=false)/\(∀t,n<=t->t<n->p t=true))⟩
 case round=>
  obtain⟨lo,hi,q,rfl,rfl,hlh,hin,hg,rfl,I⟩:=hrel
  by_cases hlt:lo<hi
  ·have hc:=HF.out q ((lo+hi) / 2) ae
   rw[show(((lo+hi) / 2:Nat):Int)=((lo:Int)+(hi:Int)) / 2 by omega] at hc
   cases hp:p ((lo+hi) / 2)<;>rw[hp] at hc
   ·have HP:=aB hp
    have HC:=aB hc;clear hp hc
    go_wp2_with (go_at_fn K;refine HC.out.mono ?_;rintro e w' ⟨rfl,nq,rfl⟩)
    go_roundg (hi - ((lo+hi) / 2+1))
    case measure=>omega
    case rel=>
     have I2:Hid ((∀t,t<(lo+hi) / 2+1->p t=false)/\(∀t,hi<=t->t<n->p t=true)):=⟨fun t ht=>(by
      cases h:p t with
      | false=>rfl
      | true=>have:=M.out t ((lo+hi) / 2) ae  ae h;rw[HP.out] at this;cases this),I.out.2⟩
     exact⟨(lo+hi) / 2+1,hi,q+nq,by rw[show((lo:Int)+(hi:Int)) / 2+1=(((lo+hi) / 2+1:Nat):Int) by omega],rfl,ae,hin,aK _,rfl,I2⟩
   ·have HP:=aB hp
    have HC:=aB hc;clear hp hc
    go_wp2_with (go_at_fn K;refine HC.out.mono ?_;rintro e w' ⟨rfl,nq,rfl⟩)
    go_roundg ((lo+hi) / 2 - lo)
    case measure=>omega
    case rel=>
     have I2:Hid ((∀t,t<lo->p t=false)/\(∀t,(lo+hi) / 2<=t->t<n->p t=true)):=⟨I.out.1,fun t ht htn=>M.out ((lo+hi) / 2) t ht htn HP.out⟩
     exact⟨lo,(lo+hi) / 2,q+nq,rfl,by rw[show((lo:Int)+(hi:Int)) / 2=(((lo+hi) / 2:Nat):Int) by omega],ae,ae,aK _,rfl,I2⟩
  ·obtain rfl:hi=lo:=ae
   go_wp2_with fail
   go_ret;exact⟨hi,q,rfl,hin,I.out.1,I.out.2,rfl⟩
open Go.RowKit Go.Lib
def NU(w:World)(g:Nat)(F:Nat->Prop)(d:Int)(s:St):Prop:=Dg w g F d s.L s.W s.lo s.hi (tot (s.L++s.W))
structure Fit(d:Int)(s:St)(k:Nat):Prop where
 ok:s.Ok d k
 k1:k<=100000000
 t:tot (s.L++s.W)<=281474976710656
 d0:10<=d
 d1:d<=1000
open Go.RowKit Go.Lib
open Go.RowKit Go.Lib
structure RpS(g:Nat)(d:Int)(w w':World):Prop where
 touch:Touch (fun k=>k=g) w w'
 c0:w'.cell? ⟨g,0,none⟩=some (.int .i64 d)
theorem RpS.dP{g:Nat}{d:Int}{w w':World}(h:RpS g d w w')(v:Value):RpS g d w (w'.setCell ⟨g,1,none⟩ v):=
 ⟨h.touch.setCell (.inl rfl) v,(World.cell?_setCell_other _ _ _ _ ag).trans h.c0⟩
theorem sU.low{w:World}{g:Nat}{F:Nat->Prop}{d lo hi:Int}{L W:List Mn}(h:sU w g F d L W lo hi):∀k,F k->k<w.heap.size:=by
 obtain⟨lv,wv,_,_,_,_,_,_,_,h4⟩:=h;exact h4
theorem Ci(g:Nat)(F:Nat->Prop)(d lo hi:Int)(L W:List Mn)(w:World)(h:sU w g F d L W lo hi)(ho:jY (L++W))(hlen:L.length+W.length<=100000000)(ht:tot (L++W)<=281474976710656)(d0:0<=d)(d1:d<=1000) :
 Calls Tryz.prog 191 #[.pointer (some ⟨g,0,none⟩)] w fun e w'=>e=.returned (.tuple #[])/\∃F':Nat->Prop,(∀k,F' k->F k\/w.heap.size<=k)/\sU w' g F' d (sF d (L++W)) [] lo hi/\Touch F w w':=by
 have HD:=aB h;obtain⟨lv,wv,hb,hl,hw,hg,h1,h2,h3,h4⟩:=h;have c0:=hb.cell 0;have c1:=hb.cell 1;have c2:=hb.cell 2;have f1:=hb.frozen 1;have f2:=hb.frozen 2;simp only[aF,aG,aC] at c0 c1 c2;have hlt:=hb.lt;have HB:=aB hb;obtain⟨A,ca,rfl,na,ma,fa⟩:=hl.form;obtain⟨B,cb,rfl,nb,mb,fb⟩:=hw.form;have HG:=aB hg;have HC0:=aB c0;have HC1:=aB c1;have HC2:=aB c2;have HO:=aB ho;have HAL:(L++W).length<=1000000000:=by rw[aI];omega
 clear hb hl hw fa fb ho hg h1 h2 h3 h4 c0 c1 c2
 go_enter Tryz.func191,Tryz.ntmps191
 go_wp2_with fail;have VI:∀w',Below w.heap.size w w'->RpS g d w w':=fun w' hb=>⟨Touch.of_below hb (aK _),(hb.cell (p:=⟨g,0,none⟩) hlt).trans HC0.out⟩
 refine dD (RpS g d w) [(0,true),(1,true),(2,true),(3,true),(4,true),(5,true),(6,false),(7,false),(8,true),(9,true),(10,false)] (by kernel_rfl) (by kernel_rfl) (VI _ (aH _ _).drew) ?_
 iterate 6
  refine dC ax  ax (fun R hR=>?_)
  apply aJ
  refine⟨fun w' hS'=>?_,?_⟩
  ·have k0:=hS'.c0
   go_simp;exact⟨rfl,rfl⟩
  go_simp;refine hR _ ?_;clear hR R
 refine dE ax  ax (fun K hK=>?_)
 go_simp;refine(jC g F d lo hi L W _ (HD.out.keep (aH _ _).drew) ae).mono ?_
 rintro e w1 ⟨v1,rfl,o1,hb1⟩;have Cf:Below w.heap.size w w1:=((aH _ _).drew).trans (hb1.mono aj)
 have hz1:=Cf.size;have O1:=aB o1;clear o1;refine hK _ _ (VI _ Cf) ?_
 clear hK K;refine dE ax  ax (fun K hK=>?_)
 go_simp;refine(Ia d v1 (L++W) _ O1.out.rd HO.out HAL ht d0 d1).mono ?_
 rintro e w3 ⟨v3,rfl,o3,hb3⟩;have hbw3:Below w.heap.size w w3:=Cf.trans (hb3.mono hz1);have hz3:=hbw3.size;have O3:=aB o3;clear o3;refine hK _ _ (VI _ hbw3) ?_
 clear hK K
 iterate 2
  refine dC ax  ax (fun R hR=>?_)
  apply aJ
  refine⟨fun w' hS'=>?_,?_⟩
  ·have k0:=hS'.c0
   go_simp;exact⟨rfl,rfl⟩
  go_simp;refine hR _ ?_;clear hR R
 refine dE ax  ax (fun K hK=>?_)
 obtain⟨A3,c3,rfl,n3,m3,f3⟩:=O3.out.form;clear f3;have k1:=(hbw3.frozen (p:=⟨g,1,none⟩) hlt).trans f1;have k3:=(hbw3.cell (p:=⟨g,1,none⟩) hlt).trans HC1.out
 go_simp;refine hK _ _ ((VI _ hbw3).dP _) ?_
 clear hK K;refine dF ?_
 have k2:=(hbw3.frozen (p:=⟨g,2,none⟩) hlt).trans f2;have k4:=(hbw3.cell (p:=⟨g,2,none⟩) hlt).trans HC2.out
 go_wp2_with fail;refine bodyPost_end (v:=.tuple #[]) (by simp[results,Tryz.results191,go_sem, *];try rfl) rfl ?_
 refine⟨rfl,fun k=>k=g\/(Value.slice A3 (sF d (L++W)).length c3).ownBlock=some k,?_,?_,?_⟩
 ·rintro k (rfl|hk)
  ·exact .inl HG.out
  ·exact .inr (by have:=(O3.out.lt k hk).1;omega)
 ·have hgo:∀k,(Value.slice A3 (sF d (L++W)).length c3).ownBlock=some k->w.heap.size<=k/\k<w3.heap.size:=fun k hk=>by have:=O3.out.lt k hk;omega
  have hgn:∀i,(Value.slice A3 (sF d (L++W)).length c3).ownBlock≠some (⟨g,i,none⟩:Addr).block:=fun i hk=>by have:=hgo g hk;omega
  refine⟨_,_,((HB.out.keep hbw3).dP 1 _).dP 2 _,((O3.out.more (bW _)).far (hgn 1) _).far (hgn 2) _,dU.nil_ _ _,.inl rfl,fun k hk=>.inr hk,fun k hk=>(by cases hk),fun k hk=>(by cases hk),fun k hk=>?_⟩
  simp only[bZ]
  rcases hk with rfl|hk
  ·omega
  ·have:=hgo k hk;omega
 ·exact((Touch.of_below hbw3 (aK _)).setCell (.inl HG.out) _).setCell (.inl HG.out) _
theorem sU.cells{w w':World}{g:Nat}{F:Nat->Prop}{d d' lo hi lo' hi':Int}{L W:List Mn}{lv wv:Value}(hb:dH w g 151 #[.int .i64 d,lv,wv,.int .i64 lo,.int .i64 hi])(hl:dU 0 w lv L)(hw:dU 0 w wv W)
 (hF:F g/\(∀k,lv.ownBlock=some k->F k)/\(∀k,wv.ownBlock=some k->F k)/\(∀k,wv.ownBlock=some k->lv.ownBlock≠some k)/\(∀k,F k->k<w.heap.size))
 (ht:Touch (fun k=>k=g) w w') (hb':dH w' g 151 #[.int .i64 d',lv,wv,.int .i64 lo',.int .i64 hi']):sU w' g F d' L W lo' hi':=by
 obtain⟨hg,h1,h2,h3,h4⟩:=hF;have nl:=hb.jU hl af
 have nw:=hb.jU hw af
 exact⟨lv,wv,hb',hl.stay fun k e=>ht.block k (h4 k (h1 k e)) (fun h=>nl (by rw[e,h])),hw.stay fun k e=>ht.block k (h4 k (h2 k e)) (fun h=>nw (by rw[e,h])),hg,h1,h2,h3,fun k hf=>aU (h4 k hf) ht.size⟩
theorem Gf{g:Nat}{F:Nat->Prop}{d lo hi:Int}{L W:List Mn}(a b:Int)(w:World)(h:sU w g F d L W lo hi)(hlen:L.length+W.length<=100000000) :
 Calls Tryz.prog 190 #[.pointer (some ⟨g,0,none⟩),.int .i64 a,.int .i64 b] w fun e w'=>e=.returned (.tuple #[])/\sU w' g F d L W (if L.length+W.length=0 then a else min lo a) (if L.length+W.length=0 then b else max hi b)/\Touch (fun k=>k=g) w w':=by
 obtain⟨lv,wv,hb,hl,hw,hg,h1,h2,h3,h4⟩:=h;have hlt:=hb.lt;obtain⟨A,ca,rfl,na,ma,fa⟩:=hl.form;obtain⟨B,cb,rfl,nb,mb,fb⟩:=hw.form;have HB:=aB hb;have HL:=aB hl;have HW:=aB hw;have HG:=aB (aN hg (aN h1 (aN h2 (aN h3 h4))));have c1:=hb.cell 1;have c2:=hb.cell 2;have c3:=hb.cell 3;have c4:=hb.cell 4;have f3:=hb.frozen 3;have f4:=hb.frozen 4;simp only[aF,aG,aC] at c1 c2 c3 c4;clear hb hl hw hg h1 h2 h3 h4 fa fb
 by_cases hn:L.length+W.length=0
 ·simp only[if_pos hn]
  have hE:(((L.length:Int)+(W.length:Int)) == 0)=true:=ah
  clear hn;have ew:IntKind.i64.wrap ((L.length:Int)+(W.length:Int))=(L.length:Int)+(W.length:Int):=IntWalk.i64_in _ ae
  go_enter Tryz.func190,Tryz.ntmps190
  go_wp2_with fail
  go_quiet (fail)
  clear ew
  go_wp2_with fail;refine bodyPost_end (v:=.tuple #[]) (by simp[results,Tryz.results190,go_sem, *];try rfl) rfl ?_
  have T3:=((((((Touch.refl (fun k=>k=g) w).drewN nq).setCell (p:=⟨g,3,none⟩) (.inl rfl) (.int .i64 a)).setCell (p:=⟨g,4,none⟩) (.inl rfl) (.int .i64 b)).setCell (p:=⟨g,3,none⟩) (.inl rfl) (.int .i64 a)).setCell (p:=⟨g,4,none⟩) (.inl rfl) (.int .i64 b))
  exact⟨rfl,sU.cells HB.out HL.out HW.out HG.out T3 (((((HB.out.drewN nq).dP 3 _).dP 4 _).dP 3 _).dP 4 _),T3⟩
 ·simp only[if_neg hn]
  have hE:(((L.length:Int)+(W.length:Int)) == 0)=false:=ah
  clear hn;have ew:IntKind.i64.wrap ((L.length:Int)+(W.length:Int))=(L.length:Int)+(W.length:Int):=IntWalk.i64_in _ ae
  go_enter Tryz.func190,Tryz.ntmps190
  go_wp2_with fail
  go_quiet (fail)
  clear ew
  go_wp2_with fail;refine bodyPost_end (v:=.tuple #[]) (by simp[results,Tryz.results190,go_sem, *];try rfl) rfl ?_
  have T3:=(((Touch.refl (fun k=>k=g) w).drewN nq).setCell (p:=⟨g,3,none⟩) (.inl rfl) (.int .i64 (min lo a))).setCell (p:=⟨g,4,none⟩) (.inl rfl) (.int .i64 (max hi b))
  exact⟨rfl,sU.cells HB.out HL.out HW.out HG.out T3 (((HB.out.drewN nq).dP 3 _).dP 4 _),T3⟩
end Go.Proofs.YtkiebccnpheloaaGreat
