/- Parts of a proof. No condition. -/
import Derived.Test.YtilcnjbpmoijmaaGreatPw08
set_option maxRecDepth 100000
set_option maxHeartbeats 16000000
set_option linter.unusedVariables false
set_option linter.unusedSimpArgs false
namespace Go.Proofs.YtilcnjbpmoijmaaGreat
open Tryz
open Go.RowKit Go.Lib
def bs1(d lo hi:Int)(L W:List Mn)(w:World)(e:Ending)(w':World):Prop:=
 (iq d lo hi L W=true/\∃(g:Nat) (F:Nat->Prop),e=.returned (.tuple #[.pointer (some ⟨g,0,none⟩),.int .i64 0])/\Ie w' g F d ⟨L,W,lo,hi⟩/\(∀k,F k->w.heap.size<=k)/\Below w.heap.size w w') \/
 (iq d lo hi L W=false/\e=.returned (.tuple #[.pointer none,.int .i64 1])/\Below w.heap.size w w')
theorem Hu(d lo hi:Int)(vl vw:Value)(L W:List Mn)(w:World)(hL:qw w vl L)(hW:qw w vw W)(hr:qK (L++W))(hlen:L.length+W.length<=1000000) :
 aH 289 #[.int .i64 d,.int .i64 lo,.int .i64 hi,vl,vw] w (bs1 d lo hi L W w):=by
 have HL:=aI hL;have HW:=aI hW;obtain⟨A,ca,rfl,na,ma,fa⟩:=hL.form;obtain⟨B,cb,rfl,nb,mb,fb⟩:=hW.form;have FA:=aI fa;clear hL hW fa fb
 by_cases hd:d<10\/1000<d
 ·have hR:Hid (iq d lo hi L W=false):=by show iq d lo hi L W=false;unfold iq;rw[decide_eq_false ae];rfl
  have HD:=aI hd;clear hd
  go_enter func289,ntmps289
  go_wp2_with fail;refine(Fv d w HD.o).mono ?_
  rintro e w1 ⟨rfl,hb1⟩
  go_wp2_with fail;refine bodyPost_ret (by simp[results,Tryz.results289,go_sem, *];try rfl) rfl ?_
  exact .inr ⟨hR.o,rfl,hb1⟩
 ·have d0:10<=d:=ae
  have d1:d<=1000:=ae
  clear hd
  by_cases hwl:d<=(W.length:Int)
  ·have hR:Hid (iq d lo hi L W=false):=by show iq d lo hi L W=false;unfold iq;rw[decide_eq_false ae];rfl
   go_enter func289,ntmps289
   go_wp2_with fail;refine(Ef d w d0 d1).mono ?_
   rintro e w1 ⟨g,rfl,hg,hd,hb1⟩;clear hd
   go_wp2_with fail;refine bodyPost_ret (by simp[results,Tryz.results289,go_sem, *];try rfl) rfl ?_
   exact .inr ⟨hR.o,rfl,hb1⟩
  ·have HRW:Hid (iq d lo hi L W=(kZ lo hi L.length 0 0 0 (L++W) && decide (0<tot (L++W)\/(lo=0/\hi=0)))):=by show _=_;unfold iq;rw[decide_eq_true (show 10<=d/\d<=1000/\(W.length:Int)<d from⟨d0,d1,ae⟩)];rfl
   have ah9:=aI hr;clear hr
   go_enter func289,ntmps289
   go_wp2_with fail;refine(Ef d w d0 d1).mono ?_
   rintro e w1 ⟨g,rfl,hg,⟨lv,wv,bk,ol,ow,-⟩,hb1⟩;obtain⟨A1,c1,rfl,_,_,f1⟩:=ol.form;obtain⟨A2,c2,rfl,_,_,f2⟩:=ow.form;have hz1:=hb1.size;have hg1:=bk.lt;have BK:=aI bk;clear bk ol ow f1 f2
   go_wp2_with fail;have hal:Below w1.heap.size w1 (w1.alloc (.cells #[.slice A L.length ca,.slice B W.length cb] 111)):=(aO _ _).alloc (aS _) _;have hrow:Ce (w1.alloc (.cells #[.slice A L.length ca,.slice B W.length cb] 111)) w1.heap.size [L,W]:=Kr ((HL.o.keep hb1).keep hal) ((HW.o.keep hb1).keep hal);refine(Fq w1.heap.size [L,W] _ aj hrow ag ah).mono ?_
   rintro e w2 ⟨v2,rfl,o2,hb2⟩;rw[show([L,W]:List (List Mn)).flatten=L++W by simp] at o2
   have hz2:=hb2.size;simp only[aV] at hz2;have hbw2:Below w1.heap.size w1 w2:=hal.trans (hb2.mono ag)
   have BK2:=aI (BK.o.keep hbw2);have ap8:Below w.heap.size w w2:=hb1.trans (hbw2.mono hz1);have hNl:(L++W).length=L.length+W.length:=aQ ..;obtain⟨N,hN⟩:=aF (L++W);rw[hN] at o2 HRW ah9 hNl;have HN:=aI hN;have HNL:=aI hNl;have cj6:N.length<=1000000:=ae
   obtain⟨A3,c3,rfl,n3,m3,f3⟩:=o2.form;have O3:Hid (fA (g+1) w2 (.slice A3 N.length c3) N):=aI (o2.more ah)
   clear hN hNl hal hrow f3 o2
   go_wp2_with fail
   go_loopg [34] N.length (fun q i wr=>∃(j:Nat) (p t:Int),q=N.length - j/\j<=N.length/\i=.int .i64 j/\Hid (t=tot (N.take j))/\0<=t/\t<=281474976710656/\Hid (kZ lo hi L.length 0 0 0 N=kZ lo hi L.length j p t (N.drop j)) /\
    Hid (∀k (h:k<N.length),j=k+1->p=N[k].1)/\Hid (dK wr g 199 #[.int .i64 d,.slice A1 0 c1,.slice A2 0 c2,.int .i64 0,.int .i64 0,.int .u64 t])/\Below w.heap.size w wr/\w2.heap.size<=wr.heap.size/\Hid (fA (g+1) wr (.slice A3 N.length c3) N))
   case atStart=>exact⟨0,0,0,rfl,df _,rfl,rfl,Int.le_refl _,ae,rfl,(fun k h e=>by omega),BK2,ap8,aS _,O3⟩
   case round=>
    obtain⟨j,p,t,hk,hj,rfl,HT,t0,t1,HG,HP,HB,hb3,hz3,HF⟩:=hrel;have HK:=aI hk;have hgw:g<wr.heap.size:=HB.o.lt;have cc2:=hb3.size;clear hk;obtain⟨A4,c4,hv4,_,_,f4⟩:=HF.o.form;simp only[Value.slice.injEq,true_and] at hv4;obtain⟨rfl,rfl⟩:=hv4
    by_cases hlt:j<N.length
    ·obtain⟨g5,q5,rfl,hg5,e0,e1⟩:=f4.at_ hlt
     clear f4;have hm:=ah9.o N[j] (bf hlt);have U5:Hid (tot (N.take (j+1))=t+N[j].2):=by show _=_;rw[iC N j hlt,HT.o]
     have QO:Hid (kZ lo hi L.length j p t (N.drop j)=if N[j].2=0\/281474976710656 - t<N[j].2\/N[j].1<lo\/hi<N[j].1\/(0<j/\j<L.length/\N[j].1<p) then false else kZ lo hi L.length (j+1) N[j].1 (t+N[j].2) (N.drop (j+1))):=by
      show _=_
      rw[List.drop_eq_getElem_cons hlt];conv=>lhs;unfold kZ
     obtain⟨m,hme⟩:=aF (N[j]);have HME:=aI hme;rw[hme] at e0 e1 hm U5 QO;have b5:=HB.o.cell 5;simp only[aK,aN,aJ] at b5;have lL:=aI b5;have E0:=aI e0;have E1:=aI e1;clear hme b5 e0 e1;have ay4:Hid (∀k,j=k+1->j<L.length->∃gL oL,A=some ⟨gL,oL,none⟩/\gL<w.heap.size/\w.cell? ⟨gL,oL+k * 2,none⟩=some (.int .i64 p)):=fun k hjk hjl=>by
      obtain⟨gL,oL,hA,hgL,x0,_⟩:=FA.o.at_ (j:=k) (by omega)
      refine⟨gL,oL,hA,hgL,?_⟩
      rw[HP.o k ae hjk]
      have e:L[k]' ae =N[k]' ae :=by
       have h2:=HN.o;subst h2;rw[dE ae]
      rw[<-e];exact x0
     obtain⟨hm0,hm1,hm2,hm3⟩:=hm;have bi4:(m.2=0)\/(m.2≠0/\281474976710656 - t<m.2)\/((m.2≠0/\¬281474976710656 - t<m.2)/\m.1<lo)\/((m.2≠0/\¬281474976710656 - t<m.2)/\¬m.1<lo/\hi<m.1) \/
      ((m.2≠0/\¬281474976710656 - t<m.2)/\(¬m.1<lo/\¬hi<m.1)/\(0<j/\j<L.length/\m.1<p)) \/
      ((m.2≠0/\¬281474976710656 - t<m.2)/\(¬m.1<lo/\¬hi<m.1)/\(j=0\/(0<j/\¬j<L.length)\/(0<j/\j<L.length/\¬m.1<p))):=ae
     have ew0:=aI (IntWalk.u64_in (281474976710656 - t) ae)
     have E00:=E0.o;have E11:=E1.o
     go_upto_region 7 with fail;have ai0:Below wr.heap.size wr (wr.alloc (.cells #[.int .i64 m.1,.int .u64 m.2] 203)):=(aO _ _).alloc (aS _) _;have hb4:Below w.heap.size w (wr.alloc (.cells #[.int .i64 m.1,.int .u64 m.2] 203)):=hb3.trans (ai0.mono cc2);have x0:(wr.alloc (.cells #[.int .i64 m.1,.int .u64 m.2] 203)).cell? ⟨wr.heap.size,0,none⟩=some (.int .i64 m.1):=by simp[World.cell?_alloc_new]
     have x1:(wr.alloc (.cells #[.int .i64 m.1,.int .u64 m.2] 203)).cell? ⟨wr.heap.size,1,none⟩=some (.int .u64 m.2):=by simp[World.cell?_alloc_new]
     have x5:=(ai0.cell (p:=⟨g,5,none⟩) hgw).trans lL.o;have B4:=aI (HB.o.keep ai0);have F4:=aI (HF.o.keep ai0);have oC:=ai0.size;have hgr:g<wr.heap.size:=hgw;clear E00 E11 hg5;generalize wr.alloc (.cells #[.int .i64 m.1,.int .u64 m.2] 203)=w4 at *;have ew:=ew0.o
     rcases bi4 with h|⟨h,h'⟩|⟨⟨h,h'⟩,h2⟩|⟨⟨h,h'⟩,h2,h3⟩|⟨⟨h,h'⟩,⟨h2,h3⟩,h4,h5,h6⟩|⟨⟨h,h'⟩,⟨h2,h3⟩,h4⟩
     ·have HC:Hid (m.2=0\/281474976710656 - t<m.2\/m.1<lo\/hi<m.1\/(0<j/\j<L.length/\m.1<p)):=.inl h
      have b1:(m.2 == 0)=true:=beq_iff_eq.2 h;clear h
      go_wp2_with fail
      go_quiet (fail)
      clear ew
      go_wp2_with fail
      go_ret2
      refine .inr ⟨?_,rfl,below_drewN hb4 _⟩
      rw[HRW.o,HG.o,QO.o,if_pos HC.o];rfl
     ·have HC:Hid (m.2=0\/281474976710656 - t<m.2\/m.1<lo\/hi<m.1\/(0<j/\j<L.length/\m.1<p)):=.inr (.inl h')
      have b1:(m.2 == 0)=false:=beq_eq_false_iff_ne.2 h;have b2:decide (281474976710656 - t<m.2)=true:=decide_eq_true h';clear h h'
      go_wp2_with fail
      go_quiet (fail)
      clear ew
      go_wp2_with fail
      go_ret2
      refine .inr ⟨?_,rfl,below_drewN hb4 _⟩
      rw[HRW.o,HG.o,QO.o,if_pos HC.o];rfl
     ·have HC:Hid (m.2=0\/281474976710656 - t<m.2\/m.1<lo\/hi<m.1\/(0<j/\j<L.length/\m.1<p)):=.inr (.inr (.inl h2))
      have b1:(m.2 == 0)=false:=beq_eq_false_iff_ne.2 h;have b2:decide (281474976710656 - t<m.2)=false:=decide_eq_false h';have b3:decide (m.1<lo)=true:=decide_eq_true h2;clear h h' h2
      go_wp2_with fail
      go_quiet (fail)
      clear ew
      go_wp2_with fail
      go_ret2
      refine .inr ⟨?_,rfl,below_drewN hb4 _⟩
      rw[HRW.o,HG.o,QO.o,if_pos HC.o];rfl
     ·have HC:Hid (m.2=0\/281474976710656 - t<m.2\/m.1<lo\/hi<m.1\/(0<j/\j<L.length/\m.1<p)):=.inr (.inr (.inr (.inl h3)))
      have b1:(m.2 == 0)=false:=beq_eq_false_iff_ne.2 h;have b2:decide (281474976710656 - t<m.2)=false:=decide_eq_false h';have b3:decide (m.1<lo)=false:=decide_eq_false h2;have b4:decide (hi<m.1)=true:=decide_eq_true h3;clear h h' h2 h3
      go_wp2_with fail
      go_quiet (fail)
      clear ew
      go_wp2_with fail
      go_ret2
      refine .inr ⟨?_,rfl,below_drewN hb4 _⟩
      rw[HRW.o,HG.o,QO.o,if_pos HC.o];rfl
     ·have HC:Hid (m.2=0\/281474976710656 - t<m.2\/m.1<lo\/hi<m.1\/(0<j/\j<L.length/\m.1<p)):=.inr (.inr (.inr (.inr ⟨h4,h5,h6⟩)))
      have b1:(m.2 == 0)=false:=beq_eq_false_iff_ne.2 h;have b2:decide (281474976710656 - t<m.2)=false:=decide_eq_false h';have b3:decide (m.1<lo)=false:=decide_eq_false h2;have b4:decide (hi<m.1)=false:=decide_eq_false h3;obtain⟨k,hk⟩:∃k,j=k+1:=⟨j - 1,ae⟩
      subst hk;obtain⟨gL,oL,rfl,hgL,y0⟩:=ay4.o k rfl h5;have y1:=(hb4.cell (p:=⟨gL,oL+k * 2,none⟩) hgL).trans y0;have b5:decide ((0:Int)<(k:Int)+1)=true:=decide_eq_true ae
      have b6:decide ((k:Int)+1<(L.length:Int))=true:=decide_eq_true ae
      have b7:decide (m.1<p)=true:=decide_eq_true h6;have j1:(0:Int)<=(k:Int):=ae
      have j2:(k:Int)<(L.length:Int):=ae
      have j4:IntKind.i64.wrap (k:Int)=(k:Int):=IntWalk.i64_in _ ae
      clear h h' h2 h3 h4 h5 h6 y0
      go_wp2_with fail
      go_quiet (fail)
      clear ew j4
      go_wp2_with fail
      go_ret2
      refine .inr ⟨?_,rfl,below_drewN hb4 _⟩
      rw[HRW.o,HG.o,QO.o,if_pos HC.o];rfl
     ·have HC:Hid (¬(m.2=0\/281474976710656 - t<m.2\/m.1<lo\/hi<m.1\/(0<j/\j<L.length/\m.1<p))):=by show ¬_;omega
      have Vy:Hid (kZ lo hi L.length 0 0 0 N=kZ lo hi L.length (j+1) m.1 (t+m.2) (N.drop (j+1))):=by show _=_;rw[HG.o,QO.o,if_neg HC.o]
      have b1:(m.2 == 0)=false:=beq_eq_false_iff_ne.2 h;have b2:decide (281474976710656 - t<m.2)=false:=decide_eq_false h';have b3:decide (m.1<lo)=false:=decide_eq_false h2;have b4:decide (hi<m.1)=false:=decide_eq_false h3;have EW2:=aI (IntWalk.u64_in (t+m.2) ae)
      have HTM:Hid (0<=t+m.2/\t+m.2<=281474976710656):=by show _/\_;omega
      clear h h2 h3 h' HC
      rcases h4 with h5|⟨h5,h6⟩|⟨h5,h6,h7⟩
      ·subst h5
       have z0:((0:Nat):Int)=0:=rfl;rw[z0]
       go_wp2_with fail
       go_quiet (fail)
       clear ew z0 b1 b2 b3 b4 x0 hm0 hm1 hm2 hm3 t0 t1
       go_upto_region 9 with fail;have f5:=B4.o.frozen 5;have mW:=aI (fun(w':World) (hS':w'.cell? ⟨g,5,none⟩=some (.int .u64 t)/\w'.cell? ⟨wr.heap.size,1,none⟩=some (.int .u64 m.2))=>(aP (hS'.1) (aP (hS'.2) (EW2.o))))
       refine qm (fun w'=>w'.cell? ⟨g,5,none⟩=some (.int .u64 t)/\w'.cell? ⟨wr.heap.size,1,none⟩=some (.int .u64 m.2)) 9 (dV 0 9 []) (⟨x5,x1⟩) ?_
       iterate 9 refine mr ?_
       refine d_ ?_
       simp only[bT,cO]
       go_wp2_with fail;refine dR ?_
       go_wp2_with fail
       go_roundg (N.length - (0+1))
       case measure=>have:=HK.o;omega
       case rel=>exact⟨0+1,m.1,t+m.2,rfl,ae,ai,U5.o.symm,HTM.o.1,HTM.o.2,Vy,fun k h e=>(by obtain rfl:k=0:= ae ;rw[HME.o]),B4.o.dQ 5 _,bw,aj,F4.o.far (p:=⟨g,5,none⟩) (fun e=>by have h9:g+1<=g:=(F4.o.lt _ e).1;omega) _⟩
      ·have b5:decide (0<j)=true:=decide_eq_true ae
       have b6:decide (j<L.length)=false:=decide_eq_false ae
       clear h6
       go_wp2_with fail
       go_quiet (fail)
       clear ew b1 b2 b3 b4 x0 hm0 hm1 hm2 hm3 t0 t1 b5 b6 h5
       go_upto_region 9 with fail;have f5:=B4.o.frozen 5;have mW:=aI (fun(w':World) (hS':w'.cell? ⟨g,5,none⟩=some (.int .u64 t)/\w'.cell? ⟨wr.heap.size,1,none⟩=some (.int .u64 m.2))=>(aP (hS'.1) (aP (hS'.2) (EW2.o))))
       refine qm (fun w'=>w'.cell? ⟨g,5,none⟩=some (.int .u64 t)/\w'.cell? ⟨wr.heap.size,1,none⟩=some (.int .u64 m.2)) 9 (dV 0 9 []) (⟨x5,x1⟩) ?_
       iterate 9 refine mr ?_
       refine d_ ?_
       simp only[bT,cO]
       go_wp2_with fail;refine dR ?_
       go_wp2_with fail
       go_roundg (N.length - (j+1))
       case measure=>have:=HK.o;omega
       case rel=>exact⟨j+1,m.1,t+m.2,rfl,ae,ai,U5.o.symm,HTM.o.1,HTM.o.2,Vy,fun k h e=>(by obtain rfl:k=j:= ae ;rw[HME.o]),B4.o.dQ 5 _,bw,aj,F4.o.far (p:=⟨g,5,none⟩) (fun e=>by have h9:g+1<=g:=(F4.o.lt _ e).1;omega) _⟩
      ·obtain⟨k,hk⟩:∃k,j=k+1:=⟨j - 1,ae⟩
       subst hk;obtain⟨gL,oL,rfl,hgL,y0⟩:=ay4.o k rfl h6;have y1:=(hb4.cell (p:=⟨gL,oL+k * 2,none⟩) hgL).trans y0;have b5:decide ((0:Int)<(k:Int)+1)=true:=decide_eq_true ae
       have b6:decide ((k:Int)+1<(L.length:Int))=true:=decide_eq_true ae
       have b7:decide (m.1<p)=false:=decide_eq_false h7;have j1:(0:Int)<=(k:Int):=ae
       have j2:(k:Int)<(L.length:Int):=ae
       have j4:IntKind.i64.wrap (k:Int)=(k:Int):=IntWalk.i64_in _ ae
       clear h5 h6 h7 y0
       go_wp2_with fail
       go_quiet (fail)
       clear ew j4 b1 b2 b3 b4 x0 hm0 hm1 hm2 hm3 t0 t1 b5 b6 b7 j1 j2 y1
       go_upto_region 9 with fail;have f5:=B4.o.frozen 5;have mW:=aI (fun(w':World) (hS':w'.cell? ⟨g,5,none⟩=some (.int .u64 t)/\w'.cell? ⟨wr.heap.size,1,none⟩=some (.int .u64 m.2))=>(aP (hS'.1) (aP (hS'.2) (EW2.o))))
       refine qm (fun w'=>w'.cell? ⟨g,5,none⟩=some (.int .u64 t)/\w'.cell? ⟨wr.heap.size,1,none⟩=some (.int .u64 m.2)) 9 (dV 0 9 []) (⟨x5,x1⟩) ?_
       iterate 9 refine mr ?_
       refine d_ ?_
       simp only[bT,cO]
       go_wp2_with fail;refine dR ?_
       go_wp2_with fail
       go_roundg (N.length - (k+1+1))
       case measure=>have:=HK.o;omega
       case rel=>exact⟨k+1+1,m.1,t+m.2,rfl,ae,ai,U5.o.symm,HTM.o.1,HTM.o.2,Vy,fun k' h e=>(by obtain rfl:k'=k+1:= ae ;rw[HME.o]),B4.o.dQ 5 _,bw,aj,F4.o.far (p:=⟨g,5,none⟩) (fun e=>by have h9:g+1<=g:=(F4.o.lt _ e).1;omega) _⟩
    ·clear f4
     have HE:Hid (kZ lo hi L.length 0 0 0 N=true):=by show _=true;rw[HG.o,List.drop_of_length_le ae];rfl
     have HTN:Hid (t=tot N):=by show t=_;rw[HT.o,bP ae]
     have b5:=HB.o.cell 5;simp only[aK,aN,aJ] at b5;have hRR:Hid (iq d lo hi L W=decide (0<t\/(lo=0/\hi=0))):=by show _=_;rw[HRW.o,HE.o,HTN.o];rfl
     have htt:Hid (tot (L++W)=t):=by show _=_;rw[HN.o,HTN.o]
     rw[<-htt.o] at HB b5 hRR;have ht0:0<=tot (L++W):=by rw[htt.o];exact t0
     clear t0 t1 HT HG HP;have bi4:(0<tot (L++W))\/(tot (L++W)=0/\lo≠0)\/(tot (L++W)=0/\lo=0/\hi≠0)\/(tot (L++W)=0/\lo=0/\hi=0):=ae
     rcases bi4 with h|⟨h,h2⟩|⟨h,h2,h3⟩|⟨h,h2,h3⟩
     ·have hR:Hid (iq d lo hi L W=true):=by show _=true;rw[hRR.o];exact decide_eq_true (.inl h)
      have nb:(tot (L++W) == 0)=false:=beq_eq_false_iff_ne.2 ae
      go_wp2_with fail;refine(wH (.slice A L.length ca) L wr (HL.o.keep hb3) ae).mono ?_
      rintro e w5 ⟨v5,rfl,o5,hb5⟩;have WJ:=hb5.size;obtain⟨A5,c5,rfl,_,_,f5⟩:=o5.form;have O5:=aI o5;clear o5 f5
      go_wp2_with fail;refine(wH (.slice B W.length cb) W w5 ((HW.o.keep hb3).keep hb5) ae).mono ?_
      rintro e w6 ⟨v6,rfl,o6,hb6⟩;have WM:=hb6.size;obtain⟨A6,c6,rfl,_,_,f6⟩:=o6.form;have O6:=aI o6;have B6:=aI ((HB.o.keep hb5).keep hb6);have O56:=aI (O5.o.keep hb6);clear o6 f6;have y1:=B6.o.cell 1;have y2:=B6.o.cell 2;have y3:=B6.o.cell 3;have y4:=B6.o.cell 4;have z1:=B6.o.frozen 1;have z2:=B6.o.frozen 2;have z3:=B6.o.frozen 3;have z4:=B6.o.frozen 4;simp only[aK,aN,aJ] at y1 y2 y3 y4
      go_wp2_with fail
      go_ret2
      refine .inl ⟨hR.o,g,fun k=>k=g\/(Value.slice A5 L.length c5).ownBlock=some k\/(Value.slice A6 W.length c6).ownBlock=some k,rfl,?_,?_,bw⟩
      ·refine⟨_,_,(((B6.o.dQ 1 _).dQ 2 _).dQ 3 _).dQ 4 _,?_,?_,.inl rfl,fun k e=>.inr (.inl e),fun k e=>.inr (.inr e),fun k e e2=>?_,fun k hk=>?_⟩
       ·have q:∀i,(Value.slice A5 L.length c5).ownBlock≠some (⟨g,i,none⟩:Addr).block:=fun i e=>by have h9:wr.heap.size<=g:=(O5.o.lt _ e).1;omega
        exact(((((O56.o.far (p:=⟨g,1,none⟩) (q 1) _).far (p:=⟨g,2,none⟩) (q 2) _).far (p:=⟨g,3,none⟩) (q 3) _).far (p:=⟨g,4,none⟩) (q 4) _).more (df _))
       ·have q:∀i,(Value.slice A6 W.length c6).ownBlock≠some (⟨g,i,none⟩:Addr).block:=fun i e=>by have h9:w5.heap.size<=g:=(O6.o.lt _ e).1;omega
        exact(((((O6.o.far (p:=⟨g,1,none⟩) (q 1) _).far (p:=⟨g,2,none⟩) (q 2) _).far (p:=⟨g,3,none⟩) (q 3) _).far (p:=⟨g,4,none⟩) (q 4) _).more (df _))
       ·have h8:=(O5.o.lt k e2).2;have h9:=(O6.o.lt k e).1;omega
       ·simp only[dA]
        rcases hk with rfl|hk|hk
        ·omega
        ·have:=(O5.o.lt k hk).2;omega
        ·exact(O6.o.lt k hk).2
      ·rintro k (rfl|hk|hk)
       ·exact hg
       ·have:=(O5.o.lt k hk).1;omega
       ·have:=(O6.o.lt k hk).1;omega
     ·have hR:Hid (iq d lo hi L W=false):=by show _=false;rw[hRR.o];exact decide_eq_false ae
      have nb:(tot (L++W) == 0)=true:=beq_iff_eq.2 h;have nl:(lo != 0)=true:=by simpa using h2
      clear h h2
      go_wp2_with fail
      go_ret2
      exact .inr ⟨hR.o,rfl,hb3⟩
     ·have hR:Hid (iq d lo hi L W=false):=by show _=false;rw[hRR.o];exact decide_eq_false ae
      have nb:(tot (L++W) == 0)=true:=beq_iff_eq.2 h;have nl:(lo != 0)=false:=by simpa using h2
      have nh:(hi != 0)=true:=by simpa using h3
      clear h h2 h3
      go_wp2_with fail
      go_ret2
      exact .inr ⟨hR.o,rfl,hb3⟩
     ·have hR:Hid (iq d lo hi L W=true):=by show _=true;rw[hRR.o];exact decide_eq_true (.inr ⟨h2,h3⟩)
      have nb:(tot (L++W) == 0)=true:=beq_iff_eq.2 h;have nl:(lo != 0)=false:=by simpa using h2
      have nh:(hi != 0)=false:=by simpa using h3
      clear h h2 h3
      go_wp2_with fail;refine(wH (.slice A L.length ca) L wr (HL.o.keep hb3) ae).mono ?_
      rintro e w5 ⟨v5,rfl,o5,hb5⟩;have WJ:=hb5.size;obtain⟨A5,c5,rfl,_,_,f5⟩:=o5.form;have O5:=aI o5;clear o5 f5
      go_wp2_with fail;refine(wH (.slice B W.length cb) W w5 ((HW.o.keep hb3).keep hb5) ae).mono ?_
      rintro e w6 ⟨v6,rfl,o6,hb6⟩;have WM:=hb6.size;obtain⟨A6,c6,rfl,_,_,f6⟩:=o6.form;have O6:=aI o6;have B6:=aI ((HB.o.keep hb5).keep hb6);have O56:=aI (O5.o.keep hb6);clear o6 f6;have y1:=B6.o.cell 1;have y2:=B6.o.cell 2;have y3:=B6.o.cell 3;have y4:=B6.o.cell 4;have z1:=B6.o.frozen 1;have z2:=B6.o.frozen 2;have z3:=B6.o.frozen 3;have z4:=B6.o.frozen 4;simp only[aK,aN,aJ] at y1 y2 y3 y4
      go_wp2_with fail
      go_ret2
      refine .inl ⟨hR.o,g,fun k=>k=g\/(Value.slice A5 L.length c5).ownBlock=some k\/(Value.slice A6 W.length c6).ownBlock=some k,rfl,?_,?_,bw⟩
      ·refine⟨_,_,(((B6.o.dQ 1 _).dQ 2 _).dQ 3 _).dQ 4 _,?_,?_,.inl rfl,fun k e=>.inr (.inl e),fun k e=>.inr (.inr e),fun k e e2=>?_,fun k hk=>?_⟩
       ·have q:∀i,(Value.slice A5 L.length c5).ownBlock≠some (⟨g,i,none⟩:Addr).block:=fun i e=>by have h9:wr.heap.size<=g:=(O5.o.lt _ e).1;omega
        exact(((((O56.o.far (p:=⟨g,1,none⟩) (q 1) _).far (p:=⟨g,2,none⟩) (q 2) _).far (p:=⟨g,3,none⟩) (q 3) _).far (p:=⟨g,4,none⟩) (q 4) _).more (df _))
       ·have q:∀i,(Value.slice A6 W.length c6).ownBlock≠some (⟨g,i,none⟩:Addr).block:=fun i e=>by have h9:w5.heap.size<=g:=(O6.o.lt _ e).1;omega
        exact(((((O6.o.far (p:=⟨g,1,none⟩) (q 1) _).far (p:=⟨g,2,none⟩) (q 2) _).far (p:=⟨g,3,none⟩) (q 3) _).far (p:=⟨g,4,none⟩) (q 4) _).more (df _))
       ·have h8:=(O5.o.lt k e2).2;have h9:=(O6.o.lt k e).1;omega
       ·simp only[dA]
        rcases hk with rfl|hk|hk
        ·omega
        ·have:=(O5.o.lt k hk).2;omega
        ·exact(O6.o.lt k hk).2
      ·rintro k (rfl|hk|hk)
       ·exact hg
       ·have:=(O5.o.lt k hk).1;omega
       ·have:=(O6.o.lt k hk).1;omega
end Go.Proofs.YtilcnjbpmoijmaaGreat
