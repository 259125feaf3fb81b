/- Parts of a proof. No condition. -/
import Derived.Test.YtilcnjbpmoijmaaGreatPw39
import Derived.Test.YtilcnjbpmoijmaaGreatPw41
set_option maxRecDepth 100000
set_option maxHeartbeats 16000000
set_option linter.unusedVariables false
set_option linter.unusedSimpArgs false
namespace Go.Proofs.YtilcnjbpmoijmaaGreat
open Tryz
section
open Go.RowKit Go.Lib
variable{h2:Nat}{bs r1:List Int}{d:Int}
def qh(bs:List Int)(w:World)(e:Ending)(w':World):Prop:=
 match jy bs with
 | some x=>∃(g:Nat) (F:Nat->Prop),e=.returned (.tuple #[.pointer (some ⟨g,0,none⟩),.int .i64 0])/\Ie w' g F x.d ⟨x.L,x.W,x.lo,x.hi⟩/\(∀k,F k->w.heap.size<=k)/\Below w.heap.size w w'
 | none=>e=.returned (.tuple #[.pointer none,.int .i64 9])/\Below w.heap.size w w'
theorem BN(h2 h3:Nat)(n:Int)(w0 w:World)(R:Ending->World->Prop)(tmps:Array Value)(t2:tmps[2]?=some (.pointer (some ⟨h2,0,none⟩)))(t3:tmps[3]?=some (.pointer (some ⟨h3,0,none⟩)))
 (x2 x3:Value) (c2:w.cell? ⟨h2,0,none⟩=some x2) (c3:w.cell? ⟨h3,0,none⟩=some x3) (f2:w.frozen? ⟨h2,0,none⟩=false) (f3:w.frozen? ⟨h3,0,none⟩=false) (hne:h2≠h3) (b2:w0.heap.size<=h2) (b3:w0.heap.size<=h3) (hb:Below w0.heap.size w0 w)
 (hR:∀w',Below w0.heap.size w0 w'->R (.returned (.tuple #[.pointer none,.int .i64 9])) w') :
 Leaves prog Tryz.f208 tmps R [{target:=.fn (.func 285) #[.pointer (some ⟨h2,0,none⟩),.pointer (some ⟨h3,0,none⟩)],args:=#[]}] (.panicking [{v:=.iface 381 (.agg #[.int .i64 n]),recovered:=false}]) w:=by
 refine leaves_cons (f:=285) (args:=#[.pointer (some ⟨h2,0,none⟩),.pointer (some ⟨h3,0,none⟩)]) ag (by simp[go_sem]) ?_
 refine(catch_panicking h2 h3 x2 x3 n w c2 c3 f2 f3 hne).mono ?_
 rintro e u' w'' ⟨rfl,rfl,k2,k3,kt⟩;have hb':Below w0.heap.size w0 w'':=hb.trans (kt.below (fun i hi=>by rcases hi with rfl|rfl<;>assumption) hb.size)
 have g2:tmps.getD 2 undef=.pointer (some ⟨h2,0,none⟩):=by simp[Array.getD_eq_getD_getElem?,t2]
 have g3:tmps.getD 3 undef=.pointer (some ⟨h3,0,none⟩):=by simp[Array.getD_eq_getD_getElem?,t3]
 refine⟨.tuple #[.pointer none,.int .i64 9],?_,hR w'' hb'⟩
 simp[results,Tryz.results208,go_sem,t2,t3,k2,k3]
theorem wY(h2 h3:Nat)(w:World)(R:Ending->World->Prop)(tmps:Array Value)(t2:tmps[2]?=some (.pointer (some ⟨h2,0,none⟩)))(t3:tmps[3]?=some (.pointer (some ⟨h3,0,none⟩)))
 (x2 x3:Value) (c2:w.cell? ⟨h2,0,none⟩=some x2) (c3:w.cell? ⟨h3,0,none⟩=some x3) (hR:R (.returned (.tuple #[x2,x3])) w) :
 Leaves prog Tryz.f208 tmps R [{target:=.fn (.func 285) #[.pointer (some ⟨h2,0,none⟩),.pointer (some ⟨h3,0,none⟩)],args:=#[]}] .returning w:=by
 refine leaves_cons (f:=285) (args:=#[.pointer (some ⟨h2,0,none⟩),.pointer (some ⟨h3,0,none⟩)]) ag (by simp[go_sem]) ?_
 refine(catch_idle h2 h3 w).mono ?_
 rintro e u' w'' ⟨rfl,rfl,rfl⟩;refine⟨.tuple #[x2,x3],?_,hR⟩
 simp[results,Tryz.results208,go_sem,t2,t3,c2,c3]
theorem oN(X:World)(a b:Value){x y:Value}(c2:X.cell? ⟨h2,0,none⟩=some x)(c3:X.cell? ⟨h2+1,0,none⟩=some y) :
 ((X.setCell ⟨h2,0,none⟩ a).setCell ⟨h2+1,0,none⟩ b).cell? ⟨h2,0,none⟩=some a/\((X.setCell ⟨h2,0,none⟩ a).setCell ⟨h2+1,0,none⟩ b).cell? ⟨h2+1,0,none⟩=some b:=by
 have n23:(⟨h2,0,none⟩:Addr)≠⟨h2+1,0,none⟩:=fun h=>by injection h with h;omega
 exact⟨(World.cell?_setCell_other _ _ _ _ n23.symm).trans (World.cell?_setCell_same _ _ _ c2),World.cell?_setCell_same _ _ _ ((World.cell?_setCell_other _ _ _ _ n23).trans c3)⟩
theorem kE{w X:World}(hb:Below w.heap.size w X)(h:w.heap.size<=h2)(a b:Value):Below w.heap.size w ((X.setCell ⟨h2,0,none⟩ a).setCell ⟨h2+1,0,none⟩ b):=
 (hb.setCell (p:=⟨h2,0,none⟩) h a).setCell (p:=⟨h2+1,0,none⟩) (by show _<=h2+1;omega) b
def ai1(gr:Nat)(w0:World)(c:List PanicEntry)(w':World):Prop:=∃n:Int,c=[{v:=.iface 381 (.agg #[.int .i64 n]),recovered:=false}]/\Touch (fun k=>k=gr) w0 w'
theorem bs2(h:dW bs=none):jy bs=none:=by unfold jy rdD;rw[h]
theorem bs3(h:dW bs=some (d,r1))(h1:dW r1=none):jy bs=none:=by unfold jy rdD;rw[h];simp only;rw[h1]
theorem bs4{r2:List Int}{l:Int}(h:dW bs=some (d,r1))(h1:dW r1=some (l,r2))(h2:dW r2=none):jy bs=none:=by unfold jy rdD;rw[h];simp only;rw[h1];simp only;rw[h2]
theorem ai2(v:Value)(bs:List Int)(w:World)(h:iY .u8 w v bs)(hb:iD bs)(hlen:bs.length<=1000000000) :
 aH 208 #[v] w (qh bs w):=by
 have hmf:∀(fn:Fn) (first cap:Array Value) (w:World),(Instr.makeFunc fn first cap).run prog w=.ok (.func fn first cap) w:=fun _ _ _ _=>rfl
 have HR:=aI h;have HB:=aI hb;clear h hb;have hl12:bs.length<=1000000000000:=ae
 go_enter_defers func208,ntmps208
 go_wp2_with fail;obtain⟨w1,hw1⟩:∃w1,w1=(w.alloc (.cells #[.pointer none] 123)).alloc (.cells #[.int .i64 0] 28):=⟨_,rfl⟩;have hb1:Below w.heap.size w w1:=by rw[hw1];exact((aO _ _).alloc (aS _) _).alloc ag _
 have B2:Hid (dK w1 w.heap.size 123 #[.pointer none]):=by show dK _ _ _ _;rw[hw1];exact(dK.new _ _ _).alloc _
 have B3:Hid (dK w1 (w.heap.size+1) 28 #[.int .i64 0]):=by
  show dK _ _ _ _;rw[hw1];have h:=dK.new (w.alloc (.cells #[.pointer none] 123)) 28 #[.int .i64 0]
  rwa [aV] at h
 obtain⟨h2,hh2⟩:=aF (w.heap.size);have HH2:=aI hh2;rw[<-hw1];rw[hh2] at B2 B3 |-;have l2:=B2.o.lt;have l3':=B3.o.lt;have e2:w.heap.size<=h2:=ae
 clear hw1 hh2;refine(uV v bs w1 (Rd.keep HR.o hb1) hl12).mono ?_
 rintro e w2 ⟨gr,rfl,hgr,r2,hb2⟩;have R2:=aI r2;have hz2:=hb2.size;have lgr:=r2.lt;clear r2
 go_wp2_with fail;obtain⟨w3,hw3⟩:∃w3,w3=w2.alloc (.cells #[.pointer (some ⟨gr,0,none⟩)] 383):=⟨_,rfl⟩;have hb3:Below w2.heap.size w2 w3:=by rw[hw3];exact(aO _ _).alloc (aS _) _
 have B4:Hid (dK w3 w2.heap.size 383 #[.pointer (some ⟨gr,0,none⟩)]):=by show dK _ _ _ _;rw[hw3];exact dK.new _ _ _
 rw[<-hw3];obtain⟨h4,hh4⟩:=aF (w2.heap.size);have R3:=aI (R2.o.keep hb3);have hz3:=hb3.size;rw[hh4] at B4 lgr |-;have n4:¬(h4=gr):=ae
 have l3:=B4.o.lt;have D2:=aI ((B2.o.keep hb2).keep hb3);have D3:=aI ((B3.o.keep hb2).keep hb3);have n2:¬(h2=gr):=ae
 have n3:¬(h2+1=gr):=ae
 have m2:=D2.o.lt;have m3:=D3.o.lt;have c4:=B4.o.cell 0;simp only[aK,aJ] at c4;have C4:=aI c4;have Iw:Below w.heap.size w w3:=(hb1.trans (hb2.mono hb1.size)).trans (hb3.mono ae)
 have bw9:w.heap.size<=gr:=ae
 have aa2:∀i,(fun k=>k=gr) i->w.heap.size<=i:=fun i hi=>by simp only at hi;omega
 have HG0:=aI aa2;clear hw3 hh4 c4 aa2;have DG:Hid (∀(n:Int) (tmps:Array Value) (w':World),tmps[2]?=some (.pointer (some ⟨h2,0,none⟩))->tmps[3]?=some (.pointer (some ⟨h2+1,0,none⟩))->Touch (fun k=>k=gr) w3 w'->jy bs=none ->
  Leaves prog Tryz.f208 tmps (qh bs w) [{target:=.fn (.func 285) #[.pointer (some ⟨h2,0,none⟩),.pointer (some ⟨h2+1,0,none⟩)],args:=#[]}] (.panicking [{v:=.iface 381 (.agg #[.int .i64 n]),recovered:=false}]) w'):=aI (fun n tmps w' t2 t3 ht hN=>by
  have E2:dK w' h2 123 #[.pointer none]:=(ht.block h2 m2 n2).trans D2.o;have E3:dK w' (h2+1) 28 #[.int .i64 0]:=(ht.block (h2+1) m3 n3).trans D3.o;refine BN h2 (h2+1) n w w' _ tmps t2 t3 _ _ (E2.cell 0) (E3.cell 0) (E2.frozen 0) (E3.frozen 0) ae e2 ae (Iw.trans (ht.below HG0.o Iw.size)) (fun w'' cc3=>?_)
  unfold qh;rw[hN];exact⟨rfl,cc3⟩)
 cases hA:dW (bs.drop 0) with
 | none=>
  have HA:=aI hA;have HN:=aI (bs2 (by simpa using hA))
  clear hA;refine nU [2,3] (ai1 gr w3) (Touch (fun k=>k=gr) w3) [(0,true),(2,true),(5,true),(1,false),(3,false),(4,true),(6,false),(7,true),(8,true),(9,true),(10,true)] (by kernel_rfl) (by kernel_rfl) (fun c a' w' q1 q2 q3=>(by obtain⟨n,rfl,qt⟩:=q3;refine(show Leaves prog Tryz.f208 a'.tmps (qh bs w) a'.defers _ w' from ?_);rw[q2];exact DG.o n a'.tmps w' (q1 2 ag) (q1 3 ag) qt HN.o)) ((Touch.refl _ _).drew) ?_
  iterate 3
   refine nJ ax  ax (fun R hR=>?_)
   apply dh
   refine⟨fun w' hS'=>?_,?_⟩
   ·have k0:=(hS'.cell (o:=0) l3 n4).trans C4.o
    go_simp;exact⟨rfl,rfl⟩
   go_simp;refine hR _ ?_;clear hR R
  refine mV ax  ax (fun K hK=>?_)
  go_simp;refine(lQ gr bs 0 _ (dU.keep R3.o ((aO _ _).drew)) HB.o hl12).mono ?_
  intro e wA hg;unfold fU at hg;simp only[HA.o] at hg;obtain⟨⟨n,rfl⟩,q4⟩:=hg;exact⟨fun t ht=>(by simp only[bn,List.not_mem_nil,or_false] at ht;rcases ht with rfl|rfl<;>rfl),rfl,n,rfl,((Touch.refl (fun k=>k=gr) w3).drew).trans q4 (fun i hi=>.inl hi)⟩
 | some pA=>
  obtain⟨zd,r1⟩:=pA;have HA:=aI hA;have E1:=aI (f_ hA);have zb1:=gY (HB.o.drop 0) hA;simp only at zb1;obtain⟨a1,ha1⟩:=aF (bs.length - r1.length);rw[ha1] at E1;have HA1:=aI ha1;clear hA ha1
  cases WX:dW (bs.drop a1) with
  | none=>
   have lJ:=aI WX;have HN:=aI (bs3 (by simpa using HA.o) (by rw[<-E1.o];exact WX))
   clear WX;refine nU [2,3] (ai1 gr w3) (Touch (fun k=>k=gr) w3) [(0,true),(2,true),(5,true),(1,false),(3,false),(4,true),(6,false),(7,true),(8,true),(9,true),(10,true)] (by kernel_rfl) (by kernel_rfl) (fun c a' w' q1 q2 q3=>(by obtain⟨n,rfl,qt⟩:=q3;refine(show Leaves prog Tryz.f208 a'.tmps (qh bs w) a'.defers _ w' from ?_);rw[q2];exact DG.o n a'.tmps w' (q1 2 ag) (q1 3 ag) qt HN.o)) ((Touch.refl _ _).drew) ?_
   iterate 3
    refine nJ ax  ax (fun R hR=>?_)
    apply dh
    refine⟨fun w' hS'=>?_,?_⟩
    ·have k0:=(hS'.cell (o:=0) l3 n4).trans C4.o
     go_simp;exact⟨rfl,rfl⟩
    go_simp;refine hR _ ?_;clear hR R
   refine mV ax  ax (fun K hK=>?_)
   go_simp;refine(lQ gr bs 0 _ (dU.keep R3.o ((aO _ _).drew)) HB.o hl12).mono ?_
   intro e wA hg;unfold fU at hg;simp only[HA.o] at hg;obtain⟨v,rfl,rfl,q3,q4⟩:=hg;have TA:Hid (Touch (fun k=>k=gr) w3 wA):=aI (((Touch.refl (fun k=>k=gr) w3).drew).trans q4 (fun i hi=>.inl hi))
   rw[HA1.o] at q3;have RA:=aI q3;clear q3 q4;refine hK _ _ (TA.o) ?_
   clear hK K;refine mV ax  ax (fun K hK=>?_)
   go_simp;refine(pG gr bs a1 _ RA.o HB.o hl12).mono ?_
   intro e wB hg;unfold fU at hg;simp only[lJ.o] at hg;obtain⟨⟨n,rfl⟩,q4⟩:=hg;exact⟨fun t ht=>(by simp only[bn,List.not_mem_nil,or_false] at ht;rcases ht with rfl|rfl<;>rfl),rfl,n,rfl,tt TA.o q4⟩
  | some pB=>
   obtain⟨zl,r2⟩:=pB;have lJ:=aI WX;have E2:=aI (f_ WX);have zb2:=gY (HB.o.drop a1) WX;simp only at zb2;have ul:=xK zb2.1 zb2.2;have WL:=aI (qB ul.1 ul.2);obtain⟨a2,ha2⟩:=aF (bs.length - r2.length);rw[ha2] at E2;have HA2:=aI ha2;clear WX ha2
   cases hC:dW (bs.drop a2) with
   | none=>
    have HC:=aI hC;have HN:=aI (bs4 (by simpa using HA.o) (by rw[<-E1.o];exact lJ.o) (by rw[<-E2.o];exact hC))
    clear hC;refine nU [2,3] (ai1 gr w3) (Touch (fun k=>k=gr) w3) [(0,true),(2,true),(5,true),(1,false),(3,false),(4,true),(6,false),(7,true),(8,true),(9,true),(10,true)] (by kernel_rfl) (by kernel_rfl) (fun c a' w' q1 q2 q3=>(by obtain⟨n,rfl,qt⟩:=q3;refine(show Leaves prog Tryz.f208 a'.tmps (qh bs w) a'.defers _ w' from ?_);rw[q2];exact DG.o n a'.tmps w' (q1 2 ag) (q1 3 ag) qt HN.o)) ((Touch.refl _ _).drew) ?_
    iterate 3
     refine nJ ax  ax (fun R hR=>?_)
     apply dh
     refine⟨fun w' hS'=>?_,?_⟩
     ·have k0:=(hS'.cell (o:=0) l3 n4).trans C4.o
      go_simp;exact⟨rfl,rfl⟩
     go_simp;refine hR _ ?_;clear hR R
    refine mV ax  ax (fun K hK=>?_)
    go_simp;refine(lQ gr bs 0 _ (dU.keep R3.o ((aO _ _).drew)) HB.o hl12).mono ?_
    intro e wA hg;unfold fU at hg;simp only[HA.o] at hg;obtain⟨v,rfl,rfl,q3,q4⟩:=hg;have TA:Hid (Touch (fun k=>k=gr) w3 wA):=aI (((Touch.refl (fun k=>k=gr) w3).drew).trans q4 (fun i hi=>.inl hi))
    rw[HA1.o] at q3;have RA:=aI q3;clear q3 q4;refine hK _ _ (TA.o) ?_
    clear hK K;refine mV ax  ax (fun K hK=>?_)
    go_simp;refine(pG gr bs a1 _ RA.o HB.o hl12).mono ?_
    intro e wB hg;unfold fU at hg;simp only[lJ.o] at hg;obtain⟨v,rfl,rfl,q3,q4⟩:=hg;have TB:Hid (Touch (fun k=>k=gr) w3 wB):=aI (tt TA.o q4)
    rw[HA2.o] at q3;have RBB:=aI q3;clear q3 q4;refine hK _ _ (TB.o) ?_
    clear hK K
    iterate 1
     refine nJ ax  ax (fun R hR=>?_)
     apply dh
     refine⟨fun w' hS'=>?_,?_⟩
     ·have k0:=(hS'.cell (o:=0) l3 n4).trans C4.o
      go_simp;exact⟨rfl,rfl⟩
     go_simp;refine hR _ ?_;clear hR R
    refine mV ax  ax (fun K hK=>?_)
    go_simp;refine(pG gr bs a2 _ RBB.o HB.o hl12).mono ?_
    intro e wC hg;unfold fU at hg;simp only[HC.o] at hg;obtain⟨⟨n,rfl⟩,q4⟩:=hg;exact⟨fun t ht=>(by simp only[bn,List.not_mem_nil,or_false] at ht;rcases ht with rfl|rfl<;>rfl),rfl,n,rfl,tt TB.o q4⟩
   | some pC=>
    obtain⟨zh,r3⟩:=pC;have HC:=aI hC;have E3:=aI (f_ hC);have zb3:=gY (HB.o.drop a2) hC;simp only at zb3;have uh:=xK zb3.1 zb3.2;have WH:=aI (qB uh.1 uh.2);obtain⟨a3,ha3⟩:=aF (bs.length - r3.length);rw[ha3] at E3;have VD:=aI ha3;clear hC ha3;have X1:Hid (dW bs=some (zd,r1)):=aI (by simpa using HA.o)
    have X2:Hid (dW r1=some (zl,r2)):=aI (by rw[<-E1.o];exact lJ.o)
    have X3:Hid (dW r2=some (zh,r3)):=aI (by rw[<-E2.o];exact HC.o)
    have eg1:∀args w,(callFunc 287 args).run prog w=.ok (.enter 287 args) w:=fun _ _=>rfl
    have eg2:∀args w,(callFunc 288 args).run prog w=.ok (.enter 288 args) w:=fun _ _=>rfl
    have mW:=aI (fun(w':World) (hS':(Touch (fun k=>k=gr) w3) w')=>(aP ((hS'.cell (o:=0) l3 n4).trans C4.o) (aP (WL.o) (WH.o))))
    refine jh (Touch (fun k=>k=gr) w3) (dV 0 1 (dV 2 1 (dV 5 1 (fJ 1 (fJ 3 (dV 4 1 (fJ 6 (dV 7 4 [])))))))) ((Touch.refl _ _).drew) ?_
    iterate 3 refine eQ ?_
    refine fO fun K hK=>?_
    go_simp;refine(lQ gr bs 0 _ (dU.keep R3.o ((aO _ _).drew)) HB.o hl12).mono ?_
    intro e wA hg;unfold fU at hg;simp only[HA.o] at hg;obtain⟨v,rfl,rfl,q3,q4⟩:=hg;have TA:Hid (Touch (fun k=>k=gr) w3 wA):=aI (((Touch.refl (fun k=>k=gr) w3).drew).trans q4 (fun i hi=>.inl hi))
    rw[HA1.o] at q3;have RA:=aI q3;clear q3 q4;refine hK _ _ (TA.o) ?_
    clear hK K;refine fO fun K hK=>?_
    go_simp;refine(pG gr bs a1 _ RA.o HB.o hl12).mono ?_
    intro e wB hg;unfold fU at hg;simp only[lJ.o] at hg;obtain⟨v,rfl,rfl,q3,q4⟩:=hg;have TB:Hid (Touch (fun k=>k=gr) w3 wB):=aI (tt TA.o q4)
    rw[HA2.o] at q3;have RBB:=aI q3;clear q3 q4;refine hK _ _ (TB.o) ?_
    clear hK K;refine eQ ?_
    refine fO fun K hK=>?_
    go_simp;refine(pG gr bs a2 _ RBB.o HB.o hl12).mono ?_
    intro e wC hg;unfold fU at hg;simp only[HC.o] at hg;obtain⟨v,rfl,rfl,q3,q4⟩:=hg;have TC:Hid (Touch (fun k=>k=gr) w3 wC):=aI (tt TB.o q4)
    rw[VD.o] at q3;have RC:=aI q3;clear q3 q4;refine hK _ _ (TC.o) ?_
    clear hK K
    iterate 4 refine eQ ?_
    refine dJ ?_
    have c4:=(TC.o.cell (o:=0) l3 n4).trans C4.o
    go_wp2_with fail
    go_quiet (fail)
    clear c4
    go_wp2_with fail;refine(Q7 gr bs a3 _ (dU.drewN RC.o nq) HB.o hl12).mono ?_
    intro e wD hg;unfold fU at hg
    cases hD:jT (bs.drop a3) with
    | none=>
     simp only[hD] at hg;have HN:Hid (jy bs=none):=aI (am3 X1.o X2.o X3.o (by rw[<-E3.o];exact hD))
     obtain⟨⟨n,rfl⟩,q4⟩:=hg;have TD:Hid (Touch (fun k=>k=gr) w3 wD):=aI (tt (TC.o.drewN nq) q4)
     clear hD q4
     go_wp2_with fail;exact DG.o n _ wD rfl rfl TD.o HN.o
    | some pD=>
     obtain⟨Ls,r4⟩:=pD;simp only[hD] at hg;obtain⟨vL,rfl,oL,q3,q4⟩:=hg;have TD:Hid (Touch (fun k=>k=gr) w3 wD):=aI (tt (TC.o.drewN nq) q4)
     obtain⟨j4,hj4⟩:=QT hD;have E4:Hid (bs.drop (bs.length - r4.length)=r4):=aI (suf (bs:=bs) (m:=a3+j4) (by rw[<-List.drop_drop];exact hj4))
     obtain⟨ai3,TV,_⟩:=QR (HB.o.drop a3) hD;simp only at ai3 TV E4;have RL:=aI ai3;have OL:=aI oL.rd;have X4:Hid (jT r3=some (Ls,r4)):=aI (by rw[<-E3.o];exact hD)
     obtain⟨a4,ha4⟩:=aF (bs.length - r4.length);rw[ha4] at E4 q3;have RD:=aI q3;have cj7:=aI (fun k (e:vL.ownBlock=some k)=>(oL.lt k e).1)
     have OLo:=aI oL;have hzC:=TC.o.size;clear hD hj4 ai3 oL q3 q4 ha4
     go_wp2_with fail;refine(NH gr bs a4 wD RD.o HB.o hl12).mono ?_
     intro e wE hg;unfold fU at hg
     cases hW:kN (bs.drop a4) with
     | none=>
      simp only[hW] at hg;have HN:Hid (jy bs=none):=aI (am4 X1.o X2.o X3.o X4.o (by rw[<-E4.o];exact hW))
      obtain⟨⟨n,rfl⟩,q4⟩:=hg;have TE:Hid (Touch (fun k=>k=gr) w3 wE):=aI (tt TD.o q4)
      clear hW q4
      go_wp2_with fail;exact DG.o n _ wE rfl rfl TE.o HN.o
     | some pE=>
      obtain⟨Ws,r5⟩:=pE;simp only[hW] at hg;obtain⟨vW,rfl,oW,q3,q4⟩:=hg;have TE:Hid (Touch (fun k=>k=gr) w3 wE):=aI (tt TD.o q4)
      obtain⟨j5,hj5⟩:=QU hW;have hr5:r5.length<=bs.length:=by simp only at hj5;rw[hj5];simp only[bu];omega
      obtain⟨ai4,cc4,_⟩:=QS (HB.o.drop a4) hW;simp only at ai4 cc4;have RW:=aI ai4;have HRT:Hid (jy bs=wG bs ⟨zd,lC zl,lC zh,Ls,Ws⟩ r5):=aI (Zo X1.o X2.o X3.o X4.o (by rw[<-E4.o];exact hW))
      have OLE:=aI ((OLo.o.away q4 (by have:=TC.o.size;simp only[gB] at *;omega)).rd)
      have OWE:=aI oW.rd;have RE:=aI q3;have c4:=(TE.o.cell (o:=0) l3 n4).trans C4.o;have CL:=aI (mX gr bs (bs.length - r5.length) wE q3 hl12);have EL:=aI (show((bs.length:Int) - ((bs.length - r5.length:Nat):Int))=(r5.length:Int) by omega)
      rw[EL.o] at CL;clear hW hj5 ai4 oW q3 q4 hr5;have HBE:Hid (Below w.heap.size w wE):=aI (Iw.trans (TE.o.below HG0.o Iw.size));have D2E:Hid (dK wE h2 123 #[.pointer none]):=aI ((TE.o.block h2 m2 n2).trans D2.o);have D3E:Hid (dK wE (h2+1) 28 #[.int .i64 0]):=aI ((TE.o.block (h2+1) m3 n3).trans D3.o);have hzE:=HBE.o.size;have c2:=D2E.o.cell 0;have c3:=D3E.o.cell 0;have f2:=D2E.o.frozen 0;have f3:=D3E.o.frozen 0;simp only[aK,aJ] at c2 c3;have NO:Hid (∀(w':World) (tmps:Array Value),tmps[2]?=some (.pointer (some ⟨h2,0,none⟩))->tmps[3]?=some (.pointer (some ⟨h2+1,0,none⟩))->w'.cell? ⟨h2,0,none⟩=some (.pointer none)->w'.cell? ⟨h2+1,0,none⟩=some (.int .i64 9)->Below w.heap.size w w'->jy bs=none ->
       Leaves prog Tryz.f208 tmps (qh bs w) [{target:=.fn (.func 285) #[.pointer (some ⟨h2,0,none⟩),.pointer (some ⟨h2+1,0,none⟩)],args:=#[]}] .returning w'):=aI (fun w' tmps t2 t3 k2 k3 hb' hN=>by
       refine wY h2 (h2+1) w' _ tmps t2 t3 _ _ k2 k3 ?_
       unfold qh;rw[hN];exact⟨rfl,hb'⟩)
      cases r5 with
      | cons b0 r6=>
       have HN:Hid (jy bs=none):=aI HRT.o;obtain⟨nl,hnl⟩:=aF ((b0::r6).length);have dl:decide (0<nl)=true:=decide_eq_true (by rw[<-hnl];simp)
       rw[hnl] at CL;clear hnl
       go_wp2_with (go_at_call 283;refine(CL.o).mono ?_;rintro e w' ⟨rfl,q,rfl⟩);have tp:=oN (wE.drewN q) (.pointer none) (.int .i64 9) c2 c3;exact NO.o _ _ rfl rfl tp.1 tp.2 (kE (below_drewN HBE.o q) e2 _ _) HN.o
      | nil=>
       simp only[bC] at CL;have z0:((0:Nat):Int)=0:=rfl;rw[z0] at CL;clear z0
       by_cases hd:zd<=1000
       ·have dd:decide ((1000:Int)<zd)=false:=decide_eq_false ae
        have hraw:qK (Ls++Ws):=fun m hm=>(dB.1 hm).elim (RL.o m) (RW.o m)
        have ah9:=aI hraw;have OLQ:=fun q=>aI (Rd.drewN OLE.o q)
        have OWQ:=fun q=>aI (Rd.drewN OWE.o q)
        have zdb:=zb1.1;clear hraw
        go_wp2_with (go_at_call 283;refine(CL.o).mono ?_;rintro e w' ⟨rfl,q,rfl⟩);rw[WL.o,WH.o];have hbq:Below w.heap.size w (wE.drewN q):=below_drewN HBE.o q;refine(Hu zd (lC zl) (lC zh) vL vW Ls Ws _ (OLQ q).o (OWQ q).o ah9.o ae).mono ?_
        intro e w5 hP;have ne2:h2<(wE.drewN q).heap.size:=by rw[gB];have:=D2E.o.lt;exact this
        have ne3:h2+1<(wE.drewN q).heap.size:=by rw[gB];have:=D3E.o.lt;exact this
        rcases hP with⟨hri,g,F,rfl,hDg,hFg,hb5⟩|⟨hri,rfl,hb5⟩
        ·have x2:=(hb5.cell (p:=⟨h2,0,none⟩) ne2).trans c2
         have x3:=(hb5.cell (p:=⟨h2+1,0,none⟩) ne3).trans c3;have y2:=(hb5.frozen (p:=⟨h2,0,none⟩) ne2).trans f2;have y3:=(hb5.frozen (p:=⟨h2+1,0,none⟩) ne3).trans f3;have sK:Below w.heap.size w w5:=hbq.trans (hb5.mono hbq.size);obtain⟨ro1,ro2,ro3,ro4⟩:=Y7 hri ah9.o ul.1 ul.2 uh.1 uh.2;have FT:Hid (Fit zd ⟨Ls,Ws,lC zl,lC zh⟩ (Ls.length+Ws.length)):=aI ⟨ro1,ae,ro2,ro3,ro4⟩
         have bs5:=aI hFg;have hne2:∀i,i=h2\/i=h2+1->¬F i:=fun i hi hf=>by have:=hFg i hf;omega
         have tp:=oN w5 (.pointer (some ⟨g,0,none⟩)) (.int .i64 0) x2 x3;have AP:=kE sK e2 (.pointer (some ⟨g,0,none⟩)) (.int .i64 0);have T6:Touch (fun k=>k=h2\/k=h2+1) w5 ((w5.setCell ⟨h2,0,none⟩ (.pointer (some ⟨g,0,none⟩))).setCell ⟨h2+1,0,none⟩ (.int .i64 0)):=((Touch.refl _ w5).setCell (p:=⟨h2,0,none⟩) (.inl (.inl rfl)) _).setCell (p:=⟨h2+1,0,none⟩) (.inl (.inr rfl)) _
         have DG6:Hid (Ie ((w5.setCell ⟨h2,0,none⟩ (.pointer (some ⟨g,0,none⟩))).setCell ⟨h2+1,0,none⟩ (.int .i64 0)) g F zd ⟨Ls,Ws,lC zl,lC zh⟩):=aI (Ie.far hDg T6 (fun k hk hf=>hne2 k hf hk))
         have fz2:((w5.setCell ⟨h2,0,none⟩ (.pointer (some ⟨g,0,none⟩))).setCell ⟨h2+1,0,none⟩ (.int .i64 0)).frozen? ⟨h2,0,none⟩=false:=by simp only[World.frozen?_setCell];exact y2
         have fz3:((w5.setCell ⟨h2,0,none⟩ (.pointer (some ⟨g,0,none⟩))).setCell ⟨h2+1,0,none⟩ (.int .i64 0)).frozen? ⟨h2+1,0,none⟩=false:=by simp only[World.frozen?_setCell];exact y3
         have HRI:=aI hri;obtain⟨t2,t3⟩:=tp;clear ro1 ro2 ro3 ro4 hFg hne2 T6 hDg hri c2 c3 f2 f3
         go_wp2_with fail;generalize (w5.setCell ⟨h2,0,none⟩ (.pointer (some ⟨g,0,none⟩))).setCell ⟨h2+1,0,none⟩ (.int .i64 0)=w6 at *;have l26:=bZ _ _ t2;have l36:=bZ _ _ t3;refine(FK g F zd ⟨Ls,Ws,lC zl,lC zh⟩ (Ls.length+Ws.length) w6 DG6.o FT.o).mono ?_
         rintro e w7 ⟨v7,rfl,o7,hb7⟩;have O7:=aI o7;have DG7:Hid (Ie w7 g F zd ⟨Ls,Ws,lC zl,lC zh⟩):=aI (Dg.keep DG6.o hb7);have yZ:=AP.trans (hb7.mono AP.size);have r2:=(hb7.cell (p:=⟨h2,0,none⟩) l26).trans t2;have r3':=(hb7.cell (p:=⟨h2+1,0,none⟩) l36).trans t3;have s2:=(hb7.frozen (p:=⟨h2,0,none⟩) l26).trans fz2;have s3:=(hb7.frozen (p:=⟨h2+1,0,none⟩) l36).trans fz3;have YN:=hb7.size;have hwl:(IY zd Ls Ws (lC zl) (lC zh)).length<=1000000000000:=by
          unfold IY zg;have k1:=dM zd;have k2:=dM (qA (lC zl));have k3:=dM (qA (lC zh));have k4:=dM (Ls.length:Int);have k5:=dM (Ws.length:Int);have k6:=sG none Ls;have k7:=yR Ws;simp only[aQ];omega
         have EQ:=aI (lF v7 v (IY zd Ls Ws (lC zl) (lC zh)) bs w7 (dP.rd O7.o) (Rd.keep HR.o yZ) hwl hl12);clear o7 t2 t3 fz2 fz3 x2 x3 y2 y3
         by_cases hE:IY zd Ls Ws (lC zl) (lC zh)=bs
         ·rw[decide_eq_true hE] at EQ
          have HRS:Hid (jy bs=some ⟨zd,lC zl,lC zh,Ls,Ws⟩):=aI (by rw[HRT.o];unfold wG;rw[if_pos ⟨hd,HRI.o,hE⟩])
          clear hE
          go_wp2_with (go_at_call 133;refine(EQ.o).mono ?_;rintro e w8 ⟨rfl,hb8⟩;have l28:=bZ _ _ r2;have l38:=bZ _ _ r3';have q2:=(hb8.cell (p:=⟨h2,0,none⟩) l28).trans r2;have q3:=(hb8.cell (p:=⟨h2+1,0,none⟩) l38).trans r3';have p2:=(hb8.frozen (p:=⟨h2,0,none⟩) l28).trans s2;have p3:=(hb8.frozen (p:=⟨h2+1,0,none⟩) l38).trans s3;have DG8:Hid (Ie w8 g F zd ⟨Ls,Ws,lC zl,lC zh⟩):=aI (Dg.keep DG7.o hb8);have Zx:=yZ.trans (hb8.mono yZ.size));have tp:=oN w8 (.pointer (some ⟨g,0,none⟩)) (.int .i64 0) q2 q3;refine(show Leaves prog Tryz.f208 _ (qh bs w) _ .returning _ from ?_)
          refine wY h2 (h2+1) _ _ _ rfl rfl _ _ tp.1 tp.2 ?_
          unfold qh;rw[HRS.o];have T8:Touch (fun k=>k=h2\/k=h2+1) w8 ((w8.setCell ⟨h2,0,none⟩ (.pointer (some ⟨g,0,none⟩))).setCell ⟨h2+1,0,none⟩ (.int .i64 0)):=((Touch.refl _ w8).setCell (p:=⟨h2,0,none⟩) (.inl (.inl rfl)) _).setCell (p:=⟨h2+1,0,none⟩) (.inl (.inr rfl)) _
          have hF8:∀k,F k->w.heap.size<=k:=fun k hk=>by have:=bs5.o k hk;rw[gB] at this;omega
          exact⟨g,F,rfl,Ie.far DG8.o T8 (fun k hk hf=>by have:=bs5.o k hk;rw[gB] at this;have a1:=D2E.o.lt;have a2:=D3E.o.lt;rcases hf with hf|hf<;>omega),hF8,kE Zx e2 _ _⟩
         ·rw[decide_eq_false hE] at EQ
          have HN:Hid (jy bs=none):=aI (by rw[HRT.o];unfold wG;rw[if_neg (fun h=>hE h.2.2)])
          clear hE
          go_wp2_with (go_at_call 133;refine(EQ.o).mono ?_;rintro e w8 ⟨rfl,hb8⟩;have l28:=bZ _ _ r2;have l38:=bZ _ _ r3';have q2:=(hb8.cell (p:=⟨h2,0,none⟩) l28).trans r2;have q3:=(hb8.cell (p:=⟨h2+1,0,none⟩) l38).trans r3';have p2:=(hb8.frozen (p:=⟨h2,0,none⟩) l28).trans s2;have p3:=(hb8.frozen (p:=⟨h2+1,0,none⟩) l38).trans s3;have Zx:=yZ.trans (hb8.mono yZ.size));have tp:=oN w8 (.pointer none) (.int .i64 9) q2 q3;exact NO.o _ _ rfl rfl tp.1 tp.2 (kE Zx e2 _ _) HN.o
        ·have x2:=(hb5.cell (p:=⟨h2,0,none⟩) ne2).trans c2
         have x3:=(hb5.cell (p:=⟨h2+1,0,none⟩) ne3).trans c3;have y2:=(hb5.frozen (p:=⟨h2,0,none⟩) ne2).trans f2;have y3:=(hb5.frozen (p:=⟨h2+1,0,none⟩) ne3).trans f3;have sK:Below w.heap.size w w5:=hbq.trans (hb5.mono hbq.size);have HN:Hid (jy bs=none):=aI (by rw[HRT.o];unfold wG;rw[if_neg (fun h=>by rw[hri] at h;cases h.2.1)])
         have tp:=oN w5 (.pointer none) (.int .i64 1) x2 x3;have tq:=oN ((w5.setCell ⟨h2,0,none⟩ (.pointer none)).setCell ⟨h2+1,0,none⟩ (.int .i64 1)) (.pointer none) (.int .i64 9) tp.1 tp.2;have hb6:=kE (kE sK e2 (.pointer none) (.int .i64 1)) e2 (.pointer none) (.int .i64 9);have TQ:=aI tq;have ZR:=aI hb6;clear tp tq hb6 hri c2 c3 f2 f3
         go_wp2_with fail;exact NO.o _ _ rfl rfl TQ.o.1 TQ.o.2 ZR.o HN.o
       ·have HN:Hid (jy bs=none):=aI (by rw[HRT.o];unfold wG;rw[if_neg (fun h=>hd h.1)])
        have dd:decide ((1000:Int)<zd)=true:=decide_eq_true ae
        go_wp2_with (go_at_call 283;refine(CL.o).mono ?_;rintro e w' ⟨rfl,q,rfl⟩);have tp:=oN (wE.drewN q) (.pointer none) (.int .i64 9) c2 c3;exact NO.o _ _ rfl rfl tp.1 tp.2 (kE (below_drewN HBE.o q) e2 _ _) HN.o
end
section
open Go.RowKit Go.Lib
variable{d:Int}{s:St}{k:Nat}
theorem LZ{w:World}{v:Value}{l:List Int}(h:iY .u8 w v l):(convert 47 9 v).run prog w=.ok (.string (strOfNums l)) w:=by
 obtain⟨A,c,rfl,_,_,f⟩:=h.form
 cases A with
 | none=>
  have h0:l=[]:=by
   rcases bQ l.length with h0|h0
   ·exact bz h0
   ·obtain⟨g,off,e,_⟩:=f h0;cases e
  subst h0;exact run_convert_bytes_nil w 47 5 underlying47 underlying5 _ _ _ underlying9
 | some a=>
  rcases bQ l.length with h0|h0
  ·have h1:l=[]:=bz h0
   subst h1;obtain⟨b,off,spot⟩:=a
   cases spot with
   | none=>exact run_convert_bytes_arg w 47 5 underlying47 underlying5 b off 0 c [] rfl (fun i hi=>absurd hi ae) _ underlying9
   | some s=>rw[run_convert_bytes_string w 47 9 5 _ _ _ underlying47 underlying5 underlying9,run_bytesToString w _ _ c [] (by simp[loadCells,loadCellsFrom])];rfl
  ·obtain⟨g,off,hA,_,hc⟩:=f h0
   cases hA
   exact run_convert_bytes_arg w 47 5 underlying47 underlying5 g off l.length c l rfl (fun i hi=>by
    rw[hc i hi];simp[List.getD,a_ hi]) _ underlying9
theorem mi.raw{l:List Mn}(h:mi l)(ht:tot l<=18446744073709551615):qK l:=fun m hm=>by
 obtain⟨j,hj,rfl⟩:=List.getElem_of_mem hm;have h1:=h _ (bf hj);have h2:=h.J5 hj;have h3:=(h.yL j).1;have h4:=h1.2.2;exact⟨h1.1,h1.2.1,ae,ae⟩
theorem au6(ft:Fit d s k):iD (IY d s.L s.W s.lo s.hi):=by
 have hr:=mi.raw ft.ok.ok (by have:=ft.t;omega)
 have sl:=jl ft.ok.Y6 ft.ok.lo1;have sh:=jl ft.ok.hi0 ft.ok.hi1;have hl:=ft.ok.len;have hk:=ft.k1;have d0:=ft.d0;have d1:=ft.d1;have hL:∀(p:Option Int) (l:List Mn),qK l->(∀q,p=some q->-9223372036854775808<=q/\∀m∈l,q<=m.1)->iE l->iD (uz p l):=by
  intro p l
  induction l generalizing p with
  | nil=>intro _ _ _ b hb;simp[uz] at hb
  | cons m l ih=>
   intro hr hp hs;have hm:=hr m (aT ..);have hs':=aZ.1 hs;simp only[uz];refine iD.append ?_ (iD.append (gX hm.2.2.1 ae) (ih (some m.1) (fun x hx=>hr x (aY _ hx)) (fun q hq=>by cases hq;exact⟨hm.1,fun x hx=>hs'.1 x hx⟩) hs'.2))
   unfold DK
   cases p with
   | none=>exact gX (jl hm.1 hm.2.1).1 (jl hm.1 hm.2.1).2
   | some q=>have:=hp q rfl;have h2:=this.2 m (aT ..);exact gX ae  ae
 have hW:∀(l:List Mn),qK l->iD (xM l):=by
  intro l
  induction l with
  | nil=>intro _ b hb;simp[xM] at hb
  | cons m l ih=>
   intro hr;have hm:=hr m (aT ..);simp only[xM];exact iD.append (gX (jl hm.1 hm.2.1).1 (jl hm.1 hm.2.1).2) (iD.append (gX hm.2.2.1 ae) (ih (fun x hx=>hr x (aY _ hx))))
 unfold IY;refine iD.append (gX ae  ae) (iD.append (gX sl.1 sl.2) (iD.append (gX sh.1 sh.2) (iD.append (gX ae  ae) (iD.append ?_ (iD.append (gX ae  ae) ?_)))))
 ·exact hL none _ (fun m hm=>hr m (List.mem_append_left _ hm)) (fun q hq=>by cases hq) ft.ok.rise
 ·exact hW _ (fun m hm=>hr m (List.mem_append_right _ hm))
theorem au7(ft:Fit d s k)(hk:k<=65536):jy (IY d s.L s.W s.lo s.hi)=some ⟨d,s.lo,s.hi,s.L,s.W⟩:=by
 have hr:=mi.raw ft.ok.ok (by have:=ft.t;omega)
 have d0:=ft.d0;have d1:=ft.d1;have hl:=ft.ok.len;rw[Wv ae  ae ft.ok.Y6 ft.ok.lo1 ft.ok.hi0 ft.ok.hi1 (fun m hm=>hr m (List.mem_append_left _ hm)) ft.ok.rise (fun m hm=>hr m (List.mem_append_right _ hm)) ae  ae,if_pos (Y8 ft.ok ft.t ft.d0 ft.d1)]
theorem VP{L W:List Mn}{lo hi:Int}(h:L.length+W.length<=1000000):(IY d L W lo hi).length<=1000000000:=by
 unfold IY zg;have k1:=dM d;have k2:=dM (qA lo);have k3:=dM (qA hi);have k4:=dM (L.length:Int);have k5:=dM (W.length:Int);have k6:=sG none L;have k7:=yR W;simp only[aQ];omega
theorem bi5(v:Value)(w:World)(h:iY .u8 w v (IY d s.L s.W s.lo s.hi))(ft:Fit d s k)(hk:k<=65536) :
 aH 208 #[v] w fun e w'=>∃(g:Nat) (F:Nat->Prop),e=.returned (.tuple #[.pointer (some ⟨g,0,none⟩),.int .i64 0])/\Ie w' g F d s/\(∀k,F k->w.heap.size<=k)/\Below w.heap.size w w':=by
 have hl:=ft.ok.len;refine(ai2 v _ w h (au6 ft) (VP ae)).mono ?_
 intro e w' hP;unfold qh at hP;rw[au7 ft hk] at hP;exact hP
end
open Tryz
open Go.RowKit Go.Lib
open Tryz
open Go.RowKit Go.Lib
open Tryz
open Go.RowKit Go.Lib
end Go.Proofs.YtilcnjbpmoijmaaGreat
