/- Parts of a proof. No condition. -/
import Derived.Test.YtilcnjbpmoijmaaGreatPw32
set_option maxRecDepth 100000
set_option maxHeartbeats 16000000
set_option linter.unusedVariables false
set_option linter.unusedSimpArgs false
namespace Go.Proofs.YtilcnjbpmoijmaaGreat.D
open Tryz
open Go.RowKit Go.Lib Go.Shelf
variable{R bk dg hi lo m u y:Nat}{gr:Bool}{l:List Pr}{kd p2 p3 p4:Value}
def Pg:Bool->Int
 | true=>1
 | false=>0
theorem LK(gr:Bool):(gr=true/\Pg gr=1)\/(gr=false/\Pg gr=0):=by cases gr<;>simp[Pg]
def hjB(lo hi dg R:Int)(gr:Bool)(l:List Pr):List Int:=fE lo hi dg (Pg gr) 4++hwB lo R dg l
theorem Ph{x:Nat}{F:Ft}(w:World)(hy:dK w y 126 #[kd,.pointer (some ⟨x,0,none⟩),p2,p3,p4])(h:qo x lo hi dg u m gr bk l F w)(ok:je lo hi dg u m gr bk l) :
 aH 102 #[.pointer (some ⟨y,0,none⟩)] w fun e w'=>∃v,e=.returned v/\OwnB w.heap.size w' v (hjB lo hi dg (eY u m hi bk) gr l)/\Below w.heap.size w w':=by
 have S:=h_ x lo hi dg u m gr bk l;have HY:=aI hy;have C1:=aI (pX w h);have C2:Hid (∀w1,Below w.heap.size w w1->_):=aI (fun w1 hb=>zH w1 (S.keep h hb))
 have C3:Hid (∀w1,Below w.heap.size w w1->_):=aI (fun w1 hb=>Pe w1 (S.keep h hb) ok)
 have hlo:lo<=9223372036854775807:=by have:=ok.sh.h0;have:=ok.sh.h1;omega
 have hhi:=ok.sh.h1;have hdg:=ok.sh.d1;have hwl:=wQ lo (eY u m hi bk) dg l;have hcl:=nR l;have hll:=ok.len;have HG:=aI (LK gr);have HB:Hid (hjB lo hi dg (eY u m hi bk) gr l=fE lo hi dg (Pg gr) 4++hwB lo (eY u m hi bk) dg l):=aI rfl;rw[HB.o];have k1:=hy.cell 1;simp only[aK,aJ,aN] at k1;clear HB S h ok hy;generalize Pg gr=D at *;have hD:0<=D/\D<256:=by have:=HG.o;omega
 have CP:Hid (∀(v:Value) (w1:World),iY .u64 w1 v [(lo:Int),(hi:Int),(dg:Int),D]->_):=aI (fun v w1 hr=>XM lo hi dg D v w1 hr ae  ae  ae  ae  ae  ae hD.1 hD.2)
 have EU:Hid (IntKind.u64.wrap (lo:Int)=(lo:Int)/\IntKind.u64.wrap (hi:Int)=(hi:Int)/\IntKind.u64.wrap (dg:Int)=(dg:Int)):=aI ⟨by rw[fF];omega,by rw[fF];omega,by rw[fF];omega⟩
 have x_:=rJ lo hi dg D 4;generalize fE lo hi dg D 4=OP at *;generalize hwB (lo:Int) (eY u m hi bk) dg l=HW at *
 go_enter func102,ntmps102
 go_wp2_with fail;refine(C1.o).mono ?_
 rintro e w1 ⟨rfl,hb1⟩
 go_upto_region 2 with fail;obtain⟨b4,hb4⟩:∃z,w1.heap.size=z:=⟨_,rfl⟩;obtain⟨w4,hw4⟩:∃z,w1.alloc (.cells #[.int .i64 lo,.int .i64 hi,.int .i64 dg] 23)=z:=⟨_,rfl⟩;have K4:Hid (dK w4 b4 23 #[.int .i64 lo,.int .i64 hi,.int .i64 dg]):=by rw[<-hw4,<-hb4];exact aI (dK.new _ _ _)
 have b14:Below w1.heap.size w1 w4:=by rw[<-hw4];exact bw
 have B4:Below w.heap.size w w4:=hb1.trans (b14.mono hb1.size);rw[hw4,hb4];clear hw4 hb4 b14 k1;have k1:=(HY.o.keep B4).cell 1;simp only[aK,aJ,aN] at k1
 go_wp2_with fail;refine(C2.o w4 B4).mono ?_
 rintro e w' ⟨rfl,rfl⟩;obtain⟨j0,j1,j2⟩:=K4.o.c3
 rcases HG.o with⟨rfl,rfl⟩|⟨rfl,rfl⟩
 all_goals
  obtain⟨e1,e2,e3⟩:=EU.o
  go_wp2_with fail;refine(CP.o _ _ (iY.VA 46 .u64 w4 [(lo:Int),(hi:Int),(dg:Int),_] _ rfl 4 rfl ag _ rfl)).mono ?_
  rintro e w7 ⟨v7,rfl,o7,hb7⟩;have O7:=aI (dX.1 o7);have oC:∀o:Obj,w.heap.size<=(w4.alloc o).heap.size:=fun o=>bJ B4.size ag
  have B7:Below w.heap.size w w7:=(B4.alloc B4.size _).trans (hb7.mono (oC _));clear o7 e1 e2 e3 j0 j1 j2 k1;have k1:=(HY.o.keep B7).cell 1;simp only[aK,aJ,aN] at k1
  go_wp2_with fail;refine(C3.o w7 B7).mono ?_
  rintro e w8 ⟨v8,rfl,o8,hb8⟩;have O8:=aI (dX.1 o8);have O78:=aI (dL.keep O7.o hb8);have B8:Below w.heap.size w w8:=B7.trans (hb8.mono B7.size);have hop:OP.length+HW.length<=1099511627776:=ae
  obtain⟨A7,c7,ev7,_,_,_⟩:=O78.o.form;obtain⟨n7,hn7⟩:∃z,OP.length=z:=⟨_,rfl⟩;rw[hn7] at ev7;subst ev7;have YN:w4.heap.size+1<=w8.heap.size:=by have h1:=hb7.size;have h2:=hb8.size;rw[aV] at h1;omega
  clear o8 k1 hn7
  go_wp2_with (at_builtin;refine uk Ak rfl (.tmp 42) (.tmp 43) rfl O78.o rfl _ HW rfl (O8.o.rd) hop (by rw[aV];exact YN) ?_;intro v9 w9 o9 g9 _;have O9:=aI (dX.2 (o9.more (oC _)));have B9:Below w.heap.size w w9:=B8.grown g9 B8.size (fun k hk=>bJ (oC _) (O78.o.lt k hk).1);clear o9 g9)
  go_ret;exact⟨_,rfl,O9.o,B9⟩
open Tryz
open Go.RowKit Go.Lib Go.Shelf
theorem XZ{a b c d:Int}{HW:List Int}(v:Value)(w:World)(h:iY .u8 w v (fE a b c d 4++HW))(hby:iD (fE a b c d 4++HW))(hl:(fE a b c d 4++HW).length<=1000000000000)(a0:0<=a)(a1:a<18446744073709551616)(b0:0<=b)(b1:b<18446744073709551616)(c0:0<=c)(c1:c<18446744073709551616)(d0:0<=d)(d1:d<256) :
 aH 201 #[.string ⟨#[118,118,118,98]⟩,v] w fun e w'=>∃v',e=.returned (.tuple #[v',.int .i64 (fE a b c d 4).length,.int .i64 0])/\dL QE w.heap.size w' v' [a,b,c,d]/\Below w.heap.size w w':=by
 have X0:(fE a b c d 4++HW).drop 0=eG a++(eG b++(eG c++(d::HW))):=by simp only[fE,aX,cO,List.cons_append,List.nil_append]
 have x_:=rJ a b c d;have l1:(fE a b c d 1).length=0+(eG a).length:=by simp only[fE];omega
 have l2:(fE a b c d 2).length=(fE a b c d 1).length+(eG b).length:=by simp only[fE,aQ]
 have l3:(fE a b c d 3).length=(fE a b c d 2).length+(eG c).length:=by simp only[fE,aQ]
 have l4:(fE a b c d 4).length=(fE a b c d 3).length+1:=by simp only[fE,aQ,aU,bC]
 generalize fE a b c d 4++HW=bs at *;have nx:∀{a k:Nat} {x r:List Int},x.length=k->bs.drop a=x++r->bs.drop (a+k)=r:=by
  intro a k x r hx e;rw[<-List.drop_drop,e,List.drop_left' hx]
 have X1:=nx rfl X0;rw[<-l1] at X1;have X2:=nx rfl X1;rw[<-l2] at X2;have X3:=nx rfl X2;rw[<-l3] at X3;refine Vw ⟨#[118,118,118,98]⟩ bs [a,b,c,d] (fun j=>(fE a b c d j).length) v w h hl Dq rfl ag rfl (fun j _=>by have:=x_ j;show(fE a b c d j).length<=_;omega) ?_
 intro j hj hj' g w1 hr;have hj4:j<4:=hj;obtain rfl|rfl|rfl|rfl:j=0\/j=1\/j=2\/j=3:=ae
 ·show aH 267 #[.pointer (some ⟨g,0,none⟩),.int .u8 118] w1 (qM w1 g bs (fE a b c d 1).length (.tuple #[.int .u64 a,.int .i64 0]))
  rw[l1];exact wM w1 hr hby hl X0 a0 a1
 ·show aH 267 #[.pointer (some ⟨g,0,none⟩),.int .u8 118] w1 (qM w1 g bs (fE a b c d 2).length (.tuple #[.int .u64 b,.int .i64 0]))
  rw[l2];exact wM w1 hr hby hl X1 b0 b1
 ·show aH 267 #[.pointer (some ⟨g,0,none⟩),.int .u8 118] w1 (qM w1 g bs (fE a b c d 3).length (.tuple #[.int .u64 c,.int .i64 0]))
  rw[l3];exact wM w1 hr hby hl X2 c0 c1
 ·show aH 267 #[.pointer (some ⟨g,0,none⟩),.int .u8 98] w1 (qM w1 g bs (fE a b c d 4).length (.tuple #[.int .u64 d,.int .i64 0]))
  rw[l4];exact XH w1 hr hl X3 d0 d1
theorem bf6(ok:je lo hi dg u m gr bk l):iD (hwB lo R dg l):=by
 unfold hwB Bi;refine iD.append (iD.append (iD.append (iD.append (iD.append (iD.append (iD.append (vH _ _) (vH _ _)) (vH _ _)) (vH _ _)) (vH _ _)) (vH _ _)) (vH _ _)) ?_
 exact bc7 (fun x hx=>by have:=ab4 ok.pb x hx;omega)
theorem bf7(ok:je lo hi dg u m gr bk l):iD (hjB lo hi dg R gr l):=by
 have hlo:lo<=9223372036854775807:=by have:=ok.sh.h0;have:=ok.sh.h1;omega
 have hhi:=ok.sh.h1;have hdg:=ok.sh.d1;have hg:=LK gr;unfold hjB;refine iD.append ?_ (bf6 ok)
 simp only[fE];exact iD.append (iD.append (iD.append (gX ae  ae) (gX ae  ae)) (gX ae  ae)) (fun b hb=>by simp only[List.mem_singleton] at hb;omega)
open Tryz
open Go.RowKit Go.Lib Go.Shelf
theorem Pj{p1:Value}(v:Value)(w:World)(hy:dK w y 126 #[kd,p1,p2,p3,p4])(h:iY .u8 w v (hjB lo hi dg (eY u m hi bk) gr l))(ok:je lo hi dg u m gr bk l) :
 aH 126 #[.pointer (some ⟨y,0,none⟩),v] w fun e w'=>e=.returned (.int .i64 0)/\∃x,dK w' y 126 #[kd,.pointer (some ⟨x,0,none⟩),p2,p3,p4]/\qo x lo hi dg u m gr bk l (Gr (fun _=>False) w w') w'/\Touch (fun k=>k=y) w w':=by
 obtain⟨okR,hre⟩:=ae0 ok;have hlo:lo<=9223372036854775807:=by have:=ok.sh.h0;have:=ok.sh.h1;omega
 have hhi:=ok.sh.h1;have hdg:=ok.sh.d1;have hcl:=nR l;have hll:=ok.len;have HBY:=bf7 (R:=eY u m hi bk) ok;have hwl:=wQ lo (eY u m hi bk) dg l;have HY:=aI hy;have HG:=aI (LK gr);have CL:Hid (∀(v:Value) (w1:World),iM fZ w1 v l->_):=aI (fun v w1 hr=>Vx v w1 hr ok)
 generalize eY u m hi bk=R at *;have CR:Hid (∀(v:Value) (w1:World),iY .u8 w1 v (hwB lo R dg l)->_):=aI (fun v w1 hr=>TK v w1 hr okR hre)
 have CB:Hid (∀(x:Nat) (F:Ft) (w1:World),qo x lo R dg u m false bk l F w1->_):=aI (fun x F w1 h=>SL w1 h)
 have CP:Hid (∀(x:Nat) (F:Ft) (w1:World),qo x lo R dg u m false bk l F w1->_):=aI (fun x F w1 h=>OG w1 h okR)
 unfold hjB at h HBY;have by0:=HG.o;have x_:=rJ lo hi dg (Pg gr) 4;have hbl:(fE lo hi dg (Pg gr) 4++hwB lo R dg l).length=(fE lo hi dg (Pg gr) 4).length+(hwB lo R dg l).length:=aQ;have CG:=aI (XZ v w h HBY ae  ae  ae  ae  ae  ae  ae  ae  ae)
 have XP:Hid ((fE lo hi dg (Pg gr) 4++hwB lo R dg l).drop (fE lo hi dg (Pg gr) 4).length=hwB lo R dg l):=aI List.drop_left;have HR:=aI h;clear h ok okR hre HBY hy by0;generalize hwB (lo:Int) R dg l=HW at *;generalize fE lo hi dg (Pg gr) 4++HW=bs at *;generalize (fE lo hi dg (Pg gr) 4).length=P at *;generalize Pg gr=D at *;obtain⟨A0,c0,ev,hc0,hcm,hf⟩:=(HR.o).form;obtain⟨g0,o0,rfl,hg0,_⟩:=hf ae
 obtain⟨n0,hn0⟩:=aF (bs.length);have Vm:=aI hn0;rw[hn0] at ev hc0 hbl;subst ev;have i40:(P:Int)<=(n0:Int):=ae
 have i41:¬(c0=P):=ae
 have by1:P<=n0:=ae
 clear hf hn0 hbl hwl hcl;have EC:Hid (IntKind.i64.wrap (lo:Int)=(lo:Int)/\IntKind.i64.wrap (hi:Int)=(hi:Int)/\IntKind.i64.wrap (dg:Int)=(dg:Int)):=aI ⟨by rw[aW];omega,ak,ak⟩
 have ly:=HY.o.lt
 rcases HG.o with⟨rfl,rfl⟩|⟨rfl,rfl⟩
 all_goals
  go_enter func126,ntmps126
  go_wp2_with fail;refine(CG.o).mono ?_
  rintro e w2 ⟨v5,rfl,o5,hb2⟩;obtain⟨g5,c5,rfl,hg5,ae2,hc5,ci2⟩:=o5.pos ag
  have O5:=aI o5;have hc7:4<=c5:=hc5;have q0:w2.cell? ⟨g5,0,none⟩=some (.int .u64 lo):=o5.cellAt (j:=0) (by simp) 0 af
  have q1:w2.cell? ⟨g5,1,none⟩=some (.int .u64 hi):=o5.cellAt (j:=1) (by simp) 0 af
  have q2:w2.cell? ⟨g5,2,none⟩=some (.int .u64 dg):=o5.cellAt (j:=2) (by simp) 0 af
  have QQ:=aI (aP q0 (aP q1 (aP q2 (show w2.cell? ⟨g5,3,none⟩=some (.int .u64 _) from o5.cellAt (j:=3) (by simp) 0 af))))
  have k5:¬((5:Int)<(dg:Int)):=ae
  have k6:¬((9223372036854775807:Int)<(lo:Int)):=ae
  have k7:¬((9223372036854775807:Int)<(hi:Int)):=ae
  have HRK:Hid (iY .u8 w2 (.slice (some ⟨g0,o0+P,none⟩) (n0 - P) (c0 - P)) HW):=by
   have h:=HR.o.keep hb2;rw[<-Vm.o] at h;have h':=iY.from_ h P (by rw[Vm.o];exact by1)
   rw[XP.o,Vm.o] at h';exact aI h'
  clear o5 hc5
  go_wp2_with fail;refine(CR.o _ w2 HRK.o).mono ?_
  rintro e w3 ⟨x1,rfl,hx1,hb3⟩;have HX1:=aI hx1;have x8:Below w.heap.size w w3:=hb2.trans (hb3.mono hb2.size);have HQ:=aI x8;clear q0 q1 q2 hx1 k5 k6 k7 i40 i41;have Bd:Below w3.heap.size w3 w3.drew:=(aO _ _).drew;have l53:g5<w3.heap.size:=bF ae2 hb3.size
  go_upto_region 7 with fail;refine jh (Below w3.heap.size w3) (dV 0 13 (fJ 13 (fJ 14 []))) (Bd) ?_
  iterate 13 refine eQ (h:=fun w' hS'=>by have q3':=(hS'.cell (p:=⟨g5,0,none⟩) l53).trans ((hb3.cell (p:=⟨g5,0,none⟩) ae2).trans QQ.o.1);have q4':=(hS'.cell (p:=⟨g5,1,none⟩) l53).trans ((hb3.cell (p:=⟨g5,1,none⟩) ae2).trans QQ.o.2.1);have q5':=(hS'.cell (p:=⟨g5,2,none⟩) l53).trans ((hb3.cell (p:=⟨g5,2,none⟩) ae2).trans QQ.o.2.2.1);obtain⟨e1,e2,e3⟩:=EC.o;go_simp;exact⟨rfl,rfl⟩) ?_
  refine fO fun K hK=>?_
  go_simp;have B6:Below w3.heap.size w3 (w3.drew.alloc (.cells #[.int .i64 0,.int .i64 0,.int .i64 0] 23)):=Bd.alloc ag _
  refine hK _ _ (B6) ?_
  clear hK K;refine fO fun K hK=>?_
  go_simp;have B7:Below w3.heap.size w3 (w3.alloc (.cells #[.int .i64 lo,.int .i64 hi,.int .i64 dg] 23)).drew:=((aO _ _).alloc (aS _) _).drew;refine hK _ _ (B7) ?_
  clear hK K;refine dJ ?_
  obtain⟨b5,LJ⟩:∃z,w3.heap.size=z:=⟨_,rfl⟩;obtain⟨w4,hw4⟩:∃z,(w3.alloc (.cells #[.int .i64 lo,.int .i64 hi,.int .i64 dg] 23)).drew=z:=⟨_,rfl⟩;have K5:Hid (dK w4 b5 23 #[.int .i64 lo,.int .i64 hi,.int .i64 dg]):=by rw[<-hw4,<-LJ];exact aI (dK.new _ _ _)
  have VB:Below w3.heap.size w3 w4:=by rw[<-hw4];exact((aO _ _).alloc (aS _) _).drew
  have ny5:¬(b5=y):=by rw[<-LJ];have:=HQ.o.size;omega
  have ng5:¬(g5=y):=ae
  have HX4:=aI ((h_ x1 lo R dg u m false bk l).keep HX1.o VB);have HQ4:=aI (HQ.o.trans (VB.mono HQ.o.size));have HY4:=aI (HY.o.keep HQ4.o);have l54:g5<w4.heap.size:=bF l53 VB.size;have Q3:=aI ((VB.cell (p:=⟨g5,3,none⟩) l53).trans ((hb3.cell (p:=⟨g5,3,none⟩) ae2).trans QQ.o.2.2.2));rw[hw4,LJ];clear hw4 LJ B6 B7 Bd VB;have bf8:=K5.o.lt;have c0':=K5.o.cell 0;have c1':=K5.o.cell 1;have c2':=K5.o.cell 2;simp only[aK,aJ,aN] at c0' c1' c2';have CX:=aI (aP c0' (aP c1' c2'));have Td:Touch (fun k=>k=y) w4 w4.drew:=(Touch.refl _ w4).drew
  have Bd:Below w4.heap.size w4 w4.drew:=(aO _ _).drew;have HXd:=aI ((h_ x1 lo R dg u m false bk l).keep HX4.o Bd);have lY4:=HY4.o.lt;clear c0' c1' c2'
  go_upto_region 8 with fail;have mW:=aI (fun(w':World) (hS':(Touch (fun k=>k=y) w4) w')=>(aP ((dO hS' 0 bf8 ny5).trans CX.o.1) (aP ((dO hS' 1 bf8 ny5).trans CX.o.2.1) (aP ((dO hS' 2 bf8 ny5).trans CX.o.2.2) ((dO hS' 3 l54 ng5).trans Q3.o)))))
  refine jh (Touch (fun k=>k=y) w4) (dV 0 7 (dV 8 1 (fJ 7 (fJ 9 (fJ 10 (dV 11 5 (fJ 16 (dV 17 1 [])))))))) (Td) ?_
  iterate 8 refine eQ ?_
  refine fO fun K hK=>?_
  go_simp;refine(CB.o x1 _ w4.drew HXd.o).mono ?_
  rintro e w' ⟨rfl,rfl⟩;refine hK _ _ (Td) ?_
  clear hK K;refine fO fun K hK=>?_
  go_simp;refine(CP.o x1 _ w4.drew HXd.o).mono ?_
  rintro e w9 ⟨v9,rfl,o9,KZ⟩;have O9:=aI o9;have B9:Below w4.heap.size w4 w9:=Bd.trans KZ;have T9:Touch (fun k=>k=y) w4 w9:=Touch.of_below B9 (aS _)
  clear o9;refine hK _ _ (T9) ?_
  clear hK K;refine fO fun K hK=>?_
  go_simp;refine(CL.o v9 w9 O9.o.rd).mono ?_
  rintro e w10 ⟨x,rfl,hx,TM⟩;have HX:=aI hx;have B10:Below w4.heap.size w4 w10:=B9.trans (TM.mono B9.size);have T10:Touch (fun k=>k=y) w4 w10:=Touch.of_below B10 (aS _)
  clear hx;refine hK _ _ (T10) ?_
  clear hK K
  iterate 5 refine eQ ?_
  refine fO fun K hK=>?_
  have L2:=aI (HY4.o.keep B10);have f1:=L2.o.cell 1;have f2:=L2.o.frozen 1;simp only[aK,aJ,aN] at f1
  go_simp;have T16:Touch (fun k=>k=y) w4 (w10.setCell ⟨y,1,none⟩ (.pointer (some ⟨x,0,none⟩))):=T10.setCell (p:=⟨y,1,none⟩) (.inl rfl) _
  clear f1 f2;refine hK _ _ (T16) ?_
  clear hK K;refine eQ ?_
  refine dJ ?_
  have M2:=aI (L2.o.dQ 1 (.pointer (some ⟨x,0,none⟩)));have U8:=B9.size;have hnF:∀k,Gr (fun _=>False) w9 w10 k->¬(k=y):=fun k hk=>by have:=hk.elim False.elim id;omega
  have T11:Touch (fun k=>k=y) w10 (w10.setCell ⟨y,1,none⟩ (.pointer (some ⟨x,0,none⟩))):=(show Touch (fun k=>k=y) w10 w10 from Touch.refl _ w10).setCell (p:=⟨y,1,none⟩) (.inl rfl) _
  have HD:=aI ((h_ x lo hi dg u m _ bk l).far HX.o T11 hnF);have TT:=aI ((Touch.of_below (F:=fun k=>k=y) HQ4.o (aS _)).trans T16 (fun i hi=>.inl hi))
  clear T11 T16 T10 T9 Td hnF;generalize w10.setCell ⟨y,1,none⟩ (.pointer (some ⟨x,0,none⟩))=w11 at *
  go_wp2_with fail
  go_ret;refine⟨rfl,x,M2.o,(h_ x lo hi dg u m _ bk l).more HD.o (fun k hk=>?_) (jU (fun k h=>h.elim) TT.o.size),TT.o⟩
  have h1:=(h_ x lo hi dg u m _ bk l).low HD.o k hk;have h2':=hk.elim False.elim id;exact .inr ⟨bJ HQ4.o.size (bJ U8 h2'.1),h1⟩
open Tryz
open Go.RowKit Go.Lib Go.Shelf
open Tryz
open Go.RowKit Go.Lib Go.Shelf
end Go.Proofs.YtilcnjbpmoijmaaGreat.D
namespace Go.Proofs.YtilcnjbpmoijmaaGreat.K
open Tryz
open Go.RowKit
variable{α:Type}{w w':World}{F:Nat->Prop}{lv v:Value}{l:List Int}{g k led n:Nat}{vs:List Sv}{L:LL}
theorem Pm{P:Program}(E:DN α){ts:TypeId}(i0:TypeInfo)(z:Value)(bytes:Nat)(ht:P.underlying ts=some (.slice E.t))(hi:P.info? E.t=some i0)(hz:i0.zero=some z)(hsz:i0.size=E.k)(hby:i0.bytes=bytes)(hzs:z.cells.size=E.k)(hk:0<E.k)(hb:bytes<=128)
  {o:Oper} {a:Act} {K:Act->World->Prop} {Q:Exit->Act->World->Prop} (s x:Operand)
 (ho:o.op=.call {callee:=.builtin .append,args:=#[s,x],argTypes:=#[ts,ts]})
 (base:Nat) (v:Value) (xs:List α) (hs:a.eval s=v) (hown:dL E base w v xs) (u:Value) (news:List α) (hx:a.eval x=u) (hr:iM E w u news) (hlen:xs.length+news.length<=1099511627776) (hbase:base<=w.heap.size)
 (h:∀v' w',dL E base w' v' (xs++news)->w.grownBy w' v.ownBlock->(v'.ownBlock=v.ownBlock\/v'.ownBlock=some w.heap.size)->K (a.put o.dst v') w'):o.wp P a w K Q:=by
 obtain⟨A,c,rfl,_,_,_⟩:=hr.form;have h1:(xs.length+news.length) * bytes<=1099511627776 * 128:=Nat.mul_le_mul hlen hb;refine oq w s x ts ho base E.t i0 z E.k bytes ht hi hz hsz hby hzs hk v xs.length (cellsE E xs) hs hown A news.length c (cellsE E news) hx hr (pO E news) (by unfold maxLen;omega) ae hbase fun v' w' h2 h3 h4=>h v' w' ?_ h3 h4
 unfold dL;rw[aQ,jd];exact h2
def Aside(F:Nat->Prop)(w:World)(v:Value)(l:List Int):Prop:=∀W,(∀k,k<w.heap.size->¬F k->W.heap[k]?=w.heap[k]?)->w.heap.size<=W.heap.size->iM jq W v l
theorem Aside.rd(h:Aside F w v l):iM jq w v l:=h w (fun _ _ _=>rfl) (aS _)
theorem Aside.next{G:Nat->Prop}(h:Aside F w v l)(hk:∀k,k<w.heap.size->¬F k->w'.heap[k]?=w.heap[k]?)(hz:w.heap.size<=w'.heap.size)(hG:∀k,G k->F k\/w.heap.size<=k):Aside G w' v l:=
 fun W h1 h2=>h W (fun k hk1 hk2=>(h1 k ae (fun hg=>(hG k hg).elim hk2 ae)).trans (hk k hk1 hk2)) ae
theorem Aside.uK{base:Nat}(h:dL jq base w v l)(hF:∀k,v.ownBlock=some k->¬F k):Aside F w v l:=
 fun _ h1 _=>(h.stay fun k e=>h1 k (h.lt k e).2 (hF k e)).rd
theorem ae3(L:LL)(j:Nat):L++List.replicate (j+1) []=(L++List.replicate j [])++[([]:List Int)]:=by rw[List.replicate_succ',aX]
theorem xB.lvs(h:xB F w g k n led lv vs L)(hL:0<L.length):∃gl c,lv=.slice (some ⟨gl,0,none⟩) L.length c/\gl<w.heap.size/\gl≠g/\F gl:=by
 have hl:0<vs.length:=by rw[h.gW.len];exact hL
 obtain⟨gl,c,e,_,hg,_,_⟩:=h.gW.row.pos hl;rw[h.gW.len] at e;refine⟨gl,c,e,hg,fun e2=>h.g1 ?_,h.gW.fl gl ?_⟩
 ·rw[e,e2];rfl
 ·rw[e];rfl
theorem put_any(h:Nat)(u:Value)(news:List Int)(w:World)(hs:xB F w g k n led lv vs L)(hu:Aside F w u news)(hsrt:r_ (lvl L h))(hh:h<=100)(hL:L.length<=1000)(hl:(lvl L h).length<=1000000000)(hn:news.length<=1000000000) :
 aH 140 #[.pointer (some ⟨g,0,none⟩),.int .i64 h,u] w fun e w'=>e=.returned (.tuple #[])/\∃F' GV vs',(∀k,F' k->F k\/w.heap.size<=k)/\(∀k,F k->F' k)/\xB F' w' g k n led GV vs' (vJ L h news)/\Touch F w w':=by
 obtain⟨i0,hi0,hiz,his,hib⟩:=info_parts be6;have HI:=aI hi0;have HZ:=aI hiz;have HSZ:=aI his;have HBY:=aI hib;clear hi0 hiz his hib;obtain⟨i1,hi0,hiz,his,hib⟩:=info_parts slI;have JI:=aI hi0;have JZ:=aI hiz;have JSZ:=aI his;have JBY:=aI hib;clear hi0 hiz his hib;have HU:=aI hu;have HS:=aI hs;have YR:=aI hsrt;have hgw:=hs.blk.lt;obtain⟨A0,c0,rfl,_,_,_⟩:=hu.rd.form;clear hs hu hsrt
 go_enter func140,ntmps140
 go_wp2_with fail
 go_loopg [6] (h+1 - L.length) (fun q _ wr=>∃(j:Nat) (F1:Nat->Prop) (X7:Value) (vs1:List Sv),q=h+1 - L.length - j/\(j=0\/L.length+j<=h+1)/\Hid ((∀k,F1 k->F k\/w.heap.size<=k)/\(∀k,F k->F1 k)/\xB F1 wr g k n led X7 vs1 (L++List.replicate j [])/\Touch F w wr))
 case atStart=>exact⟨0,F,lv,vs,rfl,.inl rfl,aI ⟨fun k hk=>.inl hk,fun k hk=>hk,by rw[List.replicate_zero,List.append_nil];exact HS.o,Touch.refl _ _⟩⟩
 case round=>
  obtain⟨j,F1,X7,vs1,hq,hj,HX⟩:=hrel;have HQ:=aI hq;clear hq;have hx:=HX.o;have hw1:=hx.2.2.2.size;have hst:=hx.2.2.1;obtain⟨A1,c1,rfl,hc1,hc2,_⟩:=hst.form;have k1:=hst.cell1;have f1:=hst.blk.frozen 1;have hgr:=hst.blk.lt;have hll:(L++List.replicate j ([]:List Int)).length=L.length+j:=ag
  rw[hll] at k1 hc1 hst
  by_cases hle:L.length+j<=h
  ·have bo6:((L.length+j:Nat):Int)<=(h:Int):=ae
   have hrow:=hst.gW.row;have by2:=aI hrow;have HST:=aI hst;have hfl:∀kk,(Value.slice A1 (L.length+j) c1).ownBlock=some kk->F1 kk:=fun kk e=>hst.gW.fl kk e
   have hg1:(Value.slice A1 (L.length+j) c1).ownBlock≠some g:=hst.g1;have HFL:=aI hfl;have HG1:=aI hg1;have hvl:vs1.length=L.length+j:=by rw[hst.gW.len,hll]
   clear hrow hst hx hfl hg1 hll
   go_wp2_with (at_builtin;refine jJ Dk (ts:=114) i1 _ 24 underlying114 JI.o JZ.o JSZ.o JBY.o rfl af  af rfl (.tmp 17) (.tmp 18) rfl 0 (.slice A1 (L.length+j) c1) vs1 rfl (by2.o.alloc _) _ [(none,0,0)] rfl (iM.fK (E:=Dk) wr (none,0,0) _ rfl _ rfl _ rfl) ah ae ?_;intro v7 w7 o7 g7 a7;have b7:=(g7.block g ah (fun e=>HG1.o e.symm)).trans (dK.alloc HST.o.blk _);have k7:=dK.cell b7 1;have f7:=dK.frozen b7 1;simp only[aK,aN,aJ] at k7;have O7:=aI o7;have G7:=aI g7;have A7:=aI a7;obtain⟨A8,c8,rfl,_,_,_⟩:=o7.form;clear o7 g7 a7 b7;go_simp)
   have e8:(vs1++[((none,0,0):Sv)]).length=L.length+j+1:=by rw[aQ,hvl];rfl
   have o7:=O7.o;have a7:=A7.o;have g7:=G7.o;rw[e8] at o7 a7;have hmore:=qQ.more (HST.o.keep ((aO _ _).alloc (aS _) (.cells #[.slice none 0 0] 182))) o7 g7 a7
   go_roundg (h+1 - L.length - (j+1))
   case measure=>have:=HQ.o;omega
   case rel=>
    refine⟨j+1,_,_,_,rfl,.inr ae,aI ⟨?_,?_,by rw[ae3];exact hmore,?_⟩⟩
    ·intro kk hkk
     rcases hkk with hkk|hkk
     ·exact HX.o.1 kk hkk
     ·rcases a7 with e9|e9
      ·rw[e9] at hkk;exact HX.o.1 kk (HFL.o kk hkk)
      ·rw[e9] at hkk
       injection hkk with hkk;rw[<-hkk];refine .inr ?_
       simp;omega
    ·exact fun kk hkk=>.inl (HX.o.2.1 kk hkk)
    ·refine Touch.setCell (Touch.grown (Touch.alloc HX.o.2.2.2 _) g7 fun kk hkk=>?_) ?_ _
     ·exact HX.o.1 kk (HFL.o kk hkk)
     ·exact .inl HS.o.fg
  ·have hlx:ext L h=L++List.replicate j []:=by
    unfold ext
    congr 2
    omega
   rw[<-hlx] at hst;have hhl:h<(ext L h).length:=by rw[pY];omega
   have hlen:(ext L h).length=L.length+j:=by rw[hlx,hll]
   obtain⟨gl,cl,Am,hgl,ae4,Pn⟩:=xB.lvs hst ae
   rw[hlen] at Am;injection Am with Am e2 e3;subst Am;subst e3;have hv:h<vs1.length:=by rw[hst.gW.len];exact hhl
   have g2:=hst.g2 h hv;have g3:(jr vs1[h]).ownBlock≠some gl:=fun e=>hst.gW.apart h hv gl e rfl
   have ol:=hst.gW.each h hv;rw[Ep] at ol;have cl2:=hst.gW.row.cellAt hv 0 af
   rw[show h * Dk.k+0=h by show h * 1+0=h;omega] at cl2
   have fl2:=hst.gW.row.frozenAt h;have hfs:=hst.gW.fv h hv;have HST:=aI hst;have hfT:=HX.o.2.2.2;have HFT:=aI hfT;have HFX:=aI HX.o.1;have HFY:=aI HX.o.2.1;obtain⟨s,hs⟩:=aF (vs1[h]);rw[hs] at g2 g3 ol cl2 hfs;have MQ:=aI hs;obtain⟨sA,sn,sc⟩:=s;obtain⟨_,_,es,_,_,_⟩:=ol.form;injection es with es1 es2 es3;subst es2;have OL:=aI ol;have C1:=aI k1;have C2:Hid (wr.cell? ⟨gl,h,none⟩=some (.slice sA (lvl L h).length sc)):=aI (cl2.trans rfl);have FL2:=aI fl2;have HFS:=aI hfs;have HU1:=aI (HU.o.next (G:=F1) (fun kk h1 h2=>hfT.block kk h1 h2) hfT.size HX.o.1)
   clear hx HX hst cl2 fl2 f1 ol hs es1 es3 hfs hfT hll hlx;have hhi:h<L.length+j:=ae
   go_upto_region 2 with fail;clear k1;have mW:=aI (fun(w':World) (hS':Touch (fun kk=>(Value.slice sA (lvl L h).length sc).ownBlock=some kk) wr w')=>(aP ((cZ (a:=⟨g,1,none⟩) (hS'.block g hgr g2)).trans C1.o) ((cZ (a:=⟨gl,h,none⟩) (hS'.block gl hgl g3)).trans C2.o)))
   refine KO (fun w'=>Touch (fun kk=>(Value.slice sA (lvl L h).length sc).ownBlock=some kk) wr w') 15 (KI 0 13 (KJ 13 (KI 14 1 (KJ 15 [])))) ((Touch.refl _ _).drew) ?_
   iterate 13 refine uF ?_
   refine Iq fun K hK=>?_
   refine Pm jq (ts:=182) i0 _ 8 underlying182 HI.o HZ.o HSZ.o HBY.o rfl af  af (.tmp 33) (.tmp 34) rfl 0 (.slice sA (lvl L h).length sc) (lvl L h) rfl (dL.drew OL.o) (.slice A0 news.length c0) news rfl (HU1.o.rd.keep (aO _ _).drew) ae  ae ?_
   intro v7 w7 o7 g7 a7;have T7:Touch (fun kk=>(Value.slice sA (lvl L h).length sc).ownBlock=some kk) wr w7:=((Touch.refl _ _).drew).grown g7 (fun kk hk=>.inl hk)
   have O7:=aI o7;have A7:=aI a7;obtain⟨A8,c8,rfl,_,_,_⟩:=o7.form;clear o7 g7 a7
   go_simp;refine hK _ _ (T7) ?_
   clear hK K;refine uF ?_
   refine KN fun K hK=>?_
   have k2:=(cZ (a:=⟨gl,h,none⟩) (T7.block gl hgl g3)).trans C2.o;have f2:=(World.frozen?_of_block (a:=⟨gl,h,none⟩) (T7.block gl hgl g3)).trans FL2.o
   go_simp;refine hK _ _ ?_
   clear hK K;refine ja ?_
   clear k2 f2;have e8:(lvl L h++news).length=(lvl L h).length+news.length:=aQ;have o7:=O7.o;have a7:=A7.o;rw[e8] at o7 a7;have hown:∀kk,(Value.slice A8 ((lvl L h).length+news.length) c8).ownBlock=some kk->(Value.slice sA (lvl L h).length sc).ownBlock=some kk\/wr.heap.size<=kk:=fun kk e=>by
    rcases a7 with e9|e9
    ·rw[e9] at e;exact .inl e
    ·rw[e9] at e;injection e with e;exact .inr (by rw[<-e];exact aS _)
   have hvb:(jr vs1[h]).ownBlock=(Value.slice sA (lvl L h).length sc).ownBlock:=by rw[MQ.o];rfl
   have gW:=qQ.level (s':=(A8,(lvl L h).length+news.length,c8)) (l':=lvl L h++news) HST.o hhl rfl o7 (fun kk h1 h2=>T7.block kk h1 (fun e=>h2 (hvb.trans e))) T7.size (by
    rcases a7 with e9|e9
    ·exact .inl (e9.trans hvb.symm)
    ·exact .inr fun kk e=>by have e:=e9.symm.trans e;injection e with e;rw[<-e];exact aS _)
   have TT:Touch F w w7:=HFT.o.trans T7 fun kk hk=>HFX.o kk (HFS.o kk hk)
   have T8:=aI (TT.setCell (p:=⟨gl,h,none⟩) (HFX.o gl Pn) (jr (A8,(lvl L h).length+news.length,c8)));have tJ:=aI gW;have HOWN:=aI hown;have YN:=TT.size;have hzw:w.heap.size<=wr.heap.size:=HFT.o.size;clear gW o7 a7 TT T7 O7 A7 hown HST OL HU1 C1 C2 FL2 hvb g2 g3;obtain⟨w8,hw8⟩:∃x,w7.setCell ⟨gl,h,none⟩ (jr (A8,(lvl L h).length+news.length,c8))=x:=⟨_,rfl⟩;rw[hw8] at tJ T8;show Exit.then _ _ Exit.normal _ (w7.setCell ⟨gl,h,none⟩ (jr (A8,(lvl L h).length+news.length,c8)))
   rw[hw8];clear hw8;have k1:=tJ.o.cell1;have hset:(vs1.set h (A8,(lvl L h).length+news.length,c8))[h]'(by rw[bK];exact hv)=(A8,(lvl L h).length+news.length,c8):=List.getElem_set_self ..
   have k0:=tJ.o.gW.row.cellAt (j:=h) (by rw[bK];exact hv) 0 af
   rw[show h * Dk.k+0=h by show h * 1+0=h;omega,hset] at k0
   have k2:w8.cell? ⟨gl,h,none⟩=some (.slice A8 ((lvl L h).length+news.length) c8):=k0.trans rfl;clear k0;have ol:=tJ.o.gW.each h (by rw[bK];exact hv)
   rw[hset,oK _ _ _ _ hhl,if_pos rfl] at ol;have OL:=aI ol;clear ol
   go_wp2_with fail;refine(ac9 (jr (A8,(lvl L h).length+news.length,c8)) 0 (lvl L h++news) w8 OL.o (by rw[e8];omega)).mono ?_
   rintro e w9 ⟨rfl,o9,t9⟩;rw[ac6 YR.o news] at o9;have bf9:=tJ.o.turn (j:=h) (l':=insL (lvl L h) news) (by rw[bK];exact hhl) (by rw[hset];exact o9) (fun kk h1 h2=>t9.block kk h1 (fun e=>h2 (by rw[hset];exact e))) t9.size
   rw[List.set_set] at bf9;have HL9:=aI bf9;have T9:=aI (T8.o.trans t9 (fun kk hk=>by
    rcases HOWN.o kk hk with e|e
    ·exact HFX.o kk (HFS.o kk e)
    ·exact .inr ae))
   clear bf9 o9 t9 k1 k2
   go_wp2_with fail
   go_end0
   refine⟨rfl,_,_,_,?_,?_,HL9.o,T9.o⟩
   ·intro kk hk
    rcases hk with hk|hk
    ·exact HFX.o kk hk
    ·rcases HOWN.o kk hk with e|e
     ·exact HFX.o kk (HFS.o kk e)
     ·exact .inr ae
   ·exact fun kk hk=>.inl (HFY.o kk hk)
open Tryz
open Go.RowKit
open Tryz
open Go.RowKit
def u8E:DN Int where
 k:=1
 t:=5
 enc x:=[.int .u8 x]
 len _:=rfl
 one x u hu:=by
  simp only[bn,List.not_mem_nil,or_false] at hu;subst hu;rfl
theorem _root_.Go.Proofs.YtilcnjbpmoijmaaGreat.kG.u8{w:World}{A:Option Addr}{l:List Int}(h:kG u8E w A l){j:Nat}(hj:j<l.length) :
 ∃g off,A=some ⟨g,off,none⟩/\g<w.heap.size/\w.cell? ⟨g,off+j,none⟩=some (.int .u8 l[j]):=by
 obtain⟨g,off,hA,hg,hc⟩:=h ae
 refine⟨g,off,hA,hg,?_⟩
 have:=hc j hj 0 af
 rw[show off+j * u8E.k+0=off+j by show off+j * 1+0=_;omega] at this
 exact this
theorem _root_.Go.Proofs.YtilcnjbpmoijmaaGreat.iM.stay{E:DN α}{l:List α}(h:iM E w v l)(hk:∀k,v.ownBlock=some k->w'.heap[k]?=w.heap[k]?)(hz:w.heap.size<=w'.heap.size):iM E w' v l:=by
 obtain⟨A,c,rfl,h1,h2,h3⟩:=h.form;refine iM.jY h1 h2 fun h0=>?_
 obtain⟨g,off,rfl,hg,hc⟩:=h3 h0;exact⟨g,off,rfl,ae,fun j hj i hi=>(cZ (hk g rfl)).trans (hc j hj i hi)⟩
def Byt(B:List Int):Prop:=B.length<=1000000/\∀x∈B,0<=x/\x<=255
structure RCt(t:TypeId)(w:World)(g:Nat)(v:Value)(B:List Int)(a:Nat):Prop where
 blk:dK w g t #[v,.int .i64 a]
 rd:iM u8E w v B
 ne:v.ownBlock≠some g
 at_:a<=8 * B.length
 byt:Byt B
theorem RCt.stay{t:TypeId}{w w':World}{g:Nat}{v:Value}{B:List Int}{a:Nat}(h:RCt t w g v B a)(hg:w'.heap[g]?=w.heap[g]?)(hk:∀k,v.ownBlock=some k->w'.heap[k]?=w.heap[k]?)(hz:w.heap.size<=w'.heap.size):RCt t w' g v B a:=
 ⟨hg.trans h.blk,h.rd.stay hk hz,h.ne,h.at_,h.byt⟩
theorem RCt.drewN{t:TypeId}{w:World}{g:Nat}{v:Value}{B:List Int}{a:Nat}(h:RCt t w g v B a)(n:Nat):RCt t (w.drewN n) g v B a:=h.stay rfl (fun _ _=>rfl) (aS _)
theorem RCt.step{t:TypeId}{B:List Int}{a:Nat}(h:RCt t w g v B a)(ha:a<8 * B.length):RCt t (w.setCell ⟨g,1,none⟩ (.int .i64 (a+1:Nat))) g v B (a+1):=by
 have hk:∀k,k≠g->(w.setCell ⟨g,1,none⟩ (.int .i64 (a+1:Nat))).heap[k]?=w.heap[k]?:=fun k hk=>bM w ⟨g,1,none⟩ _ k hk
 refine⟨?_,h.rd.stay (fun k e=>hk k fun e2=>h.ne (by rw[e,e2])) ag,h.ne,ha,h.byt⟩
 have:=h.blk.dQ 1 (.int .i64 (a+1:Nat))
 simpa using this
abbrev BR:=RCt 206
end Go.Proofs.YtilcnjbpmoijmaaGreat.K
