/- Parts of a proof. No condition. -/
import Derived.Test.YtilcnjbpmoijmaaGreatPw21
set_option maxRecDepth 100000
set_option maxHeartbeats 16000000
set_option linter.unusedVariables false
set_option linter.unusedSimpArgs false
namespace Go.Proofs.YtilcnjbpmoijmaaGreat.D
open Tryz
open Go.RowKit Go.Lib
variable{a m:Nat}
theorem Oa(h3:Nat)(w:World) :
 CallsD prog 280 #[.pointer (some ⟨h3,0,none⟩)] .returning w fun e u' w'=>e=.returned (.tuple #[])/\u'=.returning/\w'=w:=by
 refine callsD_of_wpS func280 rfl fun c₀ cs hu=>?_
 apply wpS_seq
 apply wpS_region
 simp[wpOpsS,go_sem,recoverD,hu,ntmps280,Exit.thenS]
 refine wpS_of_wp ?_
 go_wp2
 cases c₀
 simp_all[bodyPostS,results,Tryz.results280]
theorem RY(h2 h3:Nat)(w:World)(c3:w.cell? ⟨h3,0,none⟩=some (.int .i64 0)) :
 CallsD prog 279 #[.pointer (some ⟨h3,0,none⟩),.pointer (some ⟨h2,0,none⟩)] .returning w fun e u' w'=>e=.returned (.tuple #[])/\u'=.returning/\w'=w:=by
 refine callsD_of_wpS func279 rfl fun c₀ cs hu=>?_
 refine wpS_of_wp ?_
 go_wp2
 cases c₀
 simp_all[bodyPostS,results,Tryz.results279]
theorem R_(h2 h3:Nat)(w:World)(R:Ending->World->Prop)(tmps:Array Value)(t2:tmps[2]?=some (.pointer (some ⟨h2,0,none⟩)))(t3:tmps[3]?=some (.pointer (some ⟨h3,0,none⟩)))
 (x2:Value) (c2:w.cell? ⟨h2,0,none⟩=some x2) (c3:w.cell? ⟨h3,0,none⟩=some (.int .i64 0)) (hR:R (.returned (.tuple #[x2,.int .i64 0])) w) :
 Leaves prog Tryz.f206 tmps R [{target:=.fn (.func 280) #[],args:=#[.pointer (some ⟨h3,0,none⟩)]},{target:=.fn (.func 279) #[.pointer (some ⟨h3,0,none⟩),.pointer (some ⟨h2,0,none⟩)],args:=#[]}] .returning w:=by
 refine leaves_cons (f:=280) (args:=#[.pointer (some ⟨h3,0,none⟩)]) ag (by simp[go_sem]) ?_
 refine(Oa h3 w).mono ?_
 rintro e u' w'' ⟨rfl,rfl,rfl⟩;refine leaves_cons (f:=279) (args:=#[.pointer (some ⟨h3,0,none⟩),.pointer (some ⟨h2,0,none⟩)]) (by simp[settle]) (by simp[go_sem]) ?_
 refine(RY h2 h3 w'' c3).mono ?_
 rintro e u' w'' ⟨rfl,rfl,rfl⟩;refine⟨.tuple #[x2,.int .i64 0],?_,hR⟩
 simp[results,Tryz.results206,go_sem,t2,t3,c2,c3]
theorem aa1{q:List Pr}(ok:uI q):∀j,j<=q.length->iD (lW q j)
 | 0,_=>fun b hb=>by simp[lW] at hb
 | j+1,h=>by
  have hp:=ok.pos _ (bf (show j<q.length by omega))
  have hp2:=pK ok.pos _ (bf (show j<q.length by omega))
  have ht:=ok.tot;have hk:=ok.key _ (bf (show j<q.length by omega))
  simp only[lW];rw[xx ae]
  refine iD.append (iD.append (aa1 ok j ae) ?_) (gX ae  ae)
  cases j with
  | zero=>
   simp only[QC];rw[xx ae]
   have:=jl (v:=q[0].1) ae  ae
   exact gX this.1 this.2
  | succ s=>
   simp only[QC];rw[xx ae,xx ae]
   have hg:=KU ok (j:=s) (by omega)
   have hk2:=ok.key _ (bf (show s<q.length by omega))
   exact gX ae  ae
theorem ao7{q:List Pr}{f:Int}(ok:uI q)(a1:a<=5000)(m1:m<=4096)(f0:0<=f)(f1:f<=4611686018427387904):iD (pR a m q f):=by
 have:=ok.len;unfold pR;simp only[iF];exact iD.append (iD.append (iD.append (iD.append (gX ae  ae) (gX ae  ae)) (gX ae  ae)) (gX ae  ae)) (aa1 ok _ (aS _))
theorem Xm{l:List Pr}(v:Value)(w:World)(h:iY .u8 w v (pR a m (dY m l).1 (dY m l).2))(ok:kJ a m l) :
 aH 206 #[v] w fun e w'=>∃d,e=.returned (.tuple #[.pointer (some ⟨d,0,none⟩),.int .i64 0])/\rq d a m l (Gr (fun _=>False) w w') w'/\Below w.heap.size w w':=by
 have hmf:∀(fn:Fn) (first cap:Array Value) (w:World),(Instr.makeFunc fn first cap).run prog w=.ok (.func fn first cap) w:=fun _ _ _ _=>rfl
 have HR:=aI h;obtain⟨hq,_,hlm,f0,f1⟩:=ok.cut;have a0:=ok.a0;have a1:=ok.a1;have m0:=ok.m0;have m1:=ok.m1;have hql:=hq.len;have CL:Hid (∀(v:Value) (w:World),iM fZ w v (dY m l).1->_):=aI (fun v w h=>ao5 v w h ok)
 have CW:Hid (∀(d:Nat) (F:Ft) (w:World),rq d a m l F w->_):=aI (fun d F w h=>Gq w h ok)
 have HB:=aI (ao7 hq a1 m1 f0 f1);have Ih:=aI hq;have hG:=zF a m (dY m l).1.length (dY m l).2;have hwl:=zD (dY m l).1 (dY m l).1.length;generalize (dY m l).2=f at *;generalize (dY m l).1=q at *;have hbl:(pR a m q f).length<=1000000000000:=by unfold pR;rw[aQ];omega
 -- what lies where
 have X0:Hid ((pR a m q f).drop 0=eG a++(eG m++(eG q.length++(eG f++lW q q.length)))):=aI (by unfold pR;simp only[iF,cO,aX])
 obtain⟨p1,hp1⟩:∃p,0+(eG (a:Int)).length=p:=⟨_,rfl⟩;have X1:Hid ((pR a m q f).drop p1=eG m++(eG q.length++(eG f++lW q q.length))):=aI (by rw[<-hp1,<-List.drop_drop,X0.o,List.drop_left])
 obtain⟨p2,hp2⟩:∃p,p1+(eG (m:Int)).length=p:=⟨_,rfl⟩;have X2:Hid ((pR a m q f).drop p2=eG q.length++(eG f++lW q q.length)):=aI (by rw[<-hp2,<-List.drop_drop,X1.o,List.drop_left])
 obtain⟨p3,hp3⟩:∃p,p2+(eG (q.length:Int)).length=p:=⟨_,rfl⟩;have X3:Hid ((pR a m q f).drop p3=eG f++lW q q.length):=aI (by rw[<-hp3,<-List.drop_drop,X2.o,List.drop_left])
 obtain⟨p4,hp4⟩:∃p,p3+(eG f).length=p:=⟨_,rfl⟩;have X4:Hid ((pR a m q f).drop p4=lW q q.length++[]):=aI (by rw[<-hp4,<-List.drop_drop,X3.o,List.drop_left,List.append_nil])
 have XE:Hid (p4+(lW q q.length).length=(pR a m q f).length):=aI (by
  have e1:(pR a m q f).length=(eG (a:Int)).length+(eG (m:Int)).length+(eG (q.length:Int)).length+(eG f).length+(lW q q.length).length:=by unfold pR;simp only[iF,aQ]
  omega)
 have P1:=aI hp1;have P2:=aI hp2;have P3:=aI hp3;have P4:=aI hp4;generalize pR a m q f=bs at *;clear h ok hq hp1 hp2 hp3 hp4
 go_enter_defers func206,ntmps206
 go_wp2_with fail;obtain⟨w1,hw1⟩:∃w1,w1=(w.alloc (.cells #[.pointer none] 122)).alloc (.cells #[.int .i64 0] 28):=⟨_,rfl⟩;have hb1:Below w.heap.size w w1:=by rw[hw1];exact((aO _ _).alloc (aS _) _).alloc ag _
 have B2:Hid (dK w1 w.heap.size 122 #[.pointer none]):=by show dK _ _ _ _;rw[hw1];exact(dK.new _ _ _).alloc _
 have B3:Hid (dK w1 (w.heap.size+1) 28 #[.int .i64 0]):=by
  show dK _ _ _ _;rw[hw1];have h:=dK.new (w.alloc (.cells #[.pointer none] 122)) 28 #[.int .i64 0]
  rwa [aV] at h
 obtain⟨h2,hh2⟩:=aF (w.heap.size);have HH2:=aI hh2;rw[<-hw1];rw[hh2] at B2 B3 |-;have l2:=B2.o.lt;have l3:=B3.o.lt;clear hw1 hh2;refine(uV v bs w1 (Rd.keep HR.o hb1) hbl).mono ?_
 rintro e w2 ⟨gr,rfl,hgr,r2,hb2⟩;have R2:=aI r2;have hz2:=hb2.size;have lgr:=r2.lt;clear r2
 go_wp2_with fail;obtain⟨w3,hw3⟩:∃w3,w3=w2.alloc (.cells #[.func (.func 267) #[.pointer (some ⟨gr,0,none⟩)] #[]] 376):=⟨_,rfl⟩;have hb3:Below w2.heap.size w2 w3:=by rw[hw3];exact(aO _ _).alloc (aS _) _
 have B4:Hid (dK w3 w2.heap.size 376 #[.func (.func 267) #[.pointer (some ⟨gr,0,none⟩)] #[]]):=by show dK _ _ _ _;rw[hw3];exact dK.new _ _ _
 rw[<-hw3];obtain⟨h4,hh4⟩:=aF (w2.heap.size);have R3:=aI (R2.o.keep hb3);have hz3:=hb3.size;rw[hh4] at B4 lgr |-;have n4:¬(h4=gr):=ae
 have l4:=B4.o.lt;have D2:=aI ((B2.o.keep hb2).keep hb3);have D3:=aI ((B3.o.keep hb2).keep hb3);have n2:¬(h2=gr):=ae
 have n3:¬(h2+1=gr):=ae
 have m2:=D2.o.lt;have m3:=D3.o.lt;have Iw:Below w.heap.size w w3:=(hb1.trans (hb2.mono hb1.size)).trans (hb3.mono (bJ hb1.size hz2));have bw9:w.heap.size<=gr:=by have:=HH2.o;omega
 have e2:w.heap.size<=h2:=by have:=HH2.o;omega
 have c4:=B4.o.cell 0;simp only[aK,aJ] at c4;have C4:=aI c4;clear hw3 hh4 c4;have hia:IntKind.i64.wrap (a:Int)=a:=ak
 have him:IntKind.i64.wrap (m:Int)=m:=ak
 have hiq:IntKind.i64.wrap (q.length:Int)=q.length:=ak
 have HIA:=aI (aP hia (aP him hiq));clear hia him hiq;have tt:∀{x y:World},Touch (fun k=>k=gr) w3 x->Touch (fun k=>k=gr) x y->Touch (fun k=>k=gr) w3 y:=fun h k=>h.trans k (fun i hi=>.inl hi)
 refine jh (Touch (fun k=>k=gr) w3) (dV 0 1 (dV 3 1 (fJ 1 (dV 2 1 (fJ 4 (dV 5 3 [])))))) ((Touch.refl _ _).drew) ?_
 iterate 2 refine eQ (h:=fun w' hS'=>by have k0:=(dO hS' 0 l4 n4).trans C4.o;obtain⟨i1,i2,i3⟩:=HIA.o;go_simp;exact⟨rfl,rfl⟩) ?_
 refine fO fun K hK=>?_
 go_simp;refine(pV (lo:=100) (hi:=5000) w3.drew (R3.o.keep (aO _ _).drew) HB.o hbl X0.o ae  ae  ae  ae).mono ?_
 rintro e wA ⟨rfl,rA,tA⟩;have RA:=aI rA;rw[P1.o] at RA;have TA:=aI (tt (Touch.refl _ w3).drew tA);clear rA tA;refine hK _ _ (TA.o) ?_
 clear hK K;refine eQ (h:=fun w' hS'=>by have k0:=(dO hS' 0 l4 n4).trans C4.o;obtain⟨i1,i2,i3⟩:=HIA.o;go_simp;exact⟨rfl,rfl⟩) ?_
 refine fO fun K hK=>?_
 go_simp;refine(pV (lo:=2) (hi:=4096) wA RA.o HB.o hbl X1.o ae  ae  ae  ae).mono ?_
 rintro e wB ⟨rfl,rB,tB⟩;have RB:=aI rB;rw[P2.o] at RB;have TB:=aI (tt TA.o tB);clear rB tB;refine hK _ _ (TB.o) ?_
 clear hK K
 iterate 3 refine eQ (h:=fun w' hS'=>by have k0:=(dO hS' 0 l4 n4).trans C4.o;obtain⟨i1,i2,i3⟩:=HIA.o;go_simp;exact⟨rfl,rfl⟩) ?_
 refine dJ ?_
 have kB:=(dO TB.o 0 l4 n4).trans C4.o;obtain⟨i1,i2,i3⟩:=HIA.o
 go_wp2_with fail;refine(pV (lo:=0) (hi:=m) wB RB.o HB.o hbl X2.o ae  ae  ae  ae).mono ?_
 rintro e wC ⟨rfl,rC,tC⟩;have RC:=aI rC;rw[P3.o] at RC;have TC:=aI (tt TB.o tC);have kC:=(dO TC.o 0 l4 n4).trans C4.o;clear rC tC
 go_wp2_with fail;refine(pV (lo:=0) (hi:=4611686018427387904) wC RC.o HB.o hbl X3.o ae  ae  ae  ae).mono ?_
 rintro e wD ⟨rfl,rD,tD⟩;have RD:=aI rD;rw[P4.o] at RD;have TD:=aI (tt TC.o tD);have kD:=(dO TD.o 0 l4 n4).trans C4.o;clear rD tD
 go_wp2_with fail;refine(RX wD RD.o HB.o hbl X4.o Ih.o).mono ?_
 rintro e wE ⟨vE,rfl,oE,rE,tE⟩;have RE:=aI rE;rw[XE.o] at RE;have TE:=aI (tt TD.o tE);have OE:=aI oE.rd;obtain⟨A7,c7,rfl,_,_,_⟩:=oE.form;clear oE rE tE
 go_wp2_with fail;refine(mX gr bs bs.length wE RE.o hbl).mono ?_
 rintro e w' ⟨rfl,n7,rfl⟩;have hl0:((bs.length:Int) - (bs.length:Int))=0:=ae
 have aa2:∀i,(fun k=>k=gr) i->w.heap.size<=i:=fun i hi=>by simp only at hi;omega
 have HbE:=aI (below_drewN (Iw.trans (TE.o.below aa2 Iw.size)) n7);have E2:Hid (dK (wE.drewN n7) h2 122 #[.pointer none]):=(TE.o.block h2 m2 n2).trans D2.o;have E3:Hid (dK (wE.drewN n7) (h2+1) 28 #[.int .i64 0]):=(TE.o.block (h2+1) m3 n3).trans D3.o;have OEn:=aI (OE.o.keep (below_drewN (aO _ _) n7));generalize wE.drewN n7=wF at *;clear kB kC kD aa2
 go_wp2_with fail;refine(CL.o _ wF OEn.o).mono ?_
 rintro e w5 ⟨d,rfl,hd,hb5⟩;have HD:=aI hd;have Hb5:=aI (HbE.o.trans (hb5.mono HbE.o.size));have F2:=aI (E2.o.keep hb5);have F3:=aI (E3.o.keep hb5);have lF2:=E2.o.lt;have lF3:=E3.o.lt;clear hd;have x2:=F2.o.cell 0;have x3:=F3.o.cell 0;have y2:=F2.o.frozen 0;have y3:=F3.o.frozen 0;simp only[aK,aJ] at x2 x3;have hne:h2≠h2+1:=ae
 obtain⟨w6,hw6⟩:=aF ((w5.setCell ⟨h2,0,none⟩ (.pointer (some ⟨d,0,none⟩))).setCell ⟨h2+1,0,none⟩ (.int .i64 0));have G2:Hid (dK w6 h2 122 #[.pointer (some ⟨d,0,none⟩)]):=by rw[<-hw6];exact aI ((F2.o.dQ 0 _).far hne _)
 have G3:Hid (dK w6 (h2+1) 28 #[.int .i64 0]):=by rw[<-hw6];exact aI ((F3.o.far (p:=⟨h2,0,none⟩) ag _).dQ 0 _)
 have T6:Hid (Touch (fun k=>k=h2\/k=h2+1) w5 w6):=by rw[<-hw6];exact aI (((Touch.refl _ w5).setCell (p:=⟨h2,0,none⟩) (.inl (.inl rfl)) _).setCell (p:=⟨h2+1,0,none⟩) (.inl (.inr rfl)) _)
 have hnF:∀k,Gr (fun _=>False) wF w5 k->¬(k=h2\/k=h2+1):=fun k hk=>by have:=hk.elim False.elim id;omega
 have HD6:=aI ((jE d a m l).far HD.o T6.o hnF);have Hb6:=aI (Hb5.o.trans (T6.o.below (fun k hk=>by rcases hk with h|h<;>omega) Hb5.o.size))
 have g2:=G2.o.cell 0;have g3:=G3.o.cell 0;simp only[aK,aJ] at g2 g3
 go_wp2_with fail;refine(CW.o _ _ w6 HD6.o).mono ?_
 rintro e w7 ⟨v7,rfl,o7,hb7⟩;have O7:=aI o7;have HD7:=aI ((jE d a m l).keep HD6.o hb7);have Hb7:=aI (Hb6.o.trans (hb7.mono Hb6.o.size));have I2:=aI (G2.o.keep hb7);have I3:=aI (G3.o.keep hb7);clear o7 x2 x3 y2 y3 g2 g3;have x3:=I3.o.cell 0;have y3:=I3.o.frozen 0;simp only[aK,aJ] at x3;obtain⟨w8,hw8⟩:=aF (w7.setCell ⟨h2+1,0,none⟩ (.int .i64 0));have J2:Hid (dK w8 h2 122 #[.pointer (some ⟨d,0,none⟩)]):=by rw[<-hw8];exact aI (I2.o.far hne _)
 have J3:Hid (dK w8 (h2+1) 28 #[.int .i64 0]):=by rw[<-hw8];exact aI (I3.o.dQ 0 _)
 have T8:Hid (Touch (fun k=>k=h2\/k=h2+1) w7 w8):=by rw[<-hw8];exact aI ((Touch.refl _ w7).setCell (p:=⟨h2+1,0,none⟩) (.inl (.inr rfl)) _)
 have HD8:=aI ((jE d a m l).far HD7.o T8.o hnF);have Hb8:=aI (Hb7.o.trans (T8.o.below (fun k hk=>by rcases hk with h|h<;>omega) Hb7.o.size))
 have lG3:=G3.o.lt;have O8:Hid (OwnB w6.heap.size w8 v7 bs):=aI (dP.stay O7.o (fun k e=>T8.o.block k (dP.lt O7.o k e).2 (fun h=>by have:=(dP.lt O7.o k e).1;rcases h with h|h<;>omega)))
 have EQ:=aI (lF v7 v bs bs w8 (dP.rd O8.o) (Rd.keep HR.o Hb8.o) hbl hbl);rw[decide_eq_true rfl] at EQ;have j3:=J3.o.cell 0;simp only[aK,aJ] at j3
 go_wp2_with (go_at_call 133;refine(EQ.o).mono ?_;rintro e w9 ⟨rfl,KZ⟩;have k2:=(J2.o.keep KZ).cell 0;have k3:=(J3.o.keep KZ).cell 0;have q2:=(J2.o.keep KZ).frozen 0;have q3:=(J3.o.keep KZ).frozen 0;simp only[aK,aJ] at k2 k3;have cg2:=KZ);refine(show Leaves prog Tryz.f206 _ _ _ .returning _ from ?_)
 obtain⟨w10,ao8⟩:=aF ((w9.setCell ⟨h2,0,none⟩ (.pointer (some ⟨d,0,none⟩))).setCell ⟨h2+1,0,none⟩ (.int .i64 0));have K2:dK w10 h2 122 #[.pointer (some ⟨d,0,none⟩)]:=by rw[<-ao8];exact((J2.o.keep KZ).dQ 0 _).far hne _
 have K3:dK w10 (h2+1) 28 #[.int .i64 0]:=by rw[<-ao8];exact((J3.o.keep KZ).far (p:=⟨h2,0,none⟩) ag _).dQ 0 _
 have T10:Touch (fun k=>k=h2\/k=h2+1) w9 w10:=by rw[<-ao8];exact((Touch.refl _ w9).setCell (p:=⟨h2,0,none⟩) (.inl (.inl rfl)) _).setCell (p:=⟨h2+1,0,none⟩) (.inl (.inr rfl)) _
 have bm3:=(jE d a m l).far ((jE d a m l).keep HD8.o KZ) T10 hnF;have Hb9:=Hb8.o.trans (KZ.mono Hb8.o.size);have aa3:=Hb9.trans (T10.below (fun k hk=>by rcases hk with h|h<;>omega) Hb9.size)
 rw[ao8];refine R_ h2 (h2+1) _ _ _ rfl rfl _ (K2.cell 0) (K3.cell 0) ⟨d,rfl,(jE d a m l).more bm3 (fun k hk=>?_) (jU (fun k h=>h.elim) aa3.size),aa3⟩
 have h1:=(jE d a m l).low bm3 k hk;have h2':=hk.elim False.elim id;exact .inr ⟨bJ HbE.o.size h2'.1,h1⟩
open Tryz
open Go.RowKit Go.Lib Go.Shelf
def sQ(y i:Nat)(cs:Array Value)(Q:Value->World->Prop)(w:World)(e:Ending)(w':World):Prop:=
 e=.returned (.int .i64 0)/\∃p w1,Q p w1/\Below w.heap.size w w1/\dK w' y 126 (cs.setIfInBounds i p)/\Touch (fun k=>k=y) w1 w'/\Touch (fun k=>k=y) w w'
section
variable {y : Nat} {kd p1 p2 p3 p4 : Value} {w : World} {Q : Value -> World -> Prop} {v : Value}
theorem Si(hy:dK w y 126 #[kd,p1,p2,p3,p4])(h:aH 206 #[v] w fun e w'=>∃d,e=.returned (.tuple #[.pointer (some ⟨d,0,none⟩),.int .i64 0])/\Q (.pointer (some ⟨d,0,none⟩)) w'/\Below w.heap.size w w') :
 aH 128 #[.pointer (some ⟨y,0,none⟩),v] w (sQ y 2 #[kd,p1,p2,p3,p4] Q w):=by
 have C:=aI h;have HY:=aI hy;clear h hy
 go_enter func128,ntmps128
 go_wp2_with fail;refine(C.o).mono ?_
 rintro e w1 ⟨d,rfl,hq,hb⟩;have L:=aI (HY.o.keep hb);have f1:=L.o.cell 2;have f2:=L.o.frozen 2;simp only[aK,aJ,aN] at f1;have M:=aI (L.o.dQ 2 (.pointer (some ⟨d,0,none⟩)));have T:=aI ((show Touch (fun k=>k=y) w1 w1 from Touch.refl _ w1).setCell (p:=⟨y,2,none⟩) (.inl rfl) (.pointer (some ⟨d,0,none⟩)))
 have T0:=aI ((Touch.of_below (F:=fun k=>k=y) hb (aS _)).setCell (p:=⟨y,2,none⟩) (.inl rfl) (.pointer (some ⟨d,0,none⟩)))
 have HQ:=aI hq;clear hq
 go_wp2_with fail
 go_ret;exact⟨rfl,_,w1,HQ.o,hb,M.o,T.o,T0.o⟩
theorem Gt(hy:dK w y 126 #[kd,p1,p2,p3,p4])(h:aH 208 #[v] w fun e w'=>∃d,e=.returned (.tuple #[.pointer (some ⟨d,0,none⟩),.int .i64 0])/\Q (.pointer (some ⟨d,0,none⟩)) w'/\Below w.heap.size w w') :
 aH 130 #[.pointer (some ⟨y,0,none⟩),v] w (sQ y 3 #[kd,p1,p2,p3,p4] Q w):=by
 have C:=aI h;have HY:=aI hy;clear h hy
 go_enter func130,ntmps130
 go_wp2_with fail;refine(C.o).mono ?_
 rintro e w1 ⟨d,rfl,hq,hb⟩;have L:=aI (HY.o.keep hb);have f1:=L.o.cell 3;have f2:=L.o.frozen 3;simp only[aK,aJ,aN] at f1;have M:=aI (L.o.dQ 3 (.pointer (some ⟨d,0,none⟩)));have T:=aI ((show Touch (fun k=>k=y) w1 w1 from Touch.refl _ w1).setCell (p:=⟨y,3,none⟩) (.inl rfl) (.pointer (some ⟨d,0,none⟩)))
 have T0:=aI ((Touch.of_below (F:=fun k=>k=y) hb (aS _)).setCell (p:=⟨y,3,none⟩) (.inl rfl) (.pointer (some ⟨d,0,none⟩)))
 have HQ:=aI hq;clear hq
 go_wp2_with fail
 go_ret;exact⟨rfl,_,w1,HQ.o,hb,M.o,T.o,T0.o⟩
theorem Ob(hy:dK w y 126 #[kd,p1,p2,p3,p4])(h:aH 210 #[v] w fun e w'=>∃d,e=.returned (.tuple #[.pointer (some ⟨d,0,none⟩),.int .i64 0])/\Q (.pointer (some ⟨d,0,none⟩)) w'/\Below w.heap.size w w') :
 aH 132 #[.pointer (some ⟨y,0,none⟩),v] w (sQ y 4 #[kd,p1,p2,p3,p4] Q w):=by
 have C:=aI h;have HY:=aI hy;clear h hy
 go_enter func132,ntmps132
 go_wp2_with fail;refine(C.o).mono ?_
 rintro e w1 ⟨d,rfl,hq,hb⟩;have L:=aI (HY.o.keep hb);have f1:=L.o.cell 4;have f2:=L.o.frozen 4;simp only[aK,aJ,aN] at f1;have M:=aI (L.o.dQ 4 (.pointer (some ⟨d,0,none⟩)));have T:=aI ((show Touch (fun k=>k=y) w1 w1 from Touch.refl _ w1).setCell (p:=⟨y,4,none⟩) (.inl rfl) (.pointer (some ⟨d,0,none⟩)))
 have T0:=aI ((Touch.of_below (F:=fun k=>k=y) hb (aS _)).setCell (p:=⟨y,4,none⟩) (.inl rfl) (.pointer (some ⟨d,0,none⟩)))
 have HQ:=aI hq;clear hq
 go_wp2_with fail
 go_ret;exact⟨rfl,_,w1,HQ.o,hb,M.o,T.o,T0.o⟩
end
open Tryz
open Go.RowKit Go.Lib Go.Shelf
def dS(kd lo hi dg:Int)(gr:Bool)(ac sz:Int):Value:=.agg #[.int .u8 kd,.int .i64 lo,.int .i64 hi,.int .i64 dg,.bool gr,.int .i64 ac,.int .i64 sz]
theorem wO{y i:Nat}{cs:Array Value}{Q:Value->World->Prop}{w wa w1:World}{p:Value}(hy:dK w1 y 126 cs)(ha:Below w.heap.size w wa)(hb:Below wa.heap.size wa w1)(hq:Q p w1) :
 sQ y i cs Q w (.returned (.int .i64 0)) (w1.setCell ⟨y,i,none⟩ p):=by
 have hb':=ha.trans (hb.mono ha.size);exact⟨rfl,p,w1,hq,hb',hy.dQ i p,(show Touch (fun k=>k=y) w1 w1 from Touch.refl _ w1).setCell (p:=⟨y,i,none⟩) (.inl rfl) p,(Touch.of_below (F:=fun k=>k=y) hb' (aS _)).setCell (p:=⟨y,i,none⟩) (.inl rfl) p⟩
section
variable {y : Nat} {k0 p1 p2 p3 p4 : Value} {w : World} {Q : Value -> World -> Prop} {kd lo hi dg ac sz : Int} {gr : Bool}
theorem Gu(hy:dK w y 126 #[k0,p1,p2,p3,p4])(h:∀wa,Below w.heap.size w wa->aH 205 #[.int .i64 ac,.int .i64 sz] wa fun e w'=>∃d,e=.returned (.tuple #[.pointer (some ⟨d,0,none⟩),.int .i64 0])/\Q (.pointer (some ⟨d,0,none⟩)) w'/\Below wa.heap.size wa w') :
 aH 127 #[.pointer (some ⟨y,0,none⟩),dS kd lo hi dg gr ac sz] w (sQ y 2 #[k0,p1,p2,p3,p4] Q w):=by
 have C:=aI h;have HY:=aI hy;clear h hy;unfold dS;obtain⟨b,hbb⟩:=aF (w.heap.size);obtain⟨wa,g_⟩:∃z,w.alloc (.cells #[.int .u8 kd,.int .i64 lo,.int .i64 hi,.int .i64 dg,.bool gr,.int .i64 ac,.int .i64 sz] 25)=z:=⟨_,rfl⟩;have ha:Below w.heap.size w wa:=by rw[<-g_];exact bw
 have B0:dK wa b 25 #[.int .u8 kd,.int .i64 lo,.int .i64 hi,.int .i64 dg,.bool gr,.int .i64 ac,.int .i64 sz]:=by rw[<-g_,<-hbb];exact dK.new _ _ _
 have j5:=B0.cell 5;have j6:=B0.cell 6;simp only[aK,aJ,aN] at j5 j6;clear B0;have HA:=aI ha;clear ha
 go_enter func127,ntmps127
 go_wp2_with fail;refine(C.o wa HA.o).mono ?_
 rintro e w1 ⟨d,rfl,hq,hb⟩;have L:=aI ((HY.o.keep HA.o).keep hb);have f1:=L.o.cell 2;have f2:=L.o.frozen 2;simp only[aK,aJ,aN] at f1;have M:=aI (wO (i:=2) L.o HA.o hb hq);clear hq
 go_wp2_with fail
 go_ret;exact M.o
theorem vG(hy:dK w y 126 #[k0,p1,p2,p3,p4])(h:∀wa,Below w.heap.size w wa->aH 207 #[.int .i64 sz] wa fun e w'=>∃d,e=.returned (.tuple #[.pointer (some ⟨d,0,none⟩),.int .i64 0])/\Q (.pointer (some ⟨d,0,none⟩)) w'/\Below wa.heap.size wa w') :
 aH 129 #[.pointer (some ⟨y,0,none⟩),dS kd lo hi dg gr ac sz] w (sQ y 3 #[k0,p1,p2,p3,p4] Q w):=by
 have C:=aI h;have HY:=aI hy;clear h hy;unfold dS;obtain⟨b,hbb⟩:=aF (w.heap.size);obtain⟨wa,g_⟩:∃z,w.alloc (.cells #[.int .u8 kd,.int .i64 lo,.int .i64 hi,.int .i64 dg,.bool gr,.int .i64 ac,.int .i64 sz] 25)=z:=⟨_,rfl⟩;have ha:Below w.heap.size w wa:=by rw[<-g_];exact bw
 have B0:dK wa b 25 #[.int .u8 kd,.int .i64 lo,.int .i64 hi,.int .i64 dg,.bool gr,.int .i64 ac,.int .i64 sz]:=by rw[<-g_,<-hbb];exact dK.new _ _ _
 have j6:=B0.cell 6;simp only[aK,aJ,aN] at j6;clear B0;have HA:=aI ha;clear ha
 go_enter func129,ntmps129
 go_wp2_with fail;refine(C.o wa HA.o).mono ?_
 rintro e w1 ⟨d,rfl,hq,hb⟩;have L:=aI ((HY.o.keep HA.o).keep hb);have f1:=L.o.cell 3;have f2:=L.o.frozen 3;simp only[aK,aJ,aN] at f1;have M:=aI (wO (i:=3) L.o HA.o hb hq);clear hq
 go_wp2_with fail
 go_ret;exact M.o
theorem C_(hy:dK w y 126 #[k0,p1,p2,p3,p4])(h:∀wa,Below w.heap.size w wa->aH 209 #[.int .i64 sz] wa fun e w'=>∃d,e=.returned (.tuple #[.pointer (some ⟨d,0,none⟩),.int .i64 0])/\Q (.pointer (some ⟨d,0,none⟩)) w'/\Below wa.heap.size wa w') :
 aH 131 #[.pointer (some ⟨y,0,none⟩),dS kd lo hi dg gr ac sz] w (sQ y 4 #[k0,p1,p2,p3,p4] Q w):=by
 have C:=aI h;have HY:=aI hy;clear h hy;unfold dS;obtain⟨b,hbb⟩:=aF (w.heap.size);obtain⟨wa,g_⟩:∃z,w.alloc (.cells #[.int .u8 kd,.int .i64 lo,.int .i64 hi,.int .i64 dg,.bool gr,.int .i64 ac,.int .i64 sz] 25)=z:=⟨_,rfl⟩;have ha:Below w.heap.size w wa:=by rw[<-g_];exact bw
 have B0:dK wa b 25 #[.int .u8 kd,.int .i64 lo,.int .i64 hi,.int .i64 dg,.bool gr,.int .i64 ac,.int .i64 sz]:=by rw[<-g_,<-hbb];exact dK.new _ _ _
 have j6:=B0.cell 6;simp only[aK,aJ,aN] at j6;clear B0;have HA:=aI ha;clear ha
 go_enter func131,ntmps131
 go_wp2_with fail;refine(C.o wa HA.o).mono ?_
 rintro e w1 ⟨d,rfl,hq,hb⟩;have L:=aI ((HY.o.keep HA.o).keep hb);have f1:=L.o.cell 4;have f2:=L.o.frozen 4;simp only[aK,aJ,aN] at f1;have M:=aI (wO (i:=4) L.o HA.o hb hq);clear hq
 go_wp2_with fail
 go_ret;exact M.o
theorem Dc(hy:dK w y 126 #[k0,p1,p2,p3,p4])(h:∀wa,Below w.heap.size w wa->aH 200 #[.agg #[.int .i64 lo,.int .i64 hi,.int .i64 dg],.bool gr] wa fun e w'=>∃d,e=.returned (.tuple #[.pointer (some ⟨d,0,none⟩),.int .i64 0])/\Q (.pointer (some ⟨d,0,none⟩)) w'/\Below wa.heap.size wa w') :
 aH 125 #[.pointer (some ⟨y,0,none⟩),dS kd lo hi dg gr ac sz] w (sQ y 1 #[k0,p1,p2,p3,p4] Q w):=by
 have C:=aI h;have HY:=aI hy;clear h hy;unfold dS;obtain⟨b,hbb⟩:=aF (w.heap.size);obtain⟨wa,g_⟩:∃z,w.alloc (.cells #[.int .u8 kd,.int .i64 lo,.int .i64 hi,.int .i64 dg,.bool gr,.int .i64 ac,.int .i64 sz] 25)=z:=⟨_,rfl⟩;have ha:Below w.heap.size w wa:=by rw[<-g_];exact bw
 have B0:dK wa b 25 #[.int .u8 kd,.int .i64 lo,.int .i64 hi,.int .i64 dg,.bool gr,.int .i64 ac,.int .i64 sz]:=by rw[<-g_,<-hbb];exact dK.new _ _ _
 have j1:=B0.cell 1;have j2:=B0.cell 2;have j3:=B0.cell 3;have j4:=B0.cell 4;simp only[aK,aJ,aN] at j1 j2 j3 j4;clear B0;have HA:=aI ha;clear ha
 go_enter func125,ntmps125
 go_wp2_with fail;refine(C.o wa HA.o).mono ?_
 rintro e w1 ⟨d,rfl,hq,hb⟩;have L:=aI ((HY.o.keep HA.o).keep hb);have f1:=L.o.cell 1;have f2:=L.o.frozen 1;simp only[aK,aJ,aN] at f1;have M:=aI (wO (i:=1) L.o HA.o hb hq);clear hq
 go_wp2_with fail
 go_ret;exact M.o
end
open Tryz
open Go.RowKit Go.Lib Go.Shelf
section
variable {y : Nat} {p1 p2 p3 p4 : Value} {w : World} {Q : Value -> World -> Prop}
theorem Sj(hy:dK w y 126 #[.int .u8 1,p1,p2,p3,p4])(h:aH 102 #[.pointer (some ⟨y,0,none⟩)] w fun e w'=>∃v,e=.returned v/\Q v w') :
 aH 54 #[.pointer (some ⟨y,0,none⟩)] w fun e w'=>∃v,e=.returned v/\Q v w':=by
 have C:=aI h;have HY:=aI hy;clear h hy;have f0:=HY.o.cell 0;simp only[aK,aJ,aN] at f0
 go_enter func54,ntmps54
 go_wp2_with fail;refine(C.o).mono ?_
 rintro e w1 ⟨v,rfl,hq⟩;have HQ:=aI hq;clear hq
 go_wp2_with fail
 go_ret;exact⟨_,rfl,HQ.o⟩
theorem Sl(hy:dK w y 126 #[.int .u8 2,p1,p2,p3,p4])(h:aH 103 #[p2] w fun e w'=>∃v,e=.returned (.tuple #[v,.int .i64 0])/\Q v w') :
 aH 54 #[.pointer (some ⟨y,0,none⟩)] w fun e w'=>∃v,e=.returned v/\Q v w':=by
 have C:=aI h;have HY:=aI hy;clear h hy;have f0:=HY.o.cell 0;have f1:=HY.o.cell 2;simp only[aK,aJ,aN] at f0 f1
 go_enter func54,ntmps54
 go_wp2_with fail;refine(C.o).mono ?_
 rintro e w1 ⟨v,rfl,hq⟩;have HQ:=aI hq;clear hq
 go_wp2_with fail
 go_ret;exact⟨_,rfl,HQ.o⟩
theorem Sm(hy:dK w y 126 #[.int .u8 3,p1,p2,p3,p4])(h:aH 104 #[p3] w fun e w'=>∃v,e=.returned (.tuple #[v,.int .i64 0])/\Q v w') :
 aH 54 #[.pointer (some ⟨y,0,none⟩)] w fun e w'=>∃v,e=.returned v/\Q v w':=by
 have C:=aI h;have HY:=aI hy;clear h hy;have f0:=HY.o.cell 0;have f1:=HY.o.cell 3;simp only[aK,aJ,aN] at f0 f1
 go_enter func54,ntmps54
 go_wp2_with fail;refine(C.o).mono ?_
 rintro e w1 ⟨v,rfl,hq⟩;have HQ:=aI hq;clear hq
 go_wp2_with fail
 go_ret;exact⟨_,rfl,HQ.o⟩
theorem Sr(hy:dK w y 126 #[.int .u8 4,p1,p2,p3,p4])(h:aH 105 #[p4] w fun e w'=>∃v,e=.returned (.tuple #[v,.int .i64 0])/\Q v w') :
 aH 54 #[.pointer (some ⟨y,0,none⟩)] w fun e w'=>∃v,e=.returned v/\Q v w':=by
 have C:=aI h;have HY:=aI hy;clear h hy;have f0:=HY.o.cell 0;have f1:=HY.o.cell 4;simp only[aK,aJ,aN] at f0 f1
 go_enter func54,ntmps54
 go_wp2_with fail;refine(C.o).mono ?_
 rintro e w1 ⟨v,rfl,hq⟩;have HQ:=aI hq;clear hq
 go_wp2_with fail
 go_ret;exact⟨_,rfl,HQ.o⟩
theorem Xn{a n c:Value}(hy:dK w y 126 #[.int .u8 2,p1,p2,p3,p4])(h:aH 122 #[p2,a,n] w fun e w'=>∃v,e=.returned v/\Q v w') :
 aH 68 #[.pointer (some ⟨y,0,none⟩),a,n,c] w fun e w'=>∃v,e=.returned v/\Q v w':=by
 have C:=aI h;have HY:=aI hy;clear h hy;have f0:=HY.o.cell 0;have f1:=HY.o.cell 2;simp only[aK,aJ,aN] at f0 f1
 go_enter func68,ntmps68
 go_wp2_with fail;refine(C.o).mono ?_
 rintro e w1 ⟨v,rfl,hq⟩;have HQ:=aI hq;clear hq
 go_wp2_with fail
 go_ret;exact⟨_,rfl,HQ.o⟩
theorem Oc(hy:dK w y 126 #[.int .u8 1,p1,p2,p3,p4])(h:aH 55 #[p1] w fun e w'=>∃v,e=.returned v/\Q v w') :
 aH 22 #[.pointer (some ⟨y,0,none⟩)] w fun e w'=>∃v,e=.returned v/\Q v w':=by
 have hmf:∀(fn:Fn) (first cap:Array Value) (w:World),(Instr.makeFunc fn first cap).run prog w=.ok (.func fn first cap) w:=fun _ _ _ _=>rfl
 have C:=aI h;have HY:=aI hy;clear h hy;obtain⟨f0,f1⟩:=HY.o.c2
 go_enter func22,ntmps22
 go_wp2_with fail;refine(C.o).mono ?_
 rintro e w1 ⟨v,rfl,hq⟩;have HQ:=aI hq;clear hq
 go_wp2_with fail
 go_ret;exact⟨_,rfl,HQ.o⟩
theorem Oe(hy:dK w y 126 #[.int .u8 2,p1,p2,p3,p4])(h:aH 56 #[p2] w fun e w'=>∃v,e=.returned v/\Q v w') :
 aH 22 #[.pointer (some ⟨y,0,none⟩)] w fun e w'=>∃v,e=.returned v/\Q v w':=by
 have hmf:∀(fn:Fn) (first cap:Array Value) (w:World),(Instr.makeFunc fn first cap).run prog w=.ok (.func fn first cap) w:=fun _ _ _ _=>rfl
 have C:=aI h;have HY:=aI hy;clear h hy;have f0:=HY.o.cell 0;have f1:=HY.o.cell 2;simp only[aK,aJ,aN] at f0 f1
 go_enter func22,ntmps22
 go_wp2_with fail;refine(C.o).mono ?_
 rintro e w1 ⟨v,rfl,hq⟩;have HQ:=aI hq;clear hq
 go_wp2_with fail
 go_ret;exact⟨_,rfl,HQ.o⟩
theorem Og(hy:dK w y 126 #[.int .u8 3,p1,p2,p3,p4])(h:aH 57 #[p3] w fun e w'=>∃v,e=.returned v/\Q v w') :
 aH 22 #[.pointer (some ⟨y,0,none⟩)] w fun e w'=>∃v,e=.returned v/\Q v w':=by
 have hmf:∀(fn:Fn) (first cap:Array Value) (w:World),(Instr.makeFunc fn first cap).run prog w=.ok (.func fn first cap) w:=fun _ _ _ _=>rfl
 have C:=aI h;have HY:=aI hy;clear h hy;have f0:=HY.o.cell 0;have f1:=HY.o.cell 3;simp only[aK,aJ,aN] at f0 f1
 go_enter func22,ntmps22
 go_wp2_with fail;refine(C.o).mono ?_
 rintro e w1 ⟨v,rfl,hq⟩;have HQ:=aI hq;clear hq
 go_wp2_with fail
 go_ret;exact⟨_,rfl,HQ.o⟩
theorem Oh(hy:dK w y 126 #[.int .u8 4,p1,p2,p3,p4])(h:aH 58 #[p4] w fun e w'=>∃v,e=.returned v/\Q v w') :
 aH 22 #[.pointer (some ⟨y,0,none⟩)] w fun e w'=>∃v,e=.returned v/\Q v w':=by
 have hmf:∀(fn:Fn) (first cap:Array Value) (w:World),(Instr.makeFunc fn first cap).run prog w=.ok (.func fn first cap) w:=fun _ _ _ _=>rfl
 have C:=aI h;have HY:=aI hy;clear h hy;have f0:=HY.o.cell 0;have f1:=HY.o.cell 4;simp only[aK,aJ,aN] at f0 f1
 go_enter func22,ntmps22
 go_wp2_with fail;refine(C.o).mono ?_
 rintro e w1 ⟨v,rfl,hq⟩;have HQ:=aI hq;clear hq
 go_wp2_with fail
 go_ret;exact⟨_,rfl,HQ.o⟩
end
end Go.Proofs.YtilcnjbpmoijmaaGreat.D
