/- Parts of a proof. No condition. -/
import Derived.Test.YtilcnjbpmoijmaaGreatPw50
set_option maxRecDepth 100000
set_option maxHeartbeats 16000000
set_option linter.unusedVariables false
set_option linter.unusedSimpArgs false
namespace Go.Proofs.YtilcnjbpmoijmaaGreat.D
open Tryz
open Go.RowKit Go.Lib Go.Shelf
open Tryz
open Go.RowKit Go.Lib Go.Shelf
variable{sp:fG}{s:Wn}{N x y:Nat}{F G:Ft}{w w0:World}
theorem YI(sp:fG)(s:Wn):oP sp s 0=0/\oP sp s (-3)=0/\oP sp s (s.L.length+1)=0:=by
 unfold oP;refine⟨?_,?_,?_⟩
 ·rw[if_neg ae];rfl
 ·rw[if_neg ae];rfl
 ·rw[if_pos ae]
theorem z_{kd lo hi dg ac sz:Int}{gr:Bool}(hv:sp.v=dS kd lo hi dg gr ac sz)(hcs:sp.cs=[.int .u8 kd,.int .i64 lo,.int .i64 hi,.int .i64 dg,.bool gr,.int .i64 ac,.int .i64 sz])(w:World)(h:gQ sp s x F w)(h2:yD sp s y G w)(ok:rQ sp N s) :
 aH 13 #[.pointer (some ⟨x,0,none⟩),.pointer (some ⟨y,0,none⟩)] w (aG w (.bool true)):=by
 obtain⟨a0,C,v,ps,Ow,G1,h1,hL,_⟩:=h;obtain⟨u,rs,Or,G3,r1,_⟩:=h2;have hN:s.L.length=N:=ok.len;have hC:C.length=N:=by rw[<-hN,hL,fB]
 have h60:N<=60:=by rw[<-hN];exact r1.n60
 have hpos:0<N:=by rw[<-hN];exact r1.pos
 have XS:=aI (fun W (hb:Below w.heap.size w W)=>ai8 W (h1.keep hb))
 have XL:=aI (fun W (hb:Below w.heap.size w W)=>YA W (h1.keep hb))
 have XN:=aI (fun W (hb:Below w.heap.size w W)=>VQ W (h1.keep hb))
 have XX:=aI (fun W (hb:Below w.heap.size w W) a (ha:a<N)=>ai9 a W (h1.keep hb) hL ok.each ae)
 have XB:=aI (fun W (hb:Below w.heap.size w W) (a:Int) (ha:a<0\/(N:Int)<=a)=>Qc a W (h1.keep hb) ae)
 have XT:=aI (fun W (hb:Below w.heap.size w W) (a:Int)=>JQ a W (h1.keep hb) hL ok.each)
 have XY:=aI (fun W (hb:Below w.heap.size w W) a (ha:a<s.L.length)=>aj2 W ((r1.keep hb).js ha) (ok.at_ ha))
 have XU:=aI (fun W (hb:Below w.heap.size w W) (a:Int)=>Ur a W (r1.keep hb) ok.each)
 obtain⟨g3,c3,rfl,hg3,_,_,_,_,ay7⟩:=r1.ring.pos r1.pos;have RCL:=aI ay7;have hB:=r1.blk;have ly:=hB.lt;rw[hcs] at hB;have f0:=hB.cell 0;have f1:=hB.cell 1;have f2:=hB.cell 2;have f3:=hB.cell 3;have f4:=hB.cell 4;have f5:=hB.cell 5;have f6:=hB.cell 6;simp only[List.cons_append,List.nil_append,aK,aJ,aN] at f0 f1 f2 f3 f4 f5 f6;have f7:w.cell? ⟨y,7,none⟩=_:=r1.c7;have f8:w.cell? ⟨y,8,none⟩=_:=r1.c8;rw[hN] at f7;have FF:=aI (aP f0 (aP f1 (aP f2 (aP f3 (aP f4 (aP f5 (aP f6 (aP f7 f8))))))));rw[hv] at XS;unfold dS at XS;rw[hC] at XL;have HN:=aI hN;have ZT:=YI sp s;rw[hN] at ZT;have HZT:=aI ZT;obtain⟨nw,hnw⟩:∃q:Int,(s.now:Int)=q:=⟨_,rfl⟩;rw[hnw] at XN FF;have hnn:(nw == nw)=true:=ag
 have hNN:((N:Int) == (N:Int))=true:=ag
 clear h1 r1 hL hB hv hcs ok ay7 hnw f0 f1 f2 f3 f4 f5 f6 f7 f8 hN hC ZT
 go_enter func13,ntmps13
 go_upto_region 1 with fail;have mW:=aI (fun(w':World) (hS':Below w.heap.size w w')=>(aP ((hS'.cell (p:=⟨y,0,none⟩) ly).trans FF.o.1) (aP ((hS'.cell (p:=⟨y,1,none⟩) ly).trans FF.o.2.1) (aP ((hS'.cell (p:=⟨y,2,none⟩) ly).trans FF.o.2.2.1) (aP ((hS'.cell (p:=⟨y,3,none⟩) ly).trans FF.o.2.2.2.1) (aP ((hS'.cell (p:=⟨y,4,none⟩) ly).trans FF.o.2.2.2.2.1) (aP ((hS'.cell (p:=⟨y,5,none⟩) ly).trans FF.o.2.2.2.2.2.1) (aP ((hS'.cell (p:=⟨y,6,none⟩) ly).trans FF.o.2.2.2.2.2.2.1) (aP ((hS'.cell (p:=⟨y,7,none⟩) ly).trans FF.o.2.2.2.2.2.2.2.1) ((hS'.cell (p:=⟨y,8,none⟩) ly).trans FF.o.2.2.2.2.2.2.2.2))))))))))
 refine jh (fun w'=>Below w.heap.size w w') (dV 0 1 (dV 2 4 (fJ 1 (dV 6 3 (dV 10 5 (fJ 9 (dV 15 4 (dV 20 4 (fJ 19 (dV 24 2 [])))))))))) ((aO _ _).drew) ?_
 iterate 5 refine eQ ?_
 refine fO fun K hK=>?_
 go_simp;refine(XS.o _ (aO _ _).drew).mono ?_
 rintro e w1 ⟨rfl,hb1⟩;have B1:Below w.heap.size w w1:=(aO _ _).drew.trans hb1;refine hK _ _ (B1) ?_
 clear hK K
 iterate 8 refine eQ ?_
 refine fO fun K hK=>?_
 go_simp;refine(XL.o w1 B1).mono ?_
 rintro e w2 ⟨rfl,rfl⟩;refine hK _ _ (B1) ?_
 clear hK K
 iterate 8 refine eQ ?_
 refine fO fun K hK=>?_
 go_simp;refine(XN.o w1 B1).mono ?_
 rintro e w2 ⟨rfl,rfl⟩;refine hK _ _ (B1) ?_
 clear hK K
 iterate 2 refine eQ ?_
 refine dJ ?_
 try refine dR ?_
 have HB1:=aI B1;clear B1 hb1
 go_wp2_with fail
 go_loopg [5,6,7] N (fun q t5 _ _ wr=>∃i:Nat,q=N - i/\i<=N/\t5=.int .i64 (i:Int)/\Hid (Below w.heap.size w wr))
 case atStart=>exact⟨0,ae,ae,rfl,HB1⟩
 case round=>
  obtain⟨i,hq,hi,rfl,HB⟩:=hrel;have HQ:=aI hq;clear hq;have y7:wr.cell? ⟨y,7,none⟩=_:=(HB.o.cell (p:=⟨y,7,none⟩) ly).trans FF.o.2.2.2.2.2.2.2.1
  by_cases hlt:i<N
  ·have hli:(i:Int)<(N:Int):=ae
   have hiL:i<s.L.length:=by rw[HN.o];exact hlt
   have CG:Hid (w.cell? ⟨g3,i,none⟩=some (.pointer (some ⟨rs.getD i 0,0,none⟩))):=aI (RCL.o i hiL);have X1:=aI (fun W hb=>XX.o W hb i hlt)
   have X2:=aI (fun W hb=>XY.o W hb i hiL)
   have X3:=aI (fun W hb=>XT.o W hb ((i:Int)+1))
   have X4:=aI (fun W hb=>XU.o W hb ((i:Int)+1))
   obtain⟨tt,htt⟩:∃q,oP sp s ((i:Int)+1)=q:=⟨_,rfl⟩;obtain⟨tx,htx⟩:∃q,vU sp (s.L.getD i sp.new)=q:=⟨_,rfl⟩;rw[htt] at X3 X4;rw[htx] at X1 X2;obtain⟨st,hst⟩:∃q,strOfNums tx=q:=⟨_,rfl⟩;have HST:=aI hst;have ck7:(tt == tt)=true:=ag
   have HW1:Hid (IntKind.i64.wrap ((i:Int)+1)=(i:Int)+1):=aI ak
   clear htt htx hst;generalize rs.getD i 0=yi at *
   go_wp2_with fail;refine(X1.o wr HB.o).mono ?_
   rintro e w5 ⟨u5,rfl,o5,hb5⟩;have lL:Hid (Below w.heap.size w w5):=aI (HB.o.trans (hb5.mono HB.o.size));have O5:Hid (iY .u8 w5 u5 tx):=aI (dP.rd o5);clear o5 hb5 y7
   go_upto_region 7 with fail;refine jh (fun w'=>Below w5.heap.size w5 w') (dV 0 12 (fJ 12 (fJ 13 (dV 14 6 (dV 21 3 (fJ 20 (fJ 24 (dV 25 2 [])))))))) ((aO _ _).drew) ?_
   iterate 12 refine eQ (h:=fun w' hS'=>by have hw1:=HW1.o;have ca:=LZ (iY.keep O5.o hS');rw[HST.o] at ca;have y7:=((lL.o.trans (hS'.mono lL.o.size)).cell (p:=⟨y,7,none⟩) ly).trans FF.o.2.2.2.2.2.2.2.1;have cg:=((lL.o.trans (hS'.mono lL.o.size)).cell (p:=⟨g3,i,none⟩) hg3).trans CG.o;go_simp;exact⟨rfl,rfl⟩) ?_
   refine fO fun K hK=>?_
   go_simp;refine(X2.o _ lL.o.drew).mono ?_
   rintro e w6 ⟨v6,rfl,o6,hb6⟩;have B6:Below w5.heap.size w5 w6:=(aO _ _).drew.trans hb6;have BW6:Below w.heap.size w w6:=lL.o.trans (B6.mono lL.o.size);have cb:=LZ (dP.rd o6);rw[HST.o] at cb;refine hK _ _ (B6) ?_
   clear hK K;refine fO fun K hK=>?_
   go_simp;refine hK _ _ (B6) ?_
   clear hK K
   iterate 9 refine eQ (h:=fun w' hS'=>by have hw1:=HW1.o;have ca:=LZ (iY.keep O5.o hS');rw[HST.o] at ca;have y7:=((lL.o.trans (hS'.mono lL.o.size)).cell (p:=⟨y,7,none⟩) ly).trans FF.o.2.2.2.2.2.2.2.1;have cg:=((lL.o.trans (hS'.mono lL.o.size)).cell (p:=⟨g3,i,none⟩) hg3).trans CG.o;go_simp;exact⟨rfl,rfl⟩) ?_
   refine fO fun K hK=>?_
   go_simp;refine(X3.o w6 BW6).mono ?_
   rintro e w7 ⟨rfl,hb7⟩;have B7:Below w5.heap.size w5 w7:=B6.trans (hb7.mono B6.size);have BW7:Below w.heap.size w w7:=lL.o.trans (B7.mono lL.o.size);refine hK _ _ (B7) ?_
   clear hK K;refine fO fun K hK=>?_
   go_simp;refine(X4.o w7 BW7).mono ?_
   rintro e w8 ⟨rfl,hb8⟩;have B8:Below w5.heap.size w5 w8:=B7.trans (hb8.mono B7.size);refine hK _ _ (B8) ?_
   clear hK K
   iterate 2 refine eQ (h:=fun w' hS'=>by have hw1:=HW1.o;have ca:=LZ (iY.keep O5.o hS');rw[HST.o] at ca;have y7:=((lL.o.trans (hS'.mono lL.o.size)).cell (p:=⟨y,7,none⟩) ly).trans FF.o.2.2.2.2.2.2.2.1;have cg:=((lL.o.trans (hS'.mono lL.o.size)).cell (p:=⟨g3,i,none⟩) hg3).trans CG.o;go_simp;exact⟨rfl,rfl⟩) ?_
   refine dJ ?_
   try refine dR ?_
   have Ir:Hid (Below w.heap.size w w8):=aI (lL.o.trans (B8.mono lL.o.size));clear B6 B7 B8 BW6 BW7 cb hb6 hb7 hb8 o6
   go_wp2_with fail
   go_roundg (N - (i+1))
   case measure=>have:=HQ.o;omega
   case rel=>exact⟨i+1,rfl,ae,ai,Ir⟩
  ·have hli:¬((i:Int)<(N:Int)):=ae
   have X0:=aI (fun W hb=>XT.o W hb 0)
   have X3:=aI (fun W hb=>XT.o W hb (-3))
   have XE:=aI (fun W hb=>XT.o W hb ((N:Int)+1))
   rw[HZT.o.1] at X0;rw[HZT.o.2.1] at X3;rw[HZT.o.2.2] at XE;have hw1:IntKind.i64.wrap ((N:Int)+1)=(N:Int)+1:=ak
   go_wp2_with fail;refine(XB.o wr HB.o (-1) (.inl ae)).mono ?_
   rintro e w5 ⟨rfl,hb5⟩;have lL:Hid (Below w.heap.size w w5):=aI (HB.o.trans (hb5.mono HB.o.size));clear y7;have y7:w5.cell? ⟨y,7,none⟩=_:=(lL.o.cell (p:=⟨y,7,none⟩) ly).trans FF.o.2.2.2.2.2.2.2.1
   go_wp2_with fail;refine(XB.o w5 lL.o N (.inr ae)).mono ?_
   rintro e w6 ⟨rfl,hb6⟩;have ZR:Hid (Below w.heap.size w w6):=aI (lL.o.trans (hb6.mono lL.o.size));clear y7
   go_wp2_with fail;refine(X0.o w6 ZR.o).mono ?_
   rintro e w7 ⟨rfl,hb7⟩;have AZ:Hid (Below w.heap.size w w7):=aI (ZR.o.trans (hb7.mono ZR.o.size))
   go_wp2_with fail;refine(X3.o w7 AZ.o).mono ?_
   rintro e w8 ⟨rfl,hb8⟩;have Ir:Hid (Below w.heap.size w w8):=aI (AZ.o.trans (hb8.mono AZ.o.size));have y7:w8.cell? ⟨y,7,none⟩=_:=(Ir.o.cell (p:=⟨y,7,none⟩) ly).trans FF.o.2.2.2.2.2.2.2.1
   go_wp2_with fail;refine(XE.o w8 Ir.o).mono ?_
   rintro e w9 ⟨rfl,KZ⟩;have HB9:Hid (Below w.heap.size w w9):=aI (Ir.o.trans (KZ.mono Ir.o.size))
   go_wp2_with fail;refine bodyPost_ret (by simp[results,Tryz.results13,go_sem, *];try rfl) rfl ?_
   exact⟨by simp,HB9.o⟩
theorem Uz(w:World)(h:gQ sp s x F w)(h2:yD sp s y G w)(ok:rQ sp N s) :
 aH 13 #[.pointer (some ⟨x,0,none⟩),.pointer (some ⟨y,0,none⟩)] w (aG w (.bool true)):=by
 cases sp with
 | h lo hi dg u m gr=>exact z_ rfl rfl w h h2 ok
 | d a m=>exact z_ rfl rfl w h h2 ok
 | t d=>exact z_ rfl rfl w h h2 ok
 | k q=>exact z_ rfl rfl w h h2 ok
open Tryz
open Go.RowKit Go.Lib Go.Shelf
open Tryz
open Go.RowKit Go.Lib Go.Shelf
def DJ:fG:=.d 500 50
theorem ML:jG DJ:=by unfold DJ jG;decide
def qp(w0:World)(s:Wn)(x:Nat)(w:World):Prop:=(∃F,gQ DJ s x F w/\∀k,F k->w0.heap.size<=k)/\rQ DJ 3 s/\Below w0.heap.size w0 w
theorem qp.next{w':World}{s':Wn}(hF:∀k,F k->w0.heap.size<=k)(hb:Below w0.heap.size w0 w)(h:gQ DJ s' x (Gr F w w') w')(ok:rQ DJ 3 s')(ht:Touch F w w'):qp w0 s' x w':=by
 have hz:=hb.size;exact⟨⟨_,h,fun k e=>e.elim (hF k) (fun e2=>by omega)⟩,ok,hb.trans (ht.below hF hz)⟩
theorem ak6(v n:Nat)(h:qp w0 s x w)(hv:v<=100)(hn:n<=100):aH 31 #[.pointer (some ⟨x,0,none⟩),.int .i64 v,.int .u64 n,.pointer none] w fun e w'=>e=.returned (.int .i64 (PV DJ s v n))/\qp w0 (JM DJ [] v n s 0) x w':=by
 obtain⟨⟨F,h1,hF⟩,ok,hb⟩:=h;refine(Ui v n w h1 ok.each (jf.nil_ w) (fun k e=>e.elim) (fun w2 {_ _ _} h2 h3 h4 h5=>ai5 (ac:=500) (m:=50) v n w2 h2 h3 h4 h5 ae  ae  ae  ae)).mono ?_
 rintro e w' ⟨rfl,h2,_,h4⟩;exact⟨rfl,qp.next hF hb h2 (ah7 ok af trivial ae  ae  ae  ae) (h4.mono fun k e=>e.elim id (fun f=>f.elim))⟩
theorem MN(n:Nat)(h:qp w0 s x w)(hn:n<=100):aH 32 #[.pointer (some ⟨x,0,none⟩),.int .u64 n] w fun e w'=>e=.returned (.tuple #[])/\qp w0 (xG DJ n s) x w':=by
 obtain⟨⟨F,h1,hF⟩,ok,hb⟩:=h;refine(Qd n w ML h1 ok.now ae).mono ?_
 rintro e w' ⟨rfl,h2,h4⟩;exact⟨rfl,qp.next hF hb h2 (PX ML ok af) h4⟩
theorem Ad(n:Nat)(h:qp w0 s x w):aH 26 #[.pointer (some ⟨x,0,none⟩),.int .i64 n] w fun e w'=>e=.returned (.int .u64 (oP DJ s n))/\qp w0 s x w':=by
 obtain⟨⟨F,h1,hF⟩,ok,hb⟩:=h;have h9:=h1;obtain⟨a0,C,v,ps,Ow,G1,h2,hL,_⟩:=h1;refine(JQ n w h2 hL ok.each).mono ?_
 rintro e w' ⟨rfl,h3⟩;exact⟨rfl,⟨F,(jw DJ s x).keep h9 h3,hF⟩,ok,hb.trans (h3.mono hb.size)⟩
theorem bj4(h:qp w0 s x w):aH 33 #[.pointer (some ⟨x,0,none⟩)] w fun e w'=>e=.returned (.int .u64 s.now)/\w=w':=by
 obtain⟨⟨F,h1,hF⟩,ok,hb⟩:=h;obtain⟨a0,C,v,ps,Ow,G1,h2,hL,_⟩:=h1;exact VQ w h2
def al0:Wn:=kV DJ 3
def al1:Wn:=JM DJ [] (7:Nat) (1:Nat) al0 0
def al2:Wn:=xG DJ 1 al1
def al3:Wn:=JM DJ [] (9:Nat) (2:Nat) al2 0
def al4:Wn:=xG DJ 2 al3
def al5:Wn:=xG DJ 1 al4
theorem ak7:PV DJ al0 (7:Nat) (1:Nat)=0/\PV DJ al2 (9:Nat) (2:Nat)=0/\oP DJ al3 (1:Nat)=2/\oP DJ al3 (2:Nat)=3/\oP DJ al4 (3:Nat)=2/\oP DJ al5 (3:Nat)=0/\al5.now=4:=by
 refine⟨by decide +kernel,au,au,au,au,au,au⟩
theorem Qw(w:World):aH 8 #[] w (aG w (.bool true)):=by
 have C0:=aI (VS 3 w ML af  af)
 obtain⟨f1,f2,f3,f4,f5,f6,f7⟩:=ak7;have C1:=aI (fun W x (h:qp w al0 x W)=>f1▸ak6 7 1 h af  af)
 have C2:=aI (fun W x (h:qp w al1 x W)=>MN 1 h af)
 have C3:=aI (fun W x (h:qp w al2 x W)=>f2▸ak6 9 2 h af  af)
 have C4:=aI (fun W x (h:qp w al3 x W)=>f3▸Ad 1 h)
 have C5:=aI (fun W x (h:qp w al3 x W)=>f4▸Ad 2 h)
 have C6:=aI (fun W x (h:qp w al3 x W)=>MN 2 h af)
 have C7:=aI (fun W x (h:qp w al4 x W)=>f5▸Ad 3 h)
 have C8:=aI (fun W x (h:qp w al4 x W)=>MN 1 h af)
 have C9:=aI (fun W x (h:qp w al5 x W)=>f6▸Ad 3 h)
 have CA:=aI (fun W x (h:qp w al5 x W)=>f7▸bj4 h)
 have hst:Hid (∀x W,gQ DJ (kV DJ 3) x (Gr (fun _=>False) w W) W->Below w.heap.size w W->qp w al0 x W):=aI (fun x W h hb=>⟨⟨_,h,fun k e=>e.elim False.elim And.left⟩,LY ML,hb⟩)
 unfold DJ fG.v dS at C0;clear f1 f2 f3 f4 f5 f6 f7
 go_enter func8,ntmps8
 go_wp2_with fail;refine(C0.o).mono ?_
 rintro e w1 ⟨x,rfl,h1,hb1⟩;have A0:=aI (hst.o x w1 h1 hb1);clear h1 hb1 C0 hst
 go_wp2_with fail;refine(C1.o w1 x A0.o).mono ?_
 rintro e w2 ⟨rfl,h⟩;have A1:=aI h;clear h C1 A0
 go_wp2_with fail;refine(C2.o w2 x A1.o).mono ?_
 rintro e w3 ⟨rfl,h⟩;have A2:=aI h;clear h C2 A1
 go_wp2_with fail;refine(C3.o w3 x A2.o).mono ?_
 rintro e w4 ⟨rfl,h⟩;have A3:=aI h;clear h C3 A2
 go_wp2_with fail;refine(C4.o w4 x A3.o).mono ?_
 rintro e w5 ⟨rfl,h⟩;have A4:=aI h;clear h C4 A3
 go_wp2_with fail;refine(C5.o w5 x A4.o).mono ?_
 rintro e w6 ⟨rfl,h⟩;have A5:=aI h;clear h C5 A4
 go_wp2_with fail;refine(C6.o w6 x A5.o).mono ?_
 rintro e w7 ⟨rfl,h⟩;have A6:=aI h;clear h C6 A5
 go_wp2_with fail;refine(C7.o w7 x A6.o).mono ?_
 rintro e w8 ⟨rfl,h⟩;have A7:=aI h;clear h C7 A6
 go_wp2_with fail;refine(C8.o w8 x A7.o).mono ?_
 rintro e w9 ⟨rfl,h⟩;have A8:=aI h;clear h C8 A7
 go_wp2_with fail;refine(C9.o w9 x A8.o).mono ?_
 rintro e wa ⟨rfl,h⟩;have A9:=aI h;clear h C9 A8
 go_wp2_with fail;refine(CA.o wa x A9.o).mono ?_
 rintro e wb ⟨rfl,rfl⟩
 go_wp2_with fail;refine bodyPost_ret (by simp[results,Tryz.results8,go_sem, *];try rfl) rfl ?_
 exact⟨rfl,A9.o.2.2⟩
open Tryz
open Go.RowKit Go.Lib Go.Shelf
def Qx(b:Bool)(P:Prop):Prop:=b=true<->P
theorem ay8(k1 l1 h1 d1 a1 s1 k2 l2 h2 d2 a2 s2:Int)(g1 g2:Bool)(n m:Int)(W:World)(b0:-9223372036854775808<=h1)(b1:h1<=9223372036854775807)(c0:-9223372036854775808<=h2)(c1:h2<=9223372036854775807) :
 aH 3 #[dS k1 l1 h1 d1 g1 a1 s1,dS k2 l2 h2 d2 g2 a2 s2,.int .i64 n,.int .i64 m] W fun e W'=>e=.returned (.bool true)/\Below W.heap.size W W':=by
 have M1:=aI (fun w=>DI k1 l1 h1 d1 a1 s1 n g1 w b0 b1)
 have M2:=aI (fun w=>DI k2 l2 h2 d2 a2 s2 m g2 w c0 c1)
 have R1:=aI (fun w=>vY k1 l1 h1 d1 a1 s1 g1 w b0 b1)
 have Q1:=aI (fun w=>zY k1 l1 h1 d1 a1 s1 n g1 w b0 b1)
 have Q2:=aI (fun w=>zY k2 l2 h2 d2 a2 s2 m g2 w c0 c1)
 have HSV:Hid (∀(sp tp:fG),sp.v=dS k1 l1 h1 d1 g1 a1 s1->tp.v=dS k2 l2 h2 d2 g2 a2 s2->(sp.v=tp.v<->k1=k2/\l1=l2/\h1=h2/\d1=d2/\g1=g2/\a1=a2/\s1=s2)):=aI (fun sp tp e1 e2=>by rw[e1,e2];unfold dS;simp)
 unfold dS at M1 M2 R1 Q1 Q2 |-;obtain⟨b,hbb⟩:=aF (W.heap.size);obtain⟨w1,hw1⟩:∃q,(W.alloc (.cells #[.int .u8 k1,.int .i64 l1,.int .i64 h1,.int .i64 d1,.bool g1,.int .i64 a1,.int .i64 s1] 25)).alloc (.cells #[.int .u8 k2,.int .i64 l2,.int .i64 h2,.int .i64 d2,.bool g2,.int .i64 a2,.int .i64 s2] 25)=q:=⟨_,rfl⟩;have hb1:Below W.heap.size W w1:=by rw[<-hw1];exact bw
 have X1:dK w1 b 25 #[.int .u8 k1,.int .i64 l1,.int .i64 h1,.int .i64 d1,.bool g1,.int .i64 a1,.int .i64 s1]:=by rw[<-hw1,<-hbb];exact(dK.new _ _ _).alloc _
 have X2:dK w1 (b+1) 25 #[.int .u8 k2,.int .i64 l2,.int .i64 h2,.int .i64 d2,.bool g2,.int .i64 a2,.int .i64 s2]:=by
  have h:=dK.new (W.alloc (.cells #[.int .u8 k1,.int .i64 l1,.int .i64 h1,.int .i64 d1,.bool g1,.int .i64 a1,.int .i64 s1] 25)) 25 #[.int .u8 k2,.int .i64 l2,.int .i64 h2,.int .i64 d2,.bool g2,.int .i64 a2,.int .i64 s2];rw[hw1,aV,hbb] at h;exact h
 have HX:=aI (aP X1 X2);have CA:=aI (Qw w1);have HB1:=aI hb1;have hz1:w1.heap.size=b+2:=by rw[<-hw1,aV,aV,hbb]
 have HZ1:=aI (aP hz1 hbb);clear X1 X2 b0 b1 c0 c1 hb1
 go_enter func3,ntmps3
 go_upto_region 1 with fail;try rw[hw1]
 clear hw1 hz1 hbb
 go_wp2_with fail;refine(CA.o).mono ?_
 rintro e w2 ⟨rfl,hb2⟩;have HY:=aI (aP (HX.o.1.keep hb2) (HX.o.2.keep hb2));have HB2:=aI (HB1.o.trans (hb2.mono HB1.o.size));have hz2:=hb2.size;have HZ2:=aI hz2;clear hb2 CA HX hz2;obtain⟨f0,f1,f2,f3,f4,f5,f6⟩:=HY.o.1.c7
 go_upto_region 4 with fail;refine(M1.o w2).mono ?_
 rintro e w3 ⟨p1,e1,rfl,hn1,hb3⟩;have PH:=aI hn1;have HY3:=aI (aP (HY.o.1.keep hb3) (HY.o.2.keep hb3));have HB3:=aI (HB2.o.trans (hb3.mono HB2.o.size));have HQ3:=aI hb3;clear hb3 hn1 f0 f1 f2 f3 f4 f5 f6;obtain⟨f0,f1,f2,f3,f4,f5,f6⟩:=HY3.o.2.c7
 go_upto_region 5 with fail;refine(M2.o w3).mono ?_
 rintro e w4 ⟨p2,e2,rfl,hn2,hb4⟩;have KX:=aI hn2;have HY4:=aI (aP (HY3.o.1.keep hb4) (HY3.o.2.keep hb4));have HB4:=aI (HB3.o.trans (hb4.mono HB3.o.size));have HQ4:=aI hb4;clear hb4 hn2 f0 f1 f2 f3 f4 f5 f6
 go_upto_region 5 with fail
 go_cut [13] (fun x wx=>∃mb:Bool,x=.bool mb/\Hid (Qx mb (xH k1 l1 h1 d1 g1 a1 s1 n))/\Hid (Below w4.heap.size w4 wx))
 case first=>
  obtain⟨f0,f1,f2,f3,f4,f5,f6⟩:=HY4.o.1.c7
  go_wp2_with fail;refine(R1.o w4).mono ?_
  rintro e w5 ⟨⟨rb,rfl,hrb⟩,hb5⟩;have lL:=aI hb5;clear hb5 f0 f1 f2 f3 f4 f5 f6
  by_cases hs:kX k1 l1 h1 d1 g1 a1 s1
  ·obtain rfl:rb=true:=hrb.2 hs
   have HS:=aI hs;clear hrb hs
   by_cases hn1:n>=1
   ·by_cases hn2:n<=60
    ·have HT:Hid (Qx true (xH k1 l1 h1 d1 g1 a1 s1 n)):=aI ⟨fun _=>⟨HS.o,hn1,hn2⟩,fun _=>rfl⟩
     go_wp2_with fail
     go_meet
     exact⟨true,rfl,HT,lL⟩
    ·have HT:Hid (Qx false (xH k1 l1 h1 d1 g1 a1 s1 n)):=aI ⟨fun e=>(by cases e),fun h=>absurd h.2.2 hn2⟩
     have hd:decide (n<=60)=false:=decide_eq_false hn2
     go_wp2_with fail
     go_meet
     exact⟨false,rfl,HT,lL⟩
   ·have HT:Hid (Qx false (xH k1 l1 h1 d1 g1 a1 s1 n)):=aI ⟨fun e=>(by cases e),fun h=>absurd h.2.1 hn1⟩
    have hd:decide (n>=1)=false:=decide_eq_false hn1
    go_wp2_with fail
    go_meet
    exact⟨false,rfl,HT,lL⟩
  ·obtain rfl:rb=false:=by
    cases rb with
    | false=>rfl
    | true=>exact absurd (hrb.1 rfl) hs
   have HT:Hid (Qx false (xH k1 l1 h1 d1 g1 a1 s1 n)):=aI ⟨fun e=>(by cases e),fun h=>absurd h.1 hs⟩
   clear hrb hs
   go_wp2_with fail
   go_meet
   exact⟨false,rfl,HT,lL⟩
 case rest=>
 obtain⟨mb,rfl,HMB,lL⟩:=hcut;have La:=aI (HB4.o.trans (lL.o.mono HB4.o.size))
 by_cases hbig:n > 6\/m > 6
 ·rcases PH.o with⟨sp,x,m1,ok,hv,rfl,h5,h6,rfl,rfl,hw⟩|⟨hno,rfl,rfl⟩
  ·obtain rfl:mb=true:=HMB.o.2 ⟨⟨sp,ok,hv⟩,ae,ae⟩
   clear hw hv ok
   by_cases hn6:(m1:Int) > 6
   ·go_wp2_with fail
    refine bodyPost_ret (by simp[results,Tryz.results3,go_sem, *];try rfl) rfl ?_
    exact⟨rfl,La.o⟩
   ·have hm6:m > 6:=ae
    go_wp2_with fail;refine bodyPost_ret (by simp[results,Tryz.results3,go_sem, *];try rfl) rfl ?_
    exact⟨rfl,La.o⟩
  ·obtain rfl:mb=false:=by cases mb;rfl;exact absurd (HMB.o.1 rfl) hno
   clear hno
   by_cases hn6:n > 6
   ·go_wp2_with fail
    refine bodyPost_ret (by simp[results,Tryz.results3,go_sem, *];try rfl) rfl ?_
    exact⟨rfl,La.o⟩
   ·have hm6:m > 6:=ae
    go_wp2_with fail;refine bodyPost_ret (by simp[results,Tryz.results3,go_sem, *];try rfl) rfl ?_
    exact⟨rfl,La.o⟩
 have hn6:¬n > 6:=ae
 have hm6:¬m > 6:=ae
 clear hbig;have HY5:=aI (aP (HY4.o.1.keep lL.o) (HY4.o.2.keep lL.o));have Bd:Below wc.heap.size wc wc.drew:=(aO _ _).drew
 go_upto_region 8 with fail;have mW:=aI (fun(w':World) (hS':(Below wc.heap.size wc) w')=>(aP ((HY5.o.1.keep hS').c7) ((HY5.o.2.keep hS').c7)))
 refine jh (Below wc.heap.size wc) (dV 0 2 (dV 3 2 (fJ 2 (fJ 5 (dV 6 2 []))))) (Bd) ?_
 iterate 4 refine eQ ?_
 refine fO fun K hK=>?_
 go_simp;refine(Q1.o _).mono ?_
 rintro e u1 ⟨q1,rfl,hq1,hc1⟩;have B1:Below wc.heap.size wc u1:=Bd.trans hc1;have HQ1:=aI hq1;have HC1:=aI hc1;clear hq1;refine hK _ _ (B1) ?_
 clear hK K;refine fO fun K hK=>?_
 go_simp;refine(Q2.o _).mono ?_
 rintro e u2 ⟨q2,rfl,hq2,hc2⟩;have B2:Below wc.heap.size wc u2:=B1.trans (hc2.mono B1.size);have Cf:=aI hq2;have HC2:=aI hc2;clear hq2;refine hK _ _ (B2) ?_
 clear hK K
 iterate 2 refine eQ ?_
 refine dJ ?_
 try refine dR ?_
 have HBE:=aI (La.o.trans (B2.mono La.o.size));have HY6:=aI (aP (HY5.o.1.keep B2) (HY5.o.2.keep B2));have HBC:=aI (HQ4.o.trans ((lL.o.trans (B2.mono lL.o.size)).mono HQ4.o.size));have cd7:=aI (lL.o.trans (B2.mono lL.o.size));have hsz:=B1.size;have HSZ:=aI hsz;clear Bd B1 B2 hc1 hc2 hsz
 rcases PH.o with⟨sp,x,m1,ok,hv,rfl,h5,h6,rfl,rfl,hw⟩|⟨hno,rfl,rfl⟩
 ·rcases HQ1.o with⟨sp',v,m1',ok',hv',hm',h5',h6',rfl,hr⟩|⟨hno',rfl⟩
  ·obtain rfl:sp=sp':=ak5 ok ok' (hv.trans hv'.symm)
   obtain rfl:m1=m1':=ae
   have HW:=aI ((jw sp _ x).keep hw HBC.o);have HR:=aI ((BP sp _ v).keep hr HC2.o);have OK:=aI (aP ok hv);clear hw hr ok' hv' hm' h5' h6' ok hv PH HQ1
   rcases KX.o with⟨tp,y,m2,ok2,hv2,rfl,h7,h8,rfl,rfl,hw2⟩|⟨ak8,rfl,rfl⟩
   ·rcases Cf.o with⟨tp',v2,m2',UA,UB,ak9,h7',h8',rfl,hr2⟩|⟨Ib,rfl⟩
    ·have CT:=aI (MK (n:=m1) (m:=m2) OK.o.1 ok2 h5 u2 HW.o ((jw tp _ y).keep hw2 cd7.o) (ak5 OK.o.1 ok2))
     have HV:=aI (HSV.o _ _ OK.o.2 hv2);clear hw2 hr2 ok2 hv2 UA UB ak9 h7' h8' KX Cf;have lb:b<u2.heap.size:=HY6.o.1.lt;have lb2:b+1<u2.heap.size:=HY6.o.2.lt;have nb:¬Gr (fun _=>False) w2 w3 b:=fun p=>by
      rcases p with p|p
      ·exact p
      ·have:=HZ1.o;have:=HZ2.o;omega
     have nb2:¬Gr (fun _=>False) w2 w3 (b+1):=fun p=>by
      rcases p with p|p
      ·exact p
      ·have:=HZ1.o;have:=HZ2.o;omega
     have hlow:∀k,Gr (fun _=>False) w2 w3 k->W.heap.size<=k:=fun k p=>by
      rcases p with p|p
      ·exact p.elim
      ·have:=HB2.o.size;omega
     have zK:∀k,Gr (fun _=>False) wc.drew u1 k->¬Gr (fun _=>False) w2 w3 k:=fun k p q=>by
      rcases p with p|p
      ·exact p
      ·rcases q with q|q
       ·exact q
       ·have:=HQ4.o.size;have:=lL.o.size;have:=p.1;rw[World.size_drew] at this;omega
     go_upto_region 14 with fail;refine(CT.o).mono ?_
     rintro e u3 ⟨hcase,hw3,ht3⟩;have HW3:=aI hw3;have HR3:=aI ((BP sp _ v).far HR.o ht3 zK);have CS:=aI (Uz u3 HW3.o HR3.o (LY (n:=m1) OK.o.1));have HE3:=aI (HBE.o.trans (ht3.below hlow HBE.o.size));have K1:Hid (dK u3 b 25 #[.int .u8 k1,.int .i64 l1,.int .i64 h1,.int .i64 d1,.bool g1,.int .i64 a1,.int .i64 s1]):=aI ((ht3.block b lb nb).trans HY6.o.1);have K2:Hid (dK u3 (b+1) 25 #[.int .u8 k2,.int .i64 l2,.int .i64 h2,.int .i64 d2,.bool g2,.int .i64 a2,.int .i64 s2]):=aI ((ht3.block (b+1) lb2 nb2).trans HY6.o.2)
     rcases hcase with⟨rfl,hvv,hnn⟩|⟨rfl,hne⟩
     ·obtain⟨rfl,rfl,rfl,rfl,rfl,rfl,rfl⟩:=HV.o.1 hvv
      subst hnn;clear hw3 ht3 hvv HV;obtain⟨f0,f1,f2,f3,f4,f5,f6⟩:=K1.o.c7;obtain⟨p0,p1,p2,p3,p4,p5,p6⟩:=K2.o.c7
      go_wp2_with fail;refine(CS.o).mono ?_
      rintro e u4 ⟨rfl,hb4⟩;have HE4:=aI (HE3.o.trans (hb4.mono HE3.o.size));clear hb4
      go_wp2_with fail;refine bodyPost_ret (by simp[results,Tryz.results3,go_sem, *];try rfl) rfl ?_
      exact⟨rfl,HE4.o⟩
     ·by_cases hst:k1=k2/\l1=l2/\h1=h2/\d1=d2/\g1=g2/\a1=a2/\s1=s2
      ·have hnm:¬(m1:Int)=(m2:Int):=fun e=>hne ⟨HV.o.2 hst,ae⟩
       have hbe:((m1:Int) == (m2:Int))=false:=beq_eq_false_iff_ne.2 hnm;obtain⟨rfl,rfl,rfl,rfl,rfl,rfl,rfl⟩:=hst;clear hw3 ht3 hne HV;obtain⟨f0,f1,f2,f3,f4,f5,f6⟩:=K1.o.c7;obtain⟨p0,p1,p2,p3,p4,p5,p6⟩:=K2.o.c7
       go_wp2_with fail;refine(CS.o).mono ?_
       rintro e u4 ⟨rfl,hb4⟩;have HE4:=aI (HE3.o.trans (hb4.mono HE3.o.size));clear hb4
       go_wp2_with fail;refine bodyPost_ret (by simp[results,Tryz.results3,go_sem, *];try rfl) rfl ?_
       exact⟨rfl,HE4.o⟩
      ·have HI:Hid (∀W:World,((if k1=k2 then if l1=l2 then if h1=h2 then if d1=d2 then if g1=g2 then if a1=a2 then if s1=s2 then Result.ok (Next.value (Value.bool true)) W else Result.ok (Next.value (Value.bool false)) W else Result.ok (Next.value (Value.bool false)) W else Result.ok (Next.value (Value.bool false)) W else Result.ok (Next.value (Value.bool false)) W else Result.ok (Next.value (Value.bool false)) W else Result.ok (Next.value (Value.bool false)) W else Result.ok (Next.value (Value.bool false)) W)=Result.ok (Next.value (Value.bool false)) W)):=aI (by
        intro W
        repeat' split
        all_goals first|rfl|exact absurd ⟨‹_›,‹_›,‹_›,‹_›,‹_›,‹_›,‹_›⟩ hst)
       clear hw3 ht3 hne HV hst;obtain⟨f0,f1,f2,f3,f4,f5,f6⟩:=K1.o.c7;obtain⟨p0,p1,p2,p3,p4,p5,p6⟩:=K2.o.c7;have bu2:=HI.o u3
       go_wp2_with fail;refine(CS.o).mono ?_
       rintro e u4 ⟨rfl,hb4⟩;have HE4:=aI (HE3.o.trans (hb4.mono HE3.o.size));clear hb4
       go_wp2_with fail;refine bodyPost_ret (by simp[results,Tryz.results3,go_sem, *];try rfl) rfl ?_
       exact⟨rfl,HE4.o⟩
    ·exact absurd ⟨⟨tp,ok2,hv2⟩,ae,ae⟩ Ib
   ·rcases Cf.o with⟨tp',v2,m2',UA,UB,ak9,h7',h8',rfl,hr2⟩|⟨Ib,rfl⟩
    ·exact absurd ⟨⟨tp',UA,UB⟩,ae,ae⟩ ak8
    ·clear ak8 Ib
     go_wp2_with fail;refine bodyPost_ret (by simp[results,Tryz.results3,go_sem, *];try rfl) rfl ?_
     exact⟨rfl,HBE.o⟩
  ·exact absurd ⟨⟨sp,ok,hv⟩,ae,ae⟩ hno'
 ·rcases HQ1.o with⟨sp',v,m1',ok',hv',hm',h5',h6',rfl,hr⟩|⟨hno',rfl⟩
  ·exact absurd ⟨⟨sp',ok',hv'⟩,ae,ae⟩ hno
  ·clear hno hno' PH HQ1
   rcases KX.o with⟨tp,y,m2,ok2,hv2,rfl,h7,h8,rfl,rfl,hw2⟩|⟨ak8,rfl,rfl⟩
   ·rcases Cf.o with⟨tp',v2,m2',UA,UB,ak9,h7',h8',rfl,hr2⟩|⟨Ib,rfl⟩
    ·clear hw2 hr2 ok2 hv2 UA UB ak9 KX Cf
     go_wp2_with fail;refine bodyPost_ret (by simp[results,Tryz.results3,go_sem, *];try rfl) rfl ?_
     exact⟨rfl,HBE.o⟩
    ·exact absurd ⟨⟨tp,ok2,hv2⟩,ae,ae⟩ Ib
   ·rcases Cf.o with⟨tp',v2,m2',UA,UB,ak9,h7',h8',rfl,hr2⟩|⟨Ib,rfl⟩
    ·exact absurd ⟨⟨tp',UA,UB⟩,ae,ae⟩ ak8
    ·clear ak8 Ib KX Cf
     go_wp2_with fail;refine bodyPost_ret (by simp[results,Tryz.results3,go_sem, *];try rfl) rfl ?_
     exact⟨rfl,HBE.o⟩
open Tryz
open Go.RowKit Go.Lib Go.Shelf
section
open Go.ChangeShapes Go.WideShapes Go.Deep
variable {H : Type} {enc : TypeId × Value -> H} {w : World} {base : Nat} {held : Bool}
theorem bj5{v:Value}{d:DataW H}{ps:List MemPlace}{r:Reach}{b0:Nat}
 (hval:Value.okWide prog w r b0 25 v) (h:DataW.Trod enc prog w base (fun _=>true) held 25 v d ps) :
 ∃(kd lo hi dg ac sz:Int) (gr:Bool),v=dS kd lo hi dg gr ac sz/\-9223372036854775808<=hi/\hi<=9223372036854775807:=by
 obtain⟨cs,rfl,hsz⟩:=okWide_struct underlying25 hval;have ce:prog.cellsOf 25=7:=by kernel_rfl
 rw[ce] at hsz;obtain⟨n,h⟩:=h;obtain⟨xs,k,hk,hxy,_,hxl,hf⟩:=DataW.trod_struct underlying25 h;obtain⟨l,rfl⟩:∃l:List Value,cs=l.toArray:=⟨cs.toList,ag⟩
 match xs,hxl,l,hsz with
 | [y0,y1,y2,y3,y4],_,[v0,v1,v2,v3,v4,v5,v6],_=>
  have g0:=hf 0 _ rfl;have g1:=hf 1 _ rfl;have g2:=hf 2 _ rfl;have g3:=hf 3 _ rfl;have g4:=hf 4 _ rfl;simp[Value.cells,show prog.cellsOf 5=1 by kernel_rfl,show prog.cellsOf 4=1 by kernel_rfl,show prog.cellsOf 3=1 by kernel_rfl,show prog.cellsOf 23=3 by kernel_rfl] at g0 g1 g2 g3 g4
  obtain⟨zs,k2,hk2,hzy,_,hzl,hg⟩:=DataW.trod_struct underlying23 g1
  match zs,hzl with
  | [z0,z1,z2],_=>
   have q0:=hg 0 _ rfl;have q1:=hg 1 _ rfl;have q2:=hg 2 _ rfl;simp[show prog.cellsOf 2=1 by kernel_rfl,show prog.cellsOf 3=1 by kernel_rfl] at q0 q1 q2
   obtain⟨x0,p0,_,_⟩:=DataW.trod_int (k:=.u8) underlying5 g0;obtain⟨x1,p1,_,_⟩:=DataW.trod_int (k:=.i64) underlying2 q0;obtain⟨x2,p2,_,b2⟩:=DataW.trod_int (k:=.i64) underlying2 q1;obtain⟨x3,p3,_,_⟩:=DataW.trod_int (k:=.i64) underlying3 q2;obtain⟨x4,p4,_⟩:=DataW.trod_bool underlying4 g2;obtain⟨x5,p5,_,_⟩:=DataW.trod_int (k:=.i64) underlying3 g3;obtain⟨x6,p6,_,_⟩:=DataW.trod_int (k:=.i64) underlying3 g4;simp only[List.cons.injEq,and_true] at p0 p1 p2 p3 p4 p5 p6;subst p0;subst p1;subst p2;subst p3;subst p4;subst p5;subst p6;have h9:=bounds_i64 b2;exact⟨x0,x1,x2,x3,x5,x6,x4,rfl,h9.1,h9.2⟩
end
end Go.Proofs.YtilcnjbpmoijmaaGreat.D
