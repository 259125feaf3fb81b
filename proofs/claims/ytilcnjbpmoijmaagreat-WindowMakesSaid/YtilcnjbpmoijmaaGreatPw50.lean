/- Parts of a proof. No condition. -/
import Derived.Test.YtilcnjbpmoijmaaGreatPw49
set_option maxRecDepth 100000
set_option maxHeartbeats 16000000
set_option linter.unusedVariables false
set_option linter.unusedSimpArgs false
namespace Go.Proofs.YtilcnjbpmoijmaaGreat.D
open Tryz
open Go.RowKit Go.Lib Go.Shelf
variable{sp tp:fG}{a m n x y:Nat}{F Fy H:Ft}{o s:Wn}{cq:Value}{B:List Int}
theorem uf{kd lo hi dg ac sz:Int}{gr:Bool}(hcs:sp.cs=[.int .u8 kd,.int .i64 lo,.int .i64 hi,.int .i64 dg,.bool gr,.int .i64 ac,.int .i64 sz])(oks:jG sp)(w:World)(h:gQ sp s x F w)(h2:gQ sp o y Fy w)(hn:rQ sp n s)(hno:rQ sp n o)(hn0:0<n)
 (hc:jf cq B a H w) (hd:∀k,H k->¬F k/\¬Fy k) (hq:∀q,sp=.k q->cq=.pointer none->(∀c∈s.L,c.L=[])/\∀c∈o.L,c.L=[]) :
 aH 12 #[.pointer (some ⟨x,0,none⟩),.pointer (some ⟨y,0,none⟩),cq] w (qP (gQ sp (PU sp B o s a) x) (jf cq B (D9 sp B o s a).2.1) F H (IE sp B o s a) w):=by
 obtain⟨a0,C,v,ps,Ow,G,h1,hL,hFx,hGF,hF⟩:=h;obtain⟨b0,D,u,qs,Oy,Gy,k1,kL,kFy,kGF,kF⟩:=h2;have hCn:C.length=n:=by rw[<-fB sp.new a0 C,<-hL];exact hn.len
 have hDn:D.length=n:=by rw[<-fB sp.new b0 D,<-kL];exact hno.len
 have h60:n<=60:=by rw[<-hCn];exact h1.n60
 have Uk:=hn.now;have know:=hno.now;have ly:=k1.blk.lt;have lx:=h1.blk.lt;have HW:=aI h1;have KW:=aI k1;have HL:=aI (aP hL kL);have HN:=aI (aP hn hno);have HC:=aI hc;have HD:=aI hd;have HQ0:=aI hq;have YC:=aI hcs;have hblk:=h1.blk;have ug:=k1.blk;rw[hcs] at hblk ug;have f0:=hblk.cell 0;have f1:=hblk.cell 1;have f2:=hblk.cell 2;have f3:=hblk.cell 3;have f4:=hblk.cell 4;have f5:=hblk.cell 5;have f6:=hblk.cell 6;have d0:=ug.cell 0;have d1:=ug.cell 1;have d2:=ug.cell 2;have d3:=ug.cell 3;have d4:=ug.cell 4;have d5:=ug.cell 5;have d6:=ug.cell 6;simp only[List.cons_append,List.nil_append,aK,aJ,aN] at f0 f1 f2 f3 f4 f5 f6 d0 d1 d2 d3 d4 d5 d6;have f7:=h1.c7;have f8:=h1.c8;have f9:=h1.c9;have d7:=k1.c7;have d9:=k1.c9;obtain⟨g,c,rfl,_⟩:=h1.ring.pos h1.pos;obtain⟨g2,c2,rfl,_⟩:=k1.ring.pos k1.pos;rw[hCn] at f7;rw[hDn] at d7;have FF:=aI (aP f0 (aP f1 (aP f2 (aP f3 (aP f4 (aP f5 (aP f6 (aP f7 (aP f8 f9)))))))));have DD:=aI (aP d0 (aP d1 (aP d2 (aP d3 (aP d4 (aP d5 (aP d6 (aP d7 d9))))))));have HCN:=aI (aP hCn hDn);clear h1 k1 hL kL hn hno hc hd hq hcs hblk ug hCn hDn f0 f1 f2 f3 f4 f5 f6 f7 f8 f9 d0 d1 d2 d3 d4 d5 d6 d7 d9
 go_enter func12,ntmps12
 go_upto_region 3 with fail;refine jh (fun w'=>w'=w.drew) (dV 0 23 []) (rfl) ?_
 iterate 23 refine eQ (h:=fun w' hS'=>by subst hS';have f0:w.drew.cell? ⟨x,0,none⟩=_:=FF.o.1;have f1:w.drew.cell? ⟨x,1,none⟩=_:=FF.o.2.1;have f2:w.drew.cell? ⟨x,2,none⟩=_:=FF.o.2.2.1;have f3:w.drew.cell? ⟨x,3,none⟩=_:=FF.o.2.2.2.1;have f4:w.drew.cell? ⟨x,4,none⟩=_:=FF.o.2.2.2.2.1;have f5:w.drew.cell? ⟨x,5,none⟩=_:=FF.o.2.2.2.2.2.1;have f6:w.drew.cell? ⟨x,6,none⟩=_:=FF.o.2.2.2.2.2.2.1;have f7:w.drew.cell? ⟨x,7,none⟩=_:=FF.o.2.2.2.2.2.2.2.1;have d0:w.drew.cell? ⟨y,0,none⟩=_:=DD.o.1;have d1:w.drew.cell? ⟨y,1,none⟩=_:=DD.o.2.1;have d2:w.drew.cell? ⟨y,2,none⟩=_:=DD.o.2.2.1;have d3:w.drew.cell? ⟨y,3,none⟩=_:=DD.o.2.2.2.1;have d4:w.drew.cell? ⟨y,4,none⟩=_:=DD.o.2.2.2.2.1;have d5:w.drew.cell? ⟨y,5,none⟩=_:=DD.o.2.2.2.2.2.1;have d6:w.drew.cell? ⟨y,6,none⟩=_:=DD.o.2.2.2.2.2.2.1;have d7:w.drew.cell? ⟨y,7,none⟩=_:=DD.o.2.2.2.2.2.2.2.1;go_simp;exact⟨rfl,rfl⟩) ?_
 refine dJ ?_
 have Bd:Below w.heap.size w w.drew.drew:=(aO _ _).drew.drew
 go_upto_region 5 with fail;have mW:=aI (fun(w':World) (hS':(Below w.heap.size w) w')=>(aP ((hS'.cell (p:=⟨x,0,none⟩) lx).trans FF.o.1) (aP ((hS'.cell (p:=⟨x,1,none⟩) lx).trans FF.o.2.1) (aP ((hS'.cell (p:=⟨x,2,none⟩) lx).trans FF.o.2.2.1) (aP ((hS'.cell (p:=⟨x,3,none⟩) lx).trans FF.o.2.2.2.1) (aP ((hS'.cell (p:=⟨x,4,none⟩) lx).trans FF.o.2.2.2.2.1) (aP ((hS'.cell (p:=⟨x,5,none⟩) lx).trans FF.o.2.2.2.2.2.1) (aP ((hS'.cell (p:=⟨x,6,none⟩) lx).trans FF.o.2.2.2.2.2.2.1) (aP ((hS'.cell (p:=⟨x,8,none⟩) lx).trans FF.o.2.2.2.2.2.2.2.2.1) ((hS'.cell (p:=⟨x,9,none⟩) lx).trans FF.o.2.2.2.2.2.2.2.2.2))))))))))
 refine jh (Below w.heap.size w) (dV 0 13 (fJ 13 (dV 14 1 []))) (Bd) ?_
 iterate 13 refine eQ ?_
 refine fO fun K hK=>?_
 go_simp;refine hK _ _ (Bd.alloc Bd.size _) ?_
 clear hK K;refine eQ ?_
 refine dJ ?_
 obtain⟨z,hzz⟩:=aF (w.heap.size);obtain⟨wz,hwz⟩:∃q,(w.alloc (.cells #[.int .u8 kd,.int .i64 lo,.int .i64 hi,.int .i64 dg,.bool gr,.int .i64 ac,.int .i64 sz,.slice none 0 0,.int .i64 a0,.int .u64 s.now] 89)).drew.drew=q:=⟨_,rfl⟩;try refine dR ?_
 rw[hwz,hzz];have HY0:Hid (II sp s.now a0 C w z 0 (.slice none 0 0) [] (fun _ _=>False) (fun _=>False) wz):=by
  refine aI (II.start ?_ (by rw[<-hwz];exact bw))
  rw[YC.o,<-hwz,<-hzz];exact(dK.new w 89 #[.int .u8 kd,.int .i64 lo,.int .i64 hi,.int .i64 dg,.bool gr,.int .i64 ac,.int .i64 sz,.slice none 0 0,.int .i64 a0,.int .u64 s.now]).drew.drew
 clear hwz;have HZZ:=aI hzz;clear hzz Bd;have f7:wz.cell? ⟨x,7,none⟩=_:=(HY0.o.below.cell (p:=⟨x,7,none⟩) lx).trans FF.o.2.2.2.2.2.2.2.1
 go_wp2_with fail;clear f7
 go_loopg [9,58] n (fun q _ t58 wr=>∃(i:Nat) (v1:Value) (ps1:List Nat) (VT:Nat->Ft) (G1:Ft),q=n - i/\i<=n/\t58=.int .i64 i/\Hid (II sp s.now a0 C w z i v1 ps1 VT G1 wr))
 case atStart=>exact⟨0,_,_,_,_,rfl,ae,rfl,HY0⟩
 case round=>
  obtain⟨i,v1,ps1,VT,G1,hq,hile,rfl,HY⟩:=hrel;have HQ:=aI hq;clear hq
  by_cases hlt:i<n
  ·have hji:(i:Int)<(n:Int):=ae
   have hiC:i<C.length:=by rw[HCN.o.1];exact hlt
   obtain⟨gg,cc,eg,hgl,hc1,hc2,_,_,hcell⟩:=HW.o.ring.pos HW.o.pos;have ci:=hcell i hiC;have egg:gg=g:=by injection eg with e1 e2 e3;injection e1 with e1;injection e1 with e1 e2 e3;exact e1.symm
   rw[egg] at ci hgl;have cir:wr.cell? ⟨g,i,none⟩=some (.pointer (some ⟨ps.getD i 0,0,none⟩)):=(HY.o.below.cell (p:=⟨g,i,none⟩) hgl).trans ci;have bu0:iT sp C[i]:=HN.o.1.each _ (by rw[HL.o.1];exact av9 HW.o.at0 (bf hiC))
   have bu1:=(HW.o.keep HY.o.below).ring.each i hiC;have CP:=aI (Yz wr.drew ((kz sp _ _).keep bu1 (aO _ _).drew) bu0);have z7:Hid (wr.cell? ⟨z,7,none⟩=some v1):=aI (by have:=HY.o.blk.cell 7;rw[YC.o] at this;exact this)
   have y7:Hid (wr.frozen? ⟨z,7,none⟩=false):=aI (HY.o.blk.frozen 7);have lz:z<wr.heap.size:=HY.o.blk.lt;have nz:¬(v1.ownBlock=some z):=fun e=>(HY.o.new z (HY.o.ring.l9 z e).1).2 rfl
   have hrl:ps1.length=i:=by rw[HY.o.ring.len,bG];omega
   have ak2:w.heap.size<=z:=by have:=HZZ.o;omega
   have hvl:∀k,v1.ownBlock=some k->k<wr.heap.size:=fun k e=>HY.o.ring.low k (HY.o.ring.l9 k e).1
   clear eg hcell ci egg bu0 bu1 hc1 hc2;generalize ps.getD i 0=yi at *
   go_upto_region 9 with fail;have mW:=aI (fun(w':World) (hS':(Touch (fun k=>v1.ownBlock=some k) wr) w')=>((dO hS' 7 lz nz).trans z7.o))
   refine KO (Touch (fun k=>v1.ownBlock=some k) wr) 11 (KI 0 6 (KJ 6 (KJ 7 (KJ 8 (plp 9 1 (KI 10 1 (KJ 11 []))))))) ((Touch.refl _ _).drew) ?_
   iterate 6 refine uF ?_
   refine Iq fun K hK=>?_
   go_simp;refine(CP.o).mono ?_
   rintro e w1 ⟨y1,rfl,hj1,hb1⟩;have B1:Below wr.heap.size wr w1:=(aO _ _).drew.trans hb1;have T1:Touch (fun k=>v1.ownBlock=some k) wr w1:=Touch.of_below B1 (aS _)
   refine hK _ _ (T1) ?_
   clear hK K;refine Iq fun K hK=>?_
   have T2:=T1.alloc (.cells #[.pointer (some ⟨y1,0,none⟩)] 51);have B2:Below wr.heap.size wr _:=B1.alloc B1.size (.cells #[.pointer (some ⟨y1,0,none⟩)] 51)
   go_simp;refine hK _ _ (T2) ?_
   clear hK K;refine Iq fun K hK=>?_
   refine Rn cd1 (.tmp 66) (.tmp 69) rfl (dL.keep HY.o.ring.row B2) rfl _ [y1] rfl (iM.fK (E:=Ud 51) w1 y1 _ rfl _ rfl _ rfl) ah (df _) ?_
   intro v8 w8 o8 g8 a8;have T8:Touch (fun k=>v1.ownBlock=some k) wr w8:=T2.grown g8 (fun k e=>.inl e)
   have NX:=aI (HY.o.next hiC ak2 hj1 B1 ((aO _ w1).alloc (aS _) _) o8 g8 a8);obtain⟨A8,c8,rfl,_,_,_⟩:=o8.form;clear o8 g8 a8
   go_simp;refine hK _ _ (T8) ?_
   clear hK K;refine Rl ?_
   refine uF ?_
   refine KN fun K hK=>?_
   have z7':=(dO T8 7 lz nz).trans z7.o;have y7':=(qZ T8 7 lz nz).trans y7.o
   go_simp;refine hK _ _ ?_
   clear hK K;refine ja ?_
   have hN1:=NX.o;simp only[aQ,bW,hrl] at hN1;have PH:=aI hN1;clear hN1 NX T1 T2 T8 B1 B2 CP hj1 hb1 z7 y7;try refine dR ?_
   go_wp2_with fail
   go_roundg (n - (i+1))
   case measure=>have:=HQ.o;omega
   case rel=>exact⟨i+1,_,_,_,_,rfl,ae,ai,PH⟩
  ·have hji:¬((i:Int)<(n:Int)):=ae
   obtain rfl:n=i:=ae
   have hy:=HY.o;rw[<-HCN.o.1] at hy;have ak2:w.heap.size<=z:=by have:=HZZ.o;omega
   have HZ:=aI (hy.done HL.o.1 ak2 HW.o.at0 HW.o.n60);have HB:=aI HY.o.below;have z9:Hid (wr.cell? ⟨z,9,none⟩=some (.int .u64 s.now)):=aI (by have:=HY.o.blk.cell 9;rw[YC.o] at this;exact this)
   have o9:Hid (wr.cell? ⟨y,9,none⟩=some (.int .u64 o.now)):=aI ((HY.o.below.cell (p:=⟨y,9,none⟩) ly).trans DD.o.2.2.2.2.2.2.2.2);have lz:z<wr.heap.size:=HY.o.blk.lt;clear hy HY HQ
   go_upto_region 11 with fail;refine jh (fun w'=>w'=wr.drew) (dV 0 9 []) (rfl) ?_
   iterate 9 refine eQ (h:=fun w' hS'=>by subst hS';have z9':wr.drew.cell? ⟨z,9,none⟩=_:=z9.o;have o9':wr.drew.cell? ⟨y,9,none⟩=_:=o9.o;go_simp;exact⟨rfl,rfl⟩) ?_
   refine dJ ?_
   rcases bV s.now o.now with hgt|hgt
   have bj2:(o.now:Int) > (s.now:Int):=ae
   have hup:MV sp o s=xG sp (o.now - s.now) s:=by unfold MV;rw[if_pos hgt]
   have hsub:(o.now:Int) - (s.now:Int)=((o.now - s.now:Nat):Int):=ae
   have CT:=aI (Qd (o.now - s.now) wr.drew.drew oks ((jw sp s z).keep HZ.o (aO _ _).drew.drew) Uk ae)
   have HUP:=aI hup;have hs0:¬((o.now:Int) - (s.now:Int)<0):=ae
   obtain⟨dn,hdn⟩:∃q,o.now - s.now=q:=⟨_,rfl⟩;rw[hdn] at CT hsub HUP;clear hup hdn
   go_upto_region 12 with fail;refine qm (fun w'=>w'=wr.drew.drew) 10 (dV 0 10 []) (rfl) ?_
   iterate 10 refine mr (h:=fun w' hS'=>by subst hS';have z9':wr.drew.drew.cell? ⟨z,9,none⟩=_:=z9.o;have o9':wr.drew.drew.cell? ⟨y,9,none⟩=_:=o9.o;go_simp;exact⟨rfl,rfl⟩) ?_
   refine d_ ?_
   simp only[bT,cO]
   go_wp2_with fail;refine(CT.o).mono ?_
   rintro e w3 ⟨rfl,ht1,ht2⟩;obtain⟨F3,HZ3,HF3⟩:∃F3:Ft,Hid (gQ sp (MV sp o s) z F3 w3)/\Hid (∀k,F3 k->w.heap.size<=k):=⟨Gr (Gr (fun _=>False) w wr) wr.drew.drew w3,aI (by rw[HUP.o];exact ht1),aI (fun k hk=>hk.elim (fun h=>h.elim False.elim And.left) (fun h=>by have:=HB.o.size;have h:wr.heap.size<=k:=h.1;omega))⟩
   have HB3:Hid (Below w.heap.size w w3):=aI (HB.o.trans ((aO _ wr).drew.drew.mono HB.o.size |>.trans (ht2.below (fun k hk=>hk.elim False.elim And.left) HB.o.size)))
   clear ht1 ht2 CT HUP hs0 hsub bj2 z9 o9 lz ak2
   go_wp2_with fail;try refine dR ?_
   try go_wp2_with fail
   rotate_left
   have bj2:¬((o.now:Int) > (s.now:Int)):=ae
   have hup:MV sp o s=s:=by unfold MV;rw[if_neg ae]
   have HUP:=aI hup;clear hup
   go_upto_region 13 with fail;obtain⟨w3,hw3⟩:∃q,wr.drew=q:=⟨_,rfl⟩;rw[hw3];obtain⟨F3,HZ3,HF3⟩:∃F3:Ft,Hid (gQ sp (MV sp o s) z F3 w3)/\Hid (∀k,F3 k->w.heap.size<=k):=⟨Gr (fun _=>False) w wr,aI (by rw[HUP.o,<-hw3];exact(jw sp s z).keep HZ.o (aO _ _).drew),aI (fun k hk=>hk.elim False.elim And.left)⟩
   have HB3:Hid (Below w.heap.size w w3):=aI (by rw[<-hw3];exact HB.o.drew)
   clear hw3 HUP bj2 z9 o9 lz ak2
   all_goals
    have HU:=aI (aP (bi1 (o:=o) oks HN.o.1 hn0) (au2 (sp:=sp) (s:=s) HN.o.2));have HUI:Hid (∀q,sp=.k q->cq=.pointer none->∀c∈(MV sp o s).L,c.L=[]):=aI (fun q e1 e2=>au3 (HQ0.o q e1 e2).1)
    obtain⟨U,hU⟩:=aF (MV sp o s);have HUE:=aI hU;rw[hU] at HZ3 HU HUI;clear hU;obtain⟨late,ay6⟩:∃l,U.now - o.now=l:=⟨_,rfl⟩;have cd2:=HU.o.2;have hUn:=HU.o.1.now;have hli:(U.now:Int) - (o.now:Int)=(late:Int):=ae
    have hl0:¬((U.now:Int) - (o.now:Int)<0):=ae
    have hll:late<=9223372036854775807:=ae
    have HLT:=aI ay6;have o9:Hid (w3.cell? ⟨y,9,none⟩=some (.int .u64 o.now)):=aI ((HB3.o.cell (p:=⟨y,9,none⟩) ly).trans DD.o.2.2.2.2.2.2.2.2);have z9:Hid (w3.cell? ⟨z,9,none⟩=some (.int .u64 U.now)):=aI (by obtain⟨_,_,_,_,_,_,r1,_⟩:=HZ3.o;exact r1.c9)
    have AR:=aI hli;clear ay6 hli cd2
    go_upto_region 13 with fail;refine qm (fun w'=>w'=w3.drew) 9 (dV 0 9 []) (rfl) ?_
    iterate 9 refine mr (h:=fun w' hS'=>by subst hS';have hli:=AR.o;have z9':w3.drew.cell? ⟨z,9,none⟩=_:=z9.o;have o9':w3.drew.cell? ⟨y,9,none⟩=_:=o9.o;go_simp;exact⟨rfl,rfl⟩) ?_
    refine d_ ?_
    simp only[bT,cO];have o7:w3.drew.cell? ⟨y,7,none⟩=_:=(HB3.o.cell (p:=⟨y,7,none⟩) ly).trans DD.o.2.2.2.2.2.2.2.1
    go_wp2_with fail;try refine dR ?_
    try go_wp2_with fail
    clear o7;obtain⟨w4,hw4⟩:∃q,w3.drew=q:=⟨_,rfl⟩;rw[hw4];have hB4:Below w.heap.size w w4:=by rw[<-hw4];exact HB3.o.drew
    have hol:o.L.length=n:=HN.o.2.len;have HT0:Hid (av6 sp B late o (D9 sp B o s a) n cq H w z U.now n U.L a F3 w4):=aI ⟨by rw[<-hw4];exact(jw sp U z).keep HZ3.o (aO _ _).drew,HU.o.1.each,HU.o.1.len,HC.o.keep hB4,HF3.o,Touch.of_below hB4 (aS _),by unfold D9;rw[HUE.o,HLT.o,hol],HUI.o⟩
    have x_:=aI hol;clear hw4 hB4 hol AR o9 z9
    go_loopg [11,12] n (fun q t11 _ wr=>∃(k:Nat) (L:List Js) (a2:Nat) (F4:Ft),q=k/\k<=n/\t11=.int .i64 ((k:Int) - 1)/\Hid (av6 sp B late o (D9 sp B o s a) n cq H w z U.now k L a2 F4 wr))
    case atStart=>exact⟨n,U.L,a,F3,rfl,aS _,rfl,HT0⟩
    case round=>
     obtain⟨k,L,a2,F4,hq,hk,rfl,HT⟩:=hrel;have Cf:=aI hq;clear hq;have lyr:=HT.o.touch.size;have nyH:¬H y:=fun e=>(HD.o y e).2 kFy
     have nx:¬H x:=fun e=>(HD.o x e).1 hFx
     have KW2:Hid (jk sp o.now b0 D (.slice (some ⟨g2,0,none⟩) D.length c2) qs Oy Gy y wr):=aI (KW.o.stay (HT.o.touch.block y ly nyH) (fun j hj=>HT.o.touch.block j (KW.o.ring.low j hj) (fun e=>(HD.o j e).2 (kGF j hj))) lyr)
     obtain⟨a3,E,v3,rs,Or,G3,r1,rL,rFz,rGF,rF⟩:=HT.o.win;have hEn:E.length=n:=by have:=HT.o.len;rw[<-fB sp.new a3 E];rw[<-this];exact congrArg List.length rL.symm
     obtain⟨g3,c3,rfl,_⟩:=r1.ring.pos r1.pos;have R1:=aI r1;have HEN:=aI hEn;have RL:=aI rL;have c7:wr.cell? ⟨z,7,none⟩=_:=r1.c7;rw[hEn] at c7;clear r1 hEn rL
     cases k with
     | zero=>
      clear c7;have hX:=HT.o.eq;rw[Hz] at hX;have HX:=aI hX;clear hX;have TW:=HT.o.touch;have hzb:=R1.o.blk;rw[YC.o] at hzb;have f0:=(dO TW 0 lx nx).trans FF.o.1;have f1:=(dO TW 1 lx nx).trans FF.o.2.1;have f2:=(dO TW 2 lx nx).trans FF.o.2.2.1;have f3:=(dO TW 3 lx nx).trans FF.o.2.2.2.1;have f4:=(dO TW 4 lx nx).trans FF.o.2.2.2.2.1;have f5:=(dO TW 5 lx nx).trans FF.o.2.2.2.2.2.1;have f6:=(dO TW 6 lx nx).trans FF.o.2.2.2.2.2.2.1;have f7:=(dO TW 7 lx nx).trans FF.o.2.2.2.2.2.2.2.1;have f8:=(dO TW 8 lx nx).trans FF.o.2.2.2.2.2.2.2.2.1;have f9:=(dO TW 9 lx nx).trans FF.o.2.2.2.2.2.2.2.2.2;have z0:=hzb.cell 0;have z1:=hzb.cell 1;have z2:=hzb.cell 2;have z3:=hzb.cell 3;have z4:=hzb.cell 4;have z5:=hzb.cell 5;have z6:=hzb.cell 6;have z7:=hzb.cell 7;have z8:=hzb.cell 8;have z9:=hzb.cell 9;have y0:=(qZ TW 0 lx nx).trans (HW.o.blk.frozen 0);have y1:=(qZ TW 1 lx nx).trans (HW.o.blk.frozen 1);have y2:=(qZ TW 2 lx nx).trans (HW.o.blk.frozen 2);have y3:=(qZ TW 3 lx nx).trans (HW.o.blk.frozen 3);have y4:=(qZ TW 4 lx nx).trans (HW.o.blk.frozen 4);have y5:=(qZ TW 5 lx nx).trans (HW.o.blk.frozen 5);have y6:=(qZ TW 6 lx nx).trans (HW.o.blk.frozen 6);have y7:=(qZ TW 7 lx nx).trans (HW.o.blk.frozen 7);have y8:=(qZ TW 8 lx nx).trans (HW.o.blk.frozen 8);have y9:=(qZ TW 9 lx nx).trans (HW.o.blk.frozen 9);simp only[List.cons_append,List.nil_append,aK,aJ,aN] at z0 z1 z2 z3 z4 z5 z6 z7 z8 z9;clear TW hzb
      go_wp2_with fail
      go_ret;have hxb:=(HW.o.stay (HT.o.touch.block x lx nx) (fun j hj=>HT.o.touch.block j (HW.o.ring.low j hj) (fun e=>(HD.o j e).1 (hGF j hj))) lyr).blk
      have hxo:¬G3 x:=fun hx=>by have:=HT.o.new x (rGF x hx);omega
      have cd5:∀l:List Value,l.length=3->(sp.cs++l).length=10:=fun l hl=>by rw[YC.o,aQ,hl];rfl
      have hP:=av7 hxb (cd5 _ rfl) R1.o hxo;have hst:stores wr x 0 (sp.cs++[.slice (some ⟨g3,0,none⟩) E.length c3,.int .i64 a3,.int .u64 U.now])=((((((((((wr).setCell ⟨x,0,none⟩ (.int .u8 kd)).setCell ⟨x,1,none⟩ (.int .i64 lo)).setCell ⟨x,2,none⟩ (.int .i64 hi)).setCell ⟨x,3,none⟩ (.int .i64 dg)).setCell ⟨x,4,none⟩ (.bool gr)).setCell ⟨x,5,none⟩ (.int .i64 ac)).setCell ⟨x,6,none⟩ (.int .i64 sz)).setCell ⟨x,7,none⟩ (.slice (some ⟨g3,0,none⟩) E.length c3)).setCell ⟨x,8,none⟩ (.int .i64 a3)).setCell ⟨x,9,none⟩ (.int .u64 U.now):=by rw[YC.o];simp only[List.cons_append,List.nil_append];rw[Uy]
      rw[hst] at hP;obtain⟨hWB,TX⟩:=hP;clear hst hxb;obtain⟨wf,hwf⟩:∃q,((((((((((wr).setCell ⟨x,0,none⟩ (.int .u8 kd)).setCell ⟨x,1,none⟩ (.int .i64 lo)).setCell ⟨x,2,none⟩ (.int .i64 hi)).setCell ⟨x,3,none⟩ (.int .i64 dg)).setCell ⟨x,4,none⟩ (.bool gr)).setCell ⟨x,5,none⟩ (.int .i64 ac)).setCell ⟨x,6,none⟩ (.int .i64 sz)).setCell ⟨x,7,none⟩ (.slice (some ⟨g3,0,none⟩) E.length c3)).setCell ⟨x,8,none⟩ (.int .i64 a3)).setCell ⟨x,9,none⟩ (.int .u64 U.now)=q:=⟨_,rfl⟩;rw[hwf] at hWB TX;try rw[hwf]
      have hE0:IE sp B o s a=0:=by unfold IE;rw[<-HX.o]
      have hS0:PU sp B o s a=⟨L,U.now⟩:=by unfold PU;rw[if_pos hE0,<-HX.o,HUE.o]
      rw[hE0,hS0,<-HX.o];have TT:=(HT.o.touch.mono (fun j hj=>(.inr hj:F j\/H j))).trans TX (fun j hj=>.inl (.inl (by rw[show j=x from hj];exact hFx)))
      have hCn:=HT.o.cn.far TX (fun j hj e=>nx (by rw[<-show j=x from e];exact hj))
      refine⟨rfl,?_⟩
      show gQ sp ⟨L,U.now⟩ x (Gr F w wf) wf/\_/\_
      exact⟨⟨a3,E,_,rs,Or,G3,hWB,RL.o,.inl hFx,fun j hj=>.inr ⟨HT.o.new j (rGF j hj),hWB.ring.low j hj⟩,jU hF TT.size⟩,hCn,TT⟩
     | succ i=>
      have e2:((i+1:Nat):Int) - 1=(i:Int):=ae
      rw[e2];have hi0:(i:Int)>=0:=ae
      clear e2
      by_cases hge:n<=late+i
      ·have cd6:(late:Int)+(i:Int)>=(n:Int):=ae
       have heq:=HT.o.eq;rw[Hz,if_pos (by rw[HT.o.len];exact hge)] at heq
       have HT':Hid (av6 sp B late o (D9 sp B o s a) n cq H w z U.now i L a2 F4 wr):=aI ⟨HT.o.win,HT.o.ok,HT.o.len,HT.o.cn,HT.o.new,HT.o.touch,heq,HT.o.idle⟩;clear heq
       go_wp2_with fail
       go_roundg i
       case measure=>have:=Cf.o;omega
       case rel=>exact⟨i,L,a2,F4,rfl,ae,ai,HT'⟩
      ·have cd6:¬((late:Int)+(i:Int)>=(n:Int)):=ae
       have hlt2:i+late<E.length:=by rw[HEN.o];omega
       have hiD:i<D.length:=by rw[HCN.o.2];omega
       have hlL:L.length=n:=HT.o.len;have C1':=vX (i+late) wr R1.o hlt2;rw[dF] at C1';have C1:=aI C1';have C2:Hid (∀w5,Below wr.heap.size wr w5->_):=aI (fun w5 hb=>vX i w5 (KW2.o.keep hb) hiD)
       obtain⟨er,her⟩:∃q,D8 sp (L.getD (i+late) sp.new) (o.L.getD i sp.new)=q:=⟨_,rfl⟩;have C3:Hid (∀w6,Below wr.heap.size wr w6->aH 38 #[.pointer (some ⟨rs.getD (qI a3 E.length (i+late)) 0,0,none⟩),.pointer (some ⟨qs.getD (qI b0 D.length i) 0,0,none⟩),cq] w6 fun e w'=>e=.returned (.int .i64 er)/\(er=0->∃L' a5 F5,av6 sp B late o (D9 sp B o s a) n cq H w z U.now i L' a5 F5 w')/\(er≠0->IE sp B o s a=er/\jf cq B (D9 sp B o s a).2.1 H w'/\Touch H w w')):=aI (fun w6 hb=>by
        have z6:=R1.o.keep hb;have okX:iT sp (L.getD (i+late) sp.new):=rQ.at_ (s:=⟨L,U.now⟩) ⟨hlL,HT.o.ok,HU.o.1.now⟩ (by show i+late<L.length;rw[hlL,<-HEN.o];exact hlt2)
        have okT:iT sp (o.L.getD i sp.new):=HN.o.2.at_ (by rw[x_.o];omega)
        have hjX:iK sp (L.getD (i+late) sp.new) _ _ w6:=z6.js (s:=⟨L,U.now⟩) RL.o hlt2;have hjT:=(KW2.o.keep hb).js HL.o.2 hiD;have hbz:=hb.size;have zK:∀j,Or (qI a3 E.length (i+late)) j->¬Oy (qI b0 D.length i) j:=fun j h1 h2=>by have:=HT.o.new j (rGF j (R1.o.ring.Ij _ _ h1));have:=KW.o.ring.low j (KW.o.ring.Ij _ _ h2);omega
        have hHF:∀j,H j->¬F4 j:=fun j h1 h2=>by have:=HT.o.new j h2;have:=HC.o.low j h1;omega
        refine(au8 w6 hjX hjT (.inr zK) okX okT (HT.o.cn.keep hb) (fun q e1 e2=>?_) (fun j h1 h2=>hHF j h1 (rGF j (R1.o.ring.Ij _ _ h2)))).mono ?_
        ·have hx:=HT.o.idle q e1 e2 _ (bf (l:=L) (n:=i+late) (by rw[hlL,<-HEN.o];exact hlt2))
         have ht:=(HQ0.o q e1 e2).2 _ (bf (l:=o.L) (n:=i) (by rw[x_.o];omega))
         rw[bD,a_ (by rw[hlL,<-HEN.o];exact hlt2),Option.getD_some,hx,bD,a_ (by rw[x_.o];omega),Option.getD_some,ht]
         rfl
        ·intro e w' hm
         obtain⟨hme,hmj,hmc,hmt⟩:=hm;obtain⟨t1,t2⟩:=Qb (s:=⟨L,U.now⟩) z6 RL.o rFz rGF (fun j hj=>bF (rF j hj) hbz) hlt2 hmj hmt hHF
         have tt:Touch H w w':=(HT.o.touch.trans (Touch.of_below (F:=H) hb (aS _)) (fun j hj=>.inl hj)).trans t2 (fun j hj=>hj.elim (fun h=>.inr (HT.o.new j h)) .inl)
         have heq:=HT.o.eq;rw[Hz,if_neg (by rw[hlL];omega)] at heq
         refine⟨by rw[hme,her],fun e0=>?_,fun e0=>?_⟩
         ·rw[if_pos (her.trans e0)] at heq
          refine⟨_,_,_,t1,ah6 HT.o.ok (au1 okX okT),by rw[bK];exact hlL,hmc,fun j hj=>hj.elim (HT.o.new j) (fun h=>by have:=h.1;omega),tt,heq,fun q e1 e2 c' hc'=>?_⟩
          rcases List.mem_or_eq_of_mem_set hc' with hc'|rfl
          ·exact HT.o.idle q e1 e2 c' hc'
          ·subst e1
           refine au4 ?_ ?_
           ·rw[bD,a_ (by rw[hlL,<-HEN.o];exact hlt2),Option.getD_some];exact HT.o.idle q rfl e2 _ (bf _)
           ·rw[bD,a_ (by rw[x_.o];omega),Option.getD_some];exact(HQ0.o q rfl e2).2 _ (bf _)
         ·rw[if_neg (fun h=>e0 (her.symm.trans h))] at heq
          refine⟨by unfold IE;rw[<-heq];exact her,by rw[<-heq];exact hmc,tt⟩)
       clear C1' her;generalize rs.getD (qI a3 E.length (i+late)) 0=za at *;generalize qs.getD (qI b0 D.length i) 0=zb at *
       go_wp2_with fail;refine(C1.o).mono ?_
       rintro e w5 ⟨rfl,hb5⟩;have D2:=aI (C2.o w5 hb5);have lL:=aI hb5;clear hb5
       go_wp2_with fail;refine(D2.o).mono ?_
       rintro e w6 ⟨rfl,hb6⟩;have D3:=aI (C3.o w6 (lL.o.trans (hb6.mono lL.o.size)));clear hb6 D2 C1 C2
       go_wp2_with fail;refine(D3.o).mono ?_
       rintro e w7 ⟨rfl,hE1,hE2⟩;have HE1:=aI hE1;have HE2:=aI hE2;clear hE1 hE2 D3 C3
       by_cases er0:er=0
       ·subst er0
        obtain⟨L',a5,F5,ht⟩:=HE1.o rfl;have HT':=aI ht;clear ht HE2
        go_wp2_with fail
        go_roundg i
        case measure=>have:=Cf.o;omega
        case rel=>exact⟨i,L',a5,F5,rfl,ae,ai,HT'⟩
       ·go_wp2_with fail
        go_ret;obtain⟨m1,m2,m3⟩:=HE2.o er0;have hS0:PU sp B o s a=s:=by unfold PU;rw[if_neg (by rw[m1];exact er0)]
        rw[m1,hS0];have X0:gQ sp s x F w:=⟨a0,C,_,ps,Ow,G,HW.o,HL.o.1,hFx,hGF,hF⟩;exact⟨rfl,(jw sp s x).more ((jw sp s x).far X0 m3 (fun j hj h=>(HD.o j h).1 hj)) (fun _ h=>.inl h) (jU hF m3.size),m2,m3.mono (fun _ h=>.inr h)⟩
open Tryz
open Go.RowKit Go.Lib Go.Shelf
open Tryz
open Go.RowKit Go.Lib Go.Shelf
theorem ak3(oks:jG sp)(w:World)(h:gQ sp s x F w)(h2:gQ sp o y Fy w)(hn:rQ sp n s)(hno:rQ sp n o)(hn0:0<n)
 (hc:jf cq B a H w) (hd:∀k,H k->¬F k/\¬Fy k) (hq:∀q,sp=.k q->cq=.pointer none->(∀c∈s.L,c.L=[])/\∀c∈o.L,c.L=[]) :
 aH 12 #[.pointer (some ⟨x,0,none⟩),.pointer (some ⟨y,0,none⟩),cq] w (qP (gQ sp (PU sp B o s a) x) (jf cq B (D9 sp B o s a).2.1) F H (IE sp B o s a) w):=by
 cases sp with
 | h lo hi dg u m gr=>exact uf rfl oks w h h2 hn hno hn0 hc hd hq
 | d a m=>exact uf rfl oks w h h2 hn hno hn0 hc hd hq
 | t d=>exact uf rfl oks w h h2 hn hno hn0 hc hd hq
 | k q=>exact uf rfl oks w h h2 hn hno hn0 hc hd hq
open Tryz
open Go.RowKit Go.Lib Go.Shelf
theorem VU(ok:jG sp):(oO sp [] sp.new sp.new 0).1=sp.new/\D8 sp sp.new sp.new=0/\∀q,sp=.k q->K.iH q (K.lH sp.new.L sp.new.L)=none:=by
 refine⟨?_,Qs (tN ok),fun q e=>?_⟩
 ·have e0:=Qs (tN ok)
  cases sp with
  | h lo hi dg u m gr=>
   have e1:Xu ([]:List Pr) []=0:=e0;show({(fG.h lo hi dg u m gr).new with bk:=htB [] [] _ _,l:=htL [] []}:Js)=_
   unfold htB htL;rw[if_pos e1,if_pos e1,Nat.max_self];rfl
  | d a m=>rfl
  | t d=>
   have e1:iJ St.zero St.zero=0:=e0;show(if iJ St.zero St.zero=0 then({(fG.t d).new with s:=St.zero.take d St.zero}:Js) else(fG.t d).new)=_
   rw[if_pos e1];have e2:St.zero.take d St.zero=St.zero:=by unfold St.take;rw[if_pos (show Go.Proofs.YtilcnjbpmoijmaaGreat.tot (St.zero.L++St.zero.W)=0 from rfl)]
   rw[e2];rfl
  | k q=>
   have h:yH q [] 0:=tN ok;have e2:K.jR q [] ([],0) ([],0,0)=([],0,0):=by
    unfold K.jR;rw[if_pos ax]
    exact K.qf (s:=(([]:K.LL),0,0)) h.fit.none
   show({(fG.k q).new with L:=(K.jR q [] ([],0) ([],0,0)).1,led:=(K.jR q [] ([],0) ([],0,0)).2.1}:Js)=_
   rw[e2];rfl
 ·subst e
  have h:=tN ok;have h2:yH q [] 0:=h;exact h2.fit.none
open Tryz
open Go.RowKit Go.Lib Go.Shelf
theorem ak4(ok:jG sp):oO sp [] sp.new sp.new 0=(sp.new,0):=by
 have h1:=(VU ok).1;have h2:(oO sp [] sp.new sp.new 0).2=0:=by
  cases sp with
  | h lo hi dg u m gr=>rfl
  | d a m=>rfl
  | t d=>rfl
  | k q=>
   have h:yH q [] 0:=tN ok;have e2:K.jR q [] ([],0) ([],0,0)=([],0,0):=by
    unfold K.jR;rw[if_pos ax]
    exact K.qf (s:=(([]:K.LL),0,0)) h.fit.none
   show(K.jR q [] ([],0) ([],0,0)).2.2=0
   rw[e2]
 exact Prod.ext h1 h2
theorem Qu{sp:fG}(ok:jG sp)(n:Nat):∀k,k<=n->Hz sp [] 0 (List.replicate n sp.new) k (List.replicate n sp.new) 0=(List.replicate n sp.new,0,0)
 | 0,_=>rfl
 | k+1,hk=>by
  have e1:(List.replicate n sp.new).getD k sp.new=sp.new:=by
   rw[bD,a_ (by rw[b_];omega),List.getElem_replicate];rfl
  rw[Hz,if_neg (by rw[b_];omega),Nat.add_zero,e1,if_pos (VU ok).2.1,ak4 ok]
  show Hz sp [] 0 _ k ((List.replicate n sp.new).set k sp.new) 0=_
  rw[List.set_replicate_self];exact Qu ok n k ae
theorem VV(ok:jG sp)(n:Nat):IE sp [] (kV sp n) (kV sp n) 0=0/\PU sp [] (kV sp n) (kV sp n) 0=kV sp n:=by
 have hx:D9 sp [] (kV sp n) (kV sp n) 0=(List.replicate n sp.new,0,0):=by
  unfold D9;rw[show MV sp (kV sp n) (kV sp n)=kV sp n from if_neg (Nat.lt_irrefl _),Nat.sub_self]
  show Hz sp [] 0 (List.replicate n sp.new) (List.replicate n sp.new).length (List.replicate n sp.new) 0=_
  rw[b_];exact Qu ok n n (aS _)
 have h1:IE sp [] (kV sp n) (kV sp n) 0=0:=by unfold IE;rw[hx]
 refine⟨h1,?_⟩
 unfold PU;rw[if_pos h1,hx];rfl
theorem ak5(ok:jG sp)(ok2:jG tp)(h:sp.v=tp.v):sp=tp:=by
 cases sp<;>cases tp<;>simp only[fG.v,dS,Value.agg.injEq,Array.mk.injEq,List.cons.injEq,Value.int.injEq,Value.bool.injEq,true_and,and_true] at h<;>(try omega)
 case h.h l h1 d u m g l2 h2 d2 u2 m2 g2=>
  obtain⟨e1,e2,e3,rfl⟩:=h;obtain rfl:l=l2:=ae
  obtain rfl:h1=h2:=ae
  obtain rfl:d=d2:=ae
  have p:nY l h1 d u m:=ok;have q:nY l h1 d u2 m2:=ok2;obtain rfl:u=u2:=p.ue.trans q.ue.symm;obtain rfl:m=m2:=p.me.trans q.me.symm;rfl
 case d.d=>
  obtain⟨e1,e2⟩:=h
  congr 1<;>omega
 case t.t=>congr 1;omega
 case k.k=>congr 1;omega
open Tryz
open Go.RowKit Go.Lib Go.Shelf
theorem fG.frm(sp:fG):∃(kd lo hi dg ac sz:Int) (gr:Bool),sp.v=dS kd lo hi dg gr ac sz/\sp.cs=[.int .u8 kd,.int .i64 lo,.int .i64 hi,.int .i64 dg,.bool gr,.int .i64 ac,.int .i64 sz]:=by
 cases sp<;>exact⟨_,_,_,_,_,_,_,rfl,rfl⟩
theorem Qv{q:Value}(w:World)(h:gQ sp s x F w)(h2:gQ tp o y Fy w)(hn:s.L.length=n)(hm:o.L.length=m)(hne:¬(sp.v=tp.v/\n=m)) :
 aH 12 #[.pointer (some ⟨x,0,none⟩),.pointer (some ⟨y,0,none⟩),q] w (aG w (.int .i64 3)):=by
 obtain⟨a0,C,v,ps,Ow,G,h1,hL,_⟩:=h;obtain⟨b0,D,u,qs,Oy,Gy,k1,kL,_⟩:=h2;have hCn:C.length=n:=by rw[<-fB sp.new a0 C,<-hL];exact hn
 have hDn:D.length=m:=by rw[<-fB tp.new b0 D,<-kL];exact hm
 obtain⟨kd,lo,hi,dg,ac,sz,gr,e1,e2⟩:=sp.frm;obtain⟨kd',lo',hi',dg',ac',sz',gr',e3,e4⟩:=tp.frm;have ly:=k1.blk.lt;have lx:=h1.blk.lt;have hblk:=h1.blk;have ug:=k1.blk;rw[e2] at hblk;rw[e4] at ug;have f0:=hblk.cell 0;have f1:=hblk.cell 1;have f2:=hblk.cell 2;have f3:=hblk.cell 3;have f4:=hblk.cell 4;have f5:=hblk.cell 5;have f6:=hblk.cell 6;have d0:=ug.cell 0;have d1:=ug.cell 1;have d2:=ug.cell 2;have d3:=ug.cell 3;have d4:=ug.cell 4;have d5:=ug.cell 5;have d6:=ug.cell 6;simp only[List.cons_append,List.nil_append,aK,aJ,aN] at f0 f1 f2 f3 f4 f5 f6 d0 d1 d2 d3 d4 d5 d6;have f7:=h1.c7;have d7:=k1.c7;obtain⟨g,c,rfl,_⟩:=h1.ring.pos h1.pos;obtain⟨g2,c2,rfl,_⟩:=k1.ring.pos k1.pos;rw[hCn] at f7;rw[hDn] at d7;have FF:=aI (aP f0 (aP f1 (aP f2 (aP f3 (aP f4 (aP f5 (aP f6 f7)))))));have DD:=aI (aP d0 (aP d1 (aP d2 (aP d3 (aP d4 (aP d5 (aP d6 d7)))))));rw[e1,e3] at hne;unfold dS at hne;have HB:Hid (Below w.heap.size w w.drew.drew):=aI (aO _ _).drew.drew;clear h1 k1 hL kL hn hm hblk ug hCn hDn e1 e2 e3 e4 f0 f1 f2 f3 f4 f5 f6 f7 d0 d1 d2 d3 d4 d5 d6 d7
 by_cases hst:kd'=kd/\lo'=lo/\hi'=hi/\dg'=dg/\gr'=gr/\ac'=ac/\sz'=sz
 ·obtain⟨rfl,rfl,rfl,rfl,rfl,rfl,rfl⟩:=hst
  have hnm:¬(m:Int)=(n:Int):=fun e=>hne ⟨rfl,ae⟩
  clear hne
  go_enter func12,ntmps12
  go_upto_region 3 with fail;refine jh (fun w'=>w'=w.drew) (dV 0 23 []) (rfl) ?_
  iterate 23 refine eQ (h:=fun w' hS'=>by subst hS';obtain⟨f0,f1,f2,f3,f4,f5,f6,f7⟩:=(show Hid (_/\_) from FF).o;obtain⟨d0,d1,d2,d3,d4,d5,d6,d7⟩:=DD.o;replace f0:w.drew.cell? ⟨x,0,none⟩=_:=f0;replace f1:w.drew.cell? ⟨x,1,none⟩=_:=f1;replace f2:w.drew.cell? ⟨x,2,none⟩=_:=f2;replace f3:w.drew.cell? ⟨x,3,none⟩=_:=f3;replace f4:w.drew.cell? ⟨x,4,none⟩=_:=f4;replace f5:w.drew.cell? ⟨x,5,none⟩=_:=f5;replace f6:w.drew.cell? ⟨x,6,none⟩=_:=f6;replace f7:w.drew.cell? ⟨x,7,none⟩=_:=f7;replace d0:w.drew.cell? ⟨y,0,none⟩=_:=d0;replace d1:w.drew.cell? ⟨y,1,none⟩=_:=d1;replace d2:w.drew.cell? ⟨y,2,none⟩=_:=d2;replace d3:w.drew.cell? ⟨y,3,none⟩=_:=d3;replace d4:w.drew.cell? ⟨y,4,none⟩=_:=d4;replace d5:w.drew.cell? ⟨y,5,none⟩=_:=d5;replace d6:w.drew.cell? ⟨y,6,none⟩=_:=d6;replace d7:w.drew.cell? ⟨y,7,none⟩=_:=d7;go_simp;exact⟨rfl,rfl⟩) ?_
  refine dJ ?_
  try refine dR ?_
  go_wp2_with fail
  go_ret;exact⟨rfl,(aO _ _).drew⟩
 ·have YJ:Hid (∀W:World,((if kd'=kd then if lo'=lo then if hi'=hi then if dg'=dg then if gr'=gr then if ac'=ac then if sz'=sz then Result.ok (Next.value (Value.bool false)) W else Result.ok (Next.value (Value.bool true)) W else Result.ok (Next.value (Value.bool true)) W else Result.ok (Next.value (Value.bool true)) W else Result.ok (Next.value (Value.bool true)) W else Result.ok (Next.value (Value.bool true)) W else Result.ok (Next.value (Value.bool true)) W else Result.ok (Next.value (Value.bool true)) W)=Result.ok (Next.value (Value.bool true)) W)):=aI (by
   intro W
   repeat' split
   all_goals first|rfl|exact absurd ⟨‹_›,‹_›,‹_›,‹_›,‹_›,‹_›,‹_›⟩ hst)
  clear hne hst
  go_enter func12,ntmps12
  go_upto_region 3 with fail;refine jh (fun w'=>w'=w.drew) (dV 0 23 []) (rfl) ?_
  iterate 10 refine eQ (h:=fun w' hS'=>by subst hS';obtain⟨f0,f1,f2,f3,f4,f5,f6,f7⟩:=(show Hid (_/\_) from FF).o;obtain⟨d0,d1,d2,d3,d4,d5,d6,d7⟩:=DD.o;replace f0:w.drew.cell? ⟨x,0,none⟩=_:=f0;replace f1:w.drew.cell? ⟨x,1,none⟩=_:=f1;replace f2:w.drew.cell? ⟨x,2,none⟩=_:=f2;replace f3:w.drew.cell? ⟨x,3,none⟩=_:=f3;replace f4:w.drew.cell? ⟨x,4,none⟩=_:=f4;replace f5:w.drew.cell? ⟨x,5,none⟩=_:=f5;replace f6:w.drew.cell? ⟨x,6,none⟩=_:=f6;replace d0:w.drew.cell? ⟨y,0,none⟩=_:=d0;replace d1:w.drew.cell? ⟨y,1,none⟩=_:=d1;replace d2:w.drew.cell? ⟨y,2,none⟩=_:=d2;replace d3:w.drew.cell? ⟨y,3,none⟩=_:=d3;replace d4:w.drew.cell? ⟨y,4,none⟩=_:=d4;replace d5:w.drew.cell? ⟨y,5,none⟩=_:=d5;replace d6:w.drew.cell? ⟨y,6,none⟩=_:=d6;have bu2:=YJ.o w.drew;go_simp;exact⟨rfl,rfl⟩) ?_
  refine Ee ?_
  try go_simp
  refine Ee ?_
  try go_simp
  refine Ee ?_
  try go_simp
  refine Ee ?_
  try go_simp
  refine Ee ?_
  try go_simp
  refine Ee ?_
  try go_simp
  refine Ee ?_
  try go_simp
  refine Ee ?_
  try go_simp
  refine Ee ?_
  try go_simp
  refine Ee ?_
  try go_simp
  refine Ee ?_
  try go_simp
  iterate 2 refine eQ (h:=fun w' hS'=>by subst hS';obtain⟨f0,f1,f2,f3,f4,f5,f6,f7⟩:=(show Hid (_/\_) from FF).o;obtain⟨d0,d1,d2,d3,d4,d5,d6,d7⟩:=DD.o;replace f0:w.drew.cell? ⟨x,0,none⟩=_:=f0;replace f1:w.drew.cell? ⟨x,1,none⟩=_:=f1;replace f2:w.drew.cell? ⟨x,2,none⟩=_:=f2;replace f3:w.drew.cell? ⟨x,3,none⟩=_:=f3;replace f4:w.drew.cell? ⟨x,4,none⟩=_:=f4;replace f5:w.drew.cell? ⟨x,5,none⟩=_:=f5;replace f6:w.drew.cell? ⟨x,6,none⟩=_:=f6;replace d0:w.drew.cell? ⟨y,0,none⟩=_:=d0;replace d1:w.drew.cell? ⟨y,1,none⟩=_:=d1;replace d2:w.drew.cell? ⟨y,2,none⟩=_:=d2;replace d3:w.drew.cell? ⟨y,3,none⟩=_:=d3;replace d4:w.drew.cell? ⟨y,4,none⟩=_:=d4;replace d5:w.drew.cell? ⟨y,5,none⟩=_:=d5;replace d6:w.drew.cell? ⟨y,6,none⟩=_:=d6;have bu2:=YJ.o w.drew;go_simp;exact⟨rfl,rfl⟩) ?_
  refine dJ ?_
  try refine dR ?_
  go_wp2_with fail
  go_ret;exact⟨rfl,(aO _ _).drew⟩
theorem MK(ok:jG sp)(ok2:jG tp)(n1:1<=n)(w:World)(h:gQ sp (kV sp n) x F w)(h2:gQ tp (kV tp m) y Fy w)(hinj:sp.v=tp.v->sp=tp) :
 aH 12 #[.pointer (some ⟨x,0,none⟩),.pointer (some ⟨y,0,none⟩),.pointer none] w fun e w'=>(e=.returned (.int .i64 0)/\(sp.v=tp.v/\n=m)\/e=.returned (.int .i64 3)/\¬(sp.v=tp.v/\n=m))/\gQ sp (kV sp n) x (Gr F w w') w'/\Touch F w w':=by
 by_cases hv:sp.v=tp.v/\n=m
 ·obtain⟨hv1,rfl⟩:=hv
  obtain rfl:=hinj hv1;have hok:rQ sp n (kV sp n):=LY ok;have hnil:∀c∈(kV sp n).L,∀q,sp=.k q->c.L=[]:=fun c hc q e=>by
   subst e;rw[show c=_ from List.eq_of_mem_replicate hc]
   rfl
  have C:=ak3 ok w h h2 hok hok ae (jf.nil_ w) (fun k h=>h.elim) (fun q e _=>⟨fun c hc=>hnil c hc q e,fun c hc=>hnil c hc q e⟩)
  rw[(VV ok n).1,(VV ok n).2] at C;refine C.mono ?_
  rintro e w' ⟨rfl,h3,_,h5⟩;exact⟨.inl ⟨rfl,rfl,rfl⟩,h3,h5.mono fun k h=>h.elim id False.elim⟩
 ·refine(Qv (n:=n) (m:=m) w h h2 (b_ ..) (b_ ..) hv).mono ?_
  rintro e w' ⟨rfl,hb⟩;exact⟨.inr ⟨rfl,hv⟩,(jw sp _ x).more ((jw sp _ x).keep h hb) (fun k e=>.inl e) (fun k e=>e.elim (fun f=>bF ((jw sp _ x).low h k f) hb.size) And.right),Touch.of_below hb (aS _)⟩
end Go.Proofs.YtilcnjbpmoijmaaGreat.D
namespace Go.Proofs.YtilcnjbpmoijmaaGreat
open Tryz
open Go.RowKit
end Go.Proofs.YtilcnjbpmoijmaaGreat
