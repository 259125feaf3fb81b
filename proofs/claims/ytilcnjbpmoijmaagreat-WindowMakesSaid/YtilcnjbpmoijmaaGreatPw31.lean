/- Parts of a proof. No condition. -/
import Derived.Test.YtilcnjbpmoijmaaGreatPw30
set_option maxRecDepth 100000
set_option maxHeartbeats 16000000
set_option linter.unusedVariables false
set_option linter.unusedSimpArgs false
namespace Go.Proofs.YtilcnjbpmoijmaaGreat.D
open Tryz
open Go.RowKit Go.Lib Go.Shelf Go.Maps
theorem XQ{l:List Pr}(s:gU l)(hp:gK l)(k:Int):0<=lS l k/\lS l k<=tot l:=by
 have h0:=jZ (k:=k) hp;refine⟨h0,?_⟩
 by_cases hz:lS l k=0
 ·have:=dN hp;omega
 ·obtain⟨p,hm,e⟩:=(pI hp _).2 hz
  rw[<-e,ax2 s hm];exact pK hp p hm
section
variable {x y lo hi dg u m bk bt : Nat} {gr : Bool} {l t : List Pr} {F Fy : Ft}
theorem ad8(w:World)(h:qo x lo hi dg u m gr bk l F w)(hy:qo y lo hi dg u m gr bt t Fy w)(ok:je lo hi dg u m gr bk l)(oky:je lo hi dg u m gr bt t) :
 aH 73 #[.pointer (some ⟨x,0,none⟩),.pointer (some ⟨y,0,none⟩)] w (RG (qo x lo hi dg u m gr (htB l t bk bt) (htL l t)) F (Xu l t) w):=by
 have HH:=aI h;have CX:Hid (∀w1,Below w.heap.size w w1->_):=aI (fun w1 hb=>pX (x:=x) w1 ((h_ x lo hi dg u m gr bk l).keep h hb))
 have CY:Hid (∀w1,Below w.heap.size w w1->_):=aI (fun w1 hb=>pX (x:=y) w1 ((h_ y lo hi dg u m gr bt t).keep hy hb))
 have HE:Hid (Xu l t=if 4611686018427387904<tot l+tot t then 6 else 0):=aI rfl
 have HL:Hid (htL l t=if Xu l t=0 then gG l t else l):=aI rfl
 have HB:Hid (htB l t bk bt=if Xu l t=0 then max bk bt else bk):=aI rfl
 obtain⟨g,b,hB,hM,hC,hFx,hFg,hFb,hF⟩:=h;obtain⟨gy,c,yB,yM,yC,_⟩:=hy;have t0:=dN ok.pos;have t1:=dN oky.pos;have l0:=ok.len;have l1:=oky.len;have s0:=ok.sum;have s1:=oky.sum;have OK:=aI (aP ok oky);have X:=aI (aP hB (aP hM (aP hC (aP hFx (aP hFg (aP hFb hF))))));have Y:=aI (aP yB (aP yM yC));have hxg:x≠g:=by
  rintro rfl;have:=hB.symm.trans hM;simp at this
 have hxb:=(hC.ne hB).symm;have hgb:=(hC.ne hM).symm;have hxc:=(yC.ne hB).symm;have hxl:=hB.lt;have hyl:=yB.lt;obtain⟨er,her⟩:=aF (Xu l t);rw[her] at HE HL HB |-;obtain⟨L9,hL9⟩:∃x,htL l t=x:=⟨_,rfl⟩;obtain⟨B9,hB9⟩:∃x,htB l t bk bt=x:=⟨_,rfl⟩;rw[hL9] at HL |-;rw[hB9] at HB |-;clear her hL9 hB9;have EW:Hid (IntKind.u64.wrap (4611686018427387904 - tot l)=4611686018427387904 - tot l):=aI (by rw[fF];omega)
 have HC:Hid (4611686018427387904<tot l+tot t<->4611686018427387904 - tot l<tot t):=aI ae
 have HS:=aI (Ej (A:=l) (B:=t) ok.pos oky.pos);clear hB hM hC hFx hFg hFb hF ok oky yB yM yC;have Bd:Below w.heap.size w w.drew:=(aO _ _).drew
 go_enter func73,ntmps73
 go_upto_region 3 with fail;refine jh (Below w.heap.size w) (dV 0 1 (dV 2 1 (fJ 1 (fJ 3 (dV 4 13 []))))) (Bd) ?_
 iterate 2 refine eQ (h:=fun w' hS'=>by have k1:=(X.o.1.keep hS').cell 1;have j1:=(Y.o.1.keep hS').cell 1;simp only[aK,aJ,aN] at k1 j1;go_simp;exact⟨rfl,rfl⟩) ?_
 refine fO fun K hK=>?_
 go_simp;refine(CY.o w.drew Bd).mono ?_
 rintro e w3 ⟨rfl,hb3⟩;have B3:Below w.heap.size w w3:=Bd.trans hb3;refine hK _ _ (B3) ?_
 clear hK K;refine fO fun K hK=>?_
 go_simp;refine(CX.o w3 B3).mono ?_
 rintro e w4 ⟨rfl,hb4⟩;have B4:Below w.heap.size w w4:=B3.trans (hb4.mono B3.size);refine hK _ _ (B4) ?_
 clear hK K
 iterate 13 refine eQ (h:=fun w' hS'=>by have k1:=(X.o.1.keep hS').cell 1;have j1:=(Y.o.1.keep hS').cell 1;simp only[aK,aJ,aN] at k1 j1;go_simp;exact⟨rfl,rfl⟩) ?_
 refine dJ ?_
 go_upto_region 5 with fail;have XR:Below w.heap.size w w4.drew:=B4.drew
 by_cases hc:4611686018427387904 - tot l<tot t
 ·obtain rfl:er=6:=by rw[HE.o,if_pos (HC.o.2 hc)]
  obtain rfl:L9=l:=by rw[HL.o];rfl
  obtain rfl:B9=bk:=by rw[HB.o];rfl
  clear HC HE HL HB;refine jh (Below w.heap.size w) (dV 0 11 []) (XR) ?_
  iterate 11 refine eQ (h:=fun w' hS'=>by have ew:=EW.o;have hc':=hc;have k4:=(X.o.1.keep hS').cell 4;have j4:=(Y.o.1.keep hS').cell 4;simp only[aK,aJ,aN] at k4 j4;go_simp;exact⟨rfl,rfl⟩) ?_
  refine dJ ?_
  go_wp2_with fail
  go_ret;exact vC (h_ x lo hi dg u m gr B9 L9) HH.o rfl XR
 obtain rfl:er=0:=by rw[HE.o,if_neg (fun h=>hc (HC.o.1 h))]
 have HSM:Hid (tot l+tot t<=4611686018427387904):=aI (by have:=HC.o;omega)
 obtain rfl:L9=gG l t:=by rw[HL.o];rfl
 obtain rfl:B9=max bk bt:=by rw[HB.o];rfl
 clear HC HE HL HB;refine jh (Below w.heap.size w) (dV 0 11 []) (XR) ?_
 iterate 11 refine eQ (h:=fun w' hS'=>by have ew:=EW.o;have hc':=hc;have k4:=(X.o.1.keep hS').cell 4;have j4:=(Y.o.1.keep hS').cell 4;simp only[aK,aJ,aN] at k4 j4;go_simp;exact⟨rfl,rfl⟩) ?_
 refine dJ ?_
 clear hc EW;have ET:Hid (IntKind.u64.wrap (tot l+tot t)=tot l+tot t):=aI (by have:=HSM.o;rw[fF];omega)
 go_upto_region 7 with fail;have B4e:Below w.heap.size w w4.drew.drew:=XR.drew;refine qm (Below w.heap.size w) 11 (dV 0 11 []) (B4e) ?_
 iterate 11 refine mr (h:=fun w' hS'=>by have et:=ET.o;have k4:=(X.o.1.keep hS').cell 4;have j4:=(Y.o.1.keep hS').cell 4;simp only[aK,aJ,aN] at k4 j4;go_simp;exact⟨rfl,rfl⟩) ?_
 refine d_ ?_
 simp only[bT,cO];have k4:=(X.o.1.keep B4e).cell 4;have f4:=(X.o.1.keep B4e).frozen 4;simp only[aK,aJ,aN] at k4
 go_wp2_with fail;refine dR ?_
 obtain⟨w5,hw5⟩:∃z,(w4.setCell ⟨x,4,none⟩ (.int .u64 (tot l+tot t))).drew.drew=z:=⟨_,rfl⟩;have X4:=X.o.1.keep B4;have Z5:Hid (dK w5 x 193 #[.pointer (some ⟨g,0,none⟩),.bool gr,.int .i64 bk,.map (some b),.int .u64 (tot l+tot t)]/\nX w5 g lo hi dg u m/\lM w5 b l/\lM w5 c t/\Touch F w w5/\w5.cell? ⟨y,2,none⟩=some (.int .i64 bt)/\w5.cell? ⟨y,3,none⟩=some (.map (some c))):=aI (by
  have y2:=(Y.o.1.keep B4).cell 2;have y3:=(Y.o.1.keep B4).cell 3;simp only[aK,aJ,aN] at y2 y3;rw[<-hw5];refine⟨X4.dQ 4 _,(bM w4 ⟨x,4,none⟩ _ g (fun e=>hxg e.symm)).trans (dK.keep X.o.2.1 B4),(X.o.2.2.1.keep B4).stay (bM w4 ⟨x,4,none⟩ _ b (fun e=>hxb e.symm)),(Y.o.2.2.keep B4).stay (bM w4 ⟨x,4,none⟩ _ c (fun e=>hxc e.symm)),(((Touch.of_below B4 (aS _)).setCell (p:=⟨x,4,none⟩) (.inl X.o.2.2.2.1) _).drew).drew,?_,?_⟩
  ·exact(World.cell?_setCell_other _ _ _ _ (by intro h;injection h with _ h;omega)).trans y2
  ·exact(World.cell?_setCell_other _ _ _ _ (by intro h;injection h with _ h;omega)).trans y3)
 rw[hw5];clear hw5 k4 f4 X4 B4e XR
 go_upto_region 8 with fail;have B5d:Below w5.heap.size w5 w5.drew:=(aO _ _).drew;have yl5:y<w5.heap.size:=by have:=Z5.o.2.2.2.2.1.size;omega
 refine qm (Below w5.heap.size w5) 12 (dV 0 12 []) (B5d) ?_
 iterate 12 refine mr (h:=fun w' hS'=>by have k2:=(Z5.o.1.keep hS').cell 2;have j2:=(hS'.cell (p:=⟨y,2,none⟩) yl5).trans Z5.o.2.2.2.2.2.1;simp only[aK,aJ,aN] at k2;go_simp;exact⟨rfl,rfl⟩) ?_
 refine d_ ?_
 simp only[bT,cO];have k2:=(Z5.o.1.keep B5d).cell 2;have f2:=(Z5.o.1.keep B5d).frozen 2;simp only[aK,aJ,aN] at k2
 go_wp2_with fail;refine dR ?_
 obtain⟨w6,hw6⟩:∃z,(w5.setCell ⟨x,2,none⟩ (.int .i64 (max (bk:Int) (bt:Int)))).drew=z:=⟨_,rfl⟩;have Z6:Hid (dK w6 x 193 #[.pointer (some ⟨g,0,none⟩),.bool gr,.int .i64 ((max bk bt:Nat):Int),.map (some b),.int .u64 (tot l+tot t)]/\nX w6 g lo hi dg u m/\lM w6 b l/\lM w6 c t/\Touch F w w6/\w6.cell? ⟨y,3,none⟩=some (.map (some c))):=aI (by
  obtain⟨z1,z2,z3,z4,z5,_,z7⟩:=Z5.o;have e:max (bk:Int) (bt:Int)=((max bk bt:Nat):Int):=ae
  rw[<-hw6,e];exact⟨z1.dQ 2 _,(bM w5 ⟨x,2,none⟩ _ g (fun e=>hxg e.symm)).trans z2,z3.stay (bM w5 ⟨x,2,none⟩ _ b (fun e=>hxb e.symm)),z4.stay (bM w5 ⟨x,2,none⟩ _ c (fun e=>hxc e.symm)),(z5.setCell (p:=⟨x,2,none⟩) (.inl X.o.2.2.2.1) _).drew,(World.cell?_setCell_other _ _ _ _ (by intro h;injection h with _ h;omega)).trans z7⟩)
 rw[hw6];clear hw6 k2 f2 B5d yl5 Z5
 go_wp2_with fail;refine(GZ w6 Z6.o.2.2.2.2.2 Z6.o.2.2.2.1 OK.o.2).mono ?_
 rintro e w7 ⟨v7,rfl,o7,hb7⟩;obtain⟨A7,c7,rfl,_,_,hf7⟩:=o7.form;have HF7:=aI hf7;have hbl:b<w6.heap.size:=Z6.o.2.2.1.lt;have Z7:Hid (lM w7 b l/\Touch F w w7/\dK w7 x 193 #[.pointer (some ⟨g,0,none⟩),.bool gr,.int .i64 ((max bk bt:Nat):Int),.map (some b),.int .u64 (tot l+tot t)]/\nX w7 g lo hi dg u m):=aI ⟨Z6.o.2.2.1.keep hb7,tbl Z6.o.2.2.2.2.1 hb7,Z6.o.1.keep hb7,dK.keep Z6.o.2.1 hb7⟩;have O7:=aI o7;clear o7 hf7
 go_wp2_with fail
 go_loopg [64] t.length (fun q s wr=>∃j:Nat,q=t.length - j/\j<=t.length/\s=.int .i64 j/\Hid (lM wr b (gG l (t.take j)))/\Hid (Touch (fun k=>k=b) w7 wr))
 case atStart=>exact⟨0,rfl,ae,rfl,aI (by rw[List.take_zero,zf];exact Z7.o.1),aI (Touch.refl _ _)⟩
 case round=>
  obtain⟨j,hq,hj,rfl,HCj,HTj⟩:=hrel;have HQ:=aI hq;clear hq
  by_cases hlt:j<t.length
  ·obtain⟨gp,off,rfl,Iy,c0,c1⟩:=jQ HF7.o hlt
   have hgb':gp≠b:=fun e=>by have:=(O7.o.lt gp rfl).1;omega
   have c0:=(dO HTj.o (off+j * 2) Iy hgb').trans c0;have c1:=(dO HTj.o (off+j * 2+1) Iy hgb').trans c1;have hji:(j:Int)<(t.length:Int):=ae
   obtain⟨z,hz⟩:=aF (t[j].1);obtain⟨n,hn⟩:=aF (t[j].2);rw[hz] at c0;rw[hn] at c1
   go_upto_region 12 with fail;have hmem:t[j]∈t:=bf hlt;have hn0:0<n:=by rw[<-hn];exact OK.o.2.pos _ hmem
   have hzb:0<=z/\z<=16777216:=by rw[<-hz];exact OK.o.2.kb _ hmem
   have hsrt:gU (gG l (t.take j)):=nC OK.o.1.iU;have hpos:gK (gG l (t.take j)):=oH OK.o.1.pos (fun p hp=>OK.o.2.pos p (List.mem_of_mem_take hp))
   have hlen:(gG l (t.take j)).length<=1000000000:=by
    have h1:=Va (t.take j) l;have h2:=List.length_take_le j t;omega
   have hcn:=XQ hsrt hpos z;rw[sN] at hcn;have hts:=iC hlt;rw[hn] at hts;have htl:=lG OK.o.2.pos (j+1);have hsm:=HSM.o;have hstep:gG l (t.take (j+1))=gz z n (gG l (t.take j)):=by rw[bg hlt,ZB,hz,hn]
   have ax7:=aI hstep;have hcb:lS (gG l (t.take j)) z+n<=4611686018427387904:=ae
   have CJ:=HCj;have hxr:x<wr.heap.size:=by have:=HTj.o.size;have:=hb7.size;have:=Z6.o.1.lt;omega
   have K3:Hid (wr.cell? ⟨x,3,none⟩=some (.map (some b))):=aI (by
    have k:=Z7.o.2.2.1.cell 3;simp only[aK,aJ,aN] at k;exact(dO HTj.o 3 (by have:=hb7.size;have:=Z6.o.1.lt;omega) hxb).trans k)
   have PB:Hid (dK (wr.alloc (.cells #[.int .i64 z,.int .u64 n] 178)) wr.heap.size 178 #[.int .i64 z,.int .u64 n]):=aI (dK.new _ _ _);have hba:Below wr.heap.size wr (wr.alloc (.cells #[.int .i64 z,.int .u64 n] 178)):=bw;obtain⟨wp,hwp⟩:=aF (wr.alloc (.cells #[.int .i64 z,.int .u64 n] 178));obtain⟨q0,hq0⟩:=aF (wr.heap.size);rw[hwp] at PB hba |-;rw[hq0] at PB |-;have EN:Hid (IntKind.u64.wrap (lS (gG l (t.take j)) z+n)=lS (gG l (t.take j)) z+n):=aI (by rw[fF];omega)
   have PZ:=aI (aP hsrt (aP hpos (aP hlen hcb)));clear hwp c0 c1 hstep hts htl hsm hsrt hpos hlen hcb hcn;obtain⟨M,hM⟩:=aF (gG l (t.take j));rw[hM] at EN PZ CJ ax7;clear hM HCj;have Bpd:Below wp.heap.size wp wp.drew:=(aO _ _).drew;have hqz:wr.heap.size<=q0:=ae
   clear hq0;have hxp:x<wp.heap.size:=by have:=hba.size;omega
   have hql:=PB.o.lt;refine qm (Below wp.heap.size wp) 10 (dV 0 6 (dV 7 2 (dV 6 1 (dV 9 1 [])))) (Bpd) ?_
   iterate 10 refine mr (h:=fun w' hS'=>by have en:=EN.o;have k3:=(hS'.cell (p:=⟨x,3,none⟩) hxp).trans ((hba.cell (p:=⟨x,3,none⟩) hxr).trans K3.o);have p0:=(PB.o.keep hS').cell 0;have p1:=(PB.o.keep hS').cell 1;have hlk:=((CJ.o.keep hba).keep hS').look (k:=z) ae  ae ;simp only[aK,aJ,aN] at p0 p1;go_simp;exact⟨rfl,rfl⟩) ?_
   refine d_ ?_
   simp only[bT,cO]
   go_wp2_with (at_mapUpdate;refine upL rfl _ _ _ rfl ((CJ.o.keep hba).keep Bpd) PZ.o.1 PZ.o.2.1 PZ.o.2.2.1 ae  ae hn0 (by have:=PZ.o.2.2.2;omega) rfl rfl rfl ?_;intro w8 C8 hg8)
   refine dR ?_
   go_wp2_with fail
   go_roundg (t.length - (j+1))
   case measure=>have:=HQ.o;omega
   case rel=>exact⟨j+1,rfl,ae,ai,aI (by rw[ax7.o];exact C8),aI ((HTj.o.trans ((Touch.of_below hba (aS _)).trans ((Touch.of_below Bpd (aS _)).trans (Jr (F:=fun k=>k=b) rfl hg8) (fun _ h=>.inl h)) (fun _ h=>.inl h)) (fun _ h=>.inl h)))⟩
  ·obtain rfl:j=t.length:=ae
   have HC9:=HCj;rw[bP (aS _)] at HC9
   go_wp2_with fail
   go_ret;obtain⟨_,T7,B7,M7⟩:=Z7.o;have T9:Touch F w wr:=T7.trans HTj.o (fun k h=>by cases h;exact .inl X.o.2.2.2.2.2.1)
   have B9:dK wr x 193 #[.pointer (some ⟨g,0,none⟩),.bool gr,.int .i64 ((max bk bt:Nat):Int),.map (some b),.int .u64 (tot l+tot t)]:=(HTj.o.block x B7.lt hxb).trans B7;rw[<-sN] at B9;exact⟨rfl,⟨g,b,B9,(HTj.o.block g (dK.lt M7) hgb).trans M7,HC9.o,.inl X.o.2.2.2.1,.inl X.o.2.2.2.2.1,.inl X.o.2.2.2.2.2.1,jU X.o.2.2.2.2.2.2 T9.size⟩,T9⟩
end
open Tryz
open Go.RowKit Go.Lib Go.Shelf
theorem DV.stay{B:Nat}{w w':World}{g:Nat}{l:List Pr}(h:DV B w g l)(hk:∀k,B<=k->k<w.heap.size->w'.heap[k]?=w.heap[k]?):DV B w' g l:=by
 obtain⟨h0,v1,v2,h1,h2,h3⟩:=h;exact⟨h0,v1,v2,(hk g h0 h1.lt).trans h1,h2.stay (fun k e=>hk k (h2.lt k e).1 (h2.lt k e).2),h3.stay (fun k e=>hk k (h3.lt k e).1 (h3.lt k e).2)⟩
section
variable {x g lo hi dg u m bk : Nat} {gr : Bool} {l : List Pr}
theorem TG(w:World)(k0':w.cell? ⟨x,0,none⟩=some (.pointer (some ⟨g,0,none⟩)))(hM:nX w g lo hi dg u m)(hx:x<w.heap.size)(ok:nY lo hi dg u m):aH 275 #[.pointer (some ⟨x,0,none⟩)] w (aG w (.int .i64 ((1+iP u m hi:Nat):Int))):=by
 have C1:Hid (∀w1,Below w.heap.size w w1->_):=aI (fun w1 hb=>sV (w:=w1) (dK.keep hM hb))
 have C2:Hid (∀w1,Below w.heap.size w w1->_):=aI (fun w1 hb=>lY (w:=w1) hi (dK.keep hM hb) ok.um (by have:=ok.h1;omega))
 have K0:=aI k0';clear hM ok k0';generalize 1+iP u m hi=R at *
 go_enter func275,ntmps275
 go_wp2_with fail;have mW:=aI (fun(w':World) (hS':(Below w.heap.size w) w')=>((hS'.cell (p:=⟨x,0,none⟩) hx).trans K0.o))
 refine jh (Below w.heap.size w) (dV 0 8 (fJ 8 (dV 9 1 (fJ 10 (dV 11 1 []))))) ((aO _ _).drew) ?_
 iterate 8 refine eQ ?_
 refine fO fun K hK=>?_
 go_simp;refine(C1.o w.drew (aO _ _).drew).mono ?_
 rintro e w3 ⟨rfl,hb3⟩;have B3:Below w.heap.size w w3:=(aO _ _).drew.trans hb3;refine hK _ _ (B3) ?_
 clear hK K;refine eQ ?_
 refine fO fun K hK=>?_
 go_simp;refine(C2.o w3 B3).mono ?_
 rintro e w4 ⟨rfl,hb4⟩;have B4:Below w.heap.size w w4:=B3.trans (hb4.mono B3.size);refine hK _ _ (B4) ?_
 clear hK K;refine eQ ?_
 refine dJ ?_
 go_wp2_with fail
 go_ret;exact⟨rfl,B4⟩
theorem Vx(v:Value)(w:World)(h:iM fZ w v l)(ok:je lo hi dg u m gr bk l):aH 203 #[.agg #[.int .i64 lo,.int .i64 hi,.int .i64 dg],.bool gr,.int .i64 bk,v] w fun e w'=>∃x,e=.returned (.tuple #[.pointer (some ⟨x,0,none⟩),.int .i64 0])/\qo x lo hi dg u m gr bk l (Gr (fun _=>False) w w') w'/\Below w.heap.size w w':=by
 have CN:Hid (∀w1,_):=aI (fun w1=>Ld gr w1 ok.sh)
 have CT:Hid (∀w1,Below w.heap.size w w1->_):=aI (fun w1 hb=>ad1 v l w1 (h.keep hb) ok.iU ok.pos ok.sum (by have:=ok.len;omega))
 obtain⟨A,c,rfl,_,_,hf⟩:=h.form;have HF:=aI hf;have OK:=aI ok;have hlen:=ok.len;have bx6:=ok.fst;have hb64:=ok.b1;clear h hf ok;obtain⟨b,hbb⟩:=aF (w.heap.size);obtain⟨w0,hw0⟩:=aF (w.alloc (.cells #[.int .i64 lo,.int .i64 hi,.int .i64 dg] 23));have hb0:Below w.heap.size w w0:=by rw[<-hw0];exact bw
 have B0:dK w0 b 23 #[.int .i64 lo,.int .i64 hi,.int .i64 dg]:=by rw[<-hw0,<-hbb];exact dK.new _ _ _
 obtain⟨k0,k1,k2⟩:=B0.c3;have HB0:=aI hb0;clear B0 hb0
 go_enter func203,ntmps203
 go_upto_region 1 with fail;clear hw0 hbb
 go_wp2_with fail;refine(CN.o w0).mono ?_
 rintro e w1 ⟨x,rfl,hx,hb1⟩;have Ip:=HB0.o.trans (hb1.mono HB0.o.size);have HX:=aI hx;have Hb1:=aI (aP hb1 Ip);clear hx hb1 Ip k0 k1 k2
 go_wp2_with fail;refine(CT.o w1 Hb1.o.2).mono ?_
 rintro e w2 ⟨gt,rfl,hT,hb2⟩;have HT:=aI hT;have hbw2:=aI (Hb1.o.2.trans (hb2.mono Hb1.o.2.size));obtain⟨g,bm,hB,hM,hC,hFx,hFg,hFb,_⟩:=(h_ x lo hi dg u m gr _ []).keep HX.o hb2;have hxn:w.heap.size<=x/\w.heap.size<=g/\w.heap.size<=bm:=by
  have:=HB0.o.size;exact⟨bJ this (hFx.elim False.elim And.left),bJ this (hFg.elim False.elim And.left),bJ this (hFb.elim False.elim And.left)⟩
 have cg9:bm<w1.heap.size:=hFb.elim False.elim And.right;have hxg:x≠g:=by
  rintro rfl;have:=hB.symm.trans hM;simp at this
 have hxb:=(hC.ne hB).symm;have hgb:=(hC.ne hM).symm;have hxl:=hB.lt;have hgl:=dK.lt hM;have k2:=hB.cell 2;simp only[aK,aJ,aN] at k2;have X:=aI (aP hB (aP hM hC));clear hB hM hC hFx hFg hFb hT hb2
 go_wp2_with fail
 go_loopg [13,40] l.length (fun q s i wr=>∃j nd:Nat,q=l.length - j/\j<=l.length/\i=.int .i64 j/\s=.int .i64 nd/\nd<=bk/\1+iP u m hi<=nd/\Hid (∀p∈l.take j,∀v:Nat,v<9223372036854775808->p.1=Aj u m v->1+iP u m v<=nd)/\Hid (lM wr bm (l.take j))/\Hid (Touch (fun k=>k=bm) w2 wr))
 case atStart=>exact⟨0,_,rfl,ae,rfl,rfl,bx6,aS _,aI ag,aI (by rw[List.take_zero];exact X.o.2.2),aI (Touch.refl _ _)⟩
 case round=>
  obtain⟨j,nd,hq,hj,rfl,rfl,hnd,ch0,HN,HC,HTc⟩:=hrel;have HQ:=aI hq;clear hq
  by_cases hlt:j<l.length
  ·obtain⟨gp,off,rfl,Iy,c0,c1⟩:=jQ HF.o hlt
   have hgb':gp≠bm:=ae
   have bn6:gp<w2.heap.size:=by have:=hbw2.o.size;omega
   have c0:=(dO HTc.o (off+j * 2) bn6 hgb').trans ((hbw2.o.cell (p:=⟨gp,off+j * 2,none⟩) Iy).trans c0);have c1:=(dO HTc.o (off+j * 2+1) bn6 hgb').trans ((hbw2.o.cell (p:=⟨gp,off+j * 2+1,none⟩) Iy).trans c1);have hji:(j:Int)<(l.length:Int):=ae
   have hmem:l[j]∈l:=bf hlt;obtain⟨vv,hvv,hix,hbv⟩:=OK.o.key _ hmem;have hn0:0<l[j].2:=OK.o.pos _ hmem;have hnt:=pK OK.o.pos _ hmem;have hns:=OK.o.sum;have rZ:Hid (l.take (j+1)=l.take j++[l[j]]):=aI (bg hlt);have hpre:∀p∈l.take j,p.1<l[j].1:=fun p hp=>by
    obtain⟨i,hi,rfl⟩:=List.mem_take_iff_getElem.1 hp;exact List.pairwise_iff_getElem.1 OK.o.iU i j ae hlt ae
   have HX:Hid (l[j]=(l[j].1,l[j].2)):=aI rfl;have hxk:=ax5 OK.o.sh hvv;rw[hix] at c0 hpre HX;generalize l[j].2=n at *;rw[HX.o] at rZ;have hnk:lS (l.take j) (Aj u m vv)=0:=nG (fun p hp=>by have:=hpre p hp;omega)
   have hput:gz (Aj u m vv) n (l.take j)=l.take (j+1):=by rw[rZ.o,Gg hpre]
   have ad9:=aI (aP hnk hput);have hsj:gU (l.take j):=OK.o.iU.sublist (List.take_sublist j l);have hpj:gK (l.take j):=fun p hp=>OK.o.pos p (List.mem_of_mem_take hp)
   have HSP:=aI (aP hsj hpj);clear hpre HX hnk hput hsj hpj;have hjl:(l.take j).length<=1000000000:=by rw[bG];omega
   go_upto_region 11 with fail;obtain⟨q0,hq0⟩:=aF (wr.heap.size);obtain⟨wp,hwp⟩:=aF (wr.alloc (.cells #[.int .i64 (Aj u m vv),.int .u64 n] 178));have PB:Hid (dK wp q0 178 #[.int .i64 (Aj u m vv),.int .u64 n]):=by rw[<-hwp,<-hq0];exact aI (dK.new _ _ _)
   have hba:Below wr.heap.size wr wp:=by rw[<-hwp];exact bw
   rw[hwp,hq0];clear hwp hq0;have hz2:=HTc.o.size;have K0:Hid (wp.cell? ⟨x,0,none⟩=some (.pointer (some ⟨g,0,none⟩))/\wp.cell? ⟨x,3,none⟩=some (.map (some bm))/\nX wp g lo hi dg u m/\lM wp bm (l.take j)):=aI (by
    have a0:=X.o.1.cell 0;have a3:=X.o.1.cell 3;simp only[aK,aJ,aN] at a0 a3;exact⟨(hba.cell (p:=⟨x,0,none⟩) (by show x<_;omega)).trans ((dO HTc.o 0 hxl hxb).trans a0),(hba.cell (p:=⟨x,3,none⟩) (by show x<_;omega)).trans ((dO HTc.o 3 hxl hxb).trans a3),dK.keep ((HTc.o.block g hgl hgb).trans X.o.2.1) hba,HC.o.keep hba⟩)
   have hxp:x<wp.heap.size:=by have:=hba.size;omega
   have CV:Hid (∀w3,Below wp.heap.size wp w3->_):=aI (fun w3 hb=>SI (w:=w3) vv (dK.keep K0.o.2.2.1 hb) OK.o.sh.um OK.o.sh.mb.1 OK.o.sh.mb.2 hvv)
   have hlw:YO u m vv<9223372036854775808:=Nat.lt_of_le_of_lt (aa8 u m vv) hvv;have CB:Hid (∀w3,Below wp.heap.size wp w3->_):=aI (fun w3 hb=>lY (w:=w3) (YO u m vv) (dK.keep K0.o.2.2.1 hb) OK.o.sh.um hlw)
   rw[bm6 OK.o.sh.mb.1 ae] at CB
   have Wd:Below wp.heap.size wp wp.drew:=(aO _ _).drew;have Vy:Hid (∀p∈l.take (j+1),∀v:Nat,v<9223372036854775808->p.1=Aj u m v->1+iP u m v<=max nd (1+iP u m vv)):=aI (fun p hp v hv e=>by
    rw[rZ.o] at hp
    rcases dB.1 hp with hp|hp
    ·have:=HN.o p hp v hv e;omega
    ·obtain rfl:p=((Aj u m vv:Int),n):=by simpa using hp
     have e':Aj u m vv=Aj u m v:=by have:((Aj u m vv:Nat):Int)=Aj u m v:=e;omega
     have e1:=aa7 (u:=u) (m:=m) (v:=vv) OK.o.sh.mb.1 ae
     have e2:=aa7 (u:=u) (m:=m) (v:=v) OK.o.sh.mb.1 ae
     rw[e',e2] at e1;have:=(Prod.ext_iff.1 e1).1;simp only at this;omega)
   generalize Aj u m vv=I at *;generalize YO u m vv=V at *;generalize iP u m vv=B at *;refine jh (Below wp.heap.size wp) (dV 0 6 (fJ 6 (dV 7 5 []))) (Wd) ?_
   iterate 6 refine eQ (h:=fun w' hS'=>by have k0:=(hS'.cell (p:=⟨x,0,none⟩) hxp).trans K0.o.1;have p0:=(PB.o.keep hS').cell 0;simp only[aK,aJ,aN] at p0;go_simp;exact⟨rfl,rfl⟩) ?_
   refine fO fun K hK=>?_
   go_simp;refine(CV.o wp.drew Wd).mono ?_
   rintro e w3 ⟨rfl,hb3⟩;have B3:Below wp.heap.size wp w3:=Wd.trans hb3;refine hK _ _ (B3) ?_
   clear hK K
   iterate 5 refine eQ (h:=fun w' hS'=>by have k0:=(hS'.cell (p:=⟨x,0,none⟩) hxp).trans K0.o.1;have p0:=(PB.o.keep hS').cell 0;simp only[aK,aJ,aN] at p0;go_simp;exact⟨rfl,rfl⟩) ?_
   refine dJ ?_
   have k0:=(B3.cell (p:=⟨x,0,none⟩) hxp).trans K0.o.1
   go_wp2_with fail;refine(CB.o w3 B3).mono ?_
   rintro e w4 ⟨rfl,hb4⟩;have B4:Below wp.heap.size wp w4:=B3.trans (hb4.mono B3.size)
   go_upto_region 15 with fail;have XR:Below wp.heap.size wp w4.drew:=B4.drew;refine qm (Below wp.heap.size wp) 8 (dV 0 8 []) (XR) ?_
   iterate 8 refine mr (h:=fun w' hS'=>by have k3:=(hS'.cell (p:=⟨x,3,none⟩) hxp).trans K0.o.2.1;have p0:=(PB.o.keep hS').cell 0;have p1:=(PB.o.keep hS').cell 1;simp only[aK,aJ,aN] at p0 p1;go_simp;exact⟨rfl,rfl⟩) ?_
   refine d_ ?_
   simp only[bT,cO];have hcn:lS (l.take j) (I:Int)+n=n:=by have:=ad9.o.1;omega
   go_wp2_with (at_mapUpdate;refine upL rfl _ _ _ rfl (K0.o.2.2.2.keep XR) HSP.o.1 HSP.o.2 hjl (k:=(I:Int)) (n:=n) ae  ae hn0 ae rfl rfl (by rw[hcn];rfl) ?_;intro w8 C8 hg8)
   refine dR ?_
   go_wp2_with fail
   go_roundg (l.length - (j+1))
   case measure=>have:=HQ.o;omega
   case rel=>exact⟨j+1,max nd (1+B),rfl,ae,ai,by rw[show max (nd:Int) (1+(B:Int))=((max nd (1+B):Nat):Int) by omega],ae,ae,Vy,aI (by rw[<-ad9.o.2];exact C8),aI (HTc.o.trans ((Touch.of_below hba (aS _)).trans ((Touch.of_below XR (aS _)).trans (Jr (F:=fun k=>k=bm) rfl hg8) (fun _ h=>.inl h)) (fun _ h=>.inl h)) (fun _ h=>.inl h))⟩
  ·obtain rfl:j=l.length:=ae
   have HC9:=HC;rw[bP (aS _)] at HC9 HN;clear HC;have bx7:nd=bk:=by
    rcases OK.o.mx with e|⟨p,hp,v,hv,e1,e2⟩
    ·omega
    ·have:=HN.o p hp v hv e1;omega
   subst bx7;have hz2:=HTc.o.size;have B9:Hid (dK wr x 193 #[.pointer (some ⟨g,0,none⟩),.bool gr,.int .i64 ((1+iP u m hi:Nat):Int),.map (some bm),.int .u64 (tot [])]/\nX wr g lo hi dg u m):=aI ⟨(HTc.o.block x hxl hxb).trans X.o.1,(HTc.o.block g hgl hgb).trans X.o.2.1⟩;have HTb:Hid (DV w1.heap.size wr gt l):=aI (HT.o.stay (fun k h1 h2=>HTc.o.block k h2 ae))
   have CF:=aI (TG (x:=x) wr (by have k:=B9.o.1.cell 0;simpa only[aK,aJ] using k) B9.o.2 ae OK.o.sh)
   have hgw:gr=false->nd=1+iP u m hi:=OK.o.grw;generalize 1+iP u m hi=R at *;have bn7:Hid (∀w5:World,Below wr.heap.size wr w5->∀W:World,W=(w5.setCell ⟨x,2,none⟩ (.int .i64 nd)).setCell ⟨x,4,none⟩ (.int .u64 (tot l))->qo x lo hi dg u m gr nd l (Gr (fun _=>False) w W) W/\Below w.heap.size w W):=aI (fun w5 hb5 W hW=>by
    have hbr:Below w.heap.size w wr:=hbw2.o.trans (HTc.o.below (fun k hk=>by cases hk;exact hxn.2.2) hbw2.o.size)
    have hb6:Below w.heap.size w W:=by rw[hW];exact((hbr.trans (hb5.mono hbr.size)).setCell (p:=⟨x,2,none⟩) hxn.1 _).setCell (p:=⟨x,4,none⟩) hxn.1 _
    have hBW:dK W x 193 #[.pointer (some ⟨g,0,none⟩),.bool gr,.int .i64 nd,.map (some bm),.int .u64 (tot l)]:=by rw[hW];exact((B9.o.1.keep hb5).dQ 2 _).dQ 4 _
    have hMW:nX W g lo hi dg u m:=by rw[hW];exact(bM _ ⟨x,4,none⟩ _ g (fun e=>hxg e.symm)).trans ((bM _ ⟨x,2,none⟩ _ g (fun e=>hxg e.symm)).trans (dK.keep B9.o.2 hb5))
    have hCW:lM W bm l:=(HC9.o.keep hb5).stay (by rw[hW];exact(bM _ ⟨x,4,none⟩ _ bm (fun e=>hxb e.symm)).trans (bM _ ⟨x,2,none⟩ _ bm (fun e=>hxb e.symm)))
    exact⟨⟨g,bm,hBW,hMW,hCW,.inr ⟨hxn.1,hBW.lt⟩,.inr ⟨hxn.2.1,dK.lt hMW⟩,.inr ⟨hxn.2.2,hCW.lt⟩,fun k h=>h.elim False.elim And.right⟩,hb6⟩)
   by_cases hR:R<nd
   ·obtain rfl:gr=true:=by
     cases gr
     ·have:=hgw rfl;omega
     ·rfl
    have hRI:(R:Int)<(nd:Int):=ae
    go_wp2_with fail;refine(CF.o).mono ?_
    rintro e w5 ⟨rfl,hb5⟩
    go_wp2_with fail;refine(Dp w5 (HTb.o.keep hb5)).mono ?_
    rintro e w' ⟨rfl,rfl⟩;have k2:=(B9.o.1.keep hb5).cell 2;have k4:=(B9.o.1.keep hb5).cell 4;have f2:=(B9.o.1.keep hb5).frozen 2;have f4:=(B9.o.1.keep hb5).frozen 4;simp only[aK,aJ,aN] at k2 k4
    go_wp2_with fail
    go_ret2
    obtain⟨h1,h2⟩:=bn7.o w5 hb5 _ rfl;exact⟨x,rfl,h1,h2⟩
   ·have hRI:¬(R:Int)<(nd:Int):=ae
    go_wp2_with fail;refine(CF.o).mono ?_
    rintro e w5 ⟨rfl,hb5⟩
    go_wp2_with fail;refine(Dp w5 (HTb.o.keep hb5)).mono ?_
    rintro e w' ⟨rfl,rfl⟩;have k2:=(B9.o.1.keep hb5).cell 2;have k4:=(B9.o.1.keep hb5).cell 4;have f2:=(B9.o.1.keep hb5).frozen 2;have f4:=(B9.o.1.keep hb5).frozen 4;simp only[aK,aJ,aN] at k2 k4
    go_wp2_with fail
    go_ret2
    obtain⟨h1,h2⟩:=bn7.o w5 hb5 _ rfl;exact⟨x,rfl,h1,h2⟩
end
open Tryz
open Go.RowKit Go.Lib Go.Shelf
variable{l:List Pr}
def ax8(g:Nat)(w w':World):Prop:=∀k T cs,dK w k T cs->T≠5->k≠g->dK w' k T cs
theorem Et(x:Int)(g base:Nat)(bs:List Int)(w:World)(h:Wr 47 base w g bs)(h0:-9223372036854775808<=x)(h1:x<=9223372036854775807)(hl:bs.length<=1000000000000) :
 aH 307 #[.int .i64 x,.pointer (some ⟨g,0,none⟩)] w fun e w'=>e=.returned (.tuple #[])/\Wr 47 base w' g (bs++nn x)/\Below base w w'/\ax8 g w w':=by
 have hlt:=h.lt;have H:=aI h;have CP:Hid (∀(v:Value) (w1:World),iY .u64 w1 v [ub x]->_):=aI (fun v w1 hr=>ad7 x v w1 hr h0 h1)
 have HU:Hid (IntKind.u64.wrap x=ub x):=aI rfl;have hnl:=Bh x;clear h;generalize nn x=N at *;generalize ub x=u at *;have hu:=HU.o
 go_enter func307,ntmps307
 go_wp2_with fail;refine(CP.o _ _ (iY.fK _ _ _ _ _ rfl)).mono ?_
 rintro e w1 ⟨v1,rfl,o1,hb1⟩;have hbA:Below base w (w.alloc (.cells #[.int .u64 u] 46)):=(aO _ _).alloc ae _
 have hbB:Below base w w1:=hbA.trans (hb1.mono ah)
 obtain⟨hbg,v2,B2,O2⟩:=(H.o.keep ((aO w.heap.size w).alloc (aS _) (.cells #[.int .u64 u] 46))).keep hb1;have O1:=aI o1;have HB2:=aI (aP B2 (aP hbg O2));have k0:=B2.cell 0;simp only[aK,aJ] at k0;clear hu B2 O2 o1;have hz1:=hbB.size
 go_wp2_with (at_builtin;refine uk Ak rfl (.tmp 12) (.tmp 13) rfl (dX.1 HB2.o.2.2) rfl _ N rfl (dX.1 O1.o).rd ae  ae ?_;intro v6 w6 o6 g6 _;have P6:=aI (ve (i:=0) HB2.o.1 (dX.1 HB2.o.2.2) af g6 o6);have B6:=fH HB2.o.1 (dX.1 HB2.o.2.2) af g6;have KB6:Hid (∀k T cs,dK w k T cs->T≠5->dK w6 k T cs):=aI (fun k T cs hk hT=>fH ((dK.alloc hk (.cells #[.int .u64 u] 46)).keep hb1) (dX.1 HB2.o.2.2) hT g6);have hb6:Below base w w6:=hbB.grown g6 ae (fun k hk=>(dL.lt (dX.1 HB2.o.2.2) k hk).1);have k0:=B6.cell 0;have f0:=B6.frozen 0;simp only[aK,aJ] at k0;obtain⟨A6,c6,ev6,_,_,_⟩:=o6.form;obtain⟨n6,hn6⟩:∃z,(bs++N).length=z:=⟨_,rfl⟩;rw[hn6] at ev6;subst ev6;clear hn6 o6 g6)
 refine bodyPost_end (v:=.tuple #[]) (by simp[results,Tryz.results307,go_sem, *];try rfl) rfl ?_
 exact⟨rfl,⟨hbg,_,P6.o.1,dX.2 P6.o.2⟩,hb6.setCell ae _,fun k T cs hk hT hne=>(bM w6 ⟨g,0,none⟩ _ k hne).trans (KB6.o k T cs hk hT)⟩
theorem aq5(n:Int)(g gp base:Nat)(bs:List Int)(w:World)(h:Wr 47 base w g bs)(hp:w.cell? ⟨gp,0,none⟩=some (.func (.func 307) #[] #[.pointer (some ⟨g,0,none⟩)]))(h0:-9223372036854775808<n)(h1:n<=9223372036854775807)(hl:bs.length<=1000000000000) :
 aH 308 #[.int .i64 n,.pointer (some ⟨gp,0,none⟩)] w fun e w'=>e=.returned (.tuple #[])/\Wr 47 base w' g (bs++kH (oJ n))/\Below base w w'/\ax8 g w w':=by
 have H:=aI h;have C0:=aI (Et 0 g base bs w h ae  ae hl)
 have CN:=aI (Et (-n) g base bs w h ae  ae hl)
 clear h
 by_cases n1:n=1
 ·subst n1
  have e:kH (oJ 1)=nn 0:=au
  rw[e]
  go_enter func308,ntmps308
  go_wp2_with fail;refine(C0.o).mono ?_
  rintro e w1 ⟨rfl,k1,k2,k3⟩
  go_wp2_with fail;refine bodyPost_end (v:=.tuple #[]) (by simp[results,Tryz.results308,go_sem, *];try rfl) rfl ?_
  exact⟨rfl,k1,k2,k3⟩
 ·have n1':(n == 1)=false:=by simpa using n1
  by_cases n2:1<n
  ·have e:kH (oJ n)=nn (-n):=by
    unfold oJ;rw[if_neg n1,if_pos n2];simp[kH]
   have EW:Hid (IntKind.i64.wrap (-n)=-n):=aI ak
   have ew:=EW.o;rw[e]
   go_enter func308,ntmps308
   go_wp2_with fail;refine(CN.o).mono ?_
   rintro e w1 ⟨rfl,k1,k2,k3⟩
   go_wp2_with fail;refine bodyPost_end (v:=.tuple #[]) (by simp[results,Tryz.results308,go_sem, *];try rfl) rfl ?_
   exact⟨rfl,k1,k2,k3⟩
  ·have e:kH (oJ n)=[]:=by
    unfold oJ;rw[if_neg n1,if_neg n2];rfl
   rw[e,List.append_nil]
   go_enter func308,ntmps308
   go_wp2_with fail;refine bodyPost_end (v:=.tuple #[]) (by simp[results,Tryz.results308,go_sem, *];try rfl) rfl ?_
   exact⟨rfl,H.o,aO _ _,fun _ _ _ h _ _=>h⟩
theorem G6:∀(l:List Pr) (a:Int) (p:Pr),Di a (l++[p])=Di a l++(oJ (p.1 - ru a l)++[p.2])
 | [],_,_=>by simp[Di,ru]
 | q::l,a,p=>by rw[List.cons_append,Di,G6 l,Di,ru,aX];rfl
theorem BD:∀(l:List Pr) (a:Int) (p:Pr),ru a (l++[p])=p.1+1
 | [],_,_=>rfl
 | q::l,a,p=>by rw[List.cons_append,ru,BD l]
theorem Vz(h:∀p∈l,0<=p.1/\p.1<=16777216):∀(a:Int),0<=a->a<=16777217->0<=ru a l/\ru a l<=16777217:=by
 induction l with
 | nil=>intro a h0 h1;exact⟨h0,h1⟩
 | cons p l ih=>
  intro a h0 h1;have:=h p (aT ..);exact ih (fun q hq=>h q (aY _ hq)) _ ae  ae
theorem TI{lo hi dg u m bk:Nat}{gr:Bool}(v:Value)(w:World)(h:iM fZ w v l)(ok:je lo hi dg u m gr bk l):aH 237 #[v] w fun e w'=>∃v',e=.returned v'/\OwnB w.heap.size w' v' (kQ l)/\Below w.heap.size w w':=by
 obtain⟨A,c,rfl,_,_,hf⟩:=h.form;have HF:=aI hf;have PB:=aI ok.pb;have hlen:=ok.len;have KB:=aI ok.kb;clear h hf ok
 go_enter func237,ntmps237
 go_wp2_with fail;obtain⟨g,hg⟩:=aF (w.heap.size);obtain⟨w2,hw2⟩:=aF ((w.alloc (.cells #[.slice none 0 0] 47)).alloc (.cells #[.func (.func 307) #[] #[.pointer (some ⟨w.heap.size,0,none⟩)]] 407));have W0:Hid (Wr 47 w.heap.size w2 g []):=by rw[<-hw2,<-hg];exact aI ((Wr.new _ w w.heap.size (aS _)).keep ((aO _ _).alloc (aS _) _))
 have P0:Hid (dK w2 (g+1) 407 #[.func (.func 307) #[] #[.pointer (some ⟨g,0,none⟩)]]):=by
  rw[<-hw2,<-hg];have:=dK.new (w.alloc (.cells #[.slice none 0 0] 47)) 407 #[.func (.func 307) #[] #[.pointer (some ⟨w.heap.size,0,none⟩)]];rw[aV] at this;exact aI this
 have hb2:Below w.heap.size w w2:=by rw[<-hw2];exact bw
 rw[hw2,hg];clear hw2;have HG:=aI hg
 go_loopg [6,13] l.length (fun q s i wr=>∃j:Nat,q=l.length - j/\j<=l.length/\i=.int .i64 j/\s=.int .i64 (ru 0 (l.take j))/\Hid (Wr 47 g wr g (kH (Di 0 (l.take j))))/\Hid (dK wr (g+1) 407 #[.func (.func 307) #[] #[.pointer (some ⟨g,0,none⟩)]])/\Below g w wr)
 case atStart=>exact⟨0,rfl,ae,rfl,rfl,by rw[List.take_zero];rw[hg] at W0;exact W0,P0,by rw[hg] at hb2;exact hb2⟩
 case round=>
  obtain⟨j,hq,hj,rfl,rfl,HW,HP,hb⟩:=hrel;have HQ:=aI hq;have hz:=hb.size;clear hq
  by_cases hlt:j<l.length
  ·obtain⟨gp,off,rfl,Iy,c0,c1⟩:=jQ HF.o hlt
   have hb':Below w.heap.size w wr:=by rw[hg];exact hb
   have c0:=(hb'.cell (p:=⟨gp,off+j * 2,none⟩) Iy).trans c0;have c1:=(hb'.cell (p:=⟨gp,off+j * 2+1,none⟩) Iy).trans c1;have hji:(j:Int)<(l.length:Int):=ae
   have hbd:=PB.o _ (bf hlt);have hed:=Vz (l:=l.take j) (fun p hp=>KB.o p (List.mem_of_mem_take hp)) 0 ae  ae
   have hnl:=zG (Di 0 (l.take j));have hnm:=Eo (l.take j) 0;have htl:(l.take j).length<=16777217:=by rw[bG];omega
   have rZ:Hid (kH (Di 0 (l.take (j+1)))=kH (Di 0 (l.take j))++kH (oJ (l[j].1 - ru 0 (l.take j)))++nn l[j].2/\ru 0 (l.take (j+1))=l[j].1+1):=aI (by
    rw[bg hlt,G6,BD,jW,jW,aX];refine⟨?_,rfl⟩
    congr 2
    simp[kH])
   generalize l[j].1=x at *;generalize l[j].2=n at *;generalize ru 0 (l.take j)=at_ at *;generalize kH (Di 0 (l.take j))=BS at *;have EX:Hid (IntKind.i64.wrap (x - at_)=x - at_/\wrap64 n=n/\IntKind.i64.wrap (x+1)=x+1):=aI ⟨by rw[aW];omega,by unfold wrap64;omega,ak⟩
   have hgl:=Ot (x - at_);have AQ:=zG (oJ (x - at_));have C2:Hid (∀w3,Wr 47 g w3 g BS->w3.cell? ⟨g+1,0,none⟩=some (.func (.func 307) #[] #[.pointer (some ⟨g,0,none⟩)])->_):=aI (fun w3 h3 k3=>aq5 (x - at_) g (g+1) g BS w3 h3 k3 ae  ae  ae)
   have C1:Hid (∀w3,Wr 47 g w3 g (BS++kH (oJ (x - at_)))->_):=aI (fun w3 h3=>Et n g g (BS++kH (oJ (x - at_))) w3 h3 ae  ae (by rw[aQ];omega))
   go_upto_region 8 with fail;obtain⟨q0,hq0⟩:=aF (wr.heap.size);obtain⟨wp,hwp⟩:=aF (wr.alloc (.cells #[.int .i64 x,.int .u64 n] 178));have PQ:Hid (dK wp q0 178 #[.int .i64 x,.int .u64 n]):=by rw[<-hwp,<-hq0];exact aI (dK.new _ _ _)
   have hba:Below wr.heap.size wr wp:=by rw[<-hwp];exact bw
   rw[hwp,hq0];have hgq:g<q0:=by have:=HW.o.lt;omega
   clear hwp hq0 c0 c1;have WP:=aI (HW.o.keep hba);have PP:=aI (HP.o.keep hba);have k0:=PP.o.cell 0;have p0:=PQ.o.cell 0;simp only[aK,aJ] at k0 p0;obtain⟨e1,e2,e3⟩:=EX.o
   go_wp2_with fail;refine(C2.o wp WP.o k0).mono ?_
   rintro e w3 ⟨rfl,W3,hb3,K3⟩;have P3:=aI (K3 _ _ _ PP.o af ae)
   have Q3:=aI (K3 _ _ _ PQ.o af ae)
   have HW3:=aI W3;clear W3 K3 k0 p0;have k0:=P3.o.cell 0;have p1:=Q3.o.cell 1;simp only[aK,aJ,aN] at k0 p1
   go_wp2_with fail;refine(C1.o w3 HW3.o).mono ?_
   rintro e w4 ⟨rfl,W4,hb4,K4⟩;have P4:=aI (K4 _ _ _ P3.o af ae)
   have Q4:=aI (K4 _ _ _ Q3.o af ae)
   have HW4:=aI W4;clear W4 K4 k0 p1;have p0:=Q4.o.cell 0;simp only[aK,aJ] at p0
   go_wp2_with fail
   go_roundg (l.length - (j+1))
   case measure=>have:=HQ.o;omega
   case rel=>exact⟨j+1,rfl,ae,ai,by rw[rZ.o.2],by rw[rZ.o.1];exact HW4,P4,((hb.trans (hba.mono ae)).trans hb3).trans hb4⟩
  ·obtain rfl:j=l.length:=ae
   have HW9:=HW;rw[bP (aS _)] at HW9;clear HW
   by_cases hl0:l.length=0
   ·have e:l=[]:=bz hl0
    subst e;have C0:=aI (Et 0 g g [] wr HW9.o ae  ae ag)
    have k0:=HP.o.cell 0;simp only[aK,aJ] at k0
    go_wp2_with fail;refine(C0.o).mono ?_
    rintro e w4 ⟨rfl,W4,hb4,K4⟩;obtain⟨_,v4,B4,O4⟩:=W4;have k1:=B4.cell 0;simp only[aK,aJ] at k1
    go_wp2_with fail
    go_ret;exact⟨_,rfl,by rw[hg];simpa[kQ,Jo,kH] using O4,by rw[hg];exact hb.trans hb4⟩
   ·have hl1:((l.length:Int) == 0)=false:=by simpa using hl0
    obtain⟨_,v4,B4,O4⟩:=HW9.o;have k1:=B4.cell 0;simp only[aK,aJ] at k1;have HO4:=aI O4;clear B4 O4
    go_wp2_with fail
    go_ret;have hne:l≠[]:=fun e=>hl0 (by rw[e];rfl)
    exact⟨_,rfl,by rw[hg];unfold kQ Jo;rw[if_neg hne];exact HO4.o,by rw[hg];exact hb⟩
end Go.Proofs.YtilcnjbpmoijmaaGreat.D
