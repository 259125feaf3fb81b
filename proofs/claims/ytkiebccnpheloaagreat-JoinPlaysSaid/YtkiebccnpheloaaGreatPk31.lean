/- Parts of a proof: what its theorem reaches, words cut short. No condition of its own. -/
import Derived.Test.YtkiebccnpheloaaGreatPk29
import Derived.Test.YtkiebccnpheloaaGreatPk30
set_option maxRecDepth 100000
set_option maxHeartbeats 16000000
set_option linter.unusedVariables false
set_option linter.unusedSimpArgs false
namespace Go.Proofs.YtkiebccnpheloaaGreat.D
open Go.RowKit Go.Lib Go.Shelf Go.Maps
theorem Uz{l:List Pr}(s:iD l)(hp:gQ l)(k:Int):0<=kC l k/\kC l k<=tot l:=by
 have h0:=iY (k:=k) hp;refine⟨h0,?_⟩
 by_cases hz:kC l k=0
 ·have:=dL hp;omega
 ·obtain⟨p,hm,e⟩:=(mO hp _).2 hz
  rw[<-e,Xu s hm];exact pR hp p hm
section
variable {x y lo hi dg u m bk bt : Nat} {gr : Bool} {l t : List Pr} {F Fy : Ft}
theorem Ya(w:World)(h:ry x lo hi dg u m gr bk l F w)(hy:ry y lo hi dg u m gr bt t Fy w)(ok:jo lo hi dg u m gr bk l)(UA:jo lo hi dg u m gr bt t) :
 Calls Tryz.prog 75 #[.pointer (some ⟨x,0,none⟩),.pointer (some ⟨y,0,none⟩)] w (z_ (ry x lo hi dg u m gr (htB l t bk bt) (htL l t)) F (OZ l t) w):=by
 have HH:=aB h;have CX:Hid (∀w1,Below w.heap.size w w1->_):=aB (fun w1 hb=>oD (x:=x) w1 ((kJ x lo hi dg u m gr bk l).keep h hb))
 have CY:Hid (∀w1,Below w.heap.size w w1->_):=aB (fun w1 hb=>oD (x:=y) w1 ((kJ y lo hi dg u m gr bt t).keep hy hb))
 have HE:Hid (OZ l t=if 4611686018427387904<tot l+tot t then 6 else 0):=aB rfl
 have HL:Hid (htL l t=if OZ l t=0 then fA l t else l):=aB rfl
 have HB:Hid (htB l t bk bt=if OZ l t=0 then max bk bt else bk):=aB rfl
 obtain⟨g,b,hB,hM,hC,hFx,hFg,hFb,hF⟩:=h;obtain⟨gy,c,yB,yM,yC,_⟩:=hy;have t0:=dL ok.pos;have t1:=dL UA.pos;have l0:=ok.len;have l1:=UA.len;have s0:=ok.sum;have s1:=UA.sum;have OK:=aB (aN ok UA);have X:=aB (aN hB (aN hM (aN hC (aN hFx (aN hFg (aN hFb hF))))));have Y:=aB (aN yB (aN yM yC));have hxg:x≠g:=by
  rintro rfl;have:=hB.symm.trans hM;simp at this
 have hxb:=(hC.ne hB).symm;have hgb:=(hC.ne hM).symm;have hxc:=(yC.ne hB).symm;have hxl:=hB.lt;have hyl:=yB.lt;obtain⟨er,her⟩:∃er,OZ l t=er:=⟨_,rfl⟩;rw[her] at HE HL HB |-;obtain⟨L9,hL9⟩:∃x,htL l t=x:=⟨_,rfl⟩;obtain⟨B9,hB9⟩:∃x,htB l t bk bt=x:=⟨_,rfl⟩;rw[hL9] at HL |-;rw[hB9] at HB |-;clear her hL9 hB9;have EW:Hid (IntKind.u64.wrap (4611686018427387904 - tot l)=4611686018427387904 - tot l):=aB (by rw[eH];omega)
 have HC:Hid (4611686018427387904<tot l+tot t<->4611686018427387904 - tot l<tot t):=aB ae
 have HS:=aB (AO (A:=l) (B:=t) ok.pos UA.pos);clear hB hM hC hFx hFg hFb hF ok UA yB yM yC;have Bd:Below w.heap.size w w.drew:=(aH _ _).drew
 go_enter Tryz.func75,Tryz.ntmps75
 go_upto_region 3 with fail;refine dD (Below w.heap.size w) [(0,true),(2,true),(1,false),(3,false),(4,true),(5,true),(6,true),(7,true),(8,true),(9,true),(10,true),(11,true),(12,true),(13,true),(14,true),(15,true),(16,true)] (by kernel_rfl) (by kernel_rfl) (Bd) ?_
 iterate 2
  refine dC ax  ax (fun R hR=>?_)
  apply aJ
  refine⟨fun w' hS'=>?_,?_⟩
  ·have k1:=(X.out.1.keep hS').cell 1
   have j1:=(Y.out.1.keep hS').cell 1;simp only[aF,aC,aG] at k1 j1
   go_simp;exact⟨rfl,rfl⟩
  go_simp;refine hR _ ?_;clear hR R
 refine dE ax  ax (fun K hK=>?_)
 go_simp;refine(CY.out w.drew Bd).mono ?_
 rintro e w3 ⟨rfl,hb3⟩;have B3:Below w.heap.size w w3:=Bd.trans hb3;refine hK _ _ (B3) ?_
 clear hK K;refine dE ax  ax (fun K hK=>?_)
 go_simp;refine(CX.out w3 B3).mono ?_
 rintro e w4 ⟨rfl,hb4⟩;have B4:Below w.heap.size w w4:=B3.trans (hb4.mono B3.size);refine hK _ _ (B4) ?_
 clear hK K
 iterate 13
  refine dC ax  ax (fun R hR=>?_)
  apply aJ
  refine⟨fun w' hS'=>?_,?_⟩
  ·have k1:=(X.out.1.keep hS').cell 1
   have j1:=(Y.out.1.keep hS').cell 1;simp only[aF,aC,aG] at k1 j1
   go_simp;exact⟨rfl,rfl⟩
  go_simp;refine hR _ ?_;clear hR R
 refine dF ?_
 go_upto_region 5 with fail;have Rn:Below w.heap.size w w4.drew:=B4.drew
 by_cases hc:4611686018427387904 - tot l<tot t
 ·obtain rfl:er=6:=by rw[HE.out,if_pos (HC.out.2 hc)]
  obtain rfl:L9=l:=by rw[HL.out];rfl
  obtain rfl:B9=bk:=by rw[HB.out];rfl
  clear HC HE HL HB;refine dD (Below w.heap.size w) [(0,true),(1,true),(2,true),(3,true),(4,true),(5,true),(6,true),(7,true),(8,true),(9,true),(10,true)] (by kernel_rfl) (by kernel_rfl) (Rn) ?_
  iterate 11
   refine dC ax  ax (fun R hR=>?_)
   apply aJ
   refine⟨fun w' hS'=>?_,?_⟩
   ·have ew:=EW.out
    have hc':=hc;have k4:=(X.out.1.keep hS').cell 4;have j4:=(Y.out.1.keep hS').cell 4;simp only[aF,aC,aG] at k4 j4
    go_simp;exact⟨rfl,rfl⟩
   go_simp;refine hR _ ?_;clear hR R
  refine dF ?_
  go_wp2_with fail
  go_ret;exact jO (kJ x lo hi dg u m gr B9 L9) HH.out rfl Rn
 obtain rfl:er=0:=by rw[HE.out,if_neg (fun h=>hc (HC.out.1 h))]
 have HSM:Hid (tot l+tot t<=4611686018427387904):=aB (by have:=HC.out;omega)
 obtain rfl:L9=fA l t:=by rw[HL.out];rfl
 obtain rfl:B9=max bk bt:=by rw[HB.out];rfl
 clear HC HE HL HB;refine dD (Below w.heap.size w) [(0,true),(1,true),(2,true),(3,true),(4,true),(5,true),(6,true),(7,true),(8,true),(9,true),(10,true)] (by kernel_rfl) (by kernel_rfl) (Rn) ?_
 iterate 11
  refine dC ax  ax (fun R hR=>?_)
  apply aJ
  refine⟨fun w' hS'=>?_,?_⟩
  ·have ew:=EW.out
   have hc':=hc;have k4:=(X.out.1.keep hS').cell 4;have j4:=(Y.out.1.keep hS').cell 4;simp only[aF,aC,aG] at k4 j4
   go_simp;exact⟨rfl,rfl⟩
  go_simp;refine hR _ ?_;clear hR R
 refine dF ?_
 clear hc EW;have ET:Hid (IntKind.u64.wrap (tot l+tot t)=tot l+tot t):=aB (by have:=HSM.out;rw[eH];omega)
 go_upto_region 7 with fail;have B4e:Below w.heap.size w w4.drew.drew:=Rn.drew;refine dJ (Below w.heap.size w) 11 [(0,true),(1,true),(2,true),(3,true),(4,true),(5,true),(6,true),(7,true),(8,true),(9,true),(10,true)] (by kernel_rfl) (by kernel_rfl) (B4e) ?_
 iterate 11
  refine dK ax  ax (fun R hR=>?_)
  apply aJ
  refine⟨fun w' hS'=>?_,?_⟩
  ·have et:=ET.out
   have k4:=(X.out.1.keep hS').cell 4;have j4:=(Y.out.1.keep hS').cell 4;simp only[aF,aC,aG] at k4 j4
   go_simp;exact⟨rfl,rfl⟩
  go_simp;refine hR _ ?_;clear hR R
 refine dQ ?_
 simp only[bD,bQ];have k4:=(X.out.1.keep B4e).cell 4;have f4:=(X.out.1.keep B4e).frozen 4;simp only[aF,aC,aG] at k4
 go_wp2_with fail;refine dO ?_
 obtain⟨w5,hw5⟩:∃z,(w4.setCell ⟨x,4,none⟩ (.int .u64 (tot l+tot t))).drew.drew=z:=⟨_,rfl⟩;have X4:=X.out.1.keep B4;have Z5:Hid (dH w5 x 241 #[.pointer (some ⟨g,0,none⟩),.bool gr,.int .i64 bk,.map (some b),.int .u64 (tot l+tot t)]/\rQ w5 g lo hi dg u m/\kR w5 b l/\kR w5 c t/\Touch F w w5/\w5.cell? ⟨y,2,none⟩=some (.int .i64 bt)/\w5.cell? ⟨y,3,none⟩=some (.map (some c))):=aB (by
  have y2:=(Y.out.1.keep B4).cell 2;have y3:=(Y.out.1.keep B4).cell 3;simp only[aF,aC,aG] at y2 y3;rw[<-hw5];refine⟨X4.dP 4 _,(bF w4 ⟨x,4,none⟩ _ g (fun e=>hxg e.symm)).trans (dH.keep X.out.2.1 B4),(X.out.2.2.1.keep B4).stay (bF w4 ⟨x,4,none⟩ _ b (fun e=>hxb e.symm)),(Y.out.2.2.keep B4).stay (bF w4 ⟨x,4,none⟩ _ c (fun e=>hxc e.symm)),(((Touch.of_below B4 (aK _)).setCell (p:=⟨x,4,none⟩) (.inl X.out.2.2.2.1) _).drew).drew,?_,?_⟩
  ·exact(World.cell?_setCell_other _ _ _ _ (by intro h;injection h with _ h;omega)).trans y2
  ·exact(World.cell?_setCell_other _ _ _ _ (by intro h;injection h with _ h;omega)).trans y3)
 rw[hw5];clear hw5 k4 f4 X4 B4e Rn
 go_upto_region 8 with fail;have B5d:Below w5.heap.size w5 w5.drew:=(aH _ _).drew;have yl5:y<w5.heap.size:=by have:=Z5.out.2.2.2.2.1.size;omega
 refine dJ (Below w5.heap.size w5) 12 [(0,true),(1,true),(2,true),(3,true),(4,true),(5,true),(6,true),(7,true),(8,true),(9,true),(10,true),(11,true)] (by kernel_rfl) (by kernel_rfl) (B5d) ?_
 iterate 12
  refine dK ax  ax (fun R hR=>?_)
  apply aJ
  refine⟨fun w' hS'=>?_,?_⟩
  ·have k2:=(Z5.out.1.keep hS').cell 2
   have j2:=(hS'.cell (p:=⟨y,2,none⟩) yl5).trans Z5.out.2.2.2.2.2.1;simp only[aF,aC,aG] at k2
   go_simp;exact⟨rfl,rfl⟩
  go_simp;refine hR _ ?_;clear hR R
 refine dQ ?_
 simp only[bD,bQ];have k2:=(Z5.out.1.keep B5d).cell 2;have f2:=(Z5.out.1.keep B5d).frozen 2;simp only[aF,aC,aG] at k2
 go_wp2_with fail;refine dO ?_
 obtain⟨w6,hw6⟩:∃z,(w5.setCell ⟨x,2,none⟩ (.int .i64 (max (bk:Int) (bt:Int)))).drew=z:=⟨_,rfl⟩;have Z6:Hid (dH w6 x 241 #[.pointer (some ⟨g,0,none⟩),.bool gr,.int .i64 ((max bk bt:Nat):Int),.map (some b),.int .u64 (tot l+tot t)]/\rQ w6 g lo hi dg u m/\kR w6 b l/\kR w6 c t/\Touch F w w6/\w6.cell? ⟨y,3,none⟩=some (.map (some c))):=aB (by
  obtain⟨z1,z2,z3,z4,z5,_,z7⟩:=Z5.out;have e:max (bk:Int) (bt:Int)=((max bk bt:Nat):Int):=ae
  rw[<-hw6,e];exact⟨z1.dP 2 _,(bF w5 ⟨x,2,none⟩ _ g (fun e=>hxg e.symm)).trans z2,z3.stay (bF w5 ⟨x,2,none⟩ _ b (fun e=>hxb e.symm)),z4.stay (bF w5 ⟨x,2,none⟩ _ c (fun e=>hxc e.symm)),(z5.setCell (p:=⟨x,2,none⟩) (.inl X.out.2.2.2.1) _).drew,(World.cell?_setCell_other _ _ _ _ (by intro h;injection h with _ h;omega)).trans z7⟩)
 rw[hw6];clear hw6 k2 f2 B5d yl5 Z5
 go_wp2_with fail;refine(DU w6 Z6.out.2.2.2.2.2 Z6.out.2.2.2.1 OK.out.2).mono ?_
 rintro e w7 ⟨v7,rfl,o7,hb7⟩;obtain⟨A7,c7,rfl,_,_,hf7⟩:=o7.form;have HF7:=aB hf7;have hbl:b<w6.heap.size:=Z6.out.2.2.1.lt;have Z7:Hid (kR w7 b l/\Touch F w w7/\dH w7 x 241 #[.pointer (some ⟨g,0,none⟩),.bool gr,.int .i64 ((max bk bt:Nat):Int),.map (some b),.int .u64 (tot l+tot t)]/\rQ w7 g lo hi dg u m):=aB ⟨Z6.out.2.2.1.keep hb7,tbl Z6.out.2.2.2.2.1 hb7,Z6.out.1.keep hb7,dH.keep Z6.out.2.1 hb7⟩;have O7:=aB o7;clear o7 hf7
 go_wp2_with fail
 go_loopg [64] t.length (fun q s wr=>∃j:Nat,q=t.length - j/\j<=t.length/\s=.int .i64 j/\Hid (kR wr b (fA l (t.take j)))/\Hid (Touch (fun k=>k=b) w7 wr))
 case atStart=>exact⟨0,rfl,ae,rfl,aB (by rw[List.take_zero,qV];exact Z7.out.1),aB (Touch.refl _ _)⟩
 case round=>
  obtain⟨j,hq,hj,rfl,HCj,HTj⟩:=hrel;have HQ:=aB hq;clear hq
  by_cases hlt:j<t.length
  ·obtain⟨gp,off,rfl,Yb,c0,c1⟩:=kY HF7.out hlt
   have hgb':gp≠b:=fun e=>by have:=(O7.out.lt gp rfl).1;omega
   have c0:=(eG HTj.out (off+j * 2) Yb hgb').trans c0;have c1:=(eG HTj.out (off+j * 2+1) Yb hgb').trans c1;have hji:(j:Int)<(t.length:Int):=ae
   obtain⟨z,hz⟩:∃z,t[j].1=z:=⟨_,rfl⟩;obtain⟨n,hn⟩:∃n,t[j].2=n:=⟨_,rfl⟩;rw[hz] at c0;rw[hn] at c1
   go_upto_region 12 with fail;have hmem:t[j]∈t:=bu hlt;have hn0:0<n:=by rw[<-hn];exact OK.out.2.pos _ hmem
   have hzb:0<=z/\z<=16777216:=by rw[<-hz];exact OK.out.2.kb _ hmem
   have hsrt:iD (fA l (t.take j)):=lM OK.out.1.gY;have hpos:gQ (fA l (t.take j)):=kF OK.out.1.pos (fun p hp=>OK.out.2.pos p (List.mem_of_mem_take hp))
   have hlen:(fA l (t.take j)).length<=1000000000:=by
    have h1:=AQ (t.take j) l;have h2:=List.length_take_le j t;omega
   have hcn:=Uz hsrt hpos z;rw[nG] at hcn;have hts:=iy hlt;rw[hn] at hts;have htl:=jZ OK.out.2.pos (j+1);have hsm:=HSM.out;have hstep:fA l (t.take (j+1))=eQ z n (fA l (t.take j)):=by rw[aT hlt,Dh,hz,hn]
   have Ro:=aB hstep;have hcb:kC (fA l (t.take j)) z+n<=4611686018427387904:=ae
   have CJ:=HCj;have hxr:x<wr.heap.size:=by have:=HTj.out.size;have:=hb7.size;have:=Z6.out.1.lt;omega
   have K3:Hid (wr.cell? ⟨x,3,none⟩=some (.map (some b))):=aB (by
    have k:=Z7.out.2.2.1.cell 3;simp only[aF,aC,aG] at k;exact(eG HTj.out 3 (by have:=hb7.size;have:=Z6.out.1.lt;omega) hxb).trans k)
   have PB:Hid (dH (wr.alloc (.cells #[.int .i64 z,.int .u64 n] 222)) wr.heap.size 222 #[.int .i64 z,.int .u64 n]):=aB (dH.new _ _ _);have hba:Below wr.heap.size wr (wr.alloc (.cells #[.int .i64 z,.int .u64 n] 222)):=bw;obtain⟨wp,hwp⟩:∃wp,wr.alloc (.cells #[.int .i64 z,.int .u64 n] 222)=wp:=⟨_,rfl⟩;obtain⟨q0,hq0⟩:∃q0,wr.heap.size=q0:=⟨_,rfl⟩;rw[hwp] at PB hba |-;rw[hq0] at PB |-;have EN:Hid (IntKind.u64.wrap (kC (fA l (t.take j)) z+n)=kC (fA l (t.take j)) z+n):=aB (by rw[eH];omega)
   have PZ:=aB (aN hsrt (aN hpos (aN hlen hcb)));clear hwp c0 c1 hstep hts htl hsm hsrt hpos hlen hcb hcn;obtain⟨M,hM⟩:∃M,fA l (t.take j)=M:=⟨_,rfl⟩;rw[hM] at EN PZ CJ Ro;clear hM HCj;have Bpd:Below wp.heap.size wp wp.drew:=(aH _ _).drew;have hqz:wr.heap.size<=q0:=ae
   clear hq0;have hxp:x<wp.heap.size:=by have:=hba.size;omega
   have hql:=PB.out.lt;refine dJ (Below wp.heap.size wp) 10 [(0,true),(1,true),(2,true),(3,true),(4,true),(5,true),(7,true),(8,true),(6,true),(9,true)] (by kernel_rfl) (by kernel_rfl) (Bpd) ?_
   iterate 10
    refine dK ax  ax (fun R hR=>?_)
    apply aJ
    refine⟨fun w' hS'=>?_,?_⟩
    ·have en:=EN.out
     have k3:=(hS'.cell (p:=⟨x,3,none⟩) hxp).trans ((hba.cell (p:=⟨x,3,none⟩) hxr).trans K3.out);have p0:=(PB.out.keep hS').cell 0;have p1:=(PB.out.keep hS').cell 1;have hlk:=((CJ.out.keep hba).keep hS').look (k:=z) ae  ae
     simp only[aF,aC,aG] at p0 p1
     go_simp;exact⟨rfl,rfl⟩
    go_simp;refine hR _ ?_;clear hR R
   refine dQ ?_
   simp only[bD,bQ]
   go_wp2_with (at_mapUpdate;refine upL rfl _ _ _ rfl ((CJ.out.keep hba).keep Bpd) PZ.out.1 PZ.out.2.1 PZ.out.2.2.1 ae  ae hn0 (by have:=PZ.out.2.2.2;omega) rfl rfl rfl ?_;intro w8 C8 hg8)
   refine dO ?_
   go_wp2_with fail
   go_roundg (t.length - (j+1))
   case measure=>have:=HQ.out;omega
   case rel=>exact⟨j+1,rfl,ae,ai,aB (by rw[Ro.out];exact C8),aB ((HTj.out.trans ((Touch.of_below hba (aK _)).trans ((Touch.of_below Bpd (aK _)).trans (Gv (F:=fun k=>k=b) rfl hg8) (fun _ h=>.inl h)) (fun _ h=>.inl h)) (fun _ h=>.inl h)))⟩
  ·obtain rfl:j=t.length:=ae
   have HC9:=HCj;rw[bH (aK _)] at HC9
   go_wp2_with fail
   go_ret;obtain⟨_,T7,B7,M7⟩:=Z7.out;have T9:Touch F w wr:=T7.trans HTj.out (fun k h=>by cases h;exact .inl X.out.2.2.2.2.2.1)
   have B9:dH wr x 241 #[.pointer (some ⟨g,0,none⟩),.bool gr,.int .i64 ((max bk bt:Nat):Int),.map (some b),.int .u64 (tot l+tot t)]:=(HTj.out.block x B7.lt hxb).trans B7;rw[<-nG] at B9;exact⟨rfl,⟨g,b,B9,(HTj.out.block g (dH.lt M7) hgb).trans M7,HC9.out,.inl X.out.2.2.2.1,.inl X.out.2.2.2.2.1,.inl X.out.2.2.2.2.2.1,jI X.out.2.2.2.2.2.2 T9.size⟩,T9⟩
end
open Go.RowKit Go.Lib Go.Shelf
open Go.RowKit Go.Lib Go.Shelf
def aj2(g:Nat)(w w':World):Prop:=∀k T cs,dH w k T cs->T≠5->k≠g->dH w' k T cs
theorem Ba(x:Int)(g base:Nat)(bs:List Int)(w:World)(h:Wr 22 base w g bs)(h0:-9223372036854775808<=x)(h1:x<=9223372036854775807)(hl:bs.length<=1000000000000) :
 Calls Tryz.prog 353 #[.int .i64 x,.pointer (some ⟨g,0,none⟩)] w fun e w'=>e=.returned (.tuple #[])/\Wr 22 base w' g (bs++nn x)/\Below base w w'/\aj2 g w w':=by
 have hlt:=h.lt;have H:=aB h;have CP:Hid (∀(v:Value) (w1:World),iH .u64 w1 v [ub x]->_):=aB (fun v w1 hr=>X9 x v w1 hr h0 h1)
 have HU:Hid (IntKind.u64.wrap x=ub x):=aB rfl;have hnl:=DF x;clear h;generalize nn x=N at *;generalize ub x=u at *;have hu:=HU.out
 go_enter Tryz.func353,Tryz.ntmps353
 go_wp2_with fail;refine(CP.out _ _ (iH.dY _ _ _ _ _ rfl)).mono ?_
 rintro e w1 ⟨v1,rfl,o1,hb1⟩;have hbA:Below base w (w.alloc (.cells #[.int .u64 u] 53)):=(aH _ _).alloc ae _
 have hbB:Below base w w1:=hbA.trans (hb1.mono ah)
 obtain⟨hbg,v2,B2,O2⟩:=(H.out.keep ((aH w.heap.size w).alloc (aK _) (.cells #[.int .u64 u] 53))).keep hb1;have O1:=aB o1;have HB2:=aB (aN B2 (aN hbg O2));have k0:=B2.cell 0;simp only[aF,aC] at k0;clear hu B2 O2 o1;have hz1:=hbB.size
 go_wp2_with (at_builtin;refine pY wC rfl (.tmp 12) (.tmp 13) rfl (dR.1 HB2.out.2.2) rfl _ N rfl (dR.1 O1.out).rd ae  ae ?_;intro v6 w6 o6 g6 _;have P6:=aB (qm (i:=0) HB2.out.1 (dR.1 HB2.out.2.2) af g6 o6);have B6:=jH HB2.out.1 (dR.1 HB2.out.2.2) af g6;have KB6:Hid (∀k T cs,dH w k T cs->T≠5->dH w6 k T cs):=aB (fun k T cs hk hT=>jH ((dH.alloc hk (.cells #[.int .u64 u] 53)).keep hb1) (dR.1 HB2.out.2.2) hT g6);have hb6:Below base w w6:=hbB.grown g6 ae (fun k hk=>(dI.lt (dR.1 HB2.out.2.2) k hk).1);have k0:=B6.cell 0;have f0:=B6.frozen 0;simp only[aF,aC] at k0;obtain⟨A6,c6,ev6,_,_,_⟩:=o6.form;obtain⟨n6,hn6⟩:∃z,(bs++N).length=z:=⟨_,rfl⟩;rw[hn6] at ev6;subst ev6;clear hn6 o6 g6)
 refine bodyPost_end (v:=.tuple #[]) (by simp[results,Tryz.results353,go_sem, *];try rfl) rfl ?_
 exact⟨rfl,⟨hbg,_,P6.out.1,dR.2 P6.out.2⟩,hb6.setCell ae _,fun k T cs hk hT hne=>(bF w6 ⟨g,0,none⟩ _ k hne).trans (KB6.out k T cs hk hT)⟩
theorem ad7(n:Int)(g gp base:Nat)(bs:List Int)(w:World)(h:Wr 22 base w g bs)(hp:w.cell? ⟨gp,0,none⟩=some (.func (.func 353) #[] #[.pointer (some ⟨g,0,none⟩)]))(h0:-9223372036854775808<n)(h1:n<=9223372036854775807)(hl:bs.length<=1000000000000) :
 Calls Tryz.prog 354 #[.int .i64 n,.pointer (some ⟨gp,0,none⟩)] w fun e w'=>e=.returned (.tuple #[])/\Wr 22 base w' g (bs++uT (qy n))/\Below base w w'/\aj2 g w w':=by
 have H:=aB h;have C0:=aB (Ba 0 g base bs w h ae  ae hl)
 have CN:=aB (Ba (-n) g base bs w h ae  ae hl)
 clear h
 by_cases n1:n=1
 ·subst n1
  have e:uT (qy 1)=nn 0:=au
  rw[e]
  go_enter Tryz.func354,Tryz.ntmps354
  go_wp2_with fail;refine(C0.out).mono ?_
  rintro e w1 ⟨rfl,k1,k2,k3⟩
  go_wp2_with fail;refine bodyPost_end (v:=.tuple #[]) (by simp[results,Tryz.results354,go_sem, *];try rfl) rfl ?_
  exact⟨rfl,k1,k2,k3⟩
 ·have n1':(n == 1)=false:=by simpa using n1
  by_cases n2:1<n
  ·have e:uT (qy n)=nn (-n):=by
    unfold qy;rw[if_neg n1,if_pos n2];simp[uT]
   have EW:Hid (IntKind.i64.wrap (-n)=-n):=aB ak
   have ew:=EW.out;rw[e]
   go_enter Tryz.func354,Tryz.ntmps354
   go_wp2_with fail;refine(CN.out).mono ?_
   rintro e w1 ⟨rfl,k1,k2,k3⟩
   go_wp2_with fail;refine bodyPost_end (v:=.tuple #[]) (by simp[results,Tryz.results354,go_sem, *];try rfl) rfl ?_
   exact⟨rfl,k1,k2,k3⟩
  ·have e:uT (qy n)=[]:=by
    unfold qy;rw[if_neg n1,if_neg n2];rfl
   rw[e,List.append_nil]
   go_enter Tryz.func354,Tryz.ntmps354
   go_wp2_with fail;refine bodyPost_end (v:=.tuple #[]) (by simp[results,Tryz.results354,go_sem, *];try rfl) rfl ?_
   exact⟨rfl,H.out,aH _ _,fun _ _ _ h _ _=>h⟩
theorem DW:∀(l:List Pr) (a:Int) (p:Pr),Fg a (l++[p])=Fg a l++(qy (p.1 - uU a l)++[p.2])
 | [],_,_=>by simp[Fg,uU]
 | q::l,a,p=>by rw[List.cons_append,Fg,DW l,Fg,uU,aS];rfl
theorem zf:∀(l:List Pr) (a:Int) (p:Pr),uU a (l++[p])=p.1+1
 | [],_,_=>rfl
 | q::l,a,p=>by rw[List.cons_append,uU,zf l]
theorem Rq{l:List Pr}(h:∀p∈l,0<=p.1/\p.1<=16777216):∀(a:Int),0<=a->a<=16777217->0<=uU a l/\uU a l<=16777217:=by
 induction l with
 | nil=>intro a h0 h1;exact⟨h0,h1⟩
 | cons p l ih=>
  intro a h0 h1;have:=h p (aQ ..);exact ih (fun q hq=>h q (aV _ hq)) _ ae  ae
theorem Pv{lo hi dg u m bk:Nat}{gr:Bool}{l:List Pr}(v:Value)(w:World)(h:gz fU w v l)(ok:jo lo hi dg u m gr bk l):Calls Tryz.prog 249 #[v] w fun e w'=>∃v',e=.returned v'/\OwnB w.heap.size w' v' (rU l)/\Below w.heap.size w w':=by
 obtain⟨A,c,rfl,_,_,hf⟩:=h.form;have HF:=aB hf;have PB:=aB ok.pb;have hlen:=ok.len;have KB:=aB ok.kb;clear h hf ok
 go_enter Tryz.func249,Tryz.ntmps249
 go_wp2_with fail;obtain⟨g,hg⟩:∃g,w.heap.size=g:=⟨_,rfl⟩;obtain⟨w2,hw2⟩:∃w2,(w.alloc (.cells #[.slice none 0 0] 22)).alloc (.cells #[.func (.func 353) #[] #[.pointer (some ⟨w.heap.size,0,none⟩)]] 448)=w2:=⟨_,rfl⟩;have W0:Hid (Wr 22 w.heap.size w2 g []):=by rw[<-hw2,<-hg];exact aB ((Wr.new _ w w.heap.size (aK _)).keep ((aH _ _).alloc (aK _) _))
 have P0:Hid (dH w2 (g+1) 448 #[.func (.func 353) #[] #[.pointer (some ⟨g,0,none⟩)]]):=by
  rw[<-hw2,<-hg];have:=dH.new (w.alloc (.cells #[.slice none 0 0] 22)) 448 #[.func (.func 353) #[] #[.pointer (some ⟨w.heap.size,0,none⟩)]];rw[aO] at this;exact aB this
 have hb2:Below w.heap.size w w2:=by rw[<-hw2];exact bw
 rw[hw2,hg];clear hw2;have HG:=aB hg
 go_loopg [6,13] l.length (fun q s i wr=>∃j:Nat,q=l.length - j/\j<=l.length/\i=.int .i64 j/\s=.int .i64 (uU 0 (l.take j))/\Hid (Wr 22 g wr g (uT (Fg 0 (l.take j))))/\Hid (dH wr (g+1) 448 #[.func (.func 353) #[] #[.pointer (some ⟨g,0,none⟩)]])/\Below g w wr)
 case atStart=>exact⟨0,rfl,ae,rfl,rfl,by rw[List.take_zero];rw[hg] at W0;exact W0,P0,by rw[hg] at hb2;exact hb2⟩
 case round=>
  obtain⟨j,hq,hj,rfl,rfl,HW,HP,hb⟩:=hrel;have HQ:=aB hq;have hz:=hb.size;clear hq
  by_cases hlt:j<l.length
  ·obtain⟨gp,off,rfl,Yb,c0,c1⟩:=kY HF.out hlt
   have hb':Below w.heap.size w wr:=by rw[hg];exact hb
   have c0:=(hb'.cell (p:=⟨gp,off+j * 2,none⟩) Yb).trans c0;have c1:=(hb'.cell (p:=⟨gp,off+j * 2+1,none⟩) Yb).trans c1;have hji:(j:Int)<(l.length:Int):=ae
   have hbd:=PB.out _ (bu hlt);have hed:=Rq (l:=l.take j) (fun p hp=>KB.out p (List.mem_of_mem_take hp)) 0 ae  ae
   have hnl:=xP (Fg 0 (l.take j));have hnm:=AX (l.take j) 0;have htl:(l.take j).length<=16777217:=by rw[bg];omega
   have Bf:Hid (uT (Fg 0 (l.take (j+1)))=uT (Fg 0 (l.take j))++uT (qy (l[j].1 - uU 0 (l.take j)))++nn l[j].2/\uU 0 (l.take (j+1))=l[j].1+1):=aB (by
    rw[aT hlt,DW,zf,ru,ru,aS];refine⟨?_,rfl⟩
    congr 2
    simp[uT])
   generalize l[j].1=x at *;generalize l[j].2=n at *;generalize uU 0 (l.take j)=at_ at *;generalize uT (Fg 0 (l.take j))=BS at *;have EX:Hid (IntKind.i64.wrap (x - at_)=x - at_/\wrap64 n=n/\IntKind.i64.wrap (x+1)=x+1):=aB ⟨by rw[aX];omega,by unfold wrap64;omega,ak⟩
   have hgl:=KJ (x - at_);have Ad:=xP (qy (x - at_));have C2:Hid (∀w3,Wr 22 g w3 g BS->w3.cell? ⟨g+1,0,none⟩=some (.func (.func 353) #[] #[.pointer (some ⟨g,0,none⟩)])->_):=aB (fun w3 h3 k3=>ad7 (x - at_) g (g+1) g BS w3 h3 k3 ae  ae  ae)
   have C1:Hid (∀w3,Wr 22 g w3 g (BS++uT (qy (x - at_)))->_):=aB (fun w3 h3=>Ba n g g (BS++uT (qy (x - at_))) w3 h3 ae  ae (by rw[aI];omega))
   go_upto_region 8 with fail;obtain⟨q0,hq0⟩:∃q0,wr.heap.size=q0:=⟨_,rfl⟩;obtain⟨wp,hwp⟩:∃wp,wr.alloc (.cells #[.int .i64 x,.int .u64 n] 222)=wp:=⟨_,rfl⟩;have PQ:Hid (dH wp q0 222 #[.int .i64 x,.int .u64 n]):=by rw[<-hwp,<-hq0];exact aB (dH.new _ _ _)
   have hba:Below wr.heap.size wr wp:=by rw[<-hwp];exact bw
   rw[hwp,hq0];have hgq:g<q0:=by have:=HW.out.lt;omega
   clear hwp hq0 c0 c1;have WP:=aB (HW.out.keep hba);have PP:=aB (HP.out.keep hba);have k0:=PP.out.cell 0;have p0:=PQ.out.cell 0;simp only[aF,aC] at k0 p0;obtain⟨e1,e2,e3⟩:=EX.out
   go_wp2_with fail;refine(C2.out wp WP.out k0).mono ?_
   rintro e w3 ⟨rfl,W3,hb3,K3⟩;have P3:=aB (K3 _ _ _ PP.out af ae)
   have Q3:=aB (K3 _ _ _ PQ.out af ae)
   have HW3:=aB W3;clear W3 K3 k0 p0;have k0:=P3.out.cell 0;have p1:=Q3.out.cell 1;simp only[aF,aC,aG] at k0 p1
   go_wp2_with fail;refine(C1.out w3 HW3.out).mono ?_
   rintro e w4 ⟨rfl,W4,hb4,K4⟩;have P4:=aB (K4 _ _ _ P3.out af ae)
   have Q4:=aB (K4 _ _ _ Q3.out af ae)
   have HW4:=aB W4;clear W4 K4 k0 p1;have p0:=Q4.out.cell 0;simp only[aF,aC] at p0
   go_wp2_with fail
   go_roundg (l.length - (j+1))
   case measure=>have:=HQ.out;omega
   case rel=>exact⟨j+1,rfl,ae,ai,by rw[Bf.out.2],by rw[Bf.out.1];exact HW4,P4,((hb.trans (hba.mono ae)).trans hb3).trans hb4⟩
  ·obtain rfl:j=l.length:=ae
   have HW9:=HW;rw[bH (aK _)] at HW9;clear HW
   by_cases hl0:l.length=0
   ·have e:l=[]:=aW hl0
    subst e;have C0:=aB (Ba 0 g g [] wr HW9.out ae  ae ag)
    have k0:=HP.out.cell 0;simp only[aF,aC] at k0
    go_wp2_with fail;refine(C0.out).mono ?_
    rintro e w4 ⟨rfl,W4,hb4,K4⟩;obtain⟨_,v4,B4,O4⟩:=W4;have k1:=B4.cell 0;simp only[aF,aC] at k1
    go_wp2_with fail
    go_ret;exact⟨_,rfl,by rw[hg];simpa[rU,nmA,uT] using O4,by rw[hg];exact hb.trans hb4⟩
   ·have hl1:((l.length:Int) == 0)=false:=by simpa using hl0
    obtain⟨_,v4,B4,O4⟩:=HW9.out;have k1:=B4.cell 0;simp only[aF,aC] at k1;have ZF:=aB O4;clear B4 O4
    go_wp2_with fail
    go_ret;have hne:l≠[]:=fun e=>hl0 (by rw[e];rfl)
    exact⟨_,rfl,by rw[hg];unfold rU nmA;rw[if_neg hne];exact ZF.out,by rw[hg];exact hb⟩
open Go.RowKit Go.Lib Go.Shelf
theorem iH.Rt(t:TypeId)(k:IntKind)(w:World)(l:List Int)(cs:Array Value)(hc:cs=(l.map (Value.int k)).toArray)(n:Nat)(hn:n=l.length)(hl:l.length<=100)(H:Nat)(h:w.heap.size=H):iH k (w.alloc (.cells cs t)) (.slice (some ⟨H,0,none⟩) n n) l:=by
 subst hc hn h;refine⟨by simp,_,l.length,rfl,aK _,by unfold maxLen;omega,fun h0=>⟨w.heap.size,0,rfl,ag,fun j hj=>?_⟩⟩
 rw[Nat.zero_add];have hb:(w.alloc (.cells (l.map (Value.int k)).toArray t)).heap[w.heap.size]?=some (.cells (l.map (Value.int k)).toArray t (0,0)):=(dH.new w t (l.map (Value.int k)).toArray);rw[cell_of_row _ _ _ _ _ _ hb];simp
theorem K_{lo hi dg u m bk:Nat}(ok:wB lo hi dg u m)(b1:bk<=64):ig u m hi bk<=9223372036854775807:=by
 have:=ok.h1;unfold ig
 split
 ·exact ok.h1
 ·unfold qp
  split
  ·exact aK _
  ·rename_i h
   have h1:2 ^ (bk - 1+u+m)<=2 ^ 62:=pV ae
   have h2:(2:Nat) ^ 62=4611686018427387904:=af
   omega
theorem Yc{x lo hi dg u m bk:Nat}{gr:Bool}{l:List Pr}{F:Ft}(w:World)(h:ry x lo hi dg u m gr bk l F w)(ok:jo lo hi dg u m gr bk l):Calls Tryz.prog 148 #[.pointer (some ⟨x,0,none⟩)] w fun e w'=>∃v,e=.returned (.tuple #[v,.int .i64 0])/\OwnB w.heap.size w' v (hwB lo (ig u m hi bk) dg l)/\Below w.heap.size w w':=by
 have S:=kJ x lo hi dg u m gr bk l;have C1:=aB (oD w h);have C2:Hid (∀w1,Below w.heap.size w w1->_):=aB (fun w1 hb=>X8 w1 (S.keep h hb) ok)
 have C3:Hid (∀(v:Value) (w1:World),gz fU w1 v l->_):=aB (fun v w1 hr=>Pv v w1 hr ok)
 have C4:Hid (∀w1,Below w.heap.size w w1->_):=aB (fun w1 hb=>XI w1 (S.keep h hb) ok.sh ok.b0 ok.b1)
 have hrb:=K_ ok.sh ok.b1 (bk:=bk);have hcl:=xQ l;have hll:=ok.len;have hlo:lo<=9223372036854775807:=by have:=ok.sh.h0;have:=ok.sh.h1;omega
 have hdg:=ok.sh.d1;have HB:Hid (hwB lo (ig u m hi bk) dg l=g_ 478450451 (rU l).length 0 dg lo (ig u m hi bk) 4607182418800017408 7++rU l):=aB rfl;rw[HB.out];clear HB S h ok;generalize ig u m hi bk=R at *;generalize rU l=CN at *;obtain⟨N,hN⟩:∃N,CN.length=N:=⟨_,rfl⟩;have HN:=aB hN;rw[hN] at hcl |-;have CP:Hid (∀(v:Value) (w1:World),iH .u64 w1 v [478450451,(N:Int),0,(dg:Int),(lo:Int),(R:Int),4607182418800017408]->_):=aB (fun v w1 hr=>Uy 478450451 N 0 dg lo R 4607182418800017408 v w1 hr ae  ae  ae  ae  ae  ae  ae  ae  ae  ae  ae  ae  ae  ae)
 have EU:Hid (IntKind.u64.wrap (N:Int)=(N:Int)/\IntKind.u64.wrap (dg:Int)=(dg:Int)/\IntKind.u64.wrap (lo:Int)=(lo:Int)/\IntKind.u64.wrap (R:Int)=(R:Int)):=aB ⟨by rw[eH];omega,by rw[eH];omega,by rw[eH];omega,by rw[eH];omega⟩
 have vC:=GI 478450451 N 0 dg lo R 4607182418800017408 7;generalize g_ 478450451 N 0 dg lo R 4607182418800017408 7=OP at *;clear hN
 go_enter Tryz.func148,Tryz.ntmps148
 go_wp2_with fail;refine(C1.out).mono ?_
 rintro e w1 ⟨rfl,hb1⟩
 go_wp2_with fail;refine(C2.out w1 hb1).mono ?_
 rintro e w2 ⟨v2,rfl,o2,hb2⟩;have B2:=hb1.trans (hb2.mono hb1.size)
 go_wp2_with fail;refine(C3.out v2 w2 o2.rd).mono ?_
 rintro e w3 ⟨v3,rfl,o3,hb3⟩;have B3:=B2.trans (hb3.mono B2.size);have O3:=aB o3;obtain⟨A3,c3,ev3,_,_,_⟩:=(dN.rd o3).form;rw[HN.out] at ev3;subst ev3;clear o2 o3
 go_upto_region 4 with fail;obtain⟨b4,hb4⟩:∃z,w3.heap.size=z:=⟨_,rfl⟩;obtain⟨w4,hw4⟩:∃z,w3.alloc (.cells #[.int .i64 lo,.int .i64 hi,.int .i64 dg] 32)=z:=⟨_,rfl⟩;have K4:Hid (dH w4 b4 32 #[.int .i64 lo,.int .i64 hi,.int .i64 dg]):=by rw[<-hw4,<-hb4];exact aB (dH.new _ _ _)
 have b34:Below w3.heap.size w3 w4:=by rw[<-hw4];exact bw
 have B4:Below w.heap.size w w4:=B3.trans (b34.mono B3.size);have O4:=aB (dN.keep O3.out b34);rw[hw4,hb4];clear hw4 hb4 b34;have Rn:Below w4.heap.size w4 w4.drew:=(aH _ _).drew;refine dD (Below w4.heap.size w4) [(0,true),(1,true),(2,true),(3,true),(4,true),(5,true),(6,true),(7,true),(8,true),(9,true),(10,false),(11,true),(12,false),(13,false),(14,true),(15,true),(16,true),(17,true),(18,true)] (by kernel_rfl) (by kernel_rfl) (Rn) ?_
 iterate 10
  refine dC ax  ax (fun R hR=>?_)
  apply aJ
  refine⟨fun w' hS'=>?_,?_⟩
  ·have k0:=(K4.out.keep hS').cell 0
   have k2:=(K4.out.keep hS').cell 2;simp only[aF,aC,aG] at k0 k2;obtain⟨e1,e2,e3,e4⟩:=EU.out
   go_simp;exact⟨rfl,rfl⟩
  go_simp;refine hR _ ?_;clear hR R
 refine dE ax  ax (fun K hK=>?_)
 go_simp;refine(C4.out w4.drew (B4.trans (Rn.mono B4.size))).mono ?_
 rintro e w5 ⟨rfl,hb5⟩;have B5:Below w4.heap.size w4 w5:=Rn.trans hb5;refine hK _ _ (B5) ?_
 clear hK K
 iterate 1
  refine dC ax  ax (fun R hR=>?_)
  apply aJ
  refine⟨fun w' hS'=>?_,?_⟩
  ·have k0:=(K4.out.keep hS').cell 0
   have k2:=(K4.out.keep hS').cell 2;simp only[aF,aC,aG] at k0 k2;obtain⟨e1,e2,e3,e4⟩:=EU.out
   go_simp;exact⟨rfl,rfl⟩
  go_simp;refine hR _ ?_;clear hR R
 refine dE ax  ax (fun K hK=>?_)
 go_simp;have B6:Below w4.heap.size w4 (w5.alloc (.cells #[.int .u64 478450451,.int .u64 N,.int .u64 0,.int .u64 dg,.int .u64 lo,.int .u64 R,.int .u64 4607182418800017408] 53)):=B5.alloc B5.size _;refine hK _ _ (B6) ?_
 clear hK K;refine dE ax  ax (fun K hK=>?_)
 go_simp;refine(CP.out _ _ (iH.Rt 53 .u64 w5 [478450451,(N:Int),0,(dg:Int),(lo:Int),(R:Int),4607182418800017408] _ rfl 7 rfl ag _ rfl)).mono ?_
 rintro e w7 ⟨v7,rfl,o7,hb7⟩;have O7:=aB o7;have B7:Below w4.heap.size w4 w7:=B6.trans (hb7.mono B6.size);clear o7;refine hK _ _ (B7) ?_
 clear hK K
 iterate 5
  refine dC ax  ax (fun R hR=>?_)
  apply aJ
  refine⟨fun w' hS'=>?_,?_⟩
  ·have k0:=(K4.out.keep hS').cell 0
   have k2:=(K4.out.keep hS').cell 2;simp only[aF,aC,aG] at k0 k2;obtain⟨e1,e2,e3,e4⟩:=EU.out
   go_simp;exact⟨rfl,rfl⟩
  go_simp;refine hR _ ?_;clear hR R
 refine dF ?_
 have O47:=aB (dN.keep O4.out B7);have BW7:=B4.trans (B7.mono B4.size);have hop:OP.length+CN.length<=1099511627776:=by have:=HN.out;omega
 have hO7:=O7.out;rw[aO] at hO7;have HO7:=aB hO7;have JO:w.heap.size<=w5.heap.size+1:=by have:=B4.size;have:=B5.size;omega
 have hz7:w5.heap.size+1<=w7.heap.size:=by have:=hb7.size;rw[aO] at this;exact this
 clear hO7 O7
 go_wp2_with (at_builtin;refine pY wC rfl (.tmp 35) (.tmp 36) rfl (dR.1 HO7.out) rfl _ CN rfl (dR.1 O47.out).rd hop hz7 ?_;intro v8 w8 o8 g8 _;have O8:=aB (dR.2 (o8.more JO));have B8:Below w.heap.size w w8:=BW7.grown g8 BW7.size (fun k hk=>by have:=(dI.lt (dR.1 HO7.out) k hk).1;omega);clear o8 g8)
 go_ret2
 exact⟨_,rfl,O8.out,B8⟩
open Go.RowKit Go.Lib Go.Shelf
open Go.Lib
open Go.RowKit Go.Lib
open Go.RowKit Go.Lib
open Go.RowKit Go.Lib
end Go.Proofs.YtkiebccnpheloaaGreat.D
