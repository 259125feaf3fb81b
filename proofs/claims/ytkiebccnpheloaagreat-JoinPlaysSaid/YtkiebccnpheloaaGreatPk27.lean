/- Parts of a proof: what its theorem reaches, words cut short. No condition of its own. -/
import Derived.Test.YtkiebccnpheloaaGreatPk26
set_option maxRecDepth 100000
set_option maxHeartbeats 16000000
set_option linter.unusedVariables false
set_option linter.unusedSimpArgs false
namespace Go.Proofs.YtkiebccnpheloaaGreat.D
open Go.RowKit Go.Lib Go.Shelf
def ry(x lo hi dg u m:Nat)(gr:Bool)(bk:Nat)(l:List Pr)(F:Ft)(w:World):Prop:=∃g b,dH w x 241 #[.pointer (some ⟨g,0,none⟩),.bool gr,.int .i64 bk,.map (some b),.int .u64 (tot l)]/\rQ w g lo hi dg u m/\kR w b l/\F x/\F g/\F b/\∀k,F k->k<w.heap.size
theorem kJ(x lo hi dg u m:Nat)(gr:Bool)(bk:Nat)(l:List Pr):mQ (ry x lo hi dg u m gr bk l) where
 stay:=fun⟨g,b,h1,h2,h3,h4,h5,h6,h7⟩ hk hz=>⟨g,b,(hk x h4).trans h1,(hk g h5).trans h2,h3.stay (hk b h6),h4,h5,h6,fun k h=>aU (h7 k h) hz⟩
 more:=fun⟨g,b,h1,h2,h3,h4,h5,h6,_⟩ h hl=>⟨g,b,h1,h2,h3,h x h4,h g h5,h b h6,hl⟩
 low:=fun⟨_,_,_,_,_,_,_,_,h7⟩=>h7
theorem ao0(a b c:Int)(w:World):(Instr.field 32 (.agg #[.int .i64 a,.int .i64 b,.int .i64 c]) 1).run Tryz.prog w=.ok (.int .i64 b) w:=by kernel_rfl
section
variable {x lo hi dg u m bk : Nat} {gr : Bool} {l : List Pr} {F : Ft}
theorem oD(w:World)(h:ry x lo hi dg u m gr bk l F w):Calls Tryz.prog 68 #[.pointer (some ⟨x,0,none⟩)] w fun e w'=>e=.returned (.agg #[.int .i64 lo,.int .i64 hi,.int .i64 dg])/\Below w.heap.size w w':=by
 obtain⟨g,bb,hB,hM,_⟩:=h;have C:Hid (∀w1,Below w.heap.size w w1->_):=aB (fun w1 hb=>wE (w:=w1) (dH.keep hM hb))
 obtain⟨b,hbb⟩:∃b,w.heap.size=b:=⟨_,rfl⟩;obtain⟨w1,hw1⟩:∃w1,w.alloc (.cells #[.int .i64 0,.int .i64 0,.int .i64 0] 32)=w1:=⟨_,rfl⟩;have hb1:Below w.heap.size w w1:=by rw[<-hw1];exact bw
 have B1:dH w1 b 32 #[.int .i64 0,.int .i64 0,.int .i64 0]:=by rw[<-hw1,<-hbb];exact dH.new _ _ _
 have k0:=(hB.keep hb1).cell 0;simp only[aF,aC] at k0;have X:=aB (aN hb1 (aN B1 hbb));clear hM hB B1 hb1
 go_enter Tryz.func68,Tryz.ntmps68
 go_upto_region 1 with fail;clear hw1 hbb
 go_wp2_with fail;refine(C.out w1 X.out.1).mono ?_
 rintro e w2 ⟨rfl,hb2⟩;have B2:=X.out.2.1.keep hb2;have f0:=B2.frozen 0;have f1:=B2.frozen 1;have f2:=B2.frozen 2;have j0:=B2.cell 0;have j1:=B2.cell 1;have j2:=B2.cell 2;simp only[aF,aC,aG] at j0 j1 j2;have HB2:=aB (aN B2 hb2);clear B2 hb2
 go_wp2_with fail;have hlt:=HB2.out.1.lt;have c0:=(((HB2.out.1.dP 0 (.int .i64 lo)).dP 1 (.int .i64 hi)).dP 2 (.int .i64 dg)).cell 0;have c1:=(((HB2.out.1.dP 0 (.int .i64 lo)).dP 1 (.int .i64 hi)).dP 2 (.int .i64 dg)).cell 1;have c2:=(((HB2.out.1.dP 0 (.int .i64 lo)).dP 1 (.int .i64 hi)).dP 2 (.int .i64 dg)).cell 2;simp only[bP,List.set_cons_zero,List.set_cons_succ,aF,aC,aG] at c0 c1 c2;refine bodyPost_ret (by simp[results,Tryz.results68,go_sem, *];try rfl) rfl ?_
 have hbb:=X.out.2.2;have pO:=X.out.1.trans (HB2.out.2.mono X.out.1.size);exact⟨rfl,((pO.setCell (p:=⟨b,0,none⟩) (by show _<=b;omega) _).setCell (p:=⟨b,1,none⟩) (by show _<=b;omega) _).setCell (p:=⟨b,2,none⟩) (by show _<=b;omega) _⟩
theorem xR(w:World)(h:ry x lo hi dg u m gr bk l F w):Calls Tryz.prog 69 #[.pointer (some ⟨x,0,none⟩)] w fun e w'=>e=.returned (.bool gr)/\w=w':=by
 obtain⟨g,b,hB,_⟩:=h;have k1:=hB.cell 1;simp only[aF,aC,aG] at k1;clear hB
 go_enter Tryz.func69,Tryz.ntmps69
 go_wp2_with fail
 go_ret;exact⟨rfl,rfl⟩
theorem XG(w:World)(h:ry x lo hi dg u m gr bk l F w):Calls Tryz.prog 123 #[.pointer (some ⟨x,0,none⟩)] w fun e w'=>e=.returned (.int .u64 (tot l))/\w=w':=by
 obtain⟨g,b,hB,_⟩:=h;have k1:=hB.cell 4;simp only[aF,aC,aG] at k1;clear hB
 go_enter Tryz.func123,Tryz.ntmps123
 go_wp2_with fail
 go_ret;exact⟨rfl,rfl⟩
theorem XH(w:World)(h:ry x lo hi dg u m gr bk l F w)(ok:wB lo hi dg u m):Calls Tryz.prog 324 #[.pointer (some ⟨x,0,none⟩)] w fun e w'=>e=.returned (.int .i64 ((1+jL u m hi:Nat):Int))/\Below w.heap.size w w':=by
 obtain⟨g,b,hB,hM,_⟩:=h;have C1:Hid (∀w1,Below w.heap.size w w1->_):=aB (fun w1 hb=>wE (w:=w1) (dH.keep hM hb))
 have C2:Hid (∀w1,Below w.heap.size w w1->_):=aB (fun w1 hb=>rq (w:=w1) hi (dH.keep hM hb) ok.um (by have:=ok.h1;omega))
 have HB:=aB hB;clear hM hB ok;generalize 1+jL u m hi=R at *
 go_enter Tryz.func324,Tryz.ntmps324
 go_wp2_with fail;refine dD (Below w.heap.size w) [(0,true),(1,true),(2,true),(3,true),(4,true),(5,true),(6,true),(7,true),(8,false),(9,true),(10,false),(11,true)] (by kernel_rfl) (by kernel_rfl) ((aH _ _).drew) ?_
 iterate 8
  refine dC ax  ax (fun R hR=>?_)
  apply aJ
  refine⟨fun w' hS'=>?_,?_⟩
  ·have k0:=(HB.out.keep hS').cell 0
   simp only[aF,aC] at k0
   go_simp;exact⟨rfl,rfl⟩
  go_simp;refine hR _ ?_;clear hR R
 refine dE ax  ax (fun K hK=>?_)
 go_simp;refine(C1.out w.drew (aH _ _).drew).mono ?_
 rintro e w3 ⟨rfl,hb3⟩;have B3:Below w.heap.size w w3:=(aH _ _).drew.trans hb3;refine hK _ _ (B3) ?_
 clear hK K
 iterate 1
  refine dC ax  ax (fun R hR=>?_)
  apply aJ
  refine⟨fun w' hS'=>?_,?_⟩
  ·have k0:=(HB.out.keep hS').cell 0
   simp only[aF,aC] at k0
   go_simp;exact⟨rfl,rfl⟩
  go_simp;refine hR _ ?_;clear hR R
 refine dE ax  ax (fun K hK=>?_)
 go_simp;refine(C2.out w3 B3).mono ?_
 rintro e w4 ⟨rfl,hb4⟩;have B4:Below w.heap.size w w4:=B3.trans (hb4.mono B3.size);refine hK _ _ (B4) ?_
 clear hK K
 iterate 1
  refine dC ax  ax (fun R hR=>?_)
  apply aJ
  refine⟨fun w' hS'=>?_,?_⟩
  ·have k0:=(HB.out.keep hS').cell 0
   simp only[aF,aC] at k0
   go_simp;exact⟨rfl,rfl⟩
  go_simp;refine hR _ ?_;clear hR R
 refine dF ?_
 go_wp2_with fail
 go_ret;exact⟨rfl,B4⟩
theorem XI(w:World)(h:ry x lo hi dg u m gr bk l F w)(ok:wB lo hi dg u m)(b0:1<=bk)(b1:bk<=64):Calls Tryz.prog 250 #[.pointer (some ⟨x,0,none⟩)] w fun e w'=>e=.returned (.int .i64 (ig u m hi bk))/\Below w.heap.size w w':=by
 have CF:Hid (∀w1,Below w.heap.size w w1->_):=aB (fun w1 hb=>XH (x:=x) w1 ((kJ x lo hi dg u m gr bk l).keep h hb) ok)
 obtain⟨g,b,hB,hM,_⟩:=h;have HE:Hid (ig u m hi bk=if bk=1+jL u m hi then hi else qp u m bk):=aB rfl
 rw[HE.out];have C1:Hid (∀w1,Below w.heap.size w w1->_):=aB (fun w1 hb=>wE (w:=w1) (dH.keep hM hb))
 have C2:Hid (∀w1,Below w.heap.size w w1->_):=aB (fun w1 hb=>KO (w:=w1) bk (dH.keep hM hb) ok.um b0 b1)
 have HB:=aB hB;clear hM hB ok HE;generalize 1+jL u m hi=R at *;generalize qp u m bk=T at *
 by_cases he:bk=R
 ·subst he
  rw[if_pos rfl];have hd:((bk:Int) == (bk:Int))=true:=ag
  have hfd:=ao0
  go_enter Tryz.func250,Tryz.ntmps250
  go_wp2_with fail;refine dD (Below w.heap.size w) [(0,true),(1,true),(2,true),(3,true),(4,true),(5,false),(6,true)] (by kernel_rfl) (by kernel_rfl) ((aH _ _).drew) ?_
  iterate 5
   refine dC ax  ax (fun R hR=>?_)
   apply aJ
   refine⟨fun w' hS'=>?_,?_⟩
   ·have k2:=(HB.out.keep hS').cell 2
    simp only[aF,aC,aG] at k2
    go_simp;exact⟨rfl,rfl⟩
   go_simp;refine hR _ ?_;clear hR R
  refine dE ax  ax (fun K hK=>?_)
  go_simp;refine(CF.out w.drew (aH _ _).drew).mono ?_
  rintro e w3 ⟨rfl,hb3⟩;have B3:Below w.heap.size w w3:=(aH _ _).drew.trans hb3;refine hK _ _ (B3) ?_
  clear hK K
  iterate 1
   refine dC ax  ax (fun R hR=>?_)
   apply aJ
   refine⟨fun w' hS'=>?_,?_⟩
   ·have k2:=(HB.out.keep hS').cell 2
    simp only[aF,aC,aG] at k2
    go_simp;exact⟨rfl,rfl⟩
   go_simp;refine hR _ ?_;clear hR R
  refine dF ?_
  have k0:=(HB.out.keep B3).cell 0;simp only[aF,aC] at k0
  go_wp2_with fail;refine(C1.out w3 B3).mono ?_
  rintro e w4 ⟨rfl,hb4⟩
  go_wp2_with fail
  go_ret;exact⟨rfl,B3.trans (hb4.mono B3.size)⟩
 ·rw[if_neg he]
  have hd:((bk:Int) == (R:Int))=false:=ah
  go_enter Tryz.func250,Tryz.ntmps250
  go_wp2_with fail;refine dD (Below w.heap.size w) [(0,true),(1,true),(2,true),(3,true),(4,true),(5,false),(6,true)] (by kernel_rfl) (by kernel_rfl) ((aH _ _).drew) ?_
  iterate 5
   refine dC ax  ax (fun R hR=>?_)
   apply aJ
   refine⟨fun w' hS'=>?_,?_⟩
   ·have k2:=(HB.out.keep hS').cell 2
    simp only[aF,aC,aG] at k2
    go_simp;exact⟨rfl,rfl⟩
   go_simp;refine hR _ ?_;clear hR R
  refine dE ax  ax (fun K hK=>?_)
  go_simp;refine(CF.out w.drew (aH _ _).drew).mono ?_
  rintro e w3 ⟨rfl,hb3⟩;have B3:Below w.heap.size w w3:=(aH _ _).drew.trans hb3;refine hK _ _ (B3) ?_
  clear hK K
  iterate 1
   refine dC ax  ax (fun R hR=>?_)
   apply aJ
   refine⟨fun w' hS'=>?_,?_⟩
   ·have k2:=(HB.out.keep hS').cell 2
    simp only[aF,aC,aG] at k2
    go_simp;exact⟨rfl,rfl⟩
   go_simp;refine hR _ ?_;clear hR R
  refine dF ?_
  go_wp2_with fail;have B3d:Below w.heap.size w w3.drew:=B3.drew;refine dD (Below w.heap.size w) [(0,true),(1,true),(2,true),(3,true),(4,true),(5,true),(6,true),(7,true),(8,false),(9,true)] (by kernel_rfl) (by kernel_rfl) (B3d) ?_
  iterate 8
   refine dC ax  ax (fun R hR=>?_)
   apply aJ
   refine⟨fun w' hS'=>?_,?_⟩
   ·have k0:=(HB.out.keep hS').cell 0
    have k2:=(HB.out.keep hS').cell 2;simp only[aF,aC,aG] at k0 k2
    go_simp;exact⟨rfl,rfl⟩
   go_simp;refine hR _ ?_;clear hR R
  refine dE ax  ax (fun K hK=>?_)
  go_simp;refine(C2.out w3.drew B3d).mono ?_
  rintro e w4 ⟨rfl,hb4⟩;have B4:Below w.heap.size w w4:=B3d.trans (hb4.mono B3d.size);refine hK _ _ (B4) ?_
  clear hK K
  iterate 1
   refine dC ax  ax (fun R hR=>?_)
   apply aJ
   refine⟨fun w' hS'=>?_,?_⟩
   ·have k0:=(HB.out.keep hS').cell 0
    have k2:=(HB.out.keep hS').cell 2;simp only[aF,aC,aG] at k0 k2
    go_simp;exact⟨rfl,rfl⟩
   go_simp;refine hR _ ?_;clear hR R
  refine dF ?_
  go_wp2_with fail
  go_ret;exact⟨rfl,B4⟩
theorem ad2{lo hi dg u m:Nat}(gr:Bool)(w:World)(ok:wB lo hi dg u m):Calls Tryz.prog 223 #[.agg #[.int .i64 lo,.int .i64 hi,.int .i64 dg],.bool gr] w fun e w'=>∃x,e=.returned (.tuple #[.pointer (some ⟨x,0,none⟩),.int .i64 0])/\ry x lo hi dg u m gr (1+jL u m hi) [] (Gr (fun _=>False) w w') w'/\Below w.heap.size w w':=by
 have hmm:=@run_makeMap Tryz.prog;have C1:Hid (∀w,_):=aB (fun w=>Xy w ok)
 have C2:Hid (∀(w1:World) (g:Nat),rQ w1 g lo hi dg u m->_):=aB (fun w1 g h=>rq (w:=w1) (g:=g) hi h ok.um (by have:=ok.h1;omega))
 clear ok;generalize 1+jL u m hi=R at *;obtain⟨b,hbb⟩:∃b,w.heap.size=b:=⟨_,rfl⟩;obtain⟨w0,hw0⟩:∃w0,w.alloc (.cells #[.int .i64 lo,.int .i64 hi,.int .i64 dg] 32)=w0:=⟨_,rfl⟩;have hb0:Below w.heap.size w w0:=by rw[<-hw0];exact bw
 have B0:dH w0 b 32 #[.int .i64 lo,.int .i64 hi,.int .i64 dg]:=by rw[<-hw0,<-hbb];exact dH.new _ _ _
 have k0:=B0.cell 0;have k1:=B0.cell 1;have k2:=B0.cell 2;simp only[aF,aC,aG] at k0 k1 k2;have X:=aB (aN hb0 (aN B0 hbb));clear B0 hb0
 go_enter Tryz.func223,Tryz.ntmps223
 go_upto_region 1 with fail;clear hw0 hbb
 go_wp2_with fail;refine(C1.out w0).mono ?_
 rintro e w1 ⟨g,rfl,hg,hM,hb1⟩;have j1:=(X.out.2.1.keep hb1).cell 1;simp only[aF,aC,aG] at j1;have HM:=aB (aN hM (aN hb1 hg));clear hM hb1 hg
 go_wp2_with fail;refine(C2.out w1 g HM.out.1).mono ?_
 rintro e w2 ⟨rfl,hb2⟩;have HM2:=aB (aN (dH.keep HM.out.1 hb2) hb2);clear hb2
 go_wp2_with fail
 go_ret2
 obtain⟨hM2,hb2⟩:=HM2.out;obtain⟨_,hb1,hg⟩:=HM.out;have aw7:Below w.heap.size w w2:=X.out.1.trans ((hb1.trans (hb2.mono hb1.size)).mono X.out.1.size);have hz2:=aw7.size;have hgz:w.heap.size<=g:=bG X.out.1.size hg;have hgl:=dH.lt hM2;have hb3:Below w2.heap.size w2 (w2.alloc (.map #[] 0)):=(aH _ _).alloc (aK _) _;have hb4:Below w2.heap.size w2 ((w2.alloc (.map #[] 0)).alloc (.cells #[.pointer (some ⟨g,0,none⟩),.bool gr,.int .i64 R,.map (some w2.heap.size),.int .u64 0] 241)):=hb3.alloc ag _
 have hC:=(an9 w2).keep ((aH _ _).alloc (aK _) (.cells #[.pointer (some ⟨g,0,none⟩),.bool gr,.int .i64 R,.map (some w2.heap.size),.int .u64 0] 241));have hsz:(w2.alloc (.map #[] 0)).heap.size=w2.heap.size+1:=ag
 have hBN:=dH.new (w2.alloc (.map #[] 0)) 241 #[.pointer (some ⟨g,0,none⟩),.bool gr,.int .i64 R,.map (some w2.heap.size),.int .u64 0];rw[hsz] at hBN;have hl5:=hBN.lt;exact⟨_,rfl,⟨g,w2.heap.size,hBN,dH.keep hM2 hb4,hC,.inr ⟨by omega,hl5⟩,.inr ⟨hgz,ae⟩,.inr ⟨hz2,ae⟩,fun k h=>h.elim False.elim And.right⟩,aw7.trans (hb4.mono hz2)⟩
end
open Go.RowKit Go.Lib Go.Shelf
section
variable {x lo hi dg u m bk : Nat} {gr : Bool} {l : List Pr} {F : Ft}
theorem XJ(v:Nat)(n:Int)(w:World)(h:ry x lo hi dg u m gr bk l F w)(ok:jo lo hi dg u m gr bk l)(hv:v<9223372036854775808)(n0:0<n)(hn:tot l+n<=4611686018427387904) :
 Calls Tryz.prog 221 #[.pointer (some ⟨x,0,none⟩),.int .i64 v,.int .u64 n] w fun e w'=>e=.returned (.tuple #[])/\ry x lo hi dg u m gr (max bk (1+jL u m v)) (eQ (AV u m v) n l) (Gr F w w') w'/\Touch F w w':=by
 obtain⟨g,b,hB,hM,hC,hFx,hFg,hFb,hF⟩:=h;have CI:=aB (OX v hM ok.sh.um ok.sh.mb.1 ok.sh.mb.2 hv);have CB:Hid (∀w1,rQ w1 g lo hi dg u m->_):=aB (fun w1 h=>rq (w:=w1) v h ok.sh.um hv)
 have HIX:=ai8 ok.sh hv;have HT:=aB (uy (AV u m v) n l);have ht0:=dL ok.pos;have hlen:=ok.len;have hbk:=ok.b1;have HBK:=lH (u:=u) (m:=m) hv;have hum:=ok.sh.um;have hbv:jL u m v<=63:=ae
 have hc0:=iY (k:=(AV u m v:Int)) ok.pos;have hc1:kC l (AV u m v)<=4611686018427387904:=by
  have:=iY (k:=(AV u m v:Int)) ok.pos
  by_cases hz:kC l (AV u m v)=0
  ·omega
  ·obtain⟨p,hp,e⟩:=(mO ok.pos _).2 hz
   rw[<-e,Xu ok.gY hp];have:=pR ok.pos p hp;have:=ok.sum;omega
 have SP:=aB (aN ok.gY ok.pos);have X:=aB (aN hB (aN hM (aN hC (aN hFx (aN hFg (aN hFb hF))))));have hxg:x≠g:=by
  rintro rfl;have:=hB.symm.trans hM;simp at this
 have hxb:=(hC.ne hB).symm;have hgb:=(hC.ne hM).symm;have k0:=hB.cell 0;simp only[aF,aC] at k0;have hxl:=hB.lt;clear hB hM hC hFx hFg hFb hF ok HBK hum;generalize hix:AV u m v=I at *;generalize jL u m v=B at *;have EW:Hid (IntKind.u64.wrap (kC l (I:Int)+n)=kC l (I:Int)+n):=aB (by rw[eH];omega)
 have ET:Hid (IntKind.u64.wrap (tot l+n)=tot l+n):=aB (by rw[eH];omega)
 have HMX:Hid (max (bk:Int) (1+(B:Int))=((max bk (1+B):Nat):Int)):=aB ae
 go_enter Tryz.func221,Tryz.ntmps221
 go_wp2_with fail;refine(CI.out).mono ?_
 rintro e w1 ⟨rfl,hb1⟩;have B1:=X.out.1.keep hb1;have C1:=X.out.2.2.1.keep hb1;have k3:=B1.cell 3;simp only[aF,aC,aG] at k3;have hlk:=C1.look (k:=(I:Int)) ae  ae
 have ew:=EW.out
 go_wp2_with (at_mapUpdate;refine upL rfl _ _ _ rfl C1 SP.out.1 SP.out.2 ae  ae  ae n0 ae rfl rfl rfl ?_;intro w2 C2 hg2;have B2:dH w2 x _ _:=(hg2.block x (by have:=hb1.size;omega) (fun e=>hxb (by cases e;rfl))).trans B1;have k4:=B2.cell 4;have f4:=B2.frozen 4;simp only[aF,aC,aG] at k4;have et:=ET.out)
 have M2:rQ w2 g lo hi dg u m:=(hg2.block g (by have:=dH.lt X.out.2.1;have:=hb1.size;omega) (fun e=>hgb (by cases e;rfl))).trans (X.out.2.1.keep hb1)
 obtain⟨w3,hw3⟩:∃w3,w2.setCell ⟨x,4,none⟩ (.int .u64 (tot l+n))=w3:=⟨_,rfl⟩;have B3:dH w3 x 241 #[.pointer (some ⟨g,0,none⟩),.bool gr,.int .i64 bk,.map (some b),.int .u64 (tot l+n)]:=by rw[<-hw3];exact B2.dP 4 _
 have M3:rQ w3 g lo hi dg u m:=by rw[<-hw3];exact(bF w2 ⟨x,4,none⟩ _ g (fun e=>hxg e.symm)).trans M2
 have C3:kR w3 b (eQ (I:Int) n l):=by rw[<-hw3];exact C2.stay (bF w2 ⟨x,4,none⟩ _ b (fun e=>hxb e.symm))
 have T3:Touch F w w3:=by
  rw[<-hw3];exact((Touch.of_below hb1 (aK _)).trans (Gv X.out.2.2.2.2.2.1 hg2) (fun _ h=>.inl h)).setCell (p:=⟨x,4,none⟩) (.inl X.out.2.2.2.1) _
 rw[hw3];have Y:=aB (aN B3 (aN M3 (aN C3 T3)));clear hw3 B3 M3 C3 T3 B1 C1 C2 B2 hg2 k4 f4 k3 hlk M2 ew et;refine dJ (Below w3.heap.size w3) 12 [(0,true),(1,true),(2,true),(3,true),(4,true),(5,true),(6,true),(7,true),(8,true),(9,true),(10,false),(11,true)] (by kernel_rfl) (by kernel_rfl) ((aH _ _).drew) ?_
 iterate 10
  refine dK ax  ax (fun R hR=>?_)
  apply aJ
  refine⟨fun w' hS'=>?_,?_⟩
  ·have k0:=(Y.out.1.keep hS').cell 0
   have k2:=(Y.out.1.keep hS').cell 2;simp only[aF,aC,aG] at k0 k2
   go_simp;exact⟨rfl,rfl⟩
  go_simp;refine hR _ ?_;clear hR R
 refine d_ ax  ax (fun K hK=>?_)
 go_simp;refine(CB.out w3.drew (dH.keep Y.out.2.1 (aH _ _).drew)).mono ?_
 rintro e w4 ⟨rfl,hb4⟩;have B4:Below w3.heap.size w3 w4:=(aH _ _).drew.trans hb4;refine hK _ _ (B4) ?_
 clear hK K
 iterate 1
  refine dK ax  ax (fun R hR=>?_)
  apply aJ
  refine⟨fun w' hS'=>?_,?_⟩
  ·have k0:=(Y.out.1.keep hS').cell 0
   have k2:=(Y.out.1.keep hS').cell 2;simp only[aF,aC,aG] at k0 k2
   go_simp;exact⟨rfl,rfl⟩
  go_simp;refine hR _ ?_;clear hR R
 refine dQ ?_
 simp only[bD,bQ];have k2:=(Y.out.1.keep B4).cell 2;have f2:=(Y.out.1.keep B4).frozen 2;simp only[aF,aC,aG] at k2
 go_wp2_with fail;refine dO ?_
 go_wp2_with fail;refine bodyPost_end (v:=.tuple #[]) (by simp[results,Tryz.results221,go_sem, *];try rfl) rfl ?_
 rw[HMX.out];obtain⟨B3,M3,C3,T3⟩:=Y.out;have T5:=(T3.trans (Touch.of_below (F:=F) B4 (aK _)) (fun _ h=>.inl h)).setCell (p:=⟨x,2,none⟩) (.inl X.out.2.2.2.1) (.int .i64 ((max bk (1+B):Nat):Int))
 have B5:=(B3.keep B4).dP 2 (.int .i64 ((max bk (1+B):Nat):Int));refine⟨rfl,⟨g,b,?_,?_,?_,.inl X.out.2.2.2.1,.inl X.out.2.2.2.2.1,.inl X.out.2.2.2.2.2.1,jI X.out.2.2.2.2.2.2 T5.size⟩,T5⟩
 ·rw[HT.out];exact B5
 ·exact(bF w4 ⟨x,2,none⟩ _ g (fun e=>hxg e.symm)).trans (dH.keep M3 B4)
 ·exact(C3.keep B4).stay (bF w4 ⟨x,2,none⟩ _ b (fun e=>hxb e.symm))
theorem XK(v n:Int)(w:World)(h:ry x lo hi dg u m gr bk l F w)(ok:jo lo hi dg u m gr bk l)(v0:-9223372036854775808<=v)(v1:v<=9223372036854775807)(n0:0<=n)(n1:n<18446744073709551616) :
 Calls Tryz.prog 220 #[.pointer (some ⟨x,0,none⟩),.int .i64 v,.int .u64 n] w fun e w'=>e=.returned (.int .i64 (hsE u m gr bk l v n))/\Below w.heap.size w w':=by
 have HE:Hid (hsE u m gr bk l v n=if n=0 then 4 else if v<0 then 5 else if gr=false/\(qp u m bk:Int)<v then 5 else if 4611686018427387904<tot l+n then 6 else 0):=aB rfl
 obtain⟨g,b,hB,hM,_⟩:=h;have CT:Hid (∀w1,Below w.heap.size w w1->_):=aB (fun w1 hb=>KO (w:=w1) bk (dH.keep hM hb) ok.sh.um ok.b0 ok.b1)
 have HB:=aB hB;have ht0:=dL ok.pos;have ht1:=ok.sum;clear hB hM ok;generalize qp u m bk=T at *;generalize tot l=t at *;have EW:Hid (IntKind.u64.wrap (4611686018427387904 - t)=4611686018427387904 - t):=aB (by rw[eH];omega)
 rw[HE.out]
 by_cases hn:n=0
 ·subst hn
  rw[if_pos rfl]
  go_enter Tryz.func220,Tryz.ntmps220
  go_wp2_with fail
  go_ret;exact⟨rfl,aH _ _⟩
 rw[if_neg hn];have hn':(n == 0)=false:=ah
 by_cases hv:v<0
 ·rw[if_pos hv]
  go_enter Tryz.func220,Tryz.ntmps220
  go_upto_region 3 with fail;refine dD (Below w.heap.size w) [(0,true),(1,true),(2,true),(3,true),(4,true),(5,true),(6,true),(7,true),(8,true),(9,true),(10,true),(11,true),(12,true),(13,true),(14,true),(15,true),(16,true),(17,true),(18,true),(19,true),(20,true),(21,true),(22,true)] (by kernel_rfl) (by kernel_rfl) ((aH _ _).drew) ?_
  iterate 3
   refine dC ax  ax (fun R hR=>?_)
   apply aJ
   refine⟨fun w' hS'=>?_,?_⟩
   ·have hv':=hv
    go_simp;exact⟨rfl,rfl⟩
   go_simp;refine hR _ ?_;clear hR R
  refine dG ax  ax ?_
  try go_simp
  refine dG ax  ax ?_
  try go_simp
  refine dG ax  ax ?_
  try go_simp
  refine dG ax  ax ?_
  try go_simp
  refine dG ax  ax ?_
  try go_simp
  refine dG ax  ax ?_
  try go_simp
  refine dG ax  ax ?_
  try go_simp
  refine dG ax  ax ?_
  try go_simp
  refine dG ax  ax ?_
  try go_simp
  refine dG ax  ax ?_
  try go_simp
  refine dG ax  ax ?_
  try go_simp
  refine dG ax  ax ?_
  try go_simp
  refine dG ax  ax ?_
  try go_simp
  refine dG ax  ax ?_
  try go_simp
  refine dG ax  ax ?_
  try go_simp
  refine dG ax  ax ?_
  try go_simp
  refine dG ax  ax ?_
  try go_simp
  refine dG ax  ax ?_
  try go_simp
  iterate 2
   refine dC ax  ax (fun R hR=>?_)
   apply aJ
   refine⟨fun w' hS'=>?_,?_⟩
   ·have hv':=hv
    go_simp;exact⟨rfl,rfl⟩
   go_simp;refine hR _ ?_;clear hR R
  refine dF ?_
  go_wp2_with fail
  go_ret;exact⟨rfl,(aH _ _).drew⟩
 rw[if_neg hv];obtain⟨er,her⟩:∃er:Int,(if 4611686018427387904<t+n then(6:Int) else 0)=er:=⟨_,rfl⟩
 rw[her];have HR:=aB her;clear her;have HC:Hid (4611686018427387904<t+n<->4611686018427387904 - t<n):=aB ae
 have Bd:Below w.heap.size w w.drew:=(aH _ _).drew
 by_cases ht:(T:Int)<v
 ·cases gr
  ·rw[if_pos ⟨rfl,ht⟩]
   clear HC HR
   go_enter Tryz.func220,Tryz.ntmps220
   go_upto_region 3 with fail;refine dD (Below w.heap.size w) [(0,true),(1,true),(2,true),(3,true),(4,true),(5,true),(6,true),(7,true),(8,true),(9,true),(10,true),(11,true),(12,false),(13,true),(14,true),(15,true),(16,true),(17,true),(18,true),(19,true),(20,true),(21,true),(22,true)] (by kernel_rfl) (by kernel_rfl) (Bd) ?_
   iterate 12
    refine dC ax  ax (fun R hR=>?_)
    apply aJ
    refine⟨fun w' hS'=>?_,?_⟩
    ·have hv':=hv
     have ht':=ht;have k0:=(HB.out.keep hS').cell 0;have k1:=(HB.out.keep hS').cell 1;have k2:=(HB.out.keep hS').cell 2;simp only[aF,aC,aG] at k0 k1 k2
     go_simp;exact⟨rfl,rfl⟩
    go_simp;refine hR _ ?_;clear hR R
   refine dE ax  ax (fun K hK=>?_)
   go_simp;refine(CT.out w.drew Bd).mono ?_
   rintro e w3 ⟨rfl,hb3⟩;have B3:Below w.heap.size w w3:=Bd.trans hb3;refine hK _ _ (B3) ?_
   clear hK K
   iterate 10
    refine dC ax  ax (fun R hR=>?_)
    apply aJ
    refine⟨fun w' hS'=>?_,?_⟩
    ·have hv':=hv
     have ht':=ht;have k0:=(HB.out.keep hS').cell 0;have k1:=(HB.out.keep hS').cell 1;have k2:=(HB.out.keep hS').cell 2;simp only[aF,aC,aG] at k0 k1 k2
     go_simp;exact⟨rfl,rfl⟩
    go_simp;refine hR _ ?_;clear hR R
   refine dF ?_
   go_wp2_with fail
   go_ret;exact⟨rfl,B3⟩
  ·rw[if_neg (fun h=>by cases h.1)]
   go_enter Tryz.func220,Tryz.ntmps220
   go_upto_region 3 with fail;refine dD (Below w.heap.size w) [(0,true),(1,true),(2,true),(3,true),(4,true),(5,true),(6,true),(7,true),(8,true),(9,true),(10,true),(11,true),(12,false),(13,true),(14,true),(15,true),(16,true),(17,true),(18,true),(19,true),(20,true),(21,true),(22,true)] (by kernel_rfl) (by kernel_rfl) (Bd) ?_
   iterate 12
    refine dC ax  ax (fun R hR=>?_)
    apply aJ
    refine⟨fun w' hS'=>?_,?_⟩
    ·have hv':=hv
     have ht':=ht;have k0:=(HB.out.keep hS').cell 0;have k1:=(HB.out.keep hS').cell 1;have k2:=(HB.out.keep hS').cell 2;simp only[aF,aC,aG] at k0 k1 k2
     go_simp;exact⟨rfl,rfl⟩
    go_simp;refine hR _ ?_;clear hR R
   refine dE ax  ax (fun K hK=>?_)
   go_simp;refine(CT.out w.drew Bd).mono ?_
   rintro e w3 ⟨rfl,hb3⟩;have B3:Below w.heap.size w w3:=Bd.trans hb3;refine hK _ _ (B3) ?_
   clear hK K
   iterate 10
    refine dC ax  ax (fun R hR=>?_)
    apply aJ
    refine⟨fun w' hS'=>?_,?_⟩
    ·have hv':=hv
     have ht':=ht;have k0:=(HB.out.keep hS').cell 0;have k1:=(HB.out.keep hS').cell 1;have k2:=(HB.out.keep hS').cell 2;simp only[aF,aC,aG] at k0 k1 k2
     go_simp;exact⟨rfl,rfl⟩
    go_simp;refine hR _ ?_;clear hR R
   refine dF ?_
   have k4:=(HB.out.keep B3).cell 4;simp only[aF,aC,aG] at k4;have ew:=EW.out
   by_cases hc:4611686018427387904<t+n
   ·have hc':4611686018427387904 - t<n:=HC.out.1 hc
    obtain rfl:er=6:=by rw[<-HR.out,if_pos hc]
    clear HC HR hc
    go_wp2_with fail
    go_ret;exact⟨rfl,B3⟩
   ·have hc':¬4611686018427387904 - t<n:=fun h=>hc (HC.out.2 h)
    obtain rfl:er=0:=by rw[<-HR.out,if_neg hc]
    clear HC HR hc
    go_wp2_with fail
    go_ret;exact⟨rfl,B3⟩
 ·rw[if_neg (fun h=>ht h.2)]
  go_enter Tryz.func220,Tryz.ntmps220
  go_upto_region 3 with fail;refine dD (Below w.heap.size w) [(0,true),(1,true),(2,true),(3,true),(4,true),(5,true),(6,true),(7,true),(8,true),(9,true),(10,true),(11,true),(12,false),(13,true),(14,true),(15,true),(16,true),(17,true),(18,true),(19,true),(20,true),(21,true),(22,true)] (by kernel_rfl) (by kernel_rfl) (Bd) ?_
  iterate 12
   refine dC ax  ax (fun R hR=>?_)
   apply aJ
   refine⟨fun w' hS'=>?_,?_⟩
   ·have hv':=hv
    have ht':=ht;have k0:=(HB.out.keep hS').cell 0;have k1:=(HB.out.keep hS').cell 1;have k2:=(HB.out.keep hS').cell 2;simp only[aF,aC,aG] at k0 k1 k2
    go_simp;exact⟨rfl,rfl⟩
   go_simp;refine hR _ ?_;clear hR R
  refine dE ax  ax (fun K hK=>?_)
  go_simp;refine(CT.out w.drew Bd).mono ?_
  rintro e w3 ⟨rfl,hb3⟩;have B3:Below w.heap.size w w3:=Bd.trans hb3;refine hK _ _ (B3) ?_
  clear hK K
  iterate 2
   refine dC ax  ax (fun R hR=>?_)
   apply aJ
   refine⟨fun w' hS'=>?_,?_⟩
   ·have hv':=hv
    have ht':=ht;have k0:=(HB.out.keep hS').cell 0;have k1:=(HB.out.keep hS').cell 1;have k2:=(HB.out.keep hS').cell 2;simp only[aF,aC,aG] at k0 k1 k2
    go_simp;exact⟨rfl,rfl⟩
   go_simp;refine hR _ ?_;clear hR R
  refine dG ax  ax ?_
  try go_simp
  refine dG ax  ax ?_
  try go_simp
  refine dG ax  ax ?_
  try go_simp
  refine dG ax  ax ?_
  try go_simp
  refine dG ax  ax ?_
  try go_simp
  iterate 3
   refine dC ax  ax (fun R hR=>?_)
   apply aJ
   refine⟨fun w' hS'=>?_,?_⟩
   ·have hv':=hv
    have ht':=ht;have k0:=(HB.out.keep hS').cell 0;have k1:=(HB.out.keep hS').cell 1;have k2:=(HB.out.keep hS').cell 2;simp only[aF,aC,aG] at k0 k1 k2
    go_simp;exact⟨rfl,rfl⟩
   go_simp;refine hR _ ?_;clear hR R
  refine dF ?_
  have k4:=(HB.out.keep B3).cell 4;simp only[aF,aC,aG] at k4;have ew:=EW.out
  by_cases hc:4611686018427387904<t+n
  ·have hc':4611686018427387904 - t<n:=HC.out.1 hc
   obtain rfl:er=6:=by rw[<-HR.out,if_pos hc]
   clear HC HR hc
   go_wp2_with fail
   go_ret;exact⟨rfl,B3⟩
  ·have hc':¬4611686018427387904 - t<n:=fun h=>hc (HC.out.2 h)
   obtain rfl:er=0:=by rw[<-HR.out,if_neg hc]
   clear HC HR hc
   go_wp2_with fail
   go_ret;exact⟨rfl,B3⟩
theorem Ul(v n:Int)(w:World)(h:ry x lo hi dg u m gr bk l F w)(ok:jo lo hi dg u m gr bk l)(v0:-9223372036854775808<=v)(v1:v<=9223372036854775807)(n0:0<=n)(n1:n<18446744073709551616) :
 Calls Tryz.prog 131 #[.pointer (some ⟨x,0,none⟩),.int .i64 v,.int .u64 n] w (z_ (ry x lo hi dg u m gr (hsB u m gr bk l v n) (hsL u m gr bk l v n)) F (hsE u m gr bk l v n) w):=by
 have HH:=aB h;have C1:=aB (XK v n w h ok v0 v1 n0 n1);have HEL:Hid (hsL u m gr bk l v n=if hsE u m gr bk l v n=0 then eQ (AV u m v.toNat) n l else l):=aB rfl
 have HEB:Hid (hsB u m gr bk l v n=if hsE u m gr bk l v n=0 then max bk (1+jL u m v.toNat) else bk):=aB rfl
 rw[HEL.out,HEB.out]
 by_cases he:hsE u m gr bk l v n=0
 ·have hz:0<n/\0<=v/\tot l+n<=4611686018427387904:=by
   unfold hsE at he
   (repeat' split at he)<;>omega
  obtain⟨z,rfl⟩:=Int.eq_ofNat_of_zero_le hz.2.1;have C2:Hid (∀w1,Below w.heap.size w w1->_):=aB (fun w1 hb=>XJ (x:=x) z n w1 ((kJ x lo hi dg u m gr bk l).keep h hb) ok ae hz.1 hz.2.2)
  rw[if_pos he,if_pos he];rw[he] at C1 |-;simp only[bY];have hF:=(kJ x lo hi dg u m gr bk l).low h;clear HEL HEB he hz h ok
  go_enter Tryz.func131,Tryz.ntmps131
  go_wp2_with fail;refine(C1.out).mono ?_
  rintro e w1 ⟨rfl,hb1⟩
  go_wp2_with fail;refine(C2.out w1 hb1).mono ?_
  rintro e w2 ⟨rfl,h2,t2⟩
  go_wp2_with fail
  go_ret;refine⟨rfl,?_,Iq hb1 t2⟩
  refine(kJ x lo hi dg u m gr _ _).more h2 (fun k hk=>?_) (jI hF (Iq hb1 t2).size)
  rcases hk with hk|⟨a,b⟩
  ·exact .inl hk
  ·exact .inr ⟨bG hb1.size a,b⟩
 ·rw[if_neg he,if_neg he]
  have hd:(hsE u m gr bk l v n == 0)=false:=by simpa using he
  clear HEL HEB h ok;generalize hsE u m gr bk l v n=er at *
  go_enter Tryz.func131,Tryz.ntmps131
  go_wp2_with fail;refine(C1.out).mono ?_
  rintro e w1 ⟨rfl,hb1⟩
  go_wp2_with fail
  go_ret;exact jO (kJ x lo hi dg u m gr bk l) HH.out rfl hb1
end
end Go.Proofs.YtkiebccnpheloaaGreat.D
