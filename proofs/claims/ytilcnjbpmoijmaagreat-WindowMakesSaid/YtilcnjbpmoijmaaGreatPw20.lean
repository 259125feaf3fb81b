/- Parts of a proof. No condition. -/
import Derived.Test.YtilcnjbpmoijmaaGreatPw19
import Derived.Test.YtilcnjbpmoijmaaGreatPw10
set_option maxRecDepth 100000
set_option maxHeartbeats 16000000
set_option linter.unusedVariables false
set_option linter.unusedSimpArgs false
namespace Go.Proofs.YtilcnjbpmoijmaaGreat.D
open Tryz
open Go.RowKit
variable{a j m:Nat}{l:List Pr}{f:Int}
theorem Xe(x n y k:Int)(w:World)(h:y<x):aH 412 #[.agg #[.int .i64 x,.int .u64 n],.agg #[.int .i64 y,.int .u64 k]] w (aG w (.int .i64 1)):=by
 go_enter func412,ntmps412
 go_wp2_with fail
 go_ret;exact⟨rfl,bw⟩
theorem xP(v:Value)(l:List Pr)(w:World)(h:iM fZ w v l)(hs:gU l)(hl:l.length<=100000) :
 aH 411 #[v,.func (.func 412) #[] #[]] w (aG w (.bool true)):=by
 obtain⟨A,c,rfl,_,_,hf⟩:=h.form;have HF:=aI hf;have HS:Hid (∀j (h:j+1<l.length),l[j].1<l[j+1].1):=aI (fun j h=>List.pairwise_iff_getElem.1 hs j (j+1) _ h ae)
 clear h hf hs
 go_enter func411,ntmps411
 go_wp2_with fail
 go_loopg [5] l.length (fun q x wr=>∃i:Int,x=.int .i64 i/\-1<=i/\i<(l.length:Int)/\i<q/\Below w.heap.size w wr)
 case atStart=>exact⟨(l.length:Int) - 1,ai,ae,ae,ae,aO _ _⟩
 case round=>
  obtain⟨i,rfl,hi,hi2,hq,hb⟩:=hrel;have hz:=hb.size
  by_cases hlt:0<i
  ·obtain⟨j,rfl⟩:∃j:Nat,i=(j:Int)+1:=⟨(i - 1).toNat,ae⟩
   have hj:j+1<l.length:=ae
   obtain⟨g,off,rfl,hg,c0,c1⟩:=jQ HF.o hj;obtain⟨g',off',he,_,d0,d1⟩:=jQ HF.o (j:=j) (by omega)
   cases he
   have CC:=aI (aP c0 (aP c1 (aP d0 d1)));have hlo:=HS.o j hj;have hji:((j:Int)+1)<(l.length:Int):=ae
   have hsub:((j:Int)+1) - 1=(j:Int):=ae
   have cg1:(j:Int)<(l.length:Int):=ae
   have hgr:g<wr.heap.size:=ae
   have QB:Hid (IntKind.i64.wrap ((j:Int))=(j:Int)):=aI ak
   clear c0 c1 d0 d1;generalize l[j+1].1=x at *;generalize l[j+1].2=n at *;generalize l[j].1=y at *;generalize l[j].2=k at *
   go_upto_region 4 with fail;refine jh (Below wr.heap.size wr) (dV 0 10 (fJ 10 (dV 11 1 []))) ((aO _ _).drew) ?_
   iterate 10 refine eQ (h:=fun w' hS'=>by have hws:=QB.o;have hbw:=hb.trans (hS'.mono hz);have c0:=(hbw.cell (p:=⟨g,off+(j+1) * 2,none⟩) hg).trans CC.o.1;have c1:=(hbw.cell (p:=⟨g,off+(j+1) * 2+1,none⟩) hg).trans CC.o.2.1;have d0:=(hbw.cell (p:=⟨g,off+j * 2,none⟩) hg).trans CC.o.2.2.1;have d1:=(hbw.cell (p:=⟨g,off+j * 2+1,none⟩) hg).trans CC.o.2.2.2;go_simp;exact⟨rfl,rfl⟩) ?_
   refine fO fun K hK=>?_
   go_simp;refine(Xe x n y k wr.drew hlo).mono ?_
   rintro e w3 ⟨rfl,hb3⟩;have B3:Below wr.heap.size wr w3:=(aO _ _).drew.trans hb3;refine hK _ _ (B3) ?_
   clear hK K;refine eQ (h:=fun w' hS'=>by have hws:=QB.o;have hbw:=hb.trans (hS'.mono hz);have c0:=(hbw.cell (p:=⟨g,off+(j+1) * 2,none⟩) hg).trans CC.o.1;have c1:=(hbw.cell (p:=⟨g,off+(j+1) * 2+1,none⟩) hg).trans CC.o.2.1;have d0:=(hbw.cell (p:=⟨g,off+j * 2,none⟩) hg).trans CC.o.2.2.1;have d1:=(hbw.cell (p:=⟨g,off+j * 2+1,none⟩) hg).trans CC.o.2.2.2;go_simp;exact⟨rfl,rfl⟩) ?_
   refine dJ ?_
   go_wp2_with fail
   go_roundg (j+1)
   case measure=>omega
   case rel=>exact⟨(j:Int),ai,ae,ae,ae,hb.trans (B3.mono hz)⟩
  ·go_wp2_with fail
   go_ret;exact⟨rfl,hb⟩
theorem Gl{c g3:Nat}{w w1 w2 w3 w4:World}(hc:A_ c m [] 0 (Gr (fun _=>False) w w1) w1)(hb1:Below w.heap.size w w1)(hb2:Below w1.heap.size w1 w2)(hb3:Below w2.heap.size w2 w3)(hs:nO g3 l (Gr (fun _=>False) w2 w3) w3)
 (hw:w4=(w3.setCell ⟨c,1,none⟩ (.pointer (some ⟨g3,0,none⟩))).setCell ⟨c,2,none⟩ (.int .u64 f)):A_ c m l f (Gr (fun _=>False) w w4) w4/\Below w.heap.size w w4:=by
 obtain⟨g0,G0,hB0,_,hFc,_,_,_⟩:=hc;have hcl:w.heap.size<=c/\c<w1.heap.size:=hFc.elim False.elim id;have z1:=hb1.size;have z2:=hb2.size;have z3:=hb3.size;have x8:=hb2.trans (hb3.mono hb2.size);have Z_:=hb1.trans (x8.mono hb1.size);have h4z:w4.heap.size=w3.heap.size:=by rw[hw];simp
 have hB4:Below w.heap.size w w4:=by rw[hw];exact(Z_.setCell hcl.1 _).setCell hcl.1 _
 have hBl:dK w4 c 254 #[.int .i64 m,.pointer (some ⟨g3,0,none⟩),.int .u64 f]:=by
  rw[hw];exact((hB0.keep x8).dQ 1 _).dQ 2 _
 have hne:∀k,Gr (fun _=>False) w2 w3 k->k≠c:=fun k h=>by
  have:=h.elim False.elim id;omega
 refine⟨⟨g3,Gr (fun _=>False) w2 w3,hBl,(iO g3 l).stay hs (fun k hk=>?_) ae,.inr ⟨hcl.1,ae⟩,fun h=>hne c h rfl,fun k h=>.inr (by have:=h.elim False.elim id;omega),fun k h=>(h.elim False.elim And.right)⟩,hB4⟩
 have:=hne k hk;rw[hw,bM _ _ _ k this,bM _ _ _ k this]
structure bl9(m:Nat)(l:List Pr)(f:Int):Prop where
 ok:uI l
 len:l.length<=m
 f0:0<=f
 f1:f<=4611686018427387904
 full:0<f->l.length=m/\∃p t,l=p::t/\f<p.2
theorem RJ(v:Value)(w:World)(h:iM fZ w v l)(ok:bl9 m l f)(m0:2<=m)(m1:m<=4096) :
 aH 337 #[.int .i64 m,v,.int .u64 f] w fun e w'=>∃c,e=.returned (.tuple #[.pointer (some ⟨c,0,none⟩),.int .i64 0])/\A_ c m l f (Gr (fun _=>False) w w') w'/\Below w.heap.size w w':=by
 obtain⟨A,k,rfl,_,_,hf⟩:=h.form;have CN:=aI (ZM m w m0 m1);have CS:Hid (∀w1,Below w.heap.size w w1->_):=aI (fun w1 hb=>xP (.slice A l.length k) l w1 (h.keep hb) ok.ok.iU ok.ok.len)
 have CO:Hid (∀w1,Below w.heap.size w w1->_):=aI (fun w1 hb=>ba2 (.slice A l.length k) l w1 (h.keep hb) ok.ok (by have:=ok.len;omega))
 have hlm:(l.length:Int)<=(m:Int):=by have:=ok.len;omega
 have f0:=ok.f0;have f1:=ok.f1;have hgf:decide ((l.length:Int) > (m:Int))=false:=ah
 by_cases hz:0<f
 ·obtain⟨h1,p,t,rfl,h2⟩:=ok.full hz
  have HF:=aI hf;obtain⟨g,off,rfl,hg,c0,c1⟩:=jQ hf (j:=0) (by simp)
  simp only[List.getElem_cons_zero] at c0 c1;have hm:((p::t).length:Int)=(m:Int):=ae
  have hl0:(0:Int)<((p::t).length:Int):=ae
  have CC:=aI (aP c0 c1);obtain⟨px,pn⟩:=p;simp only[] at CC h2;have hlt:decide (((((px,pn)::t).length:Nat):Int)<(m:Int))=false:=by simp;simp at hm;omega
  have hle:decide (pn<=f)=false:=ah
  have hf1:decide (f > 0)=true:=ah
  obtain⟨n,hn⟩:=aF (((px,pn)::t).length);rw[hn] at hlm hgf hm hl0 hlt CS CO |-;have h0n:(0:Int)<(n:Int):=hl0;clear h hf ok c0 c1 h1;generalize (px,pn)::t=l at *
  go_enter func337,ntmps337
  go_wp2_with fail;refine(CN.o).mono ?_
  rintro e w1 ⟨c,rfl,hc,hb1⟩;have HC:=aI hc;clear hc
  go_wp2_with fail;refine(CS.o w1 hb1).mono ?_
  rintro e w2 ⟨rfl,hb2⟩;have jD:=hb1.trans (hb2.mono hb1.size);have c1:=(jD.cell (p:=⟨g,off+0 * 2+1,none⟩) hg).trans CC.o.2;simp only[Nat.zero_mul,Nat.add_zero] at c1
  go_wp2_with fail;clear c1;have az3:=jD.size;refine(CO.o w2 jD).mono ?_
  rintro e w3 ⟨g3,rfl,hs3,hb3⟩;have HS3:=aI hs3;clear hs3;have hB3:=HC.o;obtain⟨g0,G0,hB0,_,hFc,_,_,_⟩:=hB3;have x8:=hb2.trans (hb3.mono hb2.size);have HB:=aI (hB0.keep x8);have HFC:=aI hFc;clear hB0 hFc;have k1:=HB.o.cell 1;have k2:=HB.o.cell 2;have f1':=HB.o.frozen 1;have f2':=HB.o.frozen 2;simp only[aK,aJ,aN] at k1 k2
  go_wp2_with fail
  go_ret2
  obtain⟨h4,h5⟩:=Gl HC.o hb1 hb2 hb3 HS3.o rfl;exact⟨c,rfl,h4,h5⟩
 ·obtain rfl:f=0:=ae
  clear h hf ok f0 f1 hz
  go_enter func337,ntmps337
  go_wp2_with fail;refine(CN.o).mono ?_
  rintro e w1 ⟨c,rfl,hc,hb1⟩;have HC:=aI hc;clear hc
  go_wp2_with fail;refine(CS.o w1 hb1).mono ?_
  rintro e w2 ⟨rfl,hb2⟩;have jD:=hb1.trans (hb2.mono hb1.size)
  go_wp2_with fail;refine(CO.o w2 jD).mono ?_
  rintro e w3 ⟨g3,rfl,hs3,hb3⟩;have HS3:=aI hs3;clear hs3;have hB3:=HC.o;obtain⟨g0,G0,hB0,_,_,_,_,_⟩:=hB3;have x8:=hb2.trans (hb3.mono hb2.size);have HB:=aI (hB0.keep x8);clear hB0;have k1:=HB.o.cell 1;have k2:=HB.o.cell 2;have f1':=HB.o.frozen 1;have f2':=HB.o.frozen 2;simp only[aK,aJ,aN] at k1 k2
  go_wp2_with fail
  go_ret2
  obtain⟨h4,h5⟩:=Gl HC.o hb1 hb2 hb3 HS3.o rfl;exact⟨c,rfl,h4,h5⟩
open Tryz
open Go.RowKit
theorem Xf{B n:Int}(h:∀p∈l,-B<=p.1/\p.1<=B):∀p∈bump n l,-B<=p.1/\p.1<=B:=by
 cases l with
 | nil=>exact h
 | cons q l=>
  intro p hp
  rcases bn.1 hp with rfl|hp
  ·exact h q (aT ..)
  ·exact h p (aY _ hp)
theorem kJ.ba7(h:kJ a m l):∀p∈(dY m l).1,-((spans a).length:Int)<=p.1/\p.1<=((spans a).length:Int):=
 Xf (fun p hp=>h.key p (List.mem_of_mem_drop hp))
theorem kJ.ld(h:kJ a m l):bl9 m (dY m l).1 (dY m l).2:=by
 obtain⟨h1,_,h3,h4,h5⟩:=h.cut;refine⟨h1,h3,h4,h5,fun hf=>?_⟩
 have hlm:m<l.length:=by
  rcases bV m l.length with h'|h'
  ·exact h'
  ·rw[lT h'] at hf;exact absurd hf ag
 have hd:(l.drop (l.length - m)).length=m:=by rw[bu];omega
 refine⟨by show(bump _ _).length=m;rw[bump_length,hd],?_⟩
 show ∃p t,bump (D.tot (l.take (l.length - m))) (l.drop (l.length - m))=p::t/\D.tot (l.take (l.length - m))<p.2
 have hp:gK (l.drop (l.length - m)):=fun p hp=>h.pos p (List.mem_of_mem_drop hp)
 revert hp hd
 generalize l.drop (l.length - m)=r;intro hd hp
 cases r with
 | nil=>have:=h.m0;simp at hd;omega
 | cons q r=>exact⟨_,_,rfl,by have:=hp q (aT ..);show _<q.2+_;omega⟩
theorem N7{d a m c:Nat}{l:List Pr}{w w1 w2 w3 w4:World}(h:rq d a m [] (Gr (fun _=>False) w w1) w1)(hb1:Below w.heap.size w w1)(hb2:Below w1.heap.size w1 w2)(hb3:Below w2.heap.size w2 w3)(hc:A_ c m (dY m l).1 (dY m l).2 (Gr (fun _=>False) w2 w3) w3)
 (hw:w4=w3.setCell ⟨d,1,none⟩ (.pointer (some ⟨c,0,none⟩))):rq d a m l (Gr (fun _=>False) w w4) w4/\Below w.heap.size w w4:=by
 obtain⟨b,c0,H,G,hB,hS,hC,Xc,hH,hG,Vf,Xd,hF⟩:=h;have hdl:w.heap.size<=d/\d<w1.heap.size:=Xc.elim False.elim id;have z1:=hb1.size;have z2:=hb2.size;have z3:=hb3.size;have x8:=hb2.trans (hb3.mono hb2.size);have Z_:=hb1.trans (x8.mono hb1.size);have h4z:w4.heap.size=w3.heap.size:=by rw[hw];simp
 have hB4:Below w.heap.size w w4:=by rw[hw];exact Z_.setCell hdl.1 _
 have hBl:dK w4 d 197 #[.pointer (some ⟨b,0,none⟩),.pointer (some ⟨c,0,none⟩)]:=by
  rw[hw];exact(hB.keep x8).dQ 1 _
 obtain⟨v,s1,s2,s3,s4,s5⟩:=hS;have hbd:b≠d:=fun e=>by
  subst e;have hB':=hB;unfold dK at s1 hB';rw[hB'] at s1;simp only[bH,Obj.cells.injEq] at s1;exact absurd s1.2 af
 have hvd:=own_ne hB s2 af
 have hS':ScF b a (fun k=>H k/\k≠d) w1:=⟨v,s1,s2,⟨s3,hbd⟩,fun k e=>⟨s4 k e,fun e'=>hvd (e'▸e)⟩,fun k e=>s5 k e.1⟩
 have hGn:∀k,Gr (fun _=>False) w2 w3 k->w2.heap.size<=k/\k<w3.heap.size:=fun k h=>h.elim False.elim id
 have hHn:∀k,H k->w.heap.size<=k/\k<w1.heap.size:=fun k h=>(hH k h).elim False.elim id
 refine⟨⟨b,c,fun k=>H k/\k≠d,Gr (fun _=>False) w2 w3,hBl,(nI b a).stay ((nI b a).keep hS' x8) (fun k hk=>by rw[hw];exact bM _ _ _ k hk.2) ae,(oI c m _ _).stay hc (fun k hk=>by rw[hw];exact bM _ _ _ k (fun e=>by have:=hGn k hk;have e':k=d:=e;omega)) ae,.inr ⟨hdl.1,ae⟩,fun k hk=>.inr (by have:=hHn k hk.1;omega),fun k hk=>.inr (by have:=hGn k hk;omega),fun h=>by have:=hGn d h;omega,fun k hk h=>by have:=hGn k h;have:=hHn k hk.1;omega,fun k h=>h.elim False.elim And.right⟩,hB4⟩
theorem ao5(v:Value)(w:World)(h:iM fZ w v (dY m l).1)(ok:kJ a m l) :
 aH 284 #[.int .i64 a,.int .i64 m,v,.int .u64 (dY m l).2] w fun e w'=>∃d,e=.returned (.tuple #[.pointer (some ⟨d,0,none⟩),.int .i64 0])/\rq d a m l (Gr (fun _=>False) w w') w'/\Below w.heap.size w w':=by
 have CN:=aI (RH a m w ok.a0 ok.a1 ok.m0 ok.m1);obtain⟨A,k,rfl,_,_,hf⟩:=h.form;have CL:Hid (∀w1,Below w.heap.size w w1->_):=aI (fun w1 hb=>RJ (.slice A (dY m l).1.length k) w1 (h.keep hb) ok.ld ok.m0 ok.m1)
 have HF:=aI hf;have HK:=aI ok.ba7;have hsl:=(zB ok.a0 ok.a1 (v:=0) ae).2
 have HSM:Hid (∀s∈spans a,0<=s.mid/\s.mid<=9223372036854775807):=aI (fun s hs=>by have:=(u_ ok.a0 ok.a1).1 s hs;omega)
 have hlen:=ok.ld.ok.len;have HE:Hid (∀d w w1 w2 w3 w4 c,_):=aI (fun d w w1 w2 w3 w4 c=>@N7 d a m c l w w1 w2 w3 w4)
 generalize (dY m l).2=f at *;generalize (dY m l).1=q at *;clear h hf ok
 go_enter func284,ntmps284
 go_wp2_with fail;refine(CN.o).mono ?_
 rintro e w1 ⟨d,rfl,hd,hb1⟩;have HD:=aI hd;have hd2:=hd;obtain⟨b,c0,H,G,hB,hS,_⟩:=hd2;have HB:=aI hB;have HS:=aI hS.at_;have hdl:=hB.lt;clear hd hB hS;have z1:=hb1.size
 go_wp2_with fail
 go_loopg [28] q.length (fun r x wr=>∃j:Nat,x=.int .i64 j/\j<=q.length/\r=q.length - j/\Below w1.heap.size w1 wr)
 case atStart=>exact⟨0,rfl,ae,ae,aO _ _⟩
 case round=>
  obtain⟨j,rfl,hj,hq,hb⟩:=hrel;have HQ:=aI hq;clear hq;have hz:=hb.size;have hb0:=hb1.trans (hb.mono hb1.size)
  by_cases hlt:j<q.length
  ·obtain⟨g,off,rfl,hg,Vb,WZ⟩:=jQ HF.o hlt
   have c0:=(hb0.cell (p:=⟨g,off+j * 2,none⟩) hg).trans Vb;have c1:=(hb0.cell (p:=⟨g,off+j * 2+1,none⟩) hg).trans WZ;obtain⟨kl,kh⟩:=HK.o _ (bf hlt);have hji:(j:Int)<(q.length:Int):=ae
   have CM:Hid (∀w2,Below w1.heap.size w1 w2->_):=aI (fun w2 hb=>ao1 q[j].1 w2 (HS.o.keep hb) kl kh hsl HSM.o)
   generalize q[j].1=x at *;generalize q[j].2=n at *;clear Vb WZ
   go_upto_region 7 with fail;have hbA:Below wr.heap.size wr (wr.alloc (.cells #[.int .i64 x,.int .u64 n] 178)):=bw;have HP:Hid (dK (wr.alloc (.cells #[.int .i64 x,.int .u64 n] 178)) wr.heap.size 178 #[.int .i64 x,.int .u64 n]):=aI (dK.new _ _ _);obtain⟨w2,hw2⟩:=aF (wr.alloc (.cells #[.int .i64 x,.int .u64 n] 178));rw[hw2] at hbA HP |-;clear hw2 c0 c1;obtain⟨p,hp⟩:=aF (wr.heap.size);rw[hp] at HP |-;have hpl:=HP.o.lt;have hz2:=hbA.size;have hbw:=hb.trans (hbA.mono hz);have hdw:d<w2.heap.size:=ae
   refine jh (Below w2.heap.size w2) (dV 0 6 (fJ 6 (dV 7 5 []))) ((aO _ _).drew) ?_
   iterate 6 refine eQ (h:=fun w' hS'=>by have k0:=((HB.o.keep (hbw.trans (hS'.mono ae))).cell 0);have p0:=(HP.o.keep hS').cell 0;simp only[aK,aJ,aN] at k0 p0;go_simp;exact⟨rfl,rfl⟩) ?_
   refine fO fun K hK=>?_
   go_simp;refine(CM.o w2.drew (hbw.trans ((aO _ _).drew.mono ae))).mono ?_
   rintro e w3 ⟨⟨y,rfl⟩,hb3⟩;have B3:Below w2.heap.size w2 w3:=(aO _ _).drew.trans hb3;refine hK _ _ (B3) ?_
   clear hK K
   iterate 5 refine eQ (h:=fun w' hS'=>by have k0:=((HB.o.keep (hbw.trans (hS'.mono ae))).cell 0);have p0:=(HP.o.keep hS').cell 0;simp only[aK,aJ,aN] at k0 p0;go_simp;exact⟨rfl,rfl⟩) ?_
   refine dJ ?_
   go_wp2_with fail
   go_roundg (q.length - (j+1))
   case measure=>have:=HQ.o;omega
   case rel=>exact⟨j+1,ai,ae,rfl,hbw.trans (B3.mono ae)⟩
  ·obtain rfl:j=q.length:=ae
   go_wp2_with fail;refine(CL.o wr hb0).mono ?_
   rintro e w3 ⟨c,rfl,hc,hb3⟩;have HC:=aI hc;clear hc;have x8:=hb.trans (hb3.mono hz);have k1:=(HB.o.keep x8).cell 1;have f1:=(HB.o.keep x8).frozen 1;simp only[aK,aJ,aN] at k1
   go_wp2_with fail
   go_ret2
   obtain⟨h4,h5⟩:=HE.o d w w1 wr w3 _ c HD.o hb1 hb hb3 HC.o rfl;exact⟨d,rfl,h4,h5⟩
open Tryz
open Go.RowKit Go.Lib
theorem N8(w:World):aH 235 #[.string ⟨#[118,118,118,118]⟩] w (aG w (.bool true)):=by
 have FO:=fun w=>aI (jS 7 118 w Wq)
 go_enter func235,ntmps235
 go_wp2_with fail
 go_loopg [11] 4 (fun q i wr=>∃j:Nat,q=4 - j/\j<=4/\i=.int .i64 j/\Below w.heap.size w wr)
 case atStart=>exact⟨0,rfl,ae,rfl,aO _ _⟩
 case round=>
  obtain⟨j,hq,hj,rfl,hb⟩:=hrel;have HQ:=aI hq;have hz:=hb.size;clear hq
  rcases(show j=0\/j=1\/j=2\/j=3\/j=4 by omega) with rfl|rfl|rfl|rfl|rfl
  ·go_wp2_with (go_at_call 236;refine((FO _).o).mono ?_;rintro e w1 ⟨rfl,hb1⟩;have hz1:=hb1.size)
   go_roundg 3
   case measure=>have:=HQ.o;omega
   case rel=>exact⟨1,rfl,ae,ai,bw⟩
  ·go_wp2_with (go_at_call 236;refine((FO _).o).mono ?_;rintro e w1 ⟨rfl,hb1⟩;have hz1:=hb1.size)
   go_roundg 2
   case measure=>have:=HQ.o;omega
   case rel=>exact⟨2,rfl,ae,ai,bw⟩
  ·go_wp2_with (go_at_call 236;refine((FO _).o).mono ?_;rintro e w1 ⟨rfl,hb1⟩;have hz1:=hb1.size)
   go_roundg 1
   case measure=>have:=HQ.o;omega
   case rel=>exact⟨3,rfl,ae,ai,bw⟩
  ·go_wp2_with (go_at_call 236;refine((FO _).o).mono ?_;rintro e w1 ⟨rfl,hb1⟩;have hz1:=hb1.size)
   go_roundg 0
   case measure=>have:=HQ.o;omega
   case rel=>exact⟨4,rfl,ae,ai,bw⟩
  ·go_wp2_with fail
   go_ret;exact⟨rfl,hb⟩
def iF(a b c d:Int):Nat->List Int
 | 0=>[]
 | 1=>eG a
 | 2=>eG a++eG b
 | 3=>eG a++eG b++eG c
 | _=>eG a++eG b++eG c++eG d
theorem Jj(a b c d:Int)(j:Nat):(iF a b c d j).length<=40:=by
 have ha:=dM a;have hb:=dM b;have hc:=dM c;have hd:=dM d
 match j with
 | 0=>simp[iF]
 | 1=>simp only[iF];omega
 | 2=>simp only[iF,aQ];omega
 | 3=>simp only[iF,aQ];omega
 | n+4=>simp only[iF,aQ];omega
theorem Xg(a b c d:Int)(v:Value)(w:World)(hr:iY .u64 w v [a,b,c,d])(a0:0<=a)(a1:a<18446744073709551616)(b0:0<=b)(b1:b<18446744073709551616)(c0:0<=c)(c1:c<18446744073709551616)(d0:0<=d)(d1:d<18446744073709551616) :
 aH 164 #[.string ⟨#[118,118,118,118]⟩,v] w fun e w'=>∃v,e=.returned (.tuple #[v,.int .i64 0])/\OwnB w.heap.size w' v (iF a b c d 4)/\Below w.heap.size w w':=by
 obtain⟨AA,cn,rfl,hn,hc,hp⟩:=hr.form;obtain⟨gn,on,rfl,hgn,Gm⟩:=hp.at_ (j:=0) (by simp)
 obtain⟨g',o',e',_,x9⟩:=hp.at_ (j:=1) (by simp)
 simp only[bH,Addr.mk.injEq,and_true] at e';obtain⟨rfl,rfl⟩:=e';obtain⟨g',o',e',_,vk⟩:=hp.at_ (j:=2) (by simp)
 simp only[bH,Addr.mk.injEq,and_true] at e';obtain⟨rfl,rfl⟩:=e';obtain⟨g',o',e',_,Gn⟩:=hp.at_ (j:=3) (by simp)
 simp only[bH,Addr.mk.injEq,and_true] at e';obtain⟨rfl,rfl⟩:=e';simp only[aU,bC,List.getElem_cons_zero,List.getElem_cons_succ,Nat.add_zero] at hn Gm x9 vk Gn |-;have CN0:=aI Gm;have CN1:=aI x9;have CN2:=aI vk;have CN3:=aI Gn;have FO:=fun w=>aI (jS 7 118 w Wq)
 have HF:=aI (fun(g:Nat) (n:Int) (bs:List Int) (W:World) h n0 n1 hl=>pz g w.heap.size n 0 bs W h n0 n1 hl)
 have eg:∀args w,(callFunc 371 args).run prog w=.ok (.enter 371 args) w:=fun _ _=>rfl
 have HO1:Hid (iF a b c d 0++eG a=iF a b c d 1):=aI rfl;have RN:Hid (iF a b c d 1++eG b=iF a b c d 2):=aI rfl;have Kq:Hid (iF a b c d 2++eG c=iF a b c d 3):=aI rfl;have HO4:Hid (iF a b c d 3++eG d=iF a b c d 4):=aI rfl;have x_:=aI (Jj a b c d);have ef7:sF 7=371:=rfl;rw[ef7] at FO;clear hr hp ef7 Gm x9 vk Gn
 go_enter func164,ntmps164
 go_wp2_with fail;refine(N8 w).mono ?_
 rintro e w1 ⟨rfl,hb1⟩;have hz1:=hb1.size
 go_wp2_with fail;obtain⟨g,hg⟩:=aF (w1.heap.size);have W0:=aI (Wr.new 325 w1 w.heap.size hz1);have hb2:Below w.heap.size w (w1.alloc (.cells #[.slice none 0 0] 325)):=bw;rw[hg] at W0 |-;generalize w1.alloc (.cells #[.slice none 0 0] 325)=w2 at *;clear hg
 go_loopg [25] 4 (fun q i wr=>∃j:Nat,q=4 - j/\j<=4/\i=.int .i64 j/\Hid (Wr 325 w.heap.size wr g (iF a b c d j))/\Below w.heap.size w wr)
 case atStart=>exact⟨0,rfl,ae,rfl,W0,hb2⟩
 case round=>
  obtain⟨j,hq,hj,rfl,hw,hb⟩:=hrel;have HQ:=aI hq;have hz:=hb.size;clear hq
  rcases(show j=0\/j=1\/j=2\/j=3\/j=4 by omega) with rfl|rfl|rfl|rfl|rfl
  ·have Kt:=(hb.cell (p:=⟨gn,on,none⟩) hgn).trans CN0.o
   go_wp2_with (first
    | (go_at_call 236;refine((FO _).o).mono ?_;rintro e w3 ⟨rfl,hb3⟩;have hz3:=hb3.size)
    | (go_at_fn 371;refine((HF.o g a (iF a b c d 0) _ ((hw.o.keep hb3).keep ((aO _ _).alloc (aS _) _)) a0 a1 (by have:=x_.o 0;omega)).mono ?_);rintro e w4 ⟨rfl,k1,k2⟩;have oC:=k2.size;rw[HO1.o] at k1;have K1:=aI k1;clear k1))
   go_roundg 3
   case measure=>have:=HQ.o;omega
   case rel=>exact⟨1,rfl,ae,ai,K1,bw⟩
  ·have Kt:=(hb.cell (p:=⟨gn,on+1,none⟩) hgn).trans CN1.o
   go_wp2_with (first
    | (go_at_call 236;refine((FO _).o).mono ?_;rintro e w3 ⟨rfl,hb3⟩;have hz3:=hb3.size)
    | (go_at_fn 371;refine((HF.o g b (iF a b c d 1) _ ((hw.o.keep hb3).keep ((aO _ _).alloc (aS _) _)) b0 b1 (by have:=x_.o 1;omega)).mono ?_);rintro e w4 ⟨rfl,k1,k2⟩;have oC:=k2.size;rw[RN.o] at k1;have K1:=aI k1;clear k1))
   go_roundg 2
   case measure=>have:=HQ.o;omega
   case rel=>exact⟨2,rfl,ae,ai,K1,bw⟩
  ·have Kt:=(hb.cell (p:=⟨gn,on+2,none⟩) hgn).trans CN2.o
   go_wp2_with (first
    | (go_at_call 236;refine((FO _).o).mono ?_;rintro e w3 ⟨rfl,hb3⟩;have hz3:=hb3.size)
    | (go_at_fn 371;refine((HF.o g c (iF a b c d 2) _ ((hw.o.keep hb3).keep ((aO _ _).alloc (aS _) _)) c0 c1 (by have:=x_.o 2;omega)).mono ?_);rintro e w4 ⟨rfl,k1,k2⟩;have oC:=k2.size;rw[Kq.o] at k1;have K1:=aI k1;clear k1))
   go_roundg 1
   case measure=>have:=HQ.o;omega
   case rel=>exact⟨3,rfl,ae,ai,K1,bw⟩
  ·have Kt:=(hb.cell (p:=⟨gn,on+3,none⟩) hgn).trans CN3.o
   go_wp2_with (first
    | (go_at_call 236;refine((FO _).o).mono ?_;rintro e w3 ⟨rfl,hb3⟩;have hz3:=hb3.size)
    | (go_at_fn 371;refine((HF.o g d (iF a b c d 3) _ ((hw.o.keep hb3).keep ((aO _ _).alloc (aS _) _)) d0 d1 (by have:=x_.o 3;omega)).mono ?_);rintro e w4 ⟨rfl,k1,k2⟩;have oC:=k2.size;rw[HO4.o] at k1;have K1:=aI k1;clear k1))
   go_roundg 0
   case measure=>have:=HQ.o;omega
   case rel=>exact⟨4,rfl,ae,ai,K1,bw⟩
  ·obtain⟨hbg,v,hB,hO⟩:=hw.o
   have c0:=hB.cell 0;simp only[aK,aJ] at c0;have HO:=aI hO;clear hB hO
   go_wp2_with fail
   go_ret2
   exact⟨v,rfl,HO.o,hb⟩
open Tryz
open Go.RowKit Go.Lib
def nP(l:List Pr)(j:Nat):Pr:=l.getD j (0,0)
def QC(l:List Pr):Nat->List Int
 | 0=>zg (nP l 0).1
 | j+1=>eG ((nP l (j+1)).1 - (nP l j).1 - 1)
def lW(l:List Pr):Nat->List Int
 | 0=>[]
 | j+1=>lW l j++QC l j++eG (nP l j).2
def pR(a m:Nat)(l:List Pr)(f:Int):List Int:=iF a m l.length f 4++lW l l.length
theorem xx(h:j<l.length):nP l j=l[j]:=by unfold nP;rw[bD,a_ h];rfl
theorem zC(l:List Pr)(j:Nat):(QC l j).length<=10:=by
 cases j with
 | zero=>exact(dM _).2
 | succ j=>exact(dM _).2
theorem zD(l:List Pr):∀j,(lW l j).length<=20 * j
 | 0=>by simp[lW]
 | j+1=>by
  have h1:=zD l j;have h2:=zC l j;have h3:=dM (nP l j).2;simp only[lW,aQ];omega
theorem N9(c:UInt8)(m:Int)(out:List Int)(base:Nat)(vb:Value)(bs:List Int)(w:World)(hb0:base<=w.heap.size)(hO:OwnB base w vb bs)(hl:bs.length<=1000000000000)(hout:out.length<=1000)
 (hp:∀(v:Value) (w:World),iY .u64 w v [m]->aH 164 #[.string ⟨#[c]⟩,v] w fun e w'=>∃v,e=.returned (.tuple #[v,.int .i64 0])/\OwnB w.heap.size w' v out/\Below w.heap.size w w') :
 aH 168 #[vb,.string ⟨#[c]⟩,.int .u64 m] w fun e w'=>∃v,e=.returned v/\OwnB base w' v (bs++out)/\Touch (fun k=>vb.ownBlock=some k) w w':=by
 have HO:=aI hO;have HP:=aI hp;clear hO hp
 go_enter func168,ntmps168
 go_wp2_with fail;refine(HP.o _ _ (iY.fK _ _ _ _ _ rfl)).mono ?_
 rintro e w1 ⟨v1,rfl,o1,hb1⟩;have O1:=aI o1;have hz1:=hb1.size;have hb2:Below w.heap.size w w1:=bw;have hz2:=hb2.size;clear o1
 go_wp2_with (first
  | (at_builtin
     go_must (refine jH rfl (.tmp 16) (.tmp 17) rfl base vb bs rfl (dP.keep HO.o hb2) v1 out rfl (dP.rd O1.o) ae  ae ?_)
     intro v2 w2 o2 g2 a2;have hb3:Touch (fun k=>vb.ownBlock=some k) w w2:=(Touch.of_below hb2 (aS _)).grown g2 (fun k e=>.inl e)
     have O2:=aI o2;clear o2 g2 a2))
 go_ret;exact⟨v2,rfl,O2.o,hb3⟩
theorem Bf(n:Int)(base:Nat)(vb:Value)(bs:List Int)(w:World)(hb0:base<=w.heap.size)(hO:OwnB base w vb bs)(hl:bs.length<=1000000000000)(n0:0<=n)(n1:n<18446744073709551616) :
 aH 168 #[vb,.string ⟨#[118]⟩,.int .u64 n] w fun e w'=>∃v,e=.returned v/\OwnB base w' v (bs++eG n)/\Touch (fun k=>vb.ownBlock=some k) w w':=
 N9 118 n (eG n) base vb bs w hb0 hO hl (by have:=dM n;omega) (fun v w hr=>FC n v w hr n0 n1)
theorem Xh(x n:Int)(base:Nat)(vb:Value)(bs:List Int)(w:World)(hb0:base<=w.heap.size)(hO:OwnB base w vb bs)(hl:bs.length<=1000000000000)(hn:n=ub x)(h0:-9223372036854775808<=x)(h1:x<=9223372036854775807) :
 aH 168 #[vb,.string ⟨#[122]⟩,.int .u64 n] w fun e w'=>∃v,e=.returned v/\OwnB base w' v (bs++zg x)/\Touch (fun k=>vb.ownBlock=some k) w w':=by
 subst hn;exact N9 122 (ub x) (zg x) base vb bs w hb0 hO hl (by have:=dM (qA x);unfold zg;omega) (fun v w hr=>FD x v w hr h0 h1)
theorem Gp(c n x:Int)(base:Nat)(vb:Value)(bs:List Int)(w:World)(hb0:base<=w.heap.size)(hO:OwnB base w vb bs)(hl:bs.length<=1000000000000)(hc:(c=118/\x=n/\0<=n/\n<18446744073709551616)\/(c=122/\n=ub x/\-9223372036854775808<=x/\x<=9223372036854775807)) :
 aH 227 #[vb,.int .u8 c,.int .u64 n] w fun e w'=>∃v,e=.returned v/\OwnB base w' v (bs++(if c=118 then eG x else zg x))/\Below base w w':=by
 have HO:=aI hO;have C1:=aI (yV c n x w hc);have hlen:(if c=118 then eG x else zg x).length<=10:=by split;exact(dM _).2;exact(dM _).2
 generalize (if c=118 then eG x else zg x)=out at *
 clear hO hc
 go_enter func227,ntmps227
 go_wp2_with fail;refine(C1.o).mono ?_
 rintro e w1 ⟨v1,rfl,o1,hb1⟩;have O1:=aI o1;have hz1:=hb1.size;clear o1
 go_wp2_with (first
  | (at_builtin
     go_must (refine jH rfl (.tmp 15) (.tmp 16) rfl base vb bs rfl (dP.keep HO.o hb1) v1 out rfl (dP.rd O1.o) ae  ae ?_)
     intro v2 w2 o2 g2 a2;have hb2:Below base w w2:=(hb1.mono hb0).grown g2 ae (fun k hk=>(dP.lt HO.o k hk).1)
     have O2:=aI o2;clear o2 g2 a2))
 go_ret;exact⟨v2,rfl,O2.o,hb2⟩
theorem pU(n:Int)(base:Nat)(vb:Value)(bs:List Int)(w:World)(hb0:base<=w.heap.size)(hO:OwnB base w vb bs)(hl:bs.length<=1000000000000)(n0:0<=n)(n1:n<18446744073709551616) :
 aH 227 #[vb,.int .u8 118,.int .u64 n] w fun e w'=>∃v,e=.returned v/\OwnB base w' v (bs++eG n)/\Below base w w':=by
 have h:=Gp 118 n n base vb bs w hb0 hO hl (.inl ⟨rfl,rfl,n0,n1⟩)
 rwa [if_pos rfl] at h
theorem aa0(x n:Int)(base:Nat)(vb:Value)(bs:List Int)(w:World)(hb0:base<=w.heap.size)(hO:OwnB base w vb bs)(hl:bs.length<=1000000000000)(hn:n=ub x)(h0:-9223372036854775808<=x)(h1:x<=9223372036854775807) :
 aH 227 #[vb,.int .u8 122,.int .u64 n] w fun e w'=>∃v,e=.returned v/\OwnB base w' v (bs++zg x)/\Below base w w':=by
 have h:=Gp 122 n x base vb bs w hb0 hO hl (.inr ⟨rfl,hn,h0,h1⟩)
 rwa [if_neg ae] at h
open Tryz
open Go.RowKit Go.Lib
theorem zF(a b c d:Int):(iF a b c d 4).length<=40:=Jj a b c d 4
theorem KU(ok:uI l)(h:j+1<l.length):l[j].1<l[j+1].1:=List.pairwise_iff_getElem.1 ok.iU j (j+1) _ h ae
theorem iY.ao6(t:TypeId)(k:IntKind)(w:World)(a b c d:Int)(H:Nat)(h:w.heap.size=H):iY k (w.alloc (.cells #[.int k a,.int k b,.int k c,.int k d] t)) (.slice (some ⟨H,0,none⟩) 4 4) [a,b,c,d]:=by
 subst h;have h:dP t k w.heap.size (w.alloc (.cells #[.int k a,.int k b,.int k c,.int k d] t)) (.slice (some ⟨w.heap.size,0,none⟩) 4 4) [a,b,c,d]:=
  ⟨rfl,.inr ⟨w.heap.size,4,_,rfl,aS _,heap_alloc_new _ _,ag,by unfold maxLen;omega,rfl,ag⟩⟩
 exact h.rd
theorem Gq{d:Nat}{F:Ft}(w:World)(h:rq d a m l F w)(ok:kJ a m l) :
 aH 103 #[.pointer (some ⟨d,0,none⟩)] w fun e w'=>∃v,e=.returned (.tuple #[v,.int .i64 0])/\OwnB w.heap.size w' v (pR a m (dY m l).1 (dY m l).2)/\Below w.heap.size w w':=by
 have CP:=aI (Z4 w h ok);have S:=jE d a m l;have CA:Hid (∀w1,Below w.heap.size w w1->_):=aI (fun w1 hb=>Be w1 (S.keep h hb))
 have CB:Hid (∀w1,Below w.heap.size w w1->_):=aI (fun w1 hb=>wL w1 (S.keep h hb))
 have CF:Hid (∀w1,Below w.heap.size w w1->_):=aI (fun w1 hb=>Xa w1 (S.keep h hb))
 obtain⟨hq,_,hlm,f0,f1⟩:=ok.cut;have a0:=ok.a0;have a1:=ok.a1;have m0:=ok.m0;have m1:=ok.m1;generalize (dY m l).2=f at *;generalize (dY m l).1=q at *;have Ih:=aI hq;have hlen:=hq.len;clear h ok S hq
 go_enter func103,ntmps103
 go_wp2_with fail;refine(CP.o).mono ?_
 rintro e w1 ⟨v,rfl,o1,hb1⟩;have O1:=aI o1;obtain⟨A,k,rfl,_,_,hf⟩:=o1.form;have HF:=aI hf;have hz1:=hb1.size;clear o1 hf
 go_wp2_with fail;refine(CA.o w1 hb1).mono ?_
 rintro e w' ⟨rfl,rfl⟩
 go_wp2_with fail;refine(CB.o w1 hb1).mono ?_
 rintro e w' ⟨rfl,rfl⟩
 go_wp2_with fail;refine(CF.o w1 hb1).mono ?_
 rintro e w' ⟨rfl,rfl⟩
 go_wp2_with fail;refine(Xg a m q.length f _ _ (iY.ao6 _ _ _ _ _ _ _ _ rfl) ae  ae  ae  ae  ae  ae  ae  ae).mono ?_
 rintro e w2 ⟨v2,rfl,o2,hb2⟩;have jD:Below w.heap.size w w2:=hb1.trans (((aO w1.heap.size w1).alloc (aS _) _ |>.trans (hb2.mono ag)).mono hz1)
 have O2:Hid (OwnB w1.heap.size w2 v2 (iF a m q.length f 4)):=aI (dP.lift o2 (fun g e=>by have:=(dP.lt o2 g e).1;simp at this;omega))
 have hG:=zF a m q.length f;have HW:Hid (pR a m q f=iF a m q.length f 4++lW q q.length):=aI rfl;generalize iF a m q.length f 4=G at *;have hz2:=jD.size;have B12:Below w1.heap.size w1 w2:=(aO w1.heap.size w1).alloc (aS _) _ |>.trans (hb2.mono ag)
 clear o2 hb2
 go_wp2_with fail
 go_loopg [5,34] q.length (fun r y x wr=>∃(j:Nat) (b:Value),b=y/\r=q.length - j/\j<=q.length/\x=.int .i64 j/\Hid (OwnB w1.heap.size wr b (G++lW q j))/\Below w1.heap.size w1 wr)
 case atStart=>exact⟨0,_,rfl,ae,ae,rfl,aI (by simpa[lW] using O2.o),B12⟩
 case round=>
  obtain⟨j,b,rfl,hq,hj,rfl,HO,Xi⟩:=hrel;have HQ:=aI hq;clear hq;have hzw:=Xi.size;have hgl:=zD q j;have AQ:(G++lW q j).length<=100000000:=by rw[aQ];omega
  by_cases hlt:j<q.length
  ·obtain⟨g,off,rfl,hg,Vb,WZ⟩:=jQ HF.o hlt
   have c0:=(Xi.cell (p:=⟨g,off+j * 2,none⟩) hg).trans Vb;have c1:=(Xi.cell (p:=⟨g,off+j * 2+1,none⟩) hg).trans WZ;have hk:=Ih.o.key _ (bf hlt);have hp:=Ih.o.pos _ (bf hlt);have hp2:=pK Ih.o.pos _ (bf hlt);have ht:=Ih.o.tot;have hji:(j:Int)<(q.length:Int):=ae
   have HN:Hid (nP q j=q[j]):=aI (xx hlt);have HA:Below wr.heap.size wr (wr.alloc (.cells #[.int .i64 q[j].1,.int .u64 q[j].2] 178)):=bw;have HP:Hid (dK (wr.alloc (.cells #[.int .i64 q[j].1,.int .u64 q[j].2] 178)) wr.heap.size 178 #[.int .i64 q[j].1,.int .u64 q[j].2]):=aI (dK.new _ _ _);have hn2:q[j].2<18446744073709551616:=ae
   rcases bQ j with rfl|hj0
   ·have Xj:Hid (lW q (0+1)=lW q 0++zg q[0].1++eG q[0].2):=aI (by rw[<-HN.o];rfl)
    have z0:((0:Nat):Int)=0:=rfl;simp only[Nat.zero_mul,Nat.add_zero] at c0 c1;have HZ:Hid (zg q[0].1=QC q 0):=aI (by rw[<-HN.o];rfl)
    generalize q[0].1=x at *;generalize q[0].2=n at *;rw[z0];clear z0 Vb WZ;obtain⟨w3,hw3⟩:=aF (wr.alloc (.cells #[.int .i64 x,.int .u64 n] 178));rw[hw3] at HA HP;have RP:=Xi.trans (HA.mono hzw);have Kq:=aI (dP.keep HO.o HA);have hz3:=RP.size;obtain⟨p,hpp⟩:=aF (wr.heap.size);rw[hpp] at HP;have hp3:=HP.o.lt
    go_upto_region 10 with fail;have p0:=HP.o.cell 0;simp only[aK,aJ,aN] at p0
    go_wp2_with fail;refine(Xh x _ w1.heap.size _ (G++lW q 0) w3 hz3 Kq.o ae (by rw[fF];rfl) ae  ae).mono ?_
    rintro e w4 ⟨v4,rfl,o4,t4⟩;have P4:Below w1.heap.size w1 w4:=RP.trans (t4.below (fun k e=>(dP.lt Kq.o k e).1) ae)
    have oC:=P4.size;have hpn:¬(b.ownBlock=some p):=fun e=>by have:=(dP.lt HO.o p e).2;omega
    have p1:=(dO t4 1 hp3 hpn).trans (HP.o.cell 1);simp only[aK,aJ,aN] at p1;have O4:=aI o4;have ba8:(zg x).length<=10:=by rw[HZ.o];exact zC q 0
    clear o4 t4
    go_wp2_with fail;refine(Bf n w1.heap.size _ (G++lW q (0)++zg x) w4 oC O4.o (by simp only[aQ] at AQ |-;omega) ae  ae).mono ?_
    rintro e w5 ⟨v5,rfl,o5,t5⟩;have P5:Below w1.heap.size w1 w5:=P4.trans (t5.below (fun k e=>(dP.lt O4.o k e).1) ae)
    have O5:=aI o5;clear o5 t5
    go_wp2_with fail
    go_roundg (q.length - (0+1))
    case measure=>have:=HQ.o;omega
    case rel=>exact⟨0+1,_,rfl,rfl,ae,ai,aI (by rw[Xj.o,<-aX,<-aX];exact O5.o),P5⟩
   ·obtain⟨s,rfl⟩:∃s,j=s+1:=⟨j - 1,ae⟩
    obtain⟨g',off',he,_,d0w,_⟩:=jQ HF.o (j:=s) (by omega)
    cases he
    have D0:=aI d0w;have bm0:=KU Ih.o hlt;have hk2:=Ih.o.key _ (bf (show s<q.length by omega))
    have KX:Hid (nP q s=q[s]):=aI (xx ae)
    have Xj:Hid (lW q (s+1+1)=lW q (s+1)++eG (q[s+1].1 - q[s].1 - 1)++eG q[s+1].2):=aI (by rw[<-HN.o,<-KX.o];rfl)
    have HZ:Hid (eG (q[s+1].1 - q[s].1 - 1)=QC q (s+1)):=aI (by rw[<-HN.o,<-KX.o];rfl)
    generalize q[s+1].1=x at *;generalize q[s+1].2=n at *;generalize q[s].1=y at *;have QB:Hid (IntKind.i64.wrap (s:Int)=(s:Int)):=aI ak
    have HW1:Hid (IntKind.i64.wrap (x - y)=x - y):=aI ak
    have HW2:Hid (IntKind.i64.wrap (x - y - 1)=x - y - 1):=aI ak
    have HW3:Hid (IntKind.u64.wrap (x - y - 1)=x - y - 1):=aI (by rw[fF];omega)
    clear Vb WZ d0w;have hs1:((s+1:Nat):Int)≠0:=ae
    have hsq:(s:Int)<(q.length:Int):=ae
    obtain⟨w3,hw3⟩:=aF (wr.alloc (.cells #[.int .i64 x,.int .u64 n] 178));rw[hw3] at HA HP;have RP:=Xi.trans (HA.mono hzw);have Kq:=aI (dP.keep HO.o HA);have hz3:=RP.size;obtain⟨p,hpp⟩:=aF (wr.heap.size);rw[hpp] at HP;have hp3:=HP.o.lt
    go_upto_region 12 with fail;clear c0 c1;have hpn:¬(b.ownBlock=some p):=fun e=>by have:=(dP.lt HO.o p e).2;omega
    have hbl:∀k,b.ownBlock=some k->w1.heap.size<=k:=fun k e=>(dP.lt Kq.o k e).1
    refine jh (Touch (fun k=>b.ownBlock=some k) w3) (dV 0 12 (fJ 12 (dV 13 1 []))) ((Touch.refl _ _).drew) ?_
    iterate 12 refine eQ (h:=fun w' hS'=>by have p0:=(dO hS' 0 hp3 hpn).trans (HP.o.cell 0);have d0:=((RP.trans (hS'.below hbl ae)).cell (p:=⟨g,off+s * 2,none⟩) hg).trans D0.o;have hws:=QB.o;have ew1:=HW1.o;have ew2:=HW2.o;have ew3:=HW3.o;simp only[aK,aJ,aN] at p0;go_simp;exact⟨rfl,rfl⟩) ?_
    refine fO fun K hK=>?_
    go_simp;refine(Bf (x - y - 1) w1.heap.size b (G++lW q (s+1)) w3.drew hz3 (dP.drew Kq.o) ae  ae  ae).mono ?_
    rintro e w4 ⟨v4,rfl,o4,t4'⟩;have t4:Touch (fun k=>b.ownBlock=some k) w3 w4:=((Touch.refl _ w3).drew).trans t4' (fun k e=>.inl e)
    clear t4';refine hK _ _ (t4) ?_
    clear hK K;refine eQ (h:=fun w' hS'=>by have p0:=(dO hS' 0 hp3 hpn).trans (HP.o.cell 0);have d0:=((RP.trans (hS'.below hbl ae)).cell (p:=⟨g,off+s * 2,none⟩) hg).trans D0.o;have hws:=QB.o;have ew1:=HW1.o;have ew2:=HW2.o;have ew3:=HW3.o;simp only[aK,aJ,aN] at p0;go_simp;exact⟨rfl,rfl⟩) ?_
    refine dJ ?_
    have P4:Below w1.heap.size w1 w4:=RP.trans (t4.below hbl ae)
    have oC:=P4.size;have p1:=(dO t4 1 hp3 hpn).trans (HP.o.cell 1);simp only[aK,aJ,aN] at p1;have O4:=aI o4;have ba8:(eG (x - y - 1)).length<=10:=by rw[HZ.o];exact zC q (s+1)
    clear o4 t4
    go_wp2_with fail;refine(Bf n w1.heap.size _ (G++lW q (s+1)++eG (x - y - 1)) w4 oC O4.o (by simp only[aQ] at AQ |-;omega) ae  ae).mono ?_
    rintro e w5 ⟨v5,rfl,o5,t5⟩;have P5:Below w1.heap.size w1 w5:=P4.trans (t5.below (fun k e=>(dP.lt O4.o k e).1) ae)
    have O5:=aI o5;clear o5 t5
    go_wp2_with fail
    go_roundg (q.length - (s+1+1))
    case measure=>have:=HQ.o;omega
    case rel=>exact⟨s+1+1,_,rfl,rfl,ae,ai,aI (by rw[Xj.o,<-aX,<-aX];exact O5.o),P5⟩
  ·obtain rfl:j=q.length:=ae
   go_wp2_with fail
   go_ret2
   exact⟨_,rfl,by rw[HW.o];exact dP.lift HO.o (fun g e=>by have:=(dP.lt HO.o g e).1;omega),hb1.trans (Xi.mono hz1)⟩
end Go.Proofs.YtilcnjbpmoijmaaGreat.D
