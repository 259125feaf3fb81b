/- Parts of a proof: what its theorem reaches, words cut short. No condition of its own. -/
import Derived.Test.YtkiebccnpheloaaGreatPk40
set_option maxRecDepth 100000
set_option maxHeartbeats 16000000
set_option linter.unusedVariables false
set_option linter.unusedSimpArgs false
namespace Go.Proofs.YtkiebccnpheloaaGreat.K
open Go.RowKit
theorem Vk{F G:Nat->Prop}{g h k n m led fQ a b:Nat}{lv Af:Value}{vs vs2:List Sv}{L M:LL}(w:World)(hs:rV F w g k n led lv vs L)(ht:rV G w h k m fQ Af vs2 M)
 (hok:ja (L,led,a)) (ER:ja (M,fQ,b)) (hn:n=wt L) (hm:m=wt M) (hnm:n+m<=281474976710656) (hcn:cnt L+cnt M<=900000) (h2:2<=k) (hk:k<=1000000) (hfn:gZ k (jq L M)=none) :
 Calls Tryz.prog 78 #[.pointer (some ⟨g,0,none⟩),.pointer (some ⟨h,0,none⟩),.pointer none] w fun e w'=>e=.returned (.int .i64 0)/\∃F' pX vs',rV F' w' g k (n+m) (min (led+fQ) 4611686018427387904) pX vs' (jq L M)/\(∀x,F' x->F x\/w.heap.size<=x)/\(∀x,F x->F' x)/\Touch F w w':=by
 have qF:=aB (uN hok ER ae hcn)
 have HT:=aB ht;have HS:=aB hs;have Jl:=aB hfn;have VQ:=aB hok.gY;have ak0:led<=4611686018427387904:=hok.led;have ak1:fQ<=4611686018427387904:=ER.led;have hlenL:L.length<=49:=hok.len;have ak2:M.length<=49:=ER.len;have c0:=hs.cell0;have C2:=aB hs.cell2;have c2:=hs.cell2;have C3:=aB hs.zN;have d0:=ht.cell0;have d2:=ht.cell2;have D2:=aB ht.cell2;have D3:=aB ht.zN;have hgw:=hs.blk.lt;have VT:=ht.blk.lt;have hov:¬(m:Int) > 281474976710656 - (n:Int):=ae
 have hcM:cnt M<=1000000000:=ae
 clear hs ht hok ER hn hm hfn
 go_enter Tryz.func78,Tryz.ntmps78
 go_wp2_with fail
 go_quiet (fail)
 go_wp2_with fail
 go_quiet (fail)
 go_upto_region 7 with fail;clear c0 c2 d0 d2;refine dD (fun w'=>Below w.heap.size w w') [(0,true),(2,true),(3,true),(4,true),(5,true),(6,true),(7,true),(8,true),(9,true),(1,false),(10,true),(11,true),(12,true)] (by kernel_rfl) (by kernel_rfl) (bw) ?_
 iterate 9
  refine dC ax  ax (fun R hR=>?_)
  apply aJ
  refine⟨fun w' hS'=>?_,?_⟩
  ·have d2:=(hS'.cell (p:=⟨h,2,none⟩) VT).trans D2.out
   have d3:=(hS'.cell (p:=⟨h,3,none⟩) VT).trans D3.out
   go_simp;exact⟨rfl,rfl⟩
  go_simp;refine hR _ ?_;clear hR R
 refine dE ax  ax (fun K hK=>?_)
 go_simp;refine(wK _ (HT.out.keep (bw)) ae hcM).mono ?_
 rintro e w1 ⟨lw,ws,rfl,hlo,hb1⟩;have PO:=aB hlo;have HB1:Below w.heap.size w w1:=Below.trans (bw) hb1;clear hlo hb1;refine hK _ _ (HB1) ?_
 clear hK K
 iterate 3
  refine dC ax  ax (fun R hR=>?_)
  apply aJ
  refine⟨fun w' hS'=>?_,?_⟩
  ·have d2:=(hS'.cell (p:=⟨h,2,none⟩) VT).trans D2.out
   have d3:=(hS'.cell (p:=⟨h,3,none⟩) VT).trans D3.out
   go_simp;exact⟨rfl,rfl⟩
  go_simp;refine hR _ ?_;clear hR R
 refine dF ?_
 have HL1:Hid (EP w.heap.size w1 lw ws M):=aB (by have h1:=PO.out;simpa only[fG] using h1)
 have GK:=aB (HS.out.keep HB1);have k2:=GK.out.cell2;have f2:=GK.out.blk.frozen 2
 go_upto_region 9 with fail;have hst2:=GK.out.Ph (.int .u64 (n+m:Nat));rw[dh] at hst2;have HS2:=aB hst2;have HT2:Hid (Touch F w (w1.setCell ⟨g,2,none⟩ (.int .u64 ((n:Int)+(m:Int))))):=aB ((Touch.of_below HB1 (aK _)).setCell (.inl GK.out.fg) _);have HA1:Hid (iK F w1 lw ws M):=aB (iK.nU HL1.out fun kk e=>HS.out.low kk e)
 have HA2:Hid (iK F (w1.setCell ⟨g,2,none⟩ (.int .u64 ((n:Int)+(m:Int)))) lw ws M):=aB (HA1.out.next (fun kk _ h1=>bF w1 ⟨g,2,none⟩ _ kk (fun e=>h1 (by rw[e];exact GK.out.fg))) ag (fun kk e=>.inl e))
 obtain⟨w2,hw2⟩:∃x,w1.setCell ⟨g,2,none⟩ (.int .u64 ((n:Int)+(m:Int)))=x:=⟨_,rfl⟩;rw[hw2] at HS2 HT2 HA2 |-;clear hw2 hst2 k2 f2 GK HL1 PO HA1 HB1;have k3:w2.cell? ⟨g,3,none⟩=some (.int .u64 led):=HS2.out.zN;have f3:=HS2.out.blk.frozen 3
 go_upto_region 10 with fail;have hst3:rV F (w2.setCell ⟨g,3,none⟩ (.int .u64 (min (led+fQ) 4611686018427387904:Nat))) g k (n+m) (min (led+fQ) 4611686018427387904) lv vs L:=by
  have:=HS2.out.ao3 (.int .u64 (min (led+fQ) 4611686018427387904:Nat));rw[<-dh] at this;exact this
 have Iu:Hid (min ((led:Int)+(fQ:Int)) 4611686018427387904=((min (led+fQ) 4611686018427387904:Nat):Int)):=aB ae
 rw[Iu.out];have HT3:Hid (Touch F w (w2.setCell ⟨g,3,none⟩ (.int .u64 (min (led+fQ) 4611686018427387904:Nat)))):=aB (HT2.out.setCell (.inl HS2.out.fg) _);have Jm:Hid (iK F (w2.setCell ⟨g,3,none⟩ (.int .u64 (min (led+fQ) 4611686018427387904:Nat))) lw ws M):=aB (HA2.out.next (fun kk _ h1=>bF w2 ⟨g,3,none⟩ _ kk (fun e=>h1 (by rw[e];exact HS2.out.fg))) ag (fun kk e=>.inl e))
 have Yu:=aB hst3;obtain⟨w3,hw3⟩:∃x,w2.setCell ⟨g,3,none⟩ (.int .u64 (min (led+fQ) 4611686018427387904:Nat))=x:=⟨_,rfl⟩;rw[hw3] at Yu HT3 Jm |-;clear hw3 hst3 k3 f3 HS2 HT2 HA2 Iu;have hz3:=HT3.out.size;obtain⟨A0,c0,elw,_,_,_⟩:=Jm.out.now.row.form;rw[Jm.out.now.len] at elw;subst elw;obtain⟨ld,hld⟩:∃ld,min (led+fQ) 4611686018427387904=ld:=⟨_,rfl⟩;rw[hld] at Yu qF |-;have Yv:=aB hld;clear hld hov
 go_wp2_with fail
 go_loopg [10,11,66] M.length (fun q _ _ i wr=>∃(j:Nat) (F1:Nat->Prop) (oP:Value) (vs1:List Sv),q=M.length - j/\j<=M.length/\i=.int .i64 (j:Int)/\Hid (ay3 F w g k (n+m) ld L M (.slice A0 M.length c0) ws j F1 wr oP vs1))
 case atStart=>exact⟨0,F,lv,vs,ae,ae,rfl,aB ⟨Yu.out,Jm.out,fun _ h=>.inl h,fun _ h=>h,HT3.out⟩⟩
 case round=>
  obtain⟨j,F1,oP,vs1,hq,hj,rfl,HA⟩:=hrel;have HQ:=aB hq;clear hq;have hsz:=HA.out.touch.size
  by_cases hjl:j<M.length
  ·obtain⟨gl,off,sA,sc,eA,hgl,hvs,c2,_⟩:=HA.out.al.now.at_ hjl
   subst eA;have ay4:(takeN M j L).length<=49:=by rw[kL];omega
   have hlj:(lvl M j).length<=900000:=by have:=fB M j;omega
   have hlN:(lvl (takeN M j L) j).length<=900000:=by have:=fB (takeN M j L) j;have h1:=uI M L j ae ;have h2:=tV M j;omega
   have EO:=aB (put_any j (gX (sA,(lvl M j).length,sc)) (lvl M j) wr HA.out.st (HA.out.al.one hvs) (uM VQ.out j j) ae  ae  ae  ae)
   obtain⟨x,hx⟩:∃x,(lvl M j).length=x:=⟨_,rfl⟩;rw[hx] at c2 EO;clear hvs hx
   go_wp2_with fail;refine(EO.out).mono ?_
   rintro e w5 ⟨rfl,F2,Yw,ap9,q1,q2,q3,q4⟩;have Q1:=aB q1;have Q2:=aB q2;have Q3:=aB q3;have Q4:=aB q4;clear q1 q2 q3 q4 EO c2
   go_wp2_with fail
   go_roundg (M.length - (j+1))
   case measure=>have:=HQ.out;omega
   case rel=>
    refine⟨j+1,F2,Yw,ap9,rfl,ae,ai,aB ⟨Q3.out,?_,?_,?_,?_⟩⟩
    ·exact HA.out.al.next (fun kk h1 h2=>Q4.out.block kk h1 h2) Q4.out.size Q1.out
    ·intro kk hk1
     rcases Q1.out kk hk1 with h1|h1
     ·exact HA.out.sub kk h1
     ·exact .inr ae
    ·exact fun kk hk1=>Q2.out kk (HA.out.sup kk hk1)
    ·exact HA.out.touch.trans Q4.out fun i hi=>HA.out.sub i hi
  ·obtain rfl:j=M.length:=ae
   have HP:=aB (G9 (.func (.func 171) #[.pointer none] #[]) wr HA.out.st h2 hk (by have:=qF.out.len;exact bG this af) (by have:=qF.out.cnt;exact bG this af) Jl.out)
   go_wp2_with fail;refine(HP.out).mono ?_
   rintro e w2 ⟨rfl,hw⟩;subst hw;clear HP
   go_wp2_with fail;refine bodyPost_ret (by simp[results,Tryz.results78,go_sem, *];try rfl) rfl ?_
   rw[Yv.out];exact⟨rfl,F1,oP,vs1,HA.out.st,HA.out.sub,HA.out.sup,HA.out.touch⟩
end Go.Proofs.YtkiebccnpheloaaGreat.K
namespace Go.Proofs.YtkiebccnpheloaaGreat.D
open Go.RowKit Go.Lib Go.Shelf
theorem jb.stay{q:Value}{B:List Int}{a:Nat}{H:Ft}{w w':World}(h:jb q B a H w)(hk:∀k,H k->w'.heap[k]?=w.heap[k]?)(hz:w.heap.size<=w'.heap.size):jb q B a H w':=by
 rcases h with h|⟨cg,r,cv,e,h1,h2,h3,h4,h5⟩
 ·exact .inl h
 ·exact .inr ⟨cg,r,cv,e,h1.stay (hk _ h2) (hk _ h3) (fun k e=>hk k (h4 k e)) hz,h2,h3,h4,fun k h=>aU (h5 k h) hz⟩
theorem jb.low{q:Value}{B:List Int}{a:Nat}{H:Ft}{w:World}(h:jb q B a H w):∀k,H k->k<w.heap.size:=by
 rcases h with⟨_,_,_,h⟩|⟨cg,r,cv,e,h1,h2,h3,h4,h5⟩
 ·exact fun k hk=>absurd hk (h k)
 ·exact h5
theorem jb.keep{q:Value}{B:List Int}{a:Nat}{H:Ft}{w w':World}(h:jb q B a H w)(hb:Below w.heap.size w w'):jb q B a H w':=h.stay (fun k hk=>hb.block k (h.low k hk)) hb.size
theorem jb.far{q:Value}{B:List Int}{a:Nat}{F H:Ft}{w w':World}(h:jb q B a H w)(ht:Touch F w w')(hd:∀k,H k->¬F k):jb q B a H w':=h.stay (fun k hk=>ht.block k (h.low k hk) (hd k hk)) ht.size
theorem gI.stay{o:Nat}{q:Value}{B:List Int}{a:Nat}{H:Ft}{w w':World}(h:gI o q B a H w)(hk:∀k,H k->w'.heap[k]?=w.heap[k]?)(ho:∀k,k<o->w'.heap[k]?=w.heap[k]?)(hz:w.heap.size<=w'.heap.size):gI o q B a H w':=by
 obtain⟨dg,dv,e,h1,h2,h3,h4⟩:=h;exact⟨dg,dv,e,h1.stay (hk _ h2) (fun k e=>(h3 k e).elim (ho k) (hk k)) hz,h2,h3,fun k h=>aU (h4 k h) hz⟩
theorem gI.low{o:Nat}{q:Value}{B:List Int}{a:Nat}{H:Ft}{w:World}(h:gI o q B a H w):∀k,H k->k<w.heap.size:=by
 obtain⟨dg,dv,e,h1,h2,h3,h4⟩:=h;exact h4
theorem gI.keep{o:Nat}{q:Value}{B:List Int}{a:Nat}{H:Ft}{w w':World}(h:gI o q B a H w)(ho:o<=w.heap.size)(hb:Below w.heap.size w w'):gI o q B a H w':=h.stay (fun k hk=>hb.block k (h.low k hk)) (fun k hk=>hb.block k ae) hb.size
theorem gI.far{o:Nat}{q:Value}{B:List Int}{a:Nat}{F H:Ft}{w w':World}(h:gI o q B a H w)(ho:o<=w.heap.size)(ht:Touch F w w')(hd:∀k,H k->¬F k)(hF:∀k,F k->o<=k):gI o q B a H w':=
 h.stay (fun k hk=>ht.block k (h.low k hk) (hd k hk)) (fun k hk=>ht.block k ae (fun hf=>by have:=hF k hf;omega)) ht.size
theorem jv{P C:Ft->World->Prop}(S:mQ P){F H:Ft}{er:Int}{w w':World}{e:Ending}(h:P F w)(he:e=.returned (.int .i64 er))(hb:Below w.heap.size w w')(hc:C H w'):jc P C F H er w e w':=
 ⟨he,S.more (S.keep h hb) (fun _ h=>.inl h) (jI (S.low h) hb.size),hc,Touch.of_below hb (aK _)⟩
theorem pJ{P C:Ft->World->Prop}{F H:Ft}{er:Int}{w w':World}{e:Ending}(h:z_ P F er w e w')(hc:C H w'):jc P C F H er w e w':=⟨h.1,h.2.1,hc,h.2.2.mono fun _ h=>.inl h⟩
section
variable {G H F' : Ft} {w w' : World} {p q n cg r led a o p2 fQ : Nat} {cv lv cq : Value} {B : List Int} {s0 : K.KS} {vs : List K.Sv} {L M : K.LL} {G2 : Ft}
theorem RJ(hp:K.IM G w p q n cg r cv B s0 F' w' lv vs (K.gB q B s0))(hn:n=K.wt s0.1)(hG:∀k,G k->k<w.heap.size)(h1:H cg)(h2:H r)(h3:∀k,cv.ownBlock=some k->H k)(h4:∀k,H k->k<w.heap.size) :
 jc (fun G w=>K.GR G w p q (K.gB q B s0).1 (K.gB q B s0).2.1) (jb (jF cg) B (K.gB q B s0).2.2) G H 0 w (.returned (.int .i64 0)) w':=by
 have ht:Touch (fun k=>G k\/H k) w w':=hp.touch.mono fun x hx=>hx.imp id fun e=>by rw[show x=r from e];exact h2
 refine⟨rfl,(rF p q _ _).gr (w:=w) ⟨lv,vs,?_⟩ hp.sub hG hp.touch.size,.inr ⟨cg,r,cv,rfl,hp.co,h1,h2,h3,fun k h=>aU (h4 k h) hp.touch.size⟩,ht⟩
 rw[K.Ea,<-hn];exact hp.st
theorem LK{dg:Nat}{dv:Value}(hp:K.zh G w p q dg dv B s0 F' w' lv vs (K.gB q B s0))(hG:∀k,G k->k<w.heap.size)(h1:H dg)(h3:∀k,dv.ownBlock=some k->k<o\/H k)(h4:∀k,H k->k<w.heap.size) :
 jc (fun G w=>K.YB G w p q (K.gB q B s0).1 (K.gB q B s0).2.1) (gI o (jF dg) B (K.gB q B s0).2.2) G H 0 w (.returned (.int .i64 0)) w':=by
 have ht:Touch (fun k=>G k\/H k) w w':=hp.touch.mono fun x hx=>hx.imp id fun e=>by rw[show x=dg from e];exact h1
 exact⟨rfl,(rG p q _ _).gr (w:=w) ⟨lv,vs,hp.st⟩ hp.sub hG hp.touch.size,⟨dg,dv,rfl,hp.co,h1,h3,fun k h=>aU (h4 k h) hp.touch.size⟩,ht⟩
theorem ba1(v:Int)(n:Nat)(h:K.GR G w p q L led)(hf:K.Fit q L led)(hc:jb cq B a H w)(hq:cq≠.pointer none)(hd:∀k,H k->¬G k)(h8:8<=q)(hk:q<=4096)(hn:n<18446744073709551616) :
 Calls Tryz.prog 134 #[.pointer (some ⟨p,0,none⟩),.int .i64 v,.int .u64 n,cq] w (jc (fun G w=>K.GR G w p q (K.qG q B v n (L,led,a)).1 (K.qG q B v n (L,led,a)).2.1) (jb cq B (K.qG q B v n (L,led,a)).2.2) G H (K.rX L n) w):=by
 have hG:=(rF p q L led).low h;have h':=h;obtain⟨lv,vs,hs⟩:=h;have hcnt:=hf.cnt ae hk
 have hw:=hf.ok.VU;unfold K.qG
 by_cases h0:n=0
 ·subst h0
  have e:K.rX L 0=4:=rfl;rw[e,if_neg af]
  refine(K.add_zero p v _ w).mono ?_
  rintro _ w' ⟨rfl,rfl⟩;exact jv (rF p q _ _) h' rfl (aH _ _) hc
 ·by_cases h6:281474976710656<K.wt L+n
  ·have e:K.rX L n=6:=by unfold K.rX;rw[if_neg h0,if_pos h6]
   rw[e,if_neg af]
   refine(K.add_over v n _ w hs hw h6 hn).mono ?_
   rintro _ w' ⟨rfl,rfl⟩;exact jv (rF p q _ _) h' rfl (aH _ _) hc
  ·have e:K.rX L n=0:=by unfold K.rX;rw[if_neg h0,if_neg h6]
   rw[e,if_pos rfl]
   rcases hc with⟨e1,_⟩|⟨cg,r,cv,rfl,h1,h2,h3,h4,h5⟩
   ·exact absurd e1 hq
   ·refine(K.ae4 v w hs h1 ⟨hd _ h2,hd _ h3,fun k e=>⟨hd _ (h4 k e),h5 _ (h4 k e)⟩,h5 _ h2,h5 _ h3⟩ hf.pk rfl ae  ae  ae  ae  ae).mono ?_
    rintro _ w' ⟨rfl,F',pX,vs',hp,_⟩;exact RJ hp (K.IK _ _ ae).symm hG h2 h3 h4 h5
theorem ar0(v:Int)(n:Nat)(h:K.YB G w p q L led)(hf:K.Fit q L led)(hc:gI o cq B a H w)(hd:∀k,H k->¬G k)(ho:o<=w.heap.size)(Vl:∀k,G k->o<=k)(h8:8<=q)(hk:q<=4096)(hn:n<18446744073709551616) :
 Calls Tryz.prog 177 #[.pointer (some ⟨p,0,none⟩),.int .i64 v,.int .u64 n,cq] w (jc (fun G w=>K.YB G w p q (K.qG q B v n (L,led,a)).1 (K.qG q B v n (L,led,a)).2.1) (gI o cq B (K.qG q B v n (L,led,a)).2.2) G H (K.rX L n) w):=by
 have hG:=(rG p q L led).low h;have h':=h;obtain⟨lv,vs,hs⟩:=h;have hcnt:=hf.cnt ae hk
 have hw:=hf.ok.VU;unfold K.qG
 by_cases h0:n=0
 ·subst h0
  have e:K.rX L 0=4:=rfl;rw[e,if_neg af]
  refine(K.UL p v _ w).mono ?_
  rintro _ w' ⟨rfl,rfl⟩;exact jv (rG p q _ _) h' rfl (aH _ _) hc
 ·by_cases h6:281474976710656<K.wt L+n
  ·have e:K.rX L n=6:=by unfold K.rX;rw[if_neg h0,if_pos h6]
   rw[e,if_neg af]
   refine(K.UM v n _ w hs hw hf.ok.Ag h6 hn).mono ?_
   rintro _ w' ⟨rfl,rfl⟩;exact jv (rG p q _ _) h' rfl (aH _ _) hc
  ·have e:K.rX L n=0:=by unfold K.rX;rw[if_neg h0,if_neg h6]
   rw[e,if_pos rfl];obtain⟨dg,dv,rfl,h1,h2,h3,h4⟩:=hc;refine(K.Cj v w hs h1 ⟨hd _ h2,fun k e=>⟨fun hg=>(h3 k e).elim (fun h=>by have:=Vl k hg;omega) (fun h=>hd k h hg),(h3 k e).elim (fun h=>by omega) (h4 k)⟩,h4 _ h2⟩ hf.pk ae  ae  ae  ae  ae).mono ?_
   rintro _ w' ⟨rfl,F',pX,vs',hp⟩;exact LK hp hG h2 h3 h4
theorem ar1(h:K.GR G w p q L led)(hf:K.Fit q L led)(h2:K.GR G2 w p2 q M fQ)(hf2:K.Fit q M fQ)(hc:jb cq B a H w)(hq:cq=.pointer none->K.gZ q (K.jq L M)=none)(hd:∀k,H k->¬G k)(h8:8<=q)(hk:q<=4096) :
 Calls Tryz.prog 78 #[.pointer (some ⟨p,0,none⟩),.pointer (some ⟨p2,0,none⟩),cq] w (jc (fun G w=>K.GR G w p q (K.kz q B (M,fQ) (L,led,a)).1 (K.kz q B (M,fQ) (L,led,a)).2.1) (jb cq B (K.kz q B (M,fQ) (L,led,a)).2.2) G H (K.gU L M) w):=by
 have hG:=(rF p q L led).low h;have h':=h;obtain⟨lv,vs,hs⟩:=h;obtain⟨Af,vs2,ht⟩:=h2;have hcnt:=hf.cnt ae hk
 have hcnt2:=hf2.cnt ae hk
 unfold K.kz
 by_cases h6:281474976710656<K.wt L+K.wt M
 ·have e:K.gU L M=6:=by unfold K.gU;rw[if_pos h6]
  rw[e,if_neg af]
  refine(K.UT _ w hs ht hf.ok.VU hf2.ok.VU h6).mono ?_
  rintro _ w' ⟨rfl,z,rfl⟩;have hb:Below w.heap.size w (w.drewN z):=below_drewN (aH _ _) _;exact jv (rF p q _ _) h' rfl hb (hc.keep hb)
 ·have e:K.gU L M=0:=by unfold K.gU;rw[if_neg h6]
  rw[e,if_pos rfl]
  rcases hc with⟨rfl,rfl,rfl,hH⟩|⟨cg,r,cv,rfl,h1,h2,h3,h4,h5⟩
  ·have hfn:=hq rfl
   refine(K.Vk (a:=0) (b:=0) w hs ht hf.pk hf2.pk rfl rfl ae  ae  ae  ae hfn).mono ?_
   rintro _ w' ⟨rfl,F',pX,vs',q1,q2,q3,q4⟩;rw[K.rD hfn];refine⟨rfl,(rF p q _ _).gr (w:=w) ⟨pX,vs',?_⟩ q2 hG q4.size,.inl ⟨rfl,rfl,rfl,hH⟩,q4.mono fun _ h=>.inl h⟩
   rw[K.xZ];exact q1
  ·refine(K.D_ w hs ht h1 ⟨hd _ h2,hd _ h3,fun k e=>⟨hd _ (h4 k e),h5 _ (h4 k e)⟩,h5 _ h2,h5 _ h3⟩ hf.pk (hf2.pk (a:=0)) rfl rfl ae  ae  ae  ae).mono ?_
   rintro _ w' ⟨rfl,F',pX,vs',hp,_⟩;exact RJ hp (K.xZ _ _).symm hG h2 h3 h4 h5
theorem ag1(h:K.YB G w p q L led)(hf:K.Fit q L led)(h2:K.YB G2 w p2 q M fQ)(hf2:K.Fit q M fQ)(hc:gI o cq B a H w)(hd:∀k,H k->¬G k)(ho:o<=w.heap.size)(Vl:∀k,G k->o<=k)(h8:8<=q)(hk:q<=4096) :
 Calls Tryz.prog 94 #[.pointer (some ⟨p,0,none⟩),.pointer (some ⟨p2,0,none⟩),cq] w (jc (fun G w=>K.YB G w p q (K.kz q B (M,fQ) (L,led,a)).1 (K.kz q B (M,fQ) (L,led,a)).2.1) (gI o cq B (K.kz q B (M,fQ) (L,led,a)).2.2) G H (K.gU L M) w):=by
 have hG:=(rG p q L led).low h;have h':=h;obtain⟨lv,vs,hs⟩:=h;obtain⟨Af,vs2,ht⟩:=h2;have hcnt:=hf.cnt ae hk
 have hcnt2:=hf2.cnt ae hk
 unfold K.kz
 by_cases h6:281474976710656<K.wt L+K.wt M
 ·have e:K.gU L M=6:=by unfold K.gU;rw[if_pos h6]
  rw[e,if_neg af]
  refine(K.PT _ w hs ht (hf.pk (a:=0)) (hf2.pk (a:=0)) h6).mono ?_
  rintro _ w' ⟨rfl,z,rfl⟩;have hb:Below w.heap.size w (w.drewN z):=below_drewN (aH _ _) _;exact jv (rG p q _ _) h' rfl hb (hc.keep ho hb)
 ·have e:K.gU L M=0:=by unfold K.gU;rw[if_neg h6]
  rw[e,if_pos rfl];obtain⟨dg,dv,rfl,h1,h2,h3,h4⟩:=hc;refine(K.zi w hs ht h1 ⟨hd _ h2,fun k e=>⟨fun hg=>(h3 k e).elim (fun h=>by have:=Vl k hg;omega) (fun h=>hd k h hg),(h3 k e).elim (fun h=>by omega) (h4 k)⟩,h4 _ h2⟩ hf.pk (hf2.pk (a:=0)) ae  ae  ae  ae).mono ?_
  rintro _ w' ⟨rfl,F',pX,vs',hp⟩;exact LK hp hG h2 h3 h4
end
end Go.Proofs.YtkiebccnpheloaaGreat.D
namespace Go.Proofs.YtkiebccnpheloaaGreat
def PY(d n:Int):Int->List Mn->Prop
 | _,[]=>True
 | _,[_]=>True
 | done,a::b::r=>(∃m,0<m/\m<=b.2/\xk d n done (a.2+m)=false)/\PY d n (done+a.2) (b::r)
theorem zV(d n:Int):∀(l:List Mn) (done:Int) (now:Mn),jY l->∃b r,iI d n l done now=b::r/\now.2<=b.2
 | [],_,now,_=>⟨now,[],rfl,Int.le_refl _⟩
 | m::l,done,now,ho=>by
  have hm:=(ho m (aQ ..)).2.2;unfold iI
  split
  ·obtain⟨b,r,h1,h2⟩:=zV d n l done (kV now.1 m.1 m.2 (now.2+m.2),now.2+m.2) ho.tail
   exact⟨b,r,h1,by simp only at h2;omega⟩
  ·exact⟨now,_,rfl,Int.le_refl _⟩
theorem wM(d n:Int):∀(l:List Mn) (done:Int) (now:Mn),jY l->PY d n done (iI d n l done now)
 | [],_,_,_=>trivial
 | m::l,done,now,ho=>by
  have hm:=(ho m (aQ ..)).2.2;unfold iI
  split
  ·exact wM d n l done _ ho.tail
  ·rename_i hc
   obtain⟨b,r,h1,h2⟩:=zV d n l (done+now.2) m ho.tail;have ih:=wM d n l (done+now.2) m ho.tail;rw[h1] at ih |-;exact⟨⟨m.2,hm,h2,by simpa using hc⟩,ih⟩
theorem ag2(d:Int){l:List Mn}(h:jY l):PY d (tot l) 0 (sF d l):=by
 unfold sF;have:=h.gY
 cases hs:gY l with
 | nil=>trivial
 | cons m s=>rw[hs] at this;exact wM d (tot l) s 0 m this.tail
theorem YT{d n done w:Int}(h:xk d n done w=false)(n0:0<n)(d0:0<=done)(w0:0<w)(hl:2 * done+w<=n):2 * done<=w * (d - 1):=by
 unfold xk at h;have h1:(2 * done+w) * (2 * n - 2 * done - w)<w * d * n:=by simpa using h
 have h2:(2 * done+w) * n<=(2 * done+w) * (2 * n - 2 * done - w):=Int.mul_le_mul_of_nonneg_left ae  ae
 have h3:(2 * done+w) * n<w * d * n:=ae
 have h4:2 * done+w<w * d:=Int.lt_of_mul_lt_mul_right h3 ae
 have h5:w * (d - 1)=w * d - w:=by rw[Int.mul_sub,Int.mul_one]
 omega
theorem Vm{d n done w:Int}(h:xk d n done w=false)(n0:0<n)(_d0:0<=done)(_w0:0<w)(hl:n<=2 * done+w)(hw:2 * done+w<=2 * n):2 * (n - done)<=w * (d+1):=by
 unfold xk at h;have h1:(2 * done+w) * (2 * n - 2 * done - w)<w * d * n:=by simpa using h
 have h2:n * (2 * n - 2 * done - w)<=(2 * done+w) * (2 * n - 2 * done - w):=Int.mul_le_mul_of_nonneg_right hl ae
 have h3:(2 * n - 2 * done - w) * n<w * d * n:=by rw[Int.mul_comm] at h2;omega
 have h4:2 * n - 2 * done - w<w * d:=Int.lt_of_mul_lt_mul_right h3 ae
 have h5:w * (d+1)=w * d+w:=by rw[Int.mul_add,Int.mul_one]
 omega
theorem PY.ak3{d n done:Int}{a b:Mn}{r:List Mn}(h:PY d n done (a::b::r)):PY d n (done+a.2+b.2) r:=by
 obtain⟨_,h2⟩:=h
 cases r with
 | nil=>trivial
 | cons c r=>exact h2.2
theorem LM{d n:Int}(n0:0<n)(d1:1<=d):∀(K:Nat) (P:List Mn) (done:Int),PY d n done P->jY P->0<=done->2 * K<=P.length->2 * (done+tot (P.take (2 * K)))<=n->2 * K * done<=tot (P.take (2 * K)) * (d - 1)
 | 0,P,done,_,_,_,_,_=>by simp[tot]
 | K+1,[],_,_,_,_,h,_=>by simp only[bf] at h;omega
 | K+1,[_],_,_,_,_,h,_=>by simp only[bK] at h;omega
 | K+1,a::b::r,done,hg,ho,h0,hl,ht=>by
  have ha:=(ho a (aQ ..)).2.2;have hb:=(ho b ag).2.2
  have e:2 * (K+1)=2 * K+1+1:=ae
  rw[e,List.take_succ_cons,List.take_succ_cons] at ht |-;simp only[tot] at ht |-;have hrt:=(ho.tail.tail.take (2 * K)).dL;have ih:=LM n0 d1 K r (done+a.2+b.2) hg.ak3 ho.tail.tail ae (by simp only[aP] at hl;omega) ae
  obtain⟨⟨m,m0,m1,hm⟩,_⟩:=hg;have hp:=YT hm n0 h0 ae  ae
  have hp2:(a.2+m) * (d - 1)<=(a.2+b.2) * (d - 1):=Int.mul_le_mul_of_nonneg_right ae  ae
  have hk:2 * (K:Int) * done<=2 * (K:Int) * (done+a.2+b.2):=Int.mul_le_mul_of_nonneg_left ae  ae
  have e1:(a.2+(b.2+tot (r.take (2 * K)))) * (d - 1)=(a.2+b.2) * (d - 1)+tot (r.take (2 * K)) * (d - 1):=by rw[<-Int.add_assoc,Int.add_mul]
  have e2:2 * ((K+1:Nat):Int) * done=2 * (K:Int) * done+2 * done:=by
   have:2 * ((K+1:Nat):Int)=2 * (K:Int)+2:=ae
   rw[this,Int.add_mul]
  rw[e1,e2];omega
theorem G_{d n:Int}(n0:0<n)(d1:1<=d):∀(K:Nat) (P:List Mn) (done:Int),PY d n done P->jY P->n<=2 * done->done+tot P=n->2 * K<=P.length->2 * K * tot (P.drop (2 * K))<=tot (P.take (2 * K)) * (d+1)
 | 0,P,done,_,_,_,_,_=>by simp[tot]
 | K+1,[],_,_,_,_,_,h=>by simp only[bf] at h;omega
 | K+1,[_],_,_,_,_,_,h=>by simp only[bK] at h;omega
 | K+1,a::b::r,done,hg,ho,h0,hn,hl=>by
  have ha:=(ho a (aQ ..)).2.2;have hb:=(ho b ag).2.2
  have e:2 * (K+1)=2 * K+1+1:=ae
  rw[e,List.take_succ_cons,List.take_succ_cons,bD,bD];simp only[tot] at hn |-;have hrt:=(ho.tail.tail.take (2 * K)).dL;have hrd:=(ho.tail.tail.drop (2 * K)).dL;have hsum:=dS (r.take (2 * K)) (r.drop (2 * K));rw[List.take_append_drop] at hsum;have ih:=G_ n0 d1 K r (done+a.2+b.2) hg.ak3 ho.tail.tail ae  ae (by simp only[aP] at hl;omega)
  obtain⟨⟨m,m0,m1,hm⟩,_⟩:=hg;have hp:=Vm hm n0 ae  ae  ae  ae
  have hp2:(a.2+m) * (d+1)<=(a.2+b.2) * (d+1):=Int.mul_le_mul_of_nonneg_right ae  ae
  have e1:(a.2+(b.2+tot (r.take (2 * K)))) * (d+1)=(a.2+b.2) * (d+1)+tot (r.take (2 * K)) * (d+1):=by rw[<-Int.add_assoc,Int.add_mul]
  have e2:2 * ((K+1:Nat):Int) * tot (r.drop (2 * K))=2 * (K:Int) * tot (r.drop (2 * K))+2 * tot (r.drop (2 * K)):=by
   have:2 * ((K+1:Nat):Int)=2 * (K:Int)+2:=ae
   rw[this,Int.add_mul]
  rw[e1,e2];omega
theorem PY.drop{d n:Int}:∀(i:Nat) (P:List Mn) (done:Int),PY d n done P->PY d n (done+tot (P.take i)) (P.drop i)
 | 0,P,done,h=>by simpa[tot] using h
 | i+1,[],done,_=>trivial
 | i+1,[a],done,_=>by simp[PY]
 | i+1,a::b::r,done,h=>by
  have:=PY.drop i (b::r) (done+a.2) h.2;rw[List.take_succ_cons,bD];simp only[tot];rw[<-Int.add_assoc];exact this
theorem zW{d n:Int}{D:Nat}(hD:(D:Int)=d)(n0:0<n)(d1:1<=d):∀(j:Nat) (P:List Mn) (done:Int),PY d n done P->jY P->0<=done->2 * D * j<=P.length->2 * (done+tot (P.take (2 * D * j)))<=n->2 ^ j * done<=done+tot (P.take (2 * D * j))
 | 0,P,done,_,_,_,_,_=>by simp[tot]
 | j+1,P,done,hg,ho,h0,hl,ht=>by
  have e:2 * D * (j+1)=2 * D+2 * D * j:=by rw[Nat.mul_add,Nat.mul_one];omega
  rw[e] at hl ht |-;have hsp:P.take (2 * D+2 * D * j)=P.take (2 * D)++(P.drop (2 * D)).take (2 * D * j):=by rw[List.take_add]
  rw[hsp,dS] at ht |-;have t1:=(ho.take (2 * D)).dL;have t2:=((ho.drop (2 * D)).take (2 * D * j)).dL;have h1:=LM n0 d1 D P done hg ho h0 ae  ae
  have h2:=zW hD n0 d1 j (P.drop (2 * D)) (done+tot (P.take (2 * D))) (hg.drop (2 * D)) (ho.drop _) ae (by rw[bn];omega) ae
  have h3:done<=tot (P.take (2 * D)):=by
   rw[hD] at h1;have h4:2 * d * done<=tot (P.take (2 * D)) * (d - 1):=h1;have h5:tot (P.take (2 * D)) * (d - 1)<=tot (P.take (2 * D)) * (2 * d):=Int.mul_le_mul_of_nonneg_left ae t1
   have h6:done * (2 * d)<=tot (P.take (2 * D)) * (2 * d):=by rw[Int.mul_comm done];omega
   exact Int.le_of_mul_le_mul_right h6 ae
  have h7:(2:Int) ^ j * (2 * done)<=2 ^ j * (done+tot (P.take (2 * D))):=Int.mul_le_mul_of_nonneg_left ae (Int.le_of_lt (Int.pow_pos ae))
  have h8:(2:Int) ^ (j+1) * done=2 ^ j * (2 * done):=by rw[Int.pow_succ,bV]
  rw[h8];omega
theorem x_{d n:Int}{D:Nat}(hD:(D:Int)=d+1)(n0:0<n)(d1:1<=d):∀(j:Nat) (P:List Mn) (done:Int),PY d n done P->jY P->n<=2 * done->done+tot P=n->2 * D * j<=P.length->2 ^ j * tot (P.drop (2 * D * j))<=tot P
 | 0,P,done,_,_,_,_,_=>by simp
 | j+1,P,done,hg,ho,h0,hn,hl=>by
  have e:2 * D * (j+1)=2 * D+2 * D * j:=by rw[Nat.mul_add,Nat.mul_one];omega
  rw[e] at hl |-;have hsum:=dS (P.take (2 * D)) (P.drop (2 * D));rw[List.take_append_drop] at hsum;have t1:=(ho.take (2 * D)).dL;have t2:=(ho.drop (2 * D)).dL;have h1:=G_ n0 d1 D P done hg ho h0 hn ae
  have h2:=x_ hD n0 d1 j (P.drop (2 * D)) (done+tot (P.take (2 * D))) (hg.drop (2 * D)) (ho.drop _) ae  ae (by rw[bn];omega)
  rw[List.drop_drop] at h2;have h3:tot (P.drop (2 * D))<=tot (P.take (2 * D)):=by
   rw[hD] at h1;have h6:tot (P.drop (2 * D)) * (2 * (d+1))<=tot (P.take (2 * D)) * (2 * (d+1)):=by
    have h5:tot (P.take (2 * D)) * (d+1)<=tot (P.take (2 * D)) * (2 * (d+1)):=Int.mul_le_mul_of_nonneg_left ae t1
    rw[Int.mul_comm (tot (P.drop (2 * D)))];omega
   exact Int.le_of_mul_le_mul_right h6 ae
  have h8:(2:Int) ^ (j+1) * tot (P.drop (2 * D+2 * D * j))=2 * (2 ^ j * tot (P.drop (2 * D+2 * D * j))):=by rw[Int.pow_succ,Int.mul_comm (2 ^ j) 2,bV]
  rw[h8];omega
theorem zX:∀{l:List Mn},jY l->(l.length:Int)<=tot l
 | [],_=>by simp[tot]
 | m::l,h=>by
  have:=zX h.tail;have:=(h m (aQ ..)).2.2;simp only[tot,aP];omega
theorem RN{d lo hi:Int}{l:List Mn}(h:jY l)(hb:∀m∈l,lo<=m.1/\m.1<=hi)(d1:1<=d)(ht:tot l<=281474976710656):((sF d l).length:Int)<=194 * d+99:=by
 have hg:=ag2 d h;have ho:=(Bv d lo hi h hb).1;have hn:=Aq d l
 cases hP:sF d l with
 | nil=>simp only[bf];omega
 | cons a r=>
  rw[hP] at hg ho hn;have ha:=(ho a (aQ ..)).2.2;have hr:=ho.tail.dL;simp only[tot] at hn;have hg1:=hg.drop 1;simp only[List.take_succ_cons,List.take_zero,bD,bQ,tot] at hg1;generalize tot l=n at *;obtain⟨D,hD⟩:∃D:Nat,(D:Int)=d:=⟨d.toNat,ae⟩
  have n0:0<n:=ae
  rw[show(0:Int)+(a.2+0)=a.2 by omega] at hg1
  simp only[aP]
  by_cases hX:r.length<2 * D * 48
  ·have:((2 * D * 48:Nat):Int)=96 * d:=by rw[<-hD];omega
   omega
  ·have hl:=zW hD n0 d1 48 r a.2 hg1 ho.tail ae  ae
   have hnot:¬2 * (a.2+tot (r.take (2 * D * 48)))<=n:=fun h1=>by
    have:=hl h1;have e:(2:Int) ^ 48=281474976710656:=af
    rw[e] at this;omega
   have hs:=dS (r.take (2 * D * 48)) (r.drop (2 * D * 48));rw[List.take_append_drop] at hs;have hg2:=hg1.drop (2 * D * 48);have hor:=ho.tail.drop (2 * D * 48);have hlen:(r.drop (2 * D * 48)).length=r.length - 2 * D * 48:=bn ..;have hx:((2 * D * 48:Nat):Int)=96 * d:=by rw[<-hD];omega
   generalize r.drop (2 * D * 48)=Q at *;generalize tot (r.take (2 * D * 48))=tk at *
   by_cases hY:Q.length<=2 * (D+1) * 49
   ·have hy:((2 * (D+1) * 49:Nat):Int)=98 * d+98:=by rw[<-hD];omega
    omega
   ·have hq:=x_ (D:=D+1) ae n0 d1 49 Q (a.2+tk) hg2 hor ae  ae  ae
    have hne:=zX (hor.drop (2 * (D+1) * 49));rw[bn] at hne;have e:(2:Int) ^ 49=562949953421312:=af
    rw[e] at hq;omega
end Go.Proofs.YtkiebccnpheloaaGreat
