/- Parts of a proof. No condition. -/
import Derived.Test.YtilcnjbpmoijmaaGreatPw43
set_option maxRecDepth 100000
set_option maxHeartbeats 16000000
set_option linter.unusedVariables false
set_option linter.unusedSimpArgs false
namespace Go.Proofs.YtilcnjbpmoijmaaGreat.D
open Tryz
open Go.RowKit Go.Lib Go.Shelf
variable{sp:fG}{c:Js}{x y:Nat}{w':World}{F:Ft}
def fG.kd:fG->Int
 | .h ..=>1
 | .d ..=>2
 | .t ..=>3
 | .k ..=>4
theorem jv{i:Nat}{cs:Array Value}{w0 w1:World}{e:Ending}(h:sQ y i cs (fun p w'=>∃x G,p=ji x/\rO sp c x G w'/\∀k,G k->w1.heap.size<=k) w1 e w')(hi:∀x,cs.setIfInBounds i (ji x)=sp.five x)(hyl:y<w1.heap.size)(hy0:w0.heap.size<=y) :
 e=.returned (.int .i64 0)/\(∃F,iK sp c y F w'/\∀k,F k->w0.heap.size<=k)/\Touch (fun j=>j=y) w1 w':=by
 obtain⟨rfl,p,wz,⟨x,G,rfl,hI,hG⟩,hb,hB,ht,ht2⟩:=h;rw[hi] at hB;have I:=(jF sp c x).far hI ht (fun k hk e=>by have:=hG k hk;rw[show k=y from e] at this;omega)
 refine⟨rfl,⟨fun k=>k=y\/G k,⟨x,G,hB,I,.inl rfl,fun hg=>by have:=hG y hg;omega,fun k hk=>.inr hk,fun k hk=>hk.elim (fun e=>by rw[e];exact hB.lt) ((jF sp c x).low I k)⟩,fun k hk=>hk.elim (fun e=>by rw[e];exact hy0) (fun h=>by have:=hG k h;omega)⟩,ht2⟩
theorem l_{w:World}(h:∃F,iK sp c y F w'/\∀k,F k->w.heap.size<=k):iK sp c y (Gr (fun _=>False) w w') w':=by
 obtain⟨F,h1,h2⟩:=h;exact(kz sp c y).more h1 (fun k hk=>.inr ⟨h2 k hk,(kz sp c y).low h1 k hk⟩) (fun k hk=>hk.elim False.elim And.right)
theorem Md(w:World)(ok:jG sp):aH 34 #[sp.v] w fun e w'=>∃x,e=.returned (.tuple #[.pointer (some ⟨x,0,none⟩),.int .i64 0])/\iK sp sp.new x (Gr (fun _=>False) w w') w'/\Below w.heap.size w w':=by
 have hs:∀y w1,(∃F,iK sp sp.new y F w1/\∀k,F k->w.heap.size<=k)->aH 53 #[.pointer (some ⟨y,0,none⟩)] w1 fun e w'=>e=.returned sp.v/\Below w1.heap.size w1 w':=fun y w1 ⟨F,h,_⟩=>Mc w1 h (tN ok)
 have hk:∀y w1 w',(∃F,iK sp sp.new y F w1/\∀k,F k->w.heap.size<=k)->Below w1.heap.size w1 w'->(∃F,iK sp sp.new y F w'/\∀k,F k->w.heap.size<=k):=fun y w1 w' ⟨F,h,h2⟩ hb=>⟨F,(kz sp _ y).keep h hb,h2⟩
 cases sp with
 | h lo hi dg u m gr=>
  refine(wZ (.inl ⟨rfl,rfl⟩) w (fun y w1 hb hy hB=>?_) hs hk).mono (fun e w' ⟨x,h1,h2,h3⟩=>⟨x,h1,l_ h2,h3⟩)
  refine(Dc hB (Q:=fun p w'=>∃x G,p=ji x/\rO (.h lo hi dg u m gr) (fG.h lo hi dg u m gr).new x G w'/\∀k,G k->w1.heap.size<=k) (fun wa g_=>?_)).mono (fun e w' h=>jv h (fun x=>rfl) hB.lt hy)
  refine(Ld gr wa ok).mono ?_
  rintro e w' ⟨x,rfl,h1,h2⟩;exact⟨x,rfl,⟨x,_,rfl,h1,fun k hk=>hk.elim False.elim (fun h=>bJ g_.size h.1)⟩,h2⟩
 | d a m=>
  refine(wZ (.inr (.inl ⟨rfl,rfl⟩)) w (fun y w1 hb hy hB=>?_) hs hk).mono (fun e w' ⟨x,h1,h2,h3⟩=>⟨x,h1,l_ h2,h3⟩)
  refine(Gu hB (Q:=fun p w'=>∃x G,p=ji x/\rO (.d a m) (fG.d a m).new x G w'/\∀k,G k->w1.heap.size<=k) (fun wa g_=>?_)).mono (fun e w' h=>jv h (fun x=>rfl) hB.lt hy)
  refine(RH a m wa ok.1 ok.2.1 ok.2.2.1 ok.2.2.2).mono ?_
  rintro e w' ⟨x,rfl,h1,h2⟩;exact⟨x,rfl,⟨x,_,rfl,h1,fun k hk=>hk.elim False.elim (fun h=>bJ g_.size h.1)⟩,h2⟩
 | t d=>
  refine(wZ (.inr (.inr (.inl ⟨rfl,rfl⟩))) w (fun y w1 hb hy hB=>?_) hs hk).mono (fun e w' ⟨x,h1,h2,h3⟩=>⟨x,h1,l_ h2,h3⟩)
  refine(vG hB (Q:=fun p w'=>∃x G,p=ji x/\rO (.t d) (fG.t d).new x G w'/\∀k,G k->w1.heap.size<=k) (fun wa g_=>?_)).mono (fun e w' h=>jv h (fun x=>rfl) hB.lt hy)
  refine(Ef d wa (by have:=ok.1;omega) (by have:=ok.2;omega)).mono ?_
  rintro e w' ⟨x,rfl,h0,h1,h2⟩;exact⟨x,rfl,⟨x,fun k=>k=x,rfl,h1,fun k hk=>by rw[show k=x from hk];exact bJ g_.size h0⟩,h2⟩
 | k q=>
  refine(wZ (.inr (.inr (.inr ⟨rfl,rfl⟩))) w (fun y w1 hb hy hB=>?_) hs hk).mono (fun e w' ⟨x,h1,h2,h3⟩=>⟨x,h1,l_ h2,h3⟩)
  refine(C_ hB (Q:=fun p w'=>∃x G,p=ji x/\rO (.k q) (fG.k q).new x G w'/\∀k,G k->w1.heap.size<=k) (fun wa g_=>?_)).mono (fun e w' h=>jv h (fun x=>rfl) hB.lt hy)
  refine(K.new_any q wa ok.1 ok.2).mono ?_
  rintro e w' ⟨rfl,rfl⟩;exact⟨_,rfl,⟨_,_,rfl,K.VH q wa,fun k hk=>by rw[show k=wa.heap.size from hk];exact g_.size⟩,bw⟩
theorem IC.rd{d:Nat}{s:St}(h:IC d s):∃k,Fit d s k/\k<=65536:=by
 rcases h.big with hb|rfl
 ·exact⟨_,h.fit,ae⟩
 ·have h0:=h.fit.d0
  have h1:=h.fit.d1;exact⟨0,⟨St.UF d ae,ae,by simp[St.zero,Go.Proofs.YtilcnjbpmoijmaaGreat.tot],h0,h1⟩,ae⟩
theorem yH.right{q:Nat}{L:K.LL}{led:Nat}(h:yH q L led):K.iw q L led:=K.Yy h.fit h.q0 h.q1 h.emp
theorem ai7(ok:iT sp c):(vU sp c).length<=1000000000:=by
 cases sp with
 | h lo hi dg u m gr=>
  show(hjB lo hi dg (eY u m hi c.bk) gr c.l).length<=_
  unfold hjB;rw[aQ];have h1:=rJ lo hi dg (Pg gr) 4;have h2:=wQ lo (eY u m hi c.bk) dg c.l;have h3:=nR c.l;have h4:=je.len ok;omega
 | d a m=>
  show(pR a m (dY m c.l).1 (dY m c.l).2).length<=_
  unfold pR;rw[aQ];have h1:=zF a m (dY m c.l).1.length (dY m c.l).2;have h2:=zD (dY m c.l).1 (dY m c.l).1.length;have h3:=(kJ.cut ok).2.2.1;have h4:=kJ.m1 ok;omega
 | t d=>exact VP (by have:=(IC.fit ok).ok.len;have:=(IC.fit ok).d1;omega)
 | k q=>exact(yH.right ok).len_
theorem au9(v:Value)(w:World)(h:iY .u8 w v (vU sp c))(ok:iT sp c):aH 71 #[.int .u8 sp.kd,v] w fun e w'=>∃x,e=.returned (.tuple #[.pointer (some ⟨x,0,none⟩),.int .i64 0])/\iK sp c x (Gr (fun _=>False) w w') w'/\Below w.heap.size w w':=by
 have hs:∀y w1,(∃F,iK sp c y F w1/\∀k,F k->w.heap.size<=k)->aH 54 #[.pointer (some ⟨y,0,none⟩)] w1 fun e w'=>∃v,e=.returned v/\OwnB w1.heap.size w' v (vU sp c)/\Below w1.heap.size w1 w':=fun y w1 ⟨F,h,_⟩=>L_ w1 h ok
 have hk:∀y w1 w',(∃F,iK sp c y F w1/\∀k,F k->w.heap.size<=k)->Below w1.heap.size w1 w'->(∃F,iK sp c y F w'/\∀k,F k->w.heap.size<=k):=fun y w1 w' ⟨F,h,h2⟩ hb=>⟨F,(kz sp _ y).keep h hb,h2⟩
 have hl:=ai7 ok;have hl2:(vU sp c).length<=1000000000000:=ae
 cases sp with
 | h lo hi dg u m gr=>
  refine(Ue v _ w h hl2 (fun y v1 w1 hb hy hB hr=>?_) hs hk).mono (fun e w' ⟨x,h1,h2,h3⟩=>⟨x,h1,l_ h2,h3⟩)
  refine(Pj v1 w1 hB hr ok).mono ?_
  rintro e w' ⟨rfl,x,h1,h2,h3⟩;have hyl:=hB.lt;exact⟨rfl,⟨fun k=>k=y\/Gr (fun _=>False) w1 w' k,⟨x,_,h1,h2,.inl rfl,fun hg=>hg.elim False.elim (fun h=>by omega),fun k hk=>.inr hk,fun k hk=>hk.elim (fun e=>by rw[e];exact h1.lt) (fun hg=>hg.elim False.elim And.right)⟩,
   fun k hk=>hk.elim (fun e=>by rw[e];exact hy) (fun hg=>hg.elim False.elim (fun h=>bJ hb.size h.1))⟩,h3⟩
 | d a m=>
  refine(Uf v _ w h hl2 (fun y v1 w1 hb hy hB hr=>?_) hs hk).mono (fun e w' ⟨x,h1,h2,h3⟩=>⟨x,h1,l_ h2,h3⟩)
  refine(Si hB (Q:=fun p w'=>∃x G,p=ji x/\rO (.d a m) c x G w'/\∀k,G k->w1.heap.size<=k) ?_).mono (fun e w' h=>jv h (fun x=>rfl) hB.lt hy)
  refine(Xm v1 w1 hr ok).mono ?_
  rintro e w' ⟨x,rfl,h1,h2⟩;exact⟨x,rfl,⟨x,_,rfl,h1,fun k hk=>hk.elim False.elim And.left⟩,h2⟩
 | t d=>
  refine(Ug v _ w h hl2 (fun y v1 w1 hb hy hB hr=>?_) hs hk).mono (fun e w' ⟨x,h1,h2,h3⟩=>⟨x,h1,l_ h2,h3⟩)
  refine(Gt hB (Q:=fun p w'=>∃x G,p=ji x/\rO (.t d) c x G w'/\∀k,G k->w1.heap.size<=k) ?_).mono (fun e w' h=>jv h (fun x=>rfl) hB.lt hy)
  obtain⟨k,ft,hkk⟩:=IC.rd ok;refine(bi5 v1 w1 hr ft hkk).mono ?_
  rintro e w' ⟨x,F,rfl,h1,h2,h3⟩;exact⟨x,rfl,⟨x,F,rfl,h1,h2⟩,h3⟩
 | k q=>
  refine(Uh v _ w h hl2 (fun y v1 w1 hb hy hB hr=>?_) hs hk).mono (fun e w' ⟨x,h1,h2,h3⟩=>⟨x,h1,l_ h2,h3⟩)
  refine(Ob hB (Q:=fun p w'=>∃x G,p=ji x/\rO (.k q) c x G w'/\∀k,G k->w1.heap.size<=k) ?_).mono (fun e w' h=>jv h (fun x=>rfl) hB.lt hy)
  refine(K.Yv v1 w1 hr (yH.right ok) (yH.bd ok)).mono ?_
  rintro e w' ⟨x,F,rfl,h1,h2,h3⟩;exact⟨x,rfl,⟨x,F,rfl,h1,h2⟩,h3⟩
theorem av1(kd u1 u2 u3 u4 u5 u6:Value)(w:World):(Instr.field 25 (.agg #[kd,u1,u2,u3,u4,u5,u6]) 0).run prog w=.ok kd w:=by kernel_rfl
theorem tX(w:World)(kd:Int)(hkd:kd=sp.kd)(u1 u2 u3 u4 u5 u6:Value)(hu:sp.v=.agg #[.int .u8 kd,u1,u2,u3,u4,u5,u6])(h:iK sp c x F w)(ok:iT sp c) :
 aH 36 #[.pointer (some ⟨x,0,none⟩)] w fun e w'=>∃y,e=.returned (.pointer (some ⟨y,0,none⟩))/\iK sp c y (Gr (fun _=>False) w w') w'/\Below w.heap.size w w':=by
 have C1:=Mc w h ok;rw[hu] at C1;have C1:=aI C1;have C2:Hid (∀w1,Below w.heap.size w w1->_):=aI (fun w1 hb=>L_ w1 ((kz sp c x).keep h hb) ok)
 have C3:Hid (∀(v:Value) (w1:World),iY .u8 w1 v (vU sp c)->aH 71 #[.int .u8 kd,v] w1 _):=aI (fun v w1 hr=>by rw[hkd];exact au9 v w1 hr ok)
 clear h ok hu hkd;have hsk:=av1 (.int .u8 kd) u1 u2 u3 u4 u5 u6
 go_enter func36,ntmps36
 go_wp2_with fail;refine(C1.o).mono ?_
 rintro e w1 ⟨rfl,hb1⟩;have HB1:=aI hb1;clear hb1
 go_wp2_with fail;refine(C2.o w1 HB1.o).mono ?_
 rintro e w2 ⟨v2,rfl,o2,hb2⟩;have HB2:=aI (HB1.o.trans (hb2.mono HB1.o.size));have CR:=aI (C3.o v2 w2 o2.rd);clear hb2 o2
 go_wp2_with fail;refine(CR.o).mono ?_
 rintro e w3 ⟨y,rfl,hj,hb3⟩;have HJ:=aI hj;have HB3:=aI (HB2.o.trans (hb3.mono HB2.o.size));clear hj hb3
 go_wp2_with fail
 go_ret;exact⟨y,rfl,l_ ⟨_,HJ.o,fun k hk=>hk.elim False.elim (fun h=>bJ HB2.o.size h.1)⟩,HB3.o⟩
theorem Yz(w:World)(h:iK sp c x F w)(ok:iT sp c) :
 aH 36 #[.pointer (some ⟨x,0,none⟩)] w fun e w'=>∃y,e=.returned (.pointer (some ⟨y,0,none⟩))/\iK sp c y (Gr (fun _=>False) w w') w'/\Below w.heap.size w w':=by
 cases sp with
 | h lo hi dg u m gr=>exact tX w _ rfl _ _ _ _ _ _ rfl h ok
 | d a m=>exact tX w _ rfl _ _ _ _ _ _ rfl h ok
 | t d=>exact tX w _ rfl _ _ _ _ _ _ rfl h ok
 | k q=>exact tX w _ rfl _ _ _ _ _ _ rfl h ok
open Tryz
open Go.RowKit Go.Lib Go.Shelf
abbrev JsP(sp:fG):Js->Nat->Ft->World->Prop:=fun c p=>iK sp c p
theorem mg(sp:fG):∀c p,jV (JsP sp c p):=fun c p=>kz sp c p
structure jk(sp:fG)(now a0:Nat)(C:List Js)(v:Value)(ps:List Nat)(Ow:Nat->Ft)(G:Ft)(x:Nat)(w:World):Prop where
 blk:dK w x 89 (sp.cs++[v,.int .i64 a0,.int .u64 now]).toArray
 ring:RingAt 51 (JsP sp) C v ps Ow G w
 at0:a0<C.length
 n60:C.length<=60
 o:¬G x
def gQ(sp:fG)(s:Wn)(x:Nat)(F:Ft)(w:World):Prop:=∃a0 C v ps Ow G,jk sp s.now a0 C v ps Ow G x w/\s.L=Ik sp.new a0 C/\F x/\(∀k,G k->F k)/\∀k,F k->k<w.heap.size
section
variable {sp : fG} {now a0 x : Nat} {C : List Js} {v : Value} {ps : List Nat} {Ow : Nat -> Ft} {G F : Ft} {w w' : World} {s : Wn}
theorem jk.stay(h:jk sp now a0 C v ps Ow G x w)(hx:w'.heap[x]?=w.heap[x]?)(hk:∀k,G k->w'.heap[k]?=w.heap[k]?)(hz:w.heap.size<=w'.heap.size):jk sp now a0 C v ps Ow G x w':=
 ⟨hx.trans h.blk,h.ring.stay (mg sp) hk hz,h.at0,h.n60,h.o⟩
theorem jk.keep(h:jk sp now a0 C v ps Ow G x w)(hb:Below w.heap.size w w'):jk sp now a0 C v ps Ow G x w':=h.stay (hb.block x h.blk.lt) (fun k hk=>hb.block k (h.ring.low k hk)) hb.size
theorem jw(sp:fG)(s:Wn)(x:Nat):jV (gQ sp s x) where
 stay:=fun⟨a0,C,v,ps,Ow,G,h1,h2,h3,h4,h5⟩ hk hz=>⟨a0,C,v,ps,Ow,G,h1.stay (hk x h3) (fun k e=>hk k (h4 k e)) hz,h2,h3,h4,fun k h=>bF (h5 k h) hz⟩
 more:=fun⟨a0,C,v,ps,Ow,G,h1,h2,h3,h4,_⟩ h hl=>⟨a0,C,v,ps,Ow,G,h1,h2,h x h3,fun k e=>h k (h4 k e),hl⟩
 low:=fun⟨_,_,_,_,_,_,_,_,_,_,h5⟩=>h5
theorem jk.pos(h:jk sp now a0 C v ps Ow G x w):0<C.length:=by have:=h.at0;omega
theorem jk.c7(h:jk sp now a0 C v ps Ow G x w):w.cell? ⟨x,7,none⟩=some v:=by have:=h.blk.cell 7;revert this;cases sp<;>exact id
theorem jk.c8(h:jk sp now a0 C v ps Ow G x w):w.cell? ⟨x,8,none⟩=some (.int .i64 a0):=by have:=h.blk.cell 8;revert this;cases sp<;>exact id
theorem jk.c9(h:jk sp now a0 C v ps Ow G x w):w.cell? ⟨x,9,none⟩=some (.int .u64 now):=by have:=h.blk.cell 9;revert this;cases sp<;>exact id
theorem VQ(w:World)(h:jk sp now a0 C v ps Ow G x w):aH 33 #[.pointer (some ⟨x,0,none⟩)] w fun e w'=>e=.returned (.int .u64 now)/\w=w':=by
 have c9:=h.c9;clear h
 go_enter func33,ntmps33
 go_wp2_with fail
 go_ret;exact⟨rfl,rfl⟩
theorem YA(w:World)(h:jk sp now a0 C v ps Ow G x w):aH 40 #[.pointer (some ⟨x,0,none⟩)] w fun e w'=>e=.returned (.int .i64 C.length)/\w=w':=by
 have c7:=h.c7;obtain⟨g,c,rfl,_⟩:=h.ring.pos h.pos;clear h
 go_enter func40,ntmps40
 go_wp2_with fail
 go_ret;exact⟨rfl,rfl⟩
theorem av2{a:Nat}(h0:a0<C.length)(ha:a<C.length):((a0:Int)+(C.length:Int) - (a:Int)) % (C.length:Int)=((qI a0 C.length a:Nat):Int):=by
 unfold qI;rw[Int.natCast_emod]
 congr 1
 omega
theorem YB(a:Nat)(w:World)(h:jk sp now a0 C v ps Ow G x w)(ha:a<C.length):aH 72 #[.pointer (some ⟨x,0,none⟩),.int .i64 a] w (aG w (.int .i64 (qI a0 C.length a:Nat))):=by
 have HP:=aI (av2 h.at0 ha);have h0:=h.at0;have h6:=h.n60;have c7:=h.c7;have c8:=h.c8;obtain⟨g,c,rfl,_⟩:=h.ring.pos h.pos;have hn:¬(C.length:Int)=0:=ae
 clear h
 go_enter func72,ntmps72
 go_wp2_with fail
 go_quiet (fail)
 go_wp2_with fail
 go_ret;refine⟨?_,bw⟩
 show Ending.returned (.int .i64 (((a0:Int)+(C.length:Int) - (a:Int)) % (C.length:Int)))=_
 rw[HP.o]
theorem vX(a:Nat)(w:World)(h:jk sp now a0 C v ps Ow G x w)(ha:a<C.length):aH 37 #[.pointer (some ⟨x,0,none⟩),.int .i64 a] w (aG w (.pointer (some ⟨ps.getD (qI a0 C.length a) 0,0,none⟩))):=by
 have CP:=aI (YB a w.drew (h.keep (aO _ _).drew) ha);have c7:=h.c7;obtain⟨g,c,rfl,hg,h1,h2,_,_,hc⟩:=h.ring.pos h.pos;have hp:=tV (a0:=a0) (a:=a) h.pos;have cg:w.cell? ⟨g,qI a0 C.length a,none⟩=some (.pointer (some ⟨ps.getD (qI a0 C.length a) 0,0,none⟩)):=hc _ hp;have lx:=h.blk.lt;have CC:=aI (aP c7 cg);generalize qI a0 C.length a=i at *;generalize ps.getD i 0=y at *;have hi:(i:Int)<(C.length:Int):=ae
 have hi0:0<=(i:Int):=ae
 clear h c7 cg hc hp
 go_enter func37,ntmps37
 go_upto_region 1 with fail;have mW:=aI (fun(w':World) (hS':(Below w.heap.size w) w')=>(aP ((hS'.cell (p:=⟨x,7,none⟩) lx).trans CC.o.1) ((hS'.cell (p:=⟨g,i,none⟩) hg).trans CC.o.2)))
 refine jh (Below w.heap.size w) (dV 0 6 (fJ 6 (dV 7 3 []))) ((aO _ _).drew) ?_
 iterate 6 refine eQ ?_
 refine fO fun K hK=>?_
 go_simp;refine(CP.o).mono ?_
 rintro e w2 ⟨rfl,hb2⟩;have B2:Below w.heap.size w w2:=(aO _ _).drew.trans hb2;refine hK _ _ (B2) ?_
 clear hK K
 iterate 3 refine eQ ?_
 refine dJ ?_
 go_wp2_with fail
 go_ret;exact⟨rfl,B2⟩
end
open Tryz
open Go.RowKit Go.Lib Go.Shelf
theorem tY{x:Nat}{v u1 u2:Value}{kd lo hi dg ac sz:Int}{gr:Bool}(w:World)(h:dK w x 89 #[.int .u8 kd,.int .i64 lo,.int .i64 hi,.int .i64 dg,.bool gr,.int .i64 ac,.int .i64 sz,v,u1,u2]) :
 aH 39 #[.pointer (some ⟨x,0,none⟩)] w (aG w (dS kd lo hi dg gr ac sz)):=by
 unfold dS;have HX:=aI h;clear h;obtain⟨b,hbb⟩:=aF (w.heap.size);obtain⟨w0,hw0⟩:∃z,w.alloc (.cells #[.int .u8 0,.int .i64 0,.int .i64 0,.int .i64 0,.bool false,.int .i64 0,.int .i64 0] 25)=z:=⟨_,rfl⟩;have hb0:Below w.heap.size w w0:=by rw[<-hw0];exact bw
 have D2:Hid (dK w0 b 25 #[.int .u8 0,.int .i64 0,.int .i64 0,.int .i64 0,.bool false,.int .i64 0,.int .i64 0]):=by rw[<-hw0,<-hbb];exact aI (dK.new _ _ _)
 have lJ:=aI hbb
 go_enter func39,ntmps39
 go_upto_region 1 with fail;clear hw0 hbb;have X0:=HX.o.keep hb0;have f0:=X0.cell 0;have f1:=X0.cell 1;have f2:=X0.cell 2;have f3:=X0.cell 3;have f4:=X0.cell 4;have f5:=X0.cell 5;have f6:=X0.cell 6;have y0:=D2.o.frozen 0;have y1:=D2.o.frozen 1;have y2:=D2.o.frozen 2;have y3:=D2.o.frozen 3;have y4:=D2.o.frozen 4;have y5:=D2.o.frozen 5;have y6:=D2.o.frozen 6;have x0:=D2.o.cell 0;have x1:=D2.o.cell 1;have x2:=D2.o.cell 2;have x3:=D2.o.cell 3;have x4:=D2.o.cell 4;have x5:=D2.o.cell 5;have x6:=D2.o.cell 6;simp only[aK,aJ,aN] at f0 f1 f2 f3 f4 f5 f6 x0 x1 x2 x3 x4 x5 x6;clear X0
 go_wp2_with fail;have hlt:=D2.o.lt;have E:=((((((D2.o.dQ 0 (.int .u8 kd)).dQ 1 (.int .i64 lo)).dQ 2 (.int .i64 hi)).dQ 3 (.int .i64 dg)).dQ 4 (.bool gr)).dQ 5 (.int .i64 ac)).dQ 6 (.int .i64 sz);have c0:=E.cell 0;have c1:=E.cell 1;have c2:=E.cell 2;have c3:=E.cell 3;have c4:=E.cell 4;have c5:=E.cell 5;have c6:=E.cell 6;simp only[bY,List.set_cons_zero,List.set_cons_succ,aK,aJ,aN] at c0 c1 c2 c3 c4 c5 c6;refine bodyPost_ret (by simp[results,Tryz.results39,go_sem, *];try rfl) rfl ?_
 have hbb:=lJ.o;exact⟨rfl,((((((hb0.setCell (p:=⟨b,0,none⟩) (by show _<=b;omega) _).setCell (p:=⟨b,1,none⟩) (by show _<=b;omega) _).setCell (p:=⟨b,2,none⟩) (by show _<=b;omega) _).setCell (p:=⟨b,3,none⟩) (by show _<=b;omega) _).setCell (p:=⟨b,4,none⟩) (by show _<=b;omega) _).setCell (p:=⟨b,5,none⟩) (by show _<=b;omega) _).setCell (p:=⟨b,6,none⟩) (by show _<=b;omega) _⟩
section
variable {sp : fG} {now a0 x n a : Nat} {C : List Js} {v : Value} {ps : List Nat} {Ow : Nat -> Ft} {G F H : Ft} {w w' : World} {s : Wn} {cq : Value} {B : List Int}
variable{i:Nat}
theorem ai8(w:World)(h:jk sp now a0 C v ps Ow G x w):aH 39 #[.pointer (some ⟨x,0,none⟩)] w fun e w'=>e=.returned sp.v/\Below w.heap.size w w':=by
 have hB:=h.blk
 cases sp with
 | h lo hi dg u m gr=>exact tY w hB
 | d a m=>exact tY w hB
 | t d=>exact tY w hB
 | k q=>exact tY w hB
theorem jk.js(h:jk sp now a0 C v ps Ow G x w)(hL:s.L=Ik sp.new a0 C)(hi:i<C.length):iK sp (s.L.getD i sp.new) (ps.getD (qI a0 C.length i) 0) (Ow (qI a0 C.length i)) w:=by
 rw[hL,PY hi];exact h.ring.each _ (tV h.pos)
theorem Qb{c':Js}(h:jk sp s.now a0 C v ps Ow G x w)(hL:s.L=Ik sp.new a0 C)(hFx:F x)(hGF:∀k,G k->F k)(hF:∀k,F k->k<w.heap.size)(hi:i<C.length)
 (hn:iK sp c' (ps.getD (qI a0 C.length i) 0) (Gr (Ow (qI a0 C.length i)) w w') w') (ht:Touch (fun k=>Ow (qI a0 C.length i) k\/H k) w w') (hd:∀k,H k->¬F k) :
 gQ sp {s with L:=s.L.set i c'} x (Gr F w w') w'/\Touch (fun k=>F k\/H k) w w':=by
 have hx:¬(Ow (qI a0 C.length i) x\/H x):=fun e=>e.elim (fun e=>h.o (h.ring.Ij _ _ e)) (fun e=>hd x e hFx)
 refine⟨⟨a0,C.set (qI a0 C.length i) c',v,ps,BO Ow (qI a0 C.length i) (Gr (Ow (qI a0 C.length i)) w w'),Gr G w w',⟨(ht.block x h.blk.lt hx).trans h.blk,h.ring.turn (mg sp) (tV h.pos) hn ht (fun k h1 h2=>hd k h1 (hGF k h2)),by rw[bK];exact h.at0,by rw[bK];exact h.n60,fun e=>e.elim h.o (fun e=>by have:=h.blk.lt;omega)⟩,?_,.inl hFx,fun k e=>e.imp (hGF k) id,jU hF ht.size⟩,ht.mono fun k e=>e.imp (fun e=>hGF k (h.ring.Ij _ _ e)) id⟩
 rw[au5 h.at0 hi,<-hL]
theorem Ui(v n:Int)(w:World)(h:gQ sp s x F w)(ok:∀c∈s.L,iT sp c)(hc:jf cq B a H w)(hd:∀k,H k->¬F k)
 (hA:∀(w2:World) {c:Js} {y:Nat} {G:Ft},iK sp c y G w2->iT sp c->jf cq B a H w2->(∀k,H k->¬G k)->aH 68 #[.pointer (some ⟨y,0,none⟩),.int .i64 v,.int .u64 n,cq] w2 (qP (iK sp (Hw sp B v n c a).1 y) (jf cq B (Hw sp B v n c a).2) G H (PS sp c v n) w2)) :
 aH 31 #[.pointer (some ⟨x,0,none⟩),.int .i64 v,.int .u64 n,cq] w (qP (gQ sp (JM sp B v n s a) x) (jf cq B (Hw sp B v n (s.L.getD 0 sp.new) a).2) F H (PV sp s v n) w):=by
 obtain⟨a0,C,vr,ps,Ow,G,h1,h2,h3,h4,h5⟩:=h;have hmf:∀(fn:Fn) (first cap:Array Value) (w:World),(Instr.makeFunc fn first cap).run prog w=.ok (.func fn first cap) w:=fun _ _ _ _=>rfl
 have hpos:=h1.pos;have C1:=aI (vX 0 w h1 hpos);have hok:iT sp (s.L.getD 0 sp.new):=by rw[h2,PY hpos];exact ok _ (by rw[h2];have:=bf (l:=Ik sp.new a0 C) (n:=0) (by rw[fB];exact hpos);rwa [qJ,bD,a_ (tV hpos),Option.getD_some] at this)
 have hdO:∀k,H k->¬Ow (qI a0 C.length 0) k:=fun k e1 e2=>hd k e1 (h4 k (h1.ring.Ij _ _ e2))
 have C2:Hid (∀w2,Below w.heap.size w w2->aH 68 #[.pointer (some ⟨ps.getD (qI a0 C.length 0) 0,0,none⟩),.int .i64 v,.int .u64 n,cq] w2 fun e w'=>qP (gQ sp (JM sp B v n s a) x) (jf cq B (Hw sp B v n (s.L.getD 0 sp.new) a).2) F H (PV sp s v n) w e w'):=aI (fun w2 hb=>by
  have h1':=h1.keep hb;refine(hA w2 (h1'.js h2 hpos) hok (hc.keep hb) hdO).mono ?_
  intro e w' hm;have h5':∀k,F k->k<w2.heap.size:=fun k hk=>bF (h5 k hk) hb.size
  obtain⟨t1,t2⟩:=Qb h1' h2 h3 h4 h5' hpos hm.2.1 hm.2.2.2 hd;exact H6 (jw sp _ x) hb h5 ⟨hm.1,t1,hm.2.2.1,t2⟩)
 clear h1 h2 h3 h4 h5 ok hc hA hd hok hdO hpos;generalize ps.getD (qI a0 C.length 0) 0=y at *
 go_enter func31,ntmps31
 go_wp2_with fail;refine(C1.o).mono ?_
 rintro e w2 ⟨rfl,hb⟩;have D:=aI (C2.o w2 hb);clear hb
 go_wp2_with fail;refine(D.o).mono ?_
 intro e w' hm;obtain⟨rfl,m2⟩:=hm;have M:=aI m2;clear m2
 go_wp2_with fail
 go_ret;exact⟨rfl,M.o⟩
theorem Qc(i:Int)(w:World)(h:jk sp now a0 C v ps Ow G x w)(hi:i<0\/(C.length:Int)<=i):aH 41 #[.pointer (some ⟨x,0,none⟩),.int .i64 i] w (aG w (.tuple #[.slice none 0 0,.bool false])):=by
 have c7:=h.c7;obtain⟨g,c,rfl,_⟩:=h.ring.pos h.pos;clear h
 rcases hi with hi|hi
 ·go_enter func41,ntmps41
  go_wp2_with fail;refine bodyPost_ret (by simp[results,Tryz.results41,go_sem, *];try rfl) rfl ?_
  exact⟨rfl,bw⟩
 ·by_cases h0:i<0
  ·go_enter func41,ntmps41
   go_wp2_with fail;refine bodyPost_ret (by simp[results,Tryz.results41,go_sem, *];try rfl) rfl ?_
   exact⟨rfl,bw⟩
  ·have h1:i>=(C.length:Int):=hi
   go_enter func41,ntmps41
   go_wp2_with fail;refine bodyPost_ret (by simp[results,Tryz.results41,go_sem, *];try rfl) rfl ?_
   exact⟨rfl,bw⟩
theorem ai9(i:Nat)(w:World)(h:jk sp now a0 C v ps Ow G x w)(hL:s.L=Ik sp.new a0 C)(ok:∀c∈s.L,iT sp c)(hi:i<C.length):aH 41 #[.pointer (some ⟨x,0,none⟩),.int .i64 i] w fun e w'=>∃u,e=.returned (.tuple #[u,.bool true])/\OwnB w.heap.size w' u (vU sp (s.L.getD i sp.new))/\Below w.heap.size w w':=by
 have c7:=h.c7;have C1:=aI (vX i w h hi);have hok:iT sp (s.L.getD i sp.new):=by rw[bD,a_ (by rw[hL,fB];exact hi),Option.getD_some];exact ok _ (bf _)
 have C2:Hid (∀w2,Below w.heap.size w w2->_):=aI (fun w2 hb=>L_ w2 ((h.keep hb).js hL hi) hok)
 obtain⟨g,c,rfl,_⟩:=h.ring.pos h.pos;have h0:¬((i:Int)<0):=ae
 have h1:¬((i:Int)>=(C.length:Int)):=ae
 clear h hL ok hok;generalize ps.getD (qI a0 C.length i) 0=y at *;generalize vU sp (s.L.getD i sp.new)=T at *
 go_enter func41,ntmps41
 go_wp2_with fail;refine(C1.o).mono ?_
 rintro e w2 ⟨rfl,hb⟩;have D:=aI (C2.o w2 hb);have HB:=aI hb;clear hb
 go_wp2_with fail;refine(D.o).mono ?_
 rintro e w3 ⟨u,rfl,o3,hb3⟩;have O3:=aI (dX.2 ((dX.1 o3).more HB.o.size));have HB3:=aI (HB.o.trans (hb3.mono HB.o.size));clear o3 hb3
 go_wp2_with fail;refine bodyPost_ret (by simp[results,Tryz.results41,go_sem, *];try rfl) rfl ?_
 exact⟨u,rfl,O3.o,HB3.o⟩
end
open Tryz
open Go.RowKit Go.Lib Go.Shelf
section
variable {sp : fG} {now a0 x n a : Nat} {C : List Js} {v : Value} {ps : List Nat} {Ow : Nat -> Ft} {G F H : Ft} {w w' : World} {s : Wn} {cq : Value} {B : List Int}
theorem VR(sp:fG)(L:List Js):∀k,0<=uH sp L k/\uH sp L k<18446744073709551616
 | 0=>by unfold uH;omega
 | k+1=>by unfold uH;rw[dD];omega
theorem H7(m:Nat)(w:World)(h:jk sp s.now a0 C v ps Ow G x w)(hL:s.L=Ik sp.new a0 C)(ok:∀c∈s.L,iT sp c)(hm:m<=C.length):aH 26 #[.pointer (some ⟨x,0,none⟩),.int .i64 m] w (aG w (.int .u64 (uH sp s.L m))):=by
 have c7:=h.c7;have HW:=aI h;have HL:=aI hL;have xq:=aI ok;obtain⟨g,c,rfl,_⟩:=h.ring.pos h.pos;have h1:¬((m:Int) > (C.length:Int)):=ae
 have hm0:¬((m:Int)<0):=ae
 have h60:=h.n60;clear h hL ok
 go_enter func26,ntmps26
 go_wp2_with fail
 go_loopg [5,16] m (fun q t5 t16 wr=>∃j:Nat,q=m - j/\j<=m/\t5=.int .u64 (uH sp s.L j)/\t16=.int .i64 j/\Hid (Below w.heap.size w wr))
 case atStart=>exact⟨0,rfl,ae,rfl,rfl,aI (aO _ _)⟩
 case round=>
  obtain⟨j,hq,hj,rfl,rfl,HB⟩:=hrel;have HQ:=aI hq;clear hq
  by_cases hlt:j<m
  ·have hji:(j:Int)<(m:Int):=ae
   have hjC:j<C.length:=ae
   have hw:=HW.o.keep HB.o;have C1:=aI (vX j wr hw hjC);have hok:iT sp (s.L.getD j sp.new):=by rw[bD,a_ (by rw[HL.o,fB];exact hjC),Option.getD_some];exact xq.o _ (bf _)
   have C2:Hid (∀w2,Below wr.heap.size wr w2->_):=aI (fun w2 hb=>ai6 w2 ((hw.keep hb).js HL.o hjC) hok)
   have HS:Hid (uH sp s.L (j+1)=IntKind.u64.wrap (uH sp s.L j+vT sp (s.L.getD j sp.new))):=aI rfl;have hb1:=VR sp s.L j;have hb2:=LW hok;clear hw hok;generalize ps.getD (qI a0 C.length j) 0=y at *;generalize vT sp (s.L.getD j sp.new)=T at *;obtain⟨S,hS⟩:∃z,uH sp s.L j=z:=⟨_,rfl⟩;rw[hS] at HS hb1 |-;clear hS
   go_wp2_with fail;refine(C1.o).mono ?_
   rintro e w2 ⟨rfl,hb⟩;have D:=aI (C2.o w2 hb);have HB2:=aI (HB.o.trans (hb.mono HB.o.size));clear hb
   go_wp2_with fail;refine(D.o).mono ?_
   rintro e w3 ⟨rfl,rfl⟩
   go_wp2_with fail
   go_roundg (m - (j+1))
   case measure=>have:=HQ.o;omega
   case rel=>exact⟨j+1,rfl,ae,by rw[HS.o],ai,HB2⟩
  ·have hji:¬((j:Int)<(m:Int)):=ae
   obtain rfl:j=m:=ae
   go_wp2_with fail
   go_ret;exact⟨rfl,HB.o⟩
theorem JQ(last:Int)(w:World)(h:jk sp s.now a0 C v ps Ow G x w)(hL:s.L=Ik sp.new a0 C)(ok:∀c∈s.L,iT sp c):aH 26 #[.pointer (some ⟨x,0,none⟩),.int .i64 last] w (aG w (.int .u64 (oP sp s last))):=by
 have hlen:s.L.length=C.length:=by rw[hL,fB]
 by_cases h1:(C.length:Int)<last
 ·have c7:=h.c7
  obtain⟨g,c,rfl,_⟩:=h.ring.pos h.pos;have h2:last > (C.length:Int):=h1;have e:oP sp s last=0:=by unfold oP;rw[if_pos ae]
  rw[e];clear h hL ok e h1
  go_enter func26,ntmps26
  go_wp2_with fail
  go_ret;exact⟨rfl,bw⟩
 ·by_cases h0:0<=last
  ·have e:oP sp s last=uH sp s.L last.toNat:=by unfold oP;rw[if_neg ae]
   have hl:((last.toNat:Nat):Int)=last:=ae
   rw[e,<-hl];exact H7 last.toNat w h hL ok ae
  ·have e:oP sp s last=0:=by unfold oP;rw[if_neg ae,show last.toNat=0 by omega];rfl
   rw[e];have c7:=h.c7;obtain⟨g,c,rfl,_⟩:=h.ring.pos h.pos;have h2:¬last > (C.length:Int):=h1;have hmx:max last 0=0:=ae
   clear h hL ok e h1
   go_enter func26,ntmps26
   go_wp2_with fail
   go_loopg [5,16] 0 (fun q t5 t16 wr=>t5=.int .u64 0/\t16=.int .i64 0/\w=wr)
   case atStart=>exact⟨rfl,rfl,rfl⟩
   case round=>
    obtain⟨rfl,rfl,rfl⟩:=hrel
    go_wp2_with fail
    go_ret;exact⟨rfl,aO _ _⟩
end
open Tryz
open Go.RowKit Go.Lib Go.Shelf
variable{ps:List Nat}{sp:fG}{g n x:Nat}{Ow:Nat->Ft}{w0 wr:World}
def poE(t:TypeId):DN (Option Nat) where
 k:=1
 t:=t
 enc p:=[match p with|none=>.pointer none|some p=>ji p]
 len _:=rfl
 one p u hu:=by
  simp only[bn,List.not_mem_nil,or_false] at hu;subst hu;cases p<;>rfl
theorem ay5(t:TypeId):∀ps:List Nat,cellsE (poE t) (ps.map some)=cellsE (Ud t) ps
 | []=>rfl
 | p::ps=>by rw[List.map_cons,gJ,gJ,ay5 t ps];rfl
theorem bi6{t:TypeId}{base:Nat}{w:World}{v:Value}(h:dL (poE t) base w v (ps.map some)):dL (Ud t) base w v ps:=by
 unfold dL at h |-;rw[ay5,dH] at h;exact h
theorem av3(t:TypeId)(w:World)(n:Nat)(hn:n<=1000000):dL (poE t) w.heap.size (w.alloc (.cells (madeCells #[.pointer none] n) t)) (.slice (some ⟨w.heap.size,0,none⟩) n n) (List.replicate n none):=by
 have hl:(List.replicate n (none:Option Nat)).length=n:=ag
 have hc:∀m,cellsE (poE t) (List.replicate m none)=List.replicate m (Value.pointer none):=fun m=>by
  induction m with
  | zero=>rfl
  | succ m ih=>rw[List.replicate_succ,gJ,ih,List.replicate_succ];rfl
 have hk:(poE t).k=1:=rfl;refine⟨by rw[hc,b_,hl,hk,Nat.mul_one],.inr ⟨w.heap.size,n,madeCells #[.pointer none] n,by rw[hl],aS _,heap_alloc_new _ _,ae,by unfold maxLen;omega,by rw[size_madeCells,hk,Nat.mul_one],?_⟩⟩
 rw[hc,toList_madeCells_one,hl,hk,Nat.mul_one,List.take_replicate,Nat.min_self]
theorem pjI:(prog.info? 51).map (fun i=>(i.zero,i.size,i.bytes))=some (some (.pointer none),1,8):=by kernel_rfl
theorem JR:∀(n:Nat),n<=60->∀W:World,(Instr.makeSlice 87 (.int .i64 n) (.int .i64 n)).run prog W=.ok (.slice (some ⟨W.heap.size,0,none⟩) n n) (W.alloc (.cells (madeCells #[.pointer none] n) 51)):=fun n hn W=>by
 obtain⟨i1,h1,h2,h3,h4⟩:=info_parts pjI;have:=ni 87 51 i1 _ underlying87 h1 h2 .i64 .i64 n n (aS _) (by rw[h4];omega) ae W
 rw[h3,Nat.mul_one] at this;exact this
structure Uj(sp:fG)(cs:List Value)(n i g x:Nat)(ps:List Nat)(Ow:Nat->Ft)(w0 wr:World):Prop where
 len:ps.length=i
 le:i<=n
 row:dL (poE 51) 0 wr (.slice (some ⟨g,0,none⟩) n n) (ps.map some++List.replicate (n - i) none)
 blk:dK wr x 89 (cs++[Value.slice (some ⟨g,0,none⟩) n n,Value.int .i64 0,Value.int .u64 0]).toArray
 each:∀j,j<i->iK sp sp.new (ps.getD j 0) (Ow j) wr
 apart:∀a b k,Ow a k->Ow b k->a=b
 far:∀j k,Ow j k->(k≠g/\k≠x/\w0.heap.size<=k)/\k<wr.heap.size
 below:Below w0.heap.size w0 wr
theorem Uj.next{cs:List Value}{i y:Nat}{w1:World}(h:Uj sp cs n i g x ps Ow w0 wr)(hi:i<n)(hg:w0.heap.size<=g)(hgx:g≠x)(hgl:g<wr.heap.size)(hj:iK sp sp.new y (Gr (fun _=>False) wr w1) w1)(hb:Below wr.heap.size wr w1) :
 Uj sp cs n (i+1) g x (ps++[y]) (BO Ow i (Gr (fun _=>False) wr w1)) w0 (w1.setCell ⟨g,i,none⟩ (ji y)):=by
 have hx:=h.blk.lt;have ht:Touch (fun k=>k=g) w1 (w1.setCell ⟨g,i,none⟩ (ji y)):=Touch.setCell (F:=fun k=>k=g) (Touch.refl _ w1) (p:=⟨g,i,none⟩) (.inl rfl) _
 have hz:=hb.size;have hl:=h.len;have new:∀k,Gr (fun _=>False) wr w1 k->wr.heap.size<=k/\k<w1.heap.size:=fun k hk=>hk.elim False.elim id
 refine⟨by rw[aQ,h.len];rfl,hi,?_,?_,fun j hj'=>?_,fun a b k ha hb'=>?_,fun j k hk=>?_,(h.below.trans (hb.mono h.below.size)).setCell (p:=⟨g,i,none⟩) hg _⟩
 ·have h1:=(h.row.keep hb).dQ i ah (some y)
  rw[show i * (poE 51).k=i by show i * 1=i;omega] at h1
  have e:(ps.map some++List.replicate (n - i) none).set i (some y)=(ps++[y]).map some++List.replicate (n - (i+1)) none:=by
   rw[List.set_append_right _ _ (by rw[dH];omega),dH,hl,Nat.sub_self,show n - i=(n - (i+1))+1 by omega,List.replicate_succ,List.set_cons_zero,List.map_append,aX];rfl
  rw[e] at h1;exact h1
 ·exact(h.blk.keep hb).far (p:=⟨g,i,none⟩) (fun e=>hgx e.symm) _
 ·by_cases e:j=i
  ·subst e
   rw[iy,bD,List.getElem?_append_right ae,hl,Nat.sub_self]
   exact(kz sp _ y).far hj ht (fun k hk e=>by have:=new k hk;rw[show k=g from e] at this;omega)
  ·rw[gI e,bD,List.getElem?_append_left ae,<-bD]
   exact(kz sp _ _).far ((kz sp _ _).keep (h.each j ae) hb) ht (fun k hk e=>(h.far j k hk).1.1 e)
 ·by_cases ea:a=i
  ·by_cases eb:b=i
   ·omega
   ·rw[ea,iy] at ha;rw[gI eb] at hb'
    have:=new k ha;have:=(h.far b k hb').2;omega
  ·rw[gI ea] at ha
   by_cases eb:b=i
   ·rw[eb,iy] at hb'
    have:=new k hb';have:=(h.far a k ha).2;omega
   ·rw[gI eb] at hb';exact h.apart a b k ha hb'
 ·rw[dA]
  by_cases e:j=i
  ·rw[e,iy] at hk
   have:=new k hk;have:=h.below.size;exact⟨⟨by omega,ae,ae⟩,ae⟩
  ·rw[gI e] at hk
   have:=h.far j k hk;exact⟨this.1,ae⟩
theorem Uj.done(h:Uj sp sp.cs n n g x ps Ow w0 wr)(h0:0<n)(h60:n<=60)(hg:w0.heap.size<=g)(hx:w0.heap.size<=x)(hgx:g≠x):gQ sp (kV sp n) x (Gr (fun _=>False) w0 wr) wr:=by
 have hrow:=h.row;rw[Nat.sub_self,List.replicate_zero,List.append_nil] at hrow;have hrow:=bi6 hrow;have hgl:=(hrow.lt g rfl).2;have hO:∀i (hi:i<(List.replicate n sp.new).length),(List.replicate n sp.new)[i]=sp.new:=fun i hi=>List.getElem_replicate hi
 refine⟨0,List.replicate n sp.new,_,ps,fun j k=>j<n/\Ow j k,fun k=>(k=g\/(∃j,j<n/\Ow j k)),⟨h.blk,⟨hrow,by rw[h.len,b_],fun i hi=>?_,fun a b k ha hb=>h.apart a b k ha.2 hb.2,fun k e=>?_,fun j k hk=>.inr ⟨j,hk⟩,fun k hk=>?_⟩,by rw[b_];exact h0,by rw[b_];exact h60,?_⟩,?_,.inr ⟨hx,h.blk.lt⟩,fun k hk=>?_,fun k hk=>hk.elim False.elim And.right⟩
 ·rw[hO]
  have hi':i<n:=by rw[b_] at hi;exact hi
  exact(kz sp _ _).more (h.each i hi') (fun k hk=>⟨hi',hk⟩) (fun k hk=>(h.far i k hk.2).2)
 ·injection e with e
  exact⟨.inl e.symm,fun i hi=>(h.far i k hi.2).1.1 e.symm⟩
 ·rcases hk with rfl|⟨j,_,hk⟩
  ·exact hgl
  ·exact(h.far j k hk).2
 ·intro e
  rcases e with e|⟨j,_,hk⟩
  ·exact hgx e.symm
  ·exact(h.far j x hk).1.2.1 rfl
 ·unfold kV
  refine List.ext_getElem (by rw[fB,b_]) fun i h1 h2=>?_
  have h1':i<n:=by rw[b_] at h1;exact h1
  rw[qJ,b_,List.getElem_replicate,bD,List.getElem?_replicate,if_pos (tV h0),Option.getD_some]
 ·rcases hk with rfl|⟨j,_,hk⟩
  ·exact .inr ⟨hg,hgl⟩
  ·exact .inr ⟨(h.far j k hk).1.2.2,(h.far j k hk).2⟩
end Go.Proofs.YtilcnjbpmoijmaaGreat.D
