/- Parts of a proof. No condition. -/
import Derived.Test.YtilcnjbpmoijmaaGreatPw16
set_option maxRecDepth 100000
set_option maxHeartbeats 16000000
set_option linter.unusedVariables false
set_option linter.unusedSimpArgs false
namespace Go.Proofs.YtilcnjbpmoijmaaGreat.D
open Tryz
open Go.RowKit
def WS{α:Type}(E:DN α)(F:Ft)(w:World)(v:Value)(l:List α):Prop:=∀W:World,(∀k,k<w.heap.size->¬F k->W.heap[k]?=w.heap[k]?)->w.heap.size<=W.heap.size->iM E W v l
section
variable {α : Type} {E : DN α} {F : Ft} {w w' : World} {v : Value} {l : List α}
theorem U9(h:WS E F w v l):iM E w v l:=h w (fun _ _ _=>rfl) (aS _)
theorem jL(h:WS E F w v l)(hb:Below w.heap.size w w'):WS E F w' v l:=fun W h1 h2=>h W (fun k hk hF=>(h1 k (bF hk hb.size) hF).trans (hb.block k hk)) (bJ hb.size h2)
theorem lV(h:WS E F w v l)(ht:Touch F w w'):iM E w' v l:=h w' ht.block ht.size
theorem U_{base:Nat}(h:dL E base w v l)(hF:∀k,v.ownBlock=some k->¬F k):WS E F w v l:=fun W h1 _=>(h.stay fun k e=>h1 k (h.lt k e).2 (hF k e)).rd
theorem an4{g off n c:Nat}{x:α}(h:iM E w (.slice (some ⟨g,off,none⟩) n c) (x::l)):iM E w (.slice (if c=1 then some ⟨g,off,none⟩ else some ⟨g,off+E.k,none⟩) l.length (c - 1)) l:=by
 obtain⟨A,c',e,h1,h2,hf⟩:=h.form;injection e with e1 e2 e3;subst e1;subst e3;simp only[aU] at h1
 by_cases hc:c=1
 ·rw[if_pos hc]
  have:l=[]:=bz ae
  subst this;exact iM.jY ag ae kG.nil
 ·rw[if_neg hc]
  have:=hf.drop rfl 1;rw[Nat.one_mul] at this;exact iM.jY ae  ae this
end
variable{F G:Ft}{w:World}{c g h n off:Nat}{l m:List Pr}{f:Int}
theorem rf{α:Type}{E:DN α}{w':World}{v:Value}{l:List α}(h:WS E F w v l)(ht:Touch F w w'):WS E F w' v l:=fun W h1 h2=>h W (fun k hk hF=>(h1 k (bF hk ht.size) hF).trans (ht.block k hk hF)) (bJ ht.size h2)
theorem kM{x m:Int}(h:iM fZ w (.slice (some ⟨g,off,none⟩) n c) ((x,m)::l)):w.cell? ⟨g,off,none⟩=some (.int .i64 x)/\w.cell? ⟨g,off+1,none⟩=some (.int .u64 m):=by
 obtain⟨A,c',e,h1,h2,hf⟩:=h.form;injection e with e1 e2 e3;subst e1;obtain⟨ga,oa,e,hga,x0,x1⟩:=jQ hf (j:=0) (by simp)
 injection e with e;injection e with e1 e2;subst e1;subst e2;simp only[Nat.zero_mul,Nat.add_zero,List.getElem_cons_zero] at x0 x1;exact⟨x0,x1⟩
theorem zy{x:Pr}(h:WS fZ F w (.slice (some ⟨g,off,none⟩) n c) (x::l)):WS fZ F w (.slice (if c=1 then some ⟨g,off,none⟩ else some ⟨g,off+2,none⟩) l.length (c - 1)) l:=fun W h1 h2=>an4 (h W h1 h2)
theorem zA{B:Int}:∀(n:Nat) (a b:List Pr),a.length+b.length<=n->(∀p∈a,-B<=p.1/\p.1<=B)->(∀p∈b,-B<=p.1/\p.1<=B)->(nV a b).length<=a.length+b.length/\∀p∈nV a b,-B<=p.1/\p.1<=B
 | _,[],b,_,_,hb=>by rw[zip_nil_left];exact⟨by simp,hb⟩
 | _,p::a,[],_,ha,_=>by rw[zip_nil_right];exact⟨by simp,ha⟩
 | 0,p::a,q::b,hn,_,_=>by simp at hn
 | n+1,p::a,q::b,hn,ha,hb=>by
  simp only[aU] at hn;have ha':=fun x hx=>ha x (aY p hx)
  have hb':=fun x hx=>hb x (aY q hx)
  have hp:=ha p (aT ..);have hq:=hb q (aT ..)
  rcases Int.lt_trichotomy p.1 q.1 with h|h|h
  ·rw[Q_ a b h]
   obtain⟨h1,h2⟩:=zA n a (q::b) ah ha' hb
   refine⟨by simp only[aU] at *;omega,fun x hx=>?_⟩
   rcases bn.1 hx with rfl|hx
   ·exact hp
   ·exact h2 x hx
  ·rw[Rh a b h]
   obtain⟨h1,h2⟩:=zA n a b ae ha' hb'
   refine⟨by simp only[aU] at *;omega,fun x hx=>?_⟩
   rcases bn.1 hx with rfl|hx
   ·exact hp
   ·exact h2 x hx
  ·rw[Rf a b h]
   obtain⟨h1,h2⟩:=zA n (p::a) b ah ha hb'
   refine⟨by simp only[aU] at *;omega,fun x hx=>?_⟩
   rcases bn.1 hx with rfl|hx
   ·exact hq
   ·exact h2 x hx
theorem an5{a b:List Pr}(ha:uI a)(hb:uI b)(ht:tot a+tot b<=4611686018427387904)(hl:a.length+b.length<=100000):uI (gG a b):=by
 have e:=Kz ha.iU hb.iU ha.pos hb.pos;have k:=zA (B:=1048576) _ a b (aS _) ha.key hb.key;rw[e] at k;exact⟨nC ha.iU,oH ha.pos hb.pos,k.2,by rw[sN];exact ht,ae⟩
theorem RF(w:World)(hs:nO g l F w)(ht:nO h m G w)(ok:uI l)(om:uI m)(ho:4611686018427387904<tot l+tot m) :
 aH 215 #[.pointer (some ⟨g,0,none⟩),.pointer (some ⟨h,0,none⟩)] w fun e w'=>e=.returned (.int .i64 6)/\∃n,w'=w.drewN n:=by
 obtain⟨v,hB,_⟩:=hs;obtain⟨u,hC,_⟩:=ht;have k1:=hB.cell 1;have k2:=hC.cell 1;simp only[aK,aJ,aN] at k1 k2;have t0:=dN ok.pos;have t1:=ok.tot;have t2:=dN om.pos;have t3:=om.tot;clear hB hC ok om;generalize tot l=t at *;generalize tot m=s at *;have h6:4611686018427387904 - t<s:=ae
 have hw6:IntKind.u64.wrap (4611686018427387904 - t)=4611686018427387904 - t:=by rw[fF];omega
 go_enter func215,ntmps215
 go_wp2_with fail
 go_quiet (fail)
 go_wp2_with fail
 go_ret;exact⟨rfl,_,rfl⟩
theorem WT(w:World)(hs:nO g l F w)(ht:nO h m G w)(ok:uI l)(om:uI m)(ho:tot l+tot m<=4611686018427387904)(hl:l.length+m.length<=100000) :
 aH 215 #[.pointer (some ⟨g,0,none⟩),.pointer (some ⟨h,0,none⟩)] w fun e w'=>e=.returned (.int .i64 0)/\nO g (gG l m) (Gr F w w') w'/\Touch F w w':=by
 have hs':=hs;obtain⟨v,hB,hO,hFg,hFv,yG⟩:=hs';obtain⟨u,hC,hP,_⟩:=ht;have k1:=hB.cell 1;have k2:=hC.cell 1;have k0:=hB.cell 0;have k3:=hC.cell 0;simp only[aK,aJ,aN] at k0 k1 k2 k3;have t0:=dN ok.pos;have t2:=dN om.pos;have HZ:Hid (nV l m=gG l m):=aI (Kz ok.iU om.iU ok.pos om.pos);have HT:Hid (tot (gG l m)=tot l+tot m):=aI (sN m l);obtain⟨N,hN⟩:∃N:Ft,N=fun k=>k=g\/w.heap.size<=k:=⟨_,rfl⟩
 have AA:Hid (WS fZ N w v l):=aI (U_ hO (fun k e h=>by
  rw[hN] at h
  rcases h with h|h
  ·exact own_ne hB hO af (by rw[e,h])
  ·have:=(hO.lt k e).2;omega))
 have AB:Hid (WS fZ N w u m):=aI (U_ hP (fun k e h=>by
  rw[hN] at h
  rcases h with h|h
  ·exact own_ne hB hP af (by rw[e,h])
  ·have:=(hP.lt k e).2;omega))
 have HN:Hid (∀k,N k<->k=g\/w.heap.size<=k):=aI (fun k=>by rw[hN])
 have HPB:Hid (∀p,p∈l\/p∈m->0<=p.2/\p.2<=4611686018427387904):=aI (fun p hp=>by
  rcases hp with hp|hp
  ·have h1:=pK ok.pos p hp;have h2:=ok.pos p hp;have h3:=ok.tot;omega
  ·have h1:=pK om.pos p hp;have h2:=om.pos p hp;have h3:=om.tot;omega)
 have HB:=aI hB;have HC:=aI hC;have HFL:=aI yG;have hgl:=hB.lt;have hhl:=hC.lt;have hvf:∃A c,v=.slice A l.length c:=by obtain⟨A,c,e,_⟩:=hO.form;exact⟨A,c,e⟩
 have huf:∃A c,u=.slice A m.length c:=by obtain⟨A,c,e,_⟩:=hP.form;exact⟨A,c,e⟩
 obtain⟨A0,c0,rfl⟩:=hvf;obtain⟨B0,d0,rfl⟩:=huf;clear hB hC ok om hs hO hP yG hFv hN;generalize gG l m=r at *;obtain⟨t,hte⟩:=aF (tot l);obtain⟨s,hse⟩:=aF (tot m);rw[hte] at k1 t0 ho HT HB;rw[hse] at k2 t2 ho HT HC;clear hte hse;have h6:¬4611686018427387904 - t<s:=ae
 have hw6:IntKind.u64.wrap (4611686018427387904 - t)=4611686018427387904 - t:=by rw[fF];omega
 go_enter func215,ntmps215
 go_wp2_with fail
 go_quiet (fail)
 go_wp2_with fail
 go_quiet (fail)
 go_wp2_with fail;clear hw6 h6
 go_loopg [5,6,7] (l.length+m.length) (fun q x y z wr=>∃(acc a b:List Pr),q=a.length+b.length/\acc.length+q<=100000/\Hid (dL fZ w.heap.size wr x acc)/\Hid (WS fZ N wr y a)/\Hid (WS fZ N wr z b)/\Hid (acc++nV a b=r)/\Hid (∀p,p∈a\/p∈b->0<=p.2/\p.2<=4611686018427387904)/\Below w.heap.size w wr)
 case atStart=>exact⟨[],l,m,rfl,ah,aI (dL.nil_ _ _),aI (jL AA.o (below_drewN (below_drewN (aO _ _) _) _)),aI (jL AB.o (below_drewN (below_drewN (aO _ _) _) _)),HZ,HPB,below_drewN (below_drewN (aO _ _) _) _⟩
 case round=>
  obtain⟨acc,a,b,hq,hal,HU,HA,lJ,HS,HPS,hb⟩:=hrel;have HQ:=aI hq;rw[hq] at hal;have hz:=hb.size;clear hq;obtain⟨A1,c1,rfl,ha1,ha2,fa⟩:=(U9 HA.o).form;obtain⟨B1,d1,rfl,hb1,hb2,fb⟩:=(U9 lJ.o).form;obtain⟨U1,e1,rfl,_,_,_⟩:=HU.o.form
  by_cases hab:0<a.length/\0<b.length
  ·obtain⟨ha0,hb0⟩:=hab
   obtain⟨p,a,rfl⟩:∃p a',a=p::a':=by cases a with|nil=>simp at ha0|cons p a=>exact⟨p,a,rfl⟩
   obtain⟨q,b,rfl⟩:∃p a',b=p::a':=by cases b with|nil=>simp at hb0|cons p a=>exact⟨p,a,rfl⟩
   obtain⟨ga,oa,rfl,hga,x0,x1⟩:=jQ fa (j:=0) (by simp)
   obtain⟨gb,ob,rfl,hgb,y0,y1⟩:=jQ fb (j:=0) (by simp)
   simp only[Nat.zero_mul,Nat.add_zero,List.getElem_cons_zero] at x0 x1 y0 y1;simp only[aU] at *;have hza:(0:Int)<((a.length+1:Nat):Int):=ae
   have hzb:(0:Int)<((b.length+1:Nat):Int):=ae
   clear fa fb;obtain⟨px,pn⟩:=p;obtain⟨qx,qn⟩:=q;simp only at x0 x1 y0 y1;have cf6:(1:Int)<=(a.length:Int)+1:=ae
   have hz1b:(1:Int)<=(b.length:Int)+1:=ae
   rcases Int.lt_trichotomy px qx with hc|hc|hc
   ·have HZ2:=aI (Q_ (p:=(px,pn)) (q:=(qx,qn)) a b hc)
    have hcd:¬qx<px:=ae
    go_wp2_with fail
    go_quiet (fail)
    clear x0 x1 y0 y1
    go_upto_region 11 with fail;obtain⟨w2,hw2⟩:∃x,wr.drewN nq=x:=⟨_,rfl⟩;have B2:Below wr.heap.size wr w2:=by rw[<-hw2];exact below_drewN (aO _ _) _
    have HA2:=aI (jL HA.o B2);have HB2:=aI (jL lJ.o B2);have OU:=aI (HU.o.keep B2);have hb2:=hb.trans (B2.mono hz);have hzw:=hb2.size;rw[hw2];clear hw2 B2;refine jh (Touch (fun k=>w.heap.size<=k) w2) (dV 0 4 (dV 6 2 (fJ 4 (fJ 5 (dV 8 2 []))))) ((Touch.refl _ _).drew) ?_
    iterate 6 refine eQ (h:=fun w' hS'=>by obtain⟨k0,k1⟩:=kM (lV HA2.o (hS'.mono (fun k h=>(HN.o k).2 (.inr h))));obtain⟨k2,k3⟩:=kM (lV HB2.o (hS'.mono (fun k h=>(HN.o k).2 (.inr h))));go_simp;exact⟨rfl,rfl⟩) ?_
    refine fO fun K hK=>?_
    go_simp;refine hK _ _ (((Touch.refl _ _).drew).alloc _) ?_
    clear hK K;refine fO fun K hK=>?_
    refine Rn zq (.tmp 67) (.tmp 71) rfl ((OU.o.drew).alloc _) rfl _ [(px,pn)] rfl (iM.fK (E:=fZ) _ (px,pn) _ rfl _ rfl _ ag) ah aj ?_
    intro v7 w7 o7 g7 _;have T7:Touch (fun k=>w.heap.size<=k) w2 w7:=(((Touch.refl _ _).drew).alloc _).grown g7 (fun k e=>.inl (OU.o.lt k e).1)
    have O7:=aI o7;obtain⟨U7,e7,rfl,_,_,_⟩:=o7.form;clear o7 g7
    go_simp;refine hK _ _ (T7) ?_
    clear hK K
    iterate 2 refine eQ (h:=fun w' hS'=>by obtain⟨k0,k1⟩:=kM (lV HA2.o (hS'.mono (fun k h=>(HN.o k).2 (.inr h))));obtain⟨k2,k3⟩:=kM (lV HB2.o (hS'.mono (fun k h=>(HN.o k).2 (.inr h))));go_simp;exact⟨rfl,rfl⟩) ?_
    refine dJ ?_
    have hb7:Below w.heap.size w w7:=tnew hb2 T7 (fun _ h=>h)
    have T7':=T7.mono (G:=N) (fun k h=>(HN.o k).2 (.inr h))
    have el:(acc++[(px,pn)]).length=acc.length+1:=ag
    rw[el] at O7;have CA:=zy (rf HA2.o T7');have CB:=rf HB2.o T7';generalize (if c1=1 then some (⟨ga,oa,none⟩:Addr) else some ⟨ga,oa+2,none⟩)=ba at CA |-
    have CA':=aI CA;have CB':=aI CB;clear CA CB el
    go_wp2_with fail
    go_roundg (a.length+(b.length+1))
    case measure=>have:=HQ.o;omega
    case rel=>exact⟨acc++[(px,pn)],a,(qx,qn)::b,rfl,by simp only[aQ,aU,bC];omega,O7,CA',CB',aI (by rw[<-HS.o,HZ2.o];simp),aI (fun p hp=>HPS.o p (hp.imp (fun h=>by exact aY _ h) (fun h=>by exact h))),hb7⟩
   ·subst hc
    have HZ2:=aI (Rh (p:=(px,pn)) (q:=(px,qn)) a b rfl);have hp1:=HPS.o (px,pn) (.inl (aT ..));have hp2:=HPS.o (px,qn) (.inr (aT ..));simp only at hp1 hp2;have QB:Hid (IntKind.u64.wrap (pn+qn)=pn+qn):=aI (by rw[fF];omega)
    go_wp2_with fail
    go_quiet (fail)
    generalize nq=n1 at *
    go_wp2_with fail
    go_quiet (fail)
    clear x0 x1 y0 y1
    go_upto_region 8 with fail;obtain⟨w2,hw2⟩:∃x,(wr.drewN n1).drewN nq=x:=⟨_,rfl⟩;have B2:Below wr.heap.size wr w2:=by rw[<-hw2];exact below_drewN (below_drewN (aO _ _) _) _
    have HA2:=aI (jL HA.o B2);have HB2:=aI (jL lJ.o B2);have OU:=aI (HU.o.keep B2);have hb2:=hb.trans (B2.mono hz);have hzw:=hb2.size;rw[hw2];clear hw2 B2;refine jh (Touch (fun k=>w.heap.size<=k) w2) (dV 0 15 (fJ 15 (fJ 16 (dV 17 1 [])))) ((Touch.refl _ _).drew) ?_
    iterate 15 refine eQ (h:=fun w' hS'=>by obtain⟨k0,k1⟩:=kM (lV HA2.o (hS'.mono (fun k h=>(HN.o k).2 (.inr h))));obtain⟨k2,k3⟩:=kM (lV HB2.o (hS'.mono (fun k h=>(HN.o k).2 (.inr h))));have hws:=QB.o;go_simp;exact⟨rfl,rfl⟩) ?_
    refine fO fun K hK=>?_
    go_simp;refine hK _ _ (((Touch.refl _ _).drew).alloc _) ?_
    clear hK K;refine fO fun K hK=>?_
    refine Rn zq (.tmp 36) (.tmp 51) rfl ((OU.o.drew).alloc _) rfl _ [(px,pn+qn)] rfl (iM.fK (E:=fZ) _ (px,pn+qn) _ rfl _ rfl _ ag) ah aj ?_
    intro v7 w7 o7 g7 _;have T7:Touch (fun k=>w.heap.size<=k) w2 w7:=(((Touch.refl _ _).drew).alloc _).grown g7 (fun k e=>.inl (OU.o.lt k e).1)
    have O7:=aI o7;obtain⟨U7,e7,rfl,_,_,_⟩:=o7.form;clear o7 g7
    go_simp;refine hK _ _ (T7) ?_
    clear hK K;refine eQ (h:=fun w' hS'=>by obtain⟨k0,k1⟩:=kM (lV HA2.o (hS'.mono (fun k h=>(HN.o k).2 (.inr h))));obtain⟨k2,k3⟩:=kM (lV HB2.o (hS'.mono (fun k h=>(HN.o k).2 (.inr h))));have hws:=QB.o;go_simp;exact⟨rfl,rfl⟩) ?_
    refine dJ ?_
    have hb7:Below w.heap.size w w7:=tnew hb2 T7 (fun _ h=>h)
    have T7':=T7.mono (G:=N) (fun k h=>(HN.o k).2 (.inr h))
    have el:(acc++[(px,pn+qn)]).length=acc.length+1:=ag
    rw[el] at O7;have CA:=zy (rf HA2.o T7');have CB:=zy (rf HB2.o T7');clear el
    rcases Decidable.em (c1=1) with e1|e1<;>rcases Decidable.em (d1=1) with e2|e2
    all_goals
     first|(subst e1;rw[if_pos rfl] at CA)|rw[if_neg e1] at CA
     first|(subst e2;rw[if_pos rfl] at CB)|rw[if_neg e2] at CB
     have CA':=aI CA;have CB':=aI CB;clear CA CB
     go_wp2_with fail
     go_quiet (fail)
     go_wp2_with fail
     go_roundg (a.length+b.length)
     case measure=>have:=HQ.o;omega
     case rel=>exact⟨acc++[(px,pn+qn)],a,b,rfl,by simp only[aQ,aU,bC];omega,O7.o.drewN _,by first|exact jL CA'.o (below_drewN (aO _ _) _)|(have h:=CA'.o;rw[show a.length=0 by omega] at h;exact jL h (below_drewN (aO _ _) _)),by first|exact jL CB'.o (below_drewN (aO _ _) _)|(have h:=CB'.o;rw[show b.length=0 by omega] at h;exact jL h (below_drewN (aO _ _) _)),aI (by rw[<-HS.o,HZ2.o];simp),aI (fun p hp=>HPS.o p (hp.imp (fun h=>by exact aY _ h) (fun h=>by exact aY _ h))),below_drewN hb7 _⟩
   ·have HZ2:=aI (Rf (p:=(px,pn)) (q:=(qx,qn)) a b hc)
    have hcd:¬px<qx:=ae
    go_wp2_with fail
    go_quiet (fail)
    generalize nq=n1 at *
    go_wp2_with fail
    go_quiet (fail)
    clear x0 x1 y0 y1
    go_upto_region 13 with fail;obtain⟨w2,hw2⟩:∃x,(wr.drewN n1).drewN nq=x:=⟨_,rfl⟩;have B2:Below wr.heap.size wr w2:=by rw[<-hw2];exact below_drewN (below_drewN (aO _ _) _) _
    have HA2:=aI (jL HA.o B2);have HB2:=aI (jL lJ.o B2);have OU:=aI (HU.o.keep B2);have hb2:=hb.trans (B2.mono hz);have hzw:=hb2.size;rw[hw2];clear hw2 B2;refine jh (Touch (fun k=>w.heap.size<=k) w2) (dV 0 4 (dV 6 2 (fJ 4 (fJ 5 (dV 8 2 []))))) ((Touch.refl _ _).drew) ?_
    iterate 6 refine eQ (h:=fun w' hS'=>by obtain⟨k0,k1⟩:=kM (lV HA2.o (hS'.mono (fun k h=>(HN.o k).2 (.inr h))));obtain⟨k2,k3⟩:=kM (lV HB2.o (hS'.mono (fun k h=>(HN.o k).2 (.inr h))));go_simp;exact⟨rfl,rfl⟩) ?_
    refine fO fun K hK=>?_
    go_simp;refine hK _ _ (((Touch.refl _ _).drew).alloc _) ?_
    clear hK K;refine fO fun K hK=>?_
    refine Rn zq (.tmp 85) (.tmp 89) rfl ((OU.o.drew).alloc _) rfl _ [(qx,qn)] rfl (iM.fK (E:=fZ) _ (qx,qn) _ rfl _ rfl _ ag) ah aj ?_
    intro v7 w7 o7 g7 _;have T7:Touch (fun k=>w.heap.size<=k) w2 w7:=(((Touch.refl _ _).drew).alloc _).grown g7 (fun k e=>.inl (OU.o.lt k e).1)
    have O7:=aI o7;obtain⟨U7,e7,rfl,_,_,_⟩:=o7.form;clear o7 g7
    go_simp;refine hK _ _ (T7) ?_
    clear hK K
    iterate 2 refine eQ (h:=fun w' hS'=>by obtain⟨k0,k1⟩:=kM (lV HA2.o (hS'.mono (fun k h=>(HN.o k).2 (.inr h))));obtain⟨k2,k3⟩:=kM (lV HB2.o (hS'.mono (fun k h=>(HN.o k).2 (.inr h))));go_simp;exact⟨rfl,rfl⟩) ?_
    refine dJ ?_
    have hb7:Below w.heap.size w w7:=tnew hb2 T7 (fun _ h=>h)
    have T7':=T7.mono (G:=N) (fun k h=>(HN.o k).2 (.inr h))
    have el:(acc++[(qx,qn)]).length=acc.length+1:=ag
    rw[el] at O7;have CA:=rf HA2.o T7';have CB:=zy (rf HB2.o T7');generalize (if d1=1 then some (⟨gb,ob,none⟩:Addr) else some ⟨gb,ob+2,none⟩)=bb at CB |-
    have CA':=aI CA;have CB':=aI CB;clear CA CB el
    go_wp2_with fail
    go_roundg ((a.length+1)+b.length)
    case measure=>have:=HQ.o;omega
    case rel=>exact⟨acc++[(qx,qn)],(px,pn)::a,b,rfl,by simp only[aQ,aU,bC];omega,O7,CA',CB',aI (by rw[<-HS.o,HZ2.o];simp),aI (fun p hp=>HPS.o p (hp.imp (fun h=>by exact h) (fun h=>by exact aY _ h))),hb7⟩
  ·have HE:Hid (acc++a++b=r/\(¬0<a.length\/¬0<b.length)):=aI (by
    refine⟨?_,ae⟩
    rw[<-HS.o]
    by_cases ha:a=[]
    ·subst ha;rw[zip_nil_left];simp
    ·have hb':b=[]:=by
      cases b with
      | nil=>rfl
      | cons q b=>exact absurd ⟨List.length_pos_iff.2 ha,ag⟩ hab
     subst hb';rw[zip_nil_right];simp)
   have k1r:=(hb.cell (p:=⟨g,1,none⟩) hgl).trans k1;have k2r:=(hb.cell (p:=⟨h,1,none⟩) hhl).trans k2;have K1:=aI k1r;have K2:=aI k2r;have K0:=aI ((hb.cell (p:=⟨g,0,none⟩) hgl).trans k0);have B1r:=aI (HB.o.keep hb);have hgr:g<wr.heap.size:=ae
   have hhr:h<wr.heap.size:=ae
   have f1:=B1r.o.frozen 1;clear k0 k1 k2 k3 k1r k2r fa fb;have hcs:¬0<a.length\/(0<a.length/\¬0<b.length):=by have:=HE.o.2;omega
   rcases hcs with hcs|⟨hcs,hcs'⟩
   all_goals
    go_upto_region 14 with fail;have mW:=aI (fun(w':World) (hS':(Below wr.heap.size wr) w')=>(aP ((hS'.cell (p:=⟨g,1,none⟩) hgr).trans K1.o) ((hS'.cell (p:=⟨h,1,none⟩) hhr).trans K2.o)))
    refine KO (Below wr.heap.size wr) 11 (KI 0 9 (plp 9 1 (KI 10 1 (KJ 11 [])))) ((aO _ _).drew) ?_
    iterate 9 refine uF ?_
    refine Rl ?_
    refine uF ?_
    refine KN fun K hK=>?_
    have k1:wr.drew.cell? ⟨g,1,none⟩=_:=K1.o;have k9:wr.drew.frozen? ⟨g,1,none⟩=_:=f1
    go_simp;refine hK _ _ ?_
    clear hK K;refine ja ?_
    rw[show IntKind.u64.wrap (t+s)=t+s by rw[fF];omega]
    have T5:Touch N wr ((wr.setCell ⟨g,1,none⟩ (.int .u64 (t+s))).drew):=((Touch.refl _ _).setCell (p:=⟨g,1,none⟩) (.inl ((HN.o g).2 (.inl rfl))) _).drew;have b5:=(B1r.o.dQ 1 (.int .u64 (t+s))).drew;have o5:=(HU.o.far (p:=⟨g,1,none⟩) (fun e=>by have:=(HU.o.lt g e).1;omega) (.int .u64 (t+s))).drew
    have WJ:w.heap.size<=((wr.setCell ⟨g,1,none⟩ (.int .u64 (t+s))).drew).heap.size:=bJ hz T5.size;have T5w:=aI ((Touch.of_below (F:=fun k=>k=g\/w.heap.size<=k) hb (aS _)).trans T5 (fun k h=>.inl ((HN.o k).1 h)))
    generalize (wr.setCell ⟨g,1,none⟩ (.int .u64 (t+s))).drew=w5 at *;have R5:=aI (lV HA.o T5);have B5:=aI b5;have O5:=aI o5;have TT5:=aI T5;clear b5 o5 T5;have hl2:(acc++a).length+b.length<=1099511627776:=by rw[aQ];omega
    go_wp2_with (first
     | (at_builtin
        refine uk zq rfl (.tmp 105) (.tmp 106) rfl O5.o rfl _ a rfl R5.o ae WJ ?_
        intro v6 w6 o6 g6 _;have T6:=aI (TT5.o.trans ((Touch.refl N w5).grown g6 (fun k e=>.inl ((HN.o k).2 (.inr (O5.o.lt k e).1)))) (fun _ h=>.inl h))
        have B6:=aI (fH B5.o O5.o af g6)
        have T6w:=aI (T5w.o.grown g6 (fun k e=>.inl (.inr (O5.o.lt k e).1)))
        have O6:=aI o6;have R6:=aI (lV lJ.o T6.o);have WM:w.heap.size<=w6.heap.size:=T6w.o.size;clear o6 g6)
     | (at_builtin
        refine uk zq rfl (.tmp 107) (.tmp 108) rfl O6.o rfl _ b rfl R6.o hl2 WM ?_
        intro v7 w7 o7 g7 _;have B7:=aI (fH B6.o O6.o af g7)
        have T7:=aI (T6w.o.grown g7 (fun k e=>.inl (.inr (O6.o.lt k e).1)))
        rw[HE.o.1] at o7;have O7:=aI o7;have k7:=B7.o.cell 0;have f7:=B7.o.frozen 0;simp only[bY,List.set_cons_succ,List.set_cons_zero,aK,aJ] at k7;obtain⟨A7,e7,hv7,_,_,_⟩:=o7.form;generalize r.length=n7 at hv7;subst hv7;clear o7 g7))
    go_ret;have b8:=B7.o.dQ 0 (.slice A7 n7 e7);have o8:=O7.o.far (p:=⟨g,0,none⟩) (own_ne B7.o O7.o af) (.slice A7 n7 e7)
    have t8:Touch F w (w7.setCell ⟨g,0,none⟩ (.slice A7 n7 e7)):=have t:=T7.o.setCell (p:=⟨g,0,none⟩) (.inl (.inl rfl)) (.slice A7 n7 e7);⟨t.os,t.tape,t.output,t.size,fun k hk hF=>t.block k hk (fun h=>h.elim (fun e=>hF (e▸hFg)) (fun h=>by omega))⟩
    refine⟨rfl,⟨.slice A7 n7 e7,?_,o8.more (df _),.inl hFg,fun q e=>.inr ⟨(O7.o.lt q e).1,?_⟩,jU HFL.o t8.size⟩,t8⟩
    ·rw[HT.o];exact b8
    ·have:=(O7.o.lt q e).2;simpa using this
open Tryz
open Go.RowKit
theorem Gg{k n:Int}:∀{l:List Pr},(∀p∈l,p.1<k)->gz k n l=l++[(k,n)]
 | [],_=>rfl
 | p::l,h=>by
  unfold gz;rw[if_pos (h p (aT ..)),Gg fun q hq=>h q (aY _ hq)];rfl
theorem ZL(h:gU l){j:Nat}(hj:j<l.length):gz l[j].1 l[j].2 (l.take j)=l.take (j+1):=by
 rw[Gg,bg hj];intro p hp;obtain⟨i,hi,rfl⟩:=List.mem_iff_getElem.1 hp;rw[List.getElem_take];rw[bG] at hi;exact List.pairwise_iff_getElem.1 h i j ae hj ae
theorem Gh(h:uI l)(j:Nat):uI (l.take j):=by
 have e:tot l=tot (l.take j)+tot (l.drop j):=by rw[<-eH,List.take_append_drop]
 have h2:=dN (l:=l.drop j) (fun p hp=>h.pos p (List.mem_of_mem_drop hp))
 exact⟨h.iU.sublist (List.take_sublist _ _),fun p hp=>h.pos p (List.mem_of_mem_take hp),fun p hp=>h.key p (List.mem_of_mem_take hp),by have:=h.tot;omega,by have:=h.len;rw[bG];omega⟩
theorem ba2(v:Value)(l:List Pr)(w:World)(h:iM fZ w v l)(ok:uI l)(hl:l.length<100000) :
 aH 413 #[v] w fun e w'=>∃g,e=.returned (.tuple #[.pointer (some ⟨g,0,none⟩),.int .i64 0])/\nO g l (Gr (fun _=>False) w w') w'/\Below w.heap.size w w':=by
 obtain⟨A,c,rfl,_,_,hf⟩:=h.form;have HF:=aI hf;have HO:Hid (∀j (hj:j<l.length),uI (l.take j)/\jK (l.take j) l[j].1 l[j].2=0/\gz l[j].1 l[j].2 (l.take j)=l.take (j+1)/\0<l[j].2/\l[j].2<=4611686018427387904):=aI (fun j hj=>by
  have h1:=ZL ok.iU hj;have h2:=Gh ok (j+1);have h3:=wJ l[j].1 l[j].2 (l.take j);rw[h1] at h3;have h4:=h2.tot;have h5:=ok.pos _ (bf hj);have h6:=ok.key _ (bf hj);have h7:=dN (Gh ok j).pos;refine⟨Gh ok j,?_,h1,h5,ae⟩
  unfold jK;rw[if_neg ae,if_neg ae,if_neg ae])
 clear h hf ok
 go_enter func413,ntmps413
 go_wp2_with fail
 go_loopg [12] l.length (fun q x wr=>∃j:Nat,q=l.length - j/\j<=l.length/\x=.int .i64 j/\Hid (nO w.heap.size (l.take j) (Gr (fun _=>False) w wr) wr)/\Below w.heap.size w wr)
 case atStart=>exact⟨0,rfl,ae,rfl,aI ⟨.slice none 0 0,dK.new _ _ _,dL.nil_ _ _,.inr ⟨aS _,ag⟩,(fun k e=>by cases e),fun k h=>h.elim False.elim And.right⟩,bw⟩
 case round=>
  obtain⟨j,hq,hj,rfl,HS,hb⟩:=hrel;have HQ:=aI hq;have hz:=hb.size;clear hq
  by_cases hlt:j<l.length
  ·obtain⟨g,off,rfl,hg,c0,c1⟩:=jQ (HF.o.keep hb) hlt
   obtain⟨o1,o2,o3,o4,o5⟩:=HO.o j hlt;have hji:(j:Int)<(l.length:Int):=ae
   have hlg:=HS.o.choose_spec.1.lt;have b1:Below w.heap.size w (wr.alloc (.cells #[.int .i64 l[j].1,.int .u64 l[j].2] 178)):=bw;have C:=aI (NY l[j].1 l[j].2 (wr.alloc (.cells #[.int .i64 l[j].1,.int .u64 l[j].2] 178)) ((iO _ _).keep HS.o (dG (aO _ _) (aS _) _)) o1 ae o2 (by rw[bG];omega))
   rw[o3] at C;clear o1 o2 o3;generalize l[j].1=x at *;generalize l[j].2=n at *
   go_wp2_with fail;refine(C.o).mono ?_
   rintro e w1 ⟨rfl,s1,t1⟩;have S1:Hid (nO w.heap.size (l.take (j+1)) (Gr (fun _=>False) w w1) w1):=aI ((iO _ _).more s1 (fun k hk=>by
    rcases hk with(hk|hk)|hk
    ·exact hk.elim
    ·exact .inr ⟨hk.1,by have:=t1.size;simp at this;omega⟩
    ·exact .inr ⟨by have:=hk.1;simp at this;omega,hk.2⟩) (fun k hk=>hk.elim False.elim And.right))
   have b2:Below w.heap.size w w1:=tnew b1 t1 (fun k hk=>hk.elim False.elim And.left)
   clear s1 t1
   go_wp2_with fail
   go_roundg (l.length - (j+1))
   case measure=>have:=HQ.o;omega
   case rel=>exact⟨j+1,rfl,ae,ai,S1,b2⟩
  ·obtain rfl:j=l.length:=ae
   rw[bP (aS _)] at HS
   go_wp2_with fail
   go_ret2
   exact⟨_,rfl,HS.o,hb⟩
def A_(c m:Nat)(l:List Pr)(f:Int)(F:Ft)(w:World):Prop:=∃g G,dK w c 254 #[.int .i64 m,.pointer (some ⟨g,0,none⟩),.int .u64 f]/\nO g l G w/\F c/\¬G c/\(∀k,G k->F k)/\∀k,F k->k<w.heap.size
theorem oI(c m:Nat)(l:List Pr)(f:Int):jV (A_ c m l f) where
 stay:=fun⟨g,G,h1,h2,h3,h4,h5,h6⟩ hk hz=>⟨g,G,(hk c h3).trans h1,(iO g l).stay h2 (fun k e=>hk k (h5 k e)) hz,h3,h4,h5,fun k h=>bF (h6 k h) hz⟩
 more:=fun⟨g,G,h1,h2,h3,h4,h5,_⟩ h hl=>⟨g,G,h1,h2,h c h3,h4,fun k e=>h k (h5 k e),hl⟩
 low:=fun⟨_,_,_,_,_,_,_,h6⟩=>h6
def CoR(w:World)(c m:Nat)(l:List Pr)(f:Int):Prop:=∃g G,dK w c 254 #[.int .i64 m,.pointer (some ⟨g,0,none⟩),.int .u64 f]/\nO g l G w
theorem A_.r{m:Nat}(h:A_ c m l f F w):CoR w c m l f:=by
 obtain⟨g,G,h1,h2,_⟩:=h;exact⟨g,G,h1,h2⟩
theorem CoR.keep{c m:Nat}{l:List Pr}{f:Int}{w w':World}(h:CoR w c m l f)(hb:Below w.heap.size w w'):CoR w' c m l f:=by
 obtain⟨g,G,h1,h2⟩:=h;exact⟨g,G,h1.keep hb,(iO g l).keep h2 hb⟩
theorem ZM(m:Nat)(w:World)(h0:2<=m)(h1:m<=4096) :
 aH 278 #[.int .i64 m] w fun e w'=>∃c,e=.returned (.tuple #[.pointer (some ⟨c,0,none⟩),.int .i64 0])/\A_ c m [] 0 (Gr (fun _=>False) w w') w'/\Below w.heap.size w w':=by
 go_enter func278,ntmps278
 go_wp2_with fail
 go_ret2
 have b1:=dK.new w 333 #[.slice none 0 0,.int .u64 0];have b2:=dK.new (w.alloc (.cells #[.slice none 0 0,.int .u64 0] 333)) 254 #[.int .i64 m,.pointer (some ⟨w.heap.size,0,none⟩),.int .u64 0];rw[aV] at b2;exact⟨_,rfl,⟨w.heap.size,fun k=>k=w.heap.size,b2,⟨.slice none 0 0,b1.alloc _,dL.nil_ _ _,rfl,(fun k e=>by cases e),(fun k e=>by subst e;simp;omega)⟩,.inr ⟨by omega,ag⟩,ae,(fun k e=>.inr ⟨by omega,by subst e;simp;omega⟩),fun k h=>h.elim False.elim And.right⟩,bw⟩
theorem bl4(m:Int)(w:World)(h:m<2\/4096<m) :
 aH 278 #[.int .i64 m] w fun e w'=>e=.returned (.tuple #[.pointer none,.int .i64 1])/\w=w':=by
 by_cases h1:m<2
 all_goals
  try (have h2:4096<m:=ae)
  go_enter func278,ntmps278
  go_wp2_with fail
  go_ret2
  exact⟨rfl,rfl⟩
theorem first_any{m:Nat}(w:World)(h:CoR w c m l f)(hl:l.length<=100000) :
 aH 293 #[.pointer (some ⟨c,0,none⟩)] w (aG w (.tuple #[.int .i64 (mD l),.bool (decide (0<l.length))])):=by
 obtain⟨g,G,hB,hS⟩:=h;have C:=aI (Jg w hS hl);have k1:=hB.cell 1;simp only[aK,aJ,aN] at k1;clear hB hS
 cases l with
 | nil=>
  have e0:mD []=0:=rfl;have d0:decide (0<([]:List Pr).length)=false:=rfl;rw[e0,d0]
  go_enter func293,ntmps293
  go_wp2_with fail;refine(C.o).mono ?_
  rintro e w1 ⟨v,rfl,o1,hb1⟩;obtain⟨A,c1,rfl,_,_,_⟩:=o1.form;clear o1
  go_wp2_with fail
  go_ret2
  exact⟨rfl,hb1⟩
 | cons p l=>
  have e0:mD (p::l)=p.1:=rfl;have d0:decide (0<(p::l).length)=true:=ag
  rw[e0,d0];clear e0 d0
  go_enter func293,ntmps293
  go_wp2_with fail;refine(C.o).mono ?_
  rintro e w1 ⟨v,rfl,o1,hb1⟩;obtain⟨g1,c1,rfl,_,_,_,_⟩:=o1.pos ag
  have c0:w1.cell? ⟨g1,0,none⟩=some (.int .i64 p.1):=(Ry o1 (j:=0) (by simp)).1
  clear o1;have hz:(0:Int)<((l.length:Nat):Int)+1:=ae
  have hz2:((((l.length:Nat):Int)+1) == 0)=false:=ah
  simp only[aU]
  go_wp2_with fail
  go_ret2
  exact⟨rfl,hb1⟩
end Go.Proofs.YtilcnjbpmoijmaaGreat.D
