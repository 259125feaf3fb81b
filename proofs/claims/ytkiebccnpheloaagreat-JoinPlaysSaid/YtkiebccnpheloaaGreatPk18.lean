/- Parts of a proof: what its theorem reaches, words cut short. No condition of its own. -/
import Derived.Test.YtkiebccnpheloaaGreatPk17
set_option maxRecDepth 100000
set_option maxHeartbeats 16000000
set_option linter.unusedVariables false
set_option linter.unusedSimpArgs false
namespace Go.Proofs.YtkiebccnpheloaaGreat.D
open Go.RowKit
def TC{α:Type}(E:Io α)(F:Ft)(w:World)(v:Value)(l:List α):Prop:=∀W:World,(∀k,k<w.heap.size->¬F k->W.heap[k]?=w.heap[k]?)->w.heap.size<=W.heap.size->gz E W v l
section
variable {α : Type} {E : Io α} {F : Ft} {w w' : World} {v : Value} {l : List α}
theorem QS(h:TC E F w v l):gz E w v l:=h w (fun _ _ _=>rfl) (aK _)
theorem jm(h:TC E F w v l)(hb:Below w.heap.size w w'):TC E F w' v l:=fun W h1 h2=>h W (fun k hk hF=>(h1 k (aU hk hb.size) hF).trans (hb.block k hk)) (bG hb.size h2)
theorem kH(h:TC E F w v l)(ht:Touch F w w'):gz E w' v l:=h w' ht.block ht.size
theorem QT{base:Nat}(h:dI E base w v l)(hF:∀k,v.ownBlock=some k->¬F k):TC E F w v l:=fun W h1 _=>(h.stay fun k e=>h1 k (h.lt k e).2 (hF k e)).rd
theorem aa9{g off n c:Nat}{x:α}(h:gz E w (.slice (some ⟨g,off,none⟩) n c) (x::l)):gz E w (.slice (if c=1 then some ⟨g,off,none⟩ else some ⟨g,off+E.k,none⟩) l.length (c - 1)) l:=by
 obtain⟨A,c',e,h1,h2,hf⟩:=h.form;injection e with e1 e2 e3;subst e1;subst e3;simp only[aP] at h1
 by_cases hc:c=1
 ·rw[if_pos hc]
  have:l=[]:=aW ae
  subst this;exact gz.iO ag ae jl.nil
 ·rw[if_neg hc]
  have:=hf.drop rfl 1;rw[Nat.one_mul] at this;exact gz.iO ae  ae this
end
theorem qo{α:Type}{E:Io α}{F:Ft}{w w':World}{v:Value}{l:List α}(h:TC E F w v l)(ht:Touch F w w'):TC E F w' v l:=fun W h1 h2=>h W (fun k hk hF=>(h1 k (aU hk ht.size) hF).trans (ht.block k hk hF)) (bG ht.size h2)
theorem jS{w:World}{g off n c:Nat}{x m:Int}{l:List Pr}(h:gz fU w (.slice (some ⟨g,off,none⟩) n c) ((x,m)::l)):w.cell? ⟨g,off,none⟩=some (.int .i64 x)/\w.cell? ⟨g,off+1,none⟩=some (.int .u64 m):=by
 obtain⟨A,c',e,h1,h2,hf⟩:=h.form;injection e with e1 e2 e3;subst e1;obtain⟨ga,oa,e,hga,x0,x1⟩:=kY hf (j:=0) (by simp)
 injection e with e;injection e with e1 e2;subst e1;subst e2;simp only[Nat.zero_mul,Nat.add_zero,List.getElem_cons_zero] at x0 x1;exact⟨x0,x1⟩
theorem xH{F:Ft}{w:World}{g off n c:Nat}{x:Pr}{l:List Pr}(h:TC fU F w (.slice (some ⟨g,off,none⟩) n c) (x::l)):TC fU F w (.slice (if c=1 then some ⟨g,off,none⟩ else some ⟨g,off+2,none⟩) l.length (c - 1)) l:=fun W h1 h2=>aa9 (h W h1 h2)
theorem xI{B:Int}:∀(n:Nat) (a b:List Pr),a.length+b.length<=n->(∀p∈a,-B<=p.1/\p.1<=B)->(∀p∈b,-B<=p.1/\p.1<=B)->(mP a b).length<=a.length+b.length/\∀p∈mP a b,-B<=p.1/\p.1<=B
 | _,[],b,_,_,hb=>by rw[zip_nil_left];exact⟨by simp,hb⟩
 | _,p::a,[],_,ha,_=>by rw[zip_nil_right];exact⟨by simp,ha⟩
 | 0,p::a,q::b,hn,_,_=>by simp at hn
 | n+1,p::a,q::b,hn,ha,hb=>by
  simp only[aP] at hn;have ha':=fun x hx=>ha x (aV p hx)
  have hb':=fun x hx=>hb x (aV q hx)
  have hp:=ha p (aQ ..);have hq:=hb q (aQ ..)
  rcases Int.lt_trichotomy p.1 q.1 with h|h|h
  ·rw[N9 a b h]
   obtain⟨h1,h2⟩:=xI n a (q::b) ah ha' hb
   refine⟨by simp only[aP] at *;omega,fun x hx=>?_⟩
   rcases a_.1 hx with rfl|hx
   ·exact hp
   ·exact h2 x hx
  ·rw[Oa a b h]
   obtain⟨h1,h2⟩:=xI n a b ae ha' hb'
   refine⟨by simp only[aP] at *;omega,fun x hx=>?_⟩
   rcases a_.1 hx with rfl|hx
   ·exact hp
   ·exact h2 x hx
  ·rw[N_ a b h]
   obtain⟨h1,h2⟩:=xI n (p::a) b ah ha hb'
   refine⟨by simp only[aP] at *;omega,fun x hx=>?_⟩
   rcases a_.1 hx with rfl|hx
   ·exact hq
   ·exact h2 x hx
theorem ab1{a b:List Pr}(ha:yw a)(hb:yw b)(ht:tot a+tot b<=4611686018427387904)(hl:a.length+b.length<=100000):yw (fA a b):=by
 have e:=Ik ha.gY hb.gY ha.pos hb.pos;have k:=xI (B:=1048576) _ a b (aK _) ha.key hb.key;rw[e] at k;exact⟨lM ha.gY,kF ha.pos hb.pos,k.2,by rw[nG];exact ht,ae⟩
theorem Ol{g h:Nat}{l m:List Pr}{F G:Ft}(w:World)(hs:oQ g l F w)(ht:oQ h m G w)(ok:yw l)(om:yw m)(ho:4611686018427387904<tot l+tot m) :
 Calls Tryz.prog 259 #[.pointer (some ⟨g,0,none⟩),.pointer (some ⟨h,0,none⟩)] w fun e w'=>e=.returned (.int .i64 6)/\∃n,w'=w.drewN n:=by
 obtain⟨v,hB,_⟩:=hs;obtain⟨u,hC,_⟩:=ht;have k1:=hB.cell 1;have k2:=hC.cell 1;simp only[aF,aC,aG] at k1 k2;have t0:=dL ok.pos;have t1:=ok.tot;have t2:=dL om.pos;have t3:=om.tot;clear hB hC ok om;generalize tot l=t at *;generalize tot m=s at *;have h6:4611686018427387904 - t<s:=ae
 have hw6:IntKind.u64.wrap (4611686018427387904 - t)=4611686018427387904 - t:=by rw[eH];omega
 go_enter Tryz.func259,Tryz.ntmps259
 go_wp2_with fail
 go_quiet (fail)
 go_wp2_with fail
 go_ret;exact⟨rfl,_,rfl⟩
theorem TE{g h:Nat}{l m:List Pr}{F G:Ft}(w:World)(hs:oQ g l F w)(ht:oQ h m G w)(ok:yw l)(om:yw m)(ho:tot l+tot m<=4611686018427387904)(hl:l.length+m.length<=100000) :
 Calls Tryz.prog 259 #[.pointer (some ⟨g,0,none⟩),.pointer (some ⟨h,0,none⟩)] w fun e w'=>e=.returned (.int .i64 0)/\oQ g (fA l m) (Gr F w w') w'/\Touch F w w':=by
 have hs':=hs;obtain⟨v,hB,hO,hFg,hFv,wU⟩:=hs';obtain⟨u,hC,hP,_⟩:=ht;have k1:=hB.cell 1;have k2:=hC.cell 1;have k0:=hB.cell 0;have k3:=hC.cell 0;simp only[aF,aC,aG] at k0 k1 k2 k3;have t0:=dL ok.pos;have t2:=dL om.pos;have HZ:Hid (mP l m=fA l m):=aB (Ik ok.gY om.gY ok.pos om.pos);have HT:Hid (tot (fA l m)=tot l+tot m):=aB (nG m l);obtain⟨N,hN⟩:∃N:Ft,N=fun k=>k=g\/w.heap.size<=k:=⟨_,rfl⟩
 have AA:Hid (TC fU N w v l):=aB (QT hO (fun k e h=>by
  rw[hN] at h
  rcases h with h|h
  ·exact own_ne hB hO af (by rw[e,h])
  ·have:=(hO.lt k e).2;omega))
 have AB:Hid (TC fU N w u m):=aB (QT hP (fun k e h=>by
  rw[hN] at h
  rcases h with h|h
  ·exact own_ne hB hP af (by rw[e,h])
  ·have:=(hP.lt k e).2;omega))
 have HN:Hid (∀k,N k<->k=g\/w.heap.size<=k):=aB (fun k=>by rw[hN])
 have VL:Hid (∀p,p∈l\/p∈m->0<=p.2/\p.2<=4611686018427387904):=aB (fun p hp=>by
  rcases hp with hp|hp
  ·have h1:=pR ok.pos p hp;have h2:=ok.pos p hp;have h3:=ok.tot;omega
  ·have h1:=pR om.pos p hp;have h2:=om.pos p hp;have h3:=om.tot;omega)
 have HB:=aB hB;have HC:=aB hC;have W_:=aB wU;have hgl:=hB.lt;have Xb:=hC.lt;have hvf:∃A c,v=.slice A l.length c:=by obtain⟨A,c,e,_⟩:=hO.form;exact⟨A,c,e⟩
 have huf:∃A c,u=.slice A m.length c:=by obtain⟨A,c,e,_⟩:=hP.form;exact⟨A,c,e⟩
 obtain⟨A0,c0,rfl⟩:=hvf;obtain⟨B0,d0,rfl⟩:=huf;clear hB hC ok om hs hO hP wU hFv hN;generalize fA l m=r at *;obtain⟨t,hte⟩:∃t,tot l=t:=⟨_,rfl⟩;obtain⟨s,hse⟩:∃s,tot m=s:=⟨_,rfl⟩;rw[hte] at k1 t0 ho HT HB;rw[hse] at k2 t2 ho HT HC;clear hte hse;have h6:¬4611686018427387904 - t<s:=ae
 have hw6:IntKind.u64.wrap (4611686018427387904 - t)=4611686018427387904 - t:=by rw[eH];omega
 go_enter Tryz.func259,Tryz.ntmps259
 go_wp2_with fail
 go_quiet (fail)
 go_wp2_with fail
 go_quiet (fail)
 go_wp2_with fail;clear hw6 h6
 go_loopg [5,6,7] (l.length+m.length) (fun q x y z wr=>∃(acc a b:List Pr),q=a.length+b.length/\acc.length+q<=100000/\Hid (dI fU w.heap.size wr x acc)/\Hid (TC fU N wr y a)/\Hid (TC fU N wr z b)/\Hid (acc++mP a b=r)/\Hid (∀p,p∈a\/p∈b->0<=p.2/\p.2<=4611686018427387904)/\Below w.heap.size w wr)
 case atStart=>exact⟨[],l,m,rfl,ah,aB (dI.nil_ _ _),aB (jm AA.out (below_drewN (below_drewN (aH _ _) _) _)),aB (jm AB.out (below_drewN (below_drewN (aH _ _) _) _)),HZ,VL,below_drewN (below_drewN (aH _ _) _) _⟩
 case round=>
  obtain⟨acc,a,b,hq,hal,HU,HA,o_,HS,Xc,hb⟩:=hrel;have HQ:=aB hq;rw[hq] at hal;have hz:=hb.size;clear hq;obtain⟨A1,c1,rfl,ha1,ha2,fa⟩:=(QS HA.out).form;obtain⟨B1,d1,rfl,hb1,hb2,fb⟩:=(QS o_.out).form;obtain⟨U1,e1,rfl,_,_,_⟩:=HU.out.form
  by_cases hab:0<a.length/\0<b.length
  ·obtain⟨ha0,hb0⟩:=hab
   obtain⟨p,a,rfl⟩:∃p a',a=p::a':=by cases a with|nil=>simp at ha0|cons p a=>exact⟨p,a,rfl⟩
   obtain⟨q,b,rfl⟩:∃p a',b=p::a':=by cases b with|nil=>simp at hb0|cons p a=>exact⟨p,a,rfl⟩
   obtain⟨ga,oa,rfl,hga,x0,x1⟩:=kY fa (j:=0) (by simp)
   obtain⟨gb,ob,rfl,hgb,y0,y1⟩:=kY fb (j:=0) (by simp)
   simp only[Nat.zero_mul,Nat.add_zero,List.getElem_cons_zero] at x0 x1 y0 y1;simp only[aP] at *;have hza:(0:Int)<((a.length+1:Nat):Int):=ae
   have hzb:(0:Int)<((b.length+1:Nat):Int):=ae
   clear fa fb;obtain⟨px,pn⟩:=p;obtain⟨qx,qn⟩:=q;simp only at x0 x1 y0 y1;have bm4:(1:Int)<=(a.length:Int)+1:=ae
   have hz1b:(1:Int)<=(b.length:Int)+1:=ae
   rcases Int.lt_trichotomy px qx with hc|hc|hc
   ·have HZ2:=aB (N9 (p:=(px,pn)) (q:=(qx,qn)) a b hc)
    have hcd:¬qx<px:=ae
    go_wp2_with fail
    go_quiet (fail)
    clear x0 x1 y0 y1
    go_upto_region 11 with fail;obtain⟨w2,hw2⟩:∃x,wr.drewN nq=x:=⟨_,rfl⟩;have B2:Below wr.heap.size wr w2:=by rw[<-hw2];exact below_drewN (aH _ _) _
    have HA2:=aB (jm HA.out B2);have HB2:=aB (jm o_.out B2);have OU:=aB (HU.out.keep B2);have hb2:=hb.trans (B2.mono hz);have hzw:=hb2.size;rw[hw2];clear hw2 B2;refine dD (Touch (fun k=>w.heap.size<=k) w2) [(0,true),(1,true),(2,true),(3,true),(6,true),(7,true),(4,false),(5,false),(8,true),(9,true)] (by kernel_rfl) (by kernel_rfl) ((Touch.refl _ _).drew) ?_
    iterate 6
     refine dC ax  ax (fun R hR=>?_)
     apply aJ
     refine⟨fun w' hS'=>?_,?_⟩
     ·obtain⟨k0,k1⟩:=jS (kH HA2.out (hS'.mono (fun k h=>(HN.out k).2 (.inr h))))
      obtain⟨k2,k3⟩:=jS (kH HB2.out (hS'.mono (fun k h=>(HN.out k).2 (.inr h))))
      go_simp;exact⟨rfl,rfl⟩
     go_simp;refine hR _ ?_;clear hR R
    refine dE ax  ax (fun K hK=>?_)
    go_simp;refine hK _ _ (((Touch.refl _ _).drew).alloc _) ?_
    clear hK K;refine dE ax  ax (fun K hK=>?_)
    refine apW tq (.tmp 67) (.tmp 71) rfl ((OU.out.drew).alloc _) rfl _ [(px,pn)] rfl (gz.dY (E:=fU) _ (px,pn) _ rfl _ rfl _ ag) ah aj ?_
    intro v7 w7 o7 g7 _;have T7:Touch (fun k=>w.heap.size<=k) w2 w7:=(((Touch.refl _ _).drew).alloc _).grown g7 (fun k e=>.inl (OU.out.lt k e).1)
    have O7:=aB o7;obtain⟨U7,e7,rfl,_,_,_⟩:=o7.form;clear o7 g7
    go_simp;refine hK _ _ (T7) ?_
    clear hK K
    iterate 2
     refine dC ax  ax (fun R hR=>?_)
     apply aJ
     refine⟨fun w' hS'=>?_,?_⟩
     ·obtain⟨k0,k1⟩:=jS (kH HA2.out (hS'.mono (fun k h=>(HN.out k).2 (.inr h))))
      obtain⟨k2,k3⟩:=jS (kH HB2.out (hS'.mono (fun k h=>(HN.out k).2 (.inr h))))
      go_simp;exact⟨rfl,rfl⟩
     go_simp;refine hR _ ?_;clear hR R
    refine dF ?_
    have hb7:Below w.heap.size w w7:=tnew hb2 T7 (fun _ h=>h)
    have T7':=T7.mono (G:=N) (fun k h=>(HN.out k).2 (.inr h))
    have el:(acc++[(px,pn)]).length=acc.length+1:=ag
    rw[el] at O7;have CA:=xH (qo HA2.out T7');have CB:=qo HB2.out T7';generalize (if c1=1 then some (⟨ga,oa,none⟩:Addr) else some ⟨ga,oa+2,none⟩)=ba at CA |-
    have CA':=aB CA;have CB':=aB CB;clear CA CB el
    go_wp2_with fail
    go_roundg (a.length+(b.length+1))
    case measure=>have:=HQ.out;omega
    case rel=>exact⟨acc++[(px,pn)],a,(qx,qn)::b,rfl,by simp only[aI,aP,bf];omega,O7,CA',CB',aB (by rw[<-HS.out,HZ2.out];simp),aB (fun p hp=>Xc.out p (hp.imp (fun h=>by exact aV _ h) (fun h=>by exact h))),hb7⟩
   ·subst hc
    have HZ2:=aB (Oa (p:=(px,pn)) (q:=(px,qn)) a b rfl);have hp1:=Xc.out (px,pn) (.inl (aQ ..));have hp2:=Xc.out (px,qn) (.inr (aQ ..));simp only at hp1 hp2;have ZC:Hid (IntKind.u64.wrap (pn+qn)=pn+qn):=aB (by rw[eH];omega)
    go_wp2_with fail
    go_quiet (fail)
    generalize nq=n1 at *
    go_wp2_with fail
    go_quiet (fail)
    clear x0 x1 y0 y1
    go_upto_region 8 with fail;obtain⟨w2,hw2⟩:∃x,(wr.drewN n1).drewN nq=x:=⟨_,rfl⟩;have B2:Below wr.heap.size wr w2:=by rw[<-hw2];exact below_drewN (below_drewN (aH _ _) _) _
    have HA2:=aB (jm HA.out B2);have HB2:=aB (jm o_.out B2);have OU:=aB (HU.out.keep B2);have hb2:=hb.trans (B2.mono hz);have hzw:=hb2.size;rw[hw2];clear hw2 B2;refine dD (Touch (fun k=>w.heap.size<=k) w2) [(0,true),(1,true),(2,true),(3,true),(4,true),(5,true),(6,true),(7,true),(8,true),(9,true),(10,true),(11,true),(12,true),(13,true),(14,true),(15,false),(16,false),(17,true)] (by kernel_rfl) (by kernel_rfl) ((Touch.refl _ _).drew) ?_
    iterate 15
     refine dC ax  ax (fun R hR=>?_)
     apply aJ
     refine⟨fun w' hS'=>?_,?_⟩
     ·obtain⟨k0,k1⟩:=jS (kH HA2.out (hS'.mono (fun k h=>(HN.out k).2 (.inr h))))
      obtain⟨k2,k3⟩:=jS (kH HB2.out (hS'.mono (fun k h=>(HN.out k).2 (.inr h))))
      have hws:=ZC.out
      go_simp;exact⟨rfl,rfl⟩
     go_simp;refine hR _ ?_;clear hR R
    refine dE ax  ax (fun K hK=>?_)
    go_simp;refine hK _ _ (((Touch.refl _ _).drew).alloc _) ?_
    clear hK K;refine dE ax  ax (fun K hK=>?_)
    refine apW tq (.tmp 36) (.tmp 51) rfl ((OU.out.drew).alloc _) rfl _ [(px,pn+qn)] rfl (gz.dY (E:=fU) _ (px,pn+qn) _ rfl _ rfl _ ag) ah aj ?_
    intro v7 w7 o7 g7 _;have T7:Touch (fun k=>w.heap.size<=k) w2 w7:=(((Touch.refl _ _).drew).alloc _).grown g7 (fun k e=>.inl (OU.out.lt k e).1)
    have O7:=aB o7;obtain⟨U7,e7,rfl,_,_,_⟩:=o7.form;clear o7 g7
    go_simp;refine hK _ _ (T7) ?_
    clear hK K
    iterate 1
     refine dC ax  ax (fun R hR=>?_)
     apply aJ
     refine⟨fun w' hS'=>?_,?_⟩
     ·obtain⟨k0,k1⟩:=jS (kH HA2.out (hS'.mono (fun k h=>(HN.out k).2 (.inr h))))
      obtain⟨k2,k3⟩:=jS (kH HB2.out (hS'.mono (fun k h=>(HN.out k).2 (.inr h))))
      have hws:=ZC.out
      go_simp;exact⟨rfl,rfl⟩
     go_simp;refine hR _ ?_;clear hR R
    refine dF ?_
    have hb7:Below w.heap.size w w7:=tnew hb2 T7 (fun _ h=>h)
    have T7':=T7.mono (G:=N) (fun k h=>(HN.out k).2 (.inr h))
    have el:(acc++[(px,pn+qn)]).length=acc.length+1:=ag
    rw[el] at O7;have CA:=xH (qo HA2.out T7');have CB:=xH (qo HB2.out T7');clear el
    rcases Decidable.em (c1=1) with e1|e1<;>rcases Decidable.em (d1=1) with e2|e2
    all_goals
     first|(subst e1;rw[if_pos rfl] at CA)|rw[if_neg e1] at CA
     first|(subst e2;rw[if_pos rfl] at CB)|rw[if_neg e2] at CB
     have CA':=aB CA;have CB':=aB CB;clear CA CB
     go_wp2_with fail
     go_quiet (fail)
     go_wp2_with fail
     go_roundg (a.length+b.length)
     case measure=>have:=HQ.out;omega
     case rel=>exact⟨acc++[(px,pn+qn)],a,b,rfl,by simp only[aI,aP,bf];omega,O7.out.drewN _,by first|exact jm CA'.out (below_drewN (aH _ _) _)|(have h:=CA'.out;rw[show a.length=0 by omega] at h;exact jm h (below_drewN (aH _ _) _)),by first|exact jm CB'.out (below_drewN (aH _ _) _)|(have h:=CB'.out;rw[show b.length=0 by omega] at h;exact jm h (below_drewN (aH _ _) _)),aB (by rw[<-HS.out,HZ2.out];simp),aB (fun p hp=>Xc.out p (hp.imp (fun h=>by exact aV _ h) (fun h=>by exact aV _ h))),below_drewN hb7 _⟩
   ·have HZ2:=aB (N_ (p:=(px,pn)) (q:=(qx,qn)) a b hc)
    have hcd:¬px<qx:=ae
    go_wp2_with fail
    go_quiet (fail)
    generalize nq=n1 at *
    go_wp2_with fail
    go_quiet (fail)
    clear x0 x1 y0 y1
    go_upto_region 13 with fail;obtain⟨w2,hw2⟩:∃x,(wr.drewN n1).drewN nq=x:=⟨_,rfl⟩;have B2:Below wr.heap.size wr w2:=by rw[<-hw2];exact below_drewN (below_drewN (aH _ _) _) _
    have HA2:=aB (jm HA.out B2);have HB2:=aB (jm o_.out B2);have OU:=aB (HU.out.keep B2);have hb2:=hb.trans (B2.mono hz);have hzw:=hb2.size;rw[hw2];clear hw2 B2;refine dD (Touch (fun k=>w.heap.size<=k) w2) [(0,true),(1,true),(2,true),(3,true),(6,true),(7,true),(4,false),(5,false),(8,true),(9,true)] (by kernel_rfl) (by kernel_rfl) ((Touch.refl _ _).drew) ?_
    iterate 6
     refine dC ax  ax (fun R hR=>?_)
     apply aJ
     refine⟨fun w' hS'=>?_,?_⟩
     ·obtain⟨k0,k1⟩:=jS (kH HA2.out (hS'.mono (fun k h=>(HN.out k).2 (.inr h))))
      obtain⟨k2,k3⟩:=jS (kH HB2.out (hS'.mono (fun k h=>(HN.out k).2 (.inr h))))
      go_simp;exact⟨rfl,rfl⟩
     go_simp;refine hR _ ?_;clear hR R
    refine dE ax  ax (fun K hK=>?_)
    go_simp;refine hK _ _ (((Touch.refl _ _).drew).alloc _) ?_
    clear hK K;refine dE ax  ax (fun K hK=>?_)
    refine apW tq (.tmp 85) (.tmp 89) rfl ((OU.out.drew).alloc _) rfl _ [(qx,qn)] rfl (gz.dY (E:=fU) _ (qx,qn) _ rfl _ rfl _ ag) ah aj ?_
    intro v7 w7 o7 g7 _;have T7:Touch (fun k=>w.heap.size<=k) w2 w7:=(((Touch.refl _ _).drew).alloc _).grown g7 (fun k e=>.inl (OU.out.lt k e).1)
    have O7:=aB o7;obtain⟨U7,e7,rfl,_,_,_⟩:=o7.form;clear o7 g7
    go_simp;refine hK _ _ (T7) ?_
    clear hK K
    iterate 2
     refine dC ax  ax (fun R hR=>?_)
     apply aJ
     refine⟨fun w' hS'=>?_,?_⟩
     ·obtain⟨k0,k1⟩:=jS (kH HA2.out (hS'.mono (fun k h=>(HN.out k).2 (.inr h))))
      obtain⟨k2,k3⟩:=jS (kH HB2.out (hS'.mono (fun k h=>(HN.out k).2 (.inr h))))
      go_simp;exact⟨rfl,rfl⟩
     go_simp;refine hR _ ?_;clear hR R
    refine dF ?_
    have hb7:Below w.heap.size w w7:=tnew hb2 T7 (fun _ h=>h)
    have T7':=T7.mono (G:=N) (fun k h=>(HN.out k).2 (.inr h))
    have el:(acc++[(qx,qn)]).length=acc.length+1:=ag
    rw[el] at O7;have CA:=qo HA2.out T7';have CB:=xH (qo HB2.out T7');generalize (if d1=1 then some (⟨gb,ob,none⟩:Addr) else some ⟨gb,ob+2,none⟩)=bb at CB |-
    have CA':=aB CA;have CB':=aB CB;clear CA CB el
    go_wp2_with fail
    go_roundg ((a.length+1)+b.length)
    case measure=>have:=HQ.out;omega
    case rel=>exact⟨acc++[(qx,qn)],(px,pn)::a,b,rfl,by simp only[aI,aP,bf];omega,O7,CA',CB',aB (by rw[<-HS.out,HZ2.out];simp),aB (fun p hp=>Xc.out p (hp.imp (fun h=>by exact h) (fun h=>by exact aV _ h))),hb7⟩
  ·have HE:Hid (acc++a++b=r/\(¬0<a.length\/¬0<b.length)):=aB (by
    refine⟨?_,ae⟩
    rw[<-HS.out]
    by_cases ha:a=[]
    ·subst ha;rw[zip_nil_left];simp
    ·have hb':b=[]:=by
      cases b with
      | nil=>rfl
      | cons q b=>exact absurd ⟨List.length_pos_iff.2 ha,ag⟩ hab
     subst hb';rw[zip_nil_right];simp)
   have k1r:=(hb.cell (p:=⟨g,1,none⟩) hgl).trans k1;have k2r:=(hb.cell (p:=⟨h,1,none⟩) Xb).trans k2;have K1:=aB k1r;have K2:=aB k2r;have K0:=aB ((hb.cell (p:=⟨g,0,none⟩) hgl).trans k0);have B1r:=aB (HB.out.keep hb);have hgr:g<wr.heap.size:=ae
   have hhr:h<wr.heap.size:=ae
   have f1:=B1r.out.frozen 1;clear k0 k1 k2 k3 k1r k2r fa fb;have hcs:¬0<a.length\/(0<a.length/\¬0<b.length):=by have:=HE.out.2;omega
   rcases hcs with hcs|⟨hcs,hcs'⟩
   all_goals
    go_upto_region 14 with fail;refine fM (Below wr.heap.size wr) 11 [(0,1),(1,1),(2,1),(3,1),(4,1),(5,1),(6,1),(7,1),(8,1),(9,2),(10,1),(11,0)] (by kernel_rfl) (by kernel_rfl) ((aH _ _).drew) ?_
    iterate 9
     refine dX ax  ax (fun R hR=>?_)
     apply aJ
     refine⟨fun w' hS'=>?_,?_⟩
     ·have k1:=(hS'.cell (p:=⟨g,1,none⟩) hgr).trans K1.out
      have k2:=(hS'.cell (p:=⟨h,1,none⟩) hhr).trans K2.out
      go_simp;exact⟨rfl,rfl⟩
     go_simp;refine hR _ ?_;clear hR R
    iterate 1
     refine kG ax  ax (fun R hR=>?_)
     apply aJ
     refine⟨fun w'=>?_,?_⟩
     ·go_simp
      exact⟨rfl,rfl⟩
     go_simp;refine hR _ ?_;clear hR R
    iterate 1
     refine dX ax  ax (fun R hR=>?_)
     apply aJ
     refine⟨fun w' hS'=>?_,?_⟩
     ·have k1:=(hS'.cell (p:=⟨g,1,none⟩) hgr).trans K1.out
      have k2:=(hS'.cell (p:=⟨h,1,none⟩) hhr).trans K2.out
      go_simp;exact⟨rfl,rfl⟩
     go_simp;refine hR _ ?_;clear hR R
    refine iP ax  ax  ax (fun K hK=>?_)
    have k1:wr.drew.cell? ⟨g,1,none⟩=_:=K1.out;have k9:wr.drew.frozen? ⟨g,1,none⟩=_:=f1
    go_simp;refine hK _ _ ?_
    clear hK K;refine iQ ?_
    rw[show IntKind.u64.wrap (t+s)=t+s by rw[eH];omega]
    have T5:Touch N wr ((wr.setCell ⟨g,1,none⟩ (.int .u64 (t+s))).drew):=((Touch.refl _ _).setCell (p:=⟨g,1,none⟩) (.inl ((HN.out g).2 (.inl rfl))) _).drew;have b5:=(B1r.out.dP 1 (.int .u64 (t+s))).drew;have o5:=(HU.out.far (p:=⟨g,1,none⟩) (fun e=>by have:=(HU.out.lt g e).1;omega) (.int .u64 (t+s))).drew
    have JO:w.heap.size<=((wr.setCell ⟨g,1,none⟩ (.int .u64 (t+s))).drew).heap.size:=bG hz T5.size;have T5w:=aB ((Touch.of_below (F:=fun k=>k=g\/w.heap.size<=k) hb (aK _)).trans T5 (fun k h=>.inl ((HN.out k).1 h)))
    generalize (wr.setCell ⟨g,1,none⟩ (.int .u64 (t+s))).drew=w5 at *;have R5:=aB (kH HA.out T5);have B5:=aB b5;have O5:=aB o5;have TT5:=aB T5;clear b5 o5 T5;have hl2:(acc++a).length+b.length<=1099511627776:=by rw[aI];omega
    go_wp2_with (first
     | (at_builtin
        refine pY tq rfl (.tmp 105) (.tmp 106) rfl O5.out rfl _ a rfl R5.out ae JO ?_
        intro v6 w6 o6 g6 _;have T6:=aB (TT5.out.trans ((Touch.refl N w5).grown g6 (fun k e=>.inl ((HN.out k).2 (.inr (O5.out.lt k e).1)))) (fun _ h=>.inl h))
        have B6:=aB (jH B5.out O5.out af g6)
        have T6w:=aB (T5w.out.grown g6 (fun k e=>.inl (.inr (O5.out.lt k e).1)))
        have O6:=aB o6;have R6:=aB (kH o_.out T6.out);have Ns:w.heap.size<=w6.heap.size:=T6w.out.size;clear o6 g6)
     | (at_builtin
        refine pY tq rfl (.tmp 107) (.tmp 108) rfl O6.out rfl _ b rfl R6.out hl2 Ns ?_
        intro v7 w7 o7 g7 _;have B7:=aB (jH B6.out O6.out af g7)
        have T7:=aB (T6w.out.grown g7 (fun k e=>.inl (.inr (O6.out.lt k e).1)))
        rw[HE.out.1] at o7;have O7:=aB o7;have k7:=B7.out.cell 0;have f7:=B7.out.frozen 0;simp only[bP,List.set_cons_succ,List.set_cons_zero,aF,aC] at k7;obtain⟨A7,e7,hv7,_,_,_⟩:=o7.form;generalize r.length=n7 at hv7;subst hv7;clear o7 g7))
    go_ret;have b8:=B7.out.dP 0 (.slice A7 n7 e7);have o8:=O7.out.far (p:=⟨g,0,none⟩) (own_ne B7.out O7.out af) (.slice A7 n7 e7)
    have t8:Touch F w (w7.setCell ⟨g,0,none⟩ (.slice A7 n7 e7)):=have t:=T7.out.setCell (p:=⟨g,0,none⟩) (.inl (.inl rfl)) (.slice A7 n7 e7);⟨t.os,t.tape,t.output,t.size,fun k hk hF=>t.block k hk (fun h=>h.elim (fun e=>hF (e▸hFg)) (fun h=>by omega))⟩
    refine⟨rfl,⟨.slice A7 n7 e7,?_,o8.more (bW _),.inl hFg,fun q e=>.inr ⟨(O7.out.lt q e).1,?_⟩,jI W_.out t8.size⟩,t8⟩
    ·rw[HT.out];exact b8
    ·have:=(O7.out.lt q e).2;simpa using this
open Go.RowKit
def Iw(c m:Nat)(l:List Pr)(f:Int)(F:Ft)(w:World):Prop:=∃g G,dH w c 348 #[.int .i64 m,.pointer (some ⟨g,0,none⟩),.int .u64 f]/\oQ g l G w/\F c/\¬G c/\(∀k,G k->F k)/\∀k,F k->k<w.heap.size
theorem pg(c m:Nat)(l:List Pr)(f:Int):mQ (Iw c m l f) where
 stay:=fun⟨g,G,h1,h2,h3,h4,h5,h6⟩ hk hz=>⟨g,G,(hk c h3).trans h1,(jf g l).stay h2 (fun k e=>hk k (h5 k e)) hz,h3,h4,h5,fun k h=>aU (h6 k h) hz⟩
 more:=fun⟨g,G,h1,h2,h3,h4,h5,_⟩ h hl=>⟨g,G,h1,h2,h c h3,h4,fun k e=>h k (h5 k e),hl⟩
 low:=fun⟨_,_,_,_,_,_,_,h6⟩=>h6
def ZE(w:World)(c m:Nat)(l:List Pr)(f:Int):Prop:=∃g G,dH w c 348 #[.int .i64 m,.pointer (some ⟨g,0,none⟩),.int .u64 f]/\oQ g l G w
theorem Iw.r{c m:Nat}{l:List Pr}{f:Int}{F:Ft}{w:World}(h:Iw c m l f F w):ZE w c m l f:=by
 obtain⟨g,G,h1,h2,_⟩:=h;exact⟨g,G,h1,h2⟩
theorem ZE.keep{c m:Nat}{l:List Pr}{f:Int}{w w':World}(h:ZE w c m l f)(hb:Below w.heap.size w w'):ZE w' c m l f:=by
 obtain⟨g,G,h1,h2⟩:=h;exact⟨g,G,h1.keep hb,(jf g l).keep h2 hb⟩
theorem al9(m:Nat)(w:World)(h0:2<=m)(h1:m<=4096) :
 Calls Tryz.prog 327 #[.int .i64 m] w fun e w'=>∃c,e=.returned (.tuple #[.pointer (some ⟨c,0,none⟩),.int .i64 0])/\Iw c m [] 0 (Gr (fun _=>False) w w') w'/\Below w.heap.size w w':=by
 go_enter Tryz.func327,Tryz.ntmps327
 go_wp2_with fail
 go_ret2
 have b1:=dH.new w 456 #[.slice none 0 0,.int .u64 0];have b2:=dH.new (w.alloc (.cells #[.slice none 0 0,.int .u64 0] 456)) 348 #[.int .i64 m,.pointer (some ⟨w.heap.size,0,none⟩),.int .u64 0];rw[aO] at b2;exact⟨_,rfl,⟨w.heap.size,fun k=>k=w.heap.size,b2,⟨.slice none 0 0,b1.alloc _,dI.nil_ _ _,rfl,(fun k e=>by cases e),(fun k e=>by subst e;simp;omega)⟩,.inr ⟨by omega,ag⟩,ae,(fun k e=>.inr ⟨by omega,by subst e;simp;omega⟩),fun k h=>h.elim False.elim And.right⟩,bw⟩
theorem first_any{c m:Nat}{l:List Pr}{f:Int}(w:World)(h:ZE w c m l f)(hl:l.length<=100000) :
 Calls Tryz.prog 358 #[.pointer (some ⟨c,0,none⟩)] w fun e w'=>e=.returned (.tuple #[.int .i64 (kP l),.bool (decide (0<l.length))])/\Below w.heap.size w w':=by
 obtain⟨g,G,hB,hS⟩:=h;have C:=aB (Gn w hS hl);have k1:=hB.cell 1;simp only[aF,aC,aG] at k1;clear hB hS
 cases l with
 | nil=>
  have e0:kP []=0:=rfl;have d0:decide (0<([]:List Pr).length)=false:=rfl;rw[e0,d0]
  go_enter Tryz.func358,Tryz.ntmps358
  go_wp2_with fail;refine(C.out).mono ?_
  rintro e w1 ⟨v,rfl,o1,hb1⟩;obtain⟨A,c1,rfl,_,_,_⟩:=o1.form;clear o1
  go_wp2_with fail
  go_ret2
  exact⟨rfl,hb1⟩
 | cons p l=>
  have e0:kP (p::l)=p.1:=rfl;have d0:decide (0<(p::l).length)=true:=ag
  rw[e0,d0];clear e0 d0
  go_enter Tryz.func358,Tryz.ntmps358
  go_wp2_with fail;refine(C.out).mono ?_
  rintro e w1 ⟨v,rfl,o1,hb1⟩;obtain⟨g1,c1,rfl,_,_,_,_⟩:=o1.pos ag
  have c0:w1.cell? ⟨g1,0,none⟩=some (.int .i64 p.1):=(Oi o1 (j:=0) (by simp)).1
  clear o1;have hz:(0:Int)<((l.length:Nat):Int)+1:=ae
  have hz2:((((l.length:Nat):Int)+1) == 0)=false:=ah
  simp only[aP]
  go_wp2_with fail
  go_ret2
  exact⟨rfl,hb1⟩
end Go.Proofs.YtkiebccnpheloaaGreat.D
