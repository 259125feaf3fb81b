/- Parts of a proof. No condition. -/
import Derived.Test.YtilcnjbpmoijmaaGreatPw28
set_option maxRecDepth 100000
set_option maxHeartbeats 16000000
set_option linter.unusedVariables false
set_option linter.unusedSimpArgs false
namespace Go.Proofs.YtilcnjbpmoijmaaGreat.D
open Tryz
open Go.RowKit Go.Lib Go.Shelf Go.Maps
section
variable {x lo hi dg u m bk : Nat} {gr : Bool} {l : List Pr} {F : Ft}
theorem GZ{b:Nat}(w:World)(k3:w.cell? ⟨x,3,none⟩=some (.map (some b)))(hC:lM w b l)(ok:je lo hi dg u m gr bk l):aH 134 #[.pointer (some ⟨x,0,none⟩)] w fun e w'=>∃v,e=.returned v/\dL fZ w.heap.size w' v l/\Below w.heap.size w w':=by
 obtain⟨D,hown,hD⟩:=hC;have hbl:=hown.lt;have OK:=aI ok;have LD:=aI hD;have hlen:=ok.len;have CS:Hid (∀(v:Value) (out:List Pr) (w1:World) (base:Nat),dL fZ base w1 v out->out.Perm l->_):=aI (fun v out w1 base h hp=>XC v base out l w1 h ok.iU ok.pos hp ok.kb ae)
 clear ok hD;obtain⟨r,hr⟩:=aF (w.heap.size)
 go_enter func134,ntmps134
 go_wp2_with (at_range;refine wpList_range_own _ rfl _ 191 rfl 3 46 ap6 bd2 _ b _ D rfl hown ?_;intro w0 hrg0 hg0 hs0)
 go_frame
 rw[hr] at hrg0 hs0 |-;have hb0:Below w.heap.size w w0:=(aO _ _).grown hg0 (aS _) (fun j hj=>by cases hj)
 have hN0:dL fZ (r+1) w0 (.slice none 0 0) []:=dL.nil_ _ _
 go_loopg [3] (Maps.size D) (fun q s wr=>∃(left:Lit->Bool) (out:List Pr),wr.ranges prog 3 (plainElem (H:=Unit) prog 46) b r l.length D left q/\Hid (RgI l out left)/\Hid (dL fZ (r+1) wr s out)/\Below w.heap.size w wr/\r+1<=wr.heap.size)
 case atStart=>exact⟨_,[],hrg0,aI (aa5 LD.o),aI hN0,hb0,ae⟩
 case round=>
  obtain⟨left,out,hrg,HR,HO,hb,hz⟩:=hrel;obtain⟨A5,c5,rfl,_,_,_⟩:=HO.o.form
  go_wp2_with (at_next;refine wpList_next_ranges_ii _ rfl _ rfl 3 46 .i64 .u64 ap6 bd3 bd4 b r _ _ _ _ rfl hrg ?_ ?_)
  ·intro hc0 hl0
   have HP:=aI (bb4 HR.o hl0)
   go_wp2_with fail;refine(CS.o _ _ _ _ HO.o HP.o).mono ?_
   rintro e w2 ⟨rfl,o2,t2⟩
   go_wp2_with fail
   go_ret;refine⟨_,rfl,o2.more ae,?_⟩
   exact hb.trans (t2.below (fun k hk=>by have:=(HO.o.lt k hk).1;omega) hb.size)
  ·intro z c w1 cnt1 hwx hwc hlx hat hrg1 hlt hg1 hs1 hen
   have hin:=aI (bm4 LD.o OK.o.iU hat);have HR1:=aI (ap0 OK.o.iU HR.o hlx hin.o);have hol:=bb5 HR.o;have O1:=aI (HO.o.grown hg1 (.inr (fun e=>by have:=(HO.o.lt r e).1;omega)))
   have hb1:Below w.heap.size w w1:=hb.grown hg1 hb.size (fun j hj=>by cases hj;omega)
   have hz1:r+1<=w1.heap.size:=ae
   have hne:∀k,k<=r->(Value.slice A5 out.length c5).ownBlock≠some k:=fun k hk e=>by have:=(HO.o.lt k e).1;omega
   have hO1:=O1.o;clear hat hlx hg1 hs1
   go_wp2_with (at_builtin;refine uk zq rfl (.tmp 16) (.tmp 20) rfl (O1.o.alloc _) rfl _ [(z,c)] rfl (iM.fK (E:=fZ) _ (z,c) _ rfl _ rfl _ ag) ah aj ?_;intro v6 w6 o6 g6 _;have ZR:Hid (Below w.heap.size w w6):=aI ((hb1.alloc hb1.size _).grown g6 (by simp;have:=hb1.size;omega) (fun k hk=>by have:=(O1.o.lt k hk).1;omega));have O6:=aI o6;have R6:=aI ((hrg1.alloc _).kept g6 (fun e=>hne b ae e.symm) (fun e=>hne r (aS _) e.symm));have WM:=g6.size;clear o6 g6)
   go_roundg cnt1
   case measure=>exact hlt
   case rel=>exact⟨_,out++[(z,c)],R6.o,HR1,O6,ZR.o,by simp at WM;omega⟩
theorem OG(w:World)(h:qo x lo hi dg u m gr bk l F w)(ok:je lo hi dg u m gr bk l):aH 134 #[.pointer (some ⟨x,0,none⟩)] w fun e w'=>∃v,e=.returned v/\dL fZ w.heap.size w' v l/\Below w.heap.size w w':=by
 obtain⟨g,b,hB,hM,hC,_⟩:=h;have k3:=hB.cell 3;simp only[aK,aJ,aN] at k3;exact GZ w k3 hC ok
end
end Go.Proofs.YtilcnjbpmoijmaaGreat.D
namespace Go.Proofs.YtilcnjbpmoijmaaGreat
open Tryz
open Go.RowKit
inductive PT where
 | done:PT
 | rd (i:Nat) (k:Bool) (r:PT):PT
 | ef (i:Nat) (r:PT):PT
 | fk (i j:Nat) (r s:PT):PT
def PT.len:PT->Nat
 | .done=>0
 | .rd _ _ r=>r.len+1
 | .ef _ r=>r.len+1
 | .fk _ _ r _=>r.len+1
section
variable {P : Program} {ops : Array Oper} {md : Region.Mode} {S : World -> Prop} {Q : Exit -> Act -> World -> Prop} {t : Nat}
variable{d:Bool}{i j:Nat}{a:Act}{w:World}{r:PT}{o:Oper}
def uq(md:Region.Mode)(ops:Array Oper)(t:Nat):PT->Array Bool->Bool
 | .done,listed=>(Region.ready md ops listed).isEmpty
 | .rd i true r,listed=>(Region.ready md ops listed).contains i && Region.free md ops listed i && decide (i≠t) && (listed.getD t true == false) && Region.waitsFor md ops t i && uq md ops t r (listed.setIfInBounds i true)
 | .rd i false r,listed=>(Region.ready md ops listed).contains i && Region.free md ops listed i && decide (i≠t) && uq md ops t r (listed.setIfInBounds i true)
 | .ef i r,listed=>decide (Region.ready md ops listed=[i]) && uq md ops t r (listed.setIfInBounds i true)
 | .fk i j r s,listed=>decide (Region.ready md ops listed=[i,j]) && decide (r.len=s.len) && uq md ops t r (listed.setIfInBounds i true) && uq md ops t s (listed.setIfInBounds j true)
def fQ(P:Program)(ops:Array Oper)(Q:Exit->Act->World->Prop)(S:World->Prop)(t:Nat):Bool->PT->Act->World->Prop
 | _,.done,a,w=>Q .normal a w
 | d,.ef i r,a,w=>wpOp P ops Q i (fun a' w'=>((d || i == t)=false->S w')/\fQ P ops Q S t (d || i == t) r a' w') a w
 | d,.rd i true r,a,w=>∃o v,ops[i]?=some o/\YieldsIf P ops S o v a/\fQ P ops Q S t d r (a.put o.dst v) w
 | d,.rd i false r,a,w=>∃o v,ops[i]?=some o/\YieldsIf P ops (fun _=>True) o v a/\fQ P ops Q S t d r (a.put o.dst v) w
 | d,.fk i j r s,a,w=>wpOp P ops Q i (fun a' w'=>((d || i == t)=false->S w')/\fQ P ops Q S t (d || i == t) r a' w') a w/\wpOp P ops Q j (fun a' w'=>((d || j == t)=false->S w')/\fQ P ops Q S t (d || j == t) s a' w') a w
theorem OI{listed:Array Bool}(hin:j∈Region.ready md ops listed)(hd:listed.getD t true=d):(listed.setIfInBounds j true).getD t true=(d || j == t):=by
 have hin:=mem_ready.1 hin
 by_cases hjt:j=t
 ·subst hjt
  have hlt:j<listed.size:=by
   rcases bV j listed.size with h'|h'
   ·exact h'
   ·have:=hin.1;simp[Array.getElem?_eq_none h'] at this
  simp[hlt]
 ·rw[getD_set_ne true hjt,hd];simp[hjt]
theorem lI(hsel:Region.noSelect ops=true)(hQ:∀c a w,¬Q (.panic c) a w):∀(l:PT) (d:Bool) (listed:Array Bool) (a:Act) (w:World),uq md ops t l listed=true->listed.getD t true=d->(d=false->S w) ->
 fQ P ops Q S t d l a w->wpAnyS P md ops Q S t l.len listed a w
 | .done,d,listed,a,w,hB,_,_,h=>⟨by simpa[uq] using hB,by cases d<;>simpa[fQ] using h⟩
 | .rd i true r,d,listed,a,w,hB,hd,hS,h=>by
  simp only[uq,Bool.and_eq_true,decide_eq_true_eq,beq_iff_eq] at hB;obtain⟨⟨⟨⟨⟨h1,h2⟩,h3⟩,h4⟩,h5⟩,h6⟩:=hB;obtain⟨o,v,ho,hy,hn⟩:=h;exact wpAnyS_first h3 ho (Region.noSelect_spec hsel) (fun c a w hp=>absurd hp (hQ c _ w)) _ listed a w (Region.free_spec ho h2) (by simpa using h1) hy (fun h=>hS (by rw[<-hd];exact h))
   (.inr ⟨fun _ h=>h,h4,Region.waitsFor_spec h5⟩) (lI hsel hQ r d _ _ w h6 (by rw[getD_set_ne true h3];exact hd) hS hn)
 | .rd i false r,d,listed,a,w,hB,hd,hS,h=>by
  simp only[uq,Bool.and_eq_true,decide_eq_true_eq] at hB;obtain⟨⟨⟨h1,h2⟩,h3⟩,h6⟩:=hB;obtain⟨o,v,ho,hy,hn⟩:=h;exact wpAnyS_first h3 ho (Region.noSelect_spec hsel) (fun c a w hp=>absurd hp (hQ c _ w)) _ listed a w (Region.free_spec ho h2) (by simpa using h1) hy (fun h=>hS (by rw[<-hd];exact h))
   (.inl fun _=>trivial) (lI hsel hQ r d _ _ w h6 (by rw[getD_set_ne true h3];exact hd) hS hn)
 | .ef i r,d,listed,a,w,hB,hd,hS,h=>by
  simp only[uq,Bool.and_eq_true,decide_eq_true_eq] at hB;refine⟨fun h0=>(by rw[hB.1] at h0;cases h0),fun j hj=>?_⟩
  have hin:=hj;rw[hB.1] at hj;have hji:j=i:=by simpa using hj
  subst hji;have hd':=OI hin hd;exact wpOp_mono (fun a' w' h'=>⟨fun h0=>h'.1 (by rw[<-hd'];exact h0),lI hsel hQ r _ _ a' w' hB.2 hd' h'.1 h'.2⟩) h
 | .fk i j r s,d,listed,a,w,hB,hd,hS,h=>by
  simp only[uq,Bool.and_eq_true,decide_eq_true_eq] at hB;obtain⟨⟨⟨hr,hlen⟩,hB1⟩,hB2⟩:=hB;refine⟨fun h0=>(by rw[hr] at h0;cases h0),fun k hk=>?_⟩
  have hin:=hk;rw[hr] at hk;have hd':=OI hin hd;have hk':k=i\/k=j:=by simpa using hk
  rcases hk' with rfl|rfl
  ·exact wpOp_mono (fun a' w' h'=>⟨fun h0=>h'.1 (by rw[<-hd'];exact h0),lI hsel hQ r _ _ a' w' hB1 hd' h'.1 h'.2⟩) h.1
  ·refine wpOp_mono (fun a' w' h'=>⟨fun h0=>h'.1 (by rw[<-hd'];exact h0),?_⟩) h.2
   have:=lI hsel hQ s _ _ a' w' hB2 hd' h'.1 h'.2;rw[<-hlen] at this;exact this
theorem DU{id:Nat}(S:World->Prop)(t:Nat)(l:PT)(hm:P.follows .mixedOrders=true)
 (hB:(Region.noSelect ops && decide (l.len=ops.size) && decide (t<ops.size) && uq .any ops t l (Array.replicate ops.size false))=true)
 (hS:S w.drew) (h:fQ P ops (Calm Q) S t false l a w.drew):(Code.region id ops true).wp P Q a w:=by
 simp only[Bool.and_eq_true,decide_eq_true_eq] at hB;obtain⟨⟨⟨h1,h2⟩,h3⟩,h4⟩:=hB;have H:=lI (Q:=Calm Q) h1 (fun _ _ _ h=>h) l false _ a _ h4 (by simp[h3]) (fun _=>hS) h
 rw[h2] at H;exact Code.wp_mono Calm.imp (wp_region_any hm (xY _ _ _ _ H))
theorem tu(ho:ops[i]?=some o)(hw:Region.wanted o (yielded ops a.tmps)=true)
 (h:∀R:Act->Prop,(∀a',fQ P ops Q S t d r a' w->R a')->∃v,(∀w',S w'->uj v w' ((execOp a.eval o).run P w'))/\R (a.put o.dst v)):fQ P ops Q S t d (.rd i true r) a w:=by
 obtain⟨v,h1,h2⟩:=h _ (fun _ h=>h)
 unfold fQ;refine⟨o,v,ho,.inl ⟨hw,fun w' hS=>?_⟩,h2⟩
 have h3:=h1 w' hS;generalize (execOp a.eval o).run P w'=x at *
 cases x with
 | ok n w''=>obtain⟨rfl,rfl⟩:=h3;rfl
 | halt x w''=>exact h3.elim
theorem dZ(ho:ops[i]?=some o)(hw:Region.wanted o (yielded ops a.tmps)=true)
 (h:∀R:Act->Prop,(∀a',fQ P ops Q S t d r a' w->R a')->∃v,(∀w',uj v w' ((execOp a.eval o).run P w'))/\R (a.put o.dst v)):fQ P ops Q S t d (.rd i false r) a w:=by
 obtain⟨v,h1,h2⟩:=h _ (fun _ h=>h)
 unfold fQ;refine⟨o,v,ho,.inl ⟨hw,fun w' _=>?_⟩,h2⟩
 have h3:=h1 w';generalize (execOp a.eval o).run P w'=x at *
 cases x with
 | ok n w''=>obtain⟨rfl,rfl⟩:=h3;rfl
 | halt x w''=>exact h3.elim
theorem iI(ho:ops[i]?=some o)(hw:Region.wanted o (yielded ops a.tmps)=true)(hne:(i == t)=false)
 (h:∀K:Act->World->Prop,(∀a' w',S w'->fQ P ops Q S t false r a' w'->K a' w')->o.wp P a w K Q):fQ P ops Q S t false (.ef i r) a w:=by
 unfold fQ wpOp;simp only[ho,hw,if_true,Bool.false_or,hne];exact .inl (h _ fun _ _ h1 h2=>⟨fun _=>h1,h2⟩)
theorem ng(ho:ops[i]?=some o)(hw:Region.wanted o (yielded ops a.tmps)=true)(hne:(d || i == t)=true)
 (h:∀K:Act->World->Prop,(∀a' w',fQ P ops Q S t true r a' w'->K a' w')->o.wp P a w K Q):fQ P ops Q S t d (.ef i r) a w:=by
 unfold fQ wpOp;simp only[ho,hw,if_true,hne];exact .inl (h _ fun _ _ h2=>⟨fun h0=>(by cases h0),h2⟩)
theorem zL{s:PT}(h1:fQ P ops Q S t d (.ef i r) a w)(h2:fQ P ops Q S t d (.ef j s) a w):fQ P ops Q S t d (.fk i j r s) a w:=by
 unfold fQ at h1 h2 |-;exact⟨h1,h2⟩
theorem tH(h:Q .normal a w):fQ P ops (Calm Q) S t d .done a w:=by
 unfold fQ;exact h
end
end Go.Proofs.YtilcnjbpmoijmaaGreat
namespace Go.Proofs.YtilcnjbpmoijmaaGreat.D
open Tryz
open Go.RowKit Go.Lib
variable{v1 v2:Value}{B g:Nat}{l:List Pr}
def inE:DN Int where
 k:=1
 t:=3
 enc x:=[.int .i64 x]
 len _:=rfl
 one x u hu:=by
  simp only[bn,List.not_mem_nil,or_false] at hu;subst hu;rfl
def QE:DN Int where
 k:=1
 t:=46
 enc x:=[.int .u64 x]
 len _:=rfl
 one x u hu:=by
  simp only[bn,List.not_mem_nil,or_false] at hu;subst hu;rfl
theorem inI:(prog.info? 3).map (fun i=>(i.zero,i.size,i.bytes))=some (some (.int .i64 0),1,8):=by kernel_rfl
theorem usI:(prog.info? 46).map (fun i=>(i.zero,i.size,i.bytes))=some (some (.int .u64 0),1,8):=by kernel_rfl
theorem be7:Ty prog inE 439:=CQ inI underlying439 rfl af  af
theorem aq3:Ty prog QE 239:=CQ usI underlying239 rfl af  af
theorem j_{α β:Type}{E1:DN α}{E2:DN β}{b1 b2:Nat}{w:World}{l1:List α}{l2:List β}(h1:dL E1 b1 w v1 l1)(h2:dL E2 b2 w v2 l2)(ht:E1.t≠E2.t):v1.ownBlock=none\/v1.ownBlock≠v2.ownBlock:=by
 rcases h1.2 with h|⟨g1,c1,lU,rfl,_,e1,_⟩
 ·exact .inl (by rw[h.1];rfl)
 ·refine .inr fun e=>?_
  rcases h2.2 with h|⟨g2,c2,xh,rfl,_,e2,_⟩
  ·rw[h.1] at e;cases e
  ·cases e
   have e3:=Option.some.inj (e1.symm.trans e2);injection e3 with _ h3 _;exact ht h3
def ups:Int->List Pr->List Int
 | _,[]=>[]
 | t,p::l=>(t+p.2)::ups (t+p.2) l
theorem Lt:∀(l:List Pr) (t:Int),(ups t l).length=l.length
 | [],_=>rfl
 | p::l,t=>by rw[ups,aU,aU,Lt l]
theorem OJ:∀(l:List Pr) (t:Int) (p:Pr),ups t (l++[p])=ups t l++[t+tot l+p.2]
 | [],t,p=>by simp[ups,D.tot]
 | q::l,t,p=>by
  have e:tot (q::l)=q.2+tot l:=by simp[D.tot]
  rw[List.cons_append,ups,OJ l,ups,List.cons_append,e,show t+q.2+tot l+p.2=t+(q.2+tot l)+p.2 by omega]
theorem OM:∀(l:List Pr) (t:Int),0<l.length->(ups t l)[l.length - 1]?=some (t+tot l)
 | [p],t,_=>by simp[ups,D.tot]
 | p::q::l,t,_=>by
  have ih:=OM (q::l) (t+p.2) ag
  have e:tot (p::q::l)=p.2+tot (q::l):=by simp[D.tot]
  rw[ups,e,show t+(p.2+tot (q::l))=t+p.2+tot (q::l) by omega,<-ih]
  simp
def DV(B:Nat)(w:World)(g:Nat)(l:List Pr):Prop:=B<=g/\∃v1 v2,dK w g 441 #[v1,v2]/\dL inE B w v1 (l.map Prod.fst)/\dL QE B w v2 (ups 0 l)
theorem DV.keep{B:Nat}{w w':World}{g:Nat}{l:List Pr}(h:DV B w g l)(hb:Below w.heap.size w w'):DV B w' g l:=by
 obtain⟨h0,v1,v2,h1,h2,h3⟩:=h;exact⟨h0,v1,v2,h1.keep hb,h2.keep hb,h3.keep hb⟩
theorem Lu{w2:World}{u1 u2:Value}{p:Pr}(hg:B<=g)(hB:dK w2 g 441 #[v1,v2])(o1:dL inE B w2 u1 (l.map Prod.fst++[p.1]))(o2:dL QE B w2 u2 (ups 0 l++[tot l+p.2])) :
 DV B ((w2.setCell ⟨g,0,none⟩ u1).setCell ⟨g,1,none⟩ u2) g (l++[p]):=by
 have n1:=own_ne hB o1 af
 have n2:=own_ne hB o2 af
 refine⟨hg,u1,u2,(hB.dQ 0 u1).dQ 1 u2,?_,?_⟩
 ·rw[List.map_append];exact(o1.far n1 _).far n1 _
 ·rw[OJ,Int.zero_add];exact(o2.far n2 _).far n2 _
theorem ad1(v:Value)(l:List Pr)(w:World)(h:iM fZ w v l)(hs:gU l)(hp:gK l)(ht:tot l<=4611686018427387904)(hl:l.length<=1000000000) :
 aH 273 #[v] w fun e w'=>∃g,e=.returned (.tuple #[.pointer (some ⟨g,0,none⟩),.int .i64 0])/\DV w.heap.size w' g l/\Below w.heap.size w w':=by
 obtain⟨A,c,rfl,_,_,hf⟩:=h.form;have HF:=aI hf;have HS:Hid (∀j (h:j+1<l.length),l[j].1<l[j+1].1):=aI (fun j h=>List.pairwise_iff_getElem.1 hs j (j+1) _ h ae)
 have HP:=aI hp;clear h hf hs hp
 go_enter func273,ntmps273
 go_wp2_with fail;obtain⟨g,hg⟩:=aF (w.heap.size);have T0:Hid (DV w.heap.size (w.alloc (.cells #[.slice none 0 0,.slice none 0 0] 441)) g []):=aI ⟨by omega,_,_,by rw[<-hg];exact dK.new _ _ _,dL.nil_ _ _,dL.nil_ _ _⟩
 have hb0:Below w.heap.size w (w.alloc (.cells #[.slice none 0 0,.slice none 0 0] 441)):=bw;rw[hg] at |-;generalize w.alloc (.cells #[.slice none 0 0,.slice none 0 0] 441)=w0 at *;have HG:=aI hg;clear hg
 go_loopg [5,12] l.length (fun q s i wr=>∃j:Nat,q=l.length - j/\j<=l.length/\i=.int .i64 j/\s=.int .u64 (tot (l.take j))/\Hid (DV w.heap.size wr g (l.take j))/\Below w.heap.size w wr)
 case atStart=>exact⟨0,rfl,ae,rfl,rfl,T0,hb0⟩
 case round=>
  obtain⟨j,hq,hj,rfl,rfl,HT,hb⟩:=hrel;have HQ:=aI hq;have hz:=hb.size;clear hq
  by_cases hlt:j<l.length
  ·obtain⟨gp,off,rfl,Iy,c0,c1⟩:=jQ HF.o hlt
   have hji:(j:Int)<(l.length:Int):=ae
   have hgr:gp<wr.heap.size:=ae
   have c0:=(hb.cell (p:=⟨gp,off+j * 2,none⟩) Iy).trans c0;have c1:=(hb.cell (p:=⟨gp,off+j * 2+1,none⟩) Iy).trans c1;have hpos:=HP.o _ (bf hlt);have hts:=iC hlt;have htl:=lG HP.o j;have DW:=lG HP.o (j+1);have HPV:Hid (0<j->∃x0:Int,x0<l[j].1/\w.cell? ⟨gp,off+(j - 1) * 2,none⟩=some (.int .i64 x0)):=aI (fun h0=>by
    obtain⟨i,rfl⟩:∃i,j=i+1:=⟨j - 1,ae⟩
    obtain⟨g2,o2,e2,_,d0,_⟩:=jQ HF.o (j:=i) (by omega)
    cases e2
    exact⟨_,HS.o i hlt,by simpa using d0⟩)
   have rZ:Hid (l.take (j+1)=l.take j++[l[j]]):=aI (bg hlt);have HX:Hid (l[j]=(l[j].1,l[j].2)):=aI rfl;generalize l[j].1=x at *;generalize l[j].2=n at *;rw[HX.o] at rZ;obtain⟨t,hT⟩:=aF (tot (l.take j));rw[hT] at hts htl |-;have U5:=aI hT;clear hT HX
   go_upto_region 6 with fail;obtain⟨q0,hq0⟩:=aF (wr.heap.size);obtain⟨wp,hwp⟩:=aF (wr.alloc (.cells #[.int .i64 x,.int .u64 n] 178));have PB:Hid (dK wp q0 178 #[.int .i64 x,.int .u64 n]):=by rw[<-hwp,<-hq0];exact aI (dK.new _ _ _)
   have hba:Below wr.heap.size wr wp:=by rw[<-hwp];exact bw
   rw[hwp,hq0];clear hwp hq0;have cg8:gp<wp.heap.size:=by have:=hba.size;omega
   have EM:Hid (IntKind.u64.wrap (4611686018427387904 - t)=4611686018427387904 - t):=aI (by rw[fF];omega)
   have ES:Hid (IntKind.u64.wrap (t+n)=t+n):=aI (by rw[fF];omega)
   have hn1:(n == 0)=false:=ah
   have hn2:¬4611686018427387904 - t<n:=ae
   have Wd:Below wp.heap.size wp wp.drew:=(aO _ _).drew;have hbp:=hb.trans (hba.mono hz)
   go_cut [41,12] from 12 to 67 (fun b i wx=>b=.bool false/\i=.int .i64 j/\wx=wp.drew)
   case first=>
    rcases bQ j with h0|h0
    ·have hj0:decide (0<j)=false:=decide_eq_false ae
     clear h0;refine jh (Below wp.heap.size wp) (dV 0 25 []) (Wd) ?_
     iterate 14 refine eQ (h:=fun w' hS'=>by have em:=EM.o;have p0:=(PB.o.keep hS').cell 0;have p1:=(PB.o.keep hS').cell 1;simp only[aK,aJ,aN] at p0 p1;go_simp;exact⟨rfl,rfl⟩) ?_
     refine Ee ?_
     try go_simp
     refine Ee ?_
     try go_simp
     refine Ee ?_
     try go_simp
     refine Ee ?_
     try go_simp
     refine Ee ?_
     try go_simp
     refine Ee ?_
     try go_simp
     refine Ee ?_
     try go_simp
     refine Ee ?_
     try go_simp
     refine Ee ?_
     try go_simp
     iterate 2 refine eQ (h:=fun w' hS'=>by have em:=EM.o;have p0:=(PB.o.keep hS').cell 0;have p1:=(PB.o.keep hS').cell 1;simp only[aK,aJ,aN] at p0 p1;go_simp;exact⟨rfl,rfl⟩) ?_
     refine dJ ?_
     go_wp2_with fail
     go_meet
     exact⟨rfl,rfl,rfl⟩
    ·obtain⟨x0,hx0,d0⟩:=HPV.o h0
     obtain⟨i,rfl⟩:∃i,j=i+1:=⟨j - 1,ae⟩
     have d0:w.cell? ⟨gp,off+i * 2,none⟩=some (.int .i64 x0):=by simpa using d0
     have hx1:¬x<=x0:=ae
     have e1:((i:Int)+1) - 1=(i:Int):=ae
     have hil:(i:Int)<(l.length:Int):=ae
     have EI:Hid (IntKind.i64.wrap (i:Int)=(i:Int)):=aI ak
     have hj0:(0:Int)<(i:Int)+1:=ae
     refine jh (Below wp.heap.size wp) (dV 0 25 []) (Wd) ?_
     iterate 25 refine eQ (h:=fun w' hS'=>by have em:=EM.o;have ei:=EI.o;have p0:=(PB.o.keep hS').cell 0;have p1:=(PB.o.keep hS').cell 1;have d1:=((hbp.trans (hS'.mono hbp.size)).cell (p:=⟨gp,off+i * 2,none⟩) Iy).trans d0;simp only[aK,aJ,aN] at p0 p1;go_simp;exact⟨rfl,rfl⟩) ?_
     refine dJ ?_
     go_wp2_with fail
     go_meet
     exact⟨rfl,ag,rfl⟩
   case rest=>
    obtain⟨rfl,rfl,rfl⟩:=hcut;have p1:=(PB.o.keep Wd).cell 1;simp only[aK,aJ,aN] at p1;have es:=ES.o
    go_upto_region 9 with fail;have W2:Below wp.heap.size wp wp.drew:=Wd;have hb2:=hbp.trans (W2.mono hbp.size);obtain⟨hBg,v1,v2,B1,O1,O2⟩:=HT.o.keep (hba.trans (W2.mono hba.size));have PQ:=PB.o.keep W2;have hgn:(g:Nat)≠q0:=by
     rintro rfl;have:=B1.symm.trans PQ;simp at this
    have hlk:(l.take j).length<=1000000000:=by rw[bG];omega
    have hl1:((l.take j).map Prod.fst).length+1<=1099511627776:=by rw[dH];omega
    have hl2:(ups 0 (l.take j)).length+1<=1099511627776:=by rw[Lt];omega
    have HA:=aI (aP B1 (aP O1 (aP O2 (aP PQ (aP hb2 (aP hBg hgn))))));obtain⟨A1,c1',ev1,_,_,_⟩:=O1.form;obtain⟨A2,c2',YP,_,_,_⟩:=O2.form;obtain⟨K1,hK1⟩:∃z,(l.take j).map Prod.fst=z:=⟨_,rfl⟩;obtain⟨K2,hK2⟩:∃z,ups 0 (l.take j)=z:=⟨_,rfl⟩;rw[hK1] at hl1 ev1 HA;rw[hK2] at hl2 YP HA;have HK1:=aI hK1;have HK2:=aI hK2;obtain⟨n1,hn1'⟩:∃z,K1.length=z:=⟨_,rfl⟩;obtain⟨n2,bn1⟩:∃z,K2.length=z:=⟨_,rfl⟩;rw[hn1'] at ev1;rw[bn1] at YP;subst ev1 YP;clear hn1' bn1 hK1 hK2;clear B1 O1 O2 PQ p1 hb2 hBg hgn es;have hzd:w.heap.size<=wp.drew.heap.size:=HA.o.2.2.2.2.1.size;generalize wp.drew=wd at *;refine DU (fun w'=>dK w' g 441 #[.slice A1 n1 c1',.slice A2 n2 c2']/\dK w' q0 178 #[.int .i64 x,.int .u64 n]) 19 (.rd 0 false (.rd 1 false (.rd 2 false (.rd 3 false (.rd 4 false (.rd 5 true (.rd 6 false (.rd 7 true (.rd 10 false (.rd 11 false (.rd 12 false (.rd 13 true (.rd 14 false (.fk 8 15 (.fk 9 15 (.ef 15 (.ef 16 (.rd 17 false (.rd 18 false (.ef 19 (.rd 20 false (.rd 21 false (.ef 22 .done)))))))) (.ef 9 (.ef 16 (.rd 17 false (.rd 18 false (.ef 19 (.rd 20 false (.rd 21 false (.ef 22 .done))))))))) (.ef 8 (.ef 9 (.ef 16 (.rd 17 false (.rd 18 false (.ef 19 (.rd 20 false (.rd 21 false (.ef 22 .done))))))))))))))))))))))) (by kernel_rfl) (by kernel_rfl) ⟨HA.o.1.drew,HA.o.2.2.2.1.drew⟩ ?_
    refine dZ ax  ax (fun R hR=>?_)
    apply dh
    refine⟨fun w'=>?_,?_⟩
    ·go_simp
     exact⟨rfl,rfl⟩
    go_simp;refine hR _ ?_;clear hR R;refine dZ ax  ax (fun R hR=>?_)
    apply dh
    refine⟨fun w'=>?_,?_⟩
    ·go_simp
     exact⟨rfl,rfl⟩
    go_simp;refine hR _ ?_;clear hR R;refine dZ ax  ax (fun R hR=>?_)
    apply dh
    refine⟨fun w'=>?_,?_⟩
    ·go_simp
     exact⟨rfl,rfl⟩
    go_simp;refine hR _ ?_;clear hR R;refine dZ ax  ax (fun R hR=>?_)
    apply dh
    refine⟨fun w'=>?_,?_⟩
    ·go_simp
     exact⟨rfl,rfl⟩
    go_simp;refine hR _ ?_;clear hR R;refine dZ ax  ax (fun R hR=>?_)
    apply dh
    refine⟨fun w'=>?_,?_⟩
    ·go_simp
     exact⟨rfl,rfl⟩
    go_simp;refine hR _ ?_;clear hR R;refine tu ax  ax (fun R hR=>?_)
    apply dh
    refine⟨fun w' hS'=>?_,?_⟩
    ·have k0:=hS'.1.cell 0
     have k1:=hS'.1.cell 1;have p0:=hS'.2.cell 0;simp only[aK,aJ,aN] at k0 k1 p0
     go_simp;exact⟨rfl,rfl⟩
    go_simp;refine hR _ ?_;clear hR R;refine dZ ax  ax (fun R hR=>?_)
    apply dh
    refine⟨fun w'=>?_,?_⟩
    ·go_simp
     exact⟨rfl,rfl⟩
    go_simp;refine hR _ ?_;clear hR R;refine tu ax  ax (fun R hR=>?_)
    apply dh
    refine⟨fun w' hS'=>?_,?_⟩
    ·have k0:=hS'.1.cell 0
     have k1:=hS'.1.cell 1;have p0:=hS'.2.cell 0;simp only[aK,aJ,aN] at k0 k1 p0
     go_simp;exact⟨rfl,rfl⟩
    go_simp;refine hR _ ?_;clear hR R;refine dZ ax  ax (fun R hR=>?_)
    apply dh
    refine⟨fun w'=>?_,?_⟩
    ·go_simp
     exact⟨rfl,rfl⟩
    go_simp;refine hR _ ?_;clear hR R;refine dZ ax  ax (fun R hR=>?_)
    apply dh
    refine⟨fun w'=>?_,?_⟩
    ·go_simp
     exact⟨rfl,rfl⟩
    go_simp;refine hR _ ?_;clear hR R;refine dZ ax  ax (fun R hR=>?_)
    apply dh
    refine⟨fun w'=>?_,?_⟩
    ·go_simp
     exact⟨rfl,rfl⟩
    go_simp;refine hR _ ?_;clear hR R;refine tu ax  ax (fun R hR=>?_)
    apply dh
    refine⟨fun w' hS'=>?_,?_⟩
    ·have k0:=hS'.1.cell 0
     have k1:=hS'.1.cell 1;have p0:=hS'.2.cell 0;simp only[aK,aJ,aN] at k0 k1 p0
     go_simp;exact⟨rfl,rfl⟩
    go_simp;refine hR _ ?_;clear hR R;refine dZ ax  ax (fun R hR=>?_)
    apply dh
    refine⟨fun w'=>?_,?_⟩
    ·go_simp
     exact⟨rfl,rfl⟩
    go_simp;refine hR _ ?_;clear hR R;have D1:=HA.o.1.drew;have D2:=HA.o.2.2.2.1.drew;have E1:=HA.o.2.1.drew;have E2:=HA.o.2.2.1.drew;have hbd:Below w.heap.size w wd.drew:=HA.o.2.2.2.2.1.drew;have bn2:w.heap.size<=wd.drew.heap.size:=hzd;generalize wd.drew=we at *;refine zL ?_ ?_
    ·refine iI ax  ax  ax (fun K hK=>?_)
     go_simp;refine hK _ _ ⟨D1.alloc _,D2.alloc _⟩ ?_
     clear hK K;have XD:=dK.alloc D1 (.cells #[.int .i64 x] 3);have XF:=dK.alloc D2 (.cells #[.int .i64 x] 3);have OQ:=dL.alloc E1 (.cells #[.int .i64 x] 3);have ad2:=dL.alloc E2 (.cells #[.int .i64 x] 3);have XG:=dG hbd bn2 (.cells #[.int .i64 x] 3);have bn3:=dL.one (E:=inE) we x _ rfl _ rfl;have ad3:=XG.size;refine zL ?_ ?_
     ·refine iI ax  ax  ax (fun K hK=>?_)
      refine Rn be7 (.tmp 51) (.tmp 54) rfl OQ rfl _ [x] rfl bn3.rd hl1 ad3 ?_
      intro v7 w7 o7 g7 _;have Tm:=fH XD OQ af g7
      have Tn:=fH XF OQ af g7
      have Tq:=dL.grown ad2 g7 (j_ ad2 OQ af)
      have OT:=Below.grown XG g7 ad3 (fun k hk=>(OQ.lt k hk).1)
      obtain⟨A7,c7,ev7,_,_,_⟩:=o7.form;obtain⟨n7,hn7⟩:∃z,(K1++[x]).length=z:=⟨_,rfl⟩;rw[hn7] at ev7;subst ev7;clear hn7;refine hK _ _ ⟨Tm,Tn⟩ ?_
      clear hK K g7;have Tv:=OT.size;refine iI ax  ax  ax (fun K hK=>?_)
      go_simp;refine hK _ _ ⟨Tm.alloc _,Tn.alloc _⟩ ?_
      clear hK K;have Tz:=dK.alloc Tm (.cells #[.int .u64 (t+n)] 46);have TF:=dK.alloc Tn (.cells #[.int .u64 (t+n)] 46);have bn4:=dL.alloc o7 (.cells #[.int .u64 (t+n)] 46);have vN:=dL.alloc Tq (.cells #[.int .u64 (t+n)] 46);have OV:=dG OT Tv (.cells #[.int .u64 (t+n)] 46);have OW:=dL.one (E:=QE) w7 (t+n) _ rfl _ rfl;have OX:=OV.size;refine iI ax  ax  ax (fun K hK=>?_)
      refine Rn aq3 (.tmp 59) (.tmp 61) rfl vN rfl _ [t+n] rfl OW.rd hl2 OX ?_
      intro v8 w8 o8 g8 _;have OY:=fH Tz vN af g8
      have ad4:=fH TF vN af g8
      have ad5:=dL.grown bn4 g8 (j_ bn4 vN af)
      have ad6:=Below.grown OV g8 OX (fun k hk=>(vN.lt k hk).1)
      obtain⟨A8,c8,ev8,_,_,_⟩:=o8.form;obtain⟨n8,LC⟩:∃z,(K2++[t+n]).length=z:=⟨_,rfl⟩;rw[LC] at ev8;subst ev8;clear LC;refine hK _ _ ⟨OY,ad4⟩ ?_
      clear hK K;have HZ:=aI (aP OY (aP ad5 (aP o8 ad6)));have k0:=HZ.o.1.cell 0;have k1:=HZ.o.1.cell 1;have f0:=HZ.o.1.frozen 0;have f1:=HZ.o.1.frozen 1;simp only[aK,aJ,aN] at k0 k1;refine dZ ax  ax (fun R hR=>?_)
      apply dh
      refine⟨fun w'=>?_,?_⟩
      ·go_simp
       exact⟨rfl,rfl⟩
      go_simp;refine hR _ ?_;clear hR R;refine dZ ax  ax (fun R hR=>?_)
      apply dh
      refine⟨fun w'=>?_,?_⟩
      ·go_simp
       exact⟨rfl,rfl⟩
      go_simp;refine hR _ ?_;clear hR R;refine ng ax  ax  ax (fun K hK=>?_)
      go_simp;refine hK _ _ ?_
      clear hK K;refine dZ ax  ax (fun R hR=>?_)
      apply dh
      refine⟨fun w'=>?_,?_⟩
      ·go_simp
       exact⟨rfl,rfl⟩
      go_simp;refine hR _ ?_;clear hR R;refine dZ ax  ax (fun R hR=>?_)
      apply dh
      refine⟨fun w'=>?_,?_⟩
      ·go_simp
       exact⟨rfl,rfl⟩
      go_simp;refine hR _ ?_;clear hR R;refine ng ax  ax  ax (fun K hK=>?_)
      go_simp;refine hK _ _ ?_
      clear hK K;refine tH ?_
      go_wp2_with fail
      go_roundg (l.length - (j+1))
      case measure=>have:=HQ.o;omega
      case rel=>exact⟨j+1,rfl,ae,ai,by rw[hts],aI (by rw[rZ.o];exact Lu (p:=(x,n)) HA.o.2.2.2.2.2.1 HZ.o.1 (by rw[HK1.o];exact HZ.o.2.1) (by rw[U5.o,HK2.o];exact HZ.o.2.2.1)),(HZ.o.2.2.2.setCell (p:=⟨g,0,none⟩) (by exact HA.o.2.2.2.2.2.1) _).setCell (p:=⟨g,1,none⟩) (by exact HA.o.2.2.2.2.2.1) _⟩
     ·refine iI ax  ax  ax (fun K hK=>?_)
      go_simp;refine hK _ _ ⟨XD.alloc _,XF.alloc _⟩ ?_
      clear hK K;have Tm:=dK.alloc XD (.cells #[.int .u64 (t+n)] 46);have Tn:=dK.alloc XF (.cells #[.int .u64 (t+n)] 46);have Bz:=dL.alloc OQ (.cells #[.int .u64 (t+n)] 46);have Tq:=dL.alloc ad2 (.cells #[.int .u64 (t+n)] 46);have OT:=dG XG ad3 (.cells #[.int .u64 (t+n)] 46);have aq4:=dL.alloc bn3 (.cells #[.int .u64 (t+n)] 46);have Ju:=dL.one (E:=QE) (we.alloc (.cells #[.int .i64 x] 3)) (t+n) _ rfl _ rfl;simp only[aV] at Ju;have Tv:=OT.size;refine iI ax  ax  ax (fun K hK=>?_)
      refine Rn be7 (.tmp 51) (.tmp 54) rfl Bz rfl _ [x] rfl aq4.rd hl1 Tv ?_
      intro v7 w7 o7 g7 _;have Tz:=fH Tm Bz af g7
      have TF:=fH Tn Bz af g7
      have vN:=dL.grown Tq g7 (j_ Tq Bz af)
      have OW:=dL.grown Ju g7 (j_ Ju Bz af)
      have OV:=Below.grown OT g7 Tv (fun k hk=>(Bz.lt k hk).1)
      obtain⟨A7,c7,ev7,_,_,_⟩:=o7.form;obtain⟨n7,hn7⟩:∃z,(K1++[x]).length=z:=⟨_,rfl⟩;rw[hn7] at ev7;subst ev7;clear hn7;refine hK _ _ ⟨Tz,TF⟩ ?_
      clear hK K g7;have OX:=OV.size;refine iI ax  ax  ax (fun K hK=>?_)
      refine Rn aq3 (.tmp 59) (.tmp 61) rfl vN rfl _ [t+n] rfl OW.rd hl2 OX ?_
      intro v8 w8 o8 g8 _;have OY:=fH Tz vN af g8
      have ad4:=fH TF vN af g8
      have ad5:=dL.grown o7 g8 (j_ o7 vN af)
      have ad6:=Below.grown OV g8 OX (fun k hk=>(vN.lt k hk).1)
      obtain⟨A8,c8,ev8,_,_,_⟩:=o8.form;obtain⟨n8,LC⟩:∃z,(K2++[t+n]).length=z:=⟨_,rfl⟩;rw[LC] at ev8;subst ev8;clear LC;refine hK _ _ ⟨OY,ad4⟩ ?_
      clear hK K;have HZ:=aI (aP OY (aP ad5 (aP o8 ad6)));have k0:=HZ.o.1.cell 0;have k1:=HZ.o.1.cell 1;have f0:=HZ.o.1.frozen 0;have f1:=HZ.o.1.frozen 1;simp only[aK,aJ,aN] at k0 k1;refine dZ ax  ax (fun R hR=>?_)
      apply dh
      refine⟨fun w'=>?_,?_⟩
      ·go_simp
       exact⟨rfl,rfl⟩
      go_simp;refine hR _ ?_;clear hR R;refine dZ ax  ax (fun R hR=>?_)
      apply dh
      refine⟨fun w'=>?_,?_⟩
      ·go_simp
       exact⟨rfl,rfl⟩
      go_simp;refine hR _ ?_;clear hR R;refine ng ax  ax  ax (fun K hK=>?_)
      go_simp;refine hK _ _ ?_
      clear hK K;refine dZ ax  ax (fun R hR=>?_)
      apply dh
      refine⟨fun w'=>?_,?_⟩
      ·go_simp
       exact⟨rfl,rfl⟩
      go_simp;refine hR _ ?_;clear hR R;refine dZ ax  ax (fun R hR=>?_)
      apply dh
      refine⟨fun w'=>?_,?_⟩
      ·go_simp
       exact⟨rfl,rfl⟩
      go_simp;refine hR _ ?_;clear hR R;refine ng ax  ax  ax (fun K hK=>?_)
      go_simp;refine hK _ _ ?_
      clear hK K;refine tH ?_
      go_wp2_with fail
      go_roundg (l.length - (j+1))
      case measure=>have:=HQ.o;omega
      case rel=>exact⟨j+1,rfl,ae,ai,by rw[hts],aI (by rw[rZ.o];exact Lu (p:=(x,n)) HA.o.2.2.2.2.2.1 HZ.o.1 (by rw[HK1.o];exact HZ.o.2.1) (by rw[U5.o,HK2.o];exact HZ.o.2.2.1)),(HZ.o.2.2.2.setCell (p:=⟨g,0,none⟩) (by exact HA.o.2.2.2.2.2.1) _).setCell (p:=⟨g,1,none⟩) (by exact HA.o.2.2.2.2.2.1) _⟩
    ·refine iI ax  ax  ax (fun K hK=>?_)
     go_simp;refine hK _ _ ⟨D1.alloc _,D2.alloc _⟩ ?_
     clear hK K;have XD:=dK.alloc D1 (.cells #[.int .u64 (t+n)] 46);have XF:=dK.alloc D2 (.cells #[.int .u64 (t+n)] 46);have OQ:=dL.alloc E1 (.cells #[.int .u64 (t+n)] 46);have ad2:=dL.alloc E2 (.cells #[.int .u64 (t+n)] 46);have XG:=dG hbd bn2 (.cells #[.int .u64 (t+n)] 46);have bn5:=dL.one (E:=QE) we (t+n) _ rfl _ rfl;have ad3:=XG.size;refine iI ax  ax  ax (fun K hK=>?_)
     go_simp;refine hK _ _ ⟨XD.alloc _,XF.alloc _⟩ ?_
     clear hK K;have Tm:=dK.alloc XD (.cells #[.int .i64 x] 3);have Tn:=dK.alloc XF (.cells #[.int .i64 x] 3);have Bz:=dL.alloc OQ (.cells #[.int .i64 x] 3);have Tq:=dL.alloc ad2 (.cells #[.int .i64 x] 3);have OT:=dG XG ad3 (.cells #[.int .i64 x] 3);have Ju:=dL.alloc bn5 (.cells #[.int .i64 x] 3);have aq4:=dL.one (E:=inE) (we.alloc (.cells #[.int .u64 (t+n)] 46)) x _ rfl _ rfl;simp only[aV] at aq4;have Tv:=OT.size;refine iI ax  ax  ax (fun K hK=>?_)
     refine Rn be7 (.tmp 51) (.tmp 54) rfl Bz rfl _ [x] rfl aq4.rd hl1 Tv ?_
     intro v7 w7 o7 g7 _;have Tz:=fH Tm Bz af g7
     have TF:=fH Tn Bz af g7
     have vN:=dL.grown Tq g7 (j_ Tq Bz af)
     have OW:=dL.grown Ju g7 (j_ Ju Bz af)
     have OV:=Below.grown OT g7 Tv (fun k hk=>(Bz.lt k hk).1)
     obtain⟨A7,c7,ev7,_,_,_⟩:=o7.form;obtain⟨n7,hn7⟩:∃z,(K1++[x]).length=z:=⟨_,rfl⟩;rw[hn7] at ev7;subst ev7;clear hn7;refine hK _ _ ⟨Tz,TF⟩ ?_
     clear hK K g7;have OX:=OV.size;refine iI ax  ax  ax (fun K hK=>?_)
     refine Rn aq3 (.tmp 59) (.tmp 61) rfl vN rfl _ [t+n] rfl OW.rd hl2 OX ?_
     intro v8 w8 o8 g8 _;have OY:=fH Tz vN af g8
     have ad4:=fH TF vN af g8
     have ad5:=dL.grown o7 g8 (j_ o7 vN af)
     have ad6:=Below.grown OV g8 OX (fun k hk=>(vN.lt k hk).1)
     obtain⟨A8,c8,ev8,_,_,_⟩:=o8.form;obtain⟨n8,LC⟩:∃z,(K2++[t+n]).length=z:=⟨_,rfl⟩;rw[LC] at ev8;subst ev8;clear LC;refine hK _ _ ⟨OY,ad4⟩ ?_
     clear hK K;have HZ:=aI (aP OY (aP ad5 (aP o8 ad6)));have k0:=HZ.o.1.cell 0;have k1:=HZ.o.1.cell 1;have f0:=HZ.o.1.frozen 0;have f1:=HZ.o.1.frozen 1;simp only[aK,aJ,aN] at k0 k1;refine dZ ax  ax (fun R hR=>?_)
     apply dh
     refine⟨fun w'=>?_,?_⟩
     ·go_simp
      exact⟨rfl,rfl⟩
     go_simp;refine hR _ ?_;clear hR R;refine dZ ax  ax (fun R hR=>?_)
     apply dh
     refine⟨fun w'=>?_,?_⟩
     ·go_simp
      exact⟨rfl,rfl⟩
     go_simp;refine hR _ ?_;clear hR R;refine ng ax  ax  ax (fun K hK=>?_)
     go_simp;refine hK _ _ ?_
     clear hK K;refine dZ ax  ax (fun R hR=>?_)
     apply dh
     refine⟨fun w'=>?_,?_⟩
     ·go_simp
      exact⟨rfl,rfl⟩
     go_simp;refine hR _ ?_;clear hR R;refine dZ ax  ax (fun R hR=>?_)
     apply dh
     refine⟨fun w'=>?_,?_⟩
     ·go_simp
      exact⟨rfl,rfl⟩
     go_simp;refine hR _ ?_;clear hR R;refine ng ax  ax  ax (fun K hK=>?_)
     go_simp;refine hK _ _ ?_
     clear hK K;refine tH ?_
     go_wp2_with fail
     go_roundg (l.length - (j+1))
     case measure=>have:=HQ.o;omega
     case rel=>exact⟨j+1,rfl,ae,ai,by rw[hts],aI (by rw[rZ.o];exact Lu (p:=(x,n)) HA.o.2.2.2.2.2.1 HZ.o.1 (by rw[HK1.o];exact HZ.o.2.1) (by rw[U5.o,HK2.o];exact HZ.o.2.2.1)),(HZ.o.2.2.2.setCell (p:=⟨g,0,none⟩) (by exact HA.o.2.2.2.2.2.1) _).setCell (p:=⟨g,1,none⟩) (by exact HA.o.2.2.2.2.2.1) _⟩
  ·obtain rfl:j=l.length:=ae
   have HT9:=HT;rw[bP (aS _)] at HT9
   go_wp2_with fail
   go_ret2
   exact⟨_,rfl,HT9.o,hb⟩
theorem Dp(w:World)(h:DV B w g l):aH 276 #[.pointer (some ⟨g,0,none⟩)] w fun e w'=>e=.returned (.int .u64 (tot l))/\w=w':=by
 obtain⟨_,v1,v2,hB,_,o2⟩:=h;have k1:=hB.cell 1;simp only[aK,aJ,aN] at k1;have hlen:=Lt l 0;obtain⟨A,c,rfl,h1,h2,hf⟩:=o2.form;rw[hlen] at h1 k1;have C:Hid (aH 334 #[.pointer (some ⟨g,0,none⟩),.int .i64 l.length] w fun e w'=>e=.returned (.int .u64 (tot l))/\w=w'):=by
  refine aI ?_
  by_cases h0:l.length=0
  ·have e:l=[]:=bz h0
   subst e;clear hf
   go_enter func334,ntmps334
   go_wp2_with fail
   go_ret;exact⟨rfl,rfl⟩
  ·have hlast:=OM l 0 ae
   rw[Int.zero_add] at hlast;obtain⟨g2,off,rfl,_,hc⟩:=hf (by rw[hlen];omega)
   have hc0:=hc (l.length - 1) (by rw[hlen];omega) 0 af
   have hce:(QE.enc (ups 0 l)[l.length - 1])[0]?=some (.int .u64 (tot l)):=by
    have:(ups 0 l)[l.length - 1]=tot l:=by
     rw[a_ (by rw[hlen];omega)] at hlast
     exact Option.some.inj hlast
    rw[this];rfl
   rw[hce] at hc0;have hc1:w.cell? ⟨g2,off+(l.length - 1),none⟩=some (.int .u64 (tot l)):=by
    have e:off+(l.length - 1) * QE.k+0=off+(l.length - 1):=by show off+(l.length - 1) * 1+0=_;omega
    rw[e] at hc0;exact hc0
   obtain⟨n,hn⟩:∃n,l.length=n+1:=⟨l.length - 1,ae⟩
   rw[hn] at hc1 k1 h1 |-;simp only[Nat.add_sub_cancel] at hc1;have e1:((n:Int)+1) - 1=(n:Int):=ae
   have EN:IntKind.i64.wrap (n:Int)=(n:Int):=ak
   clear hc hc0 hce hlast hn hlen
   go_enter func334,ntmps334
   go_wp2_with fail
   go_ret;exact⟨rfl,rfl⟩
 clear hf o2 hB h1 h2
 go_enter func276,ntmps276
 go_wp2_with fail;refine(C.o).mono ?_
 rintro e w' ⟨rfl,rfl⟩
 go_wp2_with fail
 go_ret;exact⟨rfl,rfl⟩
end Go.Proofs.YtilcnjbpmoijmaaGreat.D
