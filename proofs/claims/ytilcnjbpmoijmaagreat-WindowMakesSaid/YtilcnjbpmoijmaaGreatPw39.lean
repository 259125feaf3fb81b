/- Parts of a proof. No condition. -/
import Derived.Test.YtilcnjbpmoijmaaGreatPw38
set_option maxRecDepth 100000
set_option maxHeartbeats 16000000
set_option linter.unusedVariables false
set_option linter.unusedSimpArgs false
namespace Go.Proofs.YtilcnjbpmoijmaaGreat.K
open Tryz
open Go.RowKit
theorem Yw{F G:Nat->Prop}{g h k n m led iR a b:Nat}{lv lv2:Value}{vs vs2:List Sv}{L M:LL}(w:World)(hs:xB F w g k n led lv vs L)(ht:xB G w h k m iR lv2 vs2 M)
 (hok:kS (L,led,a)) (hom:kS (M,iR,b)) (hn:n=wt L) (hm:m=wt M) (hnm:n+m<=281474976710656) (hcn:cnt L+cnt M<=900000) (h2:2<=k) (hk:k<=1000000) (hfn:iH k (lH L M)=none) :
 aH 76 #[.pointer (some ⟨g,0,none⟩),.pointer (some ⟨h,0,none⟩),.pointer none] w fun e w'=>e=.returned (.int .i64 0)/\∃F' GV vs',xB F' w' g k (n+m) (min (led+iR) 4611686018427387904) GV vs' (lH L M)/\(∀x,F' x->F x\/w.heap.size<=x)/\(∀x,F x->F' x)/\Touch F w w':=by
 have X_:=aI (BH hok hom ae hcn)
 have HT:=aI ht;have HS:=aI hs;have HFN:=aI hfn;have YR:=aI hok.iU;have bp7:led<=4611686018427387904:=hok.led;have bp8:iR<=4611686018427387904:=hom.led;have hlenL:L.length<=49:=hok.len;have bp9:M.length<=49:=hom.len;have c0:=hs.cell0;have C2:=aI hs.cell2;have c2:=hs.cell2;have C3:=aI hs.Dl;have d0:=ht.cell0;have d2:=ht.cell2;have D2:=aI ht.cell2;have D3:=aI ht.Dl;have hgw:=hs.blk.lt;have hhw:=ht.blk.lt;have hov:¬(m:Int) > 281474976710656 - (n:Int):=ae
 have hcM:cnt M<=1000000000:=ae
 clear hs ht hok hom hn hm hfn
 go_enter func76,ntmps76
 go_wp2_with fail
 go_quiet (fail)
 go_wp2_with fail
 go_quiet (fail)
 go_upto_region 7 with fail;clear c0 c2 d0 d2;have mW:=aI (fun(w':World) (hS':Below w.heap.size w w')=>(aP ((hS'.cell (p:=⟨h,2,none⟩) hhw).trans D2.o) ((hS'.cell (p:=⟨h,3,none⟩) hhw).trans D3.o)))
 refine jh (fun w'=>Below w.heap.size w w') (dV 0 1 (dV 2 8 (fJ 1 (dV 10 3 [])))) (bw) ?_
 iterate 9 refine eQ ?_
 refine fO fun K hK=>?_
 go_simp;refine(yu _ (HT.o.keep (bw)) ae hcM).mono ?_
 rintro e w1 ⟨lw,ws,rfl,hlo,hb1⟩;have HLO:=aI hlo;have HB1:Below w.heap.size w w1:=Below.trans (bw) hb1;clear hlo hb1;refine hK _ _ (HB1) ?_
 clear hK K
 iterate 3 refine eQ ?_
 refine dJ ?_
 have HL1:Hid (LM w.heap.size w1 lw ws M):=aI (by have h1:=HLO.o;simpa only[gB] using h1)
 have MQ:=aI (HS.o.keep HB1);have k2:=MQ.o.cell2;have f2:=MQ.o.blk.frozen 2
 go_upto_region 9 with fail;have hst2:=MQ.o.be1 (.int .u64 (n+m:Nat));rw[dF] at hst2;have HS2:=aI hst2;have HT2:Hid (Touch F w (w1.setCell ⟨g,2,none⟩ (.int .u64 ((n:Int)+(m:Int))))):=aI ((Touch.of_below HB1 (aS _)).setCell (.inl MQ.o.fg) _);have HA1:Hid (jO F w1 lw ws M):=aI (jO.uK HL1.o fun kk e=>HS.o.low kk e)
 have HA2:Hid (jO F (w1.setCell ⟨g,2,none⟩ (.int .u64 ((n:Int)+(m:Int)))) lw ws M):=aI (HA1.o.next (fun kk _ h1=>bM w1 ⟨g,2,none⟩ _ kk (fun e=>h1 (by rw[e];exact MQ.o.fg))) ag (fun kk e=>.inl e))
 obtain⟨w2,hw2⟩:∃x,w1.setCell ⟨g,2,none⟩ (.int .u64 ((n:Int)+(m:Int)))=x:=⟨_,rfl⟩;rw[hw2] at HS2 HT2 HA2 |-;clear hw2 hst2 k2 f2 MQ HL1 HLO HA1 HB1;have k3:w2.cell? ⟨g,3,none⟩=some (.int .u64 led):=HS2.o.Dl;have f3:=HS2.o.blk.frozen 3
 go_upto_region 10 with fail;have hst3:xB F (w2.setCell ⟨g,3,none⟩ (.int .u64 (min (led+iR) 4611686018427387904:Nat))) g k (n+m) (min (led+iR) 4611686018427387904) lv vs L:=by
  have:=HS2.o.be3 (.int .u64 (min (led+iR) 4611686018427387904:Nat));rw[<-dF] at this;exact this
 have HMI:Hid (min ((led:Int)+(iR:Int)) 4611686018427387904=((min (led+iR) 4611686018427387904:Nat):Int)):=aI ae
 rw[HMI.o];have HT3:Hid (Touch F w (w2.setCell ⟨g,3,none⟩ (.int .u64 (min (led+iR) 4611686018427387904:Nat)))):=aI (HT2.o.setCell (.inl HS2.o.fg) _);have VD:Hid (jO F (w2.setCell ⟨g,3,none⟩ (.int .u64 (min (led+iR) 4611686018427387904:Nat))) lw ws M):=aI (HA2.o.next (fun kk _ h1=>bM w2 ⟨g,3,none⟩ _ kk (fun e=>h1 (by rw[e];exact HS2.o.fg))) ag (fun kk e=>.inl e))
 have HS3:=aI hst3;obtain⟨w3,hw3⟩:∃x,w2.setCell ⟨g,3,none⟩ (.int .u64 (min (led+iR) 4611686018427387904:Nat))=x:=⟨_,rfl⟩;rw[hw3] at HS3 HT3 VD |-;clear hw3 hst3 k3 f3 HS2 HT2 HA2 HMI;have hz3:=HT3.o.size;obtain⟨A0,c0,elw,_,_,_⟩:=VD.o.now.row.form;rw[VD.o.now.len] at elw;subst elw;obtain⟨ld,hld⟩:=aF (min (led+iR) 4611686018427387904);rw[hld] at HS3 X_ |-;have bg4:=aI hld;clear hld hov
 go_wp2_with fail
 go_loopg [10,11,66] M.length (fun q _ _ i wr=>∃(j:Nat) (F1:Nat->Prop) (X7:Value) (vs1:List Sv),q=M.length - j/\j<=M.length/\i=.int .i64 (j:Int)/\Hid (bp6 F w g k (n+m) ld L M (.slice A0 M.length c0) ws j F1 wr X7 vs1))
 case atStart=>exact⟨0,F,lv,vs,ae,ae,rfl,aI ⟨HS3.o,VD.o,fun _ h=>.inl h,fun _ h=>h,HT3.o⟩⟩
 case round=>
  obtain⟨j,F1,X7,vs1,hq,hj,rfl,HA⟩:=hrel;have HQ:=aI hq;clear hq;have hsz:=HA.o.touch.size
  by_cases hjl:j<M.length
  ·obtain⟨gl,off,sA,sc,eA,hgl,hvs,c2,_⟩:=HA.o.al.now.at_ hjl
   subst eA;have bq0:(takeN M j L).length<=49:=by rw[oM];omega
   have hlj:(lvl M j).length<=900000:=by have:=iG M j;omega
   have hlN:(lvl (takeN M j L) j).length<=900000:=by have:=iG (takeN M j L) j;have h1:=wU M L j ae ;have h2:=Dv M j;omega
   have HPU:=aI (put_any j (jr (sA,(lvl M j).length,sc)) (lvl M j) wr HA.o.st (HA.o.al.one hvs) (wX YR.o j j) ae  ae  ae  ae)
   obtain⟨x,hx⟩:=aF ((lvl M j).length);rw[hx] at c2 HPU;clear hvs hx
   go_wp2_with fail;refine(HPU.o).mono ?_
   rintro e w5 ⟨rfl,F2,bg5,bg6,q1,q2,q3,q4⟩;have Q1:=aI q1;have Q2:=aI q2;have Q3:=aI q3;have Q4:=aI q4;clear q1 q2 q3 q4 HPU c2
   go_wp2_with fail
   go_roundg (M.length - (j+1))
   case measure=>have:=HQ.o;omega
   case rel=>
    refine⟨j+1,F2,bg5,bg6,rfl,ae,ai,aI ⟨Q3.o,?_,?_,?_,?_⟩⟩
    ·exact HA.o.al.next (fun kk h1 h2=>Q4.o.block kk h1 h2) Q4.o.size Q1.o
    ·intro kk hk1
     rcases Q1.o kk hk1 with h1|h1
     ·exact HA.o.sub kk h1
     ·exact .inr ae
    ·exact fun kk hk1=>Q2.o kk (HA.o.sup kk hk1)
    ·exact HA.o.touch.trans Q4.o fun i hi=>HA.o.sub i hi
  ·obtain rfl:j=M.length:=ae
   have HP:=aI (Yu (.func (.func 142) #[.pointer none] #[]) wr HA.o.st h2 hk (by have:=X_.o.len;exact bJ this af) (by have:=X_.o.cnt;exact bJ this af) HFN.o)
   go_wp2_with fail;refine(HP.o).mono ?_
   rintro e w2 ⟨rfl,hw⟩;subst hw;clear HP
   go_wp2_with fail;refine bodyPost_ret (by simp[results,Tryz.results76,go_sem, *];try rfl) rfl ?_
   rw[bg4.o];exact⟨rfl,F1,X7,vs1,HA.o.st,HA.o.sub,HA.o.sup,HA.o.touch⟩
end Go.Proofs.YtilcnjbpmoijmaaGreat.K
namespace Go.Proofs.YtilcnjbpmoijmaaGreat.D
open Tryz
open Go.RowKit Go.Lib Go.Shelf
variable{q:Value}{B:List Int}{a:Nat}{F H:Ft}{w w':World}{C P:Ft->World->Prop}{er:Int}{e:Ending}
theorem jf.stay{q:Value}{B:List Int}{a:Nat}{H:Ft}{w w':World}(h:jf q B a H w)(hk:∀k,H k->w'.heap[k]?=w.heap[k]?)(hz:w.heap.size<=w'.heap.size):jf q B a H w':=by
 rcases h with h|⟨cg,r,cv,e,h1,h2,h3,h4,h5⟩
 ·exact .inl h
 ·exact .inr ⟨cg,r,cv,e,h1.stay (hk _ h2) (hk _ h3) (fun k e=>hk k (h4 k e)) hz,h2,h3,h4,fun k h=>bF (h5 k h) hz⟩
theorem jf.low(h:jf q B a H w):∀k,H k->k<w.heap.size:=by
 rcases h with⟨_,_,_,h⟩|⟨cg,r,cv,e,h1,h2,h3,h4,h5⟩
 ·exact fun k hk=>absurd hk (h k)
 ·exact h5
theorem jf.keep(h:jf q B a H w)(hb:Below w.heap.size w w'):jf q B a H w':=h.stay (fun k hk=>hb.block k (h.low k hk)) hb.size
theorem jf.far(h:jf q B a H w)(ht:Touch F w w')(hd:∀k,H k->¬F k):jf q B a H w':=h.stay (fun k hk=>ht.block k (h.low k hk) (hd k hk)) ht.size
theorem jf.nil_(w:World):jf (.pointer none) [] 0 (fun _=>False) w:=.inl ⟨rfl,rfl,rfl,fun _ h=>h⟩
theorem JG(S:jV P)(h:P F w)(he:e=.returned (.int .i64 er))(hb:Below w.heap.size w w')(hc:C H w'):qP P C F H er w e w':=
 ⟨he,S.more (S.keep h hb) (fun _ h=>.inl h) (jU (S.low h) hb.size),hc,Touch.of_below hb (aS _)⟩
theorem VK(h:RG P F er w e w')(hc:C H w'):qP P C F H er w e w':=⟨h.1,h.2.1,hc,h.2.2.mono fun _ h=>.inl h⟩
section
variable {G H F' : Ft} {w w' : World} {p q n cg r led a o p2 iR : Nat} {cv lv cq : Value} {B : List Int} {s0 : K.KS} {vs : List K.Sv} {L M : K.LL} {G2 : Ft}
theorem as8(hp:K.Po G w p q n cg r cv B s0 F' w' lv vs (K.jo q B s0))(hn:n=K.wt s0.1)(hG:∀k,G k->k<w.heap.size)(h1:H cg)(h2:H r)(h3:∀k,cv.ownBlock=some k->H k)(h4:∀k,H k->k<w.heap.size) :
 qP (fun G w=>K.MR G w p q (K.jo q B s0).1 (K.jo q B s0).2.1) (jf (ji cg) B (K.jo q B s0).2.2) G H 0 w (.returned (.int .i64 0)) w':=by
 have ht:Touch (fun k=>G k\/H k) w w':=hp.touch.mono fun x hx=>hx.imp id fun e=>by rw[show x=r from e];exact h2
 refine⟨rfl,(Ha p q _ _).gr (w:=w) ⟨lv,vs,?_⟩ hp.sub hG hp.touch.size,.inr ⟨cg,r,cv,rfl,hp.co,h1,h2,h3,fun k h=>bF (h4 k h) hp.touch.size⟩,ht⟩
 rw[K.G_,<-hn];exact hp.st
theorem bh9(h:K.MR G w p q L led)(hf:K.Fit q L led)(h2:K.MR G2 w p2 q M iR)(hf2:K.Fit q M iR)(hc:jf cq B a H w)(hq:cq=.pointer none->K.iH q (K.lH L M)=none)(hd:∀k,H k->¬G k)(h8:8<=q)(hk:q<=4096) :
 aH 76 #[.pointer (some ⟨p,0,none⟩),.pointer (some ⟨p2,0,none⟩),cq] w (qP (fun G w=>K.MR G w p q (K.jR q B (M,iR) (L,led,a)).1 (K.jR q B (M,iR) (L,led,a)).2.1) (jf cq B (K.jR q B (M,iR) (L,led,a)).2.2) G H (K.iJ L M) w):=by
 have hG:=(Ha p q L led).low h;have h':=h;obtain⟨lv,vs,hs⟩:=h;obtain⟨lv2,vs2,ht⟩:=h2;have hcnt:=hf.cnt ae hk
 have hcnt2:=hf2.cnt ae hk
 unfold K.jR
 by_cases h6:281474976710656<K.wt L+K.wt M
 ·have e:K.iJ L M=6:=by unfold K.iJ;rw[if_pos h6]
  rw[e,if_neg af]
  refine(K.Ya _ w hs ht hf.ok.wtL hf2.ok.wtL h6).mono ?_
  rintro _ w' ⟨rfl,z,rfl⟩;have hb:Below w.heap.size w (w.drewN z):=below_drewN (aO _ _) _;exact JG (Ha p q _ _) h' rfl hb (hc.keep hb)
 ·have e:K.iJ L M=0:=by unfold K.iJ;rw[if_neg h6]
  rw[e,if_pos rfl]
  rcases hc with⟨rfl,rfl,rfl,hH⟩|⟨cg,r,cv,rfl,h1,h2,h3,h4,h5⟩
  ·have hfn:=hq rfl
   refine(K.Yw (a:=0) (b:=0) w hs ht hf.pk hf2.pk rfl rfl ae  ae  ae  ae hfn).mono ?_
   rintro _ w' ⟨rfl,F',GV,vs',q1,q2,q3,q4⟩;rw[K.qf hfn];refine⟨rfl,(Ha p q _ _).gr (w:=w) ⟨GV,vs',?_⟩ q2 hG q4.size,.inl ⟨rfl,rfl,rfl,hH⟩,q4.mono fun _ h=>.inl h⟩
   rw[K.zJ];exact q1
  ·refine(K.G9 w hs ht h1 ⟨hd _ h2,hd _ h3,fun k e=>⟨hd _ (h4 k e),h5 _ (h4 k e)⟩,h5 _ h2,h5 _ h3⟩ hf.pk (hf2.pk (a:=0)) rfl rfl ae  ae  ae  ae).mono ?_
   rintro _ w' ⟨rfl,F',GV,vs',hp,_⟩;exact as8 hp (K.zJ _ _).symm hG h2 h3 h4 h5
end
end Go.Proofs.YtilcnjbpmoijmaaGreat.D
namespace Go.Proofs.YtilcnjbpmoijmaaGreat
open Tryz
variable{l:List Mn}{d done n w:Int}
def Ub(d n:Int):Int->List Mn->Prop
 | _,[]=>True
 | _,[_]=>True
 | done,a::b::r=>(∃m,0<m/\m<=b.2/\EG d n done (a.2+m)=false)/\Ub d n (done+a.2) (b::r)
theorem Dy(d n:Int):∀(l:List Mn) (done:Int) (now:Mn),mi l->∃b r,iV d n l done now=b::r/\now.2<=b.2
 | [],_,now,_=>⟨now,[],rfl,Int.le_refl _⟩
 | m::l,done,now,ho=>by
  have hm:=(ho m (aT ..)).2.2;unfold iV
  split
  ·obtain⟨b,r,h1,h2⟩:=Dy d n l done (pg now.1 m.1 m.2 (now.2+m.2),now.2+m.2) ho.tail
   exact⟨b,r,h1,by simp only at h2;omega⟩
  ·exact⟨now,_,rfl,Int.le_refl _⟩
theorem yz(d n:Int):∀(l:List Mn) (done:Int) (now:Mn),mi l->Ub d n done (iV d n l done now)
 | [],_,_,_=>trivial
 | m::l,done,now,ho=>by
  have hm:=(ho m (aT ..)).2.2;unfold iV
  split
  ·exact yz d n l done _ ho.tail
  ·rename_i hc
   obtain⟨b,r,h1,h2⟩:=Dy d n l (done+now.2) m ho.tail;have ih:=yz d n l (done+now.2) m ho.tail;rw[h1] at ih |-;exact⟨⟨m.2,hm,h2,by simpa using hc⟩,ih⟩
theorem as9(d:Int)(h:mi l):Ub d (tot l) 0 (EH d l):=by
 unfold EH;have:=h.iU
 cases hs:iU l with
 | nil=>trivial
 | cons m s=>rw[hs] at this;exact yz d (tot l) s 0 m this.tail
theorem ah0(h:EG d n done w=false)(n0:0<n)(d0:0<=done)(w0:0<w)(hl:2 * done+w<=n):2 * done<=w * (d - 1):=by
 unfold EG at h;have h1:(2 * done+w) * (2 * n - 2 * done - w)<w * d * n:=by simpa using h
 have h2:(2 * done+w) * n<=(2 * done+w) * (2 * n - 2 * done - w):=Int.mul_le_mul_of_nonneg_left ae  ae
 have h3:(2 * done+w) * n<w * d * n:=ae
 have h4:2 * done+w<w * d:=Int.lt_of_mul_lt_mul_right h3 ae
 have h5:w * (d - 1)=w * d - w:=by rw[Int.mul_sub,Int.mul_one]
 omega
theorem Yx(h:EG d n done w=false)(n0:0<n)(_d0:0<=done)(_w0:0<w)(hl:n<=2 * done+w)(hw:2 * done+w<=2 * n):2 * (n - done)<=w * (d+1):=by
 unfold EG at h;have h1:(2 * done+w) * (2 * n - 2 * done - w)<w * d * n:=by simpa using h
 have h2:n * (2 * n - 2 * done - w)<=(2 * done+w) * (2 * n - 2 * done - w):=Int.mul_le_mul_of_nonneg_right hl ae
 have h3:(2 * n - 2 * done - w) * n<w * d * n:=by rw[Int.mul_comm] at h2;omega
 have h4:2 * n - 2 * done - w<w * d:=Int.lt_of_mul_lt_mul_right h3 ae
 have h5:w * (d+1)=w * d+w:=by rw[Int.mul_add,Int.mul_one]
 omega
theorem Ub.ay1{a b:Mn}{r:List Mn}(h:Ub d n done (a::b::r)):Ub d n (done+a.2+b.2) r:=by
 obtain⟨_,h2⟩:=h
 cases r with
 | nil=>trivial
 | cons c r=>exact h2.2
theorem PO{d n:Int}(n0:0<n)(d1:1<=d):∀(K:Nat) (P:List Mn) (done:Int),Ub d n done P->mi P->0<=done->2 * K<=P.length->2 * (done+tot (P.take (2 * K)))<=n->2 * K * done<=tot (P.take (2 * K)) * (d - 1)
 | 0,P,done,_,_,_,_,_=>by simp[tot]
 | K+1,[],_,_,_,_,h,_=>by simp only[bC] at h;omega
 | K+1,[_],_,_,_,_,h,_=>by simp only[bW] at h;omega
 | K+1,a::b::r,done,hg,ho,h0,hl,ht=>by
  have ha:=(ho a (aT ..)).2.2;have hb:=(ho b ag).2.2
  have e:2 * (K+1)=2 * K+1+1:=ae
  rw[e,List.take_succ_cons,List.take_succ_cons] at ht |-;simp only[tot] at ht |-;have hrt:=(ho.tail.tail.take (2 * K)).dN;have ih:=PO n0 d1 K r (done+a.2+b.2) hg.ay1 ho.tail.tail ae (by simp only[aU] at hl;omega) ae
  obtain⟨⟨m,m0,m1,hm⟩,_⟩:=hg;have hp:=ah0 hm n0 h0 ae  ae
  have hp2:(a.2+m) * (d - 1)<=(a.2+b.2) * (d - 1):=Int.mul_le_mul_of_nonneg_right ae  ae
  have hk:2 * (K:Int) * done<=2 * (K:Int) * (done+a.2+b.2):=Int.mul_le_mul_of_nonneg_left ae  ae
  have e1:(a.2+(b.2+tot (r.take (2 * K)))) * (d - 1)=(a.2+b.2) * (d - 1)+tot (r.take (2 * K)) * (d - 1):=by rw[<-Int.add_assoc,Int.add_mul]
  have e2:2 * ((K+1:Nat):Int) * done=2 * (K:Int) * done+2 * done:=by
   have:2 * ((K+1:Nat):Int)=2 * (K:Int)+2:=ae
   rw[this,Int.add_mul]
  rw[e1,e2];omega
theorem JH{d n:Int}(n0:0<n)(d1:1<=d):∀(K:Nat) (P:List Mn) (done:Int),Ub d n done P->mi P->n<=2 * done->done+tot P=n->2 * K<=P.length->2 * K * tot (P.drop (2 * K))<=tot (P.take (2 * K)) * (d+1)
 | 0,P,done,_,_,_,_,_=>by simp[tot]
 | K+1,[],_,_,_,_,_,h=>by simp only[bC] at h;omega
 | K+1,[_],_,_,_,_,_,h=>by simp only[bW] at h;omega
 | K+1,a::b::r,done,hg,ho,h0,hn,hl=>by
  have ha:=(ho a (aT ..)).2.2;have hb:=(ho b ag).2.2
  have e:2 * (K+1)=2 * K+1+1:=ae
  rw[e,List.take_succ_cons,List.take_succ_cons,bT,bT];simp only[tot] at hn |-;have hrt:=(ho.tail.tail.take (2 * K)).dN;have hrd:=(ho.tail.tail.drop (2 * K)).dN;have hsum:=eH (r.take (2 * K)) (r.drop (2 * K));rw[List.take_append_drop] at hsum;have ih:=JH n0 d1 K r (done+a.2+b.2) hg.ay1 ho.tail.tail ae  ae (by simp only[aU] at hl;omega)
  obtain⟨⟨m,m0,m1,hm⟩,_⟩:=hg;have hp:=Yx hm n0 ae  ae  ae  ae
  have hp2:(a.2+m) * (d+1)<=(a.2+b.2) * (d+1):=Int.mul_le_mul_of_nonneg_right ae  ae
  have e1:(a.2+(b.2+tot (r.take (2 * K)))) * (d+1)=(a.2+b.2) * (d+1)+tot (r.take (2 * K)) * (d+1):=by rw[<-Int.add_assoc,Int.add_mul]
  have e2:2 * ((K+1:Nat):Int) * tot (r.drop (2 * K))=2 * (K:Int) * tot (r.drop (2 * K))+2 * tot (r.drop (2 * K)):=by
   have:2 * ((K+1:Nat):Int)=2 * (K:Int)+2:=ae
   rw[this,Int.add_mul]
  rw[e1,e2];omega
theorem Ub.drop{d n:Int}:∀(i:Nat) (P:List Mn) (done:Int),Ub d n done P->Ub d n (done+tot (P.take i)) (P.drop i)
 | 0,P,done,h=>by simpa[tot] using h
 | i+1,[],done,_=>trivial
 | i+1,[a],done,_=>by simp[Ub]
 | i+1,a::b::r,done,h=>by
  have:=Ub.drop i (b::r) (done+a.2) h.2;rw[List.take_succ_cons,bT];simp only[tot];rw[<-Int.add_assoc];exact this
theorem Dz{d n:Int}{D:Nat}(hD:(D:Int)=d)(n0:0<n)(d1:1<=d):∀(j:Nat) (P:List Mn) (done:Int),Ub d n done P->mi P->0<=done->2 * D * j<=P.length->2 * (done+tot (P.take (2 * D * j)))<=n->2 ^ j * done<=done+tot (P.take (2 * D * j))
 | 0,P,done,_,_,_,_,_=>by simp[tot]
 | j+1,P,done,hg,ho,h0,hl,ht=>by
  have e:2 * D * (j+1)=2 * D+2 * D * j:=by rw[Nat.mul_add,Nat.mul_one];omega
  rw[e] at hl ht |-;have hsp:P.take (2 * D+2 * D * j)=P.take (2 * D)++(P.drop (2 * D)).take (2 * D * j):=by rw[List.take_add]
  rw[hsp,eH] at ht |-;have t1:=(ho.take (2 * D)).dN;have t2:=((ho.drop (2 * D)).take (2 * D * j)).dN;have h1:=PO n0 d1 D P done hg ho h0 ae  ae
  have h2:=Dz hD n0 d1 j (P.drop (2 * D)) (done+tot (P.take (2 * D))) (hg.drop (2 * D)) (ho.drop _) ae (by rw[bu];omega) ae
  have h3:done<=tot (P.take (2 * D)):=by
   rw[hD] at h1;have h4:2 * d * done<=tot (P.take (2 * D)) * (d - 1):=h1;have h5:tot (P.take (2 * D)) * (d - 1)<=tot (P.take (2 * D)) * (2 * d):=Int.mul_le_mul_of_nonneg_left ae t1
   have h6:done * (2 * d)<=tot (P.take (2 * D)) * (2 * d):=by rw[Int.mul_comm done];omega
   exact Int.le_of_mul_le_mul_right h6 ae
  have h7:(2:Int) ^ j * (2 * done)<=2 ^ j * (done+tot (P.take (2 * D))):=Int.mul_le_mul_of_nonneg_left ae (Int.le_of_lt (Int.pow_pos ae))
  have h8:(2:Int) ^ (j+1) * done=2 ^ j * (2 * done):=by rw[Int.pow_succ,bU]
  rw[h8];omega
theorem zN{d n:Int}{D:Nat}(hD:(D:Int)=d+1)(n0:0<n)(d1:1<=d):∀(j:Nat) (P:List Mn) (done:Int),Ub d n done P->mi P->n<=2 * done->done+tot P=n->2 * D * j<=P.length->2 ^ j * tot (P.drop (2 * D * j))<=tot P
 | 0,P,done,_,_,_,_,_=>by simp
 | j+1,P,done,hg,ho,h0,hn,hl=>by
  have e:2 * D * (j+1)=2 * D+2 * D * j:=by rw[Nat.mul_add,Nat.mul_one];omega
  rw[e] at hl |-;have hsum:=eH (P.take (2 * D)) (P.drop (2 * D));rw[List.take_append_drop] at hsum;have t1:=(ho.take (2 * D)).dN;have t2:=(ho.drop (2 * D)).dN;have h1:=JH n0 d1 D P done hg ho h0 hn ae
  have h2:=zN hD n0 d1 j (P.drop (2 * D)) (done+tot (P.take (2 * D))) (hg.drop (2 * D)) (ho.drop _) ae  ae (by rw[bu];omega)
  rw[List.drop_drop] at h2;have h3:tot (P.drop (2 * D))<=tot (P.take (2 * D)):=by
   rw[hD] at h1;have h6:tot (P.drop (2 * D)) * (2 * (d+1))<=tot (P.take (2 * D)) * (2 * (d+1)):=by
    have h5:tot (P.take (2 * D)) * (d+1)<=tot (P.take (2 * D)) * (2 * (d+1)):=Int.mul_le_mul_of_nonneg_left ae t1
    rw[Int.mul_comm (tot (P.drop (2 * D)))];omega
   exact Int.le_of_mul_le_mul_right h6 ae
  have h8:(2:Int) ^ (j+1) * tot (P.drop (2 * D+2 * D * j))=2 * (2 ^ j * tot (P.drop (2 * D+2 * D * j))):=by rw[Int.pow_succ,Int.mul_comm (2 ^ j) 2,bU]
  rw[h8];omega
theorem DC:∀{l:List Mn},mi l->(l.length:Int)<=tot l
 | [],_=>by simp[tot]
 | m::l,h=>by
  have:=DC h.tail;have:=(h m (aT ..)).2.2;simp only[tot,aU];omega
theorem VL{lo hi:Int}(h:mi l)(hb:∀m∈l,lo<=m.1/\m.1<=hi)(d1:1<=d)(ht:tot l<=281474976710656):((EH d l).length:Int)<=194 * d+99:=by
 have hg:=as9 d h;have ho:=(EJ d lo hi h hb).1;have hn:=Eb d l
 cases hP:EH d l with
 | nil=>simp only[bC];omega
 | cons a r=>
  rw[hP] at hg ho hn;have ha:=(ho a (aT ..)).2.2;have hr:=ho.tail.dN;simp only[tot] at hn;have hg1:=hg.drop 1;simp only[List.take_succ_cons,List.take_zero,bT,cO,tot] at hg1;generalize tot l=n at *;obtain⟨D,hD⟩:∃D:Nat,(D:Int)=d:=⟨d.toNat,ae⟩
  have n0:0<n:=ae
  rw[show(0:Int)+(a.2+0)=a.2 by omega] at hg1
  simp only[aU]
  by_cases hX:r.length<2 * D * 48
  ·have:((2 * D * 48:Nat):Int)=96 * d:=by rw[<-hD];omega
   omega
  ·have hl:=Dz hD n0 d1 48 r a.2 hg1 ho.tail ae  ae
   have hnot:¬2 * (a.2+tot (r.take (2 * D * 48)))<=n:=fun h1=>by
    have:=hl h1;have e:(2:Int) ^ 48=281474976710656:=af
    rw[e] at this;omega
   have hs:=eH (r.take (2 * D * 48)) (r.drop (2 * D * 48));rw[List.take_append_drop] at hs;have hg2:=hg1.drop (2 * D * 48);have hor:=ho.tail.drop (2 * D * 48);have hlen:(r.drop (2 * D * 48)).length=r.length - 2 * D * 48:=bu ..;have hx:((2 * D * 48:Nat):Int)=96 * d:=by rw[<-hD];omega
   generalize r.drop (2 * D * 48)=Q at *;generalize tot (r.take (2 * D * 48))=tk at *
   by_cases hY:Q.length<=2 * (D+1) * 49
   ·have hy:((2 * (D+1) * 49:Nat):Int)=98 * d+98:=by rw[<-hD];omega
    omega
   ·have hq:=zN (D:=D+1) ae n0 d1 49 Q (a.2+tk) hg2 hor ae  ae  ae
    have hne:=DC (hor.drop (2 * (D+1) * 49));rw[bu] at hne;have e:(2:Int) ^ 49=562949953421312:=af
    rw[e] at hq;omega
open Tryz
section
open Go.RowKit Go.Lib
theorem G9{g gt:Nat}{F Ft:Nat->Prop}{d:Int}{s t:St}{k kt:Nat}(w:World)(h:Ie w g F d s)(ht:Ie w gt Ft d t)(hx:(gt=g/\Ft=F/\t=s)\/(∀k,F k->¬Ft k))(ft:Fit d s k)(ft':Fit d t kt)(hk:k+kt<=100000000)
 (hcap:tot (t.L++t.W)<=281474976710656 - tot (s.L++s.W)) (hne:0<tot (t.L++t.W)) :
 aH 75 #[.pointer (some ⟨g,0,none⟩),.pointer (some ⟨gt,0,none⟩)] w fun e w'=>e=.returned (.int .i64 0)/\∃F':Nat->Prop,(∀k,F' k->F k\/w.heap.size<=k)/\Ie w' g F' d (s.take d t)/\Touch F w w':=by
 have H:=aI h;have HT:=aI ht;have s0:=ft.ok.qR;have s1:=ft.t;have d0:=ft.d0;have d1:=ft.d1;have hls:=ft.ok.len;have hlt:=ft'.ok.len;have HB1:=aI (aP (aP ft.ok.Y6 ft.ok.lo1) (aP ft.ok.hi0 ft.ok.hi1));have HB2:=aI (aP (aP ft'.ok.Y6 ft'.ok.lo1) (aP ft'.ok.hi0 ft'.ok.hi1));have xq:Hid (mi (s.L++(s.W++(t.L++t.W)))):=by show mi _;rw[<-aX];exact ft.ok.ok.append ft'.ok.ok
 have U5:Hid (tot (s.L++(s.W++(t.L++t.W)))=tot (s.L++s.W)+tot (t.L++t.W)):=by show _=_;rw[<-aX,eH]
 have HST:Hid (s.take d t=⟨EH d (s.L++(s.W++(t.L++t.W))),[],if tot (s.L++s.W)=0 then t.lo else min s.lo t.lo,if tot (s.L++s.W)=0 then t.hi else max s.hi t.hi⟩):=by show s.take d t=_;unfold St.take;rw[if_neg ae]
 have HX:=aI hx;obtain⟨slv,swv,sb,_⟩:=id h;obtain⟨tlv,twv,tb,_⟩:=id ht;have hg:=sb.lt;have hgt:=tb.lt;have x0:=sb.cell 0;have x5:=sb.cell 5;have y0:=tb.cell 0;have y3:=tb.cell 3;have y4:=tb.cell 4;have y5:=tb.cell 5;simp only[aK,aN,aJ] at x0 x5 y0 y3 y4 y5;have Y3:=aI y3;have Y4:=aI y4;have hdd:(d != d)=false:=ag
 have htz:(tot (t.L++t.W) == 0)=false:=beq_eq_false_iff_ne.2 ae
 have hcb:decide (281474976710656 - tot (s.L++s.W)<tot (t.L++t.W))=false:=decide_eq_false ae
 have EW:=aI (IntWalk.u64_in (281474976710656 - tot (s.L++s.W)) ae)
 clear h ht hx sb tb y3 y4 ft ft'
 go_enter func75,ntmps75
 go_wp2_with fail
 go_quiet (fail)
 go_wp2_with fail;have ew:=EW.o
 go_quiet (fail)
 clear ew
 go_upto_region 10 with fail;have mW:=aI (fun(w':World) (hS':Below w.heap.size w w')=>(aP ((hS'.cell (p:=⟨gt,3,none⟩) hgt).trans Y3.o) ((hS'.cell (p:=⟨gt,4,none⟩) hgt).trans Y4.o)))
 refine qm (fun w'=>Below w.heap.size w w') 9 (dV 0 9 []) ((below_drewN (aO _ _) _).drew) ?_
 iterate 9 refine mr ?_
 refine d_ ?_
 simp only[bT,cO]
 go_wp2_with fail;refine(Zq t.lo t.hi _ (Dg.keep H.o (below_drewN (aO _ _) _).drew) HB1.o.1 HB1.o.2 HB2.o.1 HB2.o.2 ⟨s0,ae⟩).mono ?_
 rintro e w1 ⟨rfl,X1,T1⟩;have T1':Hid (Touch (fun k=>k=g) w w1):=aI ((Touch.of_below (F:=fun k=>k=g) (below_drewN (aO w.heap.size w) _).drew (aS _)).trans T1 (fun i hi=>.inl hi))
 have TD1:Hid (∃lo2 hi2:Int,Dg w1 gt Ft d t.L t.W lo2 hi2 (tot (t.L++t.W))):=by
  rcases HX.o with⟨rfl,rfl,rfl⟩|hd
  ·exact⟨_,_,X1⟩
  ·exact⟨t.lo,t.hi,Dg.stay HT.o (fun k hk=>T1'.o.block k (Dg.low HT.o k hk) (fun e=>hd g (Dg.mem H.o) (e▸hk))) T1'.o.size⟩
 have HX1:=aI X1;have hz1:=T1'.o.size;clear X1 T1 x0 x5 y0 y5 hcb hdd htz
 go_wp2_with fail;refine dR ?_
 obtain⟨lo2,hi2,tlv,twv,tb,tol,tow,tF⟩:=TD1.o;obtain⟨A,ca,rfl,na,ma,fa⟩:=tol.form;obtain⟨B,cb,rfl,nb,mb,fb⟩:=tow.form;have hgt1:=tb.lt;have t1:=tb.cell 1;have t2:=tb.cell 2;have t5:=tb.cell 5;simp only[aK,aN,aJ] at t1 t2 t5;have Q1:=aI t1;have Q2:=aI t2;have Q5:=aI t5;have TL:=aI tol.rd;have TW:=aI tow.rd;have cj5:g<w1.heap.size:=Dg.lt HX1.o;clear tb tol tow tF fa fb t1 t2 t5 TD1
 go_wp2_with fail;have mW:=aI (fun(w':World) (hS':Below w1.heap.size w1 w')=>(aP ((hS'.cell (p:=⟨gt,1,none⟩) hgt1).trans Q1.o) ((hS'.cell (p:=⟨gt,2,none⟩) hgt1).trans Q2.o)))
 refine jh (fun w'=>Below w1.heap.size w1 w') (dV 0 8 (fJ 8 (fJ 9 (dV 10 1 [])))) ((aO _ _).drew) ?_
 iterate 8 refine eQ ?_
 refine fO fun K hK=>?_
 go_simp;refine hK _ _ (((aO _ _).drew).alloc aj _) ?_
 clear hK K;refine fO fun K hK=>?_
 go_simp;have hrow:Ce (w1.drew.alloc (.cells #[.slice A t.L.length ca,.slice B t.W.length cb] 111)) w1.heap.size [t.L,t.W]:=Kr (TL.o.keep (((aO _ _).drew).alloc aj _)) (TW.o.keep (((aO _ _).drew).alloc aj _))
 refine(Fq w1.heap.size [t.L,t.W] _ aj hrow ag ah).mono ?_
 rintro e w3 ⟨v3,rfl,o3,hb3⟩;have hbw3:Below w1.heap.size w1 w3:=(((aO _ _).drew).alloc aj _).trans (hb3.mono aj)
 have hz3:=hbw3.size;rw[show([t.L,t.W]:List (List Mn)).flatten=t.L++t.W by simp] at o3
 have O3:=aI o3;clear o3;refine hK _ _ (hbw3) ?_
 clear hK K;refine eQ ?_
 refine dJ ?_
 obtain⟨A9,c9,rfl,n9,m9,f9⟩:=O3.o.form;clear f9;have X3:=aI (Dg.keep HX1.o hbw3);have r5:=(hbw3.cell (p:=⟨gt,5,none⟩) hgt1).trans Q5.o;obtain⟨lv3,wv3,b3,l3,x3,hF3⟩:=X3.o;obtain⟨B3,cb3,rfl,nb3,mb3,fb3⟩:=x3.form;have z5:=b3.cell 5;have u5:=b3.frozen 5;simp only[aK,aN,aJ] at z5;have NL1:=b3.Aw l3 af
 have NW1:=b3.Aw x3 af
 have BB3:=aI b3;have L3:=aI l3;have W3:=aI x3;have HF:=aI hF3;have EW2:=aI (IntWalk.u64_in (tot (s.L++s.W)+tot (t.L++t.W)) ae)
 clear b3 l3 x3 hF3 fb3
 go_wp2_with fail;have mW:=aI (fun(w':World) (hS':Below w3.heap.size w3 w')=>(aP ((hS'.cell (p:=⟨g,5,none⟩) (by show g<_;omega)).trans z5) (aP ((hS'.cell (p:=⟨gt,5,none⟩) (by show gt<_;omega)).trans r5) (EW2.o))))
 refine qm (fun w'=>Below w3.heap.size w3 w') 11 (dV 0 11 []) ((aO _ _).drew) ?_
 iterate 11 refine mr ?_
 refine d_ ?_
 simp only[bT,cO]
 go_wp2_with fail;refine dR ?_
 have O3':Hid (fA (w1.drew.alloc (.cells #[.slice A t.L.length ca,.slice B t.W.length cb] 111)).heap.size w3 (.slice A9 (t.L.length+t.W.length) c9) (t.L++t.W)):=by have:=O3.o;rw[aQ] at this;exact this
 go_upto_region 13 with fail;have T3:Hid (Touch (fun k=>k=g) w (w3.setCell ⟨g,5,none⟩ (.int .u64 (tot (s.L++s.W)+tot (t.L++t.W)))).drew):=aI ((touch_of (hbw3) T1'.o).setCell (p:=⟨g,5,none⟩) (.inl rfl) (.int .u64 (tot (s.L++s.W)+tot (t.L++t.W)))).drew
 have U8:(w3.setCell ⟨g,5,none⟩ (.int .u64 (tot (s.L++s.W)+tot (t.L++t.W)))).drew.heap.size=w3.heap.size:=by show(w3.setCell _ _).heap.size=_;exact dA ..
 have oC:w3.heap.size<=(w3.setCell ⟨g,5,none⟩ (.int .u64 (tot (s.L++s.W)+tot (t.L++t.W)))).drew.heap.size:=by rw[U8];exact aS _
 have B4:Hid (dK (w3.setCell ⟨g,5,none⟩ (.int .u64 (tot (s.L++s.W)+tot (t.L++t.W)))).drew g _ _):=aI (BB3.o.dQ 5 (.int .u64 (tot (s.L++s.W)+tot (t.L++t.W))));have L4:Hid (fA 0 (w3.setCell ⟨g,5,none⟩ (.int .u64 (tot (s.L++s.W)+tot (t.L++t.W)))).drew lv3 s.L):=aI (L3.o.far (p:=⟨g,5,none⟩) NL1 _);have X4:Hid (fA 0 (w3.setCell ⟨g,5,none⟩ (.int .u64 (tot (s.L++s.W)+tot (t.L++t.W)))).drew (.slice B3 s.W.length cb3) s.W):=aI (W3.o.far (p:=⟨g,5,none⟩) NW1 _);have M4:Hid (fA w1.heap.size (w3.setCell ⟨g,5,none⟩ (.int .u64 (tot (s.L++s.W)+tot (t.L++t.W)))).drew (.slice A9 (t.L.length+t.W.length) c9) (t.L++t.W)):=aI ((O3'.o.more aj).far (p:=⟨g,5,none⟩) (fun e=>by have h9:=(O3'.o.lt _ e).1;simp only[aV,World.size_drew] at h9;have h8:w1.heap.size<=g:=(by show _<=(⟨g,5,none⟩:Addr).block;omega);omega) _)
 have HF4:Hid (∀k1,F k1->k1<(w3.setCell ⟨g,5,none⟩ (.int .u64 (tot (s.L++s.W)+tot (t.L++t.W)))).drew.heap.size):=fun k1 hf=>(by rw[U8];exact HF.o.2.2.2.2 k1 hf)
 have HZ9:=aI U8;clear U8 z5 u5 r5;generalize (w3.setCell ⟨g,5,none⟩ (.int .u64 (tot (s.L++s.W)+tot (t.L++t.W)))).drew=w4 at *;have q2:=B4.o.cell 2;have r2:=B4.o.frozen 2;simp only[aK,aN,aJ,bY,List.set_cons_succ,List.set_cons_zero] at q2;have ay2:(t.L++t.W).length=t.L.length+t.W.length:=aQ ..;have HL9:=aI ay2;clear ay2;have br6:s.W.length+(t.L++t.W).length<=1099511627776:=by rw[HL9.o];omega
 go_upto_region 14 with(first|(at_builtin;go_must (refine iZ rfl (.tmp 74) (.tmp 75) rfl 0 (.slice B3 s.W.length cb3) s.W rfl X4.o (.slice A9 (t.L.length+t.W.length) c9) (t.L++t.W) rfl M4.o.rd br6 (df _) ?_);intro v5 w5 o5 g5 a5;have b5:=(g5.block g B4.o.lt (fun e=>NW1 e.symm)).trans B4.o;obtain⟨A5,c5,rfl,n5,m5,f5⟩:=o5.form;have s2:=dK.cell b5 2;have u2:=dK.frozen b5 2;simp only[aK,aN,aJ,bY,List.set_cons_succ,List.set_cons_zero] at s2;have B5:Hid (dK w5 g _ _):=aI b5;have O5:=aI o5;clear b5 o5 f5 q2 r2;go_simp))
 have KF:Hid (∃(F':Nat->Prop),(∀k,F' k->F k\/w.heap.size<=k)/\Dg (w5.setCell ⟨g,2,none⟩ (.slice A5 (s.W.length+(t.L.length+t.W.length)) c5)) g F' d s.L (s.W++(t.L++t.W)) (if tot (s.L++s.W)=0 then t.lo else min s.lo t.lo) (if tot (s.L++s.W)=0 then t.hi else max s.hi t.hi) (tot (s.L++(s.W++(t.L++t.W))))/\Touch F w (w5.setCell ⟨g,2,none⟩ (.slice A5 (s.W.length+(t.L.length+t.W.length)) c5))):=by
  obtain⟨p1,p2,p3,p4,p5⟩:=HF.o;have hlen3:(s.W++(t.L++t.W)).length=s.W.length+(t.L.length+t.W.length):=ag
  have O5':=O5.o;rw[hlen3] at O5' a5;have T5:Touch F w w5:=(T3.o.mono (fun i (hi:i=g)=>hi▸p1)).grown g5 (fun k1 hk1=>.inl (p3 k1 hk1))
  have T6:=T5.setCell (p:=⟨g,2,none⟩) (.inl p1) (.slice A5 (s.W.length+(t.L.length+t.W.length)) c5);have cc0:∀k1,(Value.slice A5 (s.W.length+(t.L.length+t.W.length)) c5).ownBlock=some k1->F k1\/k1=w4.heap.size:=fun k1 e=>by
   rcases a5 with e3|e3
   ·exact .inl (p3 k1 (by rw[<-e3];exact e))
   ·rw[e3] at e;simp only[bH] at e;exact .inr e.symm
  have sz3:w4.heap.size<=w5.heap.size:=g5.size;have hg4:=B4.o.lt;have ng3:(Value.slice A5 (s.W.length+(t.L.length+t.W.length)) c5).ownBlock≠some g:=fun e=>by
   rcases a5 with e3|e3
   ·exact NW1 (by rw[<-e3];exact e)
   ·rw[e3] at e;simp only[bH] at e;omega
  have L5:fA 0 w5 lv3 s.L:=L4.o.stay fun k1 e=>g5.block k1 (HF4.o k1 (p2 k1 e)) (fun e2=>p4 k1 e2.symm e)
  have B5':=B5.o;rw[<-U5.o] at B5';refine⟨fun k1=>F k1\/(Value.slice A5 (s.W.length+(t.L.length+t.W.length)) c5).ownBlock=some k1,?_,⟨lv3,_,B5'.dQ 2 _,L5.far (p:=⟨g,2,none⟩) (fun e=>B5.o.Aw L5 af e) _,O5'.far (p:=⟨g,2,none⟩) ng3 (.slice A5 (s.W.length+(t.L.length+t.W.length)) c5),.inl p1,fun k1 e=>.inl (p2 k1 e),fun k1 e=>.inr e,?_,?_⟩,T6⟩
  ·rintro k1 (hf|e)
   ·exact .inl hf
   ·rcases cc0 k1 e with hf|hf
    ·exact .inl hf
    ·exact .inr (by have:=T3.o.size;omega)
  ·intro k1 e e2
   rcases a5 with e3|e3
   ·exact p4 k1 (by rw[<-e3];exact e) e2
   ·rw[e3] at e;simp only[bH] at e
    have:=HF4.o k1 (p2 k1 e2);omega
  ·intro k1 hk1
   rw[dA]
   rcases hk1 with hf|e
   ·have:=HF4.o k1 hf;omega
   ·exact(O5'.lt k1 e).2
 clear B5 O5 s2 u2 g5 a5;generalize w5.setCell ⟨g,2,none⟩ (.slice A5 (s.W.length+(t.L.length+t.W.length)) c5)=w6 at *;obtain⟨F1,f1,f2,f3⟩:=KF.o;have ay3:s.L.length+(s.W++(t.L++t.W)).length<=100000000:=by simp only[aQ];omega
 have ht6:tot (s.L++(s.W++(t.L++t.W)))<=281474976710656:=by rw[U5.o];omega
 have br7:s.L++(s.W++(t.L++t.W))≠[]:=fun e=>by have:=U5.o;rw[e] at this;simp only[tot] at this;omega
 have PC:=aI (Wy g F1 d _ _ s.L (s.W++(t.L++t.W)) w6 f2 xq.o br7 ay3 ht6 ae d1)
 have T6:=aI f3;have F6:=aI f1;clear f1 f2 f3 ay3 ht6 br7 KF
 go_wp2_with fail;refine(PC.o).mono ?_
 rintro e w7 ⟨rfl,F2,g1,g2,g3⟩;have G1:=aI g1;have G2:=aI g2;have G3:=aI g3;have hs6:=T6.o.size;clear g1 g2 g3
 go_wp2_with fail;refine bodyPost_ret (by simp[results,Tryz.results75,go_sem, *];try rfl) rfl ?_
 refine⟨rfl,F2,?_,?_,T6.o.trans G3.o (fun i hi=>F6.o i hi)⟩
 ·intro k1 h1
  rcases G1.o k1 h1 with h2|h2
  ·exact F6.o k1 h2
  ·exact .inr ae
 ·rw[HST.o]
  unfold Ie;simp only[List.append_nil,Eb];exact G2.o
end
section
open Go.RowKit Go.Lib
def iJ(s t:St):Int:=if 281474976710656 - tot (s.L++s.W)<tot (t.L++t.W) then 6 else 0
theorem at1{g gt:Nat}{F Ft:Nat->Prop}{d:Int}{s t:St}{k kt:Nat}(w:World)(h:Ie w g F d s)(ht:Ie w gt Ft d t)(ft:Fit d s k)(cc1:Fit d t kt)
 (hc:281474976710656 - tot (s.L++s.W)<tot (t.L++t.W)\/tot (t.L++t.W)=0) :
 aH 75 #[.pointer (some ⟨g,0,none⟩),.pointer (some ⟨gt,0,none⟩)] w (aG w (.int .i64 (iJ s t))):=by
 obtain⟨slv,swv,sb,_⟩:=h;obtain⟨tlv,twv,tb,_⟩:=ht;have x0:=sb.cell 0;have x5:=sb.cell 5;have y0:=tb.cell 0;have y5:=tb.cell 5;simp only[aK,aJ,aN] at x0 y0 x5 y5;have hdd:(d != d)=false:=ag
 have s0:=ft.ok.qR;have s1:=ft.t;have EW:=aI (IntWalk.u64_in (281474976710656 - tot (s.L++s.W)) ae)
 clear sb tb ft cc1
 by_cases h6:281474976710656 - tot (s.L++s.W)<tot (t.L++t.W)
 ·have hE:Hid (iJ s t=6):=if_pos h6
  have hcb:decide (281474976710656 - tot (s.L++s.W)<tot (t.L++t.W))=true:=decide_eq_true h6;clear hc
  go_enter func75,ntmps75
  go_wp2_with fail
  go_quiet (fail)
  go_wp2_with fail;have ew:=EW.o
  go_quiet (fail)
  clear ew
  go_wp2_with fail
  go_ret;exact⟨kK hE.o.symm,bw⟩
 ·have hE:Hid (iJ s t=0):=if_neg h6
  have h0:tot (t.L++t.W)=0:=ae
  have hcb:decide (281474976710656 - tot (s.L++s.W)<0)=false:=decide_eq_false ae
  rw[h0] at y5;clear hc h0 h6
  go_enter func75,ntmps75
  go_wp2_with fail
  go_quiet (fail)
  go_wp2_with fail;have ew:=EW.o
  go_quiet (fail)
  clear ew
  go_wp2_with fail
  go_ret;exact⟨kK hE.o.symm,bw⟩
end
open Tryz
open Go.RowKit Go.Lib
theorem Ie.far{w w':World}{g:Nat}{F1 F2:Nat->Prop}{d:Int}{s:St}(h:Ie w g F1 d s)(ht:Touch F2 w w')(ha:∀k,F1 k->¬F2 k):Ie w' g F1 d s:=
 Dg.stay h (fun k hk=>ht.block k (Dg.low h k hk) (fun h1=>ha k hk h1)) ht.size
open Tryz
open Go.RowKit Go.Lib
open Tryz
open Go.RowKit Go.Lib
open Tryz
open Go.RowKit Go.Lib
open Tryz
open Go.RowKit Go.Lib
end Go.Proofs.YtilcnjbpmoijmaaGreat
