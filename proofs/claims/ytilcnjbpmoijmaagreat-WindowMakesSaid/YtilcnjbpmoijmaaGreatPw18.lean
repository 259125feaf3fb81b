/- Parts of a proof. No condition. -/
import Derived.Test.YtilcnjbpmoijmaaGreatPw17
set_option maxRecDepth 100000
set_option maxHeartbeats 16000000
set_option linter.unusedVariables false
set_option linter.unusedSimpArgs false
namespace Go.Proofs.YtilcnjbpmoijmaaGreat.D
open Tryz
open Go.RowKit
variable{f f2 k n:Int}{c g m m2 o p q:Nat}{l l2:List Pr}{F G:Ft}
def Gi(c m:Nat)(F:Ft)(er:Int)(s:List Pr × Int)(w:World)(e:Ending)(w':World):Prop:=
 e=.returned (.int .i64 er)/\(er=0->A_ c m s.1 s.2 (Gr F w w') w'/\Touch F w w')/\(er≠0->Below w.heap.size w w')
def GoP(g:Nat)(M:List Pr)(G:Ft)(er:Int)(W:World)(e:Ending)(W':World):Prop:=
 e=.returned (.int .i64 er)/\(er=0->nO g M (Gr G W W') W'/\Touch G W W')/\(er≠0->Below W.heap.size W W')
def bw4(w:World)(op:Option Nat)(l:List Pr)(f:Int):Prop:=match op with
 | some o=>∃m,CoR w o m l f
 | none=>l=[]/\f=0
theorem Gj(h0:0<=f)(h1:f<=4611686018427387904)(l M:List Pr):0<=fP f l M/\fP f l M<=4611686018427387904:=by
 unfold fP;split<;>omega
theorem CZ{M:List Pr}{er:Int}{op:Option Nat}(K:Nat)(cb:Array Value)(w:World)
 (hB:dK w c 254 #[.int .i64 m,.pointer (some ⟨g,0,none⟩),.int .u64 f]) (hS:nO g l G w) (hFc:F c) (hGc:¬G c) (hGF:∀k,G k->F k) (yG:∀k,F k->k<w.heap.size) (ho:bw4 w op l2 f2)
 (f0:0<=f) (f1:f<=4611686018427387904) (g0:0<=f2) (g1:f2<=4611686018427387904) (hl:l.length<=100000) (hl2:l2.length<=100000) (hm0:2<=m) (hm1:m<=4096) (hM:er=0->uI M)
 (eg:∀args w,(callFunc K args).run prog w=.ok (.enter K args) w) (hc:∀W,Below w.heap.size w W->Calls prog K cb W (GoP g M G er W)) :
 aH 213 #[.pointer (some ⟨c,0,none⟩),.func (.func K) #[] cb,.pointer (op.map fun o=>⟨o,0,none⟩)] w (Gi c m F er (mJ m (l,f) (l2,f2) M) w):=by
 have HB:=aI hB;have HS:=aI hS;have HFl:=aI yG;have HGF:=aI hGF;have HO:=aI ho;have HC:=aI hc;have HM:=aI hM;have hcl:=hB.lt;clear hB hS yG hGF ho hc hM;obtain⟨pa,hpa⟩:∃v:Option Addr,(op.map fun o=>(⟨o,0,none⟩:Addr))=v:=⟨_,rfl⟩
 rw[hpa];have HPA:=aI hpa;clear hpa
 go_enter func213,ntmps213
 go_wp2_with fail;have B0:=dK.new w 195 #[.pointer (some ⟨c,0,none⟩),.pointer pa];have B1:=dK.new (w.alloc (.cells #[.pointer (some ⟨c,0,none⟩),.pointer pa] 195)) 391 #[.int .i64 0,.int .i64 0];have B2:=dK.new ((w.alloc (.cells #[.pointer (some ⟨c,0,none⟩),.pointer pa] 195)).alloc (.cells #[.int .i64 0,.int .i64 0] 391)) 392 #[.int .u64 0,.int .u64 0];have hbs:Below w.heap.size w (((w.alloc (.cells #[.pointer (some ⟨c,0,none⟩),.pointer pa] 195)).alloc (.cells #[.int .i64 0,.int .i64 0] 391)).alloc (.cells #[.int .u64 0,.int .u64 0] 392)):=bw;simp only[aV] at B1 B2;have B0':=aI ((B0.alloc (.cells #[.int .i64 0,.int .i64 0] 391)).alloc (.cells #[.int .u64 0,.int .u64 0] 392));have B1':=aI (B1.alloc (.cells #[.int .u64 0,.int .u64 0] 392));have B2':=aI B2;clear B0 B1 B2;generalize ((w.alloc (.cells #[.pointer (some ⟨c,0,none⟩),.pointer pa] 195)).alloc (.cells #[.int .i64 0,.int .i64 0] 391)).alloc (.cells #[.int .u64 0,.int .u64 0] 392)=w0 at *
 go_loopg [23] 2 (fun q x wr=>∃j:Nat,q=2 - j/\j<=2/\x=.int .i64 j/\Hid (dK wr w.heap.size 195 #[.pointer (some ⟨c,0,none⟩),.pointer pa])/\Hid (dK wr (w.heap.size+1) 391 #[.int .i64 (if 1<=j then mD l else 0),.int .i64 (if 2<=j then mD l2 else 0)]) /\
  Hid (dK wr (w.heap.size+1+1) 392 #[.int .u64 (if 1<=j then f else 0),.int .u64 (if 2<=j then f2 else 0)])/\Below w.heap.size w wr)
 case atStart=>exact⟨0,rfl,ae,rfl,B0',B1',B2',hbs⟩
 case round=>
  obtain⟨j,hq,hj,rfl,HB0,HB1,HB2,hb⟩:=hrel;have HQ:=aI hq;have hz:=hb.size;have hz2:=HB2.o.lt;clear hq hbs B0' B1' B2';have hjc:j=0\/j=1\/j=2:=ae
  rcases hjc with rfl|rfl|rfl
  ·have k0:=HB0.o.cell 0
   simp only[aK,aJ] at k0;have C1:=aI (first_any wr ((show CoR w c m l f from⟨g,G,HB.o,HS.o⟩).keep hb) hl)
   go_wp2_with fail;refine(C1.o).mono ?_
   rintro e w1 ⟨rfl,hb1⟩;have b12:=hb.trans (hb1.mono hz);have HBc:=HB.o.keep b12;have k2:=HBc.cell 2;have KQ:=HB1.o.keep hb1;have KR:=HB2.o.keep hb1;have f1:=KQ.frozen 0;have f2:=KR.frozen 0;have x1:=KQ.cell 0;have x2:=KR.cell 0;simp only[aK,aJ,aN] at k2 x1 x2;have X1:=aI KQ;have X2:=aI KR;have X0:=aI (HB0.o.keep hb1);have hcn:c≠w.heap.size+1:=ae
   have vk:c≠w.heap.size+1+1:=ae
   clear KQ KR HBc
   go_wp2_with fail
   go_roundg 1
   case measure=>have:=HQ.o;omega
   case rel=>exact⟨1,rfl,ae,rfl,aI ((X0.o.far ag _).far ah _),aI ((X1.o.dQ 0 (.int .i64 (mD l))).far ag _),aI ((X2.o.far ag _).dQ 0 (.int .u64 f)),(b12.setCell ag _).setCell ah _⟩
  ·have k0:=HB0.o.cell 1
   simp only[aK,aJ,aN] at k0
   cases op with
   | none=>
    have hp:=HPA.o;simp only[Option.map_none] at hp;subst hp;obtain⟨e1,e2⟩:=(show l2=[]/\f2=0 from HO.o)
    subst e1;subst e2
    go_wp2_with fail
    go_roundg 0
    case measure=>have:=HQ.o;omega
    case rel=>exact⟨2,rfl,ae,rfl,HB0,HB1,HB2,hb⟩
   | some o=>
    have hp:=HPA.o;simp only[Option.map_some] at hp;subst hp;obtain⟨m2,hr⟩:=(show ∃m,CoR w o m l2 f2 from HO.o)
    have hr':=hr;obtain⟨go,Go_,hrB,_⟩:=hr';have hol:=hrB.lt;have C1:=aI (first_any wr (hr.keep hb) hl2);have HRB:=aI hrB;clear hr hrB
    go_wp2_with fail;refine(C1.o).mono ?_
    rintro e w1 ⟨rfl,hb1⟩;have b12:=hb.trans (hb1.mono hz);have HBc:=HRB.o.keep b12;have k2:=HBc.cell 2;have KQ:=HB1.o.keep hb1;have KR:=HB2.o.keep hb1;have f1:=KQ.frozen 1;have f2':=KR.frozen 1;have x1:=KQ.cell 1;have x2:=KR.cell 1;simp only[aK,aJ,aN] at k2 x1 x2;have X1:=aI KQ;have X2:=aI KR;have X0:=aI (HB0.o.keep hb1);have hcn:o≠w.heap.size+1:=ae
    have vk:o≠w.heap.size+1+1:=ae
    clear KQ KR HBc
    go_wp2_with fail
    go_roundg 0
    case measure=>have:=HQ.o;omega
    case rel=>exact⟨2,rfl,ae,rfl,aI ((X0.o.far ag _).far ah _),aI ((X1.o.dQ 1 (.int .i64 (mD l2))).far ag _),aI ((X2.o.far ag _).dQ 1 (.int .u64 f2)),(b12.setCell ag _).setCell ah _⟩
  ·have HCW:=aI (HC.o wr hb)
   clear HC
   go_wp2_with fail;refine(HCW.o).mono ?_
   rintro e w2 ⟨rfl,hy,hn⟩
   by_cases her:er=0
   ·subst her
    obtain⟨s2,t2⟩:=hy rfl;have OK:=HM.o rfl;have cf7:=t2.size;have an6:¬Gr G wr w2 c:=fun h=>h.elim hGc (fun h=>by omega)
    have WU:∀k,G k->k<w.heap.size:=fun k h=>HFl.o k (HGF.o k h)
    have bl5:∀k,w.heap.size<=k->k<wr.heap.size->¬Gr G wr w2 k:=fun k h1 h2 h=>h.elim (fun h=>by have:=WU k h;omega) (fun h=>by omega)
    have Bc:=aI ((t2.block c ae hGc).trans (HB.o.keep hb))
    have k0:w2.cell? ⟨c,0,none⟩=some (.int .i64 m):=dK.cell Bc.o 0;have k1:w2.cell? ⟨c,1,none⟩=some (.pointer (some ⟨g,0,none⟩)):=dK.cell Bc.o 1;have K0:=aI k0;have K1:=aI k1;have hc2:c<w2.heap.size:=ae
    have S2:=aI s2;have T2:=aI t2;have X1:Hid (dK w2 (w.heap.size+1) 391 #[.int .i64 (mD l),.int .i64 (mD l2)]):=aI ((t2.block _ ae (fun h=>by have:=WU _ h;omega)).trans HB1.o)
    have X2:Hid (dK w2 (w.heap.size+1+1) 392 #[.int .u64 f,.int .u64 f2]):=aI ((t2.block _ ae (fun h=>by have:=WU _ h;omega)).trans HB2.o)
    have xq:=aI OK;have HGN:=aI bl5;clear k0 k1 s2 t2 hy hn HB0 HB1 HB2 OK bl5 WU
    go_upto_region 14 with fail;have mW:=aI (fun(w':World) (hS':(Touch (Gr G wr w2) w2) w')=>(aP ((dO hS' 0 hc2 an6).trans K0.o) ((dO hS' 1 hc2 an6).trans K1.o)))
    refine jh (Touch (Gr G wr w2) w2) (dV 0 8 (fJ 8 (dV 9 1 []))) ((Touch.refl _ _).drew) ?_
    iterate 8 refine eQ ?_
    refine fO fun K hK=>?_
    go_simp;refine(an3 m w2.drew ((iO _ _).keep S2.o (aO _ _).drew) xq.o ae  ae).mono ?_
    rintro e w3 ⟨rfl,s3,t3⟩;have T3:Touch (Gr G wr w2) w2 w3:=Rw (aO _ _).drew t3;have S3:=aI s3;have TT3:=aI T3;clear s3 t3;refine hK _ _ (T3) ?_
    clear hK K;refine eQ ?_
    refine dJ ?_
    have hcu:=KD (m:=m) ae xq.o.iU xq.o.pos
    have hD1:(dY m M).2<=4611686018427387904:=by
     have e:tot M=tot (M.take (M.length - m))+tot (M.drop (M.length - m)):=by rw[<-eH,List.take_append_drop]
     have h2:=dN (l:=M.drop (M.length - m)) (fun p hp=>xq.o.pos p (List.mem_of_mem_drop hp))
     have h3:=xq.o.tot;show tot (M.take (M.length - m))<=_
     omega
    have hD0:=hcu.2.2.2.2;have hLL:=hcu.2.2.2.1;have HR:Hid (mJ m (l,f) (l2,f2) M=((dY m M).1,(dY m M).2+fP f l (dY m M).1+fP f2 l2 (dY m M).1)):=aI rfl;obtain⟨MM,hMM⟩:∃x,(dY m M).1=x:=⟨_,rfl⟩;obtain⟨D,hDD⟩:∃x,(dY m M).2=x:=⟨_,rfl⟩;rw[hMM] at HR S3 hLL;rw[hDD] at HR hD0 hD1 |-;clear hcu hMM hDD;have t3:=TT3.o;have hz3:=t3.size;have Bc3:=aI ((t3.block c hc2 an6).trans Bc.o);have X13:=aI ((t3.block _ X1.o.lt (HGN.o _ ae  ae)).trans X1.o)
    have X23:=aI ((t3.block _ X2.o.lt (HGN.o _ ae  ae)).trans X2.o)
    have C4:=aI (first_any w3 (show CoR w3 c m MM f from⟨g,_,Bc3.o,S3.o⟩) ae)
    clear t3
    go_wp2_with fail;refine(C4.o).mono ?_
    rintro e w4 ⟨rfl,hb4⟩;have oC:=hb4.size;have B4:dK w4 c 254 #[.int .i64 m,.pointer (some ⟨g,0,none⟩),.int .u64 f]:=dK.keep Bc3.o hb4;have Y1:dK w4 (w.heap.size+1) 391 #[.int .i64 (mD l),.int .i64 (mD l2)]:=dK.keep X13.o hb4;have Y2:dK w4 (w.heap.size+1+1) 392 #[.int .u64 f,.int .u64 f2]:=dK.keep X23.o hb4;have a0:=Y1.cell 0;have a1:=Y1.cell 1;have b0:=Y2.cell 0;have b1:=Y2.cell 1;have k2:=B4.cell 2;have f2':=B4.frozen 2;simp only[aK,aJ,aN] at a0 a1 b0 b1 k2;have i0:∀w,(Instr.index 392 (.agg #[.int .u64 f,.int .u64 f2]) (.int .i64 0)).run prog w=.ok (.int .u64 f) w:=fun _=>by kernel_rfl
    have i1:∀w,(Instr.index 392 (.agg #[.int .u64 f,.int .u64 f2]) (.int .i64 1)).run prog w=.ok (.int .u64 f2) w:=fun _=>by kernel_rfl
    have S4:=aI ((iO _ _).keep S3.o hb4);have BB4:=aI B4;clear B4 Y1 Y2
    go_wp2_with fail
    go_loopg [13,64] 2 (fun q y x wx=>(∃j:Nat,q=2 - j/\j<=2/\x=.int .i64 j/\y=.int .u64 (D+(if 1<=j then fP f l MM else 0)+(if 2<=j then fP f2 l2 MM else 0)))/\w4=wx)
    case atStart=>exact⟨⟨0,rfl,ae,rfl,ag⟩,rfl⟩
    case round=>
     obtain⟨⟨j,hq,hj,rfl,rfl⟩,rfl⟩:=hrel;have HQ:=aI hq;clear hq;have hjc:j=0\/j=1\/j=2:=ae
     rcases hjc with rfl|rfl|rfl
     ·have e0:(D+(if 1<=0 then fP f l MM else 0)+(if 2<=0 then fP f2 l2 MM else 0))=D:=ag
      have e1:Hid ((D+(if 1<=1 then fP f l MM else 0)+(if 2<=1 then fP f2 l2 MM else 0))=D+fP f l MM):=aI ag
      rw[e0];clear e0
      by_cases h1:0<f
      ·by_cases h2:mD l=mD MM
       ·have e2:Hid (fP f l MM=f):=aI (if_pos ⟨h1,h2⟩)
        have h3:(mD l == mD MM)=true:=by simp[h2]
        rw[h2] at a0
        go_wp2_with fail
        go_roundg 1
        case measure=>have:=HQ.o;omega
        case rel=>exact⟨⟨1,rfl,ae,rfl,by rw[e1.o,e2.o]⟩,rfl⟩
       ·have e2:Hid (fP f l MM=0):=aI (if_neg (fun h=>h2 h.2))
        have h3:(mD l == mD MM)=false:=beq_eq_false_iff_ne.2 h2
        go_wp2_with fail
        go_roundg 1
        case measure=>have:=HQ.o;omega
        case rel=>exact⟨⟨1,rfl,ae,rfl,by rw[e1.o,e2.o,Int.add_zero]⟩,rfl⟩
      ·have e2:Hid (fP f l MM=0):=aI (if_neg (fun h=>h1 h.1))
       go_wp2_with fail
       go_roundg 1
       case measure=>have:=HQ.o;omega
       case rel=>exact⟨⟨1,rfl,ae,rfl,by rw[e1.o,e2.o,Int.add_zero]⟩,rfl⟩
     ·have e0:(D+(if 1<=1 then fP f l MM else 0)+(if 2<=1 then fP f2 l2 MM else 0))=(D+fP f l MM):=ag
      have e1:Hid ((D+(if 1<=2 then fP f l MM else 0)+(if 2<=2 then fP f2 l2 MM else 0))=(D+fP f l MM)+fP f2 l2 MM):=aI ag
      rw[e0];clear e0;have hf:=Gj f0 f1 l MM;generalize fP f l MM=u at *
      by_cases h1:0<f2
      ·by_cases h2:mD l2=mD MM
       ·have e2:Hid (fP f2 l2 MM=f2):=aI (if_pos ⟨h1,h2⟩)
        have h3:(mD l2 == mD MM)=true:=by simp[h2]
        rw[h2] at a1
        go_wp2_with fail
        go_roundg 0
        case measure=>have:=HQ.o;omega
        case rel=>exact⟨⟨2,rfl,ae,rfl,by rw[e1.o,e2.o]⟩,rfl⟩
       ·have e2:Hid (fP f2 l2 MM=0):=aI (if_neg (fun h=>h2 h.2))
        have h3:(mD l2 == mD MM)=false:=beq_eq_false_iff_ne.2 h2
        go_wp2_with fail
        go_roundg 0
        case measure=>have:=HQ.o;omega
        case rel=>exact⟨⟨2,rfl,ae,rfl,by rw[e1.o,e2.o,Int.add_zero]⟩,rfl⟩
      ·have e2:Hid (fP f2 l2 MM=0):=aI (if_neg (fun h=>h1 h.1))
       go_wp2_with fail
       go_roundg 0
       case measure=>have:=HQ.o;omega
       case rel=>exact⟨⟨2,rfl,ae,rfl,by rw[e1.o,e2.o,Int.add_zero]⟩,rfl⟩
     ·have e0:(D+(if 1<=2 then fP f l MM else 0)+(if 2<=2 then fP f2 l2 MM else 0))=D+fP f l MM+fP f2 l2 MM:=ag
      rw[e0];clear e0;have hf:=Gj f0 f1 l MM;have hf2:=Gj g0 g1 l2 MM;have HPO:Hid (Gi c m F 0 (mJ m (l,f) (l2,f2) M) w=Gi c m F 0 (MM,D+fP f l MM+fP f2 l2 MM) w):=aI (by rw[HR.o])
      generalize fP f l MM=u at *;generalize fP f2 l2 MM=v at *
      go_wp2_with fail
      go_ret;rw[HPO.o];have T4:Touch G w w4:=(Rw hb (tgr T2.o TT3.o)).trans (Touch.of_below (F:=G) hb4 (aS _)) (fun _ h=>.inl h)
      have t5:=(T4.mono (G:=F) HGF.o).setCell (p:=⟨c,2,none⟩) (.inl hFc) (.int .u64 (D+u+v));have hnc:¬Gr (Gr G wr w2) w2.drew w3 c:=fun h=>h.elim an6 (fun h=>by have:=h.1;simp at this;omega)
      refine⟨rfl,fun _=>⟨⟨g,_,BB4.o.dQ 2 (.int .u64 (D+u+v)),(iO g MM).stay S4.o (fun k hk=>bM _ _ _ k (fun e=>hnc (by rw[<-show k=c from e];exact hk))) ag,.inl hFc,hnc,fun k hk=>?_,jU HFl.o t5.size⟩,t5⟩,fun h=>absurd rfl h⟩
      have WJ:(w4.setCell ⟨c,2,none⟩ (.int .u64 (D+u+v))).heap.size=w4.heap.size:=ag
      rcases hk with(hk|hk)|hk
      ·exact .inl (HGF.o k hk)
      ·exact .inr ⟨by omega,ae⟩
      ·have h1:=hk.1
       simp at h1
       exact .inr ⟨by omega,by have:=hk.2;omega⟩
   ·have hb2:=hb.trans ((hn her).mono hz)
    have cf8:(er != 0)=true:=by simpa using her
    clear hy hn
    go_wp2_with fail
    go_ret;exact⟨rfl,fun h=>absurd h her,fun _=>hb2⟩
open Tryz
open Go.RowKit
theorem ZN{r:Nat}(W:World)(hB:dK W c 254 #[.int .i64 m,.pointer (some ⟨g,0,none⟩),.int .u64 f])(hS:nO g l G W)(ok:uI l)(n0:0<=n)(n1:n<18446744073709551616)(hl:l.length<100000)
 (hp:W.cell? ⟨p,0,none⟩=some (.pointer (some ⟨c,0,none⟩))) (hq:W.cell? ⟨q,0,none⟩=some (.int .i64 k)) (hr:W.cell? ⟨r,0,none⟩=some (.int .u64 n)) (gp:¬G p) (gq:¬G q) (gr:¬G r) (gc:¬G c) :
 aH 263 #[.pointer (some ⟨p,0,none⟩),.pointer (some ⟨q,0,none⟩),.pointer (some ⟨r,0,none⟩)] W (GoP g (gz k n l) G (jK l k n) W):=by
 have k1:=hB.cell 1;simp only[aK,aJ,aN] at k1;have hpl:=bZ _ _ hp;have hql:=bZ _ _ hq;have hrl:=bZ _ _ hr;have hcl:=hB.lt;have X:=aI (aP hp (aP hq (aP hr k1)));have C:Hid (∀W',Below W.heap.size W W'->aH 264 #[.pointer (some ⟨g,0,none⟩),.int .i64 k,.int .u64 n] W' (GoP g (gz k n l) G (jK l k n) W')):=aI (fun W' hb=>by
  have h:=(iO g l).keep hS hb
  by_cases he:jK l k n=0
  ·rw[he]
   exact(NY k n W' h ok n0 he hl).mono fun e w' ⟨h1,h2,h3⟩=>⟨h1,fun _=>⟨h2,h3⟩,fun h=>absurd rfl h⟩
  ·exact(an2 k n W' h ok n0 n1 he).mono fun e w' ⟨h1,h2⟩=>⟨h1,fun h=>absurd h he,fun _=>by subst h2;exact aO _ _⟩)
 have HS:=aI hS;clear hp hq hr k1 hB hS ok;generalize gz k n l=M at *;generalize jK l k n=er at *
 go_enter func263,ntmps263
 go_wp2_with fail;have mW:=aI (fun(w':World) (hS':(Touch G W) w')=>(aP ((dO hS' 0 hpl gp).trans X.o.1) (aP ((dO hS' 0 hql gq).trans X.o.2.1) (aP ((dO hS' 0 hrl gr).trans X.o.2.2.1) ((dO hS' 1 hcl gc).trans X.o.2.2.2)))))
 refine jh (Touch G W) (dV 0 6 (fJ 6 (dV 7 1 []))) ((Touch.refl _ _).drew) ?_
 iterate 6 refine eQ ?_
 refine fO fun K hK=>?_
 go_simp;refine(C.o W.drew (aO _ _).drew).mono ?_
 rintro e w3 ⟨rfl,hy,hn⟩;have H:=aI (aP hy hn);have T3:Touch G W w3:=(by by_cases he:er=0;exact Rw (aO _ _).drew (hy he).2;exact Touch.of_below ((aO _ _).drew.trans (hn he)) (aS _))
 clear hy hn;refine hK _ _ (T3) ?_
 clear hK K;refine eQ ?_
 refine dJ ?_
 go_wp2_with fail
 go_ret;exact⟨rfl,fun h=>⟨(H.o.1 h).1,Rw (aO _ _).drew (H.o.1 h).2⟩,fun h=>(aO _ _).drew.trans (H.o.2 h)⟩
theorem an7(ok:uI l)(hm:0<m):uI (dY m l).1:=by
 obtain⟨h1,h2,h3,h4,h5⟩:=KD hm ok.iU ok.pos;refine⟨h1,h2,fun p hp=>?_,by rw[h3];exact ok.tot,?_⟩
 ·unfold dY at hp
  cases hd:l.drop (l.length - m) with
  | nil=>rw[hd] at hp;simp[bump] at hp
  | cons q r=>
   rw[hd] at hp
   rcases bn.1 hp with rfl|hp
   ·exact ok.key q (List.mem_of_mem_drop (i:=l.length - m) (by rw[hd];exact aT ..))
   ·exact ok.key p (List.mem_of_mem_drop (i:=l.length - m) (by rw[hd];exact aY _ hp))
 ·have:=ok.len
  unfold dY;rw[bump_length,bu];omega
theorem ZO(w:World)(h:A_ c m l f F w)(ok:uI l)(hl:l.length<=m)(hm0:2<=m)(hm1:m<=4096)(f0:0<=f)(f1:f<=4611686018427387904)(n0:0<=n)(n1:n<18446744073709551616) :
 aH 199 #[.pointer (some ⟨c,0,none⟩),.int .i64 k,.int .u64 n] w (Gi c m F (jK l k n) (mJ m (l,f) ([],0) (gz k n l)) w):=by
 have h':=h;obtain⟨g,G,hB,hS,hFc,hGc,hGF,yG⟩:=h';have b0:Below w.heap.size w (((w.alloc (.cells #[.pointer (some ⟨c,0,none⟩)] 195)).alloc (.cells #[.int .i64 k] 3)).alloc (.cells #[.int .u64 n] 46)):=bw;have p0:(((w.alloc (.cells #[.pointer (some ⟨c,0,none⟩)] 195)).alloc (.cells #[.int .i64 k] 3)).alloc (.cells #[.int .u64 n] 46)).cell? ⟨w.heap.size,0,none⟩=some (.pointer (some ⟨c,0,none⟩)):=(((dK.new w 195 #[.pointer (some ⟨c,0,none⟩)]).alloc _).alloc _).cell 0;have p1:(((w.alloc (.cells #[.pointer (some ⟨c,0,none⟩)] 195)).alloc (.cells #[.int .i64 k] 3)).alloc (.cells #[.int .u64 n] 46)).cell? ⟨w.heap.size+1,0,none⟩=some (.int .i64 k):=by
  have:=((dK.new (w.alloc (.cells #[.pointer (some ⟨c,0,none⟩)] 195)) 3 #[.int .i64 k]).alloc (.cells #[.int .u64 n] 46)).cell 0
  rwa [aV] at this
 have p2:(((w.alloc (.cells #[.pointer (some ⟨c,0,none⟩)] 195)).alloc (.cells #[.int .i64 k] 3)).alloc (.cells #[.int .u64 n] 46)).cell? ⟨w.heap.size+1+1,0,none⟩=some (.int .u64 n):=by
  have:=(dK.new ((w.alloc (.cells #[.pointer (some ⟨c,0,none⟩)] 195)).alloc (.cells #[.int .i64 k] 3)) 46 #[.int .u64 n]).cell 0
  rwa [aV,aV] at this
 have hz0:(((w.alloc (.cells #[.pointer (some ⟨c,0,none⟩)] 195)).alloc (.cells #[.int .i64 k] 3)).alloc (.cells #[.int .u64 n] 46)).heap.size=w.heap.size+1+1+1:=ag
 have ZP:Hid (∀e w',Gi c m F (jK l k n) (mJ m (l,f) ([],0) (gz k n l)) (((w.alloc (.cells #[.pointer (some ⟨c,0,none⟩)] 195)).alloc (.cells #[.int .i64 k] 3)).alloc (.cells #[.int .u64 n] 46)) e w'->Gi c m F (jK l k n) (mJ m (l,f) ([],0) (gz k n l)) w e w'):=aI (fun e w' ⟨h1,h2,h3⟩=>⟨h1,fun he=>by
  obtain⟨h4,h5⟩:=h2 he;refine⟨(oI _ _ _ _).more h4 (fun k hk=>hk.imp id (fun h=>⟨by rw[hz0] at h;omega,h.2⟩)) (jU yG (by have:=h5.size;omega)),Rw b0 h5⟩,fun he=>b0.trans ((h3 he).mono b0.size)⟩)
 have C:Hid (aH 213 #[.pointer (some ⟨c,0,none⟩),.func (.func 263) #[] #[.pointer (some ⟨w.heap.size,0,none⟩),.pointer (some ⟨w.heap.size+1,0,none⟩),.pointer (some ⟨w.heap.size+1+1,0,none⟩)],.pointer none] (((w.alloc (.cells #[.pointer (some ⟨c,0,none⟩)] 195)).alloc (.cells #[.int .i64 k] 3)).alloc (.cells #[.int .u64 n] 46)) (Gi c m F (jK l k n) (mJ m (l,f) ([],0) (gz k n l)) (((w.alloc (.cells #[.pointer (some ⟨c,0,none⟩)] 195)).alloc (.cells #[.int .i64 k] 3)).alloc (.cells #[.int .u64 n] 46)))):=by
  generalize ((w.alloc (.cells #[.pointer (some ⟨c,0,none⟩)] 195)).alloc (.cells #[.int .i64 k] 3)).alloc (.cells #[.int .u64 n] 46)=W0 at *;have WU:∀k,G k->k<w.heap.size:=fun k h=>yG k (hGF k h)
  refine aI (CZ (op:=none) 263 _ W0 (hB.keep b0) ((iO g l).keep hS b0) hFc hGc hGF (fun k hk=>bF (yG k hk) b0.size) ⟨rfl,rfl⟩ f0 f1 ae  ae  ae ag hm0 hm1 (fun he=>ZK ok he n0 ae) (fun _ _=>rfl) (fun W hb=>?_))
  have hb':=b0.trans (hb.mono b0.size);exact ZN W (hB.keep hb') ((iO g l).keep hS hb') ok n0 n1 ae ((hb.cell (p:=⟨w.heap.size,0,none⟩) (by show w.heap.size<_;omega)).trans p0) ((hb.cell (p:=⟨w.heap.size+1,0,none⟩) (by show w.heap.size+1<_;omega)).trans p1) ((hb.cell (p:=⟨w.heap.size+1+1,0,none⟩) (by show w.heap.size+1+1<_;omega)).trans p2)
   (fun h=>by have:=WU _ h;omega) (fun h=>by have:=WU _ h;omega) (fun h=>by have:=WU _ h;omega) hGc
 clear h hB hS ok yG hGF p0 p1 p2 b0 hz0
 go_enter func199,ntmps199
 go_wp2_with fail;refine(C.o).mono ?_
 intro e w' h;have hp:=ZP.o e w' h;obtain⟨rfl,_⟩:=h;have HP:=aI hp;clear hp
 go_wp2_with fail
 go_ret;exact HP.o
def jm(l l2:List Pr):Int:=if 4611686018427387904<tot l+tot l2 then 6 else 0
theorem WV{h:Nat}{G2:Ft}(W:World)(hB:dK W c 254 #[.int .i64 m,.pointer (some ⟨g,0,none⟩),.int .u64 f])(hS:nO g l G W)(hB2:dK W o 254 #[.int .i64 m2,.pointer (some ⟨h,0,none⟩),.int .u64 f2])(hS2:nO h l2 G2 W)
 (ok:uI l) (ok2:uI l2) (hl:l.length+l2.length<=100000) (hp:W.cell? ⟨p,0,none⟩=some (.pointer (some ⟨c,0,none⟩))) (hq:W.cell? ⟨q,0,none⟩=some (.pointer (some ⟨o,0,none⟩))) (gp:¬G p) (gq:¬G q) (gc:¬G c) (go:¬G o) :
 aH 214 #[.pointer (some ⟨p,0,none⟩),.pointer (some ⟨q,0,none⟩)] W (GoP g (gG l l2) G (jm l l2) W):=by
 have k1:=hB.cell 1;have k2:=hB2.cell 1;simp only[aK,aJ,aN] at k1 k2;have hpl:=bZ _ _ hp;have hql:=bZ _ _ hq;have hcl:=hB.lt;have hol:=hB2.lt;have X:=aI (aP hp (aP hq (aP k1 k2)));have C:Hid (∀W',Below W.heap.size W W'->aH 215 #[.pointer (some ⟨g,0,none⟩),.pointer (some ⟨h,0,none⟩)] W' (GoP g (gG l l2) G (jm l l2) W')):=aI (fun W' hb=>by
  have h1:=(iO g l).keep hS hb;have h2:=(iO h l2).keep hS2 hb;unfold jm
  by_cases he:4611686018427387904<tot l+tot l2
  ·rw[if_pos he]
   exact(RF W' h1 h2 ok ok2 he).mono fun e w' ⟨h1,n,h2⟩=>⟨h1,fun h=>absurd h af,fun _=>by subst h2;exact below_drewN (aO _ _) _⟩
  ·rw[if_neg he]
   exact(WT W' h1 h2 ok ok2 ae hl).mono fun e w' ⟨h1,h2,h3⟩=>⟨h1,fun _=>⟨h2,h3⟩,fun h=>absurd rfl h⟩)
 clear hp hq k1 k2 hB hS hB2 hS2 ok ok2;generalize gG l l2=M at *;generalize jm l l2=er at *
 go_enter func214,ntmps214
 go_wp2_with fail;have mW:=aI (fun(w':World) (hS':(Touch G W) w')=>(aP ((dO hS' 0 hpl gp).trans X.o.1) (aP ((dO hS' 0 hql gq).trans X.o.2.1) (aP ((dO hS' 1 hcl gc).trans X.o.2.2.1) ((dO hS' 1 hol go).trans X.o.2.2.2)))))
 refine jh (Touch G W) (dV 0 8 (fJ 8 (dV 9 1 []))) ((Touch.refl _ _).drew) ?_
 iterate 8 refine eQ ?_
 refine fO fun K hK=>?_
 go_simp;refine(C.o W.drew (aO _ _).drew).mono ?_
 rintro e w3 ⟨rfl,hy,hn⟩;have H:=aI (aP hy hn);have T3:Touch G W w3:=(by by_cases he:er=0;exact Rw (aO _ _).drew (hy he).2;exact Touch.of_below ((aO _ _).drew.trans (hn he)) (aS _))
 clear hy hn;refine hK _ _ (T3) ?_
 clear hK K;refine eQ ?_
 refine dJ ?_
 go_wp2_with fail
 go_ret;exact⟨rfl,fun h=>⟨(H.o.1 h).1,Rw (aO _ _).drew (H.o.1 h).2⟩,fun h=>(aO _ _).drew.trans (H.o.2 h)⟩
theorem WW(w:World)(h:A_ c m l f F w)(h2:CoR w o m2 l2 f2)(ok:uI l)(ok2:uI l2)(hl:l.length<=m)(hl2:l2.length<=4096)(hm0:2<=m)(hm1:m<=4096)(f0:0<=f)(f1:f<=4611686018427387904)(g0:0<=f2)(g1:f2<=4611686018427387904)(ho:¬F o\/o=c)(hm2:m2<=4096) :
 aH 135 #[.pointer (some ⟨c,0,none⟩),.pointer (some ⟨o,0,none⟩)] w (Gi c m F (if m2=m then jm l l2 else 3) (mJ m (l,f) (l2,f2) (gG l l2)) w):=by
 have h':=h;obtain⟨g,G,hB,hS,hFc,hGc,hGF,yG⟩:=h';have h2':=h2;obtain⟨gh,G2,hB2,hS2⟩:=h2';have hGo:¬G o:=fun hg=>ho.elim (fun h=>h (hGF o hg)) (fun e=>hGc (e▸hg))
 have b0:Below w.heap.size w ((w.alloc (.cells #[.pointer (some ⟨c,0,none⟩)] 195)).alloc (.cells #[.pointer (some ⟨o,0,none⟩)] 195)):=bw;have p0:((w.alloc (.cells #[.pointer (some ⟨c,0,none⟩)] 195)).alloc (.cells #[.pointer (some ⟨o,0,none⟩)] 195)).cell? ⟨w.heap.size,0,none⟩=some (.pointer (some ⟨c,0,none⟩)):=((dK.new w 195 #[.pointer (some ⟨c,0,none⟩)]).alloc _).cell 0;have p1:((w.alloc (.cells #[.pointer (some ⟨c,0,none⟩)] 195)).alloc (.cells #[.pointer (some ⟨o,0,none⟩)] 195)).cell? ⟨w.heap.size+1,0,none⟩=some (.pointer (some ⟨o,0,none⟩)):=by
  have:=(dK.new (w.alloc (.cells #[.pointer (some ⟨c,0,none⟩)] 195)) 195 #[.pointer (some ⟨o,0,none⟩)]).cell 0
  rwa [aV] at this
 have hz0:((w.alloc (.cells #[.pointer (some ⟨c,0,none⟩)] 195)).alloc (.cells #[.pointer (some ⟨o,0,none⟩)] 195)).heap.size=w.heap.size+1+1:=ag
 have k0:=(b0.cell (p:=⟨c,0,none⟩) hB.lt).trans (hB.cell 0);have k2:=(b0.cell (p:=⟨o,0,none⟩) hB2.lt).trans (hB2.cell 0);simp only[aK,aJ] at k0 k2;have hcl:=hB.lt;have hol:=hB2.lt
 by_cases hmm:m2=m
 ·subst hmm
  rw[if_pos rfl];have ZP:Hid (∀n e w',Gi c m2 F (jm l l2) (mJ m2 (l,f) (l2,f2) (gG l l2)) ((((w.alloc (.cells #[.pointer (some ⟨c,0,none⟩)] 195)).alloc (.cells #[.pointer (some ⟨o,0,none⟩)] 195))).drewN n) e w'->Gi c m2 F (jm l l2) (mJ m2 (l,f) (l2,f2) (gG l l2)) w e w'):=aI (fun n e w' ⟨h1,h2,h3⟩=>⟨h1,fun he=>by
   obtain⟨h4,h5⟩:=h2 he;have h6:=h5.size;simp only[gB] at h6;refine⟨(oI _ _ _ _).more h4 (fun k hk=>hk.imp id (fun h=>⟨by simp only[gB,hz0] at h;omega,h.2⟩)) (jU yG ae),Rw b0 (Rw (below_drewN (aO _ _) n) h5)⟩,fun he=>b0.trans ((below_drewN (aO _ _) n).trans (h3 he) |>.mono b0.size)⟩)
  have C:Hid (∀n,aH 213 #[.pointer (some ⟨c,0,none⟩),.func (.func 214) #[] #[.pointer (some ⟨w.heap.size,0,none⟩),.pointer (some ⟨w.heap.size+1,0,none⟩)],.pointer (some ⟨o,0,none⟩)] (((w.alloc (.cells #[.pointer (some ⟨c,0,none⟩)] 195)).alloc (.cells #[.pointer (some ⟨o,0,none⟩)] 195)).drewN n) (Gi c m2 F (jm l l2) (mJ m2 (l,f) (l2,f2) (gG l l2)) (((w.alloc (.cells #[.pointer (some ⟨c,0,none⟩)] 195)).alloc (.cells #[.pointer (some ⟨o,0,none⟩)] 195)).drewN n))):=by
   refine aI (fun n=>?_)
   generalize (w.alloc (.cells #[.pointer (some ⟨c,0,none⟩)] 195)).alloc (.cells #[.pointer (some ⟨o,0,none⟩)] 195)=W0 at *;have b1:=below_drewN b0 n;have WU:∀k,G k->k<w.heap.size:=fun k h=>yG k (hGF k h)
   refine CZ (op:=some o) 214 _ (W0.drewN n) (hB.keep b1) ((iO g l).keep hS b1) hFc hGc hGF (fun k hk=>bF (yG k hk) b1.size) ⟨m2,h2.keep b1⟩ f0 f1 g0 g1 ae  ae hm0 hm1 (fun he=>?_) (fun _ _=>rfl) (fun W hb=>?_)
   ·unfold jm at he
    split at he
    ·omega
    ·exact an5 ok ok2 ae  ae
   ·have hb':=b1.trans (hb.mono b1.size)
    exact WV W (hB.keep hb') ((iO g l).keep hS hb') (hB2.keep hb') ((iO gh l2).keep hS2 hb') ok ok2 ae ((hb.cell (p:=⟨w.heap.size,0,none⟩) (by show w.heap.size<W0.heap.size;omega)).trans p0) ((hb.cell (p:=⟨w.heap.size+1,0,none⟩) (by show w.heap.size+1<W0.heap.size;omega)).trans p1)
     (fun h=>by have:=WU _ h;omega) (fun h=>by have:=WU _ h;omega) hGc hGo
  clear h h2 hB hS hB2 hS2 ok ok2 yG hGF p0 p1 b0 hz0;have hd:((m2:Int) != (m2:Int))=false:=ag
  go_enter func135,ntmps135
  go_wp2_with fail
  go_quiet (fail)
  go_wp2_with fail;refine(C.o _).mono ?_
  intro e w' h;have hp:=ZP.o _ e w' h;obtain⟨rfl,_⟩:=h;have HP:=aI hp;clear hp
  go_wp2_with fail
  go_ret;exact HP.o
 ·rw[if_neg hmm]
  have hd:((m2:Int) != (m:Int))=true:=ah
  clear h h2 hB hS hB2 hS2 ok ok2 yG hGF p0 p1 hz0
  go_enter func135,ntmps135
  go_wp2_with fail
  go_quiet (fail)
  go_wp2_with fail
  go_ret;exact⟨rfl,fun h=>absurd h af,fun _=>below_drewN b0 _⟩
open Tryz
open Go.RowKit
theorem lG(hp:gK l)(j:Nat):0<=tot (l.take j)/\tot (l.take j)<=tot l:=by
 have e:tot l=tot (l.take j)+tot (l.drop j):=by rw[<-eH,List.take_append_drop]
 have h1:=dN (l:=l.take j) (fun p h=>hp p (List.mem_of_mem_take h))
 have h2:=dN (l:=l.drop j) (fun p h=>hp p (List.mem_of_mem_drop h))
 omega
theorem iC{j:Nat}(hj:j<l.length):tot (l.take (j+1))=tot (l.take j)+l[j].2:=by rw[bg hj,eH];simp
theorem NZ(v:Value)(l:List Pr)(w:World)(h:iM fZ w v l)(hp:gK l)(ht:tot l<=9223372036854775807)(hl:l.length<=1000000000) :
 aH 59 #[v] w fun e w'=>e=.returned (.int .u64 (tot l))/\w=w':=by
 obtain⟨A,c,rfl,_,_,hf⟩:=h.form;have HF:=aI hf;have HB:Hid (∀j,0<=tot (l.take j)/\tot (l.take j)<=9223372036854775807):=aI (fun j=>by have:=lG hp j;omega)
 clear h hf hp
 go_enter func59,ntmps59
 go_wp2_with fail
 go_loopg [3,4] l.length (fun q s x wr=>(∃j:Nat,q=l.length - j/\j<=l.length/\x=.int .i64 j/\s=.int .u64 (tot (l.take j)))/\w=wr)
 case atStart=>exact⟨⟨0,rfl,ae,rfl,rfl⟩,rfl⟩
 case round=>
  obtain⟨⟨j,hq,hj,rfl,rfl⟩,rfl⟩:=hrel;have HQ:=aI hq;clear hq
  by_cases hlt:j<l.length
  ·obtain⟨g,off,rfl,hg,c0,c1⟩:=jQ HF.o hlt
   have HS:=aI (iC hlt);have b1:=HB.o j;have b2:=HB.o (j+1);rw[HS.o] at b2;have hji:(j:Int)<(l.length:Int):=ae
   obtain⟨s,hs⟩:=aF (tot (l.take j));rw[hs] at HS b1 b2 |-;clear hs;generalize l[j].1=x at *;generalize l[j].2=n at *
   go_wp2_with fail
   go_roundg (l.length - (j+1))
   case measure=>have:=HQ.o;omega
   case rel=>exact⟨⟨j+1,rfl,ae,ai,by rw[HS.o]⟩,rfl⟩
  ·obtain rfl:j=l.length:=ae
   rw[bP (aS _)]
   go_wp2_with fail
   go_ret;exact⟨rfl,rfl⟩
end Go.Proofs.YtilcnjbpmoijmaaGreat.D
