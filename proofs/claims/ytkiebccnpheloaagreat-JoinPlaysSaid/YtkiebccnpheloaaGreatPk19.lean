/- Parts of a proof: what its theorem reaches, words cut short. No condition of its own. -/
import Derived.Test.YtkiebccnpheloaaGreatPk18
set_option maxRecDepth 100000
set_option maxHeartbeats 16000000
set_option linter.unusedVariables false
set_option linter.unusedSimpArgs false
namespace Go.Proofs.YtkiebccnpheloaaGreat.D
open Go.RowKit
def Dq(c m:Nat)(F:Ft)(er:Int)(s:List Pr × Int)(w:World)(e:Ending)(w':World):Prop:=
 e=.returned (.int .i64 er)/\(er=0->Iw c m s.1 s.2 (Gr F w w') w'/\Touch F w w')/\(er≠0->Below w.heap.size w w')
def GoP(g:Nat)(M:List Pr)(G:Ft)(er:Int)(W:World)(e:Ending)(W':World):Prop:=
 e=.returned (.int .i64 er)/\(er=0->oQ g M (Gr G W W') W'/\Touch G W W')/\(er≠0->Below W.heap.size W W')
def bf2(w:World)(op:Option Nat)(l:List Pr)(f:Int):Prop:=match op with
 | some o=>∃m,ZE w o m l f
 | none=>l=[]/\f=0
theorem Dt{f:Int}(h0:0<=f)(h1:f<=4611686018427387904)(l M:List Pr):0<=fH f l M/\fH f l M<=4611686018427387904:=by
 unfold fH;split<;>omega
theorem zK{c m g:Nat}{l l2 M:List Pr}{f f2 er:Int}{F G:Ft}{op:Option Nat}(K:Nat)(cb:Array Value)(w:World)
 (hB:dH w c 348 #[.int .i64 m,.pointer (some ⟨g,0,none⟩),.int .u64 f]) (hS:oQ g l G w) (hFc:F c) (hGc:¬G c) (hGF:∀k,G k->F k) (wU:∀k,F k->k<w.heap.size) (ho:bf2 w op l2 f2)
 (f0:0<=f) (f1:f<=4611686018427387904) (g0:0<=f2) (g1:f2<=4611686018427387904) (hl:l.length<=100000) (hl2:l2.length<=100000) (hm0:2<=m) (hm1:m<=4096) (hM:er=0->yw M)
 (eg:∀args w,(callFunc K args).run Tryz.prog w=.ok (.enter K args) w) (hc:∀W,Below w.heap.size w W->Calls Tryz.prog K cb W (GoP g M G er W)) :
 Calls Tryz.prog 257 #[.pointer (some ⟨c,0,none⟩),.func (.func K) #[] cb,.pointer (op.map fun o=>⟨o,0,none⟩)] w (Dq c m F er (kX m (l,f) (l2,f2) M) w):=by
 have HB:=aB hB;have HS:=aB hS;have HFl:=aB wU;have HGF:=aB hGF;have HO:=aB ho;have HC:=aB hc;have HM:=aB hM;have hcl:=hB.lt;clear hB hS wU hGF ho hc hM;obtain⟨pa,hpa⟩:∃v:Option Addr,(op.map fun o=>(⟨o,0,none⟩:Addr))=v:=⟨_,rfl⟩
 rw[hpa];have HPA:=aB hpa;clear hpa
 go_enter Tryz.func257,Tryz.ntmps257
 go_wp2_with fail;have B0:=dH.new w 243 #[.pointer (some ⟨c,0,none⟩),.pointer pa];have B1:=dH.new (w.alloc (.cells #[.pointer (some ⟨c,0,none⟩),.pointer pa] 243)) 452 #[.int .i64 0,.int .i64 0];have B2:=dH.new ((w.alloc (.cells #[.pointer (some ⟨c,0,none⟩),.pointer pa] 243)).alloc (.cells #[.int .i64 0,.int .i64 0] 452)) 453 #[.int .u64 0,.int .u64 0];have hbs:Below w.heap.size w (((w.alloc (.cells #[.pointer (some ⟨c,0,none⟩),.pointer pa] 243)).alloc (.cells #[.int .i64 0,.int .i64 0] 452)).alloc (.cells #[.int .u64 0,.int .u64 0] 453)):=bw;simp only[aO] at B1 B2;have B0':=aB ((B0.alloc (.cells #[.int .i64 0,.int .i64 0] 452)).alloc (.cells #[.int .u64 0,.int .u64 0] 453));have B1':=aB (B1.alloc (.cells #[.int .u64 0,.int .u64 0] 453));have B2':=aB B2;clear B0 B1 B2;generalize ((w.alloc (.cells #[.pointer (some ⟨c,0,none⟩),.pointer pa] 243)).alloc (.cells #[.int .i64 0,.int .i64 0] 452)).alloc (.cells #[.int .u64 0,.int .u64 0] 453)=w0 at *
 go_loopg [23] 2 (fun q x wr=>∃j:Nat,q=2 - j/\j<=2/\x=.int .i64 j/\Hid (dH wr w.heap.size 243 #[.pointer (some ⟨c,0,none⟩),.pointer pa])/\Hid (dH wr (w.heap.size+1) 452 #[.int .i64 (if 1<=j then kP l else 0),.int .i64 (if 2<=j then kP l2 else 0)]) /\
  Hid (dH wr (w.heap.size+1+1) 453 #[.int .u64 (if 1<=j then f else 0),.int .u64 (if 2<=j then f2 else 0)])/\Below w.heap.size w wr)
 case atStart=>exact⟨0,rfl,ae,rfl,B0',B1',B2',hbs⟩
 case round=>
  obtain⟨j,hq,hj,rfl,HB0,HB1,HB2,hb⟩:=hrel;have HQ:=aB hq;have hz:=hb.size;have hz2:=HB2.out.lt;clear hq hbs B0' B1' B2';have hjc:j=0\/j=1\/j=2:=ae
  rcases hjc with rfl|rfl|rfl
  ·have k0:=HB0.out.cell 0
   simp only[aF,aC] at k0;have C1:=aB (first_any wr ((show ZE w c m l f from⟨g,G,HB.out,HS.out⟩).keep hb) hl)
   go_wp2_with fail;refine(C1.out).mono ?_
   rintro e w1 ⟨rfl,hb1⟩;have b12:=hb.trans (hb1.mono hz);have HBc:=HB.out.keep b12;have k2:=HBc.cell 2;have tC:=HB1.out.keep hb1;have Iy:=HB2.out.keep hb1;have f1:=tC.frozen 0;have f2:=Iy.frozen 0;have x1:=tC.cell 0;have x2:=Iy.cell 0;simp only[aF,aC,aG] at k2 x1 x2;have X1:=aB tC;have X2:=aB Iy;have X0:=aB (HB0.out.keep hb1);have hcn:c≠w.heap.size+1:=ae
   have pU:c≠w.heap.size+1+1:=ae
   clear tC Iy HBc
   go_wp2_with fail
   go_roundg 1
   case measure=>have:=HQ.out;omega
   case rel=>exact⟨1,rfl,ae,rfl,aB ((X0.out.far ag _).far ah _),aB ((X1.out.dP 0 (.int .i64 (kP l))).far ag _),aB ((X2.out.far ag _).dP 0 (.int .u64 f)),(b12.setCell ag _).setCell ah _⟩
  ·have k0:=HB0.out.cell 1
   simp only[aF,aC,aG] at k0
   cases op with
   | none=>
    have hp:=HPA.out;simp only[Option.map_none] at hp;subst hp;obtain⟨e1,e2⟩:=(show l2=[]/\f2=0 from HO.out)
    subst e1;subst e2
    go_wp2_with fail
    go_roundg 0
    case measure=>have:=HQ.out;omega
    case rel=>exact⟨2,rfl,ae,rfl,HB0,HB1,HB2,hb⟩
   | some o=>
    have hp:=HPA.out;simp only[Option.map_some] at hp;subst hp;obtain⟨m2,hr⟩:=(show ∃m,ZE w o m l2 f2 from HO.out)
    have hr':=hr;obtain⟨go,Go_,hrB,_⟩:=hr';have hol:=hrB.lt;have C1:=aB (first_any wr (hr.keep hb) hl2);have HRB:=aB hrB;clear hr hrB
    go_wp2_with fail;refine(C1.out).mono ?_
    rintro e w1 ⟨rfl,hb1⟩;have b12:=hb.trans (hb1.mono hz);have HBc:=HRB.out.keep b12;have k2:=HBc.cell 2;have tC:=HB1.out.keep hb1;have Iy:=HB2.out.keep hb1;have f1:=tC.frozen 1;have f2':=Iy.frozen 1;have x1:=tC.cell 1;have x2:=Iy.cell 1;simp only[aF,aC,aG] at k2 x1 x2;have X1:=aB tC;have X2:=aB Iy;have X0:=aB (HB0.out.keep hb1);have hcn:o≠w.heap.size+1:=ae
    have pU:o≠w.heap.size+1+1:=ae
    clear tC Iy HBc
    go_wp2_with fail
    go_roundg 0
    case measure=>have:=HQ.out;omega
    case rel=>exact⟨2,rfl,ae,rfl,aB ((X0.out.far ag _).far ah _),aB ((X1.out.dP 1 (.int .i64 (kP l2))).far ag _),aB ((X2.out.far ag _).dP 1 (.int .u64 f2)),(b12.setCell ag _).setCell ah _⟩
  ·have HCW:=aB (HC.out wr hb)
   clear HC
   go_wp2_with fail;refine(HCW.out).mono ?_
   rintro e w2 ⟨rfl,hy,hn⟩
   by_cases her:er=0
   ·subst her
    obtain⟨s2,t2⟩:=hy rfl;have OK:=HM.out rfl;have bm5:=t2.size;have TF:¬Gr G wr w2 c:=fun h=>h.elim hGc (fun h=>by omega)
    have TG:∀k,G k->k<w.heap.size:=fun k h=>HFl.out k (HGF.out k h)
    have av3:∀k,w.heap.size<=k->k<wr.heap.size->¬Gr G wr w2 k:=fun k h1 h2 h=>h.elim (fun h=>by have:=TG k h;omega) (fun h=>by omega)
    have Bc:=aB ((t2.block c ae hGc).trans (HB.out.keep hb))
    have k0:w2.cell? ⟨c,0,none⟩=some (.int .i64 m):=dH.cell Bc.out 0;have k1:w2.cell? ⟨c,1,none⟩=some (.pointer (some ⟨g,0,none⟩)):=dH.cell Bc.out 1;have K0:=aB k0;have K1:=aB k1;have hc2:c<w2.heap.size:=ae
    have S2:=aB s2;have T2:=aB t2;have X1:Hid (dH w2 (w.heap.size+1) 452 #[.int .i64 (kP l),.int .i64 (kP l2)]):=aB ((t2.block _ ae (fun h=>by have:=TG _ h;omega)).trans HB1.out)
    have X2:Hid (dH w2 (w.heap.size+1+1) 453 #[.int .u64 f,.int .u64 f2]):=aB ((t2.block _ ae (fun h=>by have:=TG _ h;omega)).trans HB2.out)
    have oN:=aB OK;have HGN:=aB av3;clear k0 k1 s2 t2 hy hn HB0 HB1 HB2 OK av3 TG
    go_upto_region 14 with fail;refine dD (Touch (Gr G wr w2) w2) [(0,true),(1,true),(2,true),(3,true),(4,true),(5,true),(6,true),(7,true),(8,false),(9,true)] (by kernel_rfl) (by kernel_rfl) ((Touch.refl _ _).drew) ?_
    iterate 8
     refine dC ax  ax (fun R hR=>?_)
     apply aJ
     refine⟨fun w' hS'=>?_,?_⟩
     ·have k0:=(eG hS' 0 hc2 TF).trans K0.out
      have k1:=(eG hS' 1 hc2 TF).trans K1.out
      go_simp;exact⟨rfl,rfl⟩
     go_simp;refine hR _ ?_;clear hR R
    refine dE ax  ax (fun K hK=>?_)
    go_simp;refine(aa8 m w2.drew ((jf _ _).keep S2.out (aH _ _).drew) oN.out ae  ae).mono ?_
    rintro e w3 ⟨rfl,s3,t3⟩;have T3:Touch (Gr G wr w2) w2 w3:=Iq (aH _ _).drew t3;have S3:=aB s3;have TT3:=aB T3;clear s3 t3;refine hK _ _ (T3) ?_
    clear hK K
    iterate 1
     refine dC ax  ax (fun R hR=>?_)
     apply aJ
     refine⟨fun w' hS'=>?_,?_⟩
     ·have k0:=(eG hS' 0 hc2 TF).trans K0.out
      have k1:=(eG hS' 1 hc2 TF).trans K1.out
      go_simp;exact⟨rfl,rfl⟩
     go_simp;refine hR _ ?_;clear hR R
    refine dF ?_
    have ZB:=Il (m:=m) ae oN.out.gY oN.out.pos
    have hD1:(dW m M).2<=4611686018427387904:=by
     have e:tot M=tot (M.take (M.length - m))+tot (M.drop (M.length - m)):=by rw[<-dS,List.take_append_drop]
     have h2:=dL (l:=M.drop (M.length - m)) (fun p hp=>oN.out.pos p (List.mem_of_mem_drop hp))
     have h3:=oN.out.tot;show tot (M.take (M.length - m))<=_
     omega
    have hD0:=ZB.2.2.2.2;have hLL:=ZB.2.2.2.1;have HR:Hid (kX m (l,f) (l2,f2) M=((dW m M).1,(dW m M).2+fH f l (dW m M).1+fH f2 l2 (dW m M).1)):=aB rfl;obtain⟨MM,hMM⟩:∃x,(dW m M).1=x:=⟨_,rfl⟩;obtain⟨D,hDD⟩:∃x,(dW m M).2=x:=⟨_,rfl⟩;rw[hMM] at HR S3 hLL;rw[hDD] at HR hD0 hD1 |-;clear ZB hMM hDD;have t3:=TT3.out;have hz3:=t3.size;have Bc3:=aB ((t3.block c hc2 TF).trans Bc.out);have X13:=aB ((t3.block _ X1.out.lt (HGN.out _ ae  ae)).trans X1.out)
    have X23:=aB ((t3.block _ X2.out.lt (HGN.out _ ae  ae)).trans X2.out)
    have C4:=aB (first_any w3 (show ZE w3 c m MM f from⟨g,_,Bc3.out,S3.out⟩) ae)
    clear t3
    go_wp2_with fail;refine(C4.out).mono ?_
    rintro e w4 ⟨rfl,hb4⟩;have mG:=hb4.size;have B4:dH w4 c 348 #[.int .i64 m,.pointer (some ⟨g,0,none⟩),.int .u64 f]:=dH.keep Bc3.out hb4;have Y1:dH w4 (w.heap.size+1) 452 #[.int .i64 (kP l),.int .i64 (kP l2)]:=dH.keep X13.out hb4;have Y2:dH w4 (w.heap.size+1+1) 453 #[.int .u64 f,.int .u64 f2]:=dH.keep X23.out hb4;have a0:=Y1.cell 0;have a1:=Y1.cell 1;have b0:=Y2.cell 0;have b1:=Y2.cell 1;have k2:=B4.cell 2;have f2':=B4.frozen 2;simp only[aF,aC,aG] at a0 a1 b0 b1 k2;have i0:∀w,(Instr.index 453 (.agg #[.int .u64 f,.int .u64 f2]) (.int .i64 0)).run Tryz.prog w=.ok (.int .u64 f) w:=fun _=>by kernel_rfl
    have i1:∀w,(Instr.index 453 (.agg #[.int .u64 f,.int .u64 f2]) (.int .i64 1)).run Tryz.prog w=.ok (.int .u64 f2) w:=fun _=>by kernel_rfl
    have S4:=aB ((jf _ _).keep S3.out hb4);have BB4:=aB B4;clear B4 Y1 Y2
    go_wp2_with fail
    go_loopg [13,64] 2 (fun q y x wx=>(∃j:Nat,q=2 - j/\j<=2/\x=.int .i64 j/\y=.int .u64 (D+(if 1<=j then fH f l MM else 0)+(if 2<=j then fH f2 l2 MM else 0)))/\w4=wx)
    case atStart=>exact⟨⟨0,rfl,ae,rfl,ag⟩,rfl⟩
    case round=>
     obtain⟨⟨j,hq,hj,rfl,rfl⟩,rfl⟩:=hrel;have HQ:=aB hq;clear hq;have hjc:j=0\/j=1\/j=2:=ae
     rcases hjc with rfl|rfl|rfl
     ·have e0:(D+(if 1<=0 then fH f l MM else 0)+(if 2<=0 then fH f2 l2 MM else 0))=D:=ag
      have e1:Hid ((D+(if 1<=1 then fH f l MM else 0)+(if 2<=1 then fH f2 l2 MM else 0))=D+fH f l MM):=aB ag
      rw[e0];clear e0
      by_cases h1:0<f
      ·by_cases h2:kP l=kP MM
       ·have e2:Hid (fH f l MM=f):=aB (if_pos ⟨h1,h2⟩)
        have h3:(kP l == kP MM)=true:=by simp[h2]
        rw[h2] at a0
        go_wp2_with fail
        go_roundg 1
        case measure=>have:=HQ.out;omega
        case rel=>exact⟨⟨1,rfl,ae,rfl,by rw[e1.out,e2.out]⟩,rfl⟩
       ·have e2:Hid (fH f l MM=0):=aB (if_neg (fun h=>h2 h.2))
        have h3:(kP l == kP MM)=false:=beq_eq_false_iff_ne.2 h2
        go_wp2_with fail
        go_roundg 1
        case measure=>have:=HQ.out;omega
        case rel=>exact⟨⟨1,rfl,ae,rfl,by rw[e1.out,e2.out,Int.add_zero]⟩,rfl⟩
      ·have e2:Hid (fH f l MM=0):=aB (if_neg (fun h=>h1 h.1))
       go_wp2_with fail
       go_roundg 1
       case measure=>have:=HQ.out;omega
       case rel=>exact⟨⟨1,rfl,ae,rfl,by rw[e1.out,e2.out,Int.add_zero]⟩,rfl⟩
     ·have e0:(D+(if 1<=1 then fH f l MM else 0)+(if 2<=1 then fH f2 l2 MM else 0))=(D+fH f l MM):=ag
      have e1:Hid ((D+(if 1<=2 then fH f l MM else 0)+(if 2<=2 then fH f2 l2 MM else 0))=(D+fH f l MM)+fH f2 l2 MM):=aB ag
      rw[e0];clear e0;have hf:=Dt f0 f1 l MM;generalize fH f l MM=u at *
      by_cases h1:0<f2
      ·by_cases h2:kP l2=kP MM
       ·have e2:Hid (fH f2 l2 MM=f2):=aB (if_pos ⟨h1,h2⟩)
        have h3:(kP l2 == kP MM)=true:=by simp[h2]
        rw[h2] at a1
        go_wp2_with fail
        go_roundg 0
        case measure=>have:=HQ.out;omega
        case rel=>exact⟨⟨2,rfl,ae,rfl,by rw[e1.out,e2.out]⟩,rfl⟩
       ·have e2:Hid (fH f2 l2 MM=0):=aB (if_neg (fun h=>h2 h.2))
        have h3:(kP l2 == kP MM)=false:=beq_eq_false_iff_ne.2 h2
        go_wp2_with fail
        go_roundg 0
        case measure=>have:=HQ.out;omega
        case rel=>exact⟨⟨2,rfl,ae,rfl,by rw[e1.out,e2.out,Int.add_zero]⟩,rfl⟩
      ·have e2:Hid (fH f2 l2 MM=0):=aB (if_neg (fun h=>h1 h.1))
       go_wp2_with fail
       go_roundg 0
       case measure=>have:=HQ.out;omega
       case rel=>exact⟨⟨2,rfl,ae,rfl,by rw[e1.out,e2.out,Int.add_zero]⟩,rfl⟩
     ·have e0:(D+(if 1<=2 then fH f l MM else 0)+(if 2<=2 then fH f2 l2 MM else 0))=D+fH f l MM+fH f2 l2 MM:=ag
      rw[e0];clear e0;have hf:=Dt f0 f1 l MM;have hf2:=Dt g0 g1 l2 MM;have HPO:Hid (Dq c m F 0 (kX m (l,f) (l2,f2) M) w=Dq c m F 0 (MM,D+fH f l MM+fH f2 l2 MM) w):=aB (by rw[HR.out])
      generalize fH f l MM=u at *;generalize fH f2 l2 MM=v at *
      go_wp2_with fail
      go_ret;rw[HPO.out];have T4:Touch G w w4:=(Iq hb (tgr T2.out TT3.out)).trans (Touch.of_below (F:=G) hb4 (aK _)) (fun _ h=>.inl h)
      have t5:=(T4.mono (G:=F) HGF.out).setCell (p:=⟨c,2,none⟩) (.inl hFc) (.int .u64 (D+u+v));have hnc:¬Gr (Gr G wr w2) w2.drew w3 c:=fun h=>h.elim TF (fun h=>by have:=h.1;simp at this;omega)
      refine⟨rfl,fun _=>⟨⟨g,_,BB4.out.dP 2 (.int .u64 (D+u+v)),(jf g MM).stay S4.out (fun k hk=>bF _ _ _ k (fun e=>hnc (by rw[<-show k=c from e];exact hk))) ag,.inl hFc,hnc,fun k hk=>?_,jI HFl.out t5.size⟩,t5⟩,fun h=>absurd rfl h⟩
      have JO:(w4.setCell ⟨c,2,none⟩ (.int .u64 (D+u+v))).heap.size=w4.heap.size:=ag
      rcases hk with(hk|hk)|hk
      ·exact .inl (HGF.out k hk)
      ·exact .inr ⟨by omega,ae⟩
      ·have h1:=hk.1
       simp at h1
       exact .inr ⟨by omega,by have:=hk.2;omega⟩
   ·have hb2:=hb.trans ((hn her).mono hz)
    have bm6:(er != 0)=true:=by simpa using her
    clear hy hn
    go_wp2_with fail
    go_ret;exact⟨rfl,fun h=>absurd h her,fun _=>hb2⟩
open Go.RowKit
theorem Xd{c m g p q r:Nat}{l:List Pr}{f k n:Int}{G:Ft}(W:World)(hB:dH W c 348 #[.int .i64 m,.pointer (some ⟨g,0,none⟩),.int .u64 f])(hS:oQ g l G W)(ok:yw l)(n0:0<=n)(n1:n<18446744073709551616)(hl:l.length<100000)
 (hp:W.cell? ⟨p,0,none⟩=some (.pointer (some ⟨c,0,none⟩))) (hq:W.cell? ⟨q,0,none⟩=some (.int .i64 k)) (hr:W.cell? ⟨r,0,none⟩=some (.int .u64 n)) (gp:¬G p) (gq:¬G q) (gr:¬G r) (gc:¬G c) :
 Calls Tryz.prog 315 #[.pointer (some ⟨p,0,none⟩),.pointer (some ⟨q,0,none⟩),.pointer (some ⟨r,0,none⟩)] W (GoP g (eQ k n l) G (iR l k n) W):=by
 have k1:=hB.cell 1;simp only[aF,aC,aG] at k1;have hpl:=b_ _ _ hp;have hql:=b_ _ _ hq;have hrl:=b_ _ _ hr;have hcl:=hB.lt;have X:=aB (aN hp (aN hq (aN hr k1)));have C:Hid (∀W',Below W.heap.size W W'->Calls Tryz.prog 316 #[.pointer (some ⟨g,0,none⟩),.int .i64 k,.int .u64 n] W' (GoP g (eQ k n l) G (iR l k n) W')):=aB (fun W' hb=>by
  have h:=(jf g l).keep hS hb
  by_cases he:iR l k n=0
  ·rw[he]
   exact(WZ k n W' h ok n0 he hl).mono fun e w' ⟨h1,h2,h3⟩=>⟨h1,fun _=>⟨h2,h3⟩,fun h=>absurd rfl h⟩
  ·exact(aa7 k n W' h ok n0 n1 he).mono fun e w' ⟨h1,h2⟩=>⟨h1,fun h=>absurd h he,fun _=>by subst h2;exact aH _ _⟩)
 have HS:=aB hS;clear hp hq hr k1 hB hS ok;generalize eQ k n l=M at *;generalize iR l k n=er at *
 go_enter Tryz.func315,Tryz.ntmps315
 go_wp2_with fail;have lS:=aB (fun w' (hS':(Touch G W) w')=>(aN ((eG hS' 0 hpl gp).trans X.out.1) (aN ((eG hS' 0 hql gq).trans X.out.2.1) (aN ((eG hS' 0 hrl gr).trans X.out.2.2.1) ((eG hS' 1 hcl gc).trans X.out.2.2.2)))))
 refine dD (Touch G W) [(0,true),(1,true),(2,true),(3,true),(4,true),(5,true),(6,false),(7,true)] (by kernel_rfl) (by kernel_rfl) ((Touch.refl _ _).drew) ?_
 iterate 6
  refine dC ax  ax (fun R hR=>?_)
  apply aJ
  refine⟨fun w' hS'=>?_,?_⟩
  ·obtain⟨k0,k1,k2,k3⟩:=lS.out w' hS'
   go_simp;exact⟨rfl,rfl⟩
  go_simp;refine hR _ ?_;clear hR R
 refine dE ax  ax (fun K hK=>?_)
 go_simp;refine(C.out W.drew (aH _ _).drew).mono ?_
 rintro e w3 ⟨rfl,hy,hn⟩;have H:=aB (aN hy hn);have T3:Touch G W w3:=(by by_cases he:er=0;exact Iq (aH _ _).drew (hy he).2;exact Touch.of_below ((aH _ _).drew.trans (hn he)) (aK _))
 clear hy hn;refine hK _ _ (T3) ?_
 clear hK K
 iterate 1
  refine dC ax  ax (fun R hR=>?_)
  apply aJ
  refine⟨fun w' hS'=>?_,?_⟩
  ·obtain⟨k0,k1,k2,k3⟩:=lS.out w' hS'
   go_simp;exact⟨rfl,rfl⟩
  go_simp;refine hR _ ?_;clear hR R
 refine dF ?_
 go_wp2_with fail
 go_ret;exact⟨rfl,fun h=>⟨(H.out.1 h).1,Iq (aH _ _).drew (H.out.1 h).2⟩,fun h=>(aH _ _).drew.trans (H.out.2 h)⟩
theorem ab2{l:List Pr}(ok:yw l){m:Nat}(hm:0<m):yw (dW m l).1:=by
 obtain⟨h1,h2,h3,h4,h5⟩:=Il hm ok.gY ok.pos;refine⟨h1,h2,fun p hp=>?_,by rw[h3];exact ok.tot,?_⟩
 ·unfold dW at hp
  cases hd:l.drop (l.length - m) with
  | nil=>rw[hd] at hp;simp[bump] at hp
  | cons q r=>
   rw[hd] at hp
   rcases a_.1 hp with rfl|hp
   ·exact ok.key q (List.mem_of_mem_drop (i:=l.length - m) (by rw[hd];exact aQ ..))
   ·exact ok.key p (List.mem_of_mem_drop (i:=l.length - m) (by rw[hd];exact aV _ hp))
 ·have:=ok.len
  unfold dW;rw[bump_length,bn];omega
theorem Xe{c m:Nat}{l:List Pr}{f k n:Int}{F:Ft}(w:World)(h:Iw c m l f F w)(ok:yw l)(hl:l.length<=m)(hm0:2<=m)(hm1:m<=4096)(f0:0<=f)(f1:f<=4611686018427387904)(n0:0<=n)(n1:n<18446744073709551616) :
 Calls Tryz.prog 222 #[.pointer (some ⟨c,0,none⟩),.int .i64 k,.int .u64 n] w (Dq c m F (iR l k n) (kX m (l,f) ([],0) (eQ k n l)) w):=by
 have h':=h;obtain⟨g,G,hB,hS,hFc,hGc,hGF,wU⟩:=h';have b0:Below w.heap.size w (((w.alloc (.cells #[.pointer (some ⟨c,0,none⟩)] 243)).alloc (.cells #[.int .i64 k] 3)).alloc (.cells #[.int .u64 n] 53)):=bw;have p0:(((w.alloc (.cells #[.pointer (some ⟨c,0,none⟩)] 243)).alloc (.cells #[.int .i64 k] 3)).alloc (.cells #[.int .u64 n] 53)).cell? ⟨w.heap.size,0,none⟩=some (.pointer (some ⟨c,0,none⟩)):=(((dH.new w 243 #[.pointer (some ⟨c,0,none⟩)]).alloc _).alloc _).cell 0;have p1:(((w.alloc (.cells #[.pointer (some ⟨c,0,none⟩)] 243)).alloc (.cells #[.int .i64 k] 3)).alloc (.cells #[.int .u64 n] 53)).cell? ⟨w.heap.size+1,0,none⟩=some (.int .i64 k):=by
  have:=((dH.new (w.alloc (.cells #[.pointer (some ⟨c,0,none⟩)] 243)) 3 #[.int .i64 k]).alloc (.cells #[.int .u64 n] 53)).cell 0
  rwa [aO] at this
 have p2:(((w.alloc (.cells #[.pointer (some ⟨c,0,none⟩)] 243)).alloc (.cells #[.int .i64 k] 3)).alloc (.cells #[.int .u64 n] 53)).cell? ⟨w.heap.size+1+1,0,none⟩=some (.int .u64 n):=by
  have:=(dH.new ((w.alloc (.cells #[.pointer (some ⟨c,0,none⟩)] 243)).alloc (.cells #[.int .i64 k] 3)) 53 #[.int .u64 n]).cell 0
  rwa [aO,aO] at this
 have hz0:(((w.alloc (.cells #[.pointer (some ⟨c,0,none⟩)] 243)).alloc (.cells #[.int .i64 k] 3)).alloc (.cells #[.int .u64 n] 53)).heap.size=w.heap.size+1+1+1:=ag
 have Xf:Hid (∀e w',Dq c m F (iR l k n) (kX m (l,f) ([],0) (eQ k n l)) (((w.alloc (.cells #[.pointer (some ⟨c,0,none⟩)] 243)).alloc (.cells #[.int .i64 k] 3)).alloc (.cells #[.int .u64 n] 53)) e w'->Dq c m F (iR l k n) (kX m (l,f) ([],0) (eQ k n l)) w e w'):=aB (fun e w' ⟨h1,h2,h3⟩=>⟨h1,fun he=>by
  obtain⟨h4,h5⟩:=h2 he;refine⟨(pg _ _ _ _).more h4 (fun k hk=>hk.imp id (fun h=>⟨by rw[hz0] at h;omega,h.2⟩)) (jI wU (by have:=h5.size;omega)),Iq b0 h5⟩,fun he=>b0.trans ((h3 he).mono b0.size)⟩)
 have C:Hid (Calls Tryz.prog 257 #[.pointer (some ⟨c,0,none⟩),.func (.func 315) #[] #[.pointer (some ⟨w.heap.size,0,none⟩),.pointer (some ⟨w.heap.size+1,0,none⟩),.pointer (some ⟨w.heap.size+1+1,0,none⟩)],.pointer none] (((w.alloc (.cells #[.pointer (some ⟨c,0,none⟩)] 243)).alloc (.cells #[.int .i64 k] 3)).alloc (.cells #[.int .u64 n] 53)) (Dq c m F (iR l k n) (kX m (l,f) ([],0) (eQ k n l)) (((w.alloc (.cells #[.pointer (some ⟨c,0,none⟩)] 243)).alloc (.cells #[.int .i64 k] 3)).alloc (.cells #[.int .u64 n] 53)))):=by
  generalize ((w.alloc (.cells #[.pointer (some ⟨c,0,none⟩)] 243)).alloc (.cells #[.int .i64 k] 3)).alloc (.cells #[.int .u64 n] 53)=W0 at *;have TG:∀k,G k->k<w.heap.size:=fun k h=>wU k (hGF k h)
  refine aB (zK (op:=none) 315 _ W0 (hB.keep b0) ((jf g l).keep hS b0) hFc hGc hGF (fun k hk=>aU (wU k hk) b0.size) ⟨rfl,rfl⟩ f0 f1 ae  ae  ae ag hm0 hm1 (fun he=>WY ok he n0 ae) (fun _ _=>rfl) (fun W hb=>?_))
  have hb':=b0.trans (hb.mono b0.size);exact Xd W (hB.keep hb') ((jf g l).keep hS hb') ok n0 n1 ae ((hb.cell (p:=⟨w.heap.size,0,none⟩) (by show w.heap.size<_;omega)).trans p0) ((hb.cell (p:=⟨w.heap.size+1,0,none⟩) (by show w.heap.size+1<_;omega)).trans p1) ((hb.cell (p:=⟨w.heap.size+1+1,0,none⟩) (by show w.heap.size+1+1<_;omega)).trans p2)
   (fun h=>by have:=TG _ h;omega) (fun h=>by have:=TG _ h;omega) (fun h=>by have:=TG _ h;omega) hGc
 clear h hB hS ok wU hGF p0 p1 p2 b0 hz0
 go_enter Tryz.func222,Tryz.ntmps222
 go_wp2_with fail;refine(C.out).mono ?_
 intro e w' h;have hp:=Xf.out e w' h;obtain⟨rfl,_⟩:=h;have HP:=aB hp;clear hp
 go_wp2_with fail
 go_ret;exact HP.out
def gJ(l l2:List Pr):Int:=if 4611686018427387904<tot l+tot l2 then 6 else 0
theorem TI{c o m m2 g h p q:Nat}{l l2:List Pr}{f f2:Int}{G G2:Ft}(W:World)(hB:dH W c 348 #[.int .i64 m,.pointer (some ⟨g,0,none⟩),.int .u64 f])(hS:oQ g l G W)(hB2:dH W o 348 #[.int .i64 m2,.pointer (some ⟨h,0,none⟩),.int .u64 f2])(hS2:oQ h l2 G2 W)
 (ok:yw l) (ok2:yw l2) (hl:l.length+l2.length<=100000) (hp:W.cell? ⟨p,0,none⟩=some (.pointer (some ⟨c,0,none⟩))) (hq:W.cell? ⟨q,0,none⟩=some (.pointer (some ⟨o,0,none⟩))) (gp:¬G p) (gq:¬G q) (gc:¬G c) (go:¬G o) :
 Calls Tryz.prog 258 #[.pointer (some ⟨p,0,none⟩),.pointer (some ⟨q,0,none⟩)] W (GoP g (fA l l2) G (gJ l l2) W):=by
 have k1:=hB.cell 1;have k2:=hB2.cell 1;simp only[aF,aC,aG] at k1 k2;have hpl:=b_ _ _ hp;have hql:=b_ _ _ hq;have hcl:=hB.lt;have hol:=hB2.lt;have X:=aB (aN hp (aN hq (aN k1 k2)));have C:Hid (∀W',Below W.heap.size W W'->Calls Tryz.prog 259 #[.pointer (some ⟨g,0,none⟩),.pointer (some ⟨h,0,none⟩)] W' (GoP g (fA l l2) G (gJ l l2) W')):=aB (fun W' hb=>by
  have h1:=(jf g l).keep hS hb;have h2:=(jf h l2).keep hS2 hb;unfold gJ
  by_cases he:4611686018427387904<tot l+tot l2
  ·rw[if_pos he]
   exact(Ol W' h1 h2 ok ok2 he).mono fun e w' ⟨h1,n,h2⟩=>⟨h1,fun h=>absurd h af,fun _=>by subst h2;exact below_drewN (aH _ _) _⟩
  ·rw[if_neg he]
   exact(TE W' h1 h2 ok ok2 ae hl).mono fun e w' ⟨h1,h2,h3⟩=>⟨h1,fun _=>⟨h2,h3⟩,fun h=>absurd rfl h⟩)
 clear hp hq k1 k2 hB hS hB2 hS2 ok ok2;generalize fA l l2=M at *;generalize gJ l l2=er at *
 go_enter Tryz.func258,Tryz.ntmps258
 go_wp2_with fail;have lS:=aB (fun w' (hS':(Touch G W) w')=>(aN ((eG hS' 0 hpl gp).trans X.out.1) (aN ((eG hS' 0 hql gq).trans X.out.2.1) (aN ((eG hS' 1 hcl gc).trans X.out.2.2.1) ((eG hS' 1 hol go).trans X.out.2.2.2)))))
 refine dD (Touch G W) [(0,true),(1,true),(2,true),(3,true),(4,true),(5,true),(6,true),(7,true),(8,false),(9,true)] (by kernel_rfl) (by kernel_rfl) ((Touch.refl _ _).drew) ?_
 iterate 8
  refine dC ax  ax (fun R hR=>?_)
  apply aJ
  refine⟨fun w' hS'=>?_,?_⟩
  ·obtain⟨k0,k1,k2,k3⟩:=lS.out w' hS'
   go_simp;exact⟨rfl,rfl⟩
  go_simp;refine hR _ ?_;clear hR R
 refine dE ax  ax (fun K hK=>?_)
 go_simp;refine(C.out W.drew (aH _ _).drew).mono ?_
 rintro e w3 ⟨rfl,hy,hn⟩;have H:=aB (aN hy hn);have T3:Touch G W w3:=(by by_cases he:er=0;exact Iq (aH _ _).drew (hy he).2;exact Touch.of_below ((aH _ _).drew.trans (hn he)) (aK _))
 clear hy hn;refine hK _ _ (T3) ?_
 clear hK K
 iterate 1
  refine dC ax  ax (fun R hR=>?_)
  apply aJ
  refine⟨fun w' hS'=>?_,?_⟩
  ·obtain⟨k0,k1,k2,k3⟩:=lS.out w' hS'
   go_simp;exact⟨rfl,rfl⟩
  go_simp;refine hR _ ?_;clear hR R
 refine dF ?_
 go_wp2_with fail
 go_ret;exact⟨rfl,fun h=>⟨(H.out.1 h).1,Iq (aH _ _).drew (H.out.1 h).2⟩,fun h=>(aH _ _).drew.trans (H.out.2 h)⟩
theorem TJ{c o m m2:Nat}{l l2:List Pr}{f f2:Int}{F:Ft}(w:World)(h:Iw c m l f F w)(h2:ZE w o m2 l2 f2)(ok:yw l)(ok2:yw l2)(hl:l.length<=m)(hl2:l2.length<=4096)(hm0:2<=m)(hm1:m<=4096)(f0:0<=f)(f1:f<=4611686018427387904)(g0:0<=f2)(g1:f2<=4611686018427387904)(ho:¬F o\/o=c)(hm2:m2<=4096) :
 Calls Tryz.prog 165 #[.pointer (some ⟨c,0,none⟩),.pointer (some ⟨o,0,none⟩)] w (Dq c m F (if m2=m then gJ l l2 else 3) (kX m (l,f) (l2,f2) (fA l l2)) w):=by
 have h':=h;obtain⟨g,G,hB,hS,hFc,hGc,hGF,wU⟩:=h';have h2':=h2;obtain⟨gh,G2,hB2,hS2⟩:=h2';have hGo:¬G o:=fun hg=>ho.elim (fun h=>h (hGF o hg)) (fun e=>hGc (e▸hg))
 have b0:Below w.heap.size w ((w.alloc (.cells #[.pointer (some ⟨c,0,none⟩)] 243)).alloc (.cells #[.pointer (some ⟨o,0,none⟩)] 243)):=bw;have p0:((w.alloc (.cells #[.pointer (some ⟨c,0,none⟩)] 243)).alloc (.cells #[.pointer (some ⟨o,0,none⟩)] 243)).cell? ⟨w.heap.size,0,none⟩=some (.pointer (some ⟨c,0,none⟩)):=((dH.new w 243 #[.pointer (some ⟨c,0,none⟩)]).alloc _).cell 0;have p1:((w.alloc (.cells #[.pointer (some ⟨c,0,none⟩)] 243)).alloc (.cells #[.pointer (some ⟨o,0,none⟩)] 243)).cell? ⟨w.heap.size+1,0,none⟩=some (.pointer (some ⟨o,0,none⟩)):=by
  have:=(dH.new (w.alloc (.cells #[.pointer (some ⟨c,0,none⟩)] 243)) 243 #[.pointer (some ⟨o,0,none⟩)]).cell 0
  rwa [aO] at this
 have hz0:((w.alloc (.cells #[.pointer (some ⟨c,0,none⟩)] 243)).alloc (.cells #[.pointer (some ⟨o,0,none⟩)] 243)).heap.size=w.heap.size+1+1:=ag
 have k0:=(b0.cell (p:=⟨c,0,none⟩) hB.lt).trans (hB.cell 0);have k2:=(b0.cell (p:=⟨o,0,none⟩) hB2.lt).trans (hB2.cell 0);simp only[aF,aC] at k0 k2;have hcl:=hB.lt;have hol:=hB2.lt
 by_cases hmm:m2=m
 ·subst hmm
  rw[if_pos rfl];have Xf:Hid (∀n e w',Dq c m2 F (gJ l l2) (kX m2 (l,f) (l2,f2) (fA l l2)) ((((w.alloc (.cells #[.pointer (some ⟨c,0,none⟩)] 243)).alloc (.cells #[.pointer (some ⟨o,0,none⟩)] 243))).drewN n) e w'->Dq c m2 F (gJ l l2) (kX m2 (l,f) (l2,f2) (fA l l2)) w e w'):=aB (fun n e w' ⟨h1,h2,h3⟩=>⟨h1,fun he=>by
   obtain⟨h4,h5⟩:=h2 he;have h6:=h5.size;simp only[fG] at h6;refine⟨(pg _ _ _ _).more h4 (fun k hk=>hk.imp id (fun h=>⟨by simp only[fG,hz0] at h;omega,h.2⟩)) (jI wU ae),Iq b0 (Iq (below_drewN (aH _ _) n) h5)⟩,fun he=>b0.trans ((below_drewN (aH _ _) n).trans (h3 he) |>.mono b0.size)⟩)
  have C:Hid (∀n,Calls Tryz.prog 257 #[.pointer (some ⟨c,0,none⟩),.func (.func 258) #[] #[.pointer (some ⟨w.heap.size,0,none⟩),.pointer (some ⟨w.heap.size+1,0,none⟩)],.pointer (some ⟨o,0,none⟩)] (((w.alloc (.cells #[.pointer (some ⟨c,0,none⟩)] 243)).alloc (.cells #[.pointer (some ⟨o,0,none⟩)] 243)).drewN n) (Dq c m2 F (gJ l l2) (kX m2 (l,f) (l2,f2) (fA l l2)) (((w.alloc (.cells #[.pointer (some ⟨c,0,none⟩)] 243)).alloc (.cells #[.pointer (some ⟨o,0,none⟩)] 243)).drewN n))):=by
   refine aB (fun n=>?_)
   generalize (w.alloc (.cells #[.pointer (some ⟨c,0,none⟩)] 243)).alloc (.cells #[.pointer (some ⟨o,0,none⟩)] 243)=W0 at *;have b1:=below_drewN b0 n;have TG:∀k,G k->k<w.heap.size:=fun k h=>wU k (hGF k h)
   refine zK (op:=some o) 258 _ (W0.drewN n) (hB.keep b1) ((jf g l).keep hS b1) hFc hGc hGF (fun k hk=>aU (wU k hk) b1.size) ⟨m2,h2.keep b1⟩ f0 f1 g0 g1 ae  ae hm0 hm1 (fun he=>?_) (fun _ _=>rfl) (fun W hb=>?_)
   ·unfold gJ at he
    split at he
    ·omega
    ·exact ab1 ok ok2 ae  ae
   ·have hb':=b1.trans (hb.mono b1.size)
    exact TI W (hB.keep hb') ((jf g l).keep hS hb') (hB2.keep hb') ((jf gh l2).keep hS2 hb') ok ok2 ae ((hb.cell (p:=⟨w.heap.size,0,none⟩) (by show w.heap.size<W0.heap.size;omega)).trans p0) ((hb.cell (p:=⟨w.heap.size+1,0,none⟩) (by show w.heap.size+1<W0.heap.size;omega)).trans p1)
     (fun h=>by have:=TG _ h;omega) (fun h=>by have:=TG _ h;omega) hGc hGo
  clear h h2 hB hS hB2 hS2 ok ok2 wU hGF p0 p1 b0 hz0;have hd:((m2:Int) != (m2:Int))=false:=ag
  go_enter Tryz.func165,Tryz.ntmps165
  go_wp2_with fail
  go_quiet (fail)
  go_wp2_with fail;refine(C.out _).mono ?_
  intro e w' h;have hp:=Xf.out _ e w' h;obtain⟨rfl,_⟩:=h;have HP:=aB hp;clear hp
  go_wp2_with fail
  go_ret;exact HP.out
 ·rw[if_neg hmm]
  have hd:((m2:Int) != (m:Int))=true:=ah
  clear h h2 hB hS hB2 hS2 ok ok2 wU hGF p0 p1 hz0
  go_enter Tryz.func165,Tryz.ntmps165
  go_wp2_with fail
  go_quiet (fail)
  go_wp2_with fail
  go_ret;exact⟨rfl,fun h=>absurd h af,fun _=>below_drewN b0 _⟩
end Go.Proofs.YtkiebccnpheloaaGreat.D
