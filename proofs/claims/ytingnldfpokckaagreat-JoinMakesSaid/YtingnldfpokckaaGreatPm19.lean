/- Parts of a proof: what its theorem reaches, words cut short. No condition of its own. -/
import Derived.Test.YtingnldfpokckaaGreatPm18
set_option maxRecDepth 100000
set_option maxHeartbeats 16000000
set_option linter.unusedVariables false
set_option linter.unusedSimpArgs false
namespace Go.Proofs.YtingnldfpokckaaGreat.D
open Go.RowKit
def CntP(c m:Nat)(F:Ft)(er:Int)(s:List Pr × Int)(w:World)(e:Ending)(w':World):Prop:=
 e=.returned (.int .i64 er)/\(er=0->CoAt c m s.1 s.2 (Gr F w w') w'/\Touch F w w')/\(er≠0->Below w.heap.size w w')
def GoP(g:Nat)(M:List Pr)(G:Ft)(er:Int)(W:World)(e:Ending)(W':World):Prop:=
 e=.returned (.int .i64 er)/\(er=0->SpAt g M (Gr G W W') W'/\Touch G W W')/\(er≠0->Below W.heap.size W W')
def OthR(w:World)(op:Option Nat)(l:List Pr)(f:Int):Prop:=match op with
 | some o=>∃m,CoR w o m l f
 | none=>l=[]/\f=0
theorem foldF_bd{f:Int}(h0:0<=f)(h1:f<=4611686018427387904)(l M:List Pr):0<=foldF f l M/\foldF f l M<=4611686018427387904:=by
 unfold foldF;split<;>omega
theorem counted_any{c m g:Nat}{l l2 M:List Pr}{f f2 er:Int}{F G:Ft}{op:Option Nat}(K:Nat)(cb:Array Value)(w:World)
 (hB:Blk w c 217 #[.int .i64 m,.pointer (some ⟨g,0,none⟩),.int .u64 f]) (hS:SpAt g l G w) (hFc:F c) (hGc:¬G c) (hGF:∀k,G k->F k) (hFl:∀k,F k->k<w.heap.size) (ho:OthR w op l2 f2)
 (f0:0<=f) (f1:f<=4611686018427387904) (g0:0<=f2) (g1:f2<=4611686018427387904) (hl:l.length<=100000) (hl2:l2.length<=100000) (hm0:2<=m) (hm1:m<=4096) (hM:er=0->OkP M)
 (eg:∀args w,(callFunc K args).run Tryz.prog w=.ok (.enter K args) w) (hc:∀W,Below w.heap.size w W->Calls Tryz.prog K cb W (GoP g M G er W)) :
 Calls Tryz.prog 140 #[.pointer (some ⟨c,0,none⟩),.func (.func K) #[] cb,.pointer (op.map fun o=>⟨o,0,none⟩)] w (CntP c m F er (stepK m (l,f) (l2,f2) M) w):=by
 have HB:=Lib.hid hB
 have HS:=Lib.hid hS
 have HFl:=Lib.hid hFl
 have HGF:=Lib.hid hGF
 have HO:=Lib.hid ho
 have HC:=Lib.hid hc
 have HM:=Lib.hid hM
 have hcl:=hB.lt
 clear hB hS hFl hGF ho hc hM
 obtain⟨pa,hpa⟩:∃v:Option Addr,(op.map fun o=>(⟨o,0,none⟩:Addr))=v:=⟨_,rfl⟩
 rw[hpa]
 have HPA:=Lib.hid hpa
 clear hpa
 go_enter Tryz.func140,Tryz.ntmps140
 go_wp2_with fail
 have B0:=Blk.new w 126 #[.pointer (some ⟨c,0,none⟩),.pointer pa]
 have B1:=Blk.new (w.alloc (.cells #[.pointer (some ⟨c,0,none⟩),.pointer pa] 126)) 334 #[.int .i64 0,.int .i64 0]
 have B2:=Blk.new ((w.alloc (.cells #[.pointer (some ⟨c,0,none⟩),.pointer pa] 126)).alloc (.cells #[.int .i64 0,.int .i64 0] 334)) 335 #[.int .u64 0,.int .u64 0]
 have hbs:Below w.heap.size w (((w.alloc (.cells #[.pointer (some ⟨c,0,none⟩),.pointer pa] 126)).alloc (.cells #[.int .i64 0,.int .i64 0] 334)).alloc (.cells #[.int .u64 0,.int .u64 0] 335)):=by(repeat' (first|(with_reducible exact Below.refl _ _)|(with_reducible refine Below.alloc ?_ ?_ _)|(with_reducible refine Below.drew ?_)|(with_reducible refine below_drewN ?_ _)|(with_reducible refine Below.setCell ?_ ?_ _)|(with_reducible refine below_of (by assumption) ?_ ?_)|go_size))
 simp only[World.size_alloc] at B1 B2
 have B0':=Lib.hid ((B0.alloc (.cells #[.int .i64 0,.int .i64 0] 334)).alloc (.cells #[.int .u64 0,.int .u64 0] 335))
 have B1':=Lib.hid (B1.alloc (.cells #[.int .u64 0,.int .u64 0] 335))
 have B2':=Lib.hid B2
 clear B0 B1 B2
 generalize ((w.alloc (.cells #[.pointer (some ⟨c,0,none⟩),.pointer pa] 126)).alloc (.cells #[.int .i64 0,.int .i64 0] 334)).alloc (.cells #[.int .u64 0,.int .u64 0] 335)=w0 at *
 go_loopg [23] 2 (fun q x wr=>∃j:Nat,q=2 - j/\j<=2/\x=.int .i64 j/\Hid (Blk wr w.heap.size 126 #[.pointer (some ⟨c,0,none⟩),.pointer pa])/\Hid (Blk wr (w.heap.size+1) 334 #[.int .i64 (if 1<=j then key0 l else 0),.int .i64 (if 2<=j then key0 l2 else 0)]) /\
  Hid (Blk wr (w.heap.size+1+1) 335 #[.int .u64 (if 1<=j then f else 0),.int .u64 (if 2<=j then f2 else 0)])/\Below w.heap.size w wr)
 case atStart=>exact⟨0,rfl,by omega,rfl,B0',B1',B2',hbs⟩
 case round=>
  obtain⟨j,hq,hj,rfl,HB0,HB1,HB2,hb⟩:=hrel
  have HQ:=Lib.hid hq
  have hz:=hb.size
  have hz2:=HB2.out.lt
  clear hq hbs B0' B1' B2'
  have hjc:j=0\/j=1\/j=2:=by omega
  rcases hjc with rfl|rfl|rfl
  ·have k0:=HB0.out.cell 0
   simp only[List.getElem?_toArray,List.getElem?_cons_zero] at k0
   have C1:=Lib.hid (first_any wr ((show CoR w c m l f from⟨g,G,HB.out,HS.out⟩).keep hb) hl)
   go_wp2_with fail
   refine(C1.out).mono ?_
   rintro e w1 ⟨rfl,hb1⟩
   have b12:=hb.trans (hb1.mono hz)
   have HBc:=HB.out.keep b12
   have k2:=HBc.cell 2
   have HB1':=HB1.out.keep hb1
   have HB2':=HB2.out.keep hb1
   have f1:=HB1'.frozen 0
   have f2:=HB2'.frozen 0
   have x1:=HB1'.cell 0
   have x2:=HB2'.cell 0
   simp only[List.getElem?_toArray,List.getElem?_cons_zero,List.getElem?_cons_succ] at k2 x1 x2
   have X1:=Lib.hid HB1'
   have X2:=Lib.hid HB2'
   have X0:=Lib.hid (HB0.out.keep hb1)
   have hcn:c≠w.heap.size+1:=by omega
   have hcn2:c≠w.heap.size+1+1:=by omega
   clear HB1' HB2' HBc
   go_wp2_with fail
   go_roundg 1
   case measure=>have:=HQ.out;omega
   case rel=>exact⟨1,rfl,by omega,rfl,Lib.hid ((X0.out.far (by simp) _).far (by simp;omega) _),Lib.hid ((X1.out.set_ 0 (.int .i64 (key0 l))).far (by simp) _),Lib.hid ((X2.out.far (by simp) _).set_ 0 (.int .u64 f)),(b12.setCell (by simp) _).setCell (by simp;omega) _⟩
  ·have k0:=HB0.out.cell 1
   simp only[List.getElem?_toArray,List.getElem?_cons_zero,List.getElem?_cons_succ] at k0
   cases op with
   | none=>
    have hp:=HPA.out
    simp only[Option.map_none] at hp
    subst hp
    obtain⟨e1,e2⟩:=(show l2=[]/\f2=0 from HO.out)
    subst e1;subst e2
    go_wp2_with fail
    go_roundg 0
    case measure=>have:=HQ.out;omega
    case rel=>exact⟨2,rfl,by omega,rfl,HB0,HB1,HB2,hb⟩
   | some o=>
    have hp:=HPA.out
    simp only[Option.map_some] at hp
    subst hp
    obtain⟨m2,hr⟩:=(show ∃m,CoR w o m l2 f2 from HO.out)
    have hr':=hr
    obtain⟨go,Go_,hrB,_⟩:=hr'
    have hol:=hrB.lt
    have C1:=Lib.hid (first_any wr (hr.keep hb) hl2)
    have HRB:=Lib.hid hrB
    clear hr hrB
    go_wp2_with fail
    refine(C1.out).mono ?_
    rintro e w1 ⟨rfl,hb1⟩
    have b12:=hb.trans (hb1.mono hz)
    have HBc:=HRB.out.keep b12
    have k2:=HBc.cell 2
    have HB1':=HB1.out.keep hb1
    have HB2':=HB2.out.keep hb1
    have f1:=HB1'.frozen 1
    have f2':=HB2'.frozen 1
    have x1:=HB1'.cell 1
    have x2:=HB2'.cell 1
    simp only[List.getElem?_toArray,List.getElem?_cons_zero,List.getElem?_cons_succ] at k2 x1 x2
    have X1:=Lib.hid HB1'
    have X2:=Lib.hid HB2'
    have X0:=Lib.hid (HB0.out.keep hb1)
    have hcn:o≠w.heap.size+1:=by omega
    have hcn2:o≠w.heap.size+1+1:=by omega
    clear HB1' HB2' HBc
    go_wp2_with fail
    go_roundg 0
    case measure=>have:=HQ.out;omega
    case rel=>exact⟨2,rfl,by omega,rfl,Lib.hid ((X0.out.far (by simp) _).far (by simp;omega) _),Lib.hid ((X1.out.set_ 1 (.int .i64 (key0 l2))).far (by simp) _),Lib.hid ((X2.out.far (by simp) _).set_ 1 (.int .u64 f2)),(b12.setCell (by simp) _).setCell (by simp;omega) _⟩
  ·have HCW:=Lib.hid (HC.out wr hb)
   clear HC
   go_wp2_with fail
   refine(HCW.out).mono ?_
   rintro e w2 ⟨rfl,hy,hn⟩
   by_cases her:er=0
   ·subst her
    obtain⟨s2,t2⟩:=hy rfl
    have OK:=HM.out rfl
    have hz2w:=t2.size
    have hG2c:¬Gr G wr w2 c:=fun h=>h.elim hGc (fun h=>by omega)
    have hGl:∀k,G k->k<w.heap.size:=fun k h=>HFl.out k (HGF.out k h)
    have hG2n:∀k,w.heap.size<=k->k<wr.heap.size->¬Gr G wr w2 k:=fun k h1 h2 h=>h.elim (fun h=>by have:=hGl k h;omega) (fun h=>by omega)
    have Bc:=Lib.hid ((t2.block c (by omega) hGc).trans (HB.out.keep hb))
    have k0:w2.cell? ⟨c,0,none⟩=some (.int .i64 m):=Blk.cell Bc.out 0
    have k1:w2.cell? ⟨c,1,none⟩=some (.pointer (some ⟨g,0,none⟩)):=Blk.cell Bc.out 1
    have K0:=Lib.hid k0
    have K1:=Lib.hid k1
    have hc2:c<w2.heap.size:=by omega
    have S2:=Lib.hid s2
    have T2:=Lib.hid t2
    have X1:Hid (Blk w2 (w.heap.size+1) 334 #[.int .i64 (key0 l),.int .i64 (key0 l2)]):=Lib.hid ((t2.block _ (by omega) (fun h=>by have:=hGl _ h;omega)).trans HB1.out)
    have X2:Hid (Blk w2 (w.heap.size+1+1) 335 #[.int .u64 f,.int .u64 f2]):=Lib.hid ((t2.block _ (by omega) (fun h=>by have:=hGl _ h;omega)).trans HB2.out)
    have HOK:=Lib.hid OK
    have HGN:=Lib.hid hG2n
    clear k0 k1 s2 t2 hy hn HB0 HB1 HB2 OK hG2n hGl
    go_upto_region 14 with fail
    refine wp_region_plan (Touch (Gr G wr w2) w2) [(0,true),(1,true),(2,true),(3,true),(4,true),(5,true),(6,true),(7,true),(8,false),(9,true)] (by kernel_rfl) (by kernel_rfl) ((Touch.refl _ _).drew) ?_
    iterate 8
     refine wpPlan_read (by rfl) (by rfl) (fun R hR=>?_)
     apply Exists.intro
     refine⟨fun w' hS'=>?_,?_⟩
     ·have k0:=(tcell hS' 0 hc2 hG2c).trans K0.out
      have k1:=(tcell hS' 1 hc2 hG2c).trans K1.out
      go_simp
      exact⟨rfl,rfl⟩
     go_simp
     refine hR _ ?_
     clear hR R
    refine wpPlan_do (by rfl) (by rfl) (fun K hK=>?_)
    go_simp
    refine(cut_any m w2.drew ((sp_stay _ _).keep S2.out (Below.refl _ _).drew) HOK.out (by omega) (by omega)).mono ?_
    rintro e w3 ⟨rfl,s3,t3⟩
    have T3:Touch (Gr G wr w2) w2 w3:=btl (Below.refl _ _).drew t3
    have S3:=Lib.hid s3
    have TT3:=Lib.hid T3
    clear s3 t3
    refine hK _ _ (T3) ?_
    clear hK K
    iterate 1
     refine wpPlan_read (by rfl) (by rfl) (fun R hR=>?_)
     apply Exists.intro
     refine⟨fun w' hS'=>?_,?_⟩
     ·have k0:=(tcell hS' 0 hc2 hG2c).trans K0.out
      have k1:=(tcell hS' 1 hc2 hG2c).trans K1.out
      go_simp
      exact⟨rfl,rfl⟩
     go_simp
     refine hR _ ?_
     clear hR R
    refine wpPlan_nil ?_
    have hcu:=cut_srt (m:=m) (by omega) HOK.out.srt HOK.out.pos
    have hD1:(cutP m M).2<=4611686018427387904:=by
     have e:tot M=tot (M.take (M.length - m))+tot (M.drop (M.length - m)):=by rw[<-tot_append,List.take_append_drop]
     have h2:=tot_nonneg (l:=M.drop (M.length - m)) (fun p hp=>HOK.out.pos p (List.mem_of_mem_drop hp))
     have h3:=HOK.out.tot
     show tot (M.take (M.length - m))<=_
     omega
    have hD0:=hcu.2.2.2.2
    have hLL:=hcu.2.2.2.1
    have HR:Hid (stepK m (l,f) (l2,f2) M=((cutP m M).1,(cutP m M).2+foldF f l (cutP m M).1+foldF f2 l2 (cutP m M).1)):=Lib.hid rfl
    obtain⟨MM,hMM⟩:∃x,(cutP m M).1=x:=⟨_,rfl⟩
    obtain⟨D,hDD⟩:∃x,(cutP m M).2=x:=⟨_,rfl⟩
    rw[hMM] at HR S3 hLL
    rw[hDD] at HR hD0 hD1 |-
    clear hcu hMM hDD
    have t3:=TT3.out
    have hz3:=t3.size
    have Bc3:=Lib.hid ((t3.block c hc2 hG2c).trans Bc.out)
    have X13:=Lib.hid ((t3.block _ X1.out.lt (HGN.out _ (by omega) (by omega))).trans X1.out)
    have X23:=Lib.hid ((t3.block _ X2.out.lt (HGN.out _ (by omega) (by omega))).trans X2.out)
    have C4:=Lib.hid (first_any w3 (show CoR w3 c m MM f from⟨g,_,Bc3.out,S3.out⟩) (by omega))
    clear t3
    go_wp2_with fail
    refine(C4.out).mono ?_
    rintro e w4 ⟨rfl,hb4⟩
    have hz4:=hb4.size
    have B4:Blk w4 c 217 #[.int .i64 m,.pointer (some ⟨g,0,none⟩),.int .u64 f]:=Blk.keep Bc3.out hb4
    have Y1:Blk w4 (w.heap.size+1) 334 #[.int .i64 (key0 l),.int .i64 (key0 l2)]:=Blk.keep X13.out hb4
    have Y2:Blk w4 (w.heap.size+1+1) 335 #[.int .u64 f,.int .u64 f2]:=Blk.keep X23.out hb4
    have a0:=Y1.cell 0
    have a1:=Y1.cell 1
    have b0:=Y2.cell 0
    have b1:=Y2.cell 1
    have k2:=B4.cell 2
    have f2':=B4.frozen 2
    simp only[List.getElem?_toArray,List.getElem?_cons_zero,List.getElem?_cons_succ] at a0 a1 b0 b1 k2
    have i0:∀w,(Instr.index 335 (.agg #[.int .u64 f,.int .u64 f2]) (.int .i64 0)).run Tryz.prog w=.ok (.int .u64 f) w:=fun _=>by kernel_rfl
    have i1:∀w,(Instr.index 335 (.agg #[.int .u64 f,.int .u64 f2]) (.int .i64 1)).run Tryz.prog w=.ok (.int .u64 f2) w:=fun _=>by kernel_rfl
    have S4:=Lib.hid ((sp_stay _ _).keep S3.out hb4)
    have BB4:=Lib.hid B4
    clear B4 Y1 Y2
    go_wp2_with fail
    go_loopg [13,64] 2 (fun q y x wx=>(∃j:Nat,q=2 - j/\j<=2/\x=.int .i64 j/\y=.int .u64 (D+(if 1<=j then foldF f l MM else 0)+(if 2<=j then foldF f2 l2 MM else 0)))/\w4=wx)
    case atStart=>exact⟨⟨0,rfl,by omega,rfl,by simp⟩,rfl⟩
    case round=>
     obtain⟨⟨j,hq,hj,rfl,rfl⟩,rfl⟩:=hrel
     have HQ:=Lib.hid hq
     clear hq
     have hjc:j=0\/j=1\/j=2:=by omega
     rcases hjc with rfl|rfl|rfl
     ·have e0:(D+(if 1<=0 then foldF f l MM else 0)+(if 2<=0 then foldF f2 l2 MM else 0))=D:=by simp
      have e1:Hid ((D+(if 1<=1 then foldF f l MM else 0)+(if 2<=1 then foldF f2 l2 MM else 0))=D+foldF f l MM):=Lib.hid (by simp)
      rw[e0]
      clear e0
      by_cases h1:0<f
      ·by_cases h2:key0 l=key0 MM
       ·have e2:Hid (foldF f l MM=f):=Lib.hid (if_pos ⟨h1,h2⟩)
        have h3:(key0 l == key0 MM)=true:=by simp[h2]
        rw[h2] at a0
        go_wp2_with fail
        go_roundg 1
        case measure=>have:=HQ.out;omega
        case rel=>exact⟨⟨1,rfl,by omega,rfl,by rw[e1.out,e2.out]⟩,rfl⟩
       ·have e2:Hid (foldF f l MM=0):=Lib.hid (if_neg (fun h=>h2 h.2))
        have h3:(key0 l == key0 MM)=false:=beq_eq_false_iff_ne.2 h2
        go_wp2_with fail
        go_roundg 1
        case measure=>have:=HQ.out;omega
        case rel=>exact⟨⟨1,rfl,by omega,rfl,by rw[e1.out,e2.out,Int.add_zero]⟩,rfl⟩
      ·have e2:Hid (foldF f l MM=0):=Lib.hid (if_neg (fun h=>h1 h.1))
       go_wp2_with fail
       go_roundg 1
       case measure=>have:=HQ.out;omega
       case rel=>exact⟨⟨1,rfl,by omega,rfl,by rw[e1.out,e2.out,Int.add_zero]⟩,rfl⟩
     ·have e0:(D+(if 1<=1 then foldF f l MM else 0)+(if 2<=1 then foldF f2 l2 MM else 0))=(D+foldF f l MM):=by simp
      have e1:Hid ((D+(if 1<=2 then foldF f l MM else 0)+(if 2<=2 then foldF f2 l2 MM else 0))=(D+foldF f l MM)+foldF f2 l2 MM):=Lib.hid (by simp)
      rw[e0]
      clear e0
      have hf:=foldF_bd f0 f1 l MM
      generalize foldF f l MM=u at *
      by_cases h1:0<f2
      ·by_cases h2:key0 l2=key0 MM
       ·have e2:Hid (foldF f2 l2 MM=f2):=Lib.hid (if_pos ⟨h1,h2⟩)
        have h3:(key0 l2 == key0 MM)=true:=by simp[h2]
        rw[h2] at a1
        go_wp2_with fail
        go_roundg 0
        case measure=>have:=HQ.out;omega
        case rel=>exact⟨⟨2,rfl,by omega,rfl,by rw[e1.out,e2.out]⟩,rfl⟩
       ·have e2:Hid (foldF f2 l2 MM=0):=Lib.hid (if_neg (fun h=>h2 h.2))
        have h3:(key0 l2 == key0 MM)=false:=beq_eq_false_iff_ne.2 h2
        go_wp2_with fail
        go_roundg 0
        case measure=>have:=HQ.out;omega
        case rel=>exact⟨⟨2,rfl,by omega,rfl,by rw[e1.out,e2.out,Int.add_zero]⟩,rfl⟩
      ·have e2:Hid (foldF f2 l2 MM=0):=Lib.hid (if_neg (fun h=>h1 h.1))
       go_wp2_with fail
       go_roundg 0
       case measure=>have:=HQ.out;omega
       case rel=>exact⟨⟨2,rfl,by omega,rfl,by rw[e1.out,e2.out,Int.add_zero]⟩,rfl⟩
     ·have e0:(D+(if 1<=2 then foldF f l MM else 0)+(if 2<=2 then foldF f2 l2 MM else 0))=D+foldF f l MM+foldF f2 l2 MM:=by simp
      rw[e0]
      clear e0
      have hf:=foldF_bd f0 f1 l MM
      have hf2:=foldF_bd g0 g1 l2 MM
      have HPO:Hid (CntP c m F 0 (stepK m (l,f) (l2,f2) M) w=CntP c m F 0 (MM,D+foldF f l MM+foldF f2 l2 MM) w):=Lib.hid (by rw[HR.out])
      generalize foldF f l MM=u at *
      generalize foldF f2 l2 MM=v at *
      go_wp2_with fail
      go_ret
      rw[HPO.out]
      have T4:Touch G w w4:=(btl hb (tgr T2.out TT3.out)).trans (Touch.of_below (F:=G) hb4 (Nat.le_refl _)) (fun _ h=>.inl h)
      have t5:=(T4.mono (G:=F) HGF.out).setCell (p:=⟨c,2,none⟩) (.inl hFc) (.int .u64 (D+u+v))
      have hnc:¬Gr (Gr G wr w2) w2.drew w3 c:=fun h=>h.elim hG2c (fun h=>by have:=h.1;simp at this;omega)
      refine⟨rfl,fun _=>⟨⟨g,_,BB4.out.set_ 2 (.int .u64 (D+u+v)),(sp_stay g MM).stay S4.out (fun k hk=>Below.heap_setCell _ _ _ k (fun e=>hnc (by rw[<-show k=c from e];exact hk))) (by simp),.inl hFc,hnc,fun k hk=>?_,gr_lt HFl.out t5.size⟩,t5⟩,fun h=>absurd rfl h⟩
      have hz5:(w4.setCell ⟨c,2,none⟩ (.int .u64 (D+u+v))).heap.size=w4.heap.size:=by simp
      rcases hk with(hk|hk)|hk
      ·exact .inl (HGF.out k hk)
      ·exact .inr ⟨by omega,by omega⟩
      ·have h1:=hk.1
       simp at h1
       exact .inr ⟨by omega,by have:=hk.2;omega⟩
   ·have hb2:=hb.trans ((hn her).mono hz)
    have her':(er != 0)=true:=by simpa using her
    clear hy hn
    go_wp2_with fail
    go_ret
    exact⟨rfl,fun h=>absurd h her,fun _=>hb2⟩
open Go.RowKit
theorem okP_cut{l:List Pr}(ok:OkP l){m:Nat}(hm:0<m):OkP (cutP m l).1:=by
 obtain⟨h1,h2,h3,h4,h5⟩:=cut_srt hm ok.srt ok.pos
 refine⟨h1,h2,fun p hp=>?_,by rw[h3];exact ok.tot,?_⟩
 ·unfold cutP at hp
  cases hd:l.drop (l.length - m) with
  | nil=>rw[hd] at hp;simp[bump] at hp
  | cons q r=>
   rw[hd] at hp
   rcases List.mem_cons.1 hp with rfl|hp
   ·exact ok.key q (List.mem_of_mem_drop (i:=l.length - m) (by rw[hd];exact List.mem_cons_self ..))
   ·exact ok.key p (List.mem_of_mem_drop (i:=l.length - m) (by rw[hd];exact List.mem_cons_of_mem _ hp))
 ·have:=ok.len
  unfold cutP
  rw[bump_length,List.length_drop];omega
def ctakeE(l l2:List Pr):Int:=if 4611686018427387904<tot l+tot l2 then 6 else 0
theorem take1_any{c o m m2 g h p q:Nat}{l l2:List Pr}{f f2:Int}{G G2:Ft}(W:World)(hB:Blk W c 217 #[.int .i64 m,.pointer (some ⟨g,0,none⟩),.int .u64 f])(hS:SpAt g l G W)(hB2:Blk W o 217 #[.int .i64 m2,.pointer (some ⟨h,0,none⟩),.int .u64 f2])(hS2:SpAt h l2 G2 W)
 (ok:OkP l) (ok2:OkP l2) (hl:l.length+l2.length<=100000) (hp:W.cell? ⟨p,0,none⟩=some (.pointer (some ⟨c,0,none⟩))) (hq:W.cell? ⟨q,0,none⟩=some (.pointer (some ⟨o,0,none⟩))) (gp:¬G p) (gq:¬G q) (gc:¬G c) (go:¬G o) :
 Calls Tryz.prog 141 #[.pointer (some ⟨p,0,none⟩),.pointer (some ⟨q,0,none⟩)] W (GoP g (mrgP l l2) G (ctakeE l l2) W):=by
 have k1:=hB.cell 1
 have k2:=hB2.cell 1
 simp only[List.getElem?_toArray,List.getElem?_cons_zero,List.getElem?_cons_succ] at k1 k2
 have hpl:=World.block_lt_of_cell? _ _ hp
 have hql:=World.block_lt_of_cell? _ _ hq
 have hcl:=hB.lt
 have hol:=hB2.lt
 have X:=Lib.hid (And.intro hp (And.intro hq (And.intro k1 k2)))
 have C:Hid (∀W',Below W.heap.size W W'->Calls Tryz.prog 142 #[.pointer (some ⟨g,0,none⟩),.pointer (some ⟨h,0,none⟩)] W' (GoP g (mrgP l l2) G (ctakeE l l2) W')):=Lib.hid (fun W' hb=>by
  have h1:=(sp_stay g l).keep hS hb
  have h2:=(sp_stay h l2).keep hS2 hb
  unfold ctakeE
  by_cases he:4611686018427387904<tot l+tot l2
  ·rw[if_pos he]
   exact(stake_over W' h1 h2 ok ok2 he).mono fun e w' ⟨h1,n,h2⟩=>⟨h1,fun h=>absurd h (by decide),fun _=>by subst h2;exact below_drewN (Below.refl _ _) _⟩
  ·rw[if_neg he]
   exact(stake_yes W' h1 h2 ok ok2 (by omega) hl).mono fun e w' ⟨h1,h2,h3⟩=>⟨h1,fun _=>⟨h2,h3⟩,fun h=>absurd rfl h⟩)
 clear hp hq k1 k2 hB hS hB2 hS2 ok ok2
 generalize mrgP l l2=M at *
 generalize ctakeE l l2=er at *
 go_enter Tryz.func141,Tryz.ntmps141
 go_wp2_with fail
 have FBq:=Lib.hid (fun w' (hS':(Touch G W) w')=>(And.intro ((tcell hS' 0 hpl gp).trans X.out.1) (And.intro ((tcell hS' 0 hql gq).trans X.out.2.1) (And.intro ((tcell hS' 1 hcl gc).trans X.out.2.2.1) ((tcell hS' 1 hol go).trans X.out.2.2.2)))))
 refine wp_region_plan (Touch G W) [(0,true),(1,true),(2,true),(3,true),(4,true),(5,true),(6,true),(7,true),(8,false),(9,true)] (by kernel_rfl) (by kernel_rfl) ((Touch.refl _ _).drew) ?_
 iterate 8
  refine wpPlan_read (by rfl) (by rfl) (fun R hR=>?_)
  apply Exists.intro
  refine⟨fun w' hS'=>?_,?_⟩
  ·obtain⟨k0,k1,k2,k3⟩:=FBq.out w' hS'
   go_simp
   exact⟨rfl,rfl⟩
  go_simp
  refine hR _ ?_
  clear hR R
 refine wpPlan_do (by rfl) (by rfl) (fun K hK=>?_)
 go_simp
 refine(C.out W.drew (Below.refl _ _).drew).mono ?_
 rintro e w3 ⟨rfl,hy,hn⟩
 have H:=Lib.hid (And.intro hy hn)
 have T3:Touch G W w3:=(by by_cases he:er=0;exact btl (Below.refl _ _).drew (hy he).2;exact Touch.of_below ((Below.refl _ _).drew.trans (hn he)) (Nat.le_refl _))
 clear hy hn
 refine hK _ _ (T3) ?_
 clear hK K
 iterate 1
  refine wpPlan_read (by rfl) (by rfl) (fun R hR=>?_)
  apply Exists.intro
  refine⟨fun w' hS'=>?_,?_⟩
  ·obtain⟨k0,k1,k2,k3⟩:=FBq.out w' hS'
   go_simp
   exact⟨rfl,rfl⟩
  go_simp
  refine hR _ ?_
  clear hR R
 refine wpPlan_nil ?_
 go_wp2_with fail
 go_ret
 exact⟨rfl,fun h=>⟨(H.out.1 h).1,btl (Below.refl _ _).drew (H.out.1 h).2⟩,fun h=>(Below.refl _ _).drew.trans (H.out.2 h)⟩
theorem ctake_any{c o m m2:Nat}{l l2:List Pr}{f f2:Int}{F:Ft}(w:World)(h:CoAt c m l f F w)(h2:CoR w o m2 l2 f2)(ok:OkP l)(ok2:OkP l2)(hl:l.length<=m)(hl2:l2.length<=4096)(hm0:2<=m)(hm1:m<=4096)(f0:0<=f)(f1:f<=4611686018427387904)(g0:0<=f2)(g1:f2<=4611686018427387904)(ho:¬F o\/o=c)(hm2:m2<=4096) :
 Calls Tryz.prog 70 #[.pointer (some ⟨c,0,none⟩),.pointer (some ⟨o,0,none⟩)] w (CntP c m F (if m2=m then ctakeE l l2 else 3) (stepK m (l,f) (l2,f2) (mrgP l l2)) w):=by
 have h':=h
 obtain⟨g,G,hB,hS,hFc,hGc,hGF,hFl⟩:=h'
 have h2':=h2
 obtain⟨gh,G2,hB2,hS2⟩:=h2'
 have hGo:¬G o:=fun hg=>ho.elim (fun h=>h (hGF o hg)) (fun e=>hGc (e▸hg))
 have b0:Below w.heap.size w ((w.alloc (.cells #[.pointer (some ⟨c,0,none⟩)] 126)).alloc (.cells #[.pointer (some ⟨o,0,none⟩)] 126)):=by(repeat' (first|(with_reducible exact Below.refl _ _)|(with_reducible refine Below.alloc ?_ ?_ _)|(with_reducible refine Below.drew ?_)|(with_reducible refine below_drewN ?_ _)|(with_reducible refine Below.setCell ?_ ?_ _)|(with_reducible refine below_of (by assumption) ?_ ?_)|go_size))
 have p0:((w.alloc (.cells #[.pointer (some ⟨c,0,none⟩)] 126)).alloc (.cells #[.pointer (some ⟨o,0,none⟩)] 126)).cell? ⟨w.heap.size,0,none⟩=some (.pointer (some ⟨c,0,none⟩)):=((Blk.new w 126 #[.pointer (some ⟨c,0,none⟩)]).alloc _).cell 0
 have p1:((w.alloc (.cells #[.pointer (some ⟨c,0,none⟩)] 126)).alloc (.cells #[.pointer (some ⟨o,0,none⟩)] 126)).cell? ⟨w.heap.size+1,0,none⟩=some (.pointer (some ⟨o,0,none⟩)):=by
  have:=(Blk.new (w.alloc (.cells #[.pointer (some ⟨c,0,none⟩)] 126)) 126 #[.pointer (some ⟨o,0,none⟩)]).cell 0
  rwa [World.size_alloc] at this
 have hz0:((w.alloc (.cells #[.pointer (some ⟨c,0,none⟩)] 126)).alloc (.cells #[.pointer (some ⟨o,0,none⟩)] 126)).heap.size=w.heap.size+1+1:=by simp
 have k0:=(b0.cell (p:=⟨c,0,none⟩) hB.lt).trans (hB.cell 0)
 have k2:=(b0.cell (p:=⟨o,0,none⟩) hB2.lt).trans (hB2.cell 0)
 simp only[List.getElem?_toArray,List.getElem?_cons_zero] at k0 k2
 have hcl:=hB.lt
 have hol:=hB2.lt
 by_cases hmm:m2=m
 ·subst hmm
  rw[if_pos rfl]
  have HPOST:Hid (∀n e w',CntP c m2 F (ctakeE l l2) (stepK m2 (l,f) (l2,f2) (mrgP l l2)) ((((w.alloc (.cells #[.pointer (some ⟨c,0,none⟩)] 126)).alloc (.cells #[.pointer (some ⟨o,0,none⟩)] 126))).drewN n) e w'->CntP c m2 F (ctakeE l l2) (stepK m2 (l,f) (l2,f2) (mrgP l l2)) w e w'):=Lib.hid (fun n e w' ⟨h1,h2,h3⟩=>⟨h1,fun he=>by
   obtain⟨h4,h5⟩:=h2 he
   have h6:=h5.size
   simp only[size_drewN] at h6
   refine⟨(co_stay _ _ _ _).more h4 (fun k hk=>hk.imp id (fun h=>⟨by simp only[size_drewN,hz0] at h;omega,h.2⟩)) (gr_lt hFl (by omega)),btl b0 (btl (below_drewN (Below.refl _ _) n) h5)⟩,fun he=>b0.trans ((below_drewN (Below.refl _ _) n).trans (h3 he) |>.mono b0.size)⟩)
  have C:Hid (∀n,Calls Tryz.prog 140 #[.pointer (some ⟨c,0,none⟩),.func (.func 141) #[] #[.pointer (some ⟨w.heap.size,0,none⟩),.pointer (some ⟨w.heap.size+1,0,none⟩)],.pointer (some ⟨o,0,none⟩)] (((w.alloc (.cells #[.pointer (some ⟨c,0,none⟩)] 126)).alloc (.cells #[.pointer (some ⟨o,0,none⟩)] 126)).drewN n) (CntP c m2 F (ctakeE l l2) (stepK m2 (l,f) (l2,f2) (mrgP l l2)) (((w.alloc (.cells #[.pointer (some ⟨c,0,none⟩)] 126)).alloc (.cells #[.pointer (some ⟨o,0,none⟩)] 126)).drewN n))):=by
   refine Lib.hid (fun n=>?_)
   generalize (w.alloc (.cells #[.pointer (some ⟨c,0,none⟩)] 126)).alloc (.cells #[.pointer (some ⟨o,0,none⟩)] 126)=W0 at *
   have b1:=below_drewN b0 n
   have hGl:∀k,G k->k<w.heap.size:=fun k h=>hFl k (hGF k h)
   refine counted_any (op:=some o) 141 _ (W0.drewN n) (hB.keep b1) ((sp_stay g l).keep hS b1) hFc hGc hGF (fun k hk=>Nat.lt_of_lt_of_le (hFl k hk) b1.size) ⟨m2,h2.keep b1⟩ f0 f1 g0 g1 (by omega) (by omega) hm0 hm1 (fun he=>?_) (fun _ _=>rfl) (fun W hb=>?_)
   ·unfold ctakeE at he
    split at he
    ·omega
    ·exact mrg_okP ok ok2 (by omega) (by omega)
   ·have hb':=b1.trans (hb.mono b1.size)
    exact take1_any W (hB.keep hb') ((sp_stay g l).keep hS hb') (hB2.keep hb') ((sp_stay gh l2).keep hS2 hb') ok ok2 (by omega) ((hb.cell (p:=⟨w.heap.size,0,none⟩) (by show w.heap.size<W0.heap.size;omega)).trans p0) ((hb.cell (p:=⟨w.heap.size+1,0,none⟩) (by show w.heap.size+1<W0.heap.size;omega)).trans p1)
     (fun h=>by have:=hGl _ h;omega) (fun h=>by have:=hGl _ h;omega) hGc hGo
  clear h h2 hB hS hB2 hS2 ok ok2 hFl hGF p0 p1 b0 hz0
  have hd:((m2:Int) != (m2:Int))=false:=by simp
  go_enter Tryz.func70,Tryz.ntmps70
  go_wp2_with fail
  go_quiet (fail)
  go_wp2_with fail
  refine(C.out _).mono ?_
  intro e w' h
  have hp:=HPOST.out _ e w' h
  obtain⟨rfl,_⟩:=h
  have HP:=Lib.hid hp
  clear hp
  go_wp2_with fail
  go_ret
  exact HP.out
 ·rw[if_neg hmm]
  have hd:((m2:Int) != (m:Int))=true:=by simp;omega
  clear h h2 hB hS hB2 hS2 ok ok2 hFl hGF p0 p1 hz0
  go_enter Tryz.func70,Tryz.ntmps70
  go_wp2_with fail
  go_quiet (fail)
  go_wp2_with fail
  go_ret
  exact⟨rfl,fun h=>absurd h (by decide),fun _=>below_drewN b0 _⟩
open Go.RowKit
theorem tot_take_le{l:List Pr}(hp:PosP l)(j:Nat):0<=tot (l.take j)/\tot (l.take j)<=tot l:=by
 have e:tot l=tot (l.take j)+tot (l.drop j):=by rw[<-tot_append,List.take_append_drop]
 have h1:=tot_nonneg (l:=l.take j) (fun p h=>hp p (List.mem_of_mem_take h))
 have h2:=tot_nonneg (l:=l.drop j) (fun p h=>hp p (List.mem_of_mem_drop h))
 omega
theorem tot_take_succ{l:List Pr}{j:Nat}(hj:j<l.length):tot (l.take (j+1))=tot (l.take j)+l[j].2:=by rw[List.take_succ_eq_append_getElem hj,tot_append];simp
theorem rtot_any(v:Value)(l:List Pr)(w:World)(h:RdE prE w v l)(hp:PosP l)(ht:tot l<=9223372036854775807)(hl:l.length<=1000000000) :
 Calls Tryz.prog 78 #[v] w fun e w'=>e=.returned (.int .u64 (tot l))/\w=w':=by
 obtain⟨A,c,rfl,_,_,hf⟩:=h.form
 have HF:=Lib.hid hf
 have HB:Hid (∀j,0<=tot (l.take j)/\tot (l.take j)<=9223372036854775807):=Lib.hid (fun j=>by have:=tot_take_le hp j;omega)
 clear h hf hp
 go_enter Tryz.func78,Tryz.ntmps78
 go_wp2_with fail
 go_loopg [3,4] l.length (fun q s x wr=>(∃j:Nat,q=l.length - j/\j<=l.length/\x=.int .i64 j/\s=.int .u64 (tot (l.take j)))/\w=wr)
 case atStart=>exact⟨⟨0,rfl,by omega,rfl,rfl⟩,rfl⟩
 case round=>
  obtain⟨⟨j,hq,hj,rfl,rfl⟩,rfl⟩:=hrel
  have HQ:=Lib.hid hq
  clear hq
  by_cases hlt:j<l.length
  ·obtain⟨g,off,rfl,hg,c0,c1⟩:=pr_at HF.out hlt
   have HS:=Lib.hid (tot_take_succ hlt)
   have b1:=HB.out j
   have b2:=HB.out (j+1)
   rw[HS.out] at b2
   have hji:(j:Int)<(l.length:Int):=by omega
   obtain⟨s,hs⟩:∃s,tot (l.take j)=s:=⟨_,rfl⟩
   rw[hs] at HS b1 b2 |-
   clear hs
   generalize l[j].1=x at *
   generalize l[j].2=n at *
   go_wp2_with fail
   go_roundg (l.length - (j+1))
   case measure=>have:=HQ.out;omega
   case rel=>exact⟨⟨j+1,rfl,by omega,by go_num,by rw[HS.out]⟩,rfl⟩
  ·obtain rfl:j=l.length:=by omega
   rw[List.take_of_length_le (Nat.le_refl _)]
   go_wp2_with fail
   go_ret
   exact⟨rfl,rfl⟩
end Go.Proofs.YtingnldfpokckaaGreat.D
