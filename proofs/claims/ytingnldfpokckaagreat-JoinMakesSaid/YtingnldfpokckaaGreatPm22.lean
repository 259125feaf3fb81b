/- Parts of a proof: what its theorem reaches, words cut short. No condition of its own. -/
import Derived.Test.YtingnldfpokckaaGreatPm21
set_option maxRecDepth 100000
set_option maxHeartbeats 16000000
set_option linter.unusedVariables false
set_option linter.unusedSimpArgs false
namespace Go.Proofs.YtingnldfpokckaaGreat.D
open Go.RowKit Go.Lib
theorem r21write_any{a m:Nat}{q:List Pr}{f:Int}(v:Value)(w:World)(h:RdE prE w v q)(hq:OkP q)(a1:a<=5000)(m1:m<=4096)(f0:0<=f)(f1:f<=4611686018427387904) :
 Calls Tryz.prog 156 #[.int .i64 a,.int .i64 m,v,.int .u64 f] w fun e w'=>∃v,e=.returned v/\OwnB w.heap.size w' v (wrDd a m q f)/\Below w.heap.size w w':=by
 obtain⟨A,k,rfl,_,_,hf⟩:=h.form
 have HF:=Lib.hid hf
 have HQK:=Lib.hid hq
 have hlen:=hq.len
 have HO4:Hid (outs4 a m q.length f 4=(([]++leb a)++leb m++leb q.length)++leb f):=Lib.hid rfl
 have l1:=leb_len a
 have l2:=leb_len m
 have l3:=leb_len q.length
 have l4:=leb_len f
 clear h hf hq
 go_enter Tryz.func156,Tryz.ntmps156
 go_wp2_with fail
 refine(r21v_any a w.heap.size _ [] w (Nat.le_refl _) (OwnI.nil_ _ _ _ _) (by simp) (by omega) (by omega)).mono ?_
 rintro e w1 ⟨v1,rfl,o1,hb1⟩
 have O1:=Lib.hid o1
 have hz1:=hb1.size
 clear o1
 go_wp2_with fail
 refine(r21v_any m w.heap.size _ _ w1 hz1 O1.out (by simp;omega) (by omega) (by omega)).mono ?_
 rintro e w2 ⟨v2,rfl,o2,hb2⟩
 have O2:=Lib.hid o2
 have hb12:=hb1.trans hb2
 have hz2:=hb12.size
 clear o2
 go_wp2_with fail
 refine(r21v_any q.length w.heap.size _ _ w2 hz2 O2.out (by simp only[List.length_append,List.length_nil];omega) (by omega) (by omega)).mono ?_
 rintro e w3 ⟨v3,rfl,o3,hb3⟩
 have O3:=Lib.hid o3
 have hb13:=hb12.trans hb3
 have hz3:=hb13.size
 clear o3
 go_wp2_with fail
 refine(r21v_any f w.heap.size _ _ w3 hz3 O3.out (by simp only[List.length_append,List.length_nil];omega) (by omega) (by omega)).mono ?_
 rintro e w4 ⟨v4,rfl,o4,hb4⟩
 have hb14:=hb13.trans hb4
 have O4:=Lib.hid o4
 rw[<-HO4.out] at O4
 clear o4 O1 O2 O3 HO4 l1 l2 l3 l4
 have hG:=outs4_bd a m q.length f
 have HW:Hid (wrDd a m q f=outs4 a m q.length f 4++wrI q q.length):=Lib.hid rfl
 generalize outs4 a m q.length f 4=G at *
 go_wp2_with fail
 go_loopg [9,10] q.length (fun r y x wr=>∃(j:Nat) (b:Value),b=y/\r=q.length - j/\j<=q.length/\x=.int .i64 j/\Hid (OwnB w.heap.size wr b (G++wrI q j))/\Below w.heap.size w wr)
 case atStart=>exact⟨0,_,rfl,by omega,by omega,rfl,Lib.hid (by simpa[wrI] using O4.out),hb14⟩
 case round=>
  obtain⟨j,b,rfl,hq,hj,rfl,HO,hb⟩:=hrel
  have HQ:=Lib.hid hq
  clear hq
  have hzw:=hb.size
  have hgl:=wrI_len q j
  have hgl2:(G++wrI q j).length<=100000000:=by rw[List.length_append];omega
  by_cases hlt:j<q.length
  ·obtain⟨g,off,rfl,hg,c0w,c1w⟩:=pr_at HF.out hlt
   have CC:=Lib.hid (And.intro c0w c1w)
   have c0:=(hb.cell (p:=⟨g,off+j * 2,none⟩) hg).trans c0w
   have hk:=HQK.out.key _ (List.getElem_mem hlt)
   have hp:=HQK.out.pos _ (List.getElem_mem hlt)
   have hp2:=pos_le HQK.out.pos _ (List.getElem_mem hlt)
   have ht:=HQK.out.tot
   have hji:(j:Int)<(q.length:Int):=by omega
   have HN:Hid (nP q j=q[j]):=Lib.hid (nP_at hlt)
   have hn2:q[j].2<18446744073709551616:=by omega
   rcases Nat.eq_zero_or_pos j with rfl|hj0
   ·have HWR:Hid (wrI q (0+1)=wrI q 0++zg q[0].1++leb q[0].2):=Lib.hid (by rw[<-HN.out];rfl)
    have z0:((0:Nat):Int)=0:=rfl
    have HZ:Hid (zg q[0].1=pcP q 0):=Lib.hid (by rw[<-HN.out];rfl)
    simp only[Nat.zero_mul,Nat.add_zero] at c0 CC
    generalize q[0].1=x at *
    generalize q[0].2=n at *
    rw[z0]
    clear z0 c0w c1w
    have hj0:(0:Int)<(q.length:Int):=by omega
    go_wp2_with fail
    refine(r21z_any x _ w.heap.size _ (G++wrI q 0) wr hzw HO.out (by omega) (by rw[u64w];rfl) (by omega) (by omega)).mono ?_
    rintro e w6 ⟨v6,rfl,o6,hb6⟩
    have O6:=Lib.hid o6
    have hb06:=hb.trans hb6
    have hz6:=hb06.size
    have c1:=(hb06.cell (p:=⟨g,off+1,none⟩) hg).trans CC.out.2
    have hgl4:(zg x).length<=10:=by rw[HZ.out];exact pcP_len q 0
    clear o6
    go_wp2_with fail
    refine(r21v_any n w.heap.size _ (G++wrI q 0++zg x) w6 hz6 O6.out (by simp only[List.length_append] at hgl2 |-;omega) (by omega) (by omega)).mono ?_
    rintro e w7 ⟨v7,rfl,o7,hb7⟩
    have O7:=Lib.hid o7
    clear o7
    go_wp2_with fail
    go_roundg (q.length - (0+1))
    case measure=>have:=HQ.out;omega
    case rel=>exact⟨0+1,_,rfl,rfl,by omega,by go_num,Lib.hid (by rw[HWR.out,<-List.append_assoc,<-List.append_assoc];exact O7.out),hb06.trans hb7⟩
   ·obtain⟨s,rfl⟩:∃s,j=s+1:=⟨j - 1,by omega⟩
    obtain⟨g',off',he,_,d0w,_⟩:=pr_at HF.out (j:=s) (by omega)
    cases he
    have D0:=Lib.hid d0w
    have hgap:=ok_gap HQK.out hlt
    have hk2:=HQK.out.key _ (List.getElem_mem (show s<q.length by omega))
    have HN2:Hid (nP q s=q[s]):=Lib.hid (nP_at (by omega))
    have HWR:Hid (wrI q (s+1+1)=wrI q (s+1)++leb (q[s+1].1 - q[s].1 - 1)++leb q[s+1].2):=Lib.hid (by rw[<-HN.out,<-HN2.out];rfl)
    have HZ:Hid (leb (q[s+1].1 - q[s].1 - 1)=pcP q (s+1)):=Lib.hid (by rw[<-HN.out,<-HN2.out];rfl)
    generalize q[s+1].1=x at *
    generalize q[s+1].2=n at *
    generalize q[s].1=y at *
    have HWS:Hid (IntKind.i64.wrap (s:Int)=(s:Int)):=Lib.hid (by rw[IntKind.wrap_i64];omega)
    have HW1:Hid (IntKind.i64.wrap (x - y)=x - y):=Lib.hid (by rw[IntKind.wrap_i64];omega)
    have HW2:Hid (IntKind.i64.wrap (x - y - 1)=x - y - 1):=Lib.hid (by rw[IntKind.wrap_i64];omega)
    have HW3:Hid (IntKind.u64.wrap (x - y - 1)=x - y - 1):=Lib.hid (by rw[u64w];omega)
    clear c0w c1w d0w c0
    have hs1:((s+1:Nat):Int)≠0:=by omega
    have hsq:(s:Int)<(q.length:Int):=by omega
    go_upto_region 10 with fail
    refine wp_region_plan (Below w.heap.size wr) [(0,true),(1,true),(2,true),(3,true),(4,true),(5,true),(6,true),(7,true),(8,true),(9,true),(10,true),(11,true),(12,true),(13,true),(14,true),(15,false),(16,true)] (by kernel_rfl) (by kernel_rfl) ((Below.refl _ _).drew) ?_
    iterate 15
     refine wpPlan_read (by rfl) (by rfl) (fun R hR=>?_)
     apply Exists.intro
     refine⟨fun w' hS'=>?_,?_⟩
     ·have hbw:=hb.trans hS'
      have c0:=(hbw.cell (p:=⟨g,off+(s+1) * 2,none⟩) hg).trans CC.out.1
      have d0:=(hbw.cell (p:=⟨g,off+s * 2,none⟩) hg).trans D0.out
      have hws:=HWS.out
      have ew1:=HW1.out
      have ew2:=HW2.out
      have ew3:=HW3.out
      go_simp
      exact⟨rfl,rfl⟩
     go_simp
     refine hR _ ?_
     clear hR R
    refine wpPlan_do (by rfl) (by rfl) (fun K hK=>?_)
    go_simp
    refine(r21v_any (x - y - 1) w.heap.size b (G++wrI q (s+1)) wr.drew hzw (OwnI.drew HO.out) (by omega) (by omega) (by omega)).mono ?_
    rintro e w6 ⟨v6,rfl,o6,hb6⟩
    have B6:Below w.heap.size wr w6:=(Below.refl _ _).drew.trans hb6
    clear hb6
    refine hK _ _ (B6) ?_
    clear hK K
    iterate 1
     refine wpPlan_read (by rfl) (by rfl) (fun R hR=>?_)
     apply Exists.intro
     refine⟨fun w' hS'=>?_,?_⟩
     ·have hbw:=hb.trans hS'
      have c0:=(hbw.cell (p:=⟨g,off+(s+1) * 2,none⟩) hg).trans CC.out.1
      have d0:=(hbw.cell (p:=⟨g,off+s * 2,none⟩) hg).trans D0.out
      have hws:=HWS.out
      have ew1:=HW1.out
      have ew2:=HW2.out
      have ew3:=HW3.out
      go_simp
      exact⟨rfl,rfl⟩
     go_simp
     refine hR _ ?_
     clear hR R
    refine wpPlan_nil ?_
    have O6:=Lib.hid o6
    have hb06:=hb.trans B6
    have hz6:=hb06.size
    have c1:=(hb06.cell (p:=⟨g,off+(s+1) * 2+1,none⟩) hg).trans CC.out.2
    have hgl4:(leb (x - y - 1)).length<=10:=by rw[HZ.out];exact pcP_len q (s+1)
    clear o6
    go_wp2_with fail
    refine(r21v_any n w.heap.size _ (G++wrI q (s+1)++leb (x - y - 1)) w6 hz6 O6.out (by simp only[List.length_append] at hgl2 |-;omega) (by omega) (by omega)).mono ?_
    rintro e w7 ⟨v7,rfl,o7,hb7⟩
    have O7:=Lib.hid o7
    clear o7
    go_wp2_with fail
    go_roundg (q.length - (s+1+1))
    case measure=>have:=HQ.out;omega
    case rel=>exact⟨s+1+1,_,rfl,rfl,by omega,by go_num,Lib.hid (by rw[HWR.out,<-List.append_assoc,<-List.append_assoc];exact O7.out),hb06.trans hb7⟩
  ·obtain rfl:j=q.length:=by omega
   go_wp2_with fail
   go_ret
   exact⟨_,rfl,by rw[HW.out];exact HO.out,hb⟩
theorem r21of_any{a m:Nat}{l:List Pr}(v:Value)(w:World)(h:RdE prE w v l)(ok:DdOk a m l) :
 Calls Tryz.prog 85 #[.int .i64 a,.int .i64 m,v] w fun e w'=>∃v,e=.returned v/\OwnB w.heap.size w' v (wrDd a m (cutP m l).1 (cutP m l).2)/\Below w.heap.size w w':=by
 have CK:=Lib.hid (rkept_any v l m w h ok.pos ok.sum (by have:=ok.m0;omega) (by have:=ok.m1;omega) (by have:=ok.len;omega))
 obtain⟨hq,_,hlm,f0,f1⟩:=ok.cut
 have CW:Hid (∀(v:Value) w,RdE prE w v (cutP m l).1->_):=Lib.hid (fun v w h=>r21write_any v w h hq ok.a1 ok.m1 f0 f1)
 obtain⟨A,k,rfl,_,_,_⟩:=h.form
 clear h ok hq hlm f0 f1
 generalize (cutP m l).2=f at *
 generalize (cutP m l).1=q at *
 go_enter Tryz.func85,Tryz.ntmps85
 go_wp2_with fail
 refine(CK.out).mono ?_
 rintro e w1 ⟨v1,rfl,o1,hb1⟩
 have O1:=Lib.hid o1
 clear o1
 go_wp2_with fail
 refine(CW.out v1 w1 O1.out).mono ?_
 rintro e w2 ⟨v2,rfl,o2,hb2⟩
 have O2:=Lib.hid (OwnI.lift o2 (fun g e=>Nat.le_trans hb1.size (OwnI.lt o2 g e).1))
 clear o2
 go_wp2_with fail
 go_ret
 exact⟨_,rfl,O2.out,hb1.trans (hb2.mono hb1.size)⟩
open Go.RowKit Go.Lib
def GotO(w:World)(g:Nat)(bs:List Int)(a:Nat)(v:Value)(e:Ending)(w':World):Prop:=e=.returned v/\RdrAt w' g bs a/\Touch (fun k=>k=g) w w'
theorem drop_len{bs x r:List Int}{a:Nat}(ha:a<=bs.length)(h:bs.drop a=x++r):bs.length - r.length=a+x.length:=by
 have:=congrArg List.length h
 rw[List.length_drop,List.length_append] at this
 omega
theorem rdr_le{w:World}{g:Nat}{bs:List Int}{a:Nat}(h:RdrAt w g bs a):a<=bs.length:=by
 obtain⟨_,_,_,h⟩:=h;exact h
theorem nextv_own{g a:Nat}{bs r:List Int}{n:Int}(w:World)(h:RdrAt w g bs a)(hb:byL bs)(hlen:bs.length<=1000000000000)(hd:bs.drop a=leb n++r)(n0:0<=n)(n1:n<18446744073709551616) :
 Calls Tryz.prog 208 #[.pointer (some ⟨g,0,none⟩),.int .u8 118] w (GotO w g bs (a+(leb n).length) (.tuple #[.int .u64 n,.int .i64 0])):=by
 refine(rnextv_any g bs a w h hb hlen).mono ?_
 intro e w' hg
 unfold GotN at hg
 rw[hd,unleb_leb n0 n1] at hg
 obtain⟨h1,h2,h3⟩:=hg
 rw[drop_len (rdr_le h) hd] at h2
 exact⟨h1,h2,h3⟩
open Go.RowKit Go.Lib
open Go.RowKit Go.Lib Go.Shelf
def Placed(y i:Nat)(cs:Array Value)(Q:Value->World->Prop)(w:World)(e:Ending)(w':World):Prop:=
 e=.returned (.int .i64 0)/\∃p w1,Q p w1/\Below w.heap.size w w1/\Blk w' y 66 (cs.setIfInBounds i p)/\Touch (fun k=>k=y) w1 w'/\Touch (fun k=>k=y) w w'
section
variable {y : Nat} {kd p1 p2 p3 p4 : Value} {w : World} {Q : Value -> World -> Prop} {v : Value}
theorem readKll_any(hy:Blk w y 66 #[kd,p1,p2,p3,p4])(h:Calls Tryz.prog 137 #[v] w fun e w'=>∃d,e=.returned (.tuple #[.pointer (some ⟨d,0,none⟩),.int .i64 0])/\Q (.pointer (some ⟨d,0,none⟩)) w'/\Below w.heap.size w w') :
 Calls Tryz.prog 65 #[.pointer (some ⟨y,0,none⟩),v] w (Placed y 4 #[kd,p1,p2,p3,p4] Q w):=by
 have C:=Lib.hid h
 have HY:=Lib.hid hy
 clear h hy
 go_enter Tryz.func65,Tryz.ntmps65
 go_wp2_with fail
 refine(C.out).mono ?_
 rintro e w1 ⟨d,rfl,hq,hb⟩
 have L:=Lib.hid (HY.out.keep hb)
 have f1:=L.out.cell 4
 have f2:=L.out.frozen 4
 simp only[List.getElem?_toArray,List.getElem?_cons_zero,List.getElem?_cons_succ] at f1
 have M:=Lib.hid (L.out.set_ 4 (.pointer (some ⟨d,0,none⟩)))
 have T:=Lib.hid ((show Touch (fun k=>k=y) w1 w1 from Touch.refl _ w1).setCell (p:=⟨y,4,none⟩) (.inl rfl) (.pointer (some ⟨d,0,none⟩)))
 have T0:=Lib.hid ((Touch.of_below (F:=fun k=>k=y) hb (Nat.le_refl _)).setCell (p:=⟨y,4,none⟩) (.inl rfl) (.pointer (some ⟨d,0,none⟩)))
 have HQ:=Lib.hid hq
 clear hq
 go_wp2_with fail
 go_ret
 exact⟨rfl,_,w1,HQ.out,hb,M.out,T.out,T0.out⟩
end
open Go.RowKit Go.Lib Go.Shelf
def specV(kd lo hi dg:Int)(gr:Bool)(ac sz:Int):Value:=.agg #[.int .u8 kd,.int .i64 lo,.int .i64 hi,.int .i64 dg,.bool gr,.int .i64 ac,.int .i64 sz]
theorem placed_of{y i:Nat}{cs:Array Value}{Q:Value->World->Prop}{w wa w1:World}{p:Value}(hy:Blk w1 y 66 cs)(ha:Below w.heap.size w wa)(hb:Below wa.heap.size wa w1)(hq:Q p w1) :
 Placed y i cs Q w (.returned (.int .i64 0)) (w1.setCell ⟨y,i,none⟩ p):=by
 have hb':=ha.trans (hb.mono ha.size)
 exact⟨rfl,p,w1,hq,hb',hy.set_ i p,(show Touch (fun k=>k=y) w1 w1 from Touch.refl _ w1).setCell (p:=⟨y,i,none⟩) (.inl rfl) p,(Touch.of_below (F:=fun k=>k=y) hb' (Nat.le_refl _)).setCell (p:=⟨y,i,none⟩) (.inl rfl) p⟩
section
variable {y : Nat} {k0 p1 p2 p3 p4 : Value} {w : World} {Q : Value -> World -> Prop} {kd lo hi dg ac sz : Int} {gr : Bool}
theorem makeDd_any(hy:Blk w y 66 #[k0,p1,p2,p3,p4])(h:∀wa,Below w.heap.size w wa->Calls Tryz.prog 132 #[.int .i64 ac,.int .i64 sz] wa fun e w'=>∃d,e=.returned (.tuple #[.pointer (some ⟨d,0,none⟩),.int .i64 0])/\Q (.pointer (some ⟨d,0,none⟩)) w'/\Below wa.heap.size wa w') :
 Calls Tryz.prog 60 #[.pointer (some ⟨y,0,none⟩),specV kd lo hi dg gr ac sz] w (Placed y 2 #[k0,p1,p2,p3,p4] Q w):=by
 have C:=Lib.hid h
 have HY:=Lib.hid hy
 clear h hy
 unfold specV
 obtain⟨b,hbb⟩:∃b,w.heap.size=b:=⟨_,rfl⟩
 obtain⟨wa,hwa⟩:∃z,w.alloc (.cells #[.int .u8 kd,.int .i64 lo,.int .i64 hi,.int .i64 dg,.bool gr,.int .i64 ac,.int .i64 sz] 25)=z:=⟨_,rfl⟩
 have ha:Below w.heap.size w wa:=by rw[<-hwa];(repeat' (first|(with_reducible exact Below.refl _ _)|(with_reducible refine Below.alloc ?_ ?_ _)|(with_reducible refine Below.drew ?_)|(with_reducible refine below_drewN ?_ _)|(with_reducible refine Below.setCell ?_ ?_ _)|(with_reducible refine below_of (by assumption) ?_ ?_)|go_size))
 have B0:Blk wa b 25 #[.int .u8 kd,.int .i64 lo,.int .i64 hi,.int .i64 dg,.bool gr,.int .i64 ac,.int .i64 sz]:=by rw[<-hwa,<-hbb];exact Blk.new _ _ _
 have j5:=B0.cell 5
 have j6:=B0.cell 6
 simp only[List.getElem?_toArray,List.getElem?_cons_zero,List.getElem?_cons_succ] at j5 j6
 clear B0
 have HA:=Lib.hid ha
 clear ha
 go_enter Tryz.func60,Tryz.ntmps60
 go_wp2_with fail
 refine(C.out wa HA.out).mono ?_
 rintro e w1 ⟨d,rfl,hq,hb⟩
 have L:=Lib.hid ((HY.out.keep HA.out).keep hb)
 have f1:=L.out.cell 2
 have f2:=L.out.frozen 2
 simp only[List.getElem?_toArray,List.getElem?_cons_zero,List.getElem?_cons_succ] at f1
 have M:=Lib.hid (placed_of (i:=2) L.out HA.out hb hq)
 clear hq
 go_wp2_with fail
 go_ret
 exact M.out
theorem makeDigest_any(hy:Blk w y 66 #[k0,p1,p2,p3,p4])(h:∀wa,Below w.heap.size w wa->Calls Tryz.prog 134 #[.int .i64 sz] wa fun e w'=>∃d,e=.returned (.tuple #[.pointer (some ⟨d,0,none⟩),.int .i64 0])/\Q (.pointer (some ⟨d,0,none⟩)) w'/\Below wa.heap.size wa w') :
 Calls Tryz.prog 62 #[.pointer (some ⟨y,0,none⟩),specV kd lo hi dg gr ac sz] w (Placed y 3 #[k0,p1,p2,p3,p4] Q w):=by
 have C:=Lib.hid h
 have HY:=Lib.hid hy
 clear h hy
 unfold specV
 obtain⟨b,hbb⟩:∃b,w.heap.size=b:=⟨_,rfl⟩
 obtain⟨wa,hwa⟩:∃z,w.alloc (.cells #[.int .u8 kd,.int .i64 lo,.int .i64 hi,.int .i64 dg,.bool gr,.int .i64 ac,.int .i64 sz] 25)=z:=⟨_,rfl⟩
 have ha:Below w.heap.size w wa:=by rw[<-hwa];(repeat' (first|(with_reducible exact Below.refl _ _)|(with_reducible refine Below.alloc ?_ ?_ _)|(with_reducible refine Below.drew ?_)|(with_reducible refine below_drewN ?_ _)|(with_reducible refine Below.setCell ?_ ?_ _)|(with_reducible refine below_of (by assumption) ?_ ?_)|go_size))
 have B0:Blk wa b 25 #[.int .u8 kd,.int .i64 lo,.int .i64 hi,.int .i64 dg,.bool gr,.int .i64 ac,.int .i64 sz]:=by rw[<-hwa,<-hbb];exact Blk.new _ _ _
 have j6:=B0.cell 6
 simp only[List.getElem?_toArray,List.getElem?_cons_zero,List.getElem?_cons_succ] at j6
 clear B0
 have HA:=Lib.hid ha
 clear ha
 go_enter Tryz.func62,Tryz.ntmps62
 go_wp2_with fail
 refine(C.out wa HA.out).mono ?_
 rintro e w1 ⟨d,rfl,hq,hb⟩
 have L:=Lib.hid ((HY.out.keep HA.out).keep hb)
 have f1:=L.out.cell 3
 have f2:=L.out.frozen 3
 simp only[List.getElem?_toArray,List.getElem?_cons_zero,List.getElem?_cons_succ] at f1
 have M:=Lib.hid (placed_of (i:=3) L.out HA.out hb hq)
 clear hq
 go_wp2_with fail
 go_ret
 exact M.out
theorem makeKll_any(hy:Blk w y 66 #[k0,p1,p2,p3,p4])(h:∀wa,Below w.heap.size w wa->Calls Tryz.prog 136 #[.int .i64 sz] wa fun e w'=>∃d,e=.returned (.tuple #[.pointer (some ⟨d,0,none⟩),.int .i64 0])/\Q (.pointer (some ⟨d,0,none⟩)) w'/\Below wa.heap.size wa w') :
 Calls Tryz.prog 64 #[.pointer (some ⟨y,0,none⟩),specV kd lo hi dg gr ac sz] w (Placed y 4 #[k0,p1,p2,p3,p4] Q w):=by
 have C:=Lib.hid h
 have HY:=Lib.hid hy
 clear h hy
 unfold specV
 obtain⟨b,hbb⟩:∃b,w.heap.size=b:=⟨_,rfl⟩
 obtain⟨wa,hwa⟩:∃z,w.alloc (.cells #[.int .u8 kd,.int .i64 lo,.int .i64 hi,.int .i64 dg,.bool gr,.int .i64 ac,.int .i64 sz] 25)=z:=⟨_,rfl⟩
 have ha:Below w.heap.size w wa:=by rw[<-hwa];(repeat' (first|(with_reducible exact Below.refl _ _)|(with_reducible refine Below.alloc ?_ ?_ _)|(with_reducible refine Below.drew ?_)|(with_reducible refine below_drewN ?_ _)|(with_reducible refine Below.setCell ?_ ?_ _)|(with_reducible refine below_of (by assumption) ?_ ?_)|go_size))
 have B0:Blk wa b 25 #[.int .u8 kd,.int .i64 lo,.int .i64 hi,.int .i64 dg,.bool gr,.int .i64 ac,.int .i64 sz]:=by rw[<-hwa,<-hbb];exact Blk.new _ _ _
 have j6:=B0.cell 6
 simp only[List.getElem?_toArray,List.getElem?_cons_zero,List.getElem?_cons_succ] at j6
 clear B0
 have HA:=Lib.hid ha
 clear ha
 go_enter Tryz.func64,Tryz.ntmps64
 go_wp2_with fail
 refine(C.out wa HA.out).mono ?_
 rintro e w1 ⟨d,rfl,hq,hb⟩
 have L:=Lib.hid ((HY.out.keep HA.out).keep hb)
 have f1:=L.out.cell 4
 have f2:=L.out.frozen 4
 simp only[List.getElem?_toArray,List.getElem?_cons_zero,List.getElem?_cons_succ] at f1
 have M:=Lib.hid (placed_of (i:=4) L.out HA.out hb hq)
 clear hq
 go_wp2_with fail
 go_ret
 exact M.out
theorem makeHdr_any(hy:Blk w y 66 #[k0,p1,p2,p3,p4])(h:∀wa,Below w.heap.size w wa->Calls Tryz.prog 127 #[.agg #[.int .i64 lo,.int .i64 hi,.int .i64 dg],.bool gr] wa fun e w'=>∃d,e=.returned (.tuple #[.pointer (some ⟨d,0,none⟩),.int .i64 0])/\Q (.pointer (some ⟨d,0,none⟩)) w'/\Below wa.heap.size wa w') :
 Calls Tryz.prog 58 #[.pointer (some ⟨y,0,none⟩),specV kd lo hi dg gr ac sz] w (Placed y 1 #[k0,p1,p2,p3,p4] Q w):=by
 have C:=Lib.hid h
 have HY:=Lib.hid hy
 clear h hy
 unfold specV
 obtain⟨b,hbb⟩:∃b,w.heap.size=b:=⟨_,rfl⟩
 obtain⟨wa,hwa⟩:∃z,w.alloc (.cells #[.int .u8 kd,.int .i64 lo,.int .i64 hi,.int .i64 dg,.bool gr,.int .i64 ac,.int .i64 sz] 25)=z:=⟨_,rfl⟩
 have ha:Below w.heap.size w wa:=by rw[<-hwa];(repeat' (first|(with_reducible exact Below.refl _ _)|(with_reducible refine Below.alloc ?_ ?_ _)|(with_reducible refine Below.drew ?_)|(with_reducible refine below_drewN ?_ _)|(with_reducible refine Below.setCell ?_ ?_ _)|(with_reducible refine below_of (by assumption) ?_ ?_)|go_size))
 have B0:Blk wa b 25 #[.int .u8 kd,.int .i64 lo,.int .i64 hi,.int .i64 dg,.bool gr,.int .i64 ac,.int .i64 sz]:=by rw[<-hwa,<-hbb];exact Blk.new _ _ _
 have j1:=B0.cell 1
 have j2:=B0.cell 2
 have j3:=B0.cell 3
 have j4:=B0.cell 4
 simp only[List.getElem?_toArray,List.getElem?_cons_zero,List.getElem?_cons_succ] at j1 j2 j3 j4
 clear B0
 have HA:=Lib.hid ha
 clear ha
 go_enter Tryz.func58,Tryz.ntmps58
 go_wp2_with fail
 refine(C.out wa HA.out).mono ?_
 rintro e w1 ⟨d,rfl,hq,hb⟩
 have L:=Lib.hid ((HY.out.keep HA.out).keep hb)
 have f1:=L.out.cell 1
 have f2:=L.out.frozen 1
 simp only[List.getElem?_toArray,List.getElem?_cons_zero,List.getElem?_cons_succ] at f1
 have M:=Lib.hid (placed_of (i:=1) L.out HA.out hb hq)
 clear hq
 go_wp2_with fail
 go_ret
 exact M.out
end
open Go.RowKit Go.Lib Go.Shelf
section
variable {y : Nat} {p1 p2 p3 p4 : Value} {w : World} {Q : Value -> World -> Prop}
theorem jtext1_any(hy:Blk w y 66 #[.int .u8 1,p1,p2,p3,p4])(h:Calls Tryz.prog 50 #[.pointer (some ⟨y,0,none⟩)] w fun e w'=>∃v,e=.returned v/\Q v w') :
 Calls Tryz.prog 19 #[.pointer (some ⟨y,0,none⟩)] w fun e w'=>∃v,e=.returned v/\Q v w':=by
 have C:=Lib.hid h
 have HY:=Lib.hid hy
 clear h hy
 have f0:=HY.out.cell 0
 simp only[List.getElem?_toArray,List.getElem?_cons_zero,List.getElem?_cons_succ] at f0
 go_enter Tryz.func19,Tryz.ntmps19
 go_wp2_with fail
 refine(C.out).mono ?_
 rintro e w1 ⟨v,rfl,hq⟩
 have HQ:=Lib.hid hq
 clear hq
 go_wp2_with fail
 go_ret
 exact⟨_,rfl,HQ.out⟩
theorem jtext2_any(hy:Blk w y 66 #[.int .u8 2,p1,p2,p3,p4])(h:Calls Tryz.prog 51 #[p2] w fun e w'=>∃v,e=.returned (.tuple #[v,.int .i64 0])/\Q v w') :
 Calls Tryz.prog 19 #[.pointer (some ⟨y,0,none⟩)] w fun e w'=>∃v,e=.returned v/\Q v w':=by
 have C:=Lib.hid h
 have HY:=Lib.hid hy
 clear h hy
 have f0:=HY.out.cell 0
 have f1:=HY.out.cell 2
 simp only[List.getElem?_toArray,List.getElem?_cons_zero,List.getElem?_cons_succ] at f0 f1
 go_enter Tryz.func19,Tryz.ntmps19
 go_wp2_with fail
 refine(C.out).mono ?_
 rintro e w1 ⟨v,rfl,hq⟩
 have HQ:=Lib.hid hq
 clear hq
 go_wp2_with fail
 go_ret
 exact⟨_,rfl,HQ.out⟩
theorem jtext3_any(hy:Blk w y 66 #[.int .u8 3,p1,p2,p3,p4])(h:Calls Tryz.prog 52 #[p3] w fun e w'=>∃v,e=.returned (.tuple #[v,.int .i64 0])/\Q v w') :
 Calls Tryz.prog 19 #[.pointer (some ⟨y,0,none⟩)] w fun e w'=>∃v,e=.returned v/\Q v w':=by
 have C:=Lib.hid h
 have HY:=Lib.hid hy
 clear h hy
 have f0:=HY.out.cell 0
 have f1:=HY.out.cell 3
 simp only[List.getElem?_toArray,List.getElem?_cons_zero,List.getElem?_cons_succ] at f0 f1
 go_enter Tryz.func19,Tryz.ntmps19
 go_wp2_with fail
 refine(C.out).mono ?_
 rintro e w1 ⟨v,rfl,hq⟩
 have HQ:=Lib.hid hq
 clear hq
 go_wp2_with fail
 go_ret
 exact⟨_,rfl,HQ.out⟩
theorem jtext4_any(hy:Blk w y 66 #[.int .u8 4,p1,p2,p3,p4])(h:Calls Tryz.prog 53 #[p4] w fun e w'=>∃v,e=.returned (.tuple #[v,.int .i64 0])/\Q v w') :
 Calls Tryz.prog 19 #[.pointer (some ⟨y,0,none⟩)] w fun e w'=>∃v,e=.returned v/\Q v w':=by
 have C:=Lib.hid h
 have HY:=Lib.hid hy
 clear h hy
 have f0:=HY.out.cell 0
 have f1:=HY.out.cell 4
 simp only[List.getElem?_toArray,List.getElem?_cons_zero,List.getElem?_cons_succ] at f0 f1
 go_enter Tryz.func19,Tryz.ntmps19
 go_wp2_with fail
 refine(C.out).mono ?_
 rintro e w1 ⟨v,rfl,hq⟩
 have HQ:=Lib.hid hq
 clear hq
 go_wp2_with fail
 go_ret
 exact⟨_,rfl,HQ.out⟩
theorem jadd4_any{a n c:Value}(hy:Blk w y 66 #[.int .u8 4,p1,p2,p3,p4])(h:Calls Tryz.prog 45 #[p4,a,n,c] w fun e w'=>∃v,e=.returned v/\Q v w') :
 Calls Tryz.prog 16 #[.pointer (some ⟨y,0,none⟩),a,n,c] w fun e w'=>∃v,e=.returned v/\Q v w':=by
 have C:=Lib.hid h
 have HY:=Lib.hid hy
 clear h hy
 have f0:=HY.out.cell 0
 have f1:=HY.out.cell 4
 simp only[List.getElem?_toArray,List.getElem?_cons_zero,List.getElem?_cons_succ] at f0 f1
 go_enter Tryz.func16,Tryz.ntmps16
 go_wp2_with fail
 refine(C.out).mono ?_
 rintro e w1 ⟨v,rfl,hq⟩
 have HQ:=Lib.hid hq
 clear hq
 go_wp2_with fail
 go_ret
 exact⟨_,rfl,HQ.out⟩
theorem jtotal1_any(hy:Blk w y 66 #[.int .u8 1,p1,p2,p3,p4])(h:Calls Tryz.prog 54 #[p1] w fun e w'=>∃v,e=.returned v/\Q v w') :
 Calls Tryz.prog 20 #[.pointer (some ⟨y,0,none⟩)] w fun e w'=>∃v,e=.returned v/\Q v w':=by
 have hmf:∀(fn:Fn) (first cap:Array Value) (w:World),(Instr.makeFunc fn first cap).run Tryz.prog w=.ok (.func fn first cap) w:=fun _ _ _ _=>rfl
 have C:=Lib.hid h
 have HY:=Lib.hid hy
 clear h hy
 have f0:=HY.out.cell 0
 have f1:=HY.out.cell 1
 simp only[List.getElem?_toArray,List.getElem?_cons_zero,List.getElem?_cons_succ] at f0 f1
 go_enter Tryz.func20,Tryz.ntmps20
 go_wp2_with fail
 refine(C.out).mono ?_
 rintro e w1 ⟨v,rfl,hq⟩
 have HQ:=Lib.hid hq
 clear hq
 go_wp2_with fail
 go_ret
 exact⟨_,rfl,HQ.out⟩
theorem jtotal2_any(hy:Blk w y 66 #[.int .u8 2,p1,p2,p3,p4])(h:Calls Tryz.prog 55 #[p2] w fun e w'=>∃v,e=.returned v/\Q v w') :
 Calls Tryz.prog 20 #[.pointer (some ⟨y,0,none⟩)] w fun e w'=>∃v,e=.returned v/\Q v w':=by
 have hmf:∀(fn:Fn) (first cap:Array Value) (w:World),(Instr.makeFunc fn first cap).run Tryz.prog w=.ok (.func fn first cap) w:=fun _ _ _ _=>rfl
 have C:=Lib.hid h
 have HY:=Lib.hid hy
 clear h hy
 have f0:=HY.out.cell 0
 have f1:=HY.out.cell 2
 simp only[List.getElem?_toArray,List.getElem?_cons_zero,List.getElem?_cons_succ] at f0 f1
 go_enter Tryz.func20,Tryz.ntmps20
 go_wp2_with fail
 refine(C.out).mono ?_
 rintro e w1 ⟨v,rfl,hq⟩
 have HQ:=Lib.hid hq
 clear hq
 go_wp2_with fail
 go_ret
 exact⟨_,rfl,HQ.out⟩
theorem jtotal3_any(hy:Blk w y 66 #[.int .u8 3,p1,p2,p3,p4])(h:Calls Tryz.prog 56 #[p3] w fun e w'=>∃v,e=.returned v/\Q v w') :
 Calls Tryz.prog 20 #[.pointer (some ⟨y,0,none⟩)] w fun e w'=>∃v,e=.returned v/\Q v w':=by
 have hmf:∀(fn:Fn) (first cap:Array Value) (w:World),(Instr.makeFunc fn first cap).run Tryz.prog w=.ok (.func fn first cap) w:=fun _ _ _ _=>rfl
 have C:=Lib.hid h
 have HY:=Lib.hid hy
 clear h hy
 have f0:=HY.out.cell 0
 have f1:=HY.out.cell 3
 simp only[List.getElem?_toArray,List.getElem?_cons_zero,List.getElem?_cons_succ] at f0 f1
 go_enter Tryz.func20,Tryz.ntmps20
 go_wp2_with fail
 refine(C.out).mono ?_
 rintro e w1 ⟨v,rfl,hq⟩
 have HQ:=Lib.hid hq
 clear hq
 go_wp2_with fail
 go_ret
 exact⟨_,rfl,HQ.out⟩
theorem jtotal4_any(hy:Blk w y 66 #[.int .u8 4,p1,p2,p3,p4])(h:Calls Tryz.prog 57 #[p4] w fun e w'=>∃v,e=.returned v/\Q v w') :
 Calls Tryz.prog 20 #[.pointer (some ⟨y,0,none⟩)] w fun e w'=>∃v,e=.returned v/\Q v w':=by
 have hmf:∀(fn:Fn) (first cap:Array Value) (w:World),(Instr.makeFunc fn first cap).run Tryz.prog w=.ok (.func fn first cap) w:=fun _ _ _ _=>rfl
 have C:=Lib.hid h
 have HY:=Lib.hid hy
 clear h hy
 have f0:=HY.out.cell 0
 have f1:=HY.out.cell 4
 simp only[List.getElem?_toArray,List.getElem?_cons_zero,List.getElem?_cons_succ] at f0 f1
 go_enter Tryz.func20,Tryz.ntmps20
 go_wp2_with fail
 refine(C.out).mono ?_
 rintro e w1 ⟨v,rfl,hq⟩
 have HQ:=Lib.hid hq
 clear hq
 go_wp2_with fail
 go_ret
 exact⟨_,rfl,HQ.out⟩
end
end Go.Proofs.YtingnldfpokckaaGreat.D
