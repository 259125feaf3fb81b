/- Parts of a proof: what its theorem reaches, words cut short. No condition of its own. -/
import Derived.Test.YtingnldfpokckaaGreatPm45
import Derived.Test.YtingnldfpokckaaGreatPm46
set_option maxRecDepth 100000
set_option maxHeartbeats 16000000
set_option linter.unusedVariables false
set_option linter.unusedSimpArgs false
namespace Go.Proofs.YtingnldfpokckaaGreat.D
open Go.RowKit Go.Lib Go.Shelf
theorem r27put_any(c n x:Int)(base:Nat)(vb:Value)(bs:List Int)(w:World)(hb0:base<=w.heap.size)(hO:OwnB base w vb bs)(hl:bs.length<=1000000000000)(hc:(c=118/\x=n/\0<=n/\n<18446744073709551616)\/(c=122/\n=ub x/\-9223372036854775808<=x/\x<=9223372036854775807)) :
 Calls Tryz.prog 82 #[vb,.int .u8 c,.int .u64 n] w fun e w'=>∃v,e=.returned v/\OwnB base w' v (bs++(if c=118 then leb x else zg x))/\Below base w w':=by
 have HO:=Lib.hid hO
 have C1:=Lib.hid (rone_any c n x w hc)
 have hlen:(if c=118 then leb x else zg x).length<=10:=by split;exact(leb_len _).2;exact(leb_len _).2
 generalize (if c=118 then leb x else zg x)=out at *
 clear hO hc
 go_enter Tryz.func82,Tryz.ntmps82
 go_wp2_with fail
 refine(C1.out).mono ?_
 rintro e w1 ⟨v1,rfl,o1,hb1⟩
 have O1:=Lib.hid o1
 have hz1:=hb1.size
 clear o1
 go_wp2_with (first
  | (at_builtin
     go_must (refine append_B rfl (.tmp 15) (.tmp 16) rfl base vb bs rfl (OwnI.keep HO.out hb1) v1 out rfl (OwnI.rd O1.out) (by omega) (by omega) ?_)
     intro v2 w2 o2 g2 a2
     have hb2:Below base w w2:=(hb1.mono hb0).grown g2 (by omega) (fun k hk=>(OwnI.lt HO.out k hk).1)
     have O2:=Lib.hid o2
     clear o2 g2 a2))
 go_ret
 exact⟨v2,rfl,O2.out,hb2⟩
theorem r27v_any(n:Int)(base:Nat)(vb:Value)(bs:List Int)(w:World)(hb0:base<=w.heap.size)(hO:OwnB base w vb bs)(hl:bs.length<=1000000000000)(n0:0<=n)(n1:n<18446744073709551616) :
 Calls Tryz.prog 82 #[vb,.int .u8 118,.int .u64 n] w fun e w'=>∃v,e=.returned v/\OwnB base w' v (bs++leb n)/\Below base w w':=by
 have h:=r27put_any 118 n n base vb bs w hb0 hO hl (.inl ⟨rfl,rfl,n0,n1⟩)
 rwa [if_pos rfl] at h
section
variable {y p : Nat} {p1 p2 p3 p4 : Value} {w : World} {Q : Value -> World -> Prop} {lo hi dg ac sz n : Int} {gr : Bool} {v va vb : Value}
theorem rjtotal1_any(hy:Blk w y 87 #[.int .u8 1,.int .i64 lo,.int .i64 hi,.int .i64 dg,.bool gr,.int .i64 ac,.int .i64 sz,.pointer (some ⟨p,0,none⟩),p2,p3,p4])(hp:w.cell? ⟨p,7,none⟩=some v)(h:Calls Tryz.prog 78 #[v] w fun e w'=>e=.returned (.int .u64 n)/\w=w') :
 Calls Tryz.prog 34 #[.pointer (some ⟨y,0,none⟩)] w fun e w'=>e=.returned (.int .u64 n)/\w=w':=by
 have C:=Lib.hid h
 have f0:=hy.cell 0
 have f1:=hy.cell 7
 simp only[List.getElem?_toArray,List.getElem?_cons_zero,List.getElem?_cons_succ] at f0 f1
 clear h hy
 go_enter Tryz.func34,Tryz.ntmps34
 go_wp2_with fail
 refine(C.out).mono ?_
 rintro e w1 ⟨rfl,rfl⟩
 go_wp2_with fail
 go_ret
 exact⟨rfl,rfl⟩
theorem rjtotal2_any(hy:Blk w y 87 #[.int .u8 2,.int .i64 lo,.int .i64 hi,.int .i64 dg,.bool gr,.int .i64 ac,.int .i64 sz,p1,.pointer (some ⟨p,0,none⟩),p3,p4])(hp:w.cell? ⟨p,3,none⟩=some v)(h:Calls Tryz.prog 78 #[v] w fun e w'=>e=.returned (.int .u64 n)/\w=w') :
 Calls Tryz.prog 34 #[.pointer (some ⟨y,0,none⟩)] w fun e w'=>e=.returned (.int .u64 n)/\w=w':=by
 have C:=Lib.hid h
 have f0:=hy.cell 0
 have f1:=hy.cell 8
 simp only[List.getElem?_toArray,List.getElem?_cons_zero,List.getElem?_cons_succ] at f0 f1
 clear h hy
 go_enter Tryz.func34,Tryz.ntmps34
 go_wp2_with fail
 refine(C.out).mono ?_
 rintro e w1 ⟨rfl,rfl⟩
 go_wp2_with fail
 go_ret
 exact⟨rfl,rfl⟩
theorem rjtotal3_any(hy:Blk w y 87 #[.int .u8 3,.int .i64 lo,.int .i64 hi,.int .i64 dg,.bool gr,.int .i64 ac,.int .i64 sz,p1,p2,p3,p4])(h:Calls Tryz.prog 80 #[p3] w fun e w'=>∃v,e=.returned v/\Q v w'/\Below w.heap.size w w')(h2:∀v w1,Q v w1->Calls Tryz.prog 79 #[v] w1 fun e w'=>e=.returned (.int .u64 n)/\Below w1.heap.size w1 w') :
 Calls Tryz.prog 34 #[.pointer (some ⟨y,0,none⟩)] w fun e w'=>e=.returned (.int .u64 n)/\Below w.heap.size w w':=by
 have C:=Lib.hid h
 have C2:=Lib.hid h2
 have f0:=hy.cell 0
 have f1:=hy.cell 9
 simp only[List.getElem?_toArray,List.getElem?_cons_zero,List.getElem?_cons_succ] at f0 f1
 clear h h2 hy
 go_enter Tryz.func34,Tryz.ntmps34
 go_wp2_with fail
 refine(C.out).mono ?_
 rintro e w1 ⟨v,rfl,hq,hb⟩
 have HB:=Lib.hid hb
 have D:=Lib.hid (C2.out v w1 hq)
 clear hq hb
 go_wp2_with fail
 refine(D.out).mono ?_
 rintro e w2 ⟨rfl,hb2⟩
 have HB2:=Lib.hid (HB.out.trans (hb2.mono HB.out.size))
 clear hb2
 go_wp2_with fail
 go_ret
 exact⟨rfl,HB2.out⟩
theorem rjtotal4_any(hy:Blk w y 87 #[.int .u8 4,.int .i64 lo,.int .i64 hi,.int .i64 dg,.bool gr,.int .i64 ac,.int .i64 sz,p1,p2,p3,p4])(h:Calls Tryz.prog 81 #[p4] w fun e w'=>e=.returned (.int .u64 n)/\w=w') :
 Calls Tryz.prog 34 #[.pointer (some ⟨y,0,none⟩)] w fun e w'=>e=.returned (.int .u64 n)/\w=w':=by
 have C:=Lib.hid h
 have f0:=hy.cell 0
 have f1:=hy.cell 10
 simp only[List.getElem?_toArray,List.getElem?_cons_zero,List.getElem?_cons_succ] at f0 f1
 clear h hy
 go_enter Tryz.func34,Tryz.ntmps34
 go_wp2_with fail
 refine(C.out).mono ?_
 rintro e w1 ⟨rfl,rfl⟩
 go_wp2_with fail
 go_ret
 exact⟨rfl,rfl⟩
theorem rjtext2_any(hy:Blk w y 87 #[.int .u8 2,.int .i64 lo,.int .i64 hi,.int .i64 dg,.bool gr,.int .i64 ac,.int .i64 sz,p1,.pointer (some ⟨p,0,none⟩),p3,p4])(hp0:w.cell? ⟨p,1,none⟩=some va)(hp1:w.cell? ⟨p,2,none⟩=some vb)(hp2:w.cell? ⟨p,3,none⟩=some v)(h:Calls Tryz.prog 85 #[va,vb,v] w.drew fun e w'=>∃v,e=.returned v/\Q v w') :
 Calls Tryz.prog 35 #[.pointer (some ⟨y,0,none⟩)] w fun e w'=>∃v,e=.returned v/\Q v w':=by
 have C:=Lib.hid h
 have f0:=hy.cell 0
 have f1:=hy.cell 8
 simp only[List.getElem?_toArray,List.getElem?_cons_zero,List.getElem?_cons_succ] at f0 f1
 clear h hy
 go_enter Tryz.func35,Tryz.ntmps35
 go_upto_region 11 with fail
 refine wp_region_planT (fun w'=>w'=w.drew) 21 [(0,true),(1,true),(2,true),(3,true),(4,true),(5,true),(6,true),(7,true),(8,true),(9,true),(10,true),(11,true),(12,true),(13,true),(14,true),(15,true),(16,true),(17,true),(18,true),(19,true),(20,true)] (by kernel_rfl) (by kernel_rfl) (rfl) ?_
 iterate 21
  refine wpPlanT_read (by rfl) (by rfl) (fun R hR=>?_)
  apply Exists.intro
  refine⟨fun w' hS'=>?_,?_⟩
  ·subst hS'
   have f1:w.drew.cell? ⟨y,8,none⟩=_:=f1
   have hp0:w.drew.cell? ⟨p,1,none⟩=some va:=hp0
   have hp1:w.drew.cell? ⟨p,2,none⟩=some vb:=hp1
   have hp2:w.drew.cell? ⟨p,3,none⟩=some v:=hp2
   go_simp
   exact⟨rfl,rfl⟩
  go_simp
  refine hR _ ?_
  clear hR R
 refine wpPlanT_nil ?_
 simp only[List.drop_succ_cons,List.drop_zero]
 go_wp2_with fail
 refine(C.out).mono ?_
 rintro e w1 ⟨v,rfl,hq⟩
 have HQ:=Lib.hid hq
 clear hq
 go_wp2_with fail
 try refine calm_normal ?_
 go_wp2_with fail
 go_ret
 exact⟨_,rfl,HQ.out⟩
theorem rjtext3_any(hy:Blk w y 87 #[.int .u8 3,.int .i64 lo,.int .i64 hi,.int .i64 dg,.bool gr,.int .i64 ac,.int .i64 sz,p1,p2,p3,p4])(h:Calls Tryz.prog 86 #[p3] w fun e w'=>∃v,e=.returned v/\Q v w') :
 Calls Tryz.prog 35 #[.pointer (some ⟨y,0,none⟩)] w fun e w'=>∃v,e=.returned v/\Q v w':=by
 have C:=Lib.hid h
 have f0:=hy.cell 0
 have f1:=hy.cell 9
 simp only[List.getElem?_toArray,List.getElem?_cons_zero,List.getElem?_cons_succ] at f0 f1
 clear h hy
 go_enter Tryz.func35,Tryz.ntmps35
 go_wp2_with fail
 refine(C.out).mono ?_
 rintro e w1 ⟨v,rfl,hq⟩
 have HQ:=Lib.hid hq
 clear hq
 go_wp2_with fail
 go_ret
 exact⟨_,rfl,HQ.out⟩
theorem rjtext4_any(hy:Blk w y 87 #[.int .u8 4,.int .i64 lo,.int .i64 hi,.int .i64 dg,.bool gr,.int .i64 ac,.int .i64 sz,p1,p2,p3,.pointer (some ⟨p,0,none⟩)])(hp0:w.cell? ⟨p,0,none⟩=some va)(hp1:w.cell? ⟨p,1,none⟩=some v)(hp2:w.cell? ⟨p,2,none⟩=some vb)(h:Calls Tryz.prog 87 #[va,v,vb] w.drew fun e w'=>∃v,e=.returned v/\Q v w') :
 Calls Tryz.prog 35 #[.pointer (some ⟨y,0,none⟩)] w fun e w'=>∃v,e=.returned v/\Q v w':=by
 have C:=Lib.hid h
 have f0:=hy.cell 0
 have f1:=hy.cell 10
 simp only[List.getElem?_toArray,List.getElem?_cons_zero,List.getElem?_cons_succ] at f0 f1
 clear h hy
 go_enter Tryz.func35,Tryz.ntmps35
 go_upto_region 14 with fail
 refine wp_region_planT (fun w'=>w'=w.drew) 21 [(0,true),(1,true),(2,true),(3,true),(4,true),(5,true),(6,true),(7,true),(8,true),(9,true),(10,true),(11,true),(12,true),(13,true),(14,true),(15,true),(16,true),(17,true),(18,true),(19,true),(20,true)] (by kernel_rfl) (by kernel_rfl) (rfl) ?_
 iterate 21
  refine wpPlanT_read (by rfl) (by rfl) (fun R hR=>?_)
  apply Exists.intro
  refine⟨fun w' hS'=>?_,?_⟩
  ·subst hS'
   have f1:w.drew.cell? ⟨y,10,none⟩=_:=f1
   have hp0:w.drew.cell? ⟨p,0,none⟩=some va:=hp0
   have hp1:w.drew.cell? ⟨p,1,none⟩=some v:=hp1
   have hp2:w.drew.cell? ⟨p,2,none⟩=some vb:=hp2
   go_simp
   exact⟨rfl,rfl⟩
  go_simp
  refine hR _ ?_
  clear hR R
 refine wpPlanT_nil ?_
 simp only[List.drop_succ_cons,List.drop_zero]
 go_wp2_with fail
 refine(C.out).mono ?_
 rintro e w1 ⟨v,rfl,hq⟩
 have HQ:=Lib.hid hq
 clear hq
 go_wp2_with fail
 try refine calm_normal ?_
 go_wp2_with fail
 go_ret
 exact⟨_,rfl,HQ.out⟩
end
open Go.RowKit Go.Lib Go.Shelf
theorem rjtext1_any{y p lo hi dg u m bk:Nat}{gr:Bool}{l:List Pr}{G:Ft}(w:World)(hy:Blk w y 87 #[.int .u8 1,.int .i64 lo,.int .i64 hi,.int .i64 dg,.bool gr,.int .i64 0,.int .i64 0,.pointer (some ⟨p,0,none⟩),.pointer none,.pointer none,.pointer none])(h:RHdAt p lo hi dg u m gr bk l G w)(ok:HsOk lo hi dg u m gr bk l) :
 Calls Tryz.prog 35 #[.pointer (some ⟨y,0,none⟩)] w fun e w'=>∃v,e=.returned v/\OwnB w.heap.size w' v (hjB lo hi dg (reachN u m hi bk) gr l)/\Below w.heap.size w w':=by
 have S:=rhd_stay p lo hi dg u m gr bk l
 obtain⟨vL,b1,b2,_,_,_⟩:=id h
 have HY:=Lib.hid hy
 have HP:=Lib.hid b1
 have C1:Hid (∀w1,Below w.heap.size w w1->_):=Lib.hid (fun w1 hb=>rhd_reach w1 (S.keep h hb) ok.sh ok.b0 ok.b1)
 have C2:Hid (∀w1,Below w.heap.size w w1->_):=Lib.hid (fun w1 hb=>rwrite19_any vL w1 (b2.rd.keep hb) ok)
 have hlo:lo<=9223372036854775807:=by have:=ok.sh.h0;have:=ok.sh.h1;omega
 have hhi:=ok.sh.h1
 have hdg:=ok.sh.d1
 have hwl:=hwB_len lo (reachN u m hi bk) dg l
 have hcl:=cntA_len l
 have hll:=ok.len
 have hl1:=leb_len (lo:Int)
 have hl2:=leb_len (hi:Int)
 have hl3:=leb_len (dg:Int)
 have HG:=Lib.hid (grN_or gr)
 have HB:Hid (hjB lo hi dg (reachN u m hi bk) gr l=leb lo++leb hi++leb dg++[grN gr]++hwB lo (reachN u m hi bk) dg l):=Lib.hid rfl
 rw[HB.out]
 have EU:Hid (IntKind.u64.wrap (lo:Int)=(lo:Int)/\IntKind.u64.wrap (hi:Int)=(hi:Int)/\IntKind.u64.wrap (dg:Int)=(dg:Int)):=Lib.hid ⟨by rw[u64w];omega,by rw[u64w];omega,by rw[u64w];omega⟩
 have D1:Hid (∀(base:Nat) (vb:Value) (bs:List Int) (w1:World),base<=w1.heap.size->OwnB base w1 vb bs->bs.length<=1000000000000->_):=Lib.hid (fun base vb bs w1 h1 h2 h3=>r27v_any (lo:Int) base vb bs w1 h1 h2 h3 (by omega) (by omega))
 have D2:Hid (∀(base:Nat) (vb:Value) (bs:List Int) (w1:World),base<=w1.heap.size->OwnB base w1 vb bs->bs.length<=1000000000000->_):=Lib.hid (fun base vb bs w1 h1 h2 h3=>r27v_any (hi:Int) base vb bs w1 h1 h2 h3 (by omega) (by omega))
 have D3:Hid (∀(base:Nat) (vb:Value) (bs:List Int) (w1:World),base<=w1.heap.size->OwnB base w1 vb bs->bs.length<=1000000000000->_):=Lib.hid (fun base vb bs w1 h1 h2 h3=>r27v_any (dg:Int) base vb bs w1 h1 h2 h3 (by omega) (by omega))
 have f0:=hy.cell 0
 have f1:=hy.cell 1
 have f2:=hy.cell 2
 have f3:=hy.cell 3
 simp only[List.getElem?_toArray,List.getElem?_cons_zero,List.getElem?_cons_succ] at f0 f1 f2 f3
 clear HB S h ok hy b1 b2
 generalize grN gr=D at *
 generalize leb (lo:Int)=X1 at *
 generalize leb (hi:Int)=X2 at *
 generalize leb (dg:Int)=X3 at *
 generalize hwB (lo:Int) (reachN u m hi bk) dg l=HW at *
 generalize reachN u m hi bk=R at *
 obtain⟨b,hbb⟩:∃b,w.heap.size=b:=⟨_,rfl⟩
 obtain⟨wa,hwa⟩:∃z,(w.alloc (.cells #[.int .i64 0,.int .i64 0,.int .i64 0] 23))=z:=⟨_,rfl⟩
 have ha:Below w.heap.size w wa:=by rw[<-hwa];(repeat' (first|(with_reducible exact Below.refl _ _)|(with_reducible refine Below.alloc ?_ ?_ _)|(with_reducible refine Below.drew ?_)|(with_reducible refine below_drewN ?_ _)|(with_reducible refine Below.setCell ?_ ?_ _)|(with_reducible refine below_of (by assumption) ?_ ?_)|go_size))
 have A0:Hid (Blk wa b 23 #[.int .i64 0,.int .i64 0,.int .i64 0]):=by rw[<-hwa,<-hbb];exact Lib.hid (Blk.new _ _ _)
 have x0:=A0.out.cell 0
 have x1:=A0.out.cell 1
 have x2:=A0.out.cell 2
 simp only[List.getElem?_toArray,List.getElem?_cons_zero,List.getElem?_cons_succ] at x0 x1 x2
 have y0:=A0.out.frozen 0
 have y1:=A0.out.frozen 1
 have y2:=A0.out.frozen 2
 have HBB:=Lib.hid hbb
 clear hbb
 go_enter Tryz.func35,Tryz.ntmps35
 have hbb:=HBB.out
 have k0:wa.cell? ⟨y,0,none⟩=_:=(HY.out.keep ha).cell 0
 go_upto_region 4 with fail
 clear x0 x1 x2 y0 y1 y2 f0 f1 f2 f3 k0 hbb
 obtain⟨w3,hw3⟩:∃z,((wa.setCell ⟨b,0,none⟩ (.int .i64 lo)).setCell ⟨b,1,none⟩ (.int .i64 hi)).setCell ⟨b,2,none⟩ (.int .i64 dg)=z:=⟨_,rfl⟩
 try rw[hwa]
 rw[hw3]
 have hby:w.heap.size<=b:=by have:=HBB.out;omega
 have A3:Hid (Blk w3 b 23 #[.int .i64 lo,.int .i64 hi,.int .i64 dg]):=by rw[<-hw3];exact Lib.hid (((A0.out.set_ 0 _).set_ 1 _).set_ 2 _)
 have h3:Below w.heap.size w w3:=by rw[<-hw3];exact((ha.setCell (p:=⟨b,0,none⟩) hby _).setCell (p:=⟨b,1,none⟩) hby _).setCell (p:=⟨b,2,none⟩) hby _
 clear hw3 hwa A0 ha
 have Bd:Below w3.heap.size w3 w3.drew:=(Below.refl _ _).drew
 have lb:=A3.out.lt
 have J0:=A3.out.cell 0
 have J1:=A3.out.cell 1
 have J2:=A3.out.cell 2
 simp only[List.getElem?_toArray,List.getElem?_cons_zero,List.getElem?_cons_succ] at J0 J1 J2
 have JJ:=Lib.hid (And.intro J0 (And.intro J1 J2))
 clear J0 J1 J2
 refine wp_region_plan (Below w3.heap.size w3) [(0,true),(1,true),(2,true),(4,true),(5,true),(6,true),(8,true),(9,true),(10,true),(3,false),(7,false),(11,false),(12,true)] (by kernel_rfl) (by kernel_rfl) (Bd) ?_
 iterate 9
  refine wpPlan_read (by rfl) (by rfl) (fun R hR=>?_)
  apply Exists.intro
  refine⟨fun w' hS'=>?_,?_⟩
  ·obtain⟨e1,e2,e3⟩:=EU.out
   have j0:w'.cell? ⟨b,0,none⟩=some (.int .i64 lo):=(hS'.cell (p:=⟨b,0,none⟩) lb).trans JJ.out.1
   have j1:w'.cell? ⟨b,1,none⟩=some (.int .i64 hi):=(hS'.cell (p:=⟨b,1,none⟩) lb).trans JJ.out.2.1
   have j2:w'.cell? ⟨b,2,none⟩=some (.int .i64 dg):=(hS'.cell (p:=⟨b,2,none⟩) lb).trans JJ.out.2.2
   go_simp
   exact⟨rfl,rfl⟩
  go_simp
  refine hR _ ?_
  clear hR R
 refine wpPlan_do (by rfl) (by rfl) (fun K hK=>?_)
 go_simp
 refine(D1.out w3.heap.size (.slice none 0 0) [] w3.drew Bd.size (OwnI.nil_ _ _ _ _) (by simp)).mono ?_
 rintro e w4 ⟨v4,rfl,o4,h4⟩
 have B4:Below w3.heap.size w3 w4:=Bd.trans h4
 have O4:=Lib.hid o4
 clear o4
 refine hK _ _ (B4) ?_
 clear hK K
 refine wpPlan_do (by rfl) (by rfl) (fun K hK=>?_)
 go_simp
 refine(D2.out w3.heap.size v4 ([]++X1) w4 B4.size O4.out (by simp;omega)).mono ?_
 rintro e w5 ⟨v5,rfl,o5,h5⟩
 have B5:Below w3.heap.size w3 w5:=B4.trans h5
 have O5:=Lib.hid o5
 clear o5
 refine hK _ _ (B5) ?_
 clear hK K
 refine wpPlan_do (by rfl) (by rfl) (fun K hK=>?_)
 go_simp
 refine(D3.out w3.heap.size v5 ([]++X1++X2) w5 B5.size O5.out (by simp;omega)).mono ?_
 rintro e w6 ⟨v6,rfl,o6,h6⟩
 have B6:Below w3.heap.size w3 w6:=B5.trans h6
 have O6:=Lib.hid o6
 clear o6
 refine hK _ _ (B6) ?_
 clear hK K
 iterate 1
  refine wpPlan_read (by rfl) (by rfl) (fun R hR=>?_)
  apply Exists.intro
  refine⟨fun w' hS'=>?_,?_⟩
  ·obtain⟨e1,e2,e3⟩:=EU.out
   have j0:w'.cell? ⟨b,0,none⟩=some (.int .i64 lo):=(hS'.cell (p:=⟨b,0,none⟩) lb).trans JJ.out.1
   have j1:w'.cell? ⟨b,1,none⟩=some (.int .i64 hi):=(hS'.cell (p:=⟨b,1,none⟩) lb).trans JJ.out.2.1
   have j2:w'.cell? ⟨b,2,none⟩=some (.int .i64 dg):=(hS'.cell (p:=⟨b,2,none⟩) lb).trans JJ.out.2.2
   go_simp
   exact⟨rfl,rfl⟩
  go_simp
  refine hR _ ?_
  clear hR R
 refine wpPlan_nil ?_
 have E6:([]:List Int)++X1++X2++X3=X1++X2++X3:=by simp
 rw[E6] at O6
 have B6w:Below w.heap.size w w6:=h3.trans (B6.mono h3.size)
 have f2:w6.cell? ⟨y,4,none⟩=_:=(HY.out.keep B6w).cell 4
 simp only[List.getElem?_toArray,List.getElem?_cons_zero,List.getElem?_cons_succ] at f2
 have hz36:=B6.size
 have lX:(X1++X2++X3).length<=30:=by simp only[List.length_append];omega
 clear D1 D2 D3 B4 B5 O4 O5 E6 h4 h5 h6
 obtain⟨XX,hXX⟩:∃z,X1++X2++X3=z:=⟨_,rfl⟩
 rw[hXX] at O6 lX
 have HXX:=Lib.hid hXX
 clear hXX
 rcases HG.out with⟨rfl,hD⟩|⟨rfl,hD⟩
 all_goals
  have HD:=Lib.hid hD
  clear hD
  go_wp2_with (at_builtin;refine apL tyB rfl (.tmp 35) (.tmp 37) rfl ((ownB_E.1 O6.out).alloc _) rfl _ [_] rfl (OwnE.one (E:=bE) w6 _ _ rfl _ rfl).rd (by simp;omega) (by rw[World.size_alloc];omega) ?_;intro v7 w7 o7 g7 _;have O7:=Lib.hid o7;have B7:Below w3.heap.size w3 w7:=((B6.alloc hz36 _).grown g7 (by rw[World.size_alloc];omega) (fun k hk=>(O6.out.lt k hk).1));clear o7 g7)
  have hD:=HD.out
  rw[<-hD] at O7
  clear hD
  obtain⟨Z7,hZ7⟩:∃z,XX++[D]=z:=⟨_,rfl⟩
  have hl7:Z7.length<=31:=by rw[<-hZ7];simp;omega
  rw[hZ7] at O7
  have HZ7:=Lib.hid hZ7
  clear hZ7 f2
  have B7w:Below w.heap.size w w7:=h3.trans (B7.mono h3.size)
  have z7:=B7.size
  have ly:=HY.out.lt
  have lp:=HP.out.lt
  have K7:=HY.out.cell 7
  have L7:=HP.out.cell 7
  simp only[List.getElem?_toArray,List.getElem?_cons_zero,List.getElem?_cons_succ] at K7 L7
  have KL:=Lib.hid (And.intro K7 L7)
  clear K7 L7
  have Bd:Below w3.heap.size w3 w7.drew:=B7.drew
  have hw37:=h3.size
  go_upto_region 9 with fail
  refine wp_region_plan (Below w3.heap.size w3) [(0,true),(1,true),(2,true),(3,true),(4,true),(5,true),(6,true),(8,true),(9,true),(10,true),(11,true),(12,true),(13,true),(14,true),(15,true),(16,true),(7,false),(17,false),(18,false),(19,true)] (by kernel_rfl) (by kernel_rfl) (Bd) ?_
  iterate 16
   refine wpPlan_read (by rfl) (by rfl) (fun R hR=>?_)
   apply Exists.intro
   refine⟨fun w' hS'=>?_,?_⟩
   ·have Bw':Below w.heap.size w w':=h3.trans (hS'.mono h3.size)
    have k7:w'.cell? ⟨y,7,none⟩=_:=(Bw'.cell (p:=⟨y,7,none⟩) ly).trans KL.out.1
    have l7:w'.cell? ⟨p,7,none⟩=_:=(Bw'.cell (p:=⟨p,7,none⟩) lp).trans KL.out.2
    have j0:w'.cell? ⟨b,0,none⟩=some (.int .i64 lo):=(hS'.cell (p:=⟨b,0,none⟩) lb).trans JJ.out.1
    have j2:w'.cell? ⟨b,2,none⟩=some (.int .i64 dg):=(hS'.cell (p:=⟨b,2,none⟩) lb).trans JJ.out.2.2
    go_simp
    exact⟨rfl,rfl⟩
   go_simp
   refine hR _ ?_
   clear hR R
  refine wpPlan_do (by rfl) (by rfl) (fun K hK=>?_)
  go_simp
  refine(C1.out w7.drew (h3.trans (Bd.mono h3.size))).mono ?_
  rintro e w8 ⟨rfl,h8⟩
  have B8:Below w3.heap.size w3 w8:=Bd.trans (h8.mono Bd.size)
  have O8:=Lib.hid ((O7.out.drew).keep h8)
  refine hK _ _ (B8) ?_
  clear hK K
  refine wpPlan_do (by rfl) (by rfl) (fun K hK=>?_)
  go_simp
  refine(C2.out w8 (h3.trans (B8.mono h3.size))).mono ?_
  rintro e w9 ⟨v9,rfl,o9,h9⟩
  have B9:Below w3.heap.size w3 w9:=B8.trans (h9.mono B8.size)
  have OH:=Lib.hid (ownB_E.1 o9)
  have O9:=Lib.hid (O8.out.keep h9)
  clear o9
  refine hK _ _ (B9) ?_
  clear hK K
  refine wpPlan_do (by rfl) (by rfl) (fun K hK=>?_)
  refine apW tyB (.tmp 39) (.tmp 56) rfl O9.out rfl _ HW rfl OH.out.rd (by omega) B9.size ?_
  intro vA wA oA gA _
  have BA:Below w3.heap.size w3 wA:=B9.grown gA B9.size (fun k hk=>(O9.out.lt k hk).1)
  have OA:=Lib.hid (ownB_E.2 (oA.more hw37))
  clear oA gA
  go_simp
  refine hK _ _ (BA) ?_
  clear hK K
  iterate 1
   refine wpPlan_read (by rfl) (by rfl) (fun R hR=>?_)
   apply Exists.intro
   refine⟨fun w' hS'=>?_,?_⟩
   ·have Bw':Below w.heap.size w w':=h3.trans (hS'.mono h3.size)
    have k7:w'.cell? ⟨y,7,none⟩=_:=(Bw'.cell (p:=⟨y,7,none⟩) ly).trans KL.out.1
    have l7:w'.cell? ⟨p,7,none⟩=_:=(Bw'.cell (p:=⟨p,7,none⟩) lp).trans KL.out.2
    have j0:w'.cell? ⟨b,0,none⟩=some (.int .i64 lo):=(hS'.cell (p:=⟨b,0,none⟩) lb).trans JJ.out.1
    have j2:w'.cell? ⟨b,2,none⟩=some (.int .i64 dg):=(hS'.cell (p:=⟨b,2,none⟩) lb).trans JJ.out.2.2
    go_simp
    exact⟨rfl,rfl⟩
   go_simp
   refine hR _ ?_
   clear hR R
  refine wpPlan_nil ?_
  go_wp2_with fail
  go_ret
  have r:=OA.out
  rw[<-HZ7.out,<-HXX.out] at r
  exact⟨_,rfl,r,h3.trans (BA.mono h3.size)⟩
open Go.RowKit Go.Lib Go.Shelf
section
variable {sp : Spk} {c t : Js} {x y a o : Nat} {F Fy H : Ft} {cq : Value} {B : List Int}
theorem rjs_total(w:World)(h:RJsAt sp c x F w)(ok:JsOk sp c):Calls Tryz.prog 34 #[.pointer (some ⟨x,0,none⟩)] w fun e w'=>e=.returned (.int .u64 (jtot sp c))/\Below w.heap.size w w':=by
 obtain⟨p,G,hB,hI,hFx,hGx,hGF,hF⟩:=h
 cases sp with
 | h lo hi dg u m gr=>
  obtain⟨v,b1,b2,b3,b4,b5⟩:=hI
  have b7:=b1.cell 7
  simp only[List.getElem?_toArray,List.getElem?_cons_zero,List.getElem?_cons_succ] at b7
  refine(rjtotal1_any hB b7 (rtot_any v c.l w b2.rd (HsOk.pos ok) (by have:=HsOk.sum ok;omega) (by have:=HsOk.len ok;omega))).mono ?_
  rintro e w' ⟨rfl,rfl⟩;exact⟨rfl,Below.refl _ _⟩
 | d ac m=>
  obtain⟨rv,v,b1,b2,b3,b4⟩:=hI
  have b7:=b1.cell 3
  simp only[List.getElem?_toArray,List.getElem?_cons_zero,List.getElem?_cons_succ] at b7
  refine(rjtotal2_any hB b7 (rtot_any v c.l w b3.rd (DdOk.pos ok) (by have:=DdOk.sum ok;omega) (by have:=DdOk.len ok;omega))).mono ?_
  rintro e w' ⟨rfl,rfl⟩;exact⟨rfl,Below.refl _ _⟩
 | t d=>
  have ft:=TOk.fit ok
  refine rjtotal3_any (Q:=fun v w'=>RdM w' v (c.s.L++c.s.W)) hB ?_ ?_
  ·refine(Go.Proofs.YtingnldfpokckaaGreat.rall_any p G d c.s.lo c.s.hi c.s.L c.s.W w hI (by have:=ft.ok.len;have:=ft.d1;omega)).mono ?_
   rintro e w' ⟨v,rfl,h1,h2⟩
   exact⟨v,rfl,h1.rd,h2⟩
  ·intro v w1 hv
   exact rtotal_any v _ w1 hv ft.ok.ok (by have:=ft.t;omega)
 | k q=>
  obtain⟨lv,vs,hs⟩:=hI
  refine(rjtotal4_any hB (K.rtotal_any w hs (KOk.fit ok).ok.wtL (KOk.fit ok).ok.lenL)).mono ?_
  rintro e w' ⟨rfl,rfl⟩;exact⟨rfl,Below.refl _ _⟩
theorem rjs_text(w:World)(h:RJsAt sp c x F w)(ok:JsOk sp c):Calls Tryz.prog 35 #[.pointer (some ⟨x,0,none⟩)] w fun e w'=>∃v,e=.returned v/\OwnB w.heap.size w' v (jtxt sp c)/\Below w.heap.size w w':=by
 obtain⟨p,G,hB,hI,hFx,hGx,hGF,hF⟩:=h
 cases sp with
 | h lo hi dg u m gr=>exact rjtext1_any w hB hI ok
 | d ac m=>
  obtain⟨rv,v,b1,b2,b3,b4⟩:=hI
  have c1:=b1.cell 1
  have c2:=b1.cell 2
  have c3:=b1.cell 3
  simp only[List.getElem?_toArray,List.getElem?_cons_zero,List.getElem?_cons_succ] at c1 c2 c3
  exact rjtext2_any (Q:=fun v' w'=>OwnB w.heap.size w' v' (jtxt (.d ac m) c)/\Below w.heap.size w w') hB c1 c2 c3 ((r21of_any v w.drew b3.rd ok).mono fun e w' ⟨v',h1,h2,h3⟩=>⟨v',h1,h2,(Below.refl _ _).drew.trans h3⟩)
 | t d=>
  have ft:=TOk.fit ok
  have hraw:=okL.raw ft.ok.ok (by have:=ft.t;omega)
  refine rjtext3_any (Q:=fun v' w'=>OwnB w.heap.size w' v' (jtxt (.t d) c)/\Below w.heap.size w w') hB ?_
  exact rwrite_any p G d c.s.lo c.s.hi c.s.L c.s.W w hI ft.ok.rise (fun m hm=>hraw m (List.mem_append_left _ hm)) (fun m hm=>hraw m (List.mem_append_right _ hm)) (by have:=ft.ok.len;have:=ft.d1;omega) (by have:=ft.d0;omega) (by have:=ft.d1;omega) ft.ok.lo0 ft.ok.lo1 ft.ok.hi0 ft.ok.hi1
 | k q=>
  obtain⟨lv,vs,hs⟩:=hI
  have hk:=KOk.fit ok
  refine rjtext4_any (Q:=fun v' w'=>OwnB w.heap.size w' v' (jtxt (.k q) c)/\Below w.heap.size w w') hB hs.cell0 hs.cell1 hs.cell2 ?_
  exact(K.rwk_any q lv c.L c.led w.drew hs.llr (by omega) (by have:=KOk.q1 ok;omega) (by have:=hk.ok.led;simp only at this;omega) (by have:=hk.ok.lenL;omega) (by have:=hk.cnt (by have:=KOk.q0 ok;omega) (KOk.q1 ok);omega) (fun j=>⟨hk.ok.srt j,KOk.bd ok j⟩)).mono (fun e w' ⟨v',h1,h2,h3⟩=>⟨v',h1,h2,(Below.refl _ _).drew.trans h3⟩)
end
open Go.RowKit Go.Lib Go.Shelf
open Go.RowKit Go.Lib Go.Shelf
open Go.RowKit Go.Lib Go.Shelf
open Go.RowKit Go.Lib Go.Shelf
open Go.RowKit Go.Lib Go.Shelf
end Go.Proofs.YtingnldfpokckaaGreat.D
namespace Go.Proofs.YtingnldfpokckaaGreat
open Go.RowKit
inductive Tr where
 | nil
 | rd (i:Nat) (t:Tr)
 | ef (i:Nat) (t:Tr)
 | two (i j:Nat) (t u:Tr)
def Tr.len:Tr->Nat
 | .nil=>0
 | .rd _ t=>t.len+1
 | .ef _ t=>t.len+1
 | .two _ _ t _=>t.len+1
section
variable {P : Program} {ops : Array Oper} {md : Region.Mode} {S : World -> Prop} {Q : Exit -> Act -> World -> Prop}
def trB(md:Region.Mode)(ops:Array Oper):Tr->Array Bool->Bool
 | .nil,listed=>(Region.ready md ops listed).isEmpty
 | .rd i r,listed=>(Region.ready md ops listed).contains i && Region.free md ops listed i && trB md ops r (listed.setIfInBounds i true)
 | .ef i r,listed=>decide (Region.ready md ops listed=[i]) && trB md ops r (listed.setIfInBounds i true)
 | .two i j r q,listed=>decide (Region.ready md ops listed=[i,j]) && decide (r.len=q.len) && trB md ops r (listed.setIfInBounds i true) && trB md ops q (listed.setIfInBounds j true)
def wpTr(P:Program)(ops:Array Oper)(Q:Exit->Act->World->Prop)(S:World->Prop):Tr->Act->World->Prop
 | .nil,a,w=>Q .normal a w
 | .rd i r,a,w=>∃o v,ops[i]?=some o/\YieldsIf P ops S o v a/\wpTr P ops Q S r (a.put o.dst v) w
 | .ef i r,a,w=>wpOp P ops Q i (fun a' w'=>S w'/\wpTr P ops Q S r a' w') a w
 | .two i j r q,a,w=>wpOp P ops Q i (fun a' w'=>S w'/\wpTr P ops Q S r a' w') a w/\wpOp P ops Q j (fun a' w'=>S w'/\wpTr P ops Q S q a' w') a w
theorem tr_sound(hsel:Region.noSelect ops=true)(hQ:∀c a w,¬Q (.panic c) a w):∀(t:Tr) (listed:Array Bool) (a:Act) (w:World),trB md ops t listed=true->S w ->
 wpTr P ops Q S t a w->wpAnyH P md ops Q S t.len listed a w
 | .nil,listed,a,w,hB,_,h=>⟨by simpa[trB] using hB,h⟩
 | .rd i r,listed,a,w,hB,hS,h=>by
  simp only[trB,Bool.and_eq_true] at hB
  obtain⟨o,v,ho,hy,hn⟩:=h
  exact wpAnyH_take ho hsel hB.1.2 hB.1.1 (fun c a w hp=>absurd hp (hQ c _ w)) hy hS (tr_sound hsel hQ r _ _ w hB.2 hS hn)
 | .ef i r,listed,a,w,hB,hS,h=>by
  simp only[trB,Bool.and_eq_true,decide_eq_true_eq] at hB
  refine⟨fun h0=>(by rw[hB.1] at h0;cases h0),fun j hj=>?_⟩
  rw[hB.1] at hj
  have hji:j=i:=by simpa using hj
  subst hji
  exact wpOp_mono (fun a' w' h'=>⟨h'.1,tr_sound hsel hQ r _ a' w' hB.2 h'.1 h'.2⟩) h
 | .two i j r q,listed,a,w,hB,hS,h=>by
  simp only[trB,Bool.and_eq_true,decide_eq_true_eq] at hB
  obtain⟨⟨⟨h1,h2⟩,h3⟩,h4⟩:=hB
  refine⟨fun h0=>(by rw[h1] at h0;cases h0),fun k hk=>?_⟩
  rw[h1] at hk
  simp only[List.mem_cons,List.not_mem_nil,or_false] at hk
  rcases hk with rfl|rfl
  ·exact wpOp_mono (fun a' w' h'=>⟨h'.1,tr_sound hsel hQ r _ a' w' h3 h'.1 h'.2⟩) h.1
  ·exact wpOp_mono (fun a' w' h'=>⟨h'.1,by
    have:=tr_sound hsel hQ q _ a' w' h4 h'.1 h'.2
    rw[<-h2] at this;exact this⟩) h.2
theorem wp_region_tree{id:Nat}{a:Act}{w:World}(S:World->Prop)(t:Tr)(hm:P.follows .mixedOrders=true)
 (hB:(Region.noSelect ops && decide (t.len=ops.size) && trB .any ops t (Array.replicate ops.size false))=true)
 (hS:S w.drew) (h:wpTr P ops (Calm Q) S t a w.drew):(Code.region id ops true).wp P Q a w:=by
 simp only[Bool.and_eq_true,decide_eq_true_eq] at hB
 have H:=tr_sound (Q:=Calm Q) hB.1.1 (fun _ _ _ h=>h) t _ a _ hB.2 hS h
 rw[hB.1.2] at H
 exact Code.wp_mono Calm.imp (wp_region_any hm (wpAny_of_held _ _ _ _ H))
theorem wpTr_read{i:Nat}{r:Tr}{a:Act}{w:World}{o:Oper}(ho:ops[i]?=some o)(hw:Region.wanted o (yielded ops a.tmps)=true)
 (h:∀R:Act->Prop,(∀a',wpTr P ops Q S r a' w->R a')->∃v,(∀w',S w'->IsVal v w' ((execOp a.eval o).run P w'))/\R (a.put o.dst v)):wpTr P ops Q S (.rd i r) a w:=by
 obtain⟨v,h1,h2⟩:=h _ (fun _ h=>h)
 refine⟨o,v,ho,.inl ⟨hw,fun w' hS=>?_⟩,h2⟩
 have h3:=h1 w' hS
 generalize (execOp a.eval o).run P w'=x at *
 cases x with
 | ok n w''=>obtain⟨rfl,rfl⟩:=h3;rfl
 | halt x w''=>exact h3.elim
theorem wpTr_do{i:Nat}{r:Tr}{a:Act}{w:World}{o:Oper}(ho:ops[i]?=some o)(hw:Region.wanted o (yielded ops a.tmps)=true)
 (h:∀K:Act->World->Prop,(∀a' w',S w'->wpTr P ops Q S r a' w'->K a' w')->o.wp P a w K Q):wpTr P ops Q S (.ef i r) a w:=by
 unfold wpTr wpOp
 simp only[ho,hw,if_true]
 exact .inl (h _ fun _ _ h1 h2=>⟨h1,h2⟩)
theorem wpTr_two{i j:Nat}{r q:Tr}{a:Act}{w:World}{o o2:Oper}(ho:ops[i]?=some o)(hw:Region.wanted o (yielded ops a.tmps)=true)(ho2:ops[j]?=some o2)(hw2:Region.wanted o2 (yielded ops a.tmps)=true)
 (h:∀K:Act->World->Prop,(∀a' w',S w'->wpTr P ops Q S r a' w'->K a' w')->o.wp P a w K Q)
 (h2:∀K:Act->World->Prop,(∀a' w',S w'->wpTr P ops Q S q a' w'->K a' w')->o2.wp P a w K Q):wpTr P ops Q S (.two i j r q) a w:=by
 unfold wpTr wpOp
 simp only[ho,hw,ho2,hw2,if_true]
 exact⟨.inl (h _ fun _ _ h1 h2=>⟨h1,h2⟩),.inl (h2 _ fun _ _ h1 h2=>⟨h1,h2⟩)⟩
theorem wpTr_nil{a:Act}{w:World}(h:Q .normal a w):wpTr P ops (Calm Q) S .nil a w:=h
end
end Go.Proofs.YtingnldfpokckaaGreat
namespace Go.Proofs.YtingnldfpokckaaGreat.D
open Go.RowKit Go.Lib Go.Shelf
open Go.RowKit Go.Lib Go.Shelf
theorem Spk.form(sp:Spk):∃(kd lo hi dg ac sz:Int) (gr:Bool),sp.v=specV kd lo hi dg gr ac sz/\sp.cs=[.int .u8 kd,.int .i64 lo,.int .i64 hi,.int .i64 dg,.bool gr,.int .i64 ac,.int .i64 sz]:=by
 cases sp<;>exact⟨_,_,_,_,_,_,_,rfl,rfl⟩
end Go.Proofs.YtingnldfpokckaaGreat.D
