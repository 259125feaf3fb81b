/- Parts of a proof. No condition. -/
import Derived.Test.YtilcnjbpmoijmaaGreatPw45
set_option maxRecDepth 100000
set_option maxHeartbeats 16000000
set_option linter.unusedVariables false
set_option linter.unusedSimpArgs false
namespace Go.Proofs.YtilcnjbpmoijmaaGreat.D
open Tryz
open Go.RowKit Go.Lib Go.Shelf
theorem Me{lo hi dg u m bk:Nat}{gr:Bool}{l:List Pr}(v:Value)(w:World)(h:iM fZ w v l)(ok:je lo hi dg u m gr bk l):aH 78 #[.int .i64 lo,.int .i64 (eY u m hi bk),.int .i64 dg,v] w fun e w'=>∃v',e=.returned v'/\OwnB w.heap.size w' v' (hwB lo (eY u m hi bk) dg l)/\Below w.heap.size w w':=by
 have C1:=aI (Qg v w h ok);have hrb:=O_ ok.sh ok.b1 (bk:=bk);have hcl:=nR l;have hll:=ok.len;have hlo:lo<=9223372036854775807:=by have:=ok.sh.h0;have:=ok.sh.h1;omega
 have hdg:=ok.sh.d1;generalize eY u m hi bk=R at *;have HB:Hid (hwB lo R dg l=iQ 4 478450451++iQ 4 (kQ l).length++iQ 4 0++iQ 4 dg++iQ 8 lo++iQ 8 R++iQ 8 4607182418800017408++kQ l):=aI rfl;rw[HB.o];clear HB h ok;generalize kQ l=CN at *;obtain⟨N,hN⟩:=aF (CN.length);have HN:=aI hN;rw[hN] at hcl |-;clear hN;have EU:Hid (IntKind.u64.wrap (N:Int)=(N:Int)/\IntKind.u64.wrap (dg:Int)=(dg:Int)/\IntKind.u64.wrap (lo:Int)=(lo:Int)/\IntKind.u64.wrap (R:Int)=(R:Int)):=aI ⟨by rw[fF];omega,by rw[fF];omega,by rw[fF];omega,by rw[fF];omega⟩
 have D0:Hid (∀w1,_):=aI (fun w1=>zT 478450451 w1 ae  ae)
 have L0:=fD 4 478450451;have D1:Hid (∀w1,_):=aI (fun w1=>zT (N:Int) w1 ae  ae)
 have L1:=fD 4 (N:Int);have D2:Hid (∀w1,_):=aI (fun w1=>zT 0 w1 ae  ae)
 have L2:=fD 4 0;have D3:Hid (∀w1,_):=aI (fun w1=>zT (dg:Int) w1 ae  ae)
 have L3:=fD 4 (dg:Int);have D4:Hid (∀w1,_):=aI (fun w1=>H9 (lo:Int) w1 ae  ae)
 have L4:=fD 8 (lo:Int);have D5:Hid (∀w1,_):=aI (fun w1=>H9 (R:Int) w1 ae  ae)
 have L5:=fD 8 (R:Int);have D6:Hid (∀w1,_):=aI (fun w1=>H9 4607182418800017408 w1 ae  ae)
 have L6:=fD 8 4607182418800017408;obtain⟨e1,e2,e3,e4⟩:=EU.o;generalize iQ 4 478450451=X0 at *;generalize iQ 4 (N:Int)=X1 at *;generalize iQ 4 0=X2 at *;generalize iQ 4 (dg:Int)=X3 at *;generalize iQ 8 (lo:Int)=X4 at *;generalize iQ 8 (R:Int)=X5 at *;generalize iQ 8 4607182418800017408=X6 at *
 go_enter func78,ntmps78
 go_wp2_with fail;refine(C1.o).mono ?_
 rintro e w1 ⟨vc,rfl,oc,hb0⟩;have OC:=aI oc;obtain⟨Ac,kc,evc,_,_,_⟩:=(dP.rd oc).form;rw[HN.o] at evc;subst evc;clear oc;have OB:Hid (OwnB w1.heap.size w1 (.slice none 0 0) []):=aI (dP.nil_ _ _ _ _);have hbb:Below w1.heap.size w1 w1:=aO _ _;have hz0:=hbb.size
 go_wp2_with fail;refine(D0.o w1).mono ?_
 rintro e wa0 ⟨va0,rfl,oa0,ha0⟩;have OA0:=aI oa0;clear oa0
 go_wp2_with (at_builtin;refine uk Ak rfl (.tmp 13) (.tmp 14) rfl ((dX.1 OB.o).keep ha0) rfl _ X0 rfl (dX.1 OA0.o).rd (by simp only[aQ,bC];omega) (by have:=ha0.size;omega) ?_;intro vb0 wb0 ob0 gb0 _;have PB0:=aI (rU hz0 ha0 OB.o ob0 gb0);clear ob0 gb0)
 have bs9:=hbb.trans PB0.o.2;have hz1:=bs9.size
 skip
 refine(D1.o wb0).mono ?_
 rintro e wa1 ⟨va1,rfl,oa1,ha1⟩;have OA1:=aI oa1;clear oa1
 go_wp2_with (at_builtin;refine uk Ak rfl (.tmp 16) (.tmp 20) rfl ((dX.1 PB0.o.1).keep ha1) rfl _ X1 rfl (dX.1 OA1.o).rd (by simp only[aQ,bC];omega) (by have:=ha1.size;omega) ?_;intro vb1 wb1 ob1 gb1 _;have PB1:=aI (rU hz1 ha1 PB0.o.1 ob1 gb1);clear ob1 gb1)
 have bt0:=bs9.trans PB1.o.2;have hz2:=bt0.size
 skip
 refine(D2.o wb1).mono ?_
 rintro e wa2 ⟨va2,rfl,oa2,ha2⟩;have OA2:=aI oa2;clear oa2
 go_wp2_with (at_builtin;refine uk Ak rfl (.tmp 22) (.tmp 23) rfl ((dX.1 PB1.o.1).keep ha2) rfl _ X2 rfl (dX.1 OA2.o).rd (by simp only[aQ,bC];omega) (by have:=ha2.size;omega) ?_;intro vb2 wb2 ob2 gb2 _;have PB2:=aI (rU hz2 ha2 PB1.o.1 ob2 gb2);clear ob2 gb2)
 have bt1:=bt0.trans PB2.o.2;have hz3:=bt1.size
 skip
 refine(D3.o wb2).mono ?_
 rintro e wa3 ⟨va3,rfl,oa3,ha3⟩;have OA3:=aI oa3;clear oa3
 go_wp2_with (at_builtin;refine uk Ak rfl (.tmp 25) (.tmp 28) rfl ((dX.1 PB2.o.1).keep ha3) rfl _ X3 rfl (dX.1 OA3.o).rd (by simp only[aQ,bC];omega) (by have:=ha3.size;omega) ?_;intro vb3 wb3 ob3 gb3 _;have PB3:=aI (rU hz3 ha3 PB2.o.1 ob3 gb3);clear ob3 gb3)
 have bt2:=bt1.trans PB3.o.2;have oC:=bt2.size
 skip
 refine(D4.o wb3).mono ?_
 rintro e wa4 ⟨va4,rfl,oa4,ha4⟩;have OA4:=aI oa4;clear oa4
 go_wp2_with (at_builtin;refine uk Ak rfl (.tmp 30) (.tmp 33) rfl ((dX.1 PB3.o.1).keep ha4) rfl _ X4 rfl (dX.1 OA4.o).rd (by simp only[aQ,bC];omega) (by have:=ha4.size;omega) ?_;intro vb4 wb4 ob4 gb4 _;have PB4:=aI (rU oC ha4 PB3.o.1 ob4 gb4);clear ob4 gb4)
 have bt3:=bt2.trans PB4.o.2;have WJ:=bt3.size
 skip
 refine(D5.o wb4).mono ?_
 rintro e wa5 ⟨va5,rfl,oa5,ha5⟩;have OA5:=aI oa5;clear oa5
 go_wp2_with (at_builtin;refine uk Ak rfl (.tmp 35) (.tmp 38) rfl ((dX.1 PB4.o.1).keep ha5) rfl _ X5 rfl (dX.1 OA5.o).rd (by simp only[aQ,bC];omega) (by have:=ha5.size;omega) ?_;intro vb5 wb5 ob5 gb5 _;have PB5:=aI (rU WJ ha5 PB4.o.1 ob5 gb5);clear ob5 gb5)
 have bt4:=bt3.trans PB5.o.2;have WM:=bt4.size
 skip
 refine(D6.o wb5).mono ?_
 rintro e wa6 ⟨va6,rfl,oa6,ha6⟩;have OA6:=aI oa6;clear oa6
 go_wp2_with (first|(at_builtin;refine uk Ak rfl (.tmp 40) (.tmp 41) rfl ((dX.1 PB5.o.1).keep ha6) rfl _ X6 rfl (dX.1 OA6.o).rd (by simp only[aQ,bC];omega) (by have:=ha6.size;omega) ?_;intro vb6 wb6 ob6 gb6 _;have PB6:=aI (rU WM ha6 PB5.o.1 ob6 gb6);clear ob6 gb6;have bi8:=bt4.trans PB6.o.2;have OC9:=aI (dP.keep OC.o bi8);have U8:=bi8.size;have hN:=HN.o)|(at_builtin;refine uk Ak rfl (.tmp 43) (.tmp 44) rfl (dX.1 PB6.o.1) rfl _ CN rfl (dX.1 OC9.o).rd (by simp only[aQ,bC];omega) U8 ?_;intro v9 w9 o9 g9 _;have P9:=aI (rU U8 (aO _ _) PB6.o.1 o9 g9);clear o9 g9))
 go_ret;refine⟨_,rfl,?_,hb0.trans ((bi8.trans P9.o.2).mono hb0.size)⟩
 have:=dP.lift P9.o.1 (base':=w.heap.size) (fun k hk=>by have:=(dP.lt P9.o.1 k hk).1;have:=hb0.size;omega)
 unfold OwnB
 simpa using this
open Tryz
open Go.RowKit Go.Lib Go.Shelf
theorem Uo(c n x:Int)(base:Nat)(vb:Value)(bs:List Int)(w:World)(hb0:base<=w.heap.size)(hO:OwnB base w vb bs)(hl:bs.length<=1000000000000)(hc:(c=118/\x=n/\0<=n/\n<18446744073709551616)\/(c=122/\n=ub x/\-9223372036854775808<=x/\x<=9223372036854775807)) :
 aH 77 #[vb,.int .u8 c,.int .u64 n] w fun e w'=>∃v,e=.returned v/\OwnB base w' v (bs++(if c=118 then eG x else zg x))/\Below base w w':=by
 have HO:=aI hO;have C1:=aI (yV c n x w hc);have hlen:(if c=118 then eG x else zg x).length<=10:=by split;exact(dM _).2;exact(dM _).2
 generalize (if c=118 then eG x else zg x)=out at *
 clear hO hc
 go_enter func77,ntmps77
 go_wp2_with fail;refine(C1.o).mono ?_
 rintro e w1 ⟨v1,rfl,o1,hb1⟩;have O1:=aI o1;have hz1:=hb1.size;clear o1
 go_wp2_with (first
  | (at_builtin
     go_must (refine jH rfl (.tmp 15) (.tmp 16) rfl base vb bs rfl (dP.keep HO.o hb1) v1 out rfl (dP.rd O1.o) ae  ae ?_)
     intro v2 w2 o2 g2 a2;have hb2:Below base w w2:=(hb1.mono hb0).grown g2 ae (fun k hk=>(dP.lt HO.o k hk).1)
     have O2:=aI o2;clear o2 g2 a2))
 go_ret;exact⟨v2,rfl,O2.o,hb2⟩
theorem H_(n:Int)(base:Nat)(vb:Value)(bs:List Int)(w:World)(hb0:base<=w.heap.size)(hO:OwnB base w vb bs)(hl:bs.length<=1000000000000)(n0:0<=n)(n1:n<18446744073709551616) :
 aH 77 #[vb,.int .u8 118,.int .u64 n] w fun e w'=>∃v,e=.returned v/\OwnB base w' v (bs++eG n)/\Below base w w':=by
 have h:=Uo 118 n n base vb bs w hb0 hO hl (.inl ⟨rfl,rfl,n0,n1⟩)
 rwa [if_pos rfl] at h
section
variable {y p : Nat} {p1 p2 p3 p4 : Value} {w : World} {Q : Value -> World -> Prop} {lo hi dg ac sz n : Int} {gr : Bool} {v va vb : Value}
theorem MC(hy:dK w y 108 #[.int .u8 1,.int .i64 lo,.int .i64 hi,.int .i64 dg,.bool gr,.int .i64 ac,.int .i64 sz,.pointer (some ⟨p,0,none⟩),p2,p3,p4])(hp:w.cell? ⟨p,7,none⟩=some v)(h:aH 59 #[v] w fun e w'=>e=.returned (.int .u64 n)/\w=w') :
 aH 23 #[.pointer (some ⟨y,0,none⟩)] w fun e w'=>e=.returned (.int .u64 n)/\w=w':=by
 have C:=aI h;have f0:=hy.cell 0;have f1:=hy.cell 7;simp only[aK,aJ,aN] at f0 f1;clear h hy
 go_enter func23,ntmps23
 go_wp2_with fail;refine(C.o).mono ?_
 rintro e w1 ⟨rfl,rfl⟩
 go_wp2_with fail
 go_ret;exact⟨rfl,rfl⟩
theorem MF(hy:dK w y 108 #[.int .u8 2,.int .i64 lo,.int .i64 hi,.int .i64 dg,.bool gr,.int .i64 ac,.int .i64 sz,p1,.pointer (some ⟨p,0,none⟩),p3,p4])(hp:w.cell? ⟨p,3,none⟩=some v)(h:aH 59 #[v] w fun e w'=>e=.returned (.int .u64 n)/\w=w') :
 aH 23 #[.pointer (some ⟨y,0,none⟩)] w fun e w'=>e=.returned (.int .u64 n)/\w=w':=by
 have C:=aI h;have f0:=hy.cell 0;have f1:=hy.cell 8;simp only[aK,aJ,aN] at f0 f1;clear h hy
 go_enter func23,ntmps23
 go_wp2_with fail;refine(C.o).mono ?_
 rintro e w1 ⟨rfl,rfl⟩
 go_wp2_with fail
 go_ret;exact⟨rfl,rfl⟩
theorem MG(hy:dK w y 108 #[.int .u8 3,.int .i64 lo,.int .i64 hi,.int .i64 dg,.bool gr,.int .i64 ac,.int .i64 sz,p1,p2,p3,p4])(h:aH 61 #[p3] w fun e w'=>∃v,e=.returned v/\Q v w'/\Below w.heap.size w w')(h2:∀v w1,Q v w1->aH 60 #[v] w1 fun e w'=>e=.returned (.int .u64 n)/\Below w1.heap.size w1 w') :
 aH 23 #[.pointer (some ⟨y,0,none⟩)] w (aG w (.int .u64 n)):=by
 have C:=aI h;have C2:=aI h2;have f0:=hy.cell 0;have f1:=hy.cell 9;simp only[aK,aJ,aN] at f0 f1;clear h h2 hy
 go_enter func23,ntmps23
 go_wp2_with fail;refine(C.o).mono ?_
 rintro e w1 ⟨v,rfl,hq,hb⟩;have HB:=aI hb;have D:=aI (C2.o v w1 hq);clear hq hb
 go_wp2_with fail;refine(D.o).mono ?_
 rintro e w2 ⟨rfl,hb2⟩;have HB2:=aI (HB.o.trans (hb2.mono HB.o.size));clear hb2
 go_wp2_with fail
 go_ret;exact⟨rfl,HB2.o⟩
theorem MH(hy:dK w y 108 #[.int .u8 4,.int .i64 lo,.int .i64 hi,.int .i64 dg,.bool gr,.int .i64 ac,.int .i64 sz,p1,p2,p3,p4])(h:aH 62 #[p4] w fun e w'=>e=.returned (.int .u64 n)/\w=w') :
 aH 23 #[.pointer (some ⟨y,0,none⟩)] w fun e w'=>e=.returned (.int .u64 n)/\w=w':=by
 have C:=aI h;have f0:=hy.cell 0;have f1:=hy.cell 10;simp only[aK,aJ,aN] at f0 f1;clear h hy
 go_enter func23,ntmps23
 go_wp2_with fail;refine(C.o).mono ?_
 rintro e w1 ⟨rfl,rfl⟩
 go_wp2_with fail
 go_ret;exact⟨rfl,rfl⟩
theorem Qh(hy:dK w y 108 #[.int .u8 2,.int .i64 lo,.int .i64 hi,.int .i64 dg,.bool gr,.int .i64 ac,.int .i64 sz,p1,.pointer (some ⟨p,0,none⟩),p3,p4])(hp0:w.cell? ⟨p,1,none⟩=some va)(hp1:w.cell? ⟨p,2,none⟩=some vb)(hp2:w.cell? ⟨p,3,none⟩=some v)(h:aH 80 #[va,vb,v] w.drew fun e w'=>∃v,e=.returned v/\Q v w') :
 aH 42 #[.pointer (some ⟨y,0,none⟩)] w fun e w'=>∃v,e=.returned v/\Q v w':=by
 have C:=aI h;have f0:=hy.cell 0;have f1:=hy.cell 8;simp only[aK,aJ,aN] at f0 f1;clear h hy
 go_enter func42,ntmps42
 go_upto_region 11 with fail;refine qm (fun w'=>w'=w.drew) 21 (dV 0 21 []) (rfl) ?_
 iterate 21 refine mr (h:=fun w' hS'=>by subst hS';have f1:w.drew.cell? ⟨y,8,none⟩=_:=f1;have hp0:w.drew.cell? ⟨p,1,none⟩=some va:=hp0;have hp1:w.drew.cell? ⟨p,2,none⟩=some vb:=hp1;have hp2:w.drew.cell? ⟨p,3,none⟩=some v:=hp2;go_simp;exact⟨rfl,rfl⟩) ?_
 refine d_ ?_
 simp only[bT,cO]
 go_wp2_with fail;refine(C.o).mono ?_
 rintro e w1 ⟨v,rfl,hq⟩;have HQ:=aI hq;clear hq
 go_wp2_with fail;try refine dR ?_
 go_wp2_with fail
 go_ret;exact⟨_,rfl,HQ.o⟩
theorem Qi(hy:dK w y 108 #[.int .u8 3,.int .i64 lo,.int .i64 hi,.int .i64 dg,.bool gr,.int .i64 ac,.int .i64 sz,p1,p2,p3,p4])(h:aH 81 #[p3] w fun e w'=>∃v,e=.returned v/\Q v w') :
 aH 42 #[.pointer (some ⟨y,0,none⟩)] w fun e w'=>∃v,e=.returned v/\Q v w':=by
 have C:=aI h;have f0:=hy.cell 0;have f1:=hy.cell 9;simp only[aK,aJ,aN] at f0 f1;clear h hy
 go_enter func42,ntmps42
 go_wp2_with fail;refine(C.o).mono ?_
 rintro e w1 ⟨v,rfl,hq⟩;have HQ:=aI hq;clear hq
 go_wp2_with fail
 go_ret;exact⟨_,rfl,HQ.o⟩
theorem Qj(hy:dK w y 108 #[.int .u8 4,.int .i64 lo,.int .i64 hi,.int .i64 dg,.bool gr,.int .i64 ac,.int .i64 sz,p1,p2,p3,.pointer (some ⟨p,0,none⟩)])(hp0:w.cell? ⟨p,0,none⟩=some va)(hp1:w.cell? ⟨p,1,none⟩=some v)(hp2:w.cell? ⟨p,2,none⟩=some vb)(h:aH 82 #[va,v,vb] w.drew fun e w'=>∃v,e=.returned v/\Q v w') :
 aH 42 #[.pointer (some ⟨y,0,none⟩)] w fun e w'=>∃v,e=.returned v/\Q v w':=by
 have C:=aI h;have f0:=hy.cell 0;have f1:=hy.cell 10;simp only[aK,aJ,aN] at f0 f1;clear h hy
 go_enter func42,ntmps42
 go_upto_region 14 with fail;refine qm (fun w'=>w'=w.drew) 21 (dV 0 21 []) (rfl) ?_
 iterate 21 refine mr (h:=fun w' hS'=>by subst hS';have f1:w.drew.cell? ⟨y,10,none⟩=_:=f1;have hp0:w.drew.cell? ⟨p,0,none⟩=some va:=hp0;have hp1:w.drew.cell? ⟨p,1,none⟩=some v:=hp1;have hp2:w.drew.cell? ⟨p,2,none⟩=some vb:=hp2;go_simp;exact⟨rfl,rfl⟩) ?_
 refine d_ ?_
 simp only[bT,cO]
 go_wp2_with fail;refine(C.o).mono ?_
 rintro e w1 ⟨v,rfl,hq⟩;have HQ:=aI hq;clear hq
 go_wp2_with fail;try refine dR ?_
 go_wp2_with fail
 go_ret;exact⟨_,rfl,HQ.o⟩
end
open Tryz
open Go.RowKit Go.Lib Go.Shelf
theorem Qk{y p lo hi dg u m bk:Nat}{gr:Bool}{l:List Pr}{G:Ft}(w:World)(hy:dK w y 108 #[.int .u8 1,.int .i64 lo,.int .i64 hi,.int .i64 dg,.bool gr,.int .i64 0,.int .i64 0,.pointer (some ⟨p,0,none⟩),.pointer none,.pointer none,.pointer none])(h:Oo p lo hi dg u m gr bk l G w)(ok:je lo hi dg u m gr bk l) :
 aH 42 #[.pointer (some ⟨y,0,none⟩)] w fun e w'=>∃v,e=.returned v/\OwnB w.heap.size w' v (hjB lo hi dg (eY u m hi bk) gr l)/\Below w.heap.size w w':=by
 have S:=Oq p lo hi dg u m gr bk l;obtain⟨vL,b1,b2,_,_,_⟩:=id h;have HY:=aI hy;have HP:=aI b1;have C1:Hid (∀w1,Below w.heap.size w w1->_):=aI (fun w1 hb=>Xt w1 (S.keep h hb) ok.sh ok.b0 ok.b1)
 have C2:Hid (∀w1,Below w.heap.size w w1->_):=aI (fun w1 hb=>Me vL w1 (b2.rd.keep hb) ok)
 have hlo:lo<=9223372036854775807:=by have:=ok.sh.h0;have:=ok.sh.h1;omega
 have hhi:=ok.sh.h1;have hdg:=ok.sh.d1;have hwl:=wQ lo (eY u m hi bk) dg l;have hcl:=nR l;have hll:=ok.len;have hl1:=dM (lo:Int);have hl2:=dM (hi:Int);have hl3:=dM (dg:Int);have HG:=aI (LK gr);have HB:Hid (hjB lo hi dg (eY u m hi bk) gr l=eG lo++eG hi++eG dg++[Pg gr]++hwB lo (eY u m hi bk) dg l):=aI rfl;rw[HB.o];have EU:Hid (IntKind.u64.wrap (lo:Int)=(lo:Int)/\IntKind.u64.wrap (hi:Int)=(hi:Int)/\IntKind.u64.wrap (dg:Int)=(dg:Int)):=aI ⟨by rw[fF];omega,by rw[fF];omega,by rw[fF];omega⟩
 have D1:Hid (∀(base:Nat) (vb:Value) (bs:List Int) (w1:World),base<=w1.heap.size->OwnB base w1 vb bs->bs.length<=1000000000000->_):=aI (fun base vb bs w1 h1 h2 h3=>H_ (lo:Int) base vb bs w1 h1 h2 h3 ae  ae)
 have D2:Hid (∀(base:Nat) (vb:Value) (bs:List Int) (w1:World),base<=w1.heap.size->OwnB base w1 vb bs->bs.length<=1000000000000->_):=aI (fun base vb bs w1 h1 h2 h3=>H_ (hi:Int) base vb bs w1 h1 h2 h3 ae  ae)
 have D3:Hid (∀(base:Nat) (vb:Value) (bs:List Int) (w1:World),base<=w1.heap.size->OwnB base w1 vb bs->bs.length<=1000000000000->_):=aI (fun base vb bs w1 h1 h2 h3=>H_ (dg:Int) base vb bs w1 h1 h2 h3 ae  ae)
 obtain⟨f0,f1,f2,f3⟩:=hy.c4;clear HB S h ok hy b1 b2;generalize Pg gr=D at *;generalize eG (lo:Int)=X1 at *;generalize eG (hi:Int)=X2 at *;generalize eG (dg:Int)=X3 at *;generalize hwB (lo:Int) (eY u m hi bk) dg l=HW at *;generalize eY u m hi bk=R at *;obtain⟨b,hbb⟩:=aF (w.heap.size);obtain⟨wa,g_⟩:∃z,(w.alloc (.cells #[.int .i64 0,.int .i64 0,.int .i64 0] 23))=z:=⟨_,rfl⟩;have ha:Below w.heap.size w wa:=by rw[<-g_];exact bw
 have A0:Hid (dK wa b 23 #[.int .i64 0,.int .i64 0,.int .i64 0]):=by rw[<-g_,<-hbb];exact aI (dK.new _ _ _)
 obtain⟨x0,x1,x2⟩:=A0.o.c3;have y0:=A0.o.frozen 0;have y1:=A0.o.frozen 1;have y2:=A0.o.frozen 2;have lJ:=aI hbb;clear hbb
 go_enter func42,ntmps42
 have hbb:=lJ.o;have k0:wa.cell? ⟨y,0,none⟩=_:=(HY.o.keep ha).cell 0
 go_upto_region 4 with fail;clear x0 x1 x2 y0 y1 y2 f0 f1 f2 f3 k0 hbb;obtain⟨w3,hw3⟩:∃z,((wa.setCell ⟨b,0,none⟩ (.int .i64 lo)).setCell ⟨b,1,none⟩ (.int .i64 hi)).setCell ⟨b,2,none⟩ (.int .i64 dg)=z:=⟨_,rfl⟩;try rw[g_]
 rw[hw3];have hby:w.heap.size<=b:=by have:=lJ.o;omega
 have A3:Hid (dK w3 b 23 #[.int .i64 lo,.int .i64 hi,.int .i64 dg]):=by rw[<-hw3];exact aI (((A0.o.dQ 0 _).dQ 1 _).dQ 2 _)
 have h3:Below w.heap.size w w3:=by rw[<-hw3];exact((ha.setCell (p:=⟨b,0,none⟩) hby _).setCell (p:=⟨b,1,none⟩) hby _).setCell (p:=⟨b,2,none⟩) hby _
 clear hw3 g_ A0 ha;have Bd:Below w3.heap.size w3 w3.drew:=(aO _ _).drew;have lb:=A3.o.lt;obtain⟨J0,J1,J2⟩:=A3.o.c3;have JJ:=aI (aP J0 (aP J1 J2));clear J0 J1 J2;refine jh (Below w3.heap.size w3) (dV 0 3 (dV 4 3 (dV 8 3 (fJ 3 (fJ 7 (fJ 11 (dV 12 1 []))))))) (Bd) ?_
 iterate 9 refine eQ (h:=fun w' hS'=>by obtain⟨e1,e2,e3⟩:=EU.o;have j0:w'.cell? ⟨b,0,none⟩=some (.int .i64 lo):=(hS'.cell (p:=⟨b,0,none⟩) lb).trans JJ.o.1;have j1:w'.cell? ⟨b,1,none⟩=some (.int .i64 hi):=(hS'.cell (p:=⟨b,1,none⟩) lb).trans JJ.o.2.1;have j2:w'.cell? ⟨b,2,none⟩=some (.int .i64 dg):=(hS'.cell (p:=⟨b,2,none⟩) lb).trans JJ.o.2.2;go_simp;exact⟨rfl,rfl⟩) ?_
 refine fO fun K hK=>?_
 go_simp;refine(D1.o w3.heap.size (.slice none 0 0) [] w3.drew Bd.size (dP.nil_ _ _ _ _) ag).mono ?_
 rintro e w4 ⟨v4,rfl,o4,h4⟩;have B4:Below w3.heap.size w3 w4:=Bd.trans h4;have O4:=aI o4;clear o4;refine hK _ _ (B4) ?_
 clear hK K;refine fO fun K hK=>?_
 go_simp;refine(D2.o w3.heap.size v4 ([]++X1) w4 B4.size O4.o ah).mono ?_
 rintro e w5 ⟨v5,rfl,o5,h5⟩;have B5:Below w3.heap.size w3 w5:=B4.trans h5;have O5:=aI o5;clear o5;refine hK _ _ (B5) ?_
 clear hK K;refine fO fun K hK=>?_
 go_simp;refine(D3.o w3.heap.size v5 ([]++X1++X2) w5 B5.size O5.o ah).mono ?_
 rintro e w6 ⟨v6,rfl,o6,h6⟩;have B6:Below w3.heap.size w3 w6:=B5.trans h6;have O6:=aI o6;clear o6;refine hK _ _ (B6) ?_
 clear hK K;refine eQ (h:=fun w' hS'=>by obtain⟨e1,e2,e3⟩:=EU.o;have j0:w'.cell? ⟨b,0,none⟩=some (.int .i64 lo):=(hS'.cell (p:=⟨b,0,none⟩) lb).trans JJ.o.1;have j1:w'.cell? ⟨b,1,none⟩=some (.int .i64 hi):=(hS'.cell (p:=⟨b,1,none⟩) lb).trans JJ.o.2.1;have j2:w'.cell? ⟨b,2,none⟩=some (.int .i64 dg):=(hS'.cell (p:=⟨b,2,none⟩) lb).trans JJ.o.2.2;go_simp;exact⟨rfl,rfl⟩) ?_
 refine dJ ?_
 have E6:([]:List Int)++X1++X2++X3=X1++X2++X3:=ag
 rw[E6] at O6;have B6w:Below w.heap.size w w6:=h3.trans (B6.mono h3.size);have f2:w6.cell? ⟨y,4,none⟩=_:=(HY.o.keep B6w).cell 4;simp only[aK,aJ,aN] at f2;have cc7:=B6.size;have lX:(X1++X2++X3).length<=30:=by simp only[aQ];omega
 clear D1 D2 D3 B4 B5 O4 O5 E6 h4 h5 h6;obtain⟨XX,hXX⟩:∃z,X1++X2++X3=z:=⟨_,rfl⟩;rw[hXX] at O6 lX;have HXX:=aI hXX;clear hXX
 rcases HG.o with⟨rfl,hD⟩|⟨rfl,hD⟩
 all_goals
  have HD:=aI hD;clear hD
  go_wp2_with (at_builtin;refine uk Ak rfl (.tmp 35) (.tmp 37) rfl ((dX.1 O6.o).alloc _) rfl _ [_] rfl (dL.one (E:=bE) w6 _ _ rfl _ rfl).rd ah (by rw[aV];omega) ?_;intro v7 w7 o7 g7 _;have O7:=aI o7;have B7:Below w3.heap.size w3 w7:=((B6.alloc cc7 _).grown g7 (by rw[aV];omega) (fun k hk=>(O6.o.lt k hk).1));clear o7 g7)
  have hD:=HD.o;rw[<-hD] at O7;clear hD;obtain⟨Z7,hZ7⟩:∃z,XX++[D]=z:=⟨_,rfl⟩;have hl7:Z7.length<=31:=by rw[<-hZ7];simp;omega
  rw[hZ7] at O7;have HZ7:=aI hZ7;clear hZ7 f2;have B7w:Below w.heap.size w w7:=h3.trans (B7.mono h3.size);have z7:=B7.size;have ly:=HY.o.lt;have lp:=HP.o.lt;have K7:=HY.o.cell 7;have L7:=HP.o.cell 7;simp only[aK,aJ,aN] at K7 L7;have KL:=aI (aP K7 L7);clear K7 L7;have Bd:Below w3.heap.size w3 w7.drew:=B7.drew;have cc8:=h3.size
  go_upto_region 9 with fail;refine jh (Below w3.heap.size w3) (dV 0 7 (dV 8 9 (fJ 7 (fJ 17 (fJ 18 (dV 19 1 [])))))) (Bd) ?_
  iterate 16 refine eQ (h:=fun w' hS'=>by have Bw':Below w.heap.size w w':=h3.trans (hS'.mono h3.size);have k7:w'.cell? ⟨y,7,none⟩=_:=(Bw'.cell (p:=⟨y,7,none⟩) ly).trans KL.o.1;have l7:w'.cell? ⟨p,7,none⟩=_:=(Bw'.cell (p:=⟨p,7,none⟩) lp).trans KL.o.2;have j0:w'.cell? ⟨b,0,none⟩=some (.int .i64 lo):=(hS'.cell (p:=⟨b,0,none⟩) lb).trans JJ.o.1;have j2:w'.cell? ⟨b,2,none⟩=some (.int .i64 dg):=(hS'.cell (p:=⟨b,2,none⟩) lb).trans JJ.o.2.2;go_simp;exact⟨rfl,rfl⟩) ?_
  refine fO fun K hK=>?_
  go_simp;refine(C1.o w7.drew (h3.trans (Bd.mono h3.size))).mono ?_
  rintro e w8 ⟨rfl,h8⟩;have B8:Below w3.heap.size w3 w8:=Bd.trans (h8.mono Bd.size);have O8:=aI ((O7.o.drew).keep h8);refine hK _ _ (B8) ?_
  clear hK K;refine fO fun K hK=>?_
  go_simp;refine(C2.o w8 (h3.trans (B8.mono h3.size))).mono ?_
  rintro e w9 ⟨v9,rfl,o9,h9⟩;have B9:Below w3.heap.size w3 w9:=B8.trans (h9.mono B8.size);have OH:=aI (dX.1 o9);have O9:=aI (O8.o.keep h9);clear o9;refine hK _ _ (B9) ?_
  clear hK K;refine fO fun K hK=>?_
  refine Rn Ak (.tmp 39) (.tmp 56) rfl O9.o rfl _ HW rfl OH.o.rd ae B9.size ?_
  intro vA wA oA gA _;have BA:Below w3.heap.size w3 wA:=B9.grown gA B9.size (fun k hk=>(O9.o.lt k hk).1)
  have OA:=aI (dX.2 (oA.more cc8));clear oA gA
  go_simp;refine hK _ _ (BA) ?_
  clear hK K;refine eQ (h:=fun w' hS'=>by have Bw':Below w.heap.size w w':=h3.trans (hS'.mono h3.size);have k7:w'.cell? ⟨y,7,none⟩=_:=(Bw'.cell (p:=⟨y,7,none⟩) ly).trans KL.o.1;have l7:w'.cell? ⟨p,7,none⟩=_:=(Bw'.cell (p:=⟨p,7,none⟩) lp).trans KL.o.2;have j0:w'.cell? ⟨b,0,none⟩=some (.int .i64 lo):=(hS'.cell (p:=⟨b,0,none⟩) lb).trans JJ.o.1;have j2:w'.cell? ⟨b,2,none⟩=some (.int .i64 dg):=(hS'.cell (p:=⟨b,2,none⟩) lb).trans JJ.o.2.2;go_simp;exact⟨rfl,rfl⟩) ?_
  refine dJ ?_
  go_wp2_with fail
  go_ret;have r:=OA.o;rw[<-HZ7.o,<-HXX.o] at r;exact⟨_,rfl,r,h3.trans (BA.mono h3.size)⟩
open Tryz
open Go.RowKit Go.Lib Go.Shelf
section
variable {sp : fG} {c t : Js} {x y a o : Nat} {F Fy H : Ft} {cq : Value} {B : List Int}
theorem YE(w:World)(h:uw sp c x F w)(ok:iT sp c):aH 23 #[.pointer (some ⟨x,0,none⟩)] w (aG w (.int .u64 (vT sp c))):=by
 obtain⟨p,G,hB,hI,hFx,VF,hGF,hF⟩:=h
 cases sp with
 | h lo hi dg u m gr=>
  obtain⟨v,b1,b2,b3,b4,b5⟩:=hI;have b7:=b1.cell 7;simp only[aK,aJ,aN] at b7;refine(MC hB b7 (NZ v c.l w b2.rd (je.pos ok) (by have:=je.sum ok;omega) (by have:=je.len ok;omega))).mono ?_
  rintro e w' ⟨rfl,rfl⟩;exact⟨rfl,aO _ _⟩
 | d ac m=>
  obtain⟨rv,v,b1,b2,b3,b4⟩:=hI;have b7:=b1.cell 3;simp only[aK,aJ,aN] at b7;refine(MF hB b7 (NZ v c.l w b3.rd (kJ.pos ok) (by have:=kJ.sum ok;omega) (by have:=kJ.len ok;omega))).mono ?_
  rintro e w' ⟨rfl,rfl⟩;exact⟨rfl,aO _ _⟩
 | t d=>
  have ft:=IC.fit ok;refine MG (Q:=fun v w'=>qw w' v (c.s.L++c.s.W)) hB ?_ ?_
  ·refine(Go.Proofs.YtilcnjbpmoijmaaGreat.Fp p G d c.s.lo c.s.hi c.s.L c.s.W w hI (by have:=ft.ok.len;have:=ft.d1;omega)).mono ?_
   rintro e w' ⟨v,rfl,h1,h2⟩;exact⟨v,rfl,h1.rd,h2⟩
  ·intro v w1 hv
   exact xO v _ w1 hv ft.ok.ok (by have:=ft.t;omega)
 | k q=>
  obtain⟨lv,vs,hs⟩:=hI;refine(MH hB (K.xO w hs (yH.fit ok).ok.wtL (yH.fit ok).ok.TV)).mono ?_
  rintro e w' ⟨rfl,rfl⟩;exact⟨rfl,aO _ _⟩
theorem aj2(w:World)(h:uw sp c x F w)(ok:iT sp c):aH 42 #[.pointer (some ⟨x,0,none⟩)] w fun e w'=>∃v,e=.returned v/\OwnB w.heap.size w' v (vU sp c)/\Below w.heap.size w w':=by
 obtain⟨p,G,hB,hI,hFx,VF,hGF,hF⟩:=h
 cases sp with
 | h lo hi dg u m gr=>exact Qk w hB hI ok
 | d ac m=>
  obtain⟨rv,v,b1,b2,b3,b4⟩:=hI;have c1:=b1.cell 1;have c2:=b1.cell 2;have c3:=b1.cell 3;simp only[aK,aJ,aN] at c1 c2 c3;exact Qh (Q:=fun v' w'=>OwnB w.heap.size w' v' (vU (.d ac m) c)/\Below w.heap.size w w') hB c1 c2 c3 ((Xk v w.drew b3.rd ok).mono fun e w' ⟨v',h1,h2,h3⟩=>⟨v',h1,h2,(aO _ _).drew.trans h3⟩)
 | t d=>
  have ft:=IC.fit ok;have hraw:=mi.raw ft.ok.ok (by have:=ft.t;omega)
  refine Qi (Q:=fun v' w'=>OwnB w.heap.size w' v' (vU (.t d) c)/\Below w.heap.size w w') hB ?_
  exact QZ p G d c.s.lo c.s.hi c.s.L c.s.W w hI ft.ok.rise (fun m hm=>hraw m (List.mem_append_left _ hm)) (fun m hm=>hraw m (List.mem_append_right _ hm)) (by have:=ft.ok.len;have:=ft.d1;omega) (by have:=ft.d0;omega) (by have:=ft.d1;omega) ft.ok.Y6 ft.ok.lo1 ft.ok.hi0 ft.ok.hi1
 | k q=>
  obtain⟨lv,vs,hs⟩:=hI;have hk:=yH.fit ok;refine Qj (Q:=fun v' w'=>OwnB w.heap.size w' v' (vU (.k q) c)/\Below w.heap.size w w') hB hs.cell0 hs.cell1 hs.cell2 ?_
  exact(K.as1 q lv c.L c.led w.drew hs.llr ae (by have:=yH.q1 ok;omega) (by have:=hk.ok.led;simp only at this;omega) (by have:=hk.ok.TV;omega) (by have:=hk.cnt (by have:=yH.q0 ok;omega) (yH.q1 ok);omega) (fun j=>⟨hk.ok.iU j,yH.bd ok j⟩)).mono (fun e w' ⟨v',h1,h2,h3⟩=>⟨v',h1,h2,(aO _ _).drew.trans h3⟩)
end
end Go.Proofs.YtilcnjbpmoijmaaGreat.D
