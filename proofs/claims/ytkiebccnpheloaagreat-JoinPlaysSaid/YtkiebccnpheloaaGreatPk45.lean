/- Parts of a proof: what its theorem reaches, words cut short. No condition of its own. -/
import Derived.Test.YtkiebccnpheloaaGreatPk44
set_option maxRecDepth 100000
set_option maxHeartbeats 16000000
set_option linter.unusedVariables false
set_option linter.unusedSimpArgs false
namespace Go.Proofs.YtkiebccnpheloaaGreat.D
open Go.RowKit Go.Lib Go.Shelf
theorem I7{lo hi dg u m bk:Nat}{gr:Bool}{l:List Pr}(v:Value)(w:World)(h:gz fU w v l)(ok:jo lo hi dg u m gr bk l):Calls Tryz.prog 85 #[.int .i64 lo,.int .i64 (ig u m hi bk),.int .i64 dg,v] w fun e w'=>∃v',e=.returned v'/\OwnB w.heap.size w' v' (hwB lo (ig u m hi bk) dg l)/\Below w.heap.size w w':=by
 have C1:=aB (MC v w h ok);have hrb:=K_ ok.sh ok.b1 (bk:=bk);have hcl:=xQ l;have hll:=ok.len;have hlo:lo<=9223372036854775807:=by have:=ok.sh.h0;have:=ok.sh.h1;omega
 have hdg:=ok.sh.d1;generalize ig u m hi bk=R at *;have HB:Hid (hwB lo R dg l=iZ 4 478450451++iZ 4 (rU l).length++iZ 4 0++iZ 4 dg++iZ 8 lo++iZ 8 R++iZ 8 4607182418800017408++rU l):=aB rfl;rw[HB.out];clear HB h ok;generalize rU l=CN at *;obtain⟨N,hN⟩:∃N,CN.length=N:=⟨_,rfl⟩;have HN:=aB hN;rw[hN] at hcl |-;clear hN;have EU:Hid (IntKind.u64.wrap (N:Int)=(N:Int)/\IntKind.u64.wrap (dg:Int)=(dg:Int)/\IntKind.u64.wrap (lo:Int)=(lo:Int)/\IntKind.u64.wrap (R:Int)=(R:Int)):=aB ⟨by rw[eH];omega,by rw[eH];omega,by rw[eH];omega,by rw[eH];omega⟩
 have D0:Hid (∀w1,_):=aB (fun w1=>yh 478450451 w1 ae  ae)
 have L0:=gK 4 478450451;have D1:Hid (∀w1,_):=aB (fun w1=>yh (N:Int) w1 ae  ae)
 have L1:=gK 4 (N:Int);have D2:Hid (∀w1,_):=aB (fun w1=>yh 0 w1 ae  ae)
 have L2:=gK 4 0;have D3:Hid (∀w1,_):=aB (fun w1=>yh (dg:Int) w1 ae  ae)
 have L3:=gK 4 (dg:Int);have D4:Hid (∀w1,_):=aB (fun w1=>Et (lo:Int) w1 ae  ae)
 have L4:=gK 8 (lo:Int);have D5:Hid (∀w1,_):=aB (fun w1=>Et (R:Int) w1 ae  ae)
 have L5:=gK 8 (R:Int);have D6:Hid (∀w1,_):=aB (fun w1=>Et 4607182418800017408 w1 ae  ae)
 have L6:=gK 8 4607182418800017408;obtain⟨e1,e2,e3,e4⟩:=EU.out;generalize iZ 4 478450451=X0 at *;generalize iZ 4 (N:Int)=X1 at *;generalize iZ 4 0=X2 at *;generalize iZ 4 (dg:Int)=X3 at *;generalize iZ 8 (lo:Int)=X4 at *;generalize iZ 8 (R:Int)=X5 at *;generalize iZ 8 4607182418800017408=X6 at *
 go_enter Tryz.func85,Tryz.ntmps85
 go_wp2_with fail;refine(C1.out).mono ?_
 rintro e w1 ⟨vc,rfl,oc,hb0⟩;have OC:=aB oc;obtain⟨Ac,kc,evc,_,_,_⟩:=(dN.rd oc).form;rw[HN.out] at evc;subst evc;clear oc;have OB:Hid (OwnB w1.heap.size w1 (.slice none 0 0) []):=aB (dN.nil_ _ _ _ _);have hbb:Below w1.heap.size w1 w1:=aH _ _;have hz0:=hbb.size
 go_wp2_with fail;refine(D0.out w1).mono ?_
 rintro e wa0 ⟨va0,rfl,oa0,ha0⟩;have OA0:=aB oa0;clear oa0
 go_wp2_with (at_builtin;refine pY wC rfl (.tmp 13) (.tmp 14) rfl ((dR.1 OB.out).keep ha0) rfl _ X0 rfl (dR.1 OA0.out).rd (by simp only[aI,bf];omega) (by have:=ha0.size;omega) ?_;intro vb0 wb0 ob0 gb0 _;have PB0:=aB (qJ hz0 ha0 OB.out ob0 gb0);clear ob0 gb0)
 have ba5:=hbb.trans PB0.out.2;have hz1:=ba5.size
 skip
 refine(D1.out wb0).mono ?_
 rintro e wa1 ⟨va1,rfl,oa1,ha1⟩;have OA1:=aB oa1;clear oa1
 go_wp2_with (at_builtin;refine pY wC rfl (.tmp 16) (.tmp 20) rfl ((dR.1 PB0.out.1).keep ha1) rfl _ X1 rfl (dR.1 OA1.out).rd (by simp only[aI,bf];omega) (by have:=ha1.size;omega) ?_;intro vb1 wb1 ob1 gb1 _;have PB1:=aB (qJ hz1 ha1 PB0.out.1 ob1 gb1);clear ob1 gb1)
 have ba6:=ba5.trans PB1.out.2;have hz2:=ba6.size
 skip
 refine(D2.out wb1).mono ?_
 rintro e wa2 ⟨va2,rfl,oa2,ha2⟩;have OA2:=aB oa2;clear oa2
 go_wp2_with (at_builtin;refine pY wC rfl (.tmp 22) (.tmp 23) rfl ((dR.1 PB1.out.1).keep ha2) rfl _ X2 rfl (dR.1 OA2.out).rd (by simp only[aI,bf];omega) (by have:=ha2.size;omega) ?_;intro vb2 wb2 ob2 gb2 _;have PB2:=aB (qJ hz2 ha2 PB1.out.1 ob2 gb2);clear ob2 gb2)
 have ba7:=ba6.trans PB2.out.2;have hz3:=ba7.size
 skip
 refine(D3.out wb2).mono ?_
 rintro e wa3 ⟨va3,rfl,oa3,ha3⟩;have OA3:=aB oa3;clear oa3
 go_wp2_with (at_builtin;refine pY wC rfl (.tmp 25) (.tmp 28) rfl ((dR.1 PB2.out.1).keep ha3) rfl _ X3 rfl (dR.1 OA3.out).rd (by simp only[aI,bf];omega) (by have:=ha3.size;omega) ?_;intro vb3 wb3 ob3 gb3 _;have PB3:=aB (qJ hz3 ha3 PB2.out.1 ob3 gb3);clear ob3 gb3)
 have ba8:=ba7.trans PB3.out.2;have mG:=ba8.size
 skip
 refine(D4.out wb3).mono ?_
 rintro e wa4 ⟨va4,rfl,oa4,ha4⟩;have OA4:=aB oa4;clear oa4
 go_wp2_with (at_builtin;refine pY wC rfl (.tmp 30) (.tmp 33) rfl ((dR.1 PB3.out.1).keep ha4) rfl _ X4 rfl (dR.1 OA4.out).rd (by simp only[aI,bf];omega) (by have:=ha4.size;omega) ?_;intro vb4 wb4 ob4 gb4 _;have PB4:=aB (qJ mG ha4 PB3.out.1 ob4 gb4);clear ob4 gb4)
 have ba9:=ba8.trans PB4.out.2;have JO:=ba9.size
 skip
 refine(D5.out wb4).mono ?_
 rintro e wa5 ⟨va5,rfl,oa5,ha5⟩;have OA5:=aB oa5;clear oa5
 go_wp2_with (at_builtin;refine pY wC rfl (.tmp 35) (.tmp 38) rfl ((dR.1 PB4.out.1).keep ha5) rfl _ X5 rfl (dR.1 OA5.out).rd (by simp only[aI,bf];omega) (by have:=ha5.size;omega) ?_;intro vb5 wb5 ob5 gb5 _;have PB5:=aB (qJ JO ha5 PB4.out.1 ob5 gb5);clear ob5 gb5)
 have bb4:=ba9.trans PB5.out.2;have Ns:=bb4.size
 skip
 refine(D6.out wb5).mono ?_
 rintro e wa6 ⟨va6,rfl,oa6,ha6⟩;have OA6:=aB oa6;clear oa6
 go_wp2_with (first|(at_builtin;refine pY wC rfl (.tmp 40) (.tmp 41) rfl ((dR.1 PB5.out.1).keep ha6) rfl _ X6 rfl (dR.1 OA6.out).rd (by simp only[aI,bf];omega) (by have:=ha6.size;omega) ?_;intro vb6 wb6 ob6 gb6 _;have PB6:=aB (qJ Ns ha6 PB5.out.1 ob6 gb6);clear ob6 gb6;have ar7:=bb4.trans PB6.out.2;have OC9:=aB (dN.keep OC.out ar7);have Xa:=ar7.size;have hN:=HN.out)|(at_builtin;refine pY wC rfl (.tmp 43) (.tmp 44) rfl (dR.1 PB6.out.1) rfl _ CN rfl (dR.1 OC9.out).rd (by simp only[aI,bf];omega) Xa ?_;intro v9 w9 o9 g9 _;have P9:=aB (qJ Xa (aH _ _) PB6.out.1 o9 g9);clear o9 g9))
 go_ret;refine⟨_,rfl,?_,hb0.trans ((ar7.trans P9.out.2).mono hb0.size)⟩
 have:=dN.lift P9.out.1 (base':=w.heap.size) (fun k hk=>by have:=(dN.lt P9.out.1 k hk).1;have:=hb0.size;omega)
 unfold OwnB
 simpa using this
open Go.RowKit Go.Lib Go.Shelf
theorem Qi(c n x:Int)(base:Nat)(vb:Value)(bs:List Int)(w:World)(hb0:base<=w.heap.size)(hO:OwnB base w vb bs)(hl:bs.length<=1000000000000)(hc:(c=118/\x=n/\0<=n/\n<18446744073709551616)\/(c=122/\n=ub x/\-9223372036854775808<=x/\x<=9223372036854775807)) :
 Calls Tryz.prog 84 #[vb,.int .u8 c,.int .u64 n] w fun e w'=>∃v,e=.returned v/\OwnB base w' v (bs++(if c=118 then fC x else zg x))/\Below base w w':=by
 have HO:=aB hO;have C1:=aB (xw c n x w hc);have hlen:(if c=118 then fC x else zg x).length<=10:=by split;exact(dM _).2;exact(dM _).2
 generalize (if c=118 then fC x else zg x)=out at *
 clear hO hc
 go_enter Tryz.func84,Tryz.ntmps84
 go_wp2_with fail;refine(C1.out).mono ?_
 rintro e w1 ⟨v1,rfl,o1,hb1⟩;have O1:=aB o1;have hz1:=hb1.size;clear o1
 go_wp2_with (first
  | (at_builtin
     go_must (refine ji rfl (.tmp 15) (.tmp 16) rfl base vb bs rfl (dN.keep HO.out hb1) v1 out rfl (dN.rd O1.out) ae  ae ?_)
     intro v2 w2 o2 g2 a2;have hb2:Below base w w2:=(hb1.mono hb0).grown g2 ae (fun k hk=>(dN.lt HO.out k hk).1)
     have O2:=aB o2;clear o2 g2 a2))
 go_ret;exact⟨v2,rfl,O2.out,hb2⟩
theorem Eu(n:Int)(base:Nat)(vb:Value)(bs:List Int)(w:World)(hb0:base<=w.heap.size)(hO:OwnB base w vb bs)(hl:bs.length<=1000000000000)(n0:0<=n)(n1:n<18446744073709551616) :
 Calls Tryz.prog 84 #[vb,.int .u8 118,.int .u64 n] w fun e w'=>∃v,e=.returned v/\OwnB base w' v (bs++fC n)/\Below base w w':=by
 have h:=Qi 118 n n base vb bs w hb0 hO hl (.inl ⟨rfl,rfl,n0,n1⟩)
 rwa [if_pos rfl] at h
section
variable {y p : Nat} {p1 p2 p3 p4 : Value} {w : World} {Q : Value -> World -> Prop} {lo hi dg ac sz n : Int} {gr : Bool} {v va vb : Value}
theorem I8(hy:dH w y 146 #[.int .u8 1,.int .i64 lo,.int .i64 hi,.int .i64 dg,.bool gr,.int .i64 ac,.int .i64 sz,.pointer (some ⟨p,0,none⟩),p2,p3,p4])(hp:w.cell? ⟨p,7,none⟩=some v)(h:Calls Tryz.prog 127 #[v] w fun e w'=>e=.returned (.int .u64 n)/\w=w') :
 Calls Tryz.prog 53 #[.pointer (some ⟨y,0,none⟩)] w fun e w'=>e=.returned (.int .u64 n)/\w=w':=by
 have C:=aB h;have f0:=hy.cell 0;have f1:=hy.cell 7;simp only[aF,aC,aG] at f0 f1;clear h hy
 go_enter Tryz.func53,Tryz.ntmps53
 go_wp2_with fail;refine(C.out).mono ?_
 rintro e w1 ⟨rfl,rfl⟩
 go_wp2_with fail
 go_ret;exact⟨rfl,rfl⟩
theorem I9(hy:dH w y 146 #[.int .u8 2,.int .i64 lo,.int .i64 hi,.int .i64 dg,.bool gr,.int .i64 ac,.int .i64 sz,p1,.pointer (some ⟨p,0,none⟩),p3,p4])(hp:w.cell? ⟨p,3,none⟩=some v)(h:Calls Tryz.prog 127 #[v] w fun e w'=>e=.returned (.int .u64 n)/\w=w') :
 Calls Tryz.prog 53 #[.pointer (some ⟨y,0,none⟩)] w fun e w'=>e=.returned (.int .u64 n)/\w=w':=by
 have C:=aB h;have f0:=hy.cell 0;have f1:=hy.cell 8;simp only[aF,aC,aG] at f0 f1;clear h hy
 go_enter Tryz.func53,Tryz.ntmps53
 go_wp2_with fail;refine(C.out).mono ?_
 rintro e w1 ⟨rfl,rfl⟩
 go_wp2_with fail
 go_ret;exact⟨rfl,rfl⟩
theorem I_(hy:dH w y 146 #[.int .u8 3,.int .i64 lo,.int .i64 hi,.int .i64 dg,.bool gr,.int .i64 ac,.int .i64 sz,p1,p2,p3,p4])(h:Calls Tryz.prog 129 #[p3] w fun e w'=>∃v,e=.returned v/\Q v w'/\Below w.heap.size w w')(h2:∀v w1,Q v w1->Calls Tryz.prog 128 #[v] w1 fun e w'=>e=.returned (.int .u64 n)/\Below w1.heap.size w1 w') :
 Calls Tryz.prog 53 #[.pointer (some ⟨y,0,none⟩)] w fun e w'=>e=.returned (.int .u64 n)/\Below w.heap.size w w':=by
 have C:=aB h;have C2:=aB h2;have f0:=hy.cell 0;have f1:=hy.cell 9;simp only[aF,aC,aG] at f0 f1;clear h h2 hy
 go_enter Tryz.func53,Tryz.ntmps53
 go_wp2_with fail;refine(C.out).mono ?_
 rintro e w1 ⟨v,rfl,hq,hb⟩;have HB:=aB hb;have D:=aB (C2.out v w1 hq);clear hq hb
 go_wp2_with fail;refine(D.out).mono ?_
 rintro e w2 ⟨rfl,hb2⟩;have HB2:=aB (HB.out.trans (hb2.mono HB.out.size));clear hb2
 go_wp2_with fail
 go_ret;exact⟨rfl,HB2.out⟩
theorem Ja(hy:dH w y 146 #[.int .u8 4,.int .i64 lo,.int .i64 hi,.int .i64 dg,.bool gr,.int .i64 ac,.int .i64 sz,p1,p2,p3,p4])(h:Calls Tryz.prog 130 #[p4] w fun e w'=>e=.returned (.int .u64 n)/\w=w') :
 Calls Tryz.prog 53 #[.pointer (some ⟨y,0,none⟩)] w fun e w'=>e=.returned (.int .u64 n)/\w=w':=by
 have C:=aB h;have f0:=hy.cell 0;have f1:=hy.cell 10;simp only[aF,aC,aG] at f0 f1;clear h hy
 go_enter Tryz.func53,Tryz.ntmps53
 go_wp2_with fail;refine(C.out).mono ?_
 rintro e w1 ⟨rfl,rfl⟩
 go_wp2_with fail
 go_ret;exact⟨rfl,rfl⟩
theorem MF(hy:dH w y 146 #[.int .u8 2,.int .i64 lo,.int .i64 hi,.int .i64 dg,.bool gr,.int .i64 ac,.int .i64 sz,p1,.pointer (some ⟨p,0,none⟩),p3,p4])(hp0:w.cell? ⟨p,1,none⟩=some va)(hp1:w.cell? ⟨p,2,none⟩=some vb)(hp2:w.cell? ⟨p,3,none⟩=some v)(h:Calls Tryz.prog 87 #[va,vb,v] w.drew fun e w'=>∃v,e=.returned v/\Q v w') :
 Calls Tryz.prog 32 #[.pointer (some ⟨y,0,none⟩)] w fun e w'=>∃v,e=.returned v/\Q v w':=by
 have C:=aB h;have f0:=hy.cell 0;have f1:=hy.cell 8;simp only[aF,aC,aG] at f0 f1;clear h hy
 go_enter Tryz.func32,Tryz.ntmps32
 go_upto_region 11 with fail;refine dJ (fun w'=>w'=w.drew) 21 [(0,true),(1,true),(2,true),(3,true),(4,true),(5,true),(6,true),(7,true),(8,true),(9,true),(10,true),(11,true),(12,true),(13,true),(14,true),(15,true),(16,true),(17,true),(18,true),(19,true),(20,true)] (by kernel_rfl) (by kernel_rfl) (rfl) ?_
 iterate 21
  refine dK ax  ax (fun R hR=>?_)
  apply aJ
  refine⟨fun w' hS'=>?_,?_⟩
  ·subst hS'
   have f1:w.drew.cell? ⟨y,8,none⟩=_:=f1;have hp0:w.drew.cell? ⟨p,1,none⟩=some va:=hp0;have hp1:w.drew.cell? ⟨p,2,none⟩=some vb:=hp1;have hp2:w.drew.cell? ⟨p,3,none⟩=some v:=hp2
   go_simp;exact⟨rfl,rfl⟩
  go_simp;refine hR _ ?_;clear hR R
 refine dQ ?_
 simp only[bD,bQ]
 go_wp2_with fail;refine(C.out).mono ?_
 rintro e w1 ⟨v,rfl,hq⟩;have HQ:=aB hq;clear hq
 go_wp2_with fail;try refine dO ?_
 go_wp2_with fail
 go_ret;exact⟨_,rfl,HQ.out⟩
theorem MG(hy:dH w y 146 #[.int .u8 3,.int .i64 lo,.int .i64 hi,.int .i64 dg,.bool gr,.int .i64 ac,.int .i64 sz,p1,p2,p3,p4])(h:Calls Tryz.prog 88 #[p3] w fun e w'=>∃v,e=.returned v/\Q v w') :
 Calls Tryz.prog 32 #[.pointer (some ⟨y,0,none⟩)] w fun e w'=>∃v,e=.returned v/\Q v w':=by
 have C:=aB h;have f0:=hy.cell 0;have f1:=hy.cell 9;simp only[aF,aC,aG] at f0 f1;clear h hy
 go_enter Tryz.func32,Tryz.ntmps32
 go_wp2_with fail;refine(C.out).mono ?_
 rintro e w1 ⟨v,rfl,hq⟩;have HQ:=aB hq;clear hq
 go_wp2_with fail
 go_ret;exact⟨_,rfl,HQ.out⟩
theorem MH(hy:dH w y 146 #[.int .u8 4,.int .i64 lo,.int .i64 hi,.int .i64 dg,.bool gr,.int .i64 ac,.int .i64 sz,p1,p2,p3,.pointer (some ⟨p,0,none⟩)])(hp0:w.cell? ⟨p,0,none⟩=some va)(hp1:w.cell? ⟨p,1,none⟩=some v)(hp2:w.cell? ⟨p,2,none⟩=some vb)(h:Calls Tryz.prog 89 #[va,v,vb] w.drew fun e w'=>∃v,e=.returned v/\Q v w') :
 Calls Tryz.prog 32 #[.pointer (some ⟨y,0,none⟩)] w fun e w'=>∃v,e=.returned v/\Q v w':=by
 have C:=aB h;have f0:=hy.cell 0;have f1:=hy.cell 10;simp only[aF,aC,aG] at f0 f1;clear h hy
 go_enter Tryz.func32,Tryz.ntmps32
 go_upto_region 14 with fail;refine dJ (fun w'=>w'=w.drew) 21 [(0,true),(1,true),(2,true),(3,true),(4,true),(5,true),(6,true),(7,true),(8,true),(9,true),(10,true),(11,true),(12,true),(13,true),(14,true),(15,true),(16,true),(17,true),(18,true),(19,true),(20,true)] (by kernel_rfl) (by kernel_rfl) (rfl) ?_
 iterate 21
  refine dK ax  ax (fun R hR=>?_)
  apply aJ
  refine⟨fun w' hS'=>?_,?_⟩
  ·subst hS'
   have f1:w.drew.cell? ⟨y,10,none⟩=_:=f1;have hp0:w.drew.cell? ⟨p,0,none⟩=some va:=hp0;have hp1:w.drew.cell? ⟨p,1,none⟩=some v:=hp1;have hp2:w.drew.cell? ⟨p,2,none⟩=some vb:=hp2
   go_simp;exact⟨rfl,rfl⟩
  go_simp;refine hR _ ?_;clear hR R
 refine dQ ?_
 simp only[bD,bQ]
 go_wp2_with fail;refine(C.out).mono ?_
 rintro e w1 ⟨v,rfl,hq⟩;have HQ:=aB hq;clear hq
 go_wp2_with fail;try refine dO ?_
 go_wp2_with fail
 go_ret;exact⟨_,rfl,HQ.out⟩
end
open Go.RowKit Go.Lib Go.Shelf
theorem MI{y p lo hi dg u m bk:Nat}{gr:Bool}{l:List Pr}{G:Ft}(w:World)(hy:dH w y 146 #[.int .u8 1,.int .i64 lo,.int .i64 hi,.int .i64 dg,.bool gr,.int .i64 0,.int .i64 0,.pointer (some ⟨p,0,none⟩),.pointer none,.pointer none,.pointer none])(h:qw p lo hi dg u m gr bk l G w)(ok:jo lo hi dg u m gr bk l) :
 Calls Tryz.prog 32 #[.pointer (some ⟨y,0,none⟩)] w fun e w'=>∃v,e=.returned v/\OwnB w.heap.size w' v (hjB lo hi dg (ig u m hi bk) gr l)/\Below w.heap.size w w':=by
 have S:=oC p lo hi dg u m gr bk l;obtain⟨vL,b1,b2,_,_,_⟩:=id h;have HY:=aB hy;have HP:=aB b1;have C1:Hid (∀w1,Below w.heap.size w w1->_):=aB (fun w1 hb=>Uj w1 (S.keep h hb) ok.sh ok.b0 ok.b1)
 have C2:Hid (∀w1,Below w.heap.size w w1->_):=aB (fun w1 hb=>I7 vL w1 (b2.rd.keep hb) ok)
 have hlo:lo<=9223372036854775807:=by have:=ok.sh.h0;have:=ok.sh.h1;omega
 have hhi:=ok.sh.h1;have hdg:=ok.sh.d1;have hwl:=Q7 lo (ig u m hi bk) dg l;have hcl:=xQ l;have hll:=ok.len;have hl1:=dM (lo:Int);have hl2:=dM (hi:Int);have hl3:=dM (dg:Int);have HG:=aB (Yd gr);have HB:Hid (hjB lo hi dg (ig u m hi bk) gr l=fC lo++fC hi++fC dg++[grN gr]++hwB lo (ig u m hi bk) dg l):=aB rfl;rw[HB.out];have EU:Hid (IntKind.u64.wrap (lo:Int)=(lo:Int)/\IntKind.u64.wrap (hi:Int)=(hi:Int)/\IntKind.u64.wrap (dg:Int)=(dg:Int)):=aB ⟨by rw[eH];omega,by rw[eH];omega,by rw[eH];omega⟩
 have D1:Hid (∀(base:Nat) (vb:Value) (bs:List Int) (w1:World),base<=w1.heap.size->OwnB base w1 vb bs->bs.length<=1000000000000->_):=aB (fun base vb bs w1 h1 h2 h3=>Eu (lo:Int) base vb bs w1 h1 h2 h3 ae  ae)
 have D2:Hid (∀(base:Nat) (vb:Value) (bs:List Int) (w1:World),base<=w1.heap.size->OwnB base w1 vb bs->bs.length<=1000000000000->_):=aB (fun base vb bs w1 h1 h2 h3=>Eu (hi:Int) base vb bs w1 h1 h2 h3 ae  ae)
 have D3:Hid (∀(base:Nat) (vb:Value) (bs:List Int) (w1:World),base<=w1.heap.size->OwnB base w1 vb bs->bs.length<=1000000000000->_):=aB (fun base vb bs w1 h1 h2 h3=>Eu (dg:Int) base vb bs w1 h1 h2 h3 ae  ae)
 have f0:=hy.cell 0;have f1:=hy.cell 1;have f2:=hy.cell 2;have f3:=hy.cell 3;simp only[aF,aC,aG] at f0 f1 f2 f3;clear HB S h ok hy b1 b2;generalize grN gr=D at *;generalize fC (lo:Int)=X1 at *;generalize fC (hi:Int)=X2 at *;generalize fC (dg:Int)=X3 at *;generalize hwB (lo:Int) (ig u m hi bk) dg l=HW at *;generalize ig u m hi bk=R at *;obtain⟨b,hbb⟩:∃b,w.heap.size=b:=⟨_,rfl⟩;obtain⟨wa,jM⟩:∃z,(w.alloc (.cells #[.int .i64 0,.int .i64 0,.int .i64 0] 32))=z:=⟨_,rfl⟩;have ha:Below w.heap.size w wa:=by rw[<-jM];exact bw
 have A0:Hid (dH wa b 32 #[.int .i64 0,.int .i64 0,.int .i64 0]):=by rw[<-jM,<-hbb];exact aB (dH.new _ _ _)
 have x0:=A0.out.cell 0;have x1:=A0.out.cell 1;have x2:=A0.out.cell 2;simp only[aF,aC,aG] at x0 x1 x2;have y0:=A0.out.frozen 0;have y1:=A0.out.frozen 1;have y2:=A0.out.frozen 2;have o_:=aB hbb;clear hbb
 go_enter Tryz.func32,Tryz.ntmps32
 have hbb:=o_.out;have k0:wa.cell? ⟨y,0,none⟩=_:=(HY.out.keep ha).cell 0
 go_upto_region 4 with fail;clear x0 x1 x2 y0 y1 y2 f0 f1 f2 f3 k0 hbb;obtain⟨w3,hw3⟩:∃z,((wa.setCell ⟨b,0,none⟩ (.int .i64 lo)).setCell ⟨b,1,none⟩ (.int .i64 hi)).setCell ⟨b,2,none⟩ (.int .i64 dg)=z:=⟨_,rfl⟩;try rw[jM]
 rw[hw3];have hby:w.heap.size<=b:=by have:=o_.out;omega
 have A3:Hid (dH w3 b 32 #[.int .i64 lo,.int .i64 hi,.int .i64 dg]):=by rw[<-hw3];exact aB (((A0.out.dP 0 _).dP 1 _).dP 2 _)
 have h3:Below w.heap.size w w3:=by rw[<-hw3];exact((ha.setCell (p:=⟨b,0,none⟩) hby _).setCell (p:=⟨b,1,none⟩) hby _).setCell (p:=⟨b,2,none⟩) hby _
 clear hw3 jM A0 ha;have Bd:Below w3.heap.size w3 w3.drew:=(aH _ _).drew;have lb:=A3.out.lt;have J0:=A3.out.cell 0;have J1:=A3.out.cell 1;have J2:=A3.out.cell 2;simp only[aF,aC,aG] at J0 J1 J2;have JJ:=aB (aN J0 (aN J1 J2));clear J0 J1 J2;refine dD (Below w3.heap.size w3) [(0,true),(1,true),(2,true),(4,true),(5,true),(6,true),(8,true),(9,true),(10,true),(3,false),(7,false),(11,false),(12,true)] (by kernel_rfl) (by kernel_rfl) (Bd) ?_
 iterate 9
  refine dC ax  ax (fun R hR=>?_)
  apply aJ
  refine⟨fun w' hS'=>?_,?_⟩
  ·obtain⟨e1,e2,e3⟩:=EU.out
   have j0:w'.cell? ⟨b,0,none⟩=some (.int .i64 lo):=(hS'.cell (p:=⟨b,0,none⟩) lb).trans JJ.out.1;have j1:w'.cell? ⟨b,1,none⟩=some (.int .i64 hi):=(hS'.cell (p:=⟨b,1,none⟩) lb).trans JJ.out.2.1;have j2:w'.cell? ⟨b,2,none⟩=some (.int .i64 dg):=(hS'.cell (p:=⟨b,2,none⟩) lb).trans JJ.out.2.2
   go_simp;exact⟨rfl,rfl⟩
  go_simp;refine hR _ ?_;clear hR R
 refine dE ax  ax (fun K hK=>?_)
 go_simp;refine(D1.out w3.heap.size (.slice none 0 0) [] w3.drew Bd.size (dN.nil_ _ _ _ _) ag).mono ?_
 rintro e w4 ⟨v4,rfl,o4,h4⟩;have B4:Below w3.heap.size w3 w4:=Bd.trans h4;have O4:=aB o4;clear o4;refine hK _ _ (B4) ?_
 clear hK K;refine dE ax  ax (fun K hK=>?_)
 go_simp;refine(D2.out w3.heap.size v4 ([]++X1) w4 B4.size O4.out ah).mono ?_
 rintro e w5 ⟨v5,rfl,o5,h5⟩;have B5:Below w3.heap.size w3 w5:=B4.trans h5;have O5:=aB o5;clear o5;refine hK _ _ (B5) ?_
 clear hK K;refine dE ax  ax (fun K hK=>?_)
 go_simp;refine(D3.out w3.heap.size v5 ([]++X1++X2) w5 B5.size O5.out ah).mono ?_
 rintro e w6 ⟨v6,rfl,o6,h6⟩;have B6:Below w3.heap.size w3 w6:=B5.trans h6;have O6:=aB o6;clear o6;refine hK _ _ (B6) ?_
 clear hK K
 iterate 1
  refine dC ax  ax (fun R hR=>?_)
  apply aJ
  refine⟨fun w' hS'=>?_,?_⟩
  ·obtain⟨e1,e2,e3⟩:=EU.out
   have j0:w'.cell? ⟨b,0,none⟩=some (.int .i64 lo):=(hS'.cell (p:=⟨b,0,none⟩) lb).trans JJ.out.1;have j1:w'.cell? ⟨b,1,none⟩=some (.int .i64 hi):=(hS'.cell (p:=⟨b,1,none⟩) lb).trans JJ.out.2.1;have j2:w'.cell? ⟨b,2,none⟩=some (.int .i64 dg):=(hS'.cell (p:=⟨b,2,none⟩) lb).trans JJ.out.2.2
   go_simp;exact⟨rfl,rfl⟩
  go_simp;refine hR _ ?_;clear hR R
 refine dF ?_
 have E6:([]:List Int)++X1++X2++X3=X1++X2++X3:=ag
 rw[E6] at O6;have B6w:Below w.heap.size w w6:=h3.trans (B6.mono h3.size);have f2:w6.cell? ⟨y,4,none⟩=_:=(HY.out.keep B6w).cell 4;simp only[aF,aC,aG] at f2;have bj9:=B6.size;have lX:(X1++X2++X3).length<=30:=by simp only[aI];omega
 clear D1 D2 D3 B4 B5 O4 O5 E6 h4 h5 h6;obtain⟨XX,hXX⟩:∃z,X1++X2++X3=z:=⟨_,rfl⟩;rw[hXX] at O6 lX;have HXX:=aB hXX;clear hXX
 rcases HG.out with⟨rfl,hD⟩|⟨rfl,hD⟩
 all_goals
  have HD:=aB hD;clear hD
  go_wp2_with (at_builtin;refine pY wC rfl (.tmp 35) (.tmp 37) rfl ((dR.1 O6.out).alloc _) rfl _ [_] rfl (dI.one (E:=bE) w6 _ _ rfl _ rfl).rd ah (by rw[aO];omega) ?_;intro v7 w7 o7 g7 _;have O7:=aB o7;have B7:Below w3.heap.size w3 w7:=((B6.alloc bj9 _).grown g7 (by rw[aO];omega) (fun k hk=>(O6.out.lt k hk).1));clear o7 g7)
  have hD:=HD.out;rw[<-hD] at O7;clear hD;obtain⟨Z7,hZ7⟩:∃z,XX++[D]=z:=⟨_,rfl⟩;have hl7:Z7.length<=31:=by rw[<-hZ7];simp;omega
  rw[hZ7] at O7;have HZ7:=aB hZ7;clear hZ7 f2;have B7w:Below w.heap.size w w7:=h3.trans (B7.mono h3.size);have z7:=B7.size;have ly:=HY.out.lt;have lp:=HP.out.lt;have K7:=HY.out.cell 7;have L7:=HP.out.cell 7;simp only[aF,aC,aG] at K7 L7;have KL:=aB (aN K7 L7);clear K7 L7;have Bd:Below w3.heap.size w3 w7.drew:=B7.drew;have bk0:=h3.size
  go_upto_region 9 with fail;refine dD (Below w3.heap.size w3) [(0,true),(1,true),(2,true),(3,true),(4,true),(5,true),(6,true),(8,true),(9,true),(10,true),(11,true),(12,true),(13,true),(14,true),(15,true),(16,true),(7,false),(17,false),(18,false),(19,true)] (by kernel_rfl) (by kernel_rfl) (Bd) ?_
  iterate 16
   refine dC ax  ax (fun R hR=>?_)
   apply aJ
   refine⟨fun w' hS'=>?_,?_⟩
   ·have Bw':Below w.heap.size w w':=h3.trans (hS'.mono h3.size)
    have k7:w'.cell? ⟨y,7,none⟩=_:=(Bw'.cell (p:=⟨y,7,none⟩) ly).trans KL.out.1;have l7:w'.cell? ⟨p,7,none⟩=_:=(Bw'.cell (p:=⟨p,7,none⟩) lp).trans KL.out.2;have j0:w'.cell? ⟨b,0,none⟩=some (.int .i64 lo):=(hS'.cell (p:=⟨b,0,none⟩) lb).trans JJ.out.1;have j2:w'.cell? ⟨b,2,none⟩=some (.int .i64 dg):=(hS'.cell (p:=⟨b,2,none⟩) lb).trans JJ.out.2.2
    go_simp;exact⟨rfl,rfl⟩
   go_simp;refine hR _ ?_;clear hR R
  refine dE ax  ax (fun K hK=>?_)
  go_simp;refine(C1.out w7.drew (h3.trans (Bd.mono h3.size))).mono ?_
  rintro e w8 ⟨rfl,h8⟩;have B8:Below w3.heap.size w3 w8:=Bd.trans (h8.mono Bd.size);have O8:=aB ((O7.out.drew).keep h8);refine hK _ _ (B8) ?_
  clear hK K;refine dE ax  ax (fun K hK=>?_)
  go_simp;refine(C2.out w8 (h3.trans (B8.mono h3.size))).mono ?_
  rintro e w9 ⟨v9,rfl,o9,h9⟩;have B9:Below w3.heap.size w3 w9:=B8.trans (h9.mono B8.size);have OH:=aB (dR.1 o9);have O9:=aB (O8.out.keep h9);clear o9;refine hK _ _ (B9) ?_
  clear hK K;refine dE ax  ax (fun K hK=>?_)
  refine apW wC (.tmp 39) (.tmp 56) rfl O9.out rfl _ HW rfl OH.out.rd ae B9.size ?_
  intro vA wA oA gA _;have BA:Below w3.heap.size w3 wA:=B9.grown gA B9.size (fun k hk=>(O9.out.lt k hk).1)
  have OA:=aB (dR.2 (oA.more bk0));clear oA gA
  go_simp;refine hK _ _ (BA) ?_
  clear hK K
  iterate 1
   refine dC ax  ax (fun R hR=>?_)
   apply aJ
   refine⟨fun w' hS'=>?_,?_⟩
   ·have Bw':Below w.heap.size w w':=h3.trans (hS'.mono h3.size)
    have k7:w'.cell? ⟨y,7,none⟩=_:=(Bw'.cell (p:=⟨y,7,none⟩) ly).trans KL.out.1;have l7:w'.cell? ⟨p,7,none⟩=_:=(Bw'.cell (p:=⟨p,7,none⟩) lp).trans KL.out.2;have j0:w'.cell? ⟨b,0,none⟩=some (.int .i64 lo):=(hS'.cell (p:=⟨b,0,none⟩) lb).trans JJ.out.1;have j2:w'.cell? ⟨b,2,none⟩=some (.int .i64 dg):=(hS'.cell (p:=⟨b,2,none⟩) lb).trans JJ.out.2.2
    go_simp;exact⟨rfl,rfl⟩
   go_simp;refine hR _ ?_;clear hR R
  refine dF ?_
  go_wp2_with fail
  go_ret;have r:=OA.out;rw[<-HZ7.out,<-HXX.out] at r;exact⟨_,rfl,r,h3.trans (BA.mono h3.size)⟩
end Go.Proofs.YtkiebccnpheloaaGreat.D
