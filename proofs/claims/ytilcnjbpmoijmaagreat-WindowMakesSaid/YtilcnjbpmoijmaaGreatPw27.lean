/- Parts of a proof. No condition. -/
import Derived.Test.YtilcnjbpmoijmaaGreatPw26
set_option maxRecDepth 100000
set_option maxHeartbeats 16000000
set_option linter.unusedVariables false
set_option linter.unusedSimpArgs false
namespace Go.Proofs.YtilcnjbpmoijmaaGreat.D
open Tryz
open Go.RowKit Go.Lib Go.Shelf
section
variable {g u m : Nat} {lo hi dg : Int} {w : World}
theorem SI(v:Nat)(h:nX w g lo hi dg u m)(hu:u+m<=62)(m0:1<=m)(m1:m<=18)(hv:v<9223372036854775808):aH 274 #[.pointer (some ⟨g,0,none⟩),.int .i64 (Aj u m v)] w (aG w (.tuple #[.int .i64 (YO u m v),.int .i64 0])):=by
 have CH:Hid (∀w1,Below w.heap.size w w1->_):=aI (fun w1 hb=>Jl (dK.keep h hb) m0 m1)
 have HM:=qN (u:=u) (m:=m) hv;have HU:=aa7 (u:=u) (m:=m) (v:=v) m0 ae
 have HC:=Vj (u:=u) (m:=m) (v:=v) ae
 have h18:2 ^ m<=262144:=(pW m1:2 ^ m<=2 ^ 18);have cg7:SC u m v<262144:=ae
 have hb:iP u m v<=63:=ae
 have HB:=aI h;have CL:=aI (fun w=>kY (SC u m v) w ae)
 have HK:Hid (YO u m v=SC u m v * 2 ^ (iP u m v+u)):=aI rfl;have hlw:YO u m v<9223372036854775808:=Nat.lt_of_le_of_lt (aa8 u m v) hv;have hpk:=Nat.two_pow_pos (iP u m v+u);have hbl:Lib.bitLen (SC u m v)+(iP u m v+u)<=63:=by
  have h63:iP u m v+u<=63:=ae
  have:Lib.bitLen (SC u m v)<=63 - (iP u m v+u):=(sU ae).2 (by
   have e:2 ^ (63 - (iP u m v+u)) * 2 ^ (iP u m v+u)=9223372036854775808:=by rw[<-Nat.pow_add,show 63 - (iP u m v+u)+(iP u m v+u)=63 by omega]
   have e2:SC u m v * 2 ^ (iP u m v+u)<9223372036854775808:=hlw;rw[<-e] at e2;exact Nat.lt_of_mul_lt_mul_right e2)
  omega
 have hH:2 ^ (m - 1)<=131072:=(pW ae :2 ^ (m - 1)<=2 ^ 17)
 have hH0:=Nat.two_pow_pos (m - 1);unfold unN at HU;have hix:Aj u m v<=16777216:=by
  have h4:iP u m v * 2 ^ (m - 1)<=63 * 131072:=Nat.mul_le_mul ae hH
  unfold Aj;omega
 generalize Aj u m v=I at *;rw[HK.o] at hlw |-;clear HK;generalize SC u m v=k at *;generalize iP u m v=b at *;generalize 2 ^ (m - 1)=H at *;generalize Lib.bitLen k=B at *;have hd1:(I:Int).tdiv (H:Int)=((I / H:Nat):Int):=by rw[Int.tdiv_eq_ediv_of_nonneg ae];simp
 have hd2:(I:Int).tmod (H:Int)=((I % H:Nat):Int):=by rw[Int.tmod_eq_emod_of_nonneg ae];simp
 have hr:I % H<H:=Nat.mod_lt _ hH0;have hq:I / H<=16777216:=bJ (Nat.div_le_self ..) hix;generalize I / H=q at *;generalize I % H=r at *;have hH1:H≠0:=ae
 obtain⟨s,hs⟩:=aF (b+u);rw[hs] at hlw hpk hbl |-;have hs1:(b:Int)+(u:Int)=(s:Int):=ae
 have hsw:IntKind.i64.wrap ((b:Int)+(u:Int))=(s:Int):=ak
 have bd6:IntKind.i64.wrap ((B:Int)+(b:Int))=(B:Int)+(b:Int):=ak
 have bd7:IntKind.i64.wrap ((B:Int)+(b:Int)+(u:Int))=(B:Int)+(b:Int)+(u:Int):=ak
 have c64:¬(64:Int)<(b:Int):=ae
 have c63:¬(63:Int)<(B:Int)+(b:Int)+(u:Int):=ae
 have ek:IntKind.u64.wrap (k:Int)=(k:Int):=by rw[fF];omega
 have SW:=aI (aP hsw (aP bd6 (aP bd7 (aP ek (aP c63 c64)))));have HR:Hid (wrap64 ((k:Int) * (2:Int) ^ s)=((k * 2 ^ s:Nat):Int)):=aI (by rw[show(k:Int) * (2:Int) ^ s=((k * 2 ^ s:Nat):Int) by simp];clear hsw bd6 bd7 ek;generalize k * 2 ^ s=z at *;unfold wrap64;omega)
 have ap7:B+s<=63:=hbl;clear hlw hpk hsw bd6 bd7 ek h18 HC HM hs h hv hbl;have TAIL:Hid (∀w2,Below w.heap.size w w2->((w2.cell? ⟨g,3,none⟩=some (.int .i64 u)))):=aI (fun w2 hb2=>by
  have k3:=(dK.keep HB.o hb2).cell 3
  simpa only[aK,aJ,aN] using k3)
 by_cases hq0:q=0
 ·subst hq0
  rw[if_pos rfl] at HU;obtain⟨rfl,rfl⟩:b=0/\k=I:=by simpa[Prod.ext_iff,eq_comm] using HU
  have hI0:¬(k:Int)<0:=ae
  have hsu:s=u:=ae
  subst hsu;have SX:Hid (IntKind.i64.wrap (B:Int)=(B:Int)/\IntKind.i64.wrap ((B:Int)+(s:Int))=(B:Int)+(s:Int)/\(¬(63:Int)<(B:Int)+(s:Int))/\IntKind.i64.wrap (s:Int)=(s:Int)/\IntKind.u64.wrap (k:Int)=(k:Int)):=aI ⟨by rw[aW];omega,ak,ae,ak,SW.o.2.2.2.1⟩
  clear HU SW hs1 c64 c63
  go_enter func274,ntmps274
  go_upto_region 3 with fail;have mW:=aI (fun(w':World) (hS':(Below w.heap.size w) w')=>(aP (hd1) (hd2)))
  refine jh (Below w.heap.size w) (dV 0 2 (dV 5 2 (dV 9 1 (fJ 2 (dV 3 2 (fJ 7 (dV 8 1 (fJ 10 (dV 11 3 []))))))))) ((aO _ _).drew) ?_
  iterate 5 refine eQ ?_
  refine fO fun K hK=>?_
  go_simp;refine(CH.o w.drew (aO _ _).drew).mono ?_
  rintro e w3 ⟨rfl,rfl⟩;refine hK _ _ ((aO _ _).drew) ?_
  clear hK K
  iterate 2 refine eQ ?_
  refine fO fun K hK=>?_
  go_simp;refine(CH.o w.drew (aO _ _).drew).mono ?_
  rintro e w3 ⟨rfl,rfl⟩;refine hK _ _ ((aO _ _).drew) ?_
  clear hK K;refine eQ ?_
  refine fO fun K hK=>?_
  go_simp;refine(CH.o w.drew (aO _ _).drew).mono ?_
  rintro e w3 ⟨rfl,rfl⟩;refine hK _ _ ((aO _ _).drew) ?_
  clear hK K
  iterate 3 refine eQ ?_
  refine dJ ?_
  go_upto_region 6 with fail;refine jh (Below w.heap.size w) (dV 0 5 (dV 6 1 (dV 8 4 (fJ 5 (dV 7 1 (dV 12 3 [])))))) ((aO _ _).drew.drew) ?_
  iterate 10 refine eQ (h:=fun w' hS'=>by have k3:=TAIL.o _ hS';obtain⟨i1,i2,i3,i4,i5⟩:=SX.o;go_simp;exact⟨rfl,rfl⟩) ?_
  refine fO fun K hK=>?_
  go_simp;refine(CL.o w.drew.drew).mono ?_
  rintro e w3 ⟨rfl,rfl⟩;refine hK _ _ ((aO _ _).drew.drew) ?_
  clear hK K
  iterate 4 refine eQ (h:=fun w' hS'=>by have k3:=TAIL.o _ hS';obtain⟨i1,i2,i3,i4,i5⟩:=SX.o;go_simp;exact⟨rfl,rfl⟩) ?_
  refine dJ ?_
  obtain⟨i1,i2,i3,i4,i5⟩:=SX.o;have k3:=TAIL.o w.drew.drew (aO _ _).drew.drew
  go_wp2_with fail
  go_ret2
  refine⟨?_,(aO _ _).drew.drew⟩
  show Ending.returned (.tuple #[.int .i64 (wrap64 ((k:Int) * (2:Int) ^ _)),.int .i64 0])=_
  rw[HR.o];simp
 ·rw[if_neg hq0] at HU
  obtain⟨e1,e2⟩:q - 1=b/\r+H=k:=by simpa[Prod.ext_iff] using HU
  obtain rfl:q=b+1:=ae
  have hI0:¬(b:Int)<0:=ae
  have SX:Hid (IntKind.i64.wrap ((B:Int)+(b:Int))=(B:Int)+(b:Int)/\IntKind.i64.wrap ((B:Int)+(b:Int)+(u:Int))=(B:Int)+(b:Int)+(u:Int)/\(¬(63:Int)<(B:Int)+(b:Int)+(u:Int))/\IntKind.i64.wrap ((b:Int)+(u:Int))=(s:Int)/\IntKind.u64.wrap (k:Int)=(k:Int)):=aI ⟨SW.o.2.1,SW.o.2.2.1,SW.o.2.2.2.2.1,SW.o.1,SW.o.2.2.2.1⟩;have SY:Hid (IntKind.i64.wrap ((r:Int)+(H:Int))=(k:Int)/\IntKind.i64.wrap (b:Int)=(b:Int)/\IntKind.i64.wrap ((b:Int)+1)=(b:Int)+1/\(b:Int)+1 - 1=(b:Int)):=aI ⟨by rw[aW];omega,ak,ak,ae⟩
  clear HU SW hs1 c63 e1 e2
  go_enter func274,ntmps274
  go_upto_region 3 with fail;refine jh (Below w.heap.size w) (dV 0 2 (dV 5 2 (dV 9 1 (fJ 2 (dV 3 2 (fJ 7 (dV 8 1 (fJ 10 (dV 11 3 []))))))))) ((aO _ _).drew) ?_
  iterate 5 refine eQ (h:=fun w' hS'=>by have q1:=hd1;have q2:=hd2;obtain⟨i1,i2,j3,j4⟩:=SY.o;go_simp;exact⟨rfl,rfl⟩) ?_
  refine fO fun K hK=>?_
  go_simp;refine(CH.o w.drew (aO _ _).drew).mono ?_
  rintro e w3 ⟨rfl,rfl⟩;refine hK _ _ ((aO _ _).drew) ?_
  clear hK K
  iterate 2 refine eQ (h:=fun w' hS'=>by have q1:=hd1;have q2:=hd2;obtain⟨i1,i2,j3,j4⟩:=SY.o;go_simp;exact⟨rfl,rfl⟩) ?_
  refine fO fun K hK=>?_
  go_simp;refine(CH.o w.drew (aO _ _).drew).mono ?_
  rintro e w3 ⟨rfl,rfl⟩;refine hK _ _ ((aO _ _).drew) ?_
  clear hK K;refine eQ (h:=fun w' hS'=>by have q1:=hd1;have q2:=hd2;obtain⟨i1,i2,j3,j4⟩:=SY.o;go_simp;exact⟨rfl,rfl⟩) ?_
  refine fO fun K hK=>?_
  go_simp;refine(CH.o w.drew (aO _ _).drew).mono ?_
  rintro e w3 ⟨rfl,rfl⟩;refine hK _ _ ((aO _ _).drew) ?_
  clear hK K
  iterate 3 refine eQ (h:=fun w' hS'=>by have q1:=hd1;have q2:=hd2;obtain⟨i1,i2,j3,j4⟩:=SY.o;go_simp;exact⟨rfl,rfl⟩) ?_
  refine dJ ?_
  obtain⟨i1,i2,j3,j4⟩:=SY.o
  go_upto_region 6 with fail;refine jh (Below w.heap.size w) (dV 0 5 (dV 6 1 (dV 8 4 (fJ 5 (dV 7 1 (dV 12 3 [])))))) ((aO _ _).drew.drew) ?_
  iterate 10 refine eQ (h:=fun w' hS'=>by have k3:=TAIL.o _ hS';obtain⟨i1,i2,i3,i4,i5⟩:=SX.o;go_simp;exact⟨rfl,rfl⟩) ?_
  refine fO fun K hK=>?_
  go_simp;refine(CL.o w.drew.drew).mono ?_
  rintro e w3 ⟨rfl,rfl⟩;refine hK _ _ ((aO _ _).drew.drew) ?_
  clear hK K
  iterate 4 refine eQ (h:=fun w' hS'=>by have k3:=TAIL.o _ hS';obtain⟨i1,i2,i3,i4,i5⟩:=SX.o;go_simp;exact⟨rfl,rfl⟩) ?_
  refine dJ ?_
  obtain⟨i1,i2,i3,i4,i5⟩:=SX.o;have k3:=TAIL.o w.drew.drew (aO _ _).drew.drew
  go_wp2_with fail
  go_ret2
  refine⟨?_,(aO _ _).drew.drew⟩
  show Ending.returned (.tuple #[.int .i64 (wrap64 ((k:Int) * (2:Int) ^ _)),.int .i64 0])=_
  rw[HR.o];simp
theorem SK(n:Nat)(h:nX w g lo hi dg u m)(m0:1<=m)(m1:m<=18)(n0:1<=n)(n1:n<=64):aH 272 #[.pointer (some ⟨g,0,none⟩),.int .i64 n] w fun e w'=>e=.returned (.int .i64 (((n+1) * 2 ^ (m - 1):Nat):Int))/\w=w':=by
 have CH:=aI (Jl h m0 m1);have hH:2 ^ (m - 1)<=131072:=(pW ae :2 ^ (m - 1)<=2 ^ 17)
 generalize 2 ^ (m - 1)=H at *;obtain⟨z,hz⟩:=aF ((n+1) * H);have hzb:z<=65 * 131072:=by rw[<-hz];exact Nat.mul_le_mul ae hH
 have hzI:((n:Int)+1) * (H:Int)=(z:Int):=by rw[<-hz];simp
 rw[hz];have em:max (n:Int) 1=(n:Int):=ae
 have em2:min (n:Int) 64=(n:Int):=ae
 clear h hz
 go_enter func272,ntmps272
 go_wp2_with fail;refine(CH.o).mono ?_
 rintro e w' ⟨rfl,rfl⟩
 go_wp2_with fail
 go_ret;exact⟨rfl,rfl⟩
theorem sV(h:nX w g lo hi dg u m):aH 161 #[.pointer (some ⟨g,0,none⟩)] w (aG w (.agg #[.int .i64 lo,.int .i64 hi,.int .i64 dg])):=by
 obtain⟨b,hbb⟩:=aF (w.heap.size);obtain⟨w1,hw1⟩:=aF (w.alloc (.cells #[.int .i64 0,.int .i64 0,.int .i64 0] 23));have hb1:Below w.heap.size w w1:=by rw[<-hw1];exact bw
 have B1:dK w1 b 23 #[.int .i64 0,.int .i64 0,.int .i64 0]:=by rw[<-hw1,<-hbb];exact dK.new _ _ _
 have M1:=dK.keep h hb1;have k0:=dK.cell M1 0;have k1:=dK.cell M1 1;have k2:=dK.cell M1 2;have f0:=B1.frozen 0;have f1:=B1.frozen 1;have f2:=B1.frozen 2;have j0:=B1.cell 0;have j1:=B1.cell 1;have j2:=B1.cell 2;simp only[aK,aJ,aN] at k0 k1 k2 j0 j1 j2;have X:=aI (aP hb1 (aP B1 hbb));clear h M1 B1 hb1
 go_enter func161,ntmps161
 go_upto_region 1 with fail;clear hw1 hbb
 go_wp2_with fail;have hlt:=X.o.2.1.lt;have c0:=(((X.o.2.1.dQ 0 (.int .i64 lo)).dQ 1 (.int .i64 hi)).dQ 2 (.int .i64 dg)).cell 0;have c1:=(((X.o.2.1.dQ 0 (.int .i64 lo)).dQ 1 (.int .i64 hi)).dQ 2 (.int .i64 dg)).cell 1;have c2:=(((X.o.2.1.dQ 0 (.int .i64 lo)).dQ 1 (.int .i64 hi)).dQ 2 (.int .i64 dg)).cell 2;simp only[bY,List.set_cons_zero,List.set_cons_succ,aK,aJ,aN] at c0 c1 c2;refine bodyPost_ret (by simp[results,Tryz.results161,go_sem, *];try rfl) rfl ?_
 have hbb:=X.o.2.2;exact⟨rfl,((X.o.1.setCell (p:=⟨b,0,none⟩) (by show _<=b;omega) _).setCell (p:=⟨b,1,none⟩) (by show _<=b;omega) _).setCell (p:=⟨b,2,none⟩) (by show _<=b;omega) _⟩
end
open Tryz
open Go.RowKit Go.Lib Go.Shelf
def qo(x lo hi dg u m:Nat)(gr:Bool)(bk:Nat)(l:List Pr)(F:Ft)(w:World):Prop:=∃g b,dK w x 193 #[.pointer (some ⟨g,0,none⟩),.bool gr,.int .i64 bk,.map (some b),.int .u64 (tot l)]/\nX w g lo hi dg u m/\lM w b l/\F x/\F g/\F b/\∀k,F k->k<w.heap.size
theorem h_(x lo hi dg u m:Nat)(gr:Bool)(bk:Nat)(l:List Pr):jV (qo x lo hi dg u m gr bk l) where
 stay:=fun⟨g,b,h1,h2,h3,h4,h5,h6,h7⟩ hk hz=>⟨g,b,(hk x h4).trans h1,(hk g h5).trans h2,h3.stay (hk b h6),h4,h5,h6,fun k h=>bF (h7 k h) hz⟩
 more:=fun⟨g,b,h1,h2,h3,h4,h5,h6,_⟩ h hl=>⟨g,b,h1,h2,h3,h x h4,h g h5,h b h6,hl⟩
 low:=fun⟨_,_,_,_,_,_,_,_,h7⟩=>h7
theorem bd8(a b c:Int)(w:World):(Instr.field 23 (.agg #[.int .i64 a,.int .i64 b,.int .i64 c]) 1).run prog w=.ok (.int .i64 b) w:=by kernel_rfl
section
variable {x lo hi dg u m bk : Nat} {gr : Bool} {l : List Pr} {F : Ft}
theorem pX(w:World)(h:qo x lo hi dg u m gr bk l F w):aH 96 #[.pointer (some ⟨x,0,none⟩)] w (aG w (.agg #[.int .i64 lo,.int .i64 hi,.int .i64 dg])):=by
 obtain⟨g,bb,hB,hM,_⟩:=h;have C:Hid (∀w1,Below w.heap.size w w1->_):=aI (fun w1 hb=>sV (w:=w1) (dK.keep hM hb))
 obtain⟨b,hbb⟩:=aF (w.heap.size);obtain⟨w1,hw1⟩:=aF (w.alloc (.cells #[.int .i64 0,.int .i64 0,.int .i64 0] 23));have hb1:Below w.heap.size w w1:=by rw[<-hw1];exact bw
 have B1:dK w1 b 23 #[.int .i64 0,.int .i64 0,.int .i64 0]:=by rw[<-hw1,<-hbb];exact dK.new _ _ _
 have k0:=(hB.keep hb1).cell 0;simp only[aK,aJ] at k0;have X:=aI (aP hb1 (aP B1 hbb));clear hM hB B1 hb1
 go_enter func96,ntmps96
 go_upto_region 1 with fail;clear hw1 hbb
 go_wp2_with fail;refine(C.o w1 X.o.1).mono ?_
 rintro e w2 ⟨rfl,hb2⟩;have B2:=X.o.2.1.keep hb2;have f0:=B2.frozen 0;have f1:=B2.frozen 1;have f2:=B2.frozen 2;obtain⟨j0,j1,j2⟩:=B2.c3;have HB2:=aI (aP B2 hb2);clear B2 hb2
 go_wp2_with fail;have hlt:=HB2.o.1.lt;have c0:=(((HB2.o.1.dQ 0 (.int .i64 lo)).dQ 1 (.int .i64 hi)).dQ 2 (.int .i64 dg)).cell 0;have c1:=(((HB2.o.1.dQ 0 (.int .i64 lo)).dQ 1 (.int .i64 hi)).dQ 2 (.int .i64 dg)).cell 1;have c2:=(((HB2.o.1.dQ 0 (.int .i64 lo)).dQ 1 (.int .i64 hi)).dQ 2 (.int .i64 dg)).cell 2;simp only[bY,List.set_cons_zero,List.set_cons_succ,aK,aJ,aN] at c0 c1 c2;refine bodyPost_ret (by simp[results,Tryz.results96,go_sem, *];try rfl) rfl ?_
 have hbb:=X.o.2.2;have jD:=X.o.1.trans (HB2.o.2.mono X.o.1.size);exact⟨rfl,((jD.setCell (p:=⟨b,0,none⟩) (by show _<=b;omega) _).setCell (p:=⟨b,1,none⟩) (by show _<=b;omega) _).setCell (p:=⟨b,2,none⟩) (by show _<=b;omega) _⟩
theorem zH(w:World)(h:qo x lo hi dg u m gr bk l F w):aH 97 #[.pointer (some ⟨x,0,none⟩)] w fun e w'=>e=.returned (.bool gr)/\w=w':=by
 obtain⟨g,b,hB,_⟩:=h;have k1:=hB.cell 1;simp only[aK,aJ,aN] at k1;clear hB
 go_enter func97,ntmps97
 go_wp2_with fail
 go_ret;exact⟨rfl,rfl⟩
theorem SL(w:World)(h:qo x lo hi dg u m gr bk l F w):aH 204 #[.pointer (some ⟨x,0,none⟩)] w fun e w'=>e=.returned (.int .i64 bk)/\w=w':=by
 obtain⟨g,b,hB,_⟩:=h;have k1:=hB.cell 2;simp only[aK,aJ,aN] at k1;clear hB
 go_enter func204,ntmps204
 go_wp2_with fail
 go_ret;exact⟨rfl,rfl⟩
theorem ac0(w:World)(h:qo x lo hi dg u m gr bk l F w):aH 55 #[.pointer (some ⟨x,0,none⟩)] w fun e w'=>e=.returned (.int .u64 (tot l))/\w=w':=by
 obtain⟨g,b,hB,_⟩:=h;have k1:=hB.cell 4;simp only[aK,aJ,aN] at k1;clear hB
 go_enter func55,ntmps55
 go_wp2_with fail
 go_ret;exact⟨rfl,rfl⟩
theorem ac1(w:World)(h:qo x lo hi dg u m gr bk l F w)(ok:nY lo hi dg u m):aH 275 #[.pointer (some ⟨x,0,none⟩)] w (aG w (.int .i64 ((1+iP u m hi:Nat):Int))):=by
 obtain⟨g,b,hB,hM,_⟩:=h;have C1:Hid (∀w1,Below w.heap.size w w1->_):=aI (fun w1 hb=>sV (w:=w1) (dK.keep hM hb))
 have C2:Hid (∀w1,Below w.heap.size w w1->_):=aI (fun w1 hb=>lY (w:=w1) hi (dK.keep hM hb) ok.um (by have:=ok.h1;omega))
 have HB:=aI hB;clear hM hB ok;generalize 1+iP u m hi=R at *
 go_enter func275,ntmps275
 go_wp2_with fail;refine jh (Below w.heap.size w) (dV 0 8 (fJ 8 (dV 9 1 (fJ 10 (dV 11 1 []))))) ((aO _ _).drew) ?_
 iterate 8 refine eQ (h:=fun w' hS'=>by have k0:=(HB.o.keep hS').cell 0;simp only[aK,aJ] at k0;go_simp;exact⟨rfl,rfl⟩) ?_
 refine fO fun K hK=>?_
 go_simp;refine(C1.o w.drew (aO _ _).drew).mono ?_
 rintro e w3 ⟨rfl,hb3⟩;have B3:Below w.heap.size w w3:=(aO _ _).drew.trans hb3;refine hK _ _ (B3) ?_
 clear hK K;refine eQ (h:=fun w' hS'=>by have k0:=(HB.o.keep hS').cell 0;simp only[aK,aJ] at k0;go_simp;exact⟨rfl,rfl⟩) ?_
 refine fO fun K hK=>?_
 go_simp;refine(C2.o w3 B3).mono ?_
 rintro e w4 ⟨rfl,hb4⟩;have B4:Below w.heap.size w w4:=B3.trans (hb4.mono B3.size);refine hK _ _ (B4) ?_
 clear hK K;refine eQ (h:=fun w' hS'=>by have k0:=(HB.o.keep hS').cell 0;simp only[aK,aJ] at k0;go_simp;exact⟨rfl,rfl⟩) ?_
 refine dJ ?_
 go_wp2_with fail
 go_ret;exact⟨rfl,B4⟩
theorem ac3(w:World)(h:qo x lo hi dg u m gr bk l F w)(ok:nY lo hi dg u m)(b0:1<=bk)(b1:bk<=64):aH 238 #[.pointer (some ⟨x,0,none⟩)] w (aG w (.int .i64 (eY u m hi bk))):=by
 have CF:Hid (∀w1,Below w.heap.size w w1->_):=aI (fun w1 hb=>ac1 (x:=x) w1 ((h_ x lo hi dg u m gr bk l).keep h hb) ok)
 obtain⟨g,b,hB,hM,_⟩:=h;have HE:Hid (eY u m hi bk=if bk=1+iP u m hi then hi else uG u m bk):=aI rfl
 rw[HE.o];have C1:Hid (∀w1,Below w.heap.size w w1->_):=aI (fun w1 hb=>sV (w:=w1) (dK.keep hM hb))
 have C2:Hid (∀w1,Below w.heap.size w w1->_):=aI (fun w1 hb=>ab9 (w:=w1) bk (dK.keep hM hb) ok.um b0 b1)
 have HB:=aI hB;clear hM hB ok HE;generalize 1+iP u m hi=R at *;generalize uG u m bk=T at *
 by_cases he:bk=R
 ·subst he
  rw[if_pos rfl];have hd:((bk:Int) == (bk:Int))=true:=ag
  have hfd:=bd8
  go_enter func238,ntmps238
  go_wp2_with fail;refine jh (Below w.heap.size w) (dV 0 5 (fJ 5 (dV 6 1 []))) ((aO _ _).drew) ?_
  iterate 5 refine eQ (h:=fun w' hS'=>by have k2:=(HB.o.keep hS').cell 2;simp only[aK,aJ,aN] at k2;go_simp;exact⟨rfl,rfl⟩) ?_
  refine fO fun K hK=>?_
  go_simp;refine(CF.o w.drew (aO _ _).drew).mono ?_
  rintro e w3 ⟨rfl,hb3⟩;have B3:Below w.heap.size w w3:=(aO _ _).drew.trans hb3;refine hK _ _ (B3) ?_
  clear hK K;refine eQ (h:=fun w' hS'=>by have k2:=(HB.o.keep hS').cell 2;simp only[aK,aJ,aN] at k2;go_simp;exact⟨rfl,rfl⟩) ?_
  refine dJ ?_
  have k0:=(HB.o.keep B3).cell 0;simp only[aK,aJ] at k0
  go_wp2_with fail;refine(C1.o w3 B3).mono ?_
  rintro e w4 ⟨rfl,hb4⟩
  go_wp2_with fail
  go_ret;exact⟨rfl,B3.trans (hb4.mono B3.size)⟩
 ·rw[if_neg he]
  have hd:((bk:Int) == (R:Int))=false:=ah
  go_enter func238,ntmps238
  go_wp2_with fail;refine jh (Below w.heap.size w) (dV 0 5 (fJ 5 (dV 6 1 []))) ((aO _ _).drew) ?_
  iterate 5 refine eQ (h:=fun w' hS'=>by have k2:=(HB.o.keep hS').cell 2;simp only[aK,aJ,aN] at k2;go_simp;exact⟨rfl,rfl⟩) ?_
  refine fO fun K hK=>?_
  go_simp;refine(CF.o w.drew (aO _ _).drew).mono ?_
  rintro e w3 ⟨rfl,hb3⟩;have B3:Below w.heap.size w w3:=(aO _ _).drew.trans hb3;refine hK _ _ (B3) ?_
  clear hK K;refine eQ (h:=fun w' hS'=>by have k2:=(HB.o.keep hS').cell 2;simp only[aK,aJ,aN] at k2;go_simp;exact⟨rfl,rfl⟩) ?_
  refine dJ ?_
  go_wp2_with fail;have B3d:Below w.heap.size w w3.drew:=B3.drew;refine jh (Below w.heap.size w) (dV 0 8 (fJ 8 (dV 9 1 []))) (B3d) ?_
  iterate 8 refine eQ (h:=fun w' hS'=>by have k0:=(HB.o.keep hS').cell 0;have k2:=(HB.o.keep hS').cell 2;simp only[aK,aJ,aN] at k0 k2;go_simp;exact⟨rfl,rfl⟩) ?_
  refine fO fun K hK=>?_
  go_simp;refine(C2.o w3.drew B3d).mono ?_
  rintro e w4 ⟨rfl,hb4⟩;have B4:Below w.heap.size w w4:=B3d.trans (hb4.mono B3d.size);refine hK _ _ (B4) ?_
  clear hK K;refine eQ (h:=fun w' hS'=>by have k0:=(HB.o.keep hS').cell 0;have k2:=(HB.o.keep hS').cell 2;simp only[aK,aJ,aN] at k0 k2;go_simp;exact⟨rfl,rfl⟩) ?_
  refine dJ ?_
  go_wp2_with fail
  go_ret;exact⟨rfl,B4⟩
theorem Ld{lo hi dg u m:Nat}(gr:Bool)(w:World)(ok:nY lo hi dg u m):aH 200 #[.agg #[.int .i64 lo,.int .i64 hi,.int .i64 dg],.bool gr] w fun e w'=>∃x,e=.returned (.tuple #[.pointer (some ⟨x,0,none⟩),.int .i64 0])/\qo x lo hi dg u m gr (1+iP u m hi) [] (Gr (fun _=>False) w w') w'/\Below w.heap.size w w':=by
 have hmm:=@run_makeMap prog;have C1:Hid (∀w,_):=aI (fun w=>Ol w ok)
 have C2:Hid (∀(w1:World) (g:Nat),nX w1 g lo hi dg u m->_):=aI (fun w1 g h=>lY (w:=w1) (g:=g) hi h ok.um (by have:=ok.h1;omega))
 clear ok;generalize 1+iP u m hi=R at *;obtain⟨b,hbb⟩:=aF (w.heap.size);obtain⟨w0,hw0⟩:=aF (w.alloc (.cells #[.int .i64 lo,.int .i64 hi,.int .i64 dg] 23));have hb0:Below w.heap.size w w0:=by rw[<-hw0];exact bw
 have B0:dK w0 b 23 #[.int .i64 lo,.int .i64 hi,.int .i64 dg]:=by rw[<-hw0,<-hbb];exact dK.new _ _ _
 obtain⟨k0,k1,k2⟩:=B0.c3;have X:=aI (aP hb0 (aP B0 hbb));clear B0 hb0
 go_enter func200,ntmps200
 go_upto_region 1 with fail;clear hw0 hbb
 go_wp2_with fail;refine(C1.o w0).mono ?_
 rintro e w1 ⟨g,rfl,hg,hM,hb1⟩;have j1:=(X.o.2.1.keep hb1).cell 1;simp only[aK,aJ,aN] at j1;have HM:=aI (aP hM (aP hb1 hg));clear hM hb1 hg
 go_wp2_with fail;refine(C2.o w1 g HM.o.1).mono ?_
 rintro e w2 ⟨rfl,hb2⟩;have HM2:=aI (aP (dK.keep HM.o.1 hb2) hb2);clear hb2
 go_wp2_with fail
 go_ret2
 obtain⟨hM2,hb2⟩:=HM2.o;obtain⟨_,hb1,hg⟩:=HM.o;have ap8:Below w.heap.size w w2:=X.o.1.trans ((hb1.trans (hb2.mono hb1.size)).mono X.o.1.size);have hz2:=ap8.size;have hgz:w.heap.size<=g:=bJ X.o.1.size hg;have hgl:=dK.lt hM2;have hb3:Below w2.heap.size w2 (w2.alloc (.map #[] 0)):=(aO _ _).alloc (aS _) _;have hb4:Below w2.heap.size w2 ((w2.alloc (.map #[] 0)).alloc (.cells #[.pointer (some ⟨g,0,none⟩),.bool gr,.int .i64 R,.map (some w2.heap.size),.int .u64 0] 193)):=hb3.alloc ag _
 have hC:=(bd5 w2).keep ((aO _ _).alloc (aS _) (.cells #[.pointer (some ⟨g,0,none⟩),.bool gr,.int .i64 R,.map (some w2.heap.size),.int .u64 0] 193));have hsz:(w2.alloc (.map #[] 0)).heap.size=w2.heap.size+1:=ag
 have hBN:=dK.new (w2.alloc (.map #[] 0)) 193 #[.pointer (some ⟨g,0,none⟩),.bool gr,.int .i64 R,.map (some w2.heap.size),.int .u64 0];rw[hsz] at hBN;have hl5:=hBN.lt;exact⟨_,rfl,⟨g,w2.heap.size,hBN,dK.keep hM2 hb4,hC,.inr ⟨by omega,hl5⟩,.inr ⟨hgz,ae⟩,.inr ⟨hz2,ae⟩,fun k h=>h.elim False.elim And.right⟩,ap8.trans (hb4.mono hz2)⟩
end
open Tryz
open Go.RowKit Go.Lib Go.Shelf
end Go.Proofs.YtilcnjbpmoijmaaGreat.D
namespace Go.Proofs.YtilcnjbpmoijmaaGreat.K
open Tryz
variable{x:Int}{l:List Int}{h j k len:Nat}
def ins(v:Int):List Int->List Int
 | []=>[v]
 | y::l=>if v<y then v::y::l else y::ins v l
def insL(l vs:List Int):List Int:=vs.foldl (fun l v=>ins v l) l
abbrev r_(l:List Int):Prop:=l.Pairwise (fun a b=>a<=b)
theorem GH(v:Int):∀l,(ins v l).Perm (v::l)
 | []=>.refl _
 | y::l=>by
  unfold ins
  split
  ·exact .refl _
  ·exact((GH v l).cons y).trans (List.Perm.swap v y l)
theorem ap9{v:Int}:x∈ins v l<->x=v\/x∈l:=by rw[(GH v l).mem_iff,bn]
theorem Vp(v:Int):∀{l:List Int},r_ l->r_ (ins v l)
 | [],_=>by simp[ins]
 | y::l,h=>by
  have h1:=aZ.1 h;unfold ins
  split
  ·rename_i hv
   exact aZ.2 ⟨fun z hz=>by
    rcases bn.1 hz with rfl|hz
    ·omega
    ·have:=h1.1 z hz;omega,h⟩
  ·rename_i hv
   refine aZ.2 ⟨fun z hz=>?_,Vp v h1.2⟩
   rcases ap9.1 hz with rfl|hz
   ·omega
   ·exact h1.1 z hz
theorem Xy(l:List Int)(v:Int)(vs:List Int):insL l (v::vs)=insL (ins v l) vs:=rfl
theorem wR:∀(vs l:List Int),(insL l vs).Perm (l++vs)
 | [],l=>by rw[List.append_nil];exact .refl _
 | v::vs,l=>by
  rw[Xy];refine(wR vs (ins v l)).trans (((GH v l).append_right vs).trans ?_)
  exact List.perm_middle.symm
theorem vI(l vs:List Int):(insL l vs).length=l.length+vs.length:=by rw[(wR vs l).length_eq,aQ]
theorem ac4{vs:List Int}:x∈insL l vs<->x∈l\/x∈vs:=by rw[(wR vs l).mem_iff,dB]
theorem GI(h:r_ l):∀(vs:List Int),r_ (insL l vs):=by
 intro vs
 induction vs generalizing l with
 | nil=>exact h
 | cons v vs ih=>exact ih (Vp v h)
theorem GK:∀{a b:List Int},a.Perm b->r_ a->r_ b->a=b
 | [],b,p,_,_=>(List.nil_perm.1 p).symm
 | x::a,b,p,ha,hb=>by
  cases b with
  | nil=>exact absurd p.length_eq ag
  | cons y b=>
   have h1:=aZ.1 ha;have h2:=aZ.1 hb;have e:x=y:=by
    have hx:x∈y::b:=p.subset (aT ..);have hy:y∈x::a:=p.symm.subset (aT ..)
    rcases bn.1 hx with h|h
    ·exact h
    ·rcases bn.1 hy with h'|h'
     ·exact h'.symm
     ·have:=h1.1 y h'
      have:=h2.1 x h;omega
   subst e;rw[GK ((List.perm_cons x).1 p) h1.2 h2.2]
theorem ac5(l:List Int):r_ (l.mergeSort fun x y=>decide (x<=y)):=by
 have h:=List.pairwise_mergeSort (le:=fun x y:Int=>decide (x<=y)) (fun a b c h1 h2=>by simp only[decide_eq_true_eq] at *;omega) (fun a b=>by simp only[Bool.or_eq_true,decide_eq_true_eq];omega) l
 exact h.imp (fun h=>by simpa using h)
theorem ac6(h:r_ l)(vs:List Int):((l++vs).mergeSort fun x y=>decide (x<=y))=insL l vs:=
 GK ((List.mergeSort_perm _ _).trans (wR vs l).symm) (ac5 _) (GI h vs)
abbrev LL:=List (List Int)
def ext(L:LL)(h:Nat):LL:=L++List.replicate (h+1 - L.length) []
def lvl(L:LL)(h:Nat):List Int:=L.getD h []
def vJ(L:LL)(h:Nat)(vs:List Int):LL:=(ext L h).set h (insL (lvl L h) vs)
theorem pY(L:LL)(h:Nat):(ext L h).length=max L.length (h+1):=by
 unfold ext;rw[aQ,b_];omega
theorem Ep(L:LL)(h j:Nat):lvl (ext L h) j=lvl L j:=by
 unfold lvl ext;simp only[List.getD]
 rcases bV j L.length with h1|h1
 ·rw[List.getElem?_append_left h1]
 ·rw[List.getElem?_append_right h1,List.getElem?_replicate,List.getElem?_eq_none h1]
  split<;>rfl
theorem ry{L:LL}(h:L.length<=j):lvl L j=[]:=by
 unfold lvl;rw[List.getD,List.getElem?_eq_none h];rfl
theorem nZ{L:LL}(h:j<L.length):lvl L j=L[j]:=by
 unfold lvl;rw[List.getD,a_ h];rfl
theorem oK(L:LL)(h j:Nat)(l:List Int)(hh:h<L.length):lvl (L.set h l) j=if j=h then l else lvl L j:=by
 unfold lvl;simp only[List.getD];rw[List.getElem?_set]
 by_cases e:h=j
 ·subst e;rw[if_pos rfl,if_pos rfl,if_pos hh];rfl
 ·rw[if_neg e,if_neg (fun e'=>e e'.symm)]
theorem vK(L:LL)(h:Nat)(vs:List Int):(vJ L h vs).length=max L.length (h+1):=by
 unfold vJ;rw[bK,pY]
theorem wS(L:LL)(h j:Nat)(vs:List Int):lvl (vJ L h vs) j=if j=h then insL (lvl L h) vs else lvl L j:=by
 unfold vJ;rw[oK _ _ _ _ (by rw[pY];omega),Ep]
def cnt(L:LL):Nat:=(L.map List.length).sum
def su:Nat->LL->Nat
 | _,[]=>0
 | w,l::L=>l.length * w+su (2 * w) L
def wt(L:LL):Nat:=su 1 L
theorem sW(A B:LL):cnt (A++B)=cnt A+cnt B:=by simp[cnt]
theorem nS(l:List Int)(L:LL):cnt (l::L)=l.length+cnt L:=by simp[cnt]
theorem aq0(n:Nat):cnt (List.replicate n [])=0:=by simp[cnt]
theorem aq1(L:LL)(h:Nat):cnt (ext L h)=cnt L:=by rw[ext,sW,aq0];rfl
theorem Le:∀(L:LL) (h:Nat) (_:h<L.length) (l:List Int),cnt (L.set h l)+(lvl L h).length=cnt L+l.length
 | x::L,0,_,l=>by rw[List.set_cons_zero,nS,nS];simp only[lvl,List.getD_cons_zero];omega
 | x::L,h+1,hh,l=>by
  have:=Le L h (by simpa using hh) l
  rw[List.set_cons_succ,nS,nS];simp only[lvl,List.getD_cons_succ] at this |-;omega
theorem Lh(L:LL)(h:Nat)(vs:List Int):cnt (vJ L h vs)=cnt L+vs.length:=by
 have h1:=Le (ext L h) h (by rw[pY];omega) (insL (lvl L h) vs)
 rw[Ep,vI,aq1] at h1;unfold vJ;omega
theorem iG:∀(L:LL) (h:Nat),(lvl L h).length<=cnt L
 | [],h=>by simp[lvl]
 | x::L,0=>by rw[nS];simp only[lvl,List.getD_cons_zero];omega
 | x::L,h+1=>by
  have:=iG L h;rw[nS];simp only[lvl,List.getD_cons_succ] at this |-;omega
theorem p_:∀(w:Nat) (A B:LL),su w (A++B)=su w A+su (2 ^ A.length * w) B
 | w,[],B=>by simp[su]
 | w,a::A,B=>by
  rw[List.cons_append,su,p_ (2 * w) A B,su,aU,Nat.pow_succ,Nat.mul_assoc,Nat.add_assoc]
theorem Vq:∀(n w:Nat),su w (List.replicate n [])=0
 | 0,_=>rfl
 | n+1,w=>by rw[List.replicate_succ,su,Vq n];simp
theorem bd9(L:LL)(h:Nat):wt (ext L h)=wt L:=by unfold wt;rw[ext,p_,Vq];rfl
theorem Lj:∀(L:LL) (w h:Nat) (_:h<L.length) (l:List Int),su w (L.set h l)+(lvl L h).length * (2 ^ h * w)=su w L+l.length * (2 ^ h * w)
 | x::L,w,0,_,l=>by
  rw[List.set_cons_zero,su,su];simp only[lvl,List.getD_cons_zero,Nat.pow_zero,Nat.one_mul];omega
 | x::L,w,h+1,hh,l=>by
  have:=Lj L (2 * w) h (by simpa using hh) l
  rw[List.set_cons_succ,su,su,Nat.pow_succ,Nat.mul_assoc (2 ^ h) 2 w];simp only[lvl,List.getD_cons_succ] at this |-;omega
theorem SN(L:LL)(h:Nat)(vs:List Int):wt (vJ L h vs)=wt L+vs.length * 2 ^ h:=by
 have h1:=Lj (ext L h) 1 h (by rw[pY];omega) (insL (lvl L h) vs)
 rw[Ep,vI,Nat.mul_one,Nat.add_mul] at h1;have h2:=bd9 L h;unfold wt at h2 |-;unfold vJ;omega
theorem be0(L:LL)(h:Nat)(hh:h<L.length)(l:List Int):wt (L.set h l)+(lvl L h).length * 2 ^ h=wt L+l.length * 2 ^ h:=by
 have:=Lj L 1 h hh l;rw[Nat.mul_one] at this;exact this
theorem SQ:∀(L:LL) (w h:Nat),(lvl L h).length * (2 ^ h * w)<=su w L
 | [],w,h=>by simp[lvl,su]
 | x::L,w,0=>by rw[su];simp only[lvl,List.getD_cons_zero,Nat.pow_zero,Nat.one_mul];omega
 | x::L,w,h+1=>by
  have:=SQ L (2 * w) h;rw[su,Nat.pow_succ,Nat.mul_assoc (2 ^ h) 2 w];simp only[lvl,List.getD_cons_succ] at this |-;omega
def thin(c:Nat):Nat:=(2 * c+2) / 3
def vM:Nat->Nat->Nat
 | 0,c=>c
 | j+1,c=>vM j (thin c)
def room(k len h:Nat):Nat:=if h<len then max (vM (len - 1 - h) k) 2 else 0
theorem GL:∀(j c:Nat),2<=c->vM j c<=c/\2<=vM j c
 | 0,c,h=>⟨aS _,h⟩
 | j+1,c,h=>by
  have h1:thin c<=c:=by unfold thin;omega
  have h2:2<=thin c:=by unfold thin;omega
  have:=GL j (thin c) h2;rw[vM];omega
theorem room_le(hk:2<=k):room k len h<=k:=by
 unfold room;have:=GL (len - 1 - h) k hk
 split<;>omega
theorem Ll(hh:h<len):2<=room k len h:=by
 unfold room;rw[if_pos hh];omega
def Lm(k:Nat)(L:LL)(h:Nat):Bool:=decide (room k L.length h<(lvl L h).length)
def iH(k:Nat)(L:LL):Option Nat:=(List.range L.length).find? (Lm k L)
def upV(l:List Int)(Xz:Nat):List Int:=(List.range (l.length / 2)).map fun i=>l.getD (2 * i+Xz) 0
def GM(l:List Int):List Int:=l.drop (2 * (l.length / 2))
def mM(L:LL)(h Xz:Nat):LL:=vJ (L.set h (GM (lvl L h))) (h+1) (upV (lvl L h) Xz)
theorem sZ(l:List Int)(c:Nat):(upV l c).length=l.length / 2:=by simp[upV]
theorem Dj(l:List Int):(GM l).length=l.length % 2:=by unfold GM;rw[bu];omega
theorem kR{L:LL}(e:iH k L=some h):h<L.length/\room k L.length h<(lvl L h).length/\∀j,j<h->(lvl L j).length<=room k L.length j:=by
 unfold iH at e;obtain⟨h1,xa,xb,h2,h3⟩:=List.find?_eq_some_iff_append.1 e;have hm:h∈List.range L.length:=by rw[h2];simp
 have hlen:xa.length=h:=by
  have hlt:xa.length<(List.range L.length).length:=by rw[h2];simp
  have:(List.range L.length)[xa.length]'hlt=h:=by simp[h2]
  rw[List.getElem_range] at this;exact this
 refine⟨List.mem_range.1 hm,by simpa[Lm] using h1,fun j hj=>?_⟩
 have hja:j∈xa:=by
  have hlt:j<xa.length:=ae
  have:xa[j]=j:=by
   have e1:(xa++h::xb)[j]' ah =xa[j]:=dE hlt
   rw[<-e1];have hl2:j<(List.range L.length).length:=by rw[h2];simp;omega
   have:(List.range L.length)[j]'hl2=j:=ag
   simpa[h2] using this
  rw[<-this];exact bf hlt
 have:=h3 j hja
 simpa[Lm] using this
theorem yl{L:LL}(e:iH k L=none):∀j,j<L.length->(lvl L j).length<=room k L.length j:=by
 intro j hj;have:=List.find?_eq_none.1 e j (List.mem_range.2 hj)
 simpa[Lm] using this
theorem ac7{L:LL}(h1:h<L.length)(h2:room k L.length h<(lvl L h).length)(h3:∀j,j<h->(lvl L j).length<=room k L.length j):iH k L=some h:=by
 cases e:iH k L with
 | none=>have:=yl e h h1;omega
 | some h'=>
  obtain⟨g1,g2,g3⟩:=kR e
  rcases Nat.lt_trichotomy h h' with c|c|c
  ·have:=g3 h c;omega
  ·rw[c]
  ·have:=h3 h' c;omega
theorem xA{L:LL}(h:∀j,j<L.length->(lvl L j).length<=room k L.length j):iH k L=none:=by
 cases e:iH k L with
 | none=>rfl
 | some h'=>
  obtain⟨g1,g2,_⟩:=kR e;have:=h h' g1;omega
theorem Jt{L:LL}(hh:h<L.length)(c:Nat):cnt (mM L h c)+(lvl L h).length / 2=cnt L:=by
 have h1:=Le L h hh (GM (lvl L h));rw[Dj] at h1;unfold mM;rw[Lh,sZ];omega
theorem Ov{L:LL}(hh:h<L.length)(c:Nat):wt (mM L h c)=wt L:=by
 have h1:=be0 L h hh (GM (lvl L h));rw[Dj] at h1;unfold mM;rw[SN,sZ,Nat.pow_succ];have h2:(lvl L h).length * 2 ^ h=(lvl L h).length % 2 * 2 ^ h+(lvl L h).length / 2 * (2 ^ h * 2):=by
  conv=>lhs;rw[<-Nat.mod_add_div (lvl L h).length 2]
  rw[Nat.add_mul,dC 2,Nat.mul_assoc,dC 2]
 omega
theorem Lp(L:LL)(h c:Nat):(mM L h c).length=max L.length (h+2):=by unfold mM;rw[vK,bK]
end Go.Proofs.YtilcnjbpmoijmaaGreat.K
