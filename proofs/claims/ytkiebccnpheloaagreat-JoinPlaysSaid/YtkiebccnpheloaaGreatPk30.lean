/- Parts of a proof: what its theorem reaches, words cut short. No condition of its own. -/
import Derived.Test.YtkiebccnpheloaaGreatPk26
set_option maxRecDepth 100000
set_option maxHeartbeats 16000000
set_option linter.unusedVariables false
set_option linter.unusedSimpArgs false
namespace Go.Proofs.YtkiebccnpheloaaGreat.D
open Go.RowKit Go.Lib
theorem y_(g base:Nat)(n:Int)(bs:List Int)(w:World)(h:Wr 332 base w g bs)(n0:0<=n)(n1:n<256)(hl:bs.length<=1000000000000) :
 Calls Tryz.prog 412 #[.pointer (some ⟨g,0,none⟩),.int .u64 n,.int .i64 1] w fun e w'=>e=.returned (.tuple #[])/\Wr 332 base w' g (bs++[n])/\Below base w w':=by
 have H:=aB h;have hlt:=h.lt;clear h;have eb:IntKind.u8.wrap n=n:=by rw[show IntKind.u8.wrap n=n % 256 from rfl];omega
 have EB:=aB eb;clear eb
 go_enter Tryz.func412,Tryz.ntmps412
 go_wp2_with fail
 go_loopg [8] 1 (fun q i wr=>∃j:Nat,q=1 - j/\j<=1/\i=.int .i64 j/\Hid (Wr 332 base wr g (bs++[n].take j))/\Below base w wr)
 case atStart=>exact⟨0,rfl,ae,rfl,by rw[List.take_zero,List.append_nil];exact H,aH _ _⟩
 case round=>
  obtain⟨j,hq,hj,rfl,hw,hb⟩:=hrel;have HQ:=aB hq;have hz:=hb.size;clear hq
  by_cases hlj:j<1
  ·obtain rfl:j=0:=ae
   rw[List.take_zero,List.append_nil] at hw;obtain⟨hbg,v,hB,hO⟩:=hw.out;have HB:=aB hB;have HO:=aB hO;have hlen:bs.length+1<=1099511627776:=ae
   clear hB hO;have Bd:dH wr.drew g 332 #[v]:=HB.out.drew;obtain⟨A0,k0,hv0,_,_,_⟩:=(dN.rd HO.out).form;obtain⟨N0,hN0⟩:∃N,bs.length=N:=⟨_,rfl⟩;rw[hN0] at hv0;subst hv0;have HN0:=aB hN0;clear hN0;have HBa:Hid (dH (wr.alloc (.cells #[.int .u8 n] 5)).drew g 332 #[.slice A0 N0 k0]):=aB (HB.out.alloc _).drew;have Q9:Hid (dI bE base (wr.alloc (.cells #[.int .u8 n] 5)).drew (.slice A0 N0 k0) bs):=aB (dI.alloc (dR.1 HO.out) _).drew;have hba:Below base w (wr.alloc (.cells #[.int .u8 n] 5)).drew:=(hb.alloc ae _).drew
   have eb:=EB.out;have e0:IntKind.i64.wrap 0=0:=rfl
   go_upto_region 3 with fail;refine dJ (fun w'=>dH w' g 332 #[.slice A0 N0 k0]) 12 [(0,true),(1,true),(2,true),(3,true),(4,true),(5,true),(6,true),(7,true),(8,true),(9,true),(10,false),(11,false)] (by kernel_rfl) (by kernel_rfl) (Bd) ?_
   iterate 10
    refine dK ax  ax (fun R hR=>?_)
    apply aJ
    refine⟨fun w' hS'=>?_,?_⟩
    ·have c0:=dH.cell hS' 0
     simp only[aF,aC] at c0;have e0':=e0
     go_simp;exact⟨rfl,rfl⟩
    go_simp;refine hR _ ?_;clear hR R
   refine d_ ax  ax (fun K hK=>?_)
   go_simp;refine hK _ _ (Bd.alloc _) ?_
   clear hK K;refine d_ ax  ax (fun K hK=>?_)
   refine apW wC (.tmp 15) (.tmp 21) rfl Q9.out rfl _ [n] rfl (dI.one (E:=bE) wr.drew n _ rfl _ rfl).rd hlen aj ?_
   intro v1 w1 o1 g1 _;have B1:=jH HBa.out Q9.out af g1
   have hb1:Below base w w1:=hba.grown g1 (by have:=hba.size;omega) (fun k hk=>(dI.lt Q9.out k hk).1)
   have P1:=aB (qm (i:=0) HBa.out Q9.out af g1 o1)
   obtain⟨A1,c1,ev1,_,_,_⟩:=o1.form;obtain⟨N1,hN1⟩:∃N,(bs++[n]).length=N:=⟨_,rfl⟩;rw[hN1] at ev1;subst ev1;clear hN1 o1 g1;refine hK _ _ (B1) ?_
   clear hK K;refine dQ ?_
   simp only[bD,bQ];have c0:=B1.cell 0;have f0:=B1.frozen 0;simp only[aF,aC] at c0
   go_wp2_with fail;refine dO ?_
   go_wp2_with fail
   go_roundg 0
   case measure=>have:=HQ.out;omega
   case rel=>exact⟨1,rfl,ae,ai,aB ⟨hbg,_,P1.out.1,dR.2 P1.out.2⟩,hb1.setCell ae _⟩
  ·obtain rfl:j=1:=ae
   have KN:=hw
   go_wp2_with fail;refine bodyPost_end (v:=.tuple #[]) (by simp[results,Tryz.results412,go_sem, *];try rfl) rfl ?_
   exact⟨rfl,KN.out,hb⟩
theorem Uu(g base:Nat)(v s:Int)(bs:List Int)(w:World)(h:Wr 332 base w g bs)(h0:-9223372036854775808<=v)(h1:v<=9223372036854775807)(hl:bs.length<=1000000000000) :
 Calls Tryz.prog 420 #[.pointer (some ⟨g,0,none⟩),.int .u64 (ub v),.int .i64 s] w fun e w'=>e=.returned (.tuple #[])/\Wr 332 base w' g (bs++nn v)/\Below base w w':=by
 have H:=aB h;have hlt:=h.lt;have ew:=Ib h0 h1;have sb:=vM h0 h1;have CS:=aB (JG v w h0 h1);clear h;have HZ:Hid (nn v=lC 8 (vg v)):=aB rfl;rw[HZ.out];generalize vg v=z at *;generalize ub v=u at *
 go_enter Tryz.func420,Tryz.ntmps420
 go_wp2_with fail;refine(CS.out).mono ?_
 rintro e w' ⟨rfl,rfl⟩;have EWH:=aB ew;clear ew
 go_wp2_with fail
 go_loopg [1,9] 8 (fun k x i wr=>∃(m:Int) (acc:List Int) (j:Nat),k+j=8/\i=.int .i64 j/\x=.int .u64 m/\0<=m/\m<256 * 128 ^ k/\acc.length<=8 - k/\Hid (acc++lC k m=lC 8 z)/\Hid (Wr 332 base wr g (bs++acc))/\Below base w wr)
 case atStart=>exact⟨z,[],0,ae,rfl,rfl,sb.1,ae,ag,aB rfl,by rw[List.append_nil];exact H,aH _ _⟩
 case round=>
  obtain⟨m,acc,j,hkj,rfl,rfl,m0,m1,ha,he,hw,hb⟩:=hrel;obtain⟨hbg,v1,hB,hO⟩:=hw.out;have HB:=aB hB;have HO:=aB hO;have c0:=hB.cell 0;have f0:=hB.frozen 0;have hlg:=hB.lt;have hz:=hb.size;simp only[aF,aC] at c0;have hlen:(bs++acc).length+1<=1099511627776:=by rw[aI];omega
  obtain⟨A0,k0,hv0,_,_,_⟩:=(dN.rd HO.out).form;obtain⟨N0,hN0⟩:∃N,(bs++acc).length=N:=⟨_,rfl⟩;rw[hN0] at hv0;subst hv0;have VP:=aB (dR.1 HO.out);clear hB hO hN0;have DV:Hid (∀(y:Int) (v2:Value) (w2:World),dI bE base w2 v2 (bs++acc++[y])->(wr.alloc (.cells #[.int .u8 y] 5)).grownBy w2 (Value.slice A0 N0 k0).ownBlock->dH w2 g 332 #[.slice A0 N0 k0]/\Wr 332 base (w2.setCell ⟨g,0,none⟩ v2) g (bs++acc++[y])/\Below base w w2):=aB (fun y v2 w2 o2 g2=>by
   have P:=qm (i:=0) (HB.out.alloc _) (VP.out.alloc _) af g2 o2
   exact⟨jH (HB.out.alloc _) (VP.out.alloc _) af g2,⟨hbg,_,P.1,dR.2 P.2⟩,(hb.alloc ae _).grown g2 (by simp only[aO];omega) (fun k hk=>(VP.out.lt k hk).1)⟩)
  by_cases hk:gk=0
  ·subst hk
   obtain rfl:j=8:=ae
   have hm8:m % 256=m:=by simp at m1;omega
   have EB:IntKind.u8.wrap m=m:=hm8
   go_wp2_with (at_builtin;refine pY wC rfl (.tmp 43) (.tmp 46) rfl (VP.out.alloc _) rfl _ [m] rfl (gz.dY (E:=bE) _ m _ rfl _ rfl _ ag) hlen aj ?_;intro v2 w2 o2 g2 _;obtain⟨A2,c2,ev2,_,_,_⟩:=o2.form;obtain⟨N2,hN2⟩:∃N,(bs++acc++[m]).length=N:=⟨_,rfl⟩;rw[hN2] at ev2;subst ev2;clear hN2;obtain⟨B2,W2,hb2⟩:=DV.out m _ w2 o2 g2;have W2:=aB W2;have c0:=B2.cell 0;have f0:=B2.frozen 0;simp only[aF,aC] at c0;clear o2 g2)
   refine bodyPost_end (v:=.tuple #[]) (by simp[results,Tryz.results420,go_sem, *];try rfl) rfl ?_
   exact⟨rfl,by rw[<-he.out,<-aS];exact W2.out,hb2.setCell ae _⟩
  ·obtain⟨q,rfl⟩:∃q,gk=q+1:=⟨gk - 1,ae⟩
   have hj8:(j:Int)<8:=ae
   by_cases hm:127<m
   ·have hE:=aB (uo q m hm)
    have hd:m / 128<256 * 128 ^ q:=Int.ediv_lt_of_lt_mul ae (by rw[bV,<-Int.pow_succ];exact m1)
    have o8:=ah9 (m % 256) ae  ae
    have e2:m % 256 % 128+128=m % 128+128:=ae
    have hcm:¬m<=127:=ae
    have o8':bits .or .u8 (IntKind.u8.wrap m) 128=m % 128+128:=by rw[show IntKind.u8.wrap m=m % 256 from rfl,o8,e2]
    go_wp2_with (at_builtin;refine pY wC rfl (.tmp 28) (.tmp 32) rfl (VP.out.alloc _) rfl _ [m % 128+128] rfl (gz.dY (E:=bE) _ (m % 128+128) _ rfl _ rfl _ ag) hlen aj ?_;intro v2 w2 o2 g2 _;obtain⟨A2,c2,ev2,_,_,_⟩:=o2.form;obtain⟨N2,hN2⟩:∃N,(bs++acc++[m % 128+128]).length=N:=⟨_,rfl⟩;rw[hN2] at ev2;subst ev2;clear hN2;obtain⟨B2,W2,hb2⟩:=DV.out (m % 128+128) _ w2 o2 g2;have W2:=aB W2;have c0:=B2.cell 0;have f0:=B2.frozen 0;simp only[aF,aC] at c0;clear o2 g2)
    go_roundg q
    case measure=>omega
    case rel=>exact⟨m / 128,acc++[m % 128+128],j+1,ae,ai,rfl,ae,hd,ah,by show _=_;rw[aS,<-he.out,hE.out];rfl,by rw[<-aS];exact W2,hb2.setCell ae _⟩
   ·have hE:=aB (uq (q+1) m hm)
    have hm8:m % 256=m:=ae
    have EB:IntKind.u8.wrap m=m:=hm8;have hcm:m<=127:=ae
    go_wp2_with (at_builtin;refine pY wC rfl (.tmp 17) (.tmp 20) rfl (VP.out.alloc _) rfl _ [m] rfl (gz.dY (E:=bE) _ m _ rfl _ rfl _ ag) hlen aj ?_;intro v2 w2 o2 g2 _;obtain⟨A2,c2,ev2,_,_,_⟩:=o2.form;obtain⟨N2,hN2⟩:∃N,(bs++acc++[m]).length=N:=⟨_,rfl⟩;rw[hN2] at ev2;subst ev2;clear hN2;obtain⟨B2,W2,hb2⟩:=DV.out m _ w2 o2 g2;have W2:=aB W2;have c0:=B2.cell 0;have f0:=B2.frozen 0;simp only[aF,aC] at c0;clear o2 g2)
    refine bodyPost_ret (results_none rfl _ _ _) rfl ?_
    exact⟨rfl,by rw[<-he.out,hE.out,<-aS];exact W2.out,hb2.setCell ae _⟩
open Go.RowKit Go.Lib
theorem X9(x:Int)(v:Value)(w:World)(hr:iH .u64 w v [ub x])(h0:-9223372036854775808<=x)(h1:x<=9223372036854775807) :
 Calls Tryz.prog 147 #[.string ⟨#[110]⟩,v] w fun e w'=>∃v,e=.returned (.tuple #[v,.int .i64 0])/\OwnB w.heap.size w' v (nn x)/\Below w.heap.size w w':=
 put_any 9 420 110 (ub x) (nn x) v w bf9 hr (CO x).1 (CO x).2 rfl (fun _ _=>rfl) (fun g base w h=>Uu g base x 0 [] w h h0 h1 ag)
theorem KY(w:World):Calls Tryz.prog 247 #[.string ⟨#[118,118,118,98]⟩] w fun e w'=>e=.returned (.bool true)/\Below w.heap.size w w':=by
 have X_:=fun w=>aB (fF 0 98 1 w XB)
 have Uw:=fun w=>aB (fF 7 118 0 w ac9)
 go_enter Tryz.func247,Tryz.ntmps247
 go_wp2_with fail
 go_loopg [11] 4 (fun q i wr=>∃j:Nat,q=4 - j/\j<=4/\i=.int .i64 j/\Below w.heap.size w wr)
 case atStart=>exact⟨0,rfl,ae,rfl,aH _ _⟩
 case round=>
  obtain⟨j,hq,hj,rfl,hb⟩:=hrel;have HQ:=aB hq;have hz:=hb.size;clear hq
  rcases(show j=0\/j=1\/j=2\/j=3\/j=4 by omega) with rfl|rfl|rfl|rfl|rfl
  ·go_wp2_with (go_at_call 248;refine((Uw _).out).mono ?_;rintro e w1 ⟨rfl,hb1⟩;have hz1:=hb1.size)
   go_roundg 3
   case measure=>have:=HQ.out;omega
   case rel=>exact⟨1,rfl,ae,ai,bw⟩
  ·go_wp2_with (go_at_call 248;refine((Uw _).out).mono ?_;rintro e w1 ⟨rfl,hb1⟩;have hz1:=hb1.size)
   go_roundg 2
   case measure=>have:=HQ.out;omega
   case rel=>exact⟨2,rfl,ae,ai,bw⟩
  ·go_wp2_with (go_at_call 248;refine((Uw _).out).mono ?_;rintro e w1 ⟨rfl,hb1⟩;have hz1:=hb1.size)
   go_roundg 1
   case measure=>have:=HQ.out;omega
   case rel=>exact⟨3,rfl,ae,ai,bw⟩
  ·go_wp2_with (go_at_call 248;refine((X_ _).out).mono ?_;rintro e w1 ⟨rfl,hb1⟩;have hz1:=hb1.size)
   go_roundg 0
   case measure=>have:=HQ.out;omega
   case rel=>exact⟨4,rfl,ae,ai,bw⟩
  ·go_wp2_with fail
   go_ret;exact⟨rfl,hb⟩
def jE(a b c d:Int):Nat->List Int
 | 0=>[]
 | 1=>fC a
 | 2=>fC a++fC b
 | 3=>fC a++fC b++fC c
 | _=>fC a++fC b++fC c++[d]
theorem GH(a b c d:Int)(j:Nat):(jE a b c d j).length<=40:=by
 have ha:=dM a;have hb:=dM b;have hc:=dM c
 match j with
 | 0=>simp[jE]
 | 1=>simp only[jE,aI,aP,bf];omega
 | 2=>simp only[jE,aI,aP,bf];omega
 | 3=>simp only[jE,aI,aP,bf];omega
 | n+4=>simp only[jE,aI,aP,bf];omega
theorem Ux(a b c d:Int)(v:Value)(w:World)(hr:iH .u64 w v [a,b,c,d])(a0:0<=a)(a1:a<18446744073709551616)(b0:0<=b)(b1:b<18446744073709551616)(c0:0<=c)(c1:c<18446744073709551616)(d0:0<=d)(d1:d<256) :
 Calls Tryz.prog 147 #[.string ⟨#[118,118,118,98]⟩,v] w fun e w'=>∃v,e=.returned (.tuple #[v,.int .i64 0])/\OwnB w.heap.size w' v (jE a b c d 4)/\Below w.heap.size w w':=by
 obtain⟨AA,cn,rfl,hn,hc,hp⟩:=hr.form;obtain⟨gn,on,rfl,hgn,qZ⟩:=hp.at_ (j:=0) (by simp)
 obtain⟨g',o',e',_,rf⟩:=hp.at_ (j:=1) (by simp)
 simp only[bC,Addr.mk.injEq,and_true] at e';obtain⟨rfl,rfl⟩:=e';obtain⟨g',o',e',_,pU⟩:=hp.at_ (j:=2) (by simp)
 simp only[bC,Addr.mk.injEq,and_true] at e';obtain⟨rfl,rfl⟩:=e';obtain⟨g',o',e',_,Dw⟩:=hp.at_ (j:=3) (by simp)
 simp only[bC,Addr.mk.injEq,and_true] at e';obtain⟨rfl,rfl⟩:=e';simp only[aP,bf,List.getElem_cons_zero,List.getElem_cons_succ,Nat.add_zero] at hn qZ rf pU Dw |-;have Xo:=aB qZ;have CN1:=aB rf;have CN2:=aB pU;have CN3:=aB Dw;have X_:=fun w=>aB (fF 0 98 1 w XB)
 have efb:oO 0=412:=rfl;rw[efb] at X_;have Uw:=fun w=>aB (fF 7 118 0 w ac9)
 have efv:oO 7=416:=rfl;rw[efv] at Uw;have aw8:∀args w,(callFunc 416 args).run Tryz.prog w=.ok (.enter 416 args) w:=fun _ _=>rfl
 have ai9:∀args w,(callFunc 412 args).run Tryz.prog w=.ok (.enter 412 args) w:=fun _ _=>rfl
 have Nu:Hid (jE a b c d 0++(fC a)=jE a b c d 1):=aB rfl;have AU:Hid (jE a b c d 1++(fC b)=jE a b c d 2):=aB rfl;have xu:Hid (jE a b c d 2++(fC c)=jE a b c d 3):=aB rfl;have ZF:Hid (jE a b c d 3++[d]=jE a b c d 4):=aB rfl;have vC:=aB (GH a b c d);have D3:Hid (d / 256=0):=aB ae
 clear hr hp efb efv qZ rf pU Dw
 go_enter Tryz.func147,Tryz.ntmps147
 go_wp2_with fail;refine(KY w).mono ?_
 rintro e w1 ⟨rfl,hb1⟩;have hz1:=hb1.size
 go_wp2_with fail;obtain⟨g,hg⟩:∃g,w1.heap.size=g:=⟨_,rfl⟩;have W0:=aB (Wr.new 332 w1 w.heap.size hz1);have hb2:Below w.heap.size w (w1.alloc (.cells #[.slice none 0 0] 332)):=bw;rw[hg] at W0 |-;generalize w1.alloc (.cells #[.slice none 0 0] 332)=w2 at *;clear hg
 go_loopg [25] 4 (fun q i wr=>∃j:Nat,q=4 - j/\j<=4/\i=.int .i64 j/\Hid (Wr 332 w.heap.size wr g (jE a b c d j))/\Below w.heap.size w wr)
 case atStart=>exact⟨0,rfl,ae,rfl,W0,hb2⟩
 case round=>
  obtain⟨j,hq,hj,rfl,hw,hb⟩:=hrel;have HQ:=aB hq;have hz:=hb.size;clear hq
  rcases(show j=0\/j=1\/j=2\/j=3\/j=4 by omega) with rfl|rfl|rfl|rfl|rfl
  ·have CQ:=(hb.cell (p:=⟨gn,on,none⟩) hgn).trans Xo.out
   go_wp2_with (first
    | (go_at_call 248;refine((Uw _).out).mono ?_;rintro e w3 ⟨rfl,hb3⟩;have hz3:=hb3.size)
    | (go_at_fn 416;refine((lY g w.heap.size a 0 (jE a b c d 0) _ ((hw.out.keep hb3).keep ((aH _ _).alloc (aK _) _)) a0 a1 (by have:=vC.out 0;omega)).mono ?_);rintro e w4 ⟨rfl,k1,k2⟩;have mG:=k2.size;rw[Nu.out] at k1;have K1:=aB k1;clear k1))
   go_roundg 3
   case measure=>have:=HQ.out;omega
   case rel=>exact⟨1,rfl,ae,ai,K1,bw⟩
  ·have CQ:=(hb.cell (p:=⟨gn,on+1,none⟩) hgn).trans CN1.out
   go_wp2_with (first
    | (go_at_call 248;refine((Uw _).out).mono ?_;rintro e w3 ⟨rfl,hb3⟩;have hz3:=hb3.size)
    | (go_at_fn 416;refine((lY g w.heap.size b 0 (jE a b c d 1) _ ((hw.out.keep hb3).keep ((aH _ _).alloc (aK _) _)) b0 b1 (by have:=vC.out 1;omega)).mono ?_);rintro e w4 ⟨rfl,k1,k2⟩;have mG:=k2.size;rw[AU.out] at k1;have K1:=aB k1;clear k1))
   go_roundg 2
   case measure=>have:=HQ.out;omega
   case rel=>exact⟨2,rfl,ae,ai,K1,bw⟩
  ·have CQ:=(hb.cell (p:=⟨gn,on+2,none⟩) hgn).trans CN2.out
   go_wp2_with (first
    | (go_at_call 248;refine((Uw _).out).mono ?_;rintro e w3 ⟨rfl,hb3⟩;have hz3:=hb3.size)
    | (go_at_fn 416;refine((lY g w.heap.size c 0 (jE a b c d 2) _ ((hw.out.keep hb3).keep ((aH _ _).alloc (aK _) _)) c0 c1 (by have:=vC.out 2;omega)).mono ?_);rintro e w4 ⟨rfl,k1,k2⟩;have mG:=k2.size;rw[xu.out] at k1;have K1:=aB k1;clear k1))
   go_roundg 1
   case measure=>have:=HQ.out;omega
   case rel=>exact⟨3,rfl,ae,ai,K1,bw⟩
  ·have CQ:=(hb.cell (p:=⟨gn,on+3,none⟩) hgn).trans CN3.out
   have dq1:=D3.out;have dq2:IntKind.i64.wrap 8=8:=rfl
   go_wp2_with (first
    | (go_at_call 248;refine((X_ _).out).mono ?_;rintro e w3 ⟨rfl,hb3⟩;have hz3:=hb3.size)
    | (go_at_fn 412;refine((y_ g w.heap.size d (jE a b c d 3) _ ((hw.out.keep hb3).keep ((aH _ _).alloc (aK _) _)) d0 d1 (by have:=vC.out 3;omega)).mono ?_);rintro e w4 ⟨rfl,k1,k2⟩;have mG:=k2.size;rw[ZF.out] at k1;have K1:=aB k1;clear k1))
   go_roundg 0
   case measure=>have:=HQ.out;omega
   case rel=>exact⟨4,rfl,ae,ai,K1,bw⟩
  ·obtain⟨hbg,v,hB,hO⟩:=hw.out
   have c0:=hB.cell 0;simp only[aF,aC] at c0;have HO:=aB hO;clear hB hO
   go_wp2_with fail
   go_ret2
   exact⟨v,rfl,HO.out,hb⟩
open Go.RowKit Go.Lib
theorem KZ(w:World):Calls Tryz.prog 247 #[.string ⟨#[87,87,87,87,81,81,81]⟩] w fun e w'=>e=.returned (.bool true)/\Below w.heap.size w w':=by
 have FOQ:=fun w=>aB (fF 6 81 8 w aw5)
 have ZJ:=fun w=>aB (fF 4 87 4 w aw4)
 go_enter Tryz.func247,Tryz.ntmps247
 go_wp2_with fail
 go_loopg [11] 7 (fun q i wr=>∃j:Nat,q=7 - j/\j<=7/\i=.int .i64 j/\Below w.heap.size w wr)
 case atStart=>exact⟨0,rfl,ae,rfl,aH _ _⟩
 case round=>
  obtain⟨j,hq,hj,rfl,hb⟩:=hrel;have HQ:=aB hq;have hz:=hb.size;clear hq
  rcases(show j=0\/j=1\/j=2\/j=3\/j=4\/j=5\/j=6\/j=7 by omega) with rfl|rfl|rfl|rfl|rfl|rfl|rfl|rfl
  ·go_wp2_with (go_at_call 248;refine((ZJ _).out).mono ?_;rintro e w1 ⟨rfl,hb1⟩;have hz1:=hb1.size)
   go_roundg 6
   case measure=>have:=HQ.out;omega
   case rel=>exact⟨1,rfl,ae,ai,bw⟩
  ·go_wp2_with (go_at_call 248;refine((ZJ _).out).mono ?_;rintro e w1 ⟨rfl,hb1⟩;have hz1:=hb1.size)
   go_roundg 5
   case measure=>have:=HQ.out;omega
   case rel=>exact⟨2,rfl,ae,ai,bw⟩
  ·go_wp2_with (go_at_call 248;refine((ZJ _).out).mono ?_;rintro e w1 ⟨rfl,hb1⟩;have hz1:=hb1.size)
   go_roundg 4
   case measure=>have:=HQ.out;omega
   case rel=>exact⟨3,rfl,ae,ai,bw⟩
  ·go_wp2_with (go_at_call 248;refine((ZJ _).out).mono ?_;rintro e w1 ⟨rfl,hb1⟩;have hz1:=hb1.size)
   go_roundg 3
   case measure=>have:=HQ.out;omega
   case rel=>exact⟨4,rfl,ae,ai,bw⟩
  ·go_wp2_with (go_at_call 248;refine((FOQ _).out).mono ?_;rintro e w1 ⟨rfl,hb1⟩;have hz1:=hb1.size)
   go_roundg 2
   case measure=>have:=HQ.out;omega
   case rel=>exact⟨5,rfl,ae,ai,bw⟩
  ·go_wp2_with (go_at_call 248;refine((FOQ _).out).mono ?_;rintro e w1 ⟨rfl,hb1⟩;have hz1:=hb1.size)
   go_roundg 1
   case measure=>have:=HQ.out;omega
   case rel=>exact⟨6,rfl,ae,ai,bw⟩
  ·go_wp2_with (go_at_call 248;refine((FOQ _).out).mono ?_;rintro e w1 ⟨rfl,hb1⟩;have hz1:=hb1.size)
   go_roundg 0
   case measure=>have:=HQ.out;omega
   case rel=>exact⟨7,rfl,ae,ai,bw⟩
  ·go_wp2_with fail
   go_ret;exact⟨rfl,hb⟩
def g_(xa xb xc xd xe xf xg:Int):Nat->List Int
 | 0=>[]
 | 1=>iZ 4 xa
 | 2=>iZ 4 xa++iZ 4 xb
 | 3=>iZ 4 xa++iZ 4 xb++iZ 4 xc
 | 4=>iZ 4 xa++iZ 4 xb++iZ 4 xc++iZ 4 xd
 | 5=>iZ 4 xa++iZ 4 xb++iZ 4 xc++iZ 4 xd++iZ 8 xe
 | 6=>iZ 4 xa++iZ 4 xb++iZ 4 xc++iZ 4 xd++iZ 8 xe++iZ 8 xf
 | _=>iZ 4 xa++iZ 4 xb++iZ 4 xc++iZ 4 xd++iZ 8 xe++iZ 8 xf++iZ 8 xg
theorem GI(xa xb xc xd xe xf xg:Int)(j:Nat):(g_ xa xb xc xd xe xf xg j).length<=70:=by
 have hxa:=gK 4 xa;have hxb:=gK 4 xb;have hxc:=gK 4 xc;have hxd:=gK 4 xd;have hxe:=gK 8 xe;have hxf:=gK 8 xf;have hxg:=gK 8 xg
 match j with
 | 0=>simp[g_]
 | 1=>simp only[g_,aI,aP,bf];omega
 | 2=>simp only[g_,aI,aP,bf];omega
 | 3=>simp only[g_,aI,aP,bf];omega
 | 4=>simp only[g_,aI,aP,bf];omega
 | 5=>simp only[g_,aI,aP,bf];omega
 | 6=>simp only[g_,aI,aP,bf];omega
 | n+7=>simp only[g_,aI,aP,bf];omega
theorem Uy(xa xb xc xd xe xf xg:Int)(v:Value)(w:World)(hr:iH .u64 w v [xa,xb,xc,xd,xe,xf,xg])(xa0:0<=xa)(xa1:xa<4294967296)(xb0:0<=xb)(xb1:xb<4294967296)(xc0:0<=xc)(xc1:xc<4294967296)(xd0:0<=xd)(xd1:xd<4294967296)(xe0:0<=xe)(xe1:xe<18446744073709551616)(xf0:0<=xf)(xf1:xf<18446744073709551616)(xg0:0<=xg)(xg1:xg<18446744073709551616) :
 Calls Tryz.prog 147 #[.string ⟨#[87,87,87,87,81,81,81]⟩,v] w fun e w'=>∃v,e=.returned (.tuple #[v,.int .i64 0])/\OwnB w.heap.size w' v (g_ xa xb xc xd xe xf xg 7)/\Below w.heap.size w w':=by
 obtain⟨AA,cn,rfl,hn,hc,hp⟩:=hr.form;obtain⟨gn,on,rfl,hgn,qZ⟩:=hp.at_ (j:=0) (by simp)
 obtain⟨g',o',e',_,rf⟩:=hp.at_ (j:=1) (by simp)
 simp only[bC,Addr.mk.injEq,and_true] at e';obtain⟨rfl,rfl⟩:=e';obtain⟨g',o',e',_,pU⟩:=hp.at_ (j:=2) (by simp)
 simp only[bC,Addr.mk.injEq,and_true] at e';obtain⟨rfl,rfl⟩:=e';obtain⟨g',o',e',_,Dw⟩:=hp.at_ (j:=3) (by simp)
 simp only[bC,Addr.mk.injEq,and_true] at e';obtain⟨rfl,rfl⟩:=e';obtain⟨g',o',e',_,ao5⟩:=hp.at_ (j:=4) (by simp)
 simp only[bC,Addr.mk.injEq,and_true] at e';obtain⟨rfl,rfl⟩:=e';obtain⟨g',o',e',_,ao6⟩:=hp.at_ (j:=5) (by simp)
 simp only[bC,Addr.mk.injEq,and_true] at e';obtain⟨rfl,rfl⟩:=e';obtain⟨g',o',e',_,ao7⟩:=hp.at_ (j:=6) (by simp)
 simp only[bC,Addr.mk.injEq,and_true] at e';obtain⟨rfl,rfl⟩:=e';simp only[aP,bf,List.getElem_cons_zero,List.getElem_cons_succ,Nat.add_zero] at hn qZ rf pU Dw ao5 ao6 ao7 |-;have Xo:=aB qZ;have CN1:=aB rf;have CN2:=aB pU;have CN3:=aB Dw;have CN4:=aB ao5;have CN5:=aB ao6;have CN6:=aB ao7;have FOQ:=fun w=>aB (fF 6 81 8 w aw5)
 have efQ:oO 6=414:=rfl;rw[efQ] at FOQ;have ZJ:=fun w=>aB (fF 4 87 4 w aw4)
 have efW:oO 4=414:=rfl;rw[efW] at ZJ;have bg1:∀args w,(callFunc 414 args).run Tryz.prog w=.ok (.enter 414 args) w:=fun _ _=>rfl
 have Nu:Hid (g_ xa xb xc xd xe xf xg 0++(iZ 4 xa)=g_ xa xb xc xd xe xf xg 1):=aB rfl;have AU:Hid (g_ xa xb xc xd xe xf xg 1++(iZ 4 xb)=g_ xa xb xc xd xe xf xg 2):=aB rfl;have xu:Hid (g_ xa xb xc xd xe xf xg 2++(iZ 4 xc)=g_ xa xb xc xd xe xf xg 3):=aB rfl;have ZF:Hid (g_ xa xb xc xd xe xf xg 3++(iZ 4 xd)=g_ xa xb xc xd xe xf xg 4):=aB rfl;have HO5:Hid (g_ xa xb xc xd xe xf xg 4++(iZ 8 xe)=g_ xa xb xc xd xe xf xg 5):=aB rfl;have HO6:Hid (g_ xa xb xc xd xe xf xg 5++(iZ 8 xf)=g_ xa xb xc xd xe xf xg 6):=aB rfl;have HO7:Hid (g_ xa xb xc xd xe xf xg 6++(iZ 8 xg)=g_ xa xb xc xd xe xf xg 7):=aB rfl;have vC:=aB (GI xa xb xc xd xe xf xg);have D0:Hid (xa / 4294967296=0):=aB ae
 have D1:Hid (xb / 4294967296=0):=aB ae
 have D2:Hid (xc / 4294967296=0):=aB ae
 have D3:Hid (xd / 4294967296=0):=aB ae
 clear hr hp efQ efW qZ rf pU Dw ao5 ao6 ao7
 go_enter Tryz.func147,Tryz.ntmps147
 go_wp2_with fail;refine(KZ w).mono ?_
 rintro e w1 ⟨rfl,hb1⟩;have hz1:=hb1.size
 go_wp2_with fail;obtain⟨g,hg⟩:∃g,w1.heap.size=g:=⟨_,rfl⟩;have W0:=aB (Wr.new 332 w1 w.heap.size hz1);have hb2:Below w.heap.size w (w1.alloc (.cells #[.slice none 0 0] 332)):=bw;rw[hg] at W0 |-;generalize w1.alloc (.cells #[.slice none 0 0] 332)=w2 at *;clear hg
 go_loopg [25] 7 (fun q i wr=>∃j:Nat,q=7 - j/\j<=7/\i=.int .i64 j/\Hid (Wr 332 w.heap.size wr g (g_ xa xb xc xd xe xf xg j))/\Below w.heap.size w wr)
 case atStart=>exact⟨0,rfl,ae,rfl,W0,hb2⟩
 case round=>
  obtain⟨j,hq,hj,rfl,hw,hb⟩:=hrel;have HQ:=aB hq;have hz:=hb.size;clear hq
  rcases(show j=0\/j=1\/j=2\/j=3\/j=4\/j=5\/j=6\/j=7 by omega) with rfl|rfl|rfl|rfl|rfl|rfl|rfl|rfl
  ·have CQ:=(hb.cell (p:=⟨gn,on,none⟩) hgn).trans Xo.out
   have dq1:=D0.out;have dq2:IntKind.i64.wrap 32=32:=rfl
   go_wp2_with (first
    | (go_at_call 248;refine((ZJ _).out).mono ?_;rintro e w3 ⟨rfl,hb3⟩;have hz3:=hb3.size)
    | (go_at_fn 414;refine((lI g w.heap.size 4 xa (g_ xa xb xc xd xe xf xg 0) _ ((hw.out.keep hb3).keep ((aH _ _).alloc (aK _) _)) xa0 ae  ae (by have:=vC.out 0;omega)).mono ?_);rintro e w4 ⟨rfl,k1,k2⟩;have mG:=k2.size;rw[Nu.out] at k1;have K1:=aB k1;clear k1))
   go_roundg 6
   case measure=>have:=HQ.out;omega
   case rel=>exact⟨1,rfl,ae,ai,K1,bw⟩
  ·have CQ:=(hb.cell (p:=⟨gn,on+1,none⟩) hgn).trans CN1.out
   have dq1:=D1.out;have dq2:IntKind.i64.wrap 32=32:=rfl
   go_wp2_with (first
    | (go_at_call 248;refine((ZJ _).out).mono ?_;rintro e w3 ⟨rfl,hb3⟩;have hz3:=hb3.size)
    | (go_at_fn 414;refine((lI g w.heap.size 4 xb (g_ xa xb xc xd xe xf xg 1) _ ((hw.out.keep hb3).keep ((aH _ _).alloc (aK _) _)) xb0 ae  ae (by have:=vC.out 1;omega)).mono ?_);rintro e w4 ⟨rfl,k1,k2⟩;have mG:=k2.size;rw[AU.out] at k1;have K1:=aB k1;clear k1))
   go_roundg 5
   case measure=>have:=HQ.out;omega
   case rel=>exact⟨2,rfl,ae,ai,K1,bw⟩
  ·have CQ:=(hb.cell (p:=⟨gn,on+2,none⟩) hgn).trans CN2.out
   have dq1:=D2.out;have dq2:IntKind.i64.wrap 32=32:=rfl
   go_wp2_with (first
    | (go_at_call 248;refine((ZJ _).out).mono ?_;rintro e w3 ⟨rfl,hb3⟩;have hz3:=hb3.size)
    | (go_at_fn 414;refine((lI g w.heap.size 4 xc (g_ xa xb xc xd xe xf xg 2) _ ((hw.out.keep hb3).keep ((aH _ _).alloc (aK _) _)) xc0 ae  ae (by have:=vC.out 2;omega)).mono ?_);rintro e w4 ⟨rfl,k1,k2⟩;have mG:=k2.size;rw[xu.out] at k1;have K1:=aB k1;clear k1))
   go_roundg 4
   case measure=>have:=HQ.out;omega
   case rel=>exact⟨3,rfl,ae,ai,K1,bw⟩
  ·have CQ:=(hb.cell (p:=⟨gn,on+3,none⟩) hgn).trans CN3.out
   have dq1:=D3.out;have dq2:IntKind.i64.wrap 32=32:=rfl
   go_wp2_with (first
    | (go_at_call 248;refine((ZJ _).out).mono ?_;rintro e w3 ⟨rfl,hb3⟩;have hz3:=hb3.size)
    | (go_at_fn 414;refine((lI g w.heap.size 4 xd (g_ xa xb xc xd xe xf xg 3) _ ((hw.out.keep hb3).keep ((aH _ _).alloc (aK _) _)) xd0 ae  ae (by have:=vC.out 3;omega)).mono ?_);rintro e w4 ⟨rfl,k1,k2⟩;have mG:=k2.size;rw[ZF.out] at k1;have K1:=aB k1;clear k1))
   go_roundg 3
   case measure=>have:=HQ.out;omega
   case rel=>exact⟨4,rfl,ae,ai,K1,bw⟩
  ·have CQ:=(hb.cell (p:=⟨gn,on+4,none⟩) hgn).trans CN4.out
   go_wp2_with (first
    | (go_at_call 248;refine((FOQ _).out).mono ?_;rintro e w3 ⟨rfl,hb3⟩;have hz3:=hb3.size)
    | (go_at_fn 414;refine((lI g w.heap.size 8 xe (g_ xa xb xc xd xe xf xg 4) _ ((hw.out.keep hb3).keep ((aH _ _).alloc (aK _) _)) xe0 ae  ae (by have:=vC.out 4;omega)).mono ?_);rintro e w4 ⟨rfl,k1,k2⟩;have mG:=k2.size;rw[HO5.out] at k1;have K1:=aB k1;clear k1))
   go_roundg 2
   case measure=>have:=HQ.out;omega
   case rel=>exact⟨5,rfl,ae,ai,K1,bw⟩
  ·have CQ:=(hb.cell (p:=⟨gn,on+5,none⟩) hgn).trans CN5.out
   go_wp2_with (first
    | (go_at_call 248;refine((FOQ _).out).mono ?_;rintro e w3 ⟨rfl,hb3⟩;have hz3:=hb3.size)
    | (go_at_fn 414;refine((lI g w.heap.size 8 xf (g_ xa xb xc xd xe xf xg 5) _ ((hw.out.keep hb3).keep ((aH _ _).alloc (aK _) _)) xf0 ae  ae (by have:=vC.out 5;omega)).mono ?_);rintro e w4 ⟨rfl,k1,k2⟩;have mG:=k2.size;rw[HO6.out] at k1;have K1:=aB k1;clear k1))
   go_roundg 1
   case measure=>have:=HQ.out;omega
   case rel=>exact⟨6,rfl,ae,ai,K1,bw⟩
  ·have CQ:=(hb.cell (p:=⟨gn,on+6,none⟩) hgn).trans CN6.out
   go_wp2_with (first
    | (go_at_call 248;refine((FOQ _).out).mono ?_;rintro e w3 ⟨rfl,hb3⟩;have hz3:=hb3.size)
    | (go_at_fn 414;refine((lI g w.heap.size 8 xg (g_ xa xb xc xd xe xf xg 6) _ ((hw.out.keep hb3).keep ((aH _ _).alloc (aK _) _)) xg0 ae  ae (by have:=vC.out 6;omega)).mono ?_);rintro e w4 ⟨rfl,k1,k2⟩;have mG:=k2.size;rw[HO7.out] at k1;have K1:=aB k1;clear k1))
   go_roundg 0
   case measure=>have:=HQ.out;omega
   case rel=>exact⟨7,rfl,ae,ai,K1,bw⟩
  ·obtain⟨hbg,v,hB,hO⟩:=hw.out
   have c0:=hB.cell 0;simp only[aF,aC] at c0;have HO:=aB hO;clear hB hO
   go_wp2_with fail
   go_ret2
   exact⟨v,rfl,HO.out,hb⟩
end Go.Proofs.YtkiebccnpheloaaGreat.D
