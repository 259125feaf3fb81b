/- Parts of a proof. No condition. -/
import Derived.Test.YtilcnjbpmoijmaaGreatPw29
set_option maxRecDepth 100000
set_option maxHeartbeats 16000000
set_option linter.unusedVariables false
set_option linter.unusedSimpArgs false
namespace Go.Proofs.YtilcnjbpmoijmaaGreat.D
open Tryz
open Go.RowKit Go.Lib
theorem qM.first{w w1:World}{g:Nat}{bs:List Int}{a:Nat}{v:Value}{e:Ending}{w':World}(hb:Below w.heap.size w w1)(h:qM w1 g bs a v e w'):qM w g bs a v e w':=⟨h.1,h.2.1,Rw hb h.2.2⟩
theorem wV(k K:Nat)(c sz:Int)(g:Nat)(bs:List Int)(a b:Nat)(n:Int)(w:World)(h:dU w g bs a)(hv:FL k c sz)(hK:Aq k=K)
 (eg:∀args w,(callFunc K args).run prog w=.ok (.enter K args) w)
 (hf:∀w,dU w g bs a->Calls prog K #[.pointer (some ⟨g,0,none⟩),.int .i64 sz] w (qM w g bs b (.tuple #[.int .u64 n,.int .i64 0]))) :
 aH 267 #[.pointer (some ⟨g,0,none⟩),.int .u8 c] w (qM w g bs b (.tuple #[.int .u64 n,.int .i64 0])):=by
 have H:=aI h;have HF:=aI hf;have FO:Hid (aH 236 #[.int .u8 c] w fun e w'=>e=.returned (.tuple #[.agg #[.int .u8 c,.int .i64 sz,.func (.func (sF k)) #[] #[],.func (.func K) #[] #[]],.bool true])/\Below w.heap.size w w'):=by
  rw[<-hK];exact aI (jb k c sz w hv)
 clear h hf hK hv
 go_enter func267,ntmps267
 go_wp2_with fail;refine(FO.o).mono ?_
 rintro e w1 ⟨rfl,hb1⟩;have hz1:=hb1.size;have hb2:∀cs,Below w.heap.size w (w1.alloc (.cells cs 329)):=fun cs=>bw
 go_wp2_with (go_at_fn K;refine(HF.o _ (H.o.keep (hb2 _))).mono ?_)
 rintro e w2 hg;have HG:=aI (qM.first (hb2 _) hg);obtain⟨rfl,_,_⟩:=hg
 go_wp2_with fail
 go_ret2
 exact HG.o
section
variable {g a : Nat} {bs r : List Int} {n : Int} {w : World}
theorem wW(w:World)(h:dU w g bs a)(hlen:bs.length<=1000000000000)(hd:bs.drop a=iQ 4 n++r)(n0:0<=n)(n1:n<4294967296) :
 aH 267 #[.pointer (some ⟨g,0,none⟩),.int .u8 87] w (qM w g bs (a+4) (.tuple #[.int .u64 n,.int .i64 0])):=
 wV 4 370 87 4 g bs a (a+4) n w h bc9 rfl (fun _ _=>rfl) (fun w h=>Jq 4 w h hlen hd ae n0 ae (by show n / 4294967296=0;omega))
theorem BC(w:World)(h:dU w g bs a)(hlen:bs.length<=1000000000000)(hd:bs.drop a=iQ 8 n++r)(n0:0<=n)(n1:n<18446744073709551616) :
 aH 267 #[.pointer (some ⟨g,0,none⟩),.int .u8 81] w (qM w g bs (a+8) (.tuple #[.int .u64 n,.int .i64 0])):=
 wV 6 370 81 8 g bs a (a+8) n w h bd0 rfl (fun _ _=>rfl) (fun w h=>Jq 8 w h hlen hd ae n0 ae (by show n / 18446744073709551616=0;omega))
theorem XH(w:World)(h:dU w g bs a)(hlen:bs.length<=1000000000000)(hd:bs.drop a=n::r)(n0:0<=n)(n1:n<256) :
 aH 267 #[.pointer (some ⟨g,0,none⟩),.int .u8 98] w (qM w g bs (a+1) (.tuple #[.int .u64 n,.int .i64 0])):=
 wV 0 368 98 1 g bs a (a+1) n w h bc8 rfl (fun _ _=>rfl) (fun w h=>Xw w h hlen hd n0 n1)
theorem bx4:FL 9 110 0:=Jp 9 110 0 af
theorem XI{x:Int}(w:World)(h:dU w g bs a)(hlen:bs.length<=1000000000000)(hd:bs.drop a=nn x++r)(x0:-9223372036854775808<=x)(x1:x<=9223372036854775807) :
 aH 267 #[.pointer (some ⟨g,0,none⟩),.int .u8 110] w (qM w g bs (a+(nn x).length) (.tuple #[.int .u64 (ub x),.int .i64 0])):=
 wV 9 376 110 0 g bs a _ (ub x) w h bx4 rfl (fun _ _=>rfl) (fun w h=>Xx 0 w h hlen hd x0 x1)
end
theorem be8{w w':World}{g:Nat}{bs:List Int}{a:Nat}{u:Value}{l:List Int}(h:dU w g bs a)(ho:dL QE (g+1) w u l)(hg:w.grownBy w' u.ownBlock):dU w' g bs a:=by
 obtain⟨v,h1,h2,h3⟩:=h;refine⟨v,fH h1 ho af hg,?_,h3⟩
 exact dX.2 ((dX.1 h2).grown hg (j_ (dX.1 h2) ho af))
theorem Vw(p:ByteArray)(bs N:List Int)(off:Nat->Nat)(v:Value)(w:World)(h:iY .u8 w v bs)(hlen:bs.length<=1000000000000)
 (hr:∀w,aH 235 #[.string p] w fun e w'=>e=.returned (.bool true)/\Below w.heap.size w w') (hsz:p.size=N.length) (hN:N.length<=64) (h0:off 0=0) (hof:∀j,j<=N.length->off j<=1000000000000)
 (hnx:∀(j:Nat) (h:j<N.length) (h':j<p.size) (g:Nat) (w1:World),dU w1 g bs (off j)->aH 267 #[.pointer (some ⟨g,0,none⟩),.int .u8 ((p[j]'h').toNat:Int)] w1 (qM w1 g bs (off (j+1)) (.tuple #[.int .u64 N[j],.int .i64 0]))) :
 aH 201 #[.string p,v] w fun e w'=>∃v',e=.returned (.tuple #[v',.int .i64 (off N.length),.int .i64 0])/\dL QE w.heap.size w' v' N/\Below w.heap.size w w':=by
 have CR:=aI (hr w);have CN:Hid (∀w1,Below w.heap.size w w1->_):=aI (fun w1 hb=>uV v bs w1 (h.keep hb) hlen)
 have HN:=aI hnx;clear hr h hnx
 go_enter func201,ntmps201
 go_wp2_with fail;refine(CR.o).mono ?_
 rintro e w1 ⟨rfl,hb1⟩
 go_wp2_with fail;refine(CN.o w1 hb1).mono ?_
 rintro e w2 ⟨g,rfl,hg,hrd,hb2⟩;have hgw:w.heap.size<=g:=bJ hb1.size hg;have hbw:=hb1.trans (hb2.mono hb1.size);rw[<-h0] at hrd;have HR0:=aI hrd;clear hrd hg hb2
 go_wp2_with fail
 go_loopg [9,22] N.length (fun q l i wr=>∃j:Nat,q=N.length - j/\j<=N.length/\i=.int .i64 j/\Hid (dL QE (g+1) wr l (N.take j))/\Hid (dU wr g bs (off j))/\Below w.heap.size w wr)
 case atStart=>exact⟨0,rfl,ae,rfl,aI (dL.nil_ _ _),HR0,hbw⟩
 case round=>
  obtain⟨j,hq,hj,rfl,HO,HR,hb⟩:=hrel;have HQ:=aI hq;clear hq
  by_cases hlt:j<N.length
  ·have hjp:j<p.size:=ae
   have hji:(j:Int)<(p.size:Int):=ae
   have CX:=aI (HN.o j hlt hjp g wr HR.o);obtain⟨A5,c5,ev5,_,_,_⟩:=HO.o.form;obtain⟨n5,hn5⟩:∃z,(N.take j).length=z:=⟨_,rfl⟩;rw[hn5] at ev5;subst ev5;have hlen5:(N.take j).length+1<=1099511627776:=by rw[bG];omega
   clear hn5
   go_wp2_with fail;refine(CX.o).mono ?_
   rintro e w3 ⟨rfl,hr3,ht3⟩;have O3:Hid (dL QE (g+1) w3 (.slice A5 n5 c5) (N.take j)):=aI (HO.o.stay (fun k hk=>ht3.block k (HO.o.lt k hk).2 (fun e=>by have:=(HO.o.lt k hk).1;omega)))
   have R3:=aI hr3;have hb3:Below w.heap.size w w3:=hb.trans (ht3.below (fun k hk=>by omega) hb.size)
   have hz3:g+1<=w3.heap.size:=by have:=hr3.lt;omega
   have rZ:Hid (N.take (j+1)=N.take j++[N[j]]):=aI (bg hlt);obtain⟨y,hy⟩:=aF (N[j]);rw[hy] at rZ |-;clear hr3 ht3 CX hy
   go_wp2_with (at_builtin;go_must (refine uk aq3 rfl (.tmp 36) (.tmp 38) rfl (O3.o.alloc _) rfl _ [y] rfl (iM.fK (E:=QE) _ y _ rfl _ rfl _ ag) hlen5 (by simp only[aV];omega) ?_);intro v6 w6 o6 g6 _;have O6:=aI o6;have hb6:Below w.heap.size w w6:=(hb3.alloc hb3.size (.cells #[.int .u64 y] 46)).grown g6 (by simp only[aV];have:=hb3.size;omega) (fun k hk=>by have:=(O3.o.lt k hk).1;omega);have R6:Hid (dU w6 g bs (off (j+1))):=aI (be8 (R3.o.keep ((aO _ _).alloc (aS _) (.cells #[.int .u64 y] 46))) (O3.o.alloc (.cells #[.int .u64 y] 46)) g6);clear o6 g6)
   go_roundg (N.length - (j+1))
   case measure=>have:=HQ.o;omega
   case rel=>exact⟨j+1,rfl,ae,ai,by rw[rZ.o];exact O6,R6,hb6⟩
  ·obtain rfl:j=N.length:=ae
   have hO9:=HO.o;rw[bP (aS _)] at hO9;have Zv:=aI hO9;have CA:=aI (yY g bs (off N.length) wr HR.o);clear hO9 HO
   go_wp2_with fail;refine(CA.o).mono ?_
   rintro e w' ⟨rfl,rfl⟩
   go_wp2_with fail;refine bodyPost_ret (by simp[results,Tryz.results201,go_sem, *];try rfl) rfl ?_
   exact⟨_,rfl,Zv.o.more ae,hb⟩
open Tryz
open Go.RowKit Go.Lib
theorem XJ(g base:Nat)(n:Int)(bs:List Int)(w:World)(h:Wr 325 base w g bs)(n0:0<=n)(n1:n<256)(hl:bs.length<=1000000000000) :
 aH 367 #[.pointer (some ⟨g,0,none⟩),.int .u64 n,.int .i64 1] w fun e w'=>e=.returned (.tuple #[])/\Wr 325 base w' g (bs++[n])/\Below base w w':=by
 have H:=aI h;have hlt:=h.lt;clear h;have eb:IntKind.u8.wrap n=n:=by rw[show IntKind.u8.wrap n=n % 256 from rfl];omega
 have EB:=aI eb;clear eb
 go_enter func367,ntmps367
 go_wp2_with fail
 go_loopg [8] 1 (fun q i wr=>∃j:Nat,q=1 - j/\j<=1/\i=.int .i64 j/\Hid (Wr 325 base wr g (bs++[n].take j))/\Below base w wr)
 case atStart=>exact⟨0,rfl,ae,rfl,by rw[List.take_zero,List.append_nil];exact H,aO _ _⟩
 case round=>
  obtain⟨j,hq,hj,rfl,hw,hb⟩:=hrel;have HQ:=aI hq;have hz:=hb.size;clear hq
  by_cases hlj:j<1
  ·obtain rfl:j=0:=ae
   rw[List.take_zero,List.append_nil] at hw;obtain⟨hbg,v,hB,hO⟩:=hw.o;have HB:=aI hB;have HO:=aI hO;have hlen:bs.length+1<=1099511627776:=ae
   clear hB hO;have Bd:dK wr.drew g 325 #[v]:=HB.o.drew;obtain⟨A0,k0,hv0,_,_,_⟩:=(dP.rd HO.o).form;obtain⟨N0,hN0⟩:∃N,bs.length=N:=⟨_,rfl⟩;rw[hN0] at hv0;subst hv0;have Vm:=aI hN0;clear hN0;have HBa:Hid (dK (wr.alloc (.cells #[.int .u8 n] 5)).drew g 325 #[.slice A0 N0 k0]):=aI (HB.o.alloc _).drew;have HOa:Hid (dL bE base (wr.alloc (.cells #[.int .u8 n] 5)).drew (.slice A0 N0 k0) bs):=aI (dL.alloc (dX.1 HO.o) _).drew;have hba:Below base w (wr.alloc (.cells #[.int .u8 n] 5)).drew:=(hb.alloc ae _).drew
   have eb:=EB.o;have e0:IntKind.i64.wrap 0=0:=rfl
   go_upto_region 3 with fail;refine qm (fun w'=>dK w' g 325 #[.slice A0 N0 k0]) 12 (dV 0 10 (fJ 10 (fJ 11 []))) (Bd) ?_
   iterate 10 refine mr (h:=fun w' hS'=>by have c0:=dK.cell hS' 0;simp only[aK,aJ] at c0;have e0':=e0;go_simp;exact⟨rfl,rfl⟩) ?_
   refine yU fun K hK=>?_
   go_simp;refine hK _ _ (Bd.alloc _) ?_
   clear hK K;refine yU fun K hK=>?_
   refine Rn Ak (.tmp 15) (.tmp 21) rfl HOa.o rfl _ [n] rfl (dL.one (E:=bE) wr.drew n _ rfl _ rfl).rd hlen aj ?_
   intro v1 w1 o1 g1 _;have B1:=fH HBa.o HOa.o af g1
   have hb1:Below base w w1:=hba.grown g1 (by have:=hba.size;omega) (fun k hk=>(dL.lt HOa.o k hk).1)
   have P1:=aI (ve (i:=0) HBa.o HOa.o af g1 o1)
   obtain⟨A1,c1,ev1,_,_,_⟩:=o1.form;obtain⟨N1,hN1⟩:∃N,(bs++[n]).length=N:=⟨_,rfl⟩;rw[hN1] at ev1;subst ev1;clear hN1 o1 g1;refine hK _ _ (B1) ?_
   clear hK K;refine d_ ?_
   simp only[bT,cO];have c0:=B1.cell 0;have f0:=B1.frozen 0;simp only[aK,aJ] at c0
   go_wp2_with fail;refine dR ?_
   go_wp2_with fail
   go_roundg 0
   case measure=>have:=HQ.o;omega
   case rel=>exact⟨1,rfl,ae,ai,aI ⟨hbg,_,P1.o.1,dX.2 P1.o.2⟩,hb1.setCell ae _⟩
  ·obtain rfl:j=1:=ae
   have Vo:=hw
   go_wp2_with fail;refine bodyPost_end (v:=.tuple #[]) (by simp[results,Tryz.results367,go_sem, *];try rfl) rfl ?_
   exact⟨rfl,Vo.o,hb⟩
theorem XK(g base:Nat)(v s:Int)(bs:List Int)(w:World)(h:Wr 325 base w g bs)(h0:-9223372036854775808<=v)(h1:v<=9223372036854775807)(hl:bs.length<=1000000000000) :
 aH 375 #[.pointer (some ⟨g,0,none⟩),.int .u64 (ub v),.int .i64 s] w fun e w'=>e=.returned (.tuple #[])/\Wr 325 base w' g (bs++nn v)/\Below base w w':=by
 have H:=aI h;have hlt:=h.lt;have ew:=qB h0 h1;have sb:=jl h0 h1;have CS:=aI (Nu v w h0 h1);clear h;have HZ:Hid (nn v=jA 8 (qA v)):=aI rfl;rw[HZ.o];generalize qA v=z at *;generalize ub v=u at *
 go_enter func375,ntmps375
 go_wp2_with fail;refine(CS.o).mono ?_
 rintro e w' ⟨rfl,rfl⟩;have EWH:=aI ew;clear ew
 go_wp2_with fail
 go_loopg [1,9] 8 (fun k x i wr=>∃(m:Int) (acc:List Int) (j:Nat),k+j=8/\i=.int .i64 j/\x=.int .u64 m/\0<=m/\m<256 * 128 ^ k/\acc.length<=8 - k/\Hid (acc++jA k m=jA 8 z)/\Hid (Wr 325 base wr g (bs++acc))/\Below base w wr)
 case atStart=>exact⟨z,[],0,ae,rfl,rfl,sb.1,ae,ag,aI rfl,by rw[List.append_nil];exact H,aO _ _⟩
 case round=>
  obtain⟨m,acc,j,hkj,rfl,rfl,m0,m1,ha,he,hw,hb⟩:=hrel;obtain⟨hbg,v1,hB,hO⟩:=hw.o;have HB:=aI hB;have HO:=aI hO;have c0:=hB.cell 0;have f0:=hB.frozen 0;have hlg:=hB.lt;have hz:=hb.size;simp only[aK,aJ] at c0;have hlen:(bs++acc).length+1<=1099511627776:=by rw[aQ];omega
  obtain⟨A0,k0,hv0,_,_,_⟩:=(dP.rd HO.o).form;obtain⟨N0,hN0⟩:∃N,(bs++acc).length=N:=⟨_,rfl⟩;rw[hN0] at hv0;subst hv0;have YQ:=aI (dX.1 HO.o);clear hB hO hN0;have OZ:Hid (∀(y:Int) (v2:Value) (w2:World),dL bE base w2 v2 (bs++acc++[y])->(wr.alloc (.cells #[.int .u8 y] 5)).grownBy w2 (Value.slice A0 N0 k0).ownBlock->dK w2 g 325 #[.slice A0 N0 k0]/\Wr 325 base (w2.setCell ⟨g,0,none⟩ v2) g (bs++acc++[y])/\Below base w w2):=aI (fun y v2 w2 o2 g2=>by
   have P:=ve (i:=0) (HB.o.alloc _) (YQ.o.alloc _) af g2 o2
   exact⟨fH (HB.o.alloc _) (YQ.o.alloc _) af g2,⟨hbg,_,P.1,dX.2 P.2⟩,(hb.alloc ae _).grown g2 (by simp only[aV];omega) (fun k hk=>(YQ.o.lt k hk).1)⟩)
  by_cases hk:gk=0
  ·subst hk
   obtain rfl:j=8:=ae
   have hm8:m % 256=m:=by simp at m1;omega
   have EB:IntKind.u8.wrap m=m:=hm8
   go_wp2_with (at_builtin;refine uk Ak rfl (.tmp 43) (.tmp 46) rfl (YQ.o.alloc _) rfl _ [m] rfl (iM.fK (E:=bE) _ m _ rfl _ rfl _ ag) hlen aj ?_;intro v2 w2 o2 g2 _;obtain⟨A2,c2,YP,_,_,_⟩:=o2.form;obtain⟨N2,hN2⟩:∃N,(bs++acc++[m]).length=N:=⟨_,rfl⟩;rw[hN2] at YP;subst YP;clear hN2;obtain⟨B2,W2,hb2⟩:=OZ.o m _ w2 o2 g2;have W2:=aI W2;have c0:=B2.cell 0;have f0:=B2.frozen 0;simp only[aK,aJ] at c0;clear o2 g2)
   refine bodyPost_end (v:=.tuple #[]) (by simp[results,Tryz.results375,go_sem, *];try rfl) rfl ?_
   exact⟨rfl,by rw[<-he.o,<-aX];exact W2.o,hb2.setCell ae _⟩
  ·obtain⟨q,rfl⟩:∃q,gk=q+1:=⟨gk - 1,ae⟩
   have hj8:(j:Int)<8:=ae
   by_cases hm:127<m
   ·have hE:=aI (oU q m hm)
    have hd:m / 128<256 * 128 ^ q:=Int.ediv_lt_of_lt_mul ae (by rw[bU,<-Int.pow_succ];exact m1)
    have o8:=aw3 (m % 256) ae  ae
    have e2:m % 256 % 128+128=m % 128+128:=ae
    have hcm:¬m<=127:=ae
    have o8':bits .or .u8 (IntKind.u8.wrap m) 128=m % 128+128:=by rw[show IntKind.u8.wrap m=m % 256 from rfl,o8,e2]
    go_wp2_with (at_builtin;refine uk Ak rfl (.tmp 28) (.tmp 32) rfl (YQ.o.alloc _) rfl _ [m % 128+128] rfl (iM.fK (E:=bE) _ (m % 128+128) _ rfl _ rfl _ ag) hlen aj ?_;intro v2 w2 o2 g2 _;obtain⟨A2,c2,YP,_,_,_⟩:=o2.form;obtain⟨N2,hN2⟩:∃N,(bs++acc++[m % 128+128]).length=N:=⟨_,rfl⟩;rw[hN2] at YP;subst YP;clear hN2;obtain⟨B2,W2,hb2⟩:=OZ.o (m % 128+128) _ w2 o2 g2;have W2:=aI W2;have c0:=B2.cell 0;have f0:=B2.frozen 0;simp only[aK,aJ] at c0;clear o2 g2)
    go_roundg q
    case measure=>omega
    case rel=>exact⟨m / 128,acc++[m % 128+128],j+1,ae,ai,rfl,ae,hd,ah,by show _=_;rw[aX,<-he.o,hE.o];rfl,by rw[<-aX];exact W2,hb2.setCell ae _⟩
   ·have hE:=aI (oV (q+1) m hm)
    have hm8:m % 256=m:=ae
    have EB:IntKind.u8.wrap m=m:=hm8;have hcm:m<=127:=ae
    go_wp2_with (at_builtin;refine uk Ak rfl (.tmp 17) (.tmp 20) rfl (YQ.o.alloc _) rfl _ [m] rfl (iM.fK (E:=bE) _ m _ rfl _ rfl _ ag) hlen aj ?_;intro v2 w2 o2 g2 _;obtain⟨A2,c2,YP,_,_,_⟩:=o2.form;obtain⟨N2,hN2⟩:∃N,(bs++acc++[m]).length=N:=⟨_,rfl⟩;rw[hN2] at YP;subst YP;clear hN2;obtain⟨B2,W2,hb2⟩:=OZ.o m _ w2 o2 g2;have W2:=aI W2;have c0:=B2.cell 0;have f0:=B2.frozen 0;simp only[aK,aJ] at c0;clear o2 g2)
    refine bodyPost_ret (results_none rfl _ _ _) rfl ?_
    exact⟨rfl,by rw[<-he.o,hE.o,<-aX];exact W2.o,hb2.setCell ae _⟩
open Tryz
open Go.RowKit Go.Lib
theorem ad7(x:Int)(v:Value)(w:World)(hr:iY .u64 w v [ub x])(h0:-9223372036854775808<=x)(h1:x<=9223372036854775807) :
 aH 164 #[.string ⟨#[110]⟩,v] w fun e w'=>∃v,e=.returned (.tuple #[v,.int .i64 0])/\OwnB w.heap.size w' v (nn x)/\Below w.heap.size w w':=
 put_any 9 375 110 (ub x) (nn x) v w bx2 hr (Fz x).1 (Fz x).2 rfl (fun _ _=>rfl) (fun g base w h=>XK g base x 0 [] w h h0 h1 ag)
theorem Dq(w:World):aH 235 #[.string ⟨#[118,118,118,98]⟩] w (aG w (.bool true)):=by
 have FOb:=fun w=>aI (jb 0 98 1 w bc8)
 have FOv:=fun w=>aI (jb 7 118 0 w bm9)
 go_enter func235,ntmps235
 go_wp2_with fail
 go_loopg [11] 4 (fun q i wr=>∃j:Nat,q=4 - j/\j<=4/\i=.int .i64 j/\Below w.heap.size w wr)
 case atStart=>exact⟨0,rfl,ae,rfl,aO _ _⟩
 case round=>
  obtain⟨j,hq,hj,rfl,hb⟩:=hrel;have HQ:=aI hq;have hz:=hb.size;clear hq
  rcases(show j=0\/j=1\/j=2\/j=3\/j=4 by omega) with rfl|rfl|rfl|rfl|rfl
  ·go_wp2_with (go_at_call 236;refine((FOv _).o).mono ?_;rintro e w1 ⟨rfl,hb1⟩;have hz1:=hb1.size)
   go_roundg 3
   case measure=>have:=HQ.o;omega
   case rel=>exact⟨1,rfl,ae,ai,bw⟩
  ·go_wp2_with (go_at_call 236;refine((FOv _).o).mono ?_;rintro e w1 ⟨rfl,hb1⟩;have hz1:=hb1.size)
   go_roundg 2
   case measure=>have:=HQ.o;omega
   case rel=>exact⟨2,rfl,ae,ai,bw⟩
  ·go_wp2_with (go_at_call 236;refine((FOv _).o).mono ?_;rintro e w1 ⟨rfl,hb1⟩;have hz1:=hb1.size)
   go_roundg 1
   case measure=>have:=HQ.o;omega
   case rel=>exact⟨3,rfl,ae,ai,bw⟩
  ·go_wp2_with (go_at_call 236;refine((FOb _).o).mono ?_;rintro e w1 ⟨rfl,hb1⟩;have hz1:=hb1.size)
   go_roundg 0
   case measure=>have:=HQ.o;omega
   case rel=>exact⟨4,rfl,ae,ai,bw⟩
  ·go_wp2_with fail
   go_ret;exact⟨rfl,hb⟩
def fE(a b c d:Int):Nat->List Int
 | 0=>[]
 | 1=>eG a
 | 2=>eG a++eG b
 | 3=>eG a++eG b++eG c
 | _=>eG a++eG b++eG c++[d]
theorem rJ(a b c d:Int)(j:Nat):(fE a b c d j).length<=40:=by
 have ha:=dM a;have hb:=dM b;have hc:=dM c
 match j with
 | 0=>simp[fE]
 | 1=>simp only[fE,aQ,aU,bC];omega
 | 2=>simp only[fE,aQ,aU,bC];omega
 | 3=>simp only[fE,aQ,aU,bC];omega
 | n+4=>simp only[fE,aQ,aU,bC];omega
theorem XM(a b c d:Int)(v:Value)(w:World)(hr:iY .u64 w v [a,b,c,d])(a0:0<=a)(a1:a<18446744073709551616)(b0:0<=b)(b1:b<18446744073709551616)(c0:0<=c)(c1:c<18446744073709551616)(d0:0<=d)(d1:d<256) :
 aH 164 #[.string ⟨#[118,118,118,98]⟩,v] w fun e w'=>∃v,e=.returned (.tuple #[v,.int .i64 0])/\OwnB w.heap.size w' v (fE a b c d 4)/\Below w.heap.size w w':=by
 obtain⟨AA,cn,rfl,hn,hc,hp⟩:=hr.form;obtain⟨gn,on,rfl,hgn,Gm⟩:=hp.at_ (j:=0) (by simp)
 obtain⟨g',o',e',_,x9⟩:=hp.at_ (j:=1) (by simp)
 simp only[bH,Addr.mk.injEq,and_true] at e';obtain⟨rfl,rfl⟩:=e';obtain⟨g',o',e',_,vk⟩:=hp.at_ (j:=2) (by simp)
 simp only[bH,Addr.mk.injEq,and_true] at e';obtain⟨rfl,rfl⟩:=e';obtain⟨g',o',e',_,Gn⟩:=hp.at_ (j:=3) (by simp)
 simp only[bH,Addr.mk.injEq,and_true] at e';obtain⟨rfl,rfl⟩:=e';simp only[aU,bC,List.getElem_cons_zero,List.getElem_cons_succ,Nat.add_zero] at hn Gm x9 vk Gn |-;have CN0:=aI Gm;have CN1:=aI x9;have CN2:=aI vk;have CN3:=aI Gn;have FOb:=fun w=>aI (jb 0 98 1 w bc8)
 have efb:sF 0=367:=rfl;rw[efb] at FOb;have FOv:=fun w=>aI (jb 7 118 0 w bm9)
 have efv:sF 7=371:=rfl;rw[efv] at FOv;have cd9:∀args w,(callFunc 371 args).run prog w=.ok (.enter 371 args) w:=fun _ _=>rfl
 have ce0:∀args w,(callFunc 367 args).run prog w=.ok (.enter 367 args) w:=fun _ _=>rfl
 have HO1:Hid (fE a b c d 0++(eG a)=fE a b c d 1):=aI rfl;have RN:Hid (fE a b c d 1++(eG b)=fE a b c d 2):=aI rfl;have Kq:Hid (fE a b c d 2++(eG c)=fE a b c d 3):=aI rfl;have HO4:Hid (fE a b c d 3++[d]=fE a b c d 4):=aI rfl;have x_:=aI (rJ a b c d);have D3:Hid (d / 256=0):=aI ae
 clear hr hp efb efv Gm x9 vk Gn
 go_enter func164,ntmps164
 go_wp2_with fail;refine(Dq w).mono ?_
 rintro e w1 ⟨rfl,hb1⟩;have hz1:=hb1.size
 go_wp2_with fail;obtain⟨g,hg⟩:=aF (w1.heap.size);have W0:=aI (Wr.new 325 w1 w.heap.size hz1);have hb2:Below w.heap.size w (w1.alloc (.cells #[.slice none 0 0] 325)):=bw;rw[hg] at W0 |-;generalize w1.alloc (.cells #[.slice none 0 0] 325)=w2 at *;clear hg
 go_loopg [25] 4 (fun q i wr=>∃j:Nat,q=4 - j/\j<=4/\i=.int .i64 j/\Hid (Wr 325 w.heap.size wr g (fE a b c d j))/\Below w.heap.size w wr)
 case atStart=>exact⟨0,rfl,ae,rfl,W0,hb2⟩
 case round=>
  obtain⟨j,hq,hj,rfl,hw,hb⟩:=hrel;have HQ:=aI hq;have hz:=hb.size;clear hq
  rcases(show j=0\/j=1\/j=2\/j=3\/j=4 by omega) with rfl|rfl|rfl|rfl|rfl
  ·have Kt:=(hb.cell (p:=⟨gn,on,none⟩) hgn).trans CN0.o
   go_wp2_with (first
    | (go_at_call 236;refine((FOv _).o).mono ?_;rintro e w3 ⟨rfl,hb3⟩;have hz3:=hb3.size)
    | (go_at_fn 371;refine((pz g w.heap.size a 0 (fE a b c d 0) _ ((hw.o.keep hb3).keep ((aO _ _).alloc (aS _) _)) a0 a1 (by have:=x_.o 0;omega)).mono ?_);rintro e w4 ⟨rfl,k1,k2⟩;have oC:=k2.size;rw[HO1.o] at k1;have K1:=aI k1;clear k1))
   go_roundg 3
   case measure=>have:=HQ.o;omega
   case rel=>exact⟨1,rfl,ae,ai,K1,bw⟩
  ·have Kt:=(hb.cell (p:=⟨gn,on+1,none⟩) hgn).trans CN1.o
   go_wp2_with (first
    | (go_at_call 236;refine((FOv _).o).mono ?_;rintro e w3 ⟨rfl,hb3⟩;have hz3:=hb3.size)
    | (go_at_fn 371;refine((pz g w.heap.size b 0 (fE a b c d 1) _ ((hw.o.keep hb3).keep ((aO _ _).alloc (aS _) _)) b0 b1 (by have:=x_.o 1;omega)).mono ?_);rintro e w4 ⟨rfl,k1,k2⟩;have oC:=k2.size;rw[RN.o] at k1;have K1:=aI k1;clear k1))
   go_roundg 2
   case measure=>have:=HQ.o;omega
   case rel=>exact⟨2,rfl,ae,ai,K1,bw⟩
  ·have Kt:=(hb.cell (p:=⟨gn,on+2,none⟩) hgn).trans CN2.o
   go_wp2_with (first
    | (go_at_call 236;refine((FOv _).o).mono ?_;rintro e w3 ⟨rfl,hb3⟩;have hz3:=hb3.size)
    | (go_at_fn 371;refine((pz g w.heap.size c 0 (fE a b c d 2) _ ((hw.o.keep hb3).keep ((aO _ _).alloc (aS _) _)) c0 c1 (by have:=x_.o 2;omega)).mono ?_);rintro e w4 ⟨rfl,k1,k2⟩;have oC:=k2.size;rw[Kq.o] at k1;have K1:=aI k1;clear k1))
   go_roundg 1
   case measure=>have:=HQ.o;omega
   case rel=>exact⟨3,rfl,ae,ai,K1,bw⟩
  ·have Kt:=(hb.cell (p:=⟨gn,on+3,none⟩) hgn).trans CN3.o
   have dq1:=D3.o;have dq2:IntKind.i64.wrap 8=8:=rfl
   go_wp2_with (first
    | (go_at_call 236;refine((FOb _).o).mono ?_;rintro e w3 ⟨rfl,hb3⟩;have hz3:=hb3.size)
    | (go_at_fn 367;refine((XJ g w.heap.size d (fE a b c d 3) _ ((hw.o.keep hb3).keep ((aO _ _).alloc (aS _) _)) d0 d1 (by have:=x_.o 3;omega)).mono ?_);rintro e w4 ⟨rfl,k1,k2⟩;have oC:=k2.size;rw[HO4.o] at k1;have K1:=aI k1;clear k1))
   go_roundg 0
   case measure=>have:=HQ.o;omega
   case rel=>exact⟨4,rfl,ae,ai,K1,bw⟩
  ·obtain⟨hbg,v,hB,hO⟩:=hw.o
   have c0:=hB.cell 0;simp only[aK,aJ] at c0;have HO:=aI hO;clear hB hO
   go_wp2_with fail
   go_ret2
   exact⟨v,rfl,HO.o,hb⟩
open Tryz
open Go.RowKit Go.Lib
theorem Dt(w:World):aH 235 #[.string ⟨#[87,87,87,87,81,81,81]⟩] w (aG w (.bool true)):=by
 have FOQ:=fun w=>aI (jb 6 81 8 w bd0)
 have FOW:=fun w=>aI (jb 4 87 4 w bc9)
 go_enter func235,ntmps235
 go_wp2_with fail
 go_loopg [11] 7 (fun q i wr=>∃j:Nat,q=7 - j/\j<=7/\i=.int .i64 j/\Below w.heap.size w wr)
 case atStart=>exact⟨0,rfl,ae,rfl,aO _ _⟩
 case round=>
  obtain⟨j,hq,hj,rfl,hb⟩:=hrel;have HQ:=aI hq;have hz:=hb.size;clear hq
  rcases(show j=0\/j=1\/j=2\/j=3\/j=4\/j=5\/j=6\/j=7 by omega) with rfl|rfl|rfl|rfl|rfl|rfl|rfl|rfl
  ·go_wp2_with (go_at_call 236;refine((FOW _).o).mono ?_;rintro e w1 ⟨rfl,hb1⟩;have hz1:=hb1.size)
   go_roundg 6
   case measure=>have:=HQ.o;omega
   case rel=>exact⟨1,rfl,ae,ai,bw⟩
  ·go_wp2_with (go_at_call 236;refine((FOW _).o).mono ?_;rintro e w1 ⟨rfl,hb1⟩;have hz1:=hb1.size)
   go_roundg 5
   case measure=>have:=HQ.o;omega
   case rel=>exact⟨2,rfl,ae,ai,bw⟩
  ·go_wp2_with (go_at_call 236;refine((FOW _).o).mono ?_;rintro e w1 ⟨rfl,hb1⟩;have hz1:=hb1.size)
   go_roundg 4
   case measure=>have:=HQ.o;omega
   case rel=>exact⟨3,rfl,ae,ai,bw⟩
  ·go_wp2_with (go_at_call 236;refine((FOW _).o).mono ?_;rintro e w1 ⟨rfl,hb1⟩;have hz1:=hb1.size)
   go_roundg 3
   case measure=>have:=HQ.o;omega
   case rel=>exact⟨4,rfl,ae,ai,bw⟩
  ·go_wp2_with (go_at_call 236;refine((FOQ _).o).mono ?_;rintro e w1 ⟨rfl,hb1⟩;have hz1:=hb1.size)
   go_roundg 2
   case measure=>have:=HQ.o;omega
   case rel=>exact⟨5,rfl,ae,ai,bw⟩
  ·go_wp2_with (go_at_call 236;refine((FOQ _).o).mono ?_;rintro e w1 ⟨rfl,hb1⟩;have hz1:=hb1.size)
   go_roundg 1
   case measure=>have:=HQ.o;omega
   case rel=>exact⟨6,rfl,ae,ai,bw⟩
  ·go_wp2_with (go_at_call 236;refine((FOQ _).o).mono ?_;rintro e w1 ⟨rfl,hb1⟩;have hz1:=hb1.size)
   go_roundg 0
   case measure=>have:=HQ.o;omega
   case rel=>exact⟨7,rfl,ae,ai,bw⟩
  ·go_wp2_with fail
   go_ret;exact⟨rfl,hb⟩
def ig(xa xb xc xd xe xf xg:Int):Nat->List Int
 | 0=>[]
 | 1=>iQ 4 xa
 | 2=>iQ 4 xa++iQ 4 xb
 | 3=>iQ 4 xa++iQ 4 xb++iQ 4 xc
 | 4=>iQ 4 xa++iQ 4 xb++iQ 4 xc++iQ 4 xd
 | 5=>iQ 4 xa++iQ 4 xb++iQ 4 xc++iQ 4 xd++iQ 8 xe
 | 6=>iQ 4 xa++iQ 4 xb++iQ 4 xc++iQ 4 xd++iQ 8 xe++iQ 8 xf
 | _=>iQ 4 xa++iQ 4 xb++iQ 4 xc++iQ 4 xd++iQ 8 xe++iQ 8 xf++iQ 8 xg
theorem Jv(xa xb xc xd xe xf xg:Int)(j:Nat):(ig xa xb xc xd xe xf xg j).length<=70:=by
 have hxa:=fD 4 xa;have hxb:=fD 4 xb;have hxc:=fD 4 xc;have hxd:=fD 4 xd;have hxe:=fD 8 xe;have hxf:=fD 8 xf;have hxg:=fD 8 xg
 match j with
 | 0=>simp[ig]
 | 1=>simp only[ig,aQ,aU,bC];omega
 | 2=>simp only[ig,aQ,aU,bC];omega
 | 3=>simp only[ig,aQ,aU,bC];omega
 | 4=>simp only[ig,aQ,aU,bC];omega
 | 5=>simp only[ig,aQ,aU,bC];omega
 | 6=>simp only[ig,aQ,aU,bC];omega
 | n+7=>simp only[ig,aQ,aU,bC];omega
theorem XO(xa xb xc xd xe xf xg:Int)(v:Value)(w:World)(hr:iY .u64 w v [xa,xb,xc,xd,xe,xf,xg])(xa0:0<=xa)(xa1:xa<4294967296)(xb0:0<=xb)(xb1:xb<4294967296)(xc0:0<=xc)(xc1:xc<4294967296)(xd0:0<=xd)(xd1:xd<4294967296)(xe0:0<=xe)(xe1:xe<18446744073709551616)(xf0:0<=xf)(xf1:xf<18446744073709551616)(xg0:0<=xg)(xg1:xg<18446744073709551616) :
 aH 164 #[.string ⟨#[87,87,87,87,81,81,81]⟩,v] w fun e w'=>∃v,e=.returned (.tuple #[v,.int .i64 0])/\OwnB w.heap.size w' v (ig xa xb xc xd xe xf xg 7)/\Below w.heap.size w w':=by
 obtain⟨AA,cn,rfl,hn,hc,hp⟩:=hr.form;obtain⟨gn,on,rfl,hgn,Gm⟩:=hp.at_ (j:=0) (by simp)
 obtain⟨g',o',e',_,x9⟩:=hp.at_ (j:=1) (by simp)
 simp only[bH,Addr.mk.injEq,and_true] at e';obtain⟨rfl,rfl⟩:=e';obtain⟨g',o',e',_,vk⟩:=hp.at_ (j:=2) (by simp)
 simp only[bH,Addr.mk.injEq,and_true] at e';obtain⟨rfl,rfl⟩:=e';obtain⟨g',o',e',_,Gn⟩:=hp.at_ (j:=3) (by simp)
 simp only[bH,Addr.mk.injEq,and_true] at e';obtain⟨rfl,rfl⟩:=e';obtain⟨g',o',e',_,be9⟩:=hp.at_ (j:=4) (by simp)
 simp only[bH,Addr.mk.injEq,and_true] at e';obtain⟨rfl,rfl⟩:=e';obtain⟨g',o',e',_,bf0⟩:=hp.at_ (j:=5) (by simp)
 simp only[bH,Addr.mk.injEq,and_true] at e';obtain⟨rfl,rfl⟩:=e';obtain⟨g',o',e',_,bf1⟩:=hp.at_ (j:=6) (by simp)
 simp only[bH,Addr.mk.injEq,and_true] at e';obtain⟨rfl,rfl⟩:=e';simp only[aU,bC,List.getElem_cons_zero,List.getElem_cons_succ,Nat.add_zero] at hn Gm x9 vk Gn be9 bf0 bf1 |-;have CN0:=aI Gm;have CN1:=aI x9;have CN2:=aI vk;have CN3:=aI Gn;have CN4:=aI be9;have CN5:=aI bf0;have CN6:=aI bf1;have FOQ:=fun w=>aI (jb 6 81 8 w bd0)
 have efQ:sF 6=369:=rfl;rw[efQ] at FOQ;have FOW:=fun w=>aI (jb 4 87 4 w bc9)
 have efW:sF 4=369:=rfl;rw[efW] at FOW;have bx5:∀args w,(callFunc 369 args).run prog w=.ok (.enter 369 args) w:=fun _ _=>rfl
 have HO1:Hid (ig xa xb xc xd xe xf xg 0++(iQ 4 xa)=ig xa xb xc xd xe xf xg 1):=aI rfl;have RN:Hid (ig xa xb xc xd xe xf xg 1++(iQ 4 xb)=ig xa xb xc xd xe xf xg 2):=aI rfl;have Kq:Hid (ig xa xb xc xd xe xf xg 2++(iQ 4 xc)=ig xa xb xc xd xe xf xg 3):=aI rfl;have HO4:Hid (ig xa xb xc xd xe xf xg 3++(iQ 4 xd)=ig xa xb xc xd xe xf xg 4):=aI rfl;have HO5:Hid (ig xa xb xc xd xe xf xg 4++(iQ 8 xe)=ig xa xb xc xd xe xf xg 5):=aI rfl;have HO6:Hid (ig xa xb xc xd xe xf xg 5++(iQ 8 xf)=ig xa xb xc xd xe xf xg 6):=aI rfl;have HO7:Hid (ig xa xb xc xd xe xf xg 6++(iQ 8 xg)=ig xa xb xc xd xe xf xg 7):=aI rfl;have x_:=aI (Jv xa xb xc xd xe xf xg);have D0:Hid (xa / 4294967296=0):=aI ae
 have D1:Hid (xb / 4294967296=0):=aI ae
 have D2:Hid (xc / 4294967296=0):=aI ae
 have D3:Hid (xd / 4294967296=0):=aI ae
 clear hr hp efQ efW Gm x9 vk Gn be9 bf0 bf1
 go_enter func164,ntmps164
 go_wp2_with fail;refine(Dt w).mono ?_
 rintro e w1 ⟨rfl,hb1⟩;have hz1:=hb1.size
 go_wp2_with fail;obtain⟨g,hg⟩:=aF (w1.heap.size);have W0:=aI (Wr.new 325 w1 w.heap.size hz1);have hb2:Below w.heap.size w (w1.alloc (.cells #[.slice none 0 0] 325)):=bw;rw[hg] at W0 |-;generalize w1.alloc (.cells #[.slice none 0 0] 325)=w2 at *;clear hg
 go_loopg [25] 7 (fun q i wr=>∃j:Nat,q=7 - j/\j<=7/\i=.int .i64 j/\Hid (Wr 325 w.heap.size wr g (ig xa xb xc xd xe xf xg j))/\Below w.heap.size w wr)
 case atStart=>exact⟨0,rfl,ae,rfl,W0,hb2⟩
 case round=>
  obtain⟨j,hq,hj,rfl,hw,hb⟩:=hrel;have HQ:=aI hq;have hz:=hb.size;clear hq
  rcases(show j=0\/j=1\/j=2\/j=3\/j=4\/j=5\/j=6\/j=7 by omega) with rfl|rfl|rfl|rfl|rfl|rfl|rfl|rfl
  ·have Kt:=(hb.cell (p:=⟨gn,on,none⟩) hgn).trans CN0.o
   have dq1:=D0.o;have dq2:IntKind.i64.wrap 32=32:=rfl
   go_wp2_with (first
    | (go_at_call 236;refine((FOW _).o).mono ?_;rintro e w3 ⟨rfl,hb3⟩;have hz3:=hb3.size)
    | (go_at_fn 369;refine((m_ g w.heap.size 4 xa (ig xa xb xc xd xe xf xg 0) _ ((hw.o.keep hb3).keep ((aO _ _).alloc (aS _) _)) xa0 ae  ae (by have:=x_.o 0;omega)).mono ?_);rintro e w4 ⟨rfl,k1,k2⟩;have oC:=k2.size;rw[HO1.o] at k1;have K1:=aI k1;clear k1))
   go_roundg 6
   case measure=>have:=HQ.o;omega
   case rel=>exact⟨1,rfl,ae,ai,K1,bw⟩
  ·have Kt:=(hb.cell (p:=⟨gn,on+1,none⟩) hgn).trans CN1.o
   have dq1:=D1.o;have dq2:IntKind.i64.wrap 32=32:=rfl
   go_wp2_with (first
    | (go_at_call 236;refine((FOW _).o).mono ?_;rintro e w3 ⟨rfl,hb3⟩;have hz3:=hb3.size)
    | (go_at_fn 369;refine((m_ g w.heap.size 4 xb (ig xa xb xc xd xe xf xg 1) _ ((hw.o.keep hb3).keep ((aO _ _).alloc (aS _) _)) xb0 ae  ae (by have:=x_.o 1;omega)).mono ?_);rintro e w4 ⟨rfl,k1,k2⟩;have oC:=k2.size;rw[RN.o] at k1;have K1:=aI k1;clear k1))
   go_roundg 5
   case measure=>have:=HQ.o;omega
   case rel=>exact⟨2,rfl,ae,ai,K1,bw⟩
  ·have Kt:=(hb.cell (p:=⟨gn,on+2,none⟩) hgn).trans CN2.o
   have dq1:=D2.o;have dq2:IntKind.i64.wrap 32=32:=rfl
   go_wp2_with (first
    | (go_at_call 236;refine((FOW _).o).mono ?_;rintro e w3 ⟨rfl,hb3⟩;have hz3:=hb3.size)
    | (go_at_fn 369;refine((m_ g w.heap.size 4 xc (ig xa xb xc xd xe xf xg 2) _ ((hw.o.keep hb3).keep ((aO _ _).alloc (aS _) _)) xc0 ae  ae (by have:=x_.o 2;omega)).mono ?_);rintro e w4 ⟨rfl,k1,k2⟩;have oC:=k2.size;rw[Kq.o] at k1;have K1:=aI k1;clear k1))
   go_roundg 4
   case measure=>have:=HQ.o;omega
   case rel=>exact⟨3,rfl,ae,ai,K1,bw⟩
  ·have Kt:=(hb.cell (p:=⟨gn,on+3,none⟩) hgn).trans CN3.o
   have dq1:=D3.o;have dq2:IntKind.i64.wrap 32=32:=rfl
   go_wp2_with (first
    | (go_at_call 236;refine((FOW _).o).mono ?_;rintro e w3 ⟨rfl,hb3⟩;have hz3:=hb3.size)
    | (go_at_fn 369;refine((m_ g w.heap.size 4 xd (ig xa xb xc xd xe xf xg 3) _ ((hw.o.keep hb3).keep ((aO _ _).alloc (aS _) _)) xd0 ae  ae (by have:=x_.o 3;omega)).mono ?_);rintro e w4 ⟨rfl,k1,k2⟩;have oC:=k2.size;rw[HO4.o] at k1;have K1:=aI k1;clear k1))
   go_roundg 3
   case measure=>have:=HQ.o;omega
   case rel=>exact⟨4,rfl,ae,ai,K1,bw⟩
  ·have Kt:=(hb.cell (p:=⟨gn,on+4,none⟩) hgn).trans CN4.o
   go_wp2_with (first
    | (go_at_call 236;refine((FOQ _).o).mono ?_;rintro e w3 ⟨rfl,hb3⟩;have hz3:=hb3.size)
    | (go_at_fn 369;refine((m_ g w.heap.size 8 xe (ig xa xb xc xd xe xf xg 4) _ ((hw.o.keep hb3).keep ((aO _ _).alloc (aS _) _)) xe0 ae  ae (by have:=x_.o 4;omega)).mono ?_);rintro e w4 ⟨rfl,k1,k2⟩;have oC:=k2.size;rw[HO5.o] at k1;have K1:=aI k1;clear k1))
   go_roundg 2
   case measure=>have:=HQ.o;omega
   case rel=>exact⟨5,rfl,ae,ai,K1,bw⟩
  ·have Kt:=(hb.cell (p:=⟨gn,on+5,none⟩) hgn).trans CN5.o
   go_wp2_with (first
    | (go_at_call 236;refine((FOQ _).o).mono ?_;rintro e w3 ⟨rfl,hb3⟩;have hz3:=hb3.size)
    | (go_at_fn 369;refine((m_ g w.heap.size 8 xf (ig xa xb xc xd xe xf xg 5) _ ((hw.o.keep hb3).keep ((aO _ _).alloc (aS _) _)) xf0 ae  ae (by have:=x_.o 5;omega)).mono ?_);rintro e w4 ⟨rfl,k1,k2⟩;have oC:=k2.size;rw[HO6.o] at k1;have K1:=aI k1;clear k1))
   go_roundg 1
   case measure=>have:=HQ.o;omega
   case rel=>exact⟨6,rfl,ae,ai,K1,bw⟩
  ·have Kt:=(hb.cell (p:=⟨gn,on+6,none⟩) hgn).trans CN6.o
   go_wp2_with (first
    | (go_at_call 236;refine((FOQ _).o).mono ?_;rintro e w3 ⟨rfl,hb3⟩;have hz3:=hb3.size)
    | (go_at_fn 369;refine((m_ g w.heap.size 8 xg (ig xa xb xc xd xe xf xg 6) _ ((hw.o.keep hb3).keep ((aO _ _).alloc (aS _) _)) xg0 ae  ae (by have:=x_.o 6;omega)).mono ?_);rintro e w4 ⟨rfl,k1,k2⟩;have oC:=k2.size;rw[HO7.o] at k1;have K1:=aI k1;clear k1))
   go_roundg 0
   case measure=>have:=HQ.o;omega
   case rel=>exact⟨7,rfl,ae,ai,K1,bw⟩
  ·obtain⟨hbg,v,hB,hO⟩:=hw.o
   have c0:=hB.cell 0;simp only[aK,aJ] at c0;have HO:=aI hO;clear hB hO
   go_wp2_with fail
   go_ret2
   exact⟨v,rfl,HO.o,hb⟩
end Go.Proofs.YtilcnjbpmoijmaaGreat.D
