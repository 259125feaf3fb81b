/- Parts of a proof. No condition. -/
import Derived.Test.YtilcnjbpmoijmaaGreatPw47
set_option maxRecDepth 100000
set_option maxHeartbeats 16000000
set_option linter.unusedVariables false
set_option linter.unusedSimpArgs false
namespace Go.Proofs.YtilcnjbpmoijmaaGreat.D
open Tryz
open Go.RowKit Go.Lib Go.Shelf
variable{p:Prop}{ac dg hi kd lo sz:Int}{gr:Bool}{sp:fG}{now z:Nat}{C:List Js}{w wr:World}{v:Value}{ps:List Nat}{Ow:Nat->Ft}{G:Ft}
theorem jP(h:¬p):(false=true<->p):=⟨fun e=>(by cases e),fun e=>absurd e h⟩
theorem Ew(h:p):(true=true<->p):=⟨fun _=>h,fun _=>rfl⟩
def Qp(kd lo hi dg:Int)(gr:Bool)(ac sz:Int)(w:World)(e:Ending)(w':World):Prop:=(∃b:Bool,e=.returned (.bool b)/\(b=true<->kX kd lo hi dg gr ac sz))/\Below w.heap.size w w'
theorem not_zero(k1:kd≠1)(h:lo≠0\/hi≠0\/dg≠0\/gr≠false):¬kX kd lo hi dg gr ac sz:=fun hs=>by
 by_cases k2:kd=2
 ·subst k2;obtain⟨a,b,c,d,_⟩:=qj.1 hs;rcases h with h|h|h|h<;>exact h (by assumption)
 by_cases k3:kd=3
 ·subst k3;obtain⟨a,b,c,d,_⟩:=rW.1 hs;rcases h with h|h|h|h<;>exact h (by assumption)
 by_cases k4:kd=4
 ·subst k4;obtain⟨a,b,c,d,_⟩:=rX.1 hs;rcases h with h|h|h|h<;>exact h (by assumption)
 exact BQ ae hs
theorem av4(k1:kd≠1)(k2:kd≠2)(h:ac≠0):¬kX kd lo hi dg gr ac sz:=fun hs=>by
 by_cases k3:kd=3
 ·subst k3;exact h (rW.1 hs).2.2.2.2.1
 by_cases k4:kd=4
 ·subst k4;exact h (rX.1 hs).2.2.2.2.1
 exact BQ ae hs
theorem vY(kd lo hi dg ac sz:Int)(gr:Bool)(w:World)(h0:-9223372036854775808<=hi)(h1:hi<=9223372036854775807) :
 aH 10 #[dS kd lo hi dg gr ac sz] w (Qp kd lo hi dg gr ac sz w):=by
 unfold dS
 by_cases k1:kd=1
 ·subst k1
  by_cases ca:ac=0
  ·subst ca
   by_cases cs:sz=0
   ·subst cs
    have CS:Hid (∀W,aH 35 #[.agg #[.int .i64 lo,.int .i64 hi,.int .i64 dg]] W fun e w'=>(∃(x y:Int) (b:Bool),e=.returned (.tuple #[.int .i64 x,.int .i64 y,.bool b])/\(b=true<->kX 1 lo hi dg gr 0 0))/\Below W.heap.size W w'):=aI (fun W=>by
     rcases DF lo hi dg h1 with hn|⟨l,h,d,u,m,rfl,rfl,rfl,hp⟩
     ·refine(Ut lo hi dg W hn h0 h1).mono ?_
      rintro e w' ⟨rfl,hb⟩;refine⟨⟨_,_,_,rfl,jP fun hs=>?_⟩,hb⟩
      obtain⟨_,_,l,h,d,u,m,rfl,rfl,rfl,ok⟩:=rV.1 hs;exact ok.bj0 hn
     ·by_cases hu:u+m<=62
      ·refine(Gz W (hp.ok hu)).mono ?_
       rintro e w' ⟨rfl,hb⟩;exact⟨⟨_,_,_,rfl,Ew (rV.2 ⟨rfl,rfl,l,h,d,u,m,rfl,rfl,rfl,hp.ok hu⟩)⟩,hb⟩
      ·refine(Us W hp ae).mono ?_
       rintro e w' ⟨rfl,hb⟩;refine⟨⟨_,_,_,rfl,jP fun hs=>?_⟩,hb⟩
       obtain⟨_,_,l2,h2,d2,u2,m2,e1,e2,e3,ok⟩:=rV.1 hs;obtain rfl:l=l2:=ae
       obtain rfl:h=h2:=ae
       obtain rfl:d=d2:=ae
       obtain⟨rfl,rfl⟩:=ok.same hp;exact hu ok.um)
    clear h0 h1
    go_enter func10,ntmps10
    go_wp2_with fail;refine(CS.o _).mono ?_
    rintro e w2 ⟨⟨x,y,b,rfl,hb⟩,hb2⟩;have HB:=aI hb;have HB2:=aI hb2;clear hb hb2
    go_wp2_with fail;refine bodyPost_ret (by simp[results,Tryz.results10,go_sem, *];try rfl) rfl ?_
    refine⟨⟨b,rfl,HB.o⟩,Below.trans ?_ (HB2.o.mono ?_)⟩
    ·exact(bw)
    ·simp only[aV];omega
   ·clear h0 h1
    go_enter func10,ntmps10
    go_wp2_with fail;refine bodyPost_ret (by simp[results,Tryz.results10,go_sem, *];try rfl) rfl ?_
    exact⟨⟨_,rfl,jP (fun hs=>cs (rV.1 hs).2.1)⟩,bw⟩
  ·clear h0 h1
   go_enter func10,ntmps10
   go_wp2_with fail;refine bodyPost_ret (by simp[results,Tryz.results10,go_sem, *];try rfl) rfl ?_
   exact⟨⟨_,rfl,jP (fun hs=>ca (rV.1 hs).1)⟩,bw⟩
 clear h0 h1
 by_cases bt6:lo=0
 case neg=>
  go_enter func10,ntmps10
  go_wp2_with fail;refine bodyPost_ret (by simp[results,Tryz.results10,go_sem, *];try rfl) rfl ?_
  exact⟨⟨_,rfl,jP (not_zero k1 (.inl bt6))⟩,bw⟩
 subst bt6
 by_cases bt7:hi=0
 case neg=>
  go_enter func10,ntmps10
  go_wp2_with fail;refine bodyPost_ret (by simp[results,Tryz.results10,go_sem, *];try rfl) rfl ?_
  exact⟨⟨_,rfl,jP (not_zero k1 (.inr (.inl bt7)))⟩,bw⟩
 subst bt7
 by_cases bt8:dg=0
 case neg=>
  go_enter func10,ntmps10
  go_wp2_with fail;refine bodyPost_ret (by simp[results,Tryz.results10,go_sem, *];try rfl) rfl ?_
  exact⟨⟨_,rfl,jP (not_zero k1 (.inr (.inr (.inl bt8))))⟩,bw⟩
 subst bt8
 by_cases bj1:gr=true
 ·subst bj1
  go_enter func10,ntmps10
  go_wp2_with fail;refine bodyPost_ret (by simp[results,Tryz.results10,go_sem, *];try rfl) rfl ?_
  exact⟨⟨_,rfl,jP (not_zero k1 (.inr (.inr (.inr (fun e=>by cases e)))))⟩,bw⟩
 obtain rfl:gr=false:=by simpa using bj1
 clear bj1
 by_cases k2:kd=2
 ·subst k2
  by_cases c1:ac<100
  ·have c1':¬(100<=ac):=ae
   go_enter func10,ntmps10
   go_wp2_with fail;refine bodyPost_ret (by simp[results,Tryz.results10,go_sem, *];try rfl) rfl ?_
   exact⟨⟨_,rfl,jP (fun hs=>by have:=qj.1 hs;omega)⟩,bw⟩
  by_cases c2:5000<ac
  ·have c2':¬(ac<=5000):=ae
   have c1':100<=ac:=ae
   go_enter func10,ntmps10
   go_wp2_with fail;refine bodyPost_ret (by simp[results,Tryz.results10,go_sem, *];try rfl) rfl ?_
   exact⟨⟨_,rfl,jP (fun hs=>by have:=qj.1 hs;omega)⟩,bw⟩
  have c1':100<=ac:=ae
  have c2':ac<=5000:=ae
  by_cases c3:sz<2
  ·have c3':¬(2<=sz):=ae
   go_enter func10,ntmps10
   go_wp2_with fail;refine bodyPost_ret (by simp[results,Tryz.results10,go_sem, *];try rfl) rfl ?_
   exact⟨⟨_,rfl,jP (fun hs=>by have:=qj.1 hs;omega)⟩,bw⟩
  by_cases c4:4096<sz
  ·have c4':¬(sz<=4096):=ae
   have c3':2<=sz:=ae
   go_enter func10,ntmps10
   go_wp2_with fail;refine bodyPost_ret (by simp[results,Tryz.results10,go_sem, *];try rfl) rfl ?_
   exact⟨⟨_,rfl,jP (fun hs=>by have:=qj.1 hs;omega)⟩,bw⟩
  have c3':2<=sz:=ae
  have c4':sz<=4096:=ae
  go_enter func10,ntmps10
  go_wp2_with fail;refine bodyPost_ret (by simp[results,Tryz.results10,go_sem, *];try rfl) rfl ?_
  exact⟨⟨_,rfl,Ew (qj.2 ⟨rfl,rfl,rfl,rfl,c1',c2',c3',c4'⟩)⟩,bw⟩
 by_cases ca:ac=0
 case neg=>
  go_enter func10,ntmps10
  go_wp2_with fail;refine bodyPost_ret (by simp[results,Tryz.results10,go_sem, *];try rfl) rfl ?_
  exact⟨⟨_,rfl,jP (av4 k1 k2 ca)⟩,bw⟩
 subst ca
 by_cases k3:kd=3
 ·subst k3
  by_cases c3:sz<10
  ·have c3':¬(10<=sz):=ae
   go_enter func10,ntmps10
   go_wp2_with fail;refine bodyPost_ret (by simp[results,Tryz.results10,go_sem, *];try rfl) rfl ?_
   exact⟨⟨_,rfl,jP (fun hs=>by have:=rW.1 hs;omega)⟩,bw⟩
  by_cases c4:1000<sz
  ·have c4':¬(sz<=1000):=ae
   have c3':10<=sz:=ae
   go_enter func10,ntmps10
   go_wp2_with fail;refine bodyPost_ret (by simp[results,Tryz.results10,go_sem, *];try rfl) rfl ?_
   exact⟨⟨_,rfl,jP (fun hs=>by have:=rW.1 hs;omega)⟩,bw⟩
  have c3':10<=sz:=ae
  have c4':sz<=1000:=ae
  go_enter func10,ntmps10
  go_wp2_with fail;refine bodyPost_ret (by simp[results,Tryz.results10,go_sem, *];try rfl) rfl ?_
  exact⟨⟨_,rfl,Ew (rW.2 ⟨rfl,rfl,rfl,rfl,rfl,c3',c4'⟩)⟩,bw⟩
 by_cases k4:kd=4
 ·subst k4
  by_cases c3:sz<8
  ·have c3':¬(8<=sz):=ae
   go_enter func10,ntmps10
   go_wp2_with fail;refine bodyPost_ret (by simp[results,Tryz.results10,go_sem, *];try rfl) rfl ?_
   exact⟨⟨_,rfl,jP (fun hs=>by have:=rX.1 hs;omega)⟩,bw⟩
  by_cases c4:4096<sz
  ·have c4':¬(sz<=4096):=ae
   have c3':8<=sz:=ae
   go_enter func10,ntmps10
   go_wp2_with fail;refine bodyPost_ret (by simp[results,Tryz.results10,go_sem, *];try rfl) rfl ?_
   exact⟨⟨_,rfl,jP (fun hs=>by have:=rX.1 hs;omega)⟩,bw⟩
  have c3':8<=sz:=ae
  have c4':sz<=4096:=ae
  go_enter func10,ntmps10
  go_wp2_with fail;refine bodyPost_ret (by simp[results,Tryz.results10,go_sem, *];try rfl) rfl ?_
  exact⟨⟨_,rfl,Ew (rX.2 ⟨rfl,rfl,rfl,rfl,rfl,c3',c4'⟩)⟩,bw⟩
 go_enter func10,ntmps10
 go_wp2_with fail;refine bodyPost_ret (by simp[results,Tryz.results10,go_sem, *];try rfl) rfl ?_
 exact⟨⟨_,rfl,jP (BQ ae)⟩,bw⟩
open Tryz
open Go.RowKit Go.Lib Go.Shelf
theorem Uu(w:World)(ok:jG sp):aH 10 #[sp.v] w (aG w (.bool true)):=by
 obtain⟨kd,lo,hi,dg,ac,sz,gr,hv,b0,b1⟩:∃(kd lo hi dg ac sz:Int) (gr:Bool),sp.v=dS kd lo hi dg gr ac sz/\-9223372036854775808<=hi/\hi<=9223372036854775807:=by
  cases sp with
  | h lo hi dg u m gr=>
   have h:nY lo hi dg u m:=ok;have:=h.h1;exact⟨_,_,_,_,_,_,_,rfl,ae,ae⟩
  | _=>exact⟨_,_,_,_,_,_,_,rfl,af,af⟩
 rw[hv];refine(vY kd lo hi dg ac sz gr w b0 b1).mono ?_
 rintro e w' ⟨⟨b,rfl,hb⟩,h⟩;exact⟨by rw[hb.2 ⟨sp,ok,hv⟩],h⟩
open Tryz
open Go.RowKit Go.Lib Go.Shelf
structure uy(sp:fG)(now:Nat)(C:List Js)(w:World)(z i:Nat)(v:Value)(ps:List Nat)(Ow:Nat->Ft)(G:Ft)(wr:World):Prop where
 blk:dK wr z 59 (sp.cs++[v,.int .u64 now]).toArray
 ring:RingAt 54 (RjP sp) (C.take i) v ps Ow G wr
 new:∀k,G k->w.heap.size<=k/\k≠z
 below:Below w.heap.size w wr
theorem uy.start(hb:dK wr z 59 (sp.cs++[Value.slice none 0 0,Value.int .u64 now]).toArray)(h:Below w.heap.size w wr):uy sp now C w z 0 (.slice none 0 0) [] (fun _ _=>False) (fun _=>False) wr:=
 ⟨hb,⟨dL.nil_ _ _,rfl,fun i hi=>absurd hi ag,fun _ _ _ h=>h.elim,fun k e=>by simp[Value.ownBlock] at e,fun _ _ h=>h.elim,fun _ h=>h.elim⟩,fun _ h=>h.elim,h⟩
theorem uy.next{i y:Nat}{w1 w2 w3:World}{v':Value}(h:uy sp now C w z i v ps Ow G wr)(hi:i<C.length)(hz:w.heap.size<=z)(hy:uw sp C[i] y (Gr (fun _=>False) wr w1) w1)(hb:Below wr.heap.size wr w1)(hb2:Below w1.heap.size w1 w2)
 (ho:dL (Ud 54) 0 w3 v' (ps++[y])) (hg:w2.grownBy w3 v.ownBlock) (hn:v'.ownBlock=v.ownBlock\/v'.ownBlock=some w2.heap.size) :
 uy sp now C w z (i+1) v' (ps++[y]) (BO Ow (C.take i).length (Gr (fun _=>False) wr w1)) (fun k=>G k\/Gr (fun _=>False) wr w1 k\/v'.ownBlock=some k) (w3.setCell ⟨z,7,none⟩ v'):=by
 have jD:Below wr.heap.size wr w2:=hb.trans (hb2.mono hb.size);have hzl:=h.blk.lt;have cc9:=jD.size;have hs:=h.below.size;have r2:=h.ring.keep (zV sp) jD;have y2:=(Py sp _ y).keep hy hb2;have new:∀k,Gr (fun _=>False) wr w1 k->wr.heap.size<=k/\k<w1.heap.size:=fun k hk=>hk.elim False.elim id
 have hf:∀k,Gr (fun _=>False) wr w1 k->¬G k:=fun k hk hG=>by have:=new k hk;have:=h.ring.low k hG;omega
 have hz2:v.ownBlock≠some z:=fun e=>(h.new z (h.ring.l9 z e).1).2 rfl
 have hvz:v'.ownBlock≠some z:=fun e=>by
  rcases AY hn z e with e|e
  ·exact hz2 e
  ·omega
 have hpush:=r2.push (zV sp) y2 hf ho hg hn;have zK:∀k,(G k\/Gr (fun _=>False) wr w1 k\/v'.ownBlock=some k)->k≠z:=fun k hk=>by
  rcases hk with hk|hk|hk
  ·exact(h.new k hk).2
  ·have:=new k hk;omega
  ·intro e;rw[e] at hk;exact hvz hk
 have ht:Touch (fun k=>k=z) w3 (w3.setCell ⟨z,7,none⟩ v'):=Touch.setCell (F:=fun k=>k=z) (Touch.refl _ w3) (p:=⟨z,7,none⟩) (.inl rfl) _
 refine⟨?_,?_,fun k hk=>⟨?_,zK k hk⟩,?_⟩
 ·have hb3:dK w3 z 59 (sp.cs++[v,.int .u64 now]).toArray:=(hg.block z ae (fun e=>hz2 e.symm)).trans (h.blk.keep jD)
  have:=hb3.dQ 7 v'
  revert this
  cases sp<;>exact id
 ·have:=hpush.far (zV sp) ht (fun k hk e=>zK k hk e)
  rw[bg hi];exact this
 ·rcases hk with hk|hk|hk
  ·exact(h.new k hk).1
  ·have:=new k hk;omega
  ·rcases AY hn k hk with e|e
   ·exact(h.new k (h.ring.l9 k e).1).1
   ·omega
 ·refine dI (p:=⟨z,7,none⟩) ?_ hz _
  refine Below.grown (h.below.trans (jD.mono hs)) hg ae (fun k e=>(h.new k (h.ring.l9 k e).1).1)
theorem uy.done{s:Wn}(h:uy sp s.now s.L w z s.L.length v ps Ow G wr)(hz:w.heap.size<=z)(h0:0<s.L.length)(h60:s.L.length<=60):yD sp s z (Gr (fun _=>False) w wr) wr:=by
 have hr:=h.ring;rw[bP (aS _)] at hr;exact⟨v,ps,Ow,G,⟨h.blk,hr,h0,h60,fun e=>(h.new z e).2 rfl⟩,.inr ⟨hz,h.blk.lt⟩,fun k hk=>.inr ⟨(h.new k hk).1,hr.low k hk⟩,fun k hk=>hk.elim False.elim And.right⟩
theorem t_(hv:sp.v=dS kd lo hi dg gr ac sz)(hcs:sp.cs=[.int .u8 kd,.int .i64 lo,.int .i64 hi,.int .i64 dg,.bool gr,.int .i64 ac,.int .i64 sz])(ok:jG sp)(n:Nat)(w:World)(h0:1<=n)(h60:n<=60) :
 aH 11 #[dS kd lo hi dg gr ac sz,.int .i64 n] w fun e w'=>∃x,e=.returned (.pointer (some ⟨x,0,none⟩))/\yD sp (kV sp n) x (Gr (fun _=>False) w w') w'/\Below w.heap.size w w':=by
 have CM:Hid (∀w1:World,aH 19 #[.agg #[.int .u8 kd,.int .i64 lo,.int .i64 hi,.int .i64 dg,.bool gr,.int .i64 ac,.int .i64 sz]] w1 _):=aI (fun w1=>by rw[show Value.agg #[.int .u8 kd,.int .i64 lo,.int .i64 hi,.int .i64 dg,.bool gr,.int .i64 ac,.int .i64 sz]=sp.v from hv.symm];exact aj3 w1 ok)
 have CR:Hid (∀w1:World,aH 10 #[.agg #[.int .u8 kd,.int .i64 lo,.int .i64 hi,.int .i64 dg,.bool gr,.int .i64 ac,.int .i64 sz]] w1 _):=aI (fun w1=>by rw[show Value.agg #[.int .u8 kd,.int .i64 lo,.int .i64 hi,.int .i64 dg,.bool gr,.int .i64 ac,.int .i64 sz]=sp.v from hv.symm];exact Uu w1 ok)
 have YC:=aI hcs;clear hv hcs ok;unfold dS;obtain⟨b,hbb⟩:=aF (w.heap.size);obtain⟨wa,g_⟩:∃z,w.alloc (.cells #[.int .u8 kd,.int .i64 lo,.int .i64 hi,.int .i64 dg,.bool gr,.int .i64 ac,.int .i64 sz] 25)=z:=⟨_,rfl⟩;have ha:Below w.heap.size w wa:=by rw[<-g_];exact bw
 have B0:Hid (dK wa b 25 #[.int .u8 kd,.int .i64 lo,.int .i64 hi,.int .i64 dg,.bool gr,.int .i64 ac,.int .i64 sz]):=by rw[<-g_,<-hbb];exact aI (dK.new _ _ _)
 have hn1:¬(n:Int)<1:=ae
 have hn2:¬(n:Int) > 60:=ae
 go_enter func11,ntmps11
 go_upto_region 1 with fail;try rw[g_]
 clear g_ hbb;obtain⟨s0,s1,s2,s3,s4,s5,s6⟩:=B0.o.c7
 go_wp2_with fail;refine(CR.o wa).mono ?_
 rintro e w1 ⟨rfl,hb1⟩;have H1:=aI (ha.trans (hb1.mono ha.size));have B1:=aI (B0.o.keep hb1);clear s0 s1 s2 s3 s4 s5 s6 hb1;have lb:b<w1.heap.size:=B1.o.lt;obtain⟨s0,s1,s2,s3,s4,s5,s6⟩:=B1.o.c7;have SS:=aI (aP s0 (aP s1 (aP s2 (aP s3 (aP s4 (aP s5 s6))))));obtain⟨x,hxx⟩:=aF (w1.heap.size);obtain⟨wc,hwc⟩:∃z,w1.alloc (.cells #[.int .u8 kd,.int .i64 lo,.int .i64 hi,.int .i64 dg,.bool gr,.int .i64 ac,.int .i64 sz,.slice none 0 0,.int .u64 0] 59)=z:=⟨_,rfl⟩;have HY0:Hid (uy sp 0 (List.replicate n sp.new) w1 x 0 (.slice none 0 0) [] (fun _ _=>False) (fun _=>False) wc):=by
  refine aI (uy.start ?_ (by rw[<-hwc];exact bw))
  rw[YC.o,<-hwc,<-hxx];exact dK.new _ _ _
 have HXX:=aI hxx
 go_upto_region 4 with fail;try rw[hwc]
 try rw[hxx]
 clear hwc hxx s0 s1 s2 s3 s4 s5 s6
 go_wp2_with fail
 go_loopg [6] n (fun q t6 wr=>∃(i:Nat) (v1:Value) (ps1:List Nat) (VT:Nat->Ft) (G1:Ft),q=n - i/\i<=n/\t6=.int .i64 i/\Hid (uy sp 0 (List.replicate n sp.new) w1 x i v1 ps1 VT G1 wr))
 case atStart=>exact⟨0,_,_,_,_,rfl,ae,rfl,HY0⟩
 case round=>
  obtain⟨i,v1,ps1,VT,G1,hq,hile,rfl,HY⟩:=hrel;have HQ:=aI hq;clear hq;have hxz:w1.heap.size<=x:=by rw[HXX.o];exact aS _
  by_cases hlt:i<n
  ·have hji:(i:Int)<(n:Int):=ae
   have hiC:i<(List.replicate n sp.new).length:=by rw[b_];exact hlt
   have lbr:b<wr.heap.size:=by have:=HY.o.below.size;omega
   have z7:Hid (wr.cell? ⟨x,7,none⟩=some v1):=aI (by have:=HY.o.blk.cell 7;rw[YC.o] at this;exact this)
   have y7:Hid (wr.frozen? ⟨x,7,none⟩=false):=aI (HY.o.blk.frozen 7);have lz:x<wr.heap.size:=HY.o.blk.lt;have nz:¬(v1.ownBlock=some x):=fun e=>(HY.o.new x (HY.o.ring.l9 x e).1).2 rfl
   have nb:¬(v1.ownBlock=some b):=fun e=>by have:=(HY.o.new b (HY.o.ring.l9 b e).1).1;omega
   have hrl:ps1.length=i:=by rw[HY.o.ring.len,bG,b_];omega
   have hvl:∀k,v1.ownBlock=some k->k<wr.heap.size:=fun k e=>HY.o.ring.low k (HY.o.ring.l9 k e).1
   have hbel:=HY.o.below;have q0:=(hbel.cell (p:=⟨b,0,none⟩) lb).trans SS.o.1;have q1:=(hbel.cell (p:=⟨b,1,none⟩) lb).trans SS.o.2.1;have q2:=(hbel.cell (p:=⟨b,2,none⟩) lb).trans SS.o.2.2.1;have q3:=(hbel.cell (p:=⟨b,3,none⟩) lb).trans SS.o.2.2.2.1;have q4:=(hbel.cell (p:=⟨b,4,none⟩) lb).trans SS.o.2.2.2.2.1;have q5:=(hbel.cell (p:=⟨b,5,none⟩) lb).trans SS.o.2.2.2.2.2.1;have q6:=(hbel.cell (p:=⟨b,6,none⟩) lb).trans SS.o.2.2.2.2.2.2;have SR:=aI (aP q0 (aP q1 (aP q2 (aP q3 (aP q4 (aP q5 q6))))));clear hbel q0 q1 q2 q3 q4 q5 q6
   go_upto_region 7 with fail;have mW:=aI (fun(w':World) (hS':(Touch (fun k=>v1.ownBlock=some k) wr) w')=>(aP ((dO hS' 7 lz nz).trans z7.o) (aP ((dO hS' 0 lbr nb).trans SR.o.1) (aP ((dO hS' 1 lbr nb).trans SR.o.2.1) (aP ((dO hS' 2 lbr nb).trans SR.o.2.2.1) (aP ((dO hS' 3 lbr nb).trans SR.o.2.2.2.1) (aP ((dO hS' 4 lbr nb).trans SR.o.2.2.2.2.1) (aP ((dO hS' 5 lbr nb).trans SR.o.2.2.2.2.2.1) ((dO hS' 6 lbr nb).trans SR.o.2.2.2.2.2.2)))))))))
   refine KO (Touch (fun k=>v1.ownBlock=some k) wr) 11 (KI 0 6 (KJ 6 (KJ 7 (KJ 8 (plp 9 1 (KI 10 1 (KJ 11 []))))))) ((Touch.refl _ _).drew) ?_
   iterate 6 refine uF ?_
   refine Iq fun K hK=>?_
   go_simp;refine(CM.o wr.drew).mono ?_
   rintro e w2 ⟨y1,rfl,hj1,hb2⟩;have B1:Below wr.heap.size wr w2:=(aO _ _).drew.trans hb2;have T1:Touch (fun k=>v1.ownBlock=some k) wr w2:=Touch.of_below B1 (aS _)
   refine hK _ _ (T1) ?_
   clear hK K;refine Iq fun K hK=>?_
   have T2:=T1.alloc (.cells #[.pointer (some ⟨y1,0,none⟩)] 54);have B2:Below wr.heap.size wr _:=B1.alloc B1.size (.cells #[.pointer (some ⟨y1,0,none⟩)] 54)
   go_simp;refine hK _ _ (T2) ?_
   clear hK K;refine Iq fun K hK=>?_
   refine Rn bi9 (.tmp 30) (.tmp 33) rfl (dL.keep HY.o.ring.row B2) rfl _ [y1] rfl (iM.fK (E:=Ud 54) w2 y1 _ rfl _ rfl _ rfl) ah (df _) ?_
   intro v8 w8 o8 g8 a8;have T8:Touch (fun k=>v1.ownBlock=some k) wr w8:=T2.grown g8 (fun k e=>.inl e)
   have NX:=aI (HY.o.next hiC hxz (by rw[List.getElem_replicate];exact hj1) B1 ((aO _ w2).alloc (aS _) _) o8 g8 a8)
   obtain⟨A8,c8,rfl,_,_,_⟩:=o8.form;clear o8 g8 a8
   go_simp;refine hK _ _ (T8) ?_
   clear hK K;refine Rl ?_
   refine uF ?_
   refine KN fun K hK=>?_
   have z7':=(dO T8 7 lz nz).trans z7.o;have y7':=(qZ T8 7 lz nz).trans y7.o
   go_simp;refine hK _ _ ?_
   clear hK K;refine ja ?_
   have hN1:=NX.o;simp only[aQ,bW,hrl] at hN1;have PH:=aI hN1;clear hN1 NX T1 T2 T8 B1 B2 hj1 hb2 z7 y7;try refine dR ?_
   go_wp2_with fail
   go_roundg (n - (i+1))
   case measure=>have:=HQ.o;omega
   case rel=>exact⟨i+1,_,_,_,_,rfl,ae,ai,PH⟩
  ·have hji:¬((i:Int)<(n:Int)):=ae
   obtain rfl:n=i:=ae
   go_wp2_with fail
   go_ret;have hrl:(List.replicate n sp.new).length=n:=b_;have hy:uy sp (kV sp n).now (kV sp n).L w1 x (kV sp n).L.length v1 ps1 VT G1 wr:=by
    show uy sp 0 (List.replicate n sp.new) w1 x (List.replicate n sp.new).length v1 ps1 VT G1 wr
    rw[hrl];exact HY.o
   have hd:=hy.done hxz (by show 0<(List.replicate n sp.new).length;omega) (by show(List.replicate n sp.new).length<=60;omega)
   have hz:=H1.o.size;exact⟨x,rfl,(BP sp _ _).more hd (fun k hk=>hk.elim False.elim (fun h=>.inr ⟨by omega,h.2⟩)) (fun k hk=>hk.elim False.elim And.right),H1.o.trans (HY.o.below.mono hz)⟩
theorem aj8(n:Nat)(w:World)(ok:jG sp)(h0:1<=n)(h60:n<=60) :
 aH 11 #[sp.v,.int .i64 n] w fun e w'=>∃x,e=.returned (.pointer (some ⟨x,0,none⟩))/\yD sp (kV sp n) x (Gr (fun _=>False) w w') w'/\Below w.heap.size w w':=by
 cases sp with
 | h lo hi dg u m gr=>exact t_ rfl rfl ok n w h0 h60
 | d a m=>exact t_ rfl rfl ok n w h0 h60
 | t d=>exact t_ rfl rfl ok n w h0 h60
 | k q=>exact t_ rfl rfl ok n w h0 h60
open Tryz
open Go.RowKit Go.Lib Go.Shelf
section
variable {lo hi dg ac sz : Int} {gr : Bool}
theorem zW{kd:Int}{mf:Nat}(hkm:(kd=1/\mf=125)\/(kd=2/\mf=127)\/(kd=3/\mf=129)\/(kd=4/\mf=131))(w:World)(hm:∀y w1,Below w.heap.size w w1->w.heap.size<=y->dK w1 y 126 #[.int .u8 kd,.pointer none,.pointer none,.pointer none,.pointer none]->Calls prog mf #[.pointer (some ⟨y,0,none⟩),dS kd lo hi dg gr ac sz] w1 fun e w'=>e=.returned (.int .i64 1)/\Touch (fun j=>j=y) w1 w') :
 aH 34 #[dS kd lo hi dg gr ac sz] w (aG w (.tuple #[.pointer none,.int .i64 1])):=by
 obtain⟨cs,hcs⟩:∃q:Array Value,q=#[.int .u8 kd,.int .i64 lo,.int .i64 hi,.int .i64 dg,.bool gr,.int .i64 ac,.int .i64 sz]:=⟨_,rfl⟩;obtain⟨fv,hfv⟩:∃q:Array Value,q=#[.int .u8 kd,.pointer none,.pointer none,.pointer none,.pointer none]:=⟨_,rfl⟩;have CK0:=fun W=>kP kd W ae  ae
 rcases hkm with⟨rfl,rfl⟩|⟨rfl,rfl⟩|⟨rfl,rfl⟩|⟨rfl,rfl⟩
 all_goals
  have HM:=aI hm;have CK1:=aI CK0;clear hm CK0;unfold dS at *;obtain⟨b,hbb⟩:=aF (w.heap.size);obtain⟨wa,g_⟩:∃z,w.alloc (.cells cs 25)=z:=⟨_,rfl⟩;have ha:Below w.heap.size w wa:=by rw[<-g_];exact bw
  have B0:Hid (dK wa b 25 cs):=by rw[<-g_,<-hbb];exact aI (dK.new _ _ _)
  subst hcs;have hz:wa.heap.size=b+1:=by rw[<-g_,<-hbb,aV]
  have s0:=B0.o.cell 0;simp only[aK,aJ,aN] at s0;have CK:=aI (CK1.o wa);have lJ:=aI hbb
  go_enter func34,ntmps34
  go_upto_region 1 with fail;have HZ:=aI hz;clear g_ hbb hz
  go_wp2_with fail;refine(CK.o).mono ?_
  rintro e w' ⟨rfl,rfl⟩;obtain⟨wb,hwb⟩:∃z,wa.alloc (.cells fv 126)=z:=⟨_,rfl⟩;have hab:Below wa.heap.size wa wb:=by rw[<-hwb];exact bw
  have hb:Below w.heap.size w wb:=ha.trans (hab.mono ha.size);have Y0:Hid (dK wb (b+1) 126 fv):=by rw[<-hwb,<-HZ.o];exact aI (dK.new _ _ _)
  subst hfv;have B1:=aI (B0.o.keep hab)
  go_upto_region 4 with fail;try rw[hwb]
  try rw[HZ.o]
  clear hwb s0 hab B0;have B0:=B1;obtain⟨s0,s1,s2,s3,s4,s5,s6⟩:=B0.o.c7;have FS0:=aI s0;have FS1:=aI s1;have FS2:=aI s2;have FS3:=aI s3;have FS4:=aI s4;have FS5:=aI s5;have FS6:=aI s6;clear s0 s1 s2 s3 s4 s5 s6;have lb:b<wb.heap.size:=B0.o.lt;have nb:¬(b=b+1):=ae
  have hby:w.heap.size<=b+1:=by have:=lJ.o;omega
  have T0:Touch (fun j=>j=b+1) wb wb.drew:=(Touch.refl _ wb).drew
  have Bd:Below wb.heap.size wb wb.drew:=(aO _ _).drew;have mW:=aI (fun(w':World) (hS':(Touch (fun j=>j=b+1) wb) w')=>(aP (((dO hS' 0 lb nb).trans FS0.o)) (aP (((dO hS' 1 lb nb).trans FS1.o)) (aP (((dO hS' 2 lb nb).trans FS2.o)) (aP (((dO hS' 3 lb nb).trans FS3.o)) (aP (((dO hS' 4 lb nb).trans FS4.o)) (aP (((dO hS' 5 lb nb).trans FS5.o)) (((dO hS' 6 lb nb).trans FS6.o)))))))))
  refine jh (Touch (fun j=>j=b+1) wb) (dV 1 3 (dV 6 2 (fJ 0 (dV 4 2 (fJ 8 (dV 9 1 [])))))) (T0) ?_
  iterate 5 refine eQ ?_
  refine fO fun K hK=>?_
  go_simp;refine(kW wb.drew).mono ?_
  rintro e ws ⟨rfl,hbs⟩;have Bs:Below wb.heap.size wb ws:=Bd.trans hbs;have Ts:Touch (fun j=>j=b+1) wb ws:=Touch.of_below Bs (aS _)
  have hb1:Below w.heap.size w ws:=hb.trans (Bs.mono hb.size);have C8:=aI (HM.o (b+1) ws hb1 hby (Y0.o.keep Bs));unfold mkV;refine hK _ _ (Ts) ?_
  clear hK K
  iterate 2 refine eQ ?_
  refine fO fun K hK=>?_
  go_simp;refine(C8.o).mono ?_
  rintro e wt ⟨rfl,ht⟩;have Tt:Touch (fun j=>j=b+1) wb wt:=Ts.trans ht (fun _ h=>.inl h)
  have TT:=aI (hb.trans (Tt.below (fun j hj=>by rw[show j=b+1 from hj];exact hby) hb.size))
  refine hK _ _ (Tt) ?_
  clear hK K;refine eQ ?_
  refine dJ ?_
  have Td:Touch (fun j=>j=b+1) wb wt.drew:=Tt.drew
  have bd:Below wt.heap.size wt wt.drew:=(aO _ _).drew;clear C8
  go_upto_region 5 with fail;refine jh (Touch (fun j=>j=b+1) wb) (dV 0 8 []) (Td) ?_
  iterate 3 refine eQ ?_
  refine Ee ?_
  try go_simp
  refine Ee ?_
  try go_simp
  refine Ee ?_
  try go_simp
  refine Ee ?_
  try go_simp
  refine eQ ?_
  refine dJ ?_
  go_wp2_with fail;refine bodyPost_ret (by simp[results,Tryz.results34,go_sem, *];try rfl) rfl ?_
  exact⟨rfl,TT.o.drew⟩
end
open Tryz
open Go.RowKit Go.Lib Go.Shelf
section
variable {y : Nat} {k0 p1 p2 p3 p4 : Value} {w : World} {kd lo hi dg ac sz : Int} {gr : Bool}
theorem Uw(hy:dK w y 126 #[k0,p1,p2,p3,p4])(h:∀wa,Below w.heap.size w wa->aH 200 #[.agg #[.int .i64 lo,.int .i64 hi,.int .i64 dg],.bool gr] wa fun e w'=>e=.returned (.tuple #[.pointer none,.int .i64 1])/\Below wa.heap.size wa w') :
 aH 125 #[.pointer (some ⟨y,0,none⟩),dS kd lo hi dg gr ac sz] w fun e w'=>e=.returned (.int .i64 1)/\Touch (fun j=>j=y) w w':=by
 have C:=aI h;have HY:=aI hy;clear h hy;unfold dS;obtain⟨b,hbb⟩:=aF (w.heap.size);obtain⟨wa,g_⟩:∃z,w.alloc (.cells #[.int .u8 kd,.int .i64 lo,.int .i64 hi,.int .i64 dg,.bool gr,.int .i64 ac,.int .i64 sz] 25)=z:=⟨_,rfl⟩;have ha:Below w.heap.size w wa:=by rw[<-g_];exact bw
 have B0:dK wa b 25 #[.int .u8 kd,.int .i64 lo,.int .i64 hi,.int .i64 dg,.bool gr,.int .i64 ac,.int .i64 sz]:=by rw[<-g_,<-hbb];exact dK.new _ _ _
 have j1:=B0.cell 1;have j2:=B0.cell 2;have j3:=B0.cell 3;have j4:=B0.cell 4;simp only[aK,aJ,aN] at j1 j2 j3 j4;clear B0;have HA:=aI ha;clear ha
 go_enter func125,ntmps125
 go_wp2_with fail;refine(C.o wa HA.o).mono ?_
 rintro e w1 ⟨rfl,hb⟩;have L:=aI ((HY.o.keep HA.o).keep hb);have f1:=L.o.cell 1;have f2:=L.o.frozen 1;simp only[aK,aJ,aN] at f1;have M:=aI (HA.o.trans (hb.mono HA.o.size))
 go_wp2_with fail
 go_ret;exact⟨rfl,(Touch.of_below (F:=fun k=>k=y) M.o (aS _)).setCell (p:=⟨y,1,none⟩) (.inl rfl) _⟩
theorem YF(hy:dK w y 126 #[k0,p1,p2,p3,p4])(h:∀wa,Below w.heap.size w wa->aH 205 #[.int .i64 ac,.int .i64 sz] wa fun e w'=>e=.returned (.tuple #[.pointer none,.int .i64 1])/\Below wa.heap.size wa w') :
 aH 127 #[.pointer (some ⟨y,0,none⟩),dS kd lo hi dg gr ac sz] w fun e w'=>e=.returned (.int .i64 1)/\Touch (fun j=>j=y) w w':=by
 have C:=aI h;have HY:=aI hy;clear h hy;unfold dS;obtain⟨b,hbb⟩:=aF (w.heap.size);obtain⟨wa,g_⟩:∃z,w.alloc (.cells #[.int .u8 kd,.int .i64 lo,.int .i64 hi,.int .i64 dg,.bool gr,.int .i64 ac,.int .i64 sz] 25)=z:=⟨_,rfl⟩;have ha:Below w.heap.size w wa:=by rw[<-g_];exact bw
 have B0:dK wa b 25 #[.int .u8 kd,.int .i64 lo,.int .i64 hi,.int .i64 dg,.bool gr,.int .i64 ac,.int .i64 sz]:=by rw[<-g_,<-hbb];exact dK.new _ _ _
 have j5:=B0.cell 5;have j6:=B0.cell 6;simp only[aK,aJ,aN] at j5 j6;clear B0;have HA:=aI ha;clear ha
 go_enter func127,ntmps127
 go_wp2_with fail;refine(C.o wa HA.o).mono ?_
 rintro e w1 ⟨rfl,hb⟩;have L:=aI ((HY.o.keep HA.o).keep hb);have f1:=L.o.cell 2;have f2:=L.o.frozen 2;simp only[aK,aJ,aN] at f1;have M:=aI (HA.o.trans (hb.mono HA.o.size))
 go_wp2_with fail
 go_ret;exact⟨rfl,(Touch.of_below (F:=fun k=>k=y) M.o (aS _)).setCell (p:=⟨y,2,none⟩) (.inl rfl) _⟩
theorem IG(hy:dK w y 126 #[k0,p1,p2,p3,p4])(h:∀wa,Below w.heap.size w wa->aH 207 #[.int .i64 sz] wa fun e w'=>e=.returned (.tuple #[.pointer none,.int .i64 1])/\Below wa.heap.size wa w') :
 aH 129 #[.pointer (some ⟨y,0,none⟩),dS kd lo hi dg gr ac sz] w fun e w'=>e=.returned (.int .i64 1)/\Touch (fun j=>j=y) w w':=by
 have C:=aI h;have HY:=aI hy;clear h hy;unfold dS;obtain⟨b,hbb⟩:=aF (w.heap.size);obtain⟨wa,g_⟩:∃z,w.alloc (.cells #[.int .u8 kd,.int .i64 lo,.int .i64 hi,.int .i64 dg,.bool gr,.int .i64 ac,.int .i64 sz] 25)=z:=⟨_,rfl⟩;have ha:Below w.heap.size w wa:=by rw[<-g_];exact bw
 have B0:dK wa b 25 #[.int .u8 kd,.int .i64 lo,.int .i64 hi,.int .i64 dg,.bool gr,.int .i64 ac,.int .i64 sz]:=by rw[<-g_,<-hbb];exact dK.new _ _ _
 have j6:=B0.cell 6;simp only[aK,aJ,aN] at j6;clear B0;have HA:=aI ha;clear ha
 go_enter func129,ntmps129
 go_wp2_with fail;refine(C.o wa HA.o).mono ?_
 rintro e w1 ⟨rfl,hb⟩;have L:=aI ((HY.o.keep HA.o).keep hb);have f1:=L.o.cell 3;have f2:=L.o.frozen 3;simp only[aK,aJ,aN] at f1;have M:=aI (HA.o.trans (hb.mono HA.o.size))
 go_wp2_with fail
 go_ret;exact⟨rfl,(Touch.of_below (F:=fun k=>k=y) M.o (aS _)).setCell (p:=⟨y,3,none⟩) (.inl rfl) _⟩
theorem Ux(hy:dK w y 126 #[k0,p1,p2,p3,p4])(h:∀wa,Below w.heap.size w wa->aH 209 #[.int .i64 sz] wa fun e w'=>e=.returned (.tuple #[.pointer none,.int .i64 1])/\Below wa.heap.size wa w') :
 aH 131 #[.pointer (some ⟨y,0,none⟩),dS kd lo hi dg gr ac sz] w fun e w'=>e=.returned (.int .i64 1)/\Touch (fun j=>j=y) w w':=by
 have C:=aI h;have HY:=aI hy;clear h hy;unfold dS;obtain⟨b,hbb⟩:=aF (w.heap.size);obtain⟨wa,g_⟩:∃z,w.alloc (.cells #[.int .u8 kd,.int .i64 lo,.int .i64 hi,.int .i64 dg,.bool gr,.int .i64 ac,.int .i64 sz] 25)=z:=⟨_,rfl⟩;have ha:Below w.heap.size w wa:=by rw[<-g_];exact bw
 have B0:dK wa b 25 #[.int .u8 kd,.int .i64 lo,.int .i64 hi,.int .i64 dg,.bool gr,.int .i64 ac,.int .i64 sz]:=by rw[<-g_,<-hbb];exact dK.new _ _ _
 have j6:=B0.cell 6;simp only[aK,aJ,aN] at j6;clear B0;have HA:=aI ha;clear ha
 go_enter func131,ntmps131
 go_wp2_with fail;refine(C.o wa HA.o).mono ?_
 rintro e w1 ⟨rfl,hb⟩;have L:=aI ((HY.o.keep HA.o).keep hb);have f1:=L.o.cell 4;have f2:=L.o.frozen 4;simp only[aK,aJ,aN] at f1;have M:=aI (HA.o.trans (hb.mono HA.o.size))
 go_wp2_with fail
 go_ret;exact⟨rfl,(Touch.of_below (F:=fun k=>k=y) M.o (aS _)).setCell (p:=⟨y,4,none⟩) (.inl rfl) _⟩
end
open Tryz
open Go.RowKit Go.Lib Go.Shelf
section
variable {R : Nat -> World -> Prop} {lo hi dg ac sz lo2 hi2 dg2 ac2 sz2 : Int} {gr gr2 : Bool}
theorem aj9{kd:Int}{mf:Nat}(hkm:(kd=1/\mf=125)\/(kd=2/\mf=127)\/(kd=3/\mf=129)\/(kd=4/\mf=131))(w:World)(hm:∀y w1,Below w.heap.size w w1->w.heap.size<=y->dK w1 y 126 #[.int .u8 kd,.pointer none,.pointer none,.pointer none,.pointer none]->Calls prog mf #[.pointer (some ⟨y,0,none⟩),dS kd lo hi dg gr ac sz] w1 fun e w'=>e=.returned (.int .i64 0)/\R y w'/\Touch (fun j=>j=y) w1 w')
 (hs:∀y w1,R y w1->aH 53 #[.pointer (some ⟨y,0,none⟩)] w1 fun e w'=>e=.returned (dS kd lo2 hi2 dg2 gr2 ac2 sz2)/\Below w1.heap.size w1 w')
 (hk:∀y w1 w',R y w1->Below w1.heap.size w1 w'->R y w')
 (hne:¬(lo2=lo/\hi2=hi/\dg2=dg/\gr2=gr/\ac2=ac/\sz2=sz)) :
 aH 34 #[dS kd lo hi dg gr ac sz] w (aG w (.tuple #[.pointer none,.int .i64 1])):=by
 obtain⟨cs,hcs⟩:∃q:Array Value,q=#[.int .u8 kd,.int .i64 lo,.int .i64 hi,.int .i64 dg,.bool gr,.int .i64 ac,.int .i64 sz]:=⟨_,rfl⟩;obtain⟨fv,hfv⟩:∃q:Array Value,q=#[.int .u8 kd,.pointer none,.pointer none,.pointer none,.pointer none]:=⟨_,rfl⟩;have CK0:=fun W=>kP kd W ae  ae
 rcases hkm with⟨rfl,rfl⟩|⟨rfl,rfl⟩|⟨rfl,rfl⟩|⟨rfl,rfl⟩
 all_goals
  have HM:=aI hm;have HS:=aI hs;have HK:=aI hk;have YJ:Hid (∀W:World,((if lo2=lo then if hi2=hi then if dg2=dg then if gr2=gr then if ac2=ac then if sz2=sz then Result.ok (Next.value (Value.bool false)) W else Result.ok (Next.value (Value.bool true)) W else Result.ok (Next.value (Value.bool true)) W else Result.ok (Next.value (Value.bool true)) W else Result.ok (Next.value (Value.bool true)) W else Result.ok (Next.value (Value.bool true)) W else Result.ok (Next.value (Value.bool true)) W):Result Next)=Result.ok (Next.value (Value.bool true)) W):=aI (by
   intro W
   repeat' split
   all_goals first|rfl|exact absurd ⟨‹_›,‹_›,‹_›,‹_›,‹_›,‹_›⟩ hne)
  have CK1:=aI CK0;clear hm hs hk hne CK0;unfold dS at *;obtain⟨b,hbb⟩:=aF (w.heap.size);obtain⟨wa,g_⟩:∃z,w.alloc (.cells cs 25)=z:=⟨_,rfl⟩;have ha:Below w.heap.size w wa:=by rw[<-g_];exact bw
  have B0:Hid (dK wa b 25 cs):=by rw[<-g_,<-hbb];exact aI (dK.new _ _ _)
  subst hcs;have hz:wa.heap.size=b+1:=by rw[<-g_,<-hbb,aV]
  have s0:=B0.o.cell 0;simp only[aK,aJ,aN] at s0;have CK:=aI (CK1.o wa);have lJ:=aI hbb
  go_enter func34,ntmps34
  go_upto_region 1 with fail;have HZ:=aI hz;clear g_ hbb hz
  go_wp2_with fail;refine(CK.o).mono ?_
  rintro e w' ⟨rfl,rfl⟩;obtain⟨wb,hwb⟩:∃z,wa.alloc (.cells fv 126)=z:=⟨_,rfl⟩;have hab:Below wa.heap.size wa wb:=by rw[<-hwb];exact bw
  have hb:Below w.heap.size w wb:=ha.trans (hab.mono ha.size);have Y0:Hid (dK wb (b+1) 126 fv):=by rw[<-hwb,<-HZ.o];exact aI (dK.new _ _ _)
  subst hfv;have B1:=aI (B0.o.keep hab)
  go_upto_region 4 with fail;try rw[hwb]
  try rw[HZ.o]
  clear hwb s0 hab B0;have B0:=B1;obtain⟨s0,s1,s2,s3,s4,s5,s6⟩:=B0.o.c7;have FS0:=aI s0;have FS1:=aI s1;have FS2:=aI s2;have FS3:=aI s3;have FS4:=aI s4;have FS5:=aI s5;have FS6:=aI s6;clear s0 s1 s2 s3 s4 s5 s6;have lb:b<wb.heap.size:=B0.o.lt;have nb:¬(b=b+1):=ae
  have hby:w.heap.size<=b+1:=by have:=lJ.o;omega
  have T0:Touch (fun j=>j=b+1) wb wb.drew:=(Touch.refl _ wb).drew
  have Bd:Below wb.heap.size wb wb.drew:=(aO _ _).drew;have mW:=aI (fun(w':World) (hS':(Touch (fun j=>j=b+1) wb) w')=>(aP (((dO hS' 0 lb nb).trans FS0.o)) (aP (((dO hS' 1 lb nb).trans FS1.o)) (aP (((dO hS' 2 lb nb).trans FS2.o)) (aP (((dO hS' 3 lb nb).trans FS3.o)) (aP (((dO hS' 4 lb nb).trans FS4.o)) (aP (((dO hS' 5 lb nb).trans FS5.o)) (((dO hS' 6 lb nb).trans FS6.o)))))))))
  refine jh (Touch (fun j=>j=b+1) wb) (dV 1 3 (dV 6 2 (fJ 0 (dV 4 2 (fJ 8 (dV 9 1 [])))))) (T0) ?_
  iterate 5 refine eQ ?_
  refine fO fun K hK=>?_
  go_simp;refine(kW wb.drew).mono ?_
  rintro e ws ⟨rfl,hbs⟩;have Bs:Below wb.heap.size wb ws:=Bd.trans hbs;have Ts:Touch (fun j=>j=b+1) wb ws:=Touch.of_below Bs (aS _)
  have hb1:Below w.heap.size w ws:=hb.trans (Bs.mono hb.size);have C8:=aI (HM.o (b+1) ws hb1 hby (Y0.o.keep Bs));unfold mkV;refine hK _ _ (Ts) ?_
  clear hK K
  iterate 2 refine eQ ?_
  refine fO fun K hK=>?_
  go_simp;refine(C8.o).mono ?_
  rintro e wt ⟨rfl,hr,ht⟩;have Tt:Touch (fun j=>j=b+1) wb wt:=Ts.trans ht (fun _ h=>.inl h)
  have HR:=aI hr;have TT:=aI (hb.trans (Tt.below (fun j hj=>by rw[show j=b+1 from hj];exact hby) hb.size))
  refine hK _ _ (Tt) ?_
  clear hK K;refine eQ ?_
  refine dJ ?_
  have Td:Touch (fun j=>j=b+1) wb wt.drew:=Tt.drew
  have bd:Below wt.heap.size wt wt.drew:=(aO _ _).drew;have CS:=aI (HS.o (b+1) wt.drew (HK.o _ _ _ HR.o bd));have zt:=TT.o.size;clear C8
  go_upto_region 5 with fail;have mW:=aI (fun(w':World) (hS':(Touch (fun j=>j=b+1) wb) w')=>(aP (((dO hS' 0 lb nb).trans FS0.o)) (aP (((dO hS' 1 lb nb).trans FS1.o)) (aP (((dO hS' 2 lb nb).trans FS2.o)) (aP (((dO hS' 3 lb nb).trans FS3.o)) (aP (((dO hS' 4 lb nb).trans FS4.o)) (aP (((dO hS' 5 lb nb).trans FS5.o)) (aP (((dO hS' 6 lb nb).trans FS6.o)) (YJ.o w')))))))))
  refine jh (Touch (fun j=>j=b+1) wb) (dV 0 4 (dV 5 1 (fJ 4 (dV 6 2 [])))) (Td) ?_
  iterate 5 refine eQ ?_
  refine fO fun K hK=>?_
  go_simp;refine(CS.o).mono ?_
  rintro e wu ⟨rfl,hbu⟩;have Tu:Touch (fun j=>j=b+1) wb wu:=tbl Td hbu
  have BU:=aI (TT.o.trans ((bd.trans hbu).mono zt));have RU:=aI (HK.o _ _ _ HR.o (bd.trans hbu));refine hK _ _ (Tu) ?_
  clear hK K
  iterate 2 refine eQ ?_
  refine dJ ?_
  go_wp2_with fail;refine bodyPost_ret (by simp[results,Tryz.results34,go_sem, *];try rfl) rfl ?_
  exact⟨rfl,BU.o⟩
end
end Go.Proofs.YtilcnjbpmoijmaaGreat.D
