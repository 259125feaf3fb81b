/- Parts of a proof: what its theorem reaches, words cut short. No condition of its own. -/
import Derived.Test.YtkiebccnpheloaaGreatPk20
set_option maxRecDepth 100000
set_option maxHeartbeats 16000000
set_option linter.unusedVariables false
set_option linter.unusedSimpArgs false
namespace Go.Proofs.YtkiebccnpheloaaGreat.D
open Go.RowKit
structure mg(a m:Nat)(l:List Pr):Prop where
 a0:100<=a
 a1:a<=5000
 m0:2<=m
 m1:m<=4096
 gY:iD l
 pos:gQ l
 key:∀p∈l,-((spans a).length:Int)<=p.1/\p.1<=((spans a).length:Int)
 sum:tot l<=4611686018427387904
theorem Iz{lo hi:Int}:∀{l:List Pr},iD l->(∀p∈l,lo<=p.1/\p.1<=hi)->lo<=hi+1->(l.length:Int)<=hi - lo+1
 | [],_,_,h=>by simp;omega
 | p::l,s,k,_=>by
  have s1:=aZ.1 s;have k0:=k p (aQ ..);have:=Iz (lo:=p.1+1) (hi:=hi) s1.2 (fun q hq=>⟨by have:=s1.1 q hq;omega,(k q (aV _ hq)).2⟩) ae
  simp only[aP];omega
theorem mg.len{a m:Nat}{l:List Pr}(h:mg a m l):l.length<=4201:=by
 have h2:=(xK h.a0 h.a1 (v:=0) ae).2
 have:=Iz h.gY h.key ae
 omega
theorem mg.ok{a m:Nat}{l:List Pr}(h:mg a m l):yw l:=⟨h.gY,h.pos,(fun p hp=>by have:=h.key p hp;have h2:=(xK h.a0 h.a1 (v:=0) ae).2;omega),h.sum,by have:=h.len;omega⟩
theorem mg.cut{a m:Nat}{l:List Pr}(h:mg a m l):yw (dW m l).1/\tot (dW m l).1=tot l/\(dW m l).1.length<=m/\0<=(dW m l).2/\(dW m l).2<=4611686018427387904:=by
 have hm:=h.m0;obtain⟨_,_,h3,h4,h5⟩:=Il (m:=m) ae h.gY h.pos
 refine⟨ab2 h.ok ae,h3,h4,h5,?_⟩
 have:=(jZ h.pos (l.length - m)).2;have:=h.sum;show D.tot (l.take (l.length - m))<=_
 omega
theorem am1{a:Nat}(ha:100<=a)(hb:a<=5000){v:Int}(h0:-9223372036854775808<v)(h1:v<=9223372036854775807):-((spans a).length:Int)<=xJ a v/\xJ a v<=((spans a).length:Int):=by
 have e1:=xK ha hb h1;have e2:=xK ha hb (v:=-v) ae
 unfold xJ
 split
 ·omega
 ·split<;>omega
def Oo(a:Nat)(l:List Pr)(v n:Int):Int:=if n=0 then 4 else if v=-9223372036854775808 then 5 else iR l (xJ a v) n
def Kq(a:Nat)(l:List Pr)(v n:Int):List Pr:=if Oo a l v n=0 then eQ (xJ a v) n l else l
def Oq(l t:List Pr):List Pr:=if gJ l t=0 then fA l t else l
theorem am2{a m:Nat}{l:List Pr}{v n:Int}(h:mg a m l)(v0:-9223372036854775808<=v)(v1:v<=9223372036854775807)(n0:0<=n):mg a m (Kq a l v n):=by
 unfold Kq
 split
 ·rename_i he
  unfold Oo at he
  split at he
  ·omega
  ·split at he
   ·omega
   ·have hk:=am1 h.a0 h.a1 (v:=v) ae v1
    have ho:=WY h.ok he n0 (by have:=h.len;omega)
    exact⟨h.a0,h.a1,h.m0,h.m1,ho.gY,ho.pos,Gm h.key hk,ho.tot⟩
 ·exact h
theorem ab6{a m:Nat}{l t:List Pr}(h:mg a m l)(ht:mg a m t):mg a m (Oq l t):=by
 unfold Oq
 split
 ·rename_i he
  unfold gJ at he
  split at he
  ·omega
  ·have e:=Ik h.gY ht.gY h.pos ht.pos
   have k:=xI (B:=((spans a).length:Int)) _ l t (aK _) h.key ht.key;rw[e] at k;exact⟨h.a0,h.a1,h.m0,h.m1,lM h.gY,kF h.pos ht.pos,k.2,by rw[nG];omega⟩
 ·exact h
def ScF(b a:Nat)(H:Ft)(w:World):Prop:=∃v,dH w b 345 #[.int .i64 a,v]/\dI (VJ 397) 0 w v (spans a)/\H b/\(∀k,v.ownBlock=some k->H k)/\∀k,H k->k<w.heap.size
theorem pz(b a:Nat):mQ (ScF b a) where
 stay:=fun⟨v,h1,h2,h3,h4,h5⟩ hk hz=>⟨v,(hk b h3).trans h1,h2.stay fun k e=>hk k (h4 k e),h3,h4,fun k h=>aU (h5 k h) hz⟩
 more:=fun⟨v,h1,h2,h3,h4,_⟩ h hl=>⟨v,h1,h2,h b h3,fun k e=>h k (h4 k e),hl⟩
 low:=fun⟨_,_,_,_,_,h5⟩=>h5
theorem ScF.at_{b a:Nat}{H:Ft}{w:World}(h:ScF b a H w):Fe 0 w b a:=by
 obtain⟨v,h1,h2,_⟩:=h;exact⟨bW _,v,h1,h2⟩
theorem am3{b a:Nat}{w w':World}(h:Fe w.heap.size w' b a):ScF b a (Gr (fun _=>False) w w') w':=by
 obtain⟨h1,v,h2,h3⟩:=h;exact⟨v,h2,h3.more (bW _),.inr ⟨h1,h2.lt⟩,fun k e=>.inr (h3.lt k e),fun k h=>h.elim False.elim And.right⟩
def vU(d a m:Nat)(l:List Pr)(F:Ft)(w:World):Prop:=∃b c H G,dH w d 245 #[.pointer (some ⟨b,0,none⟩),.pointer (some ⟨c,0,none⟩)]/\ScF b a H w/\Iw c m (dW m l).1 (dW m l).2 G w/\F d/\(∀k,H k->F k)/\(∀k,G k->F k)/\¬G d/\(∀k,H k->¬G k)/\∀k,F k->k<w.heap.size
theorem pF(d a m:Nat)(l:List Pr):mQ (vU d a m l) where
 stay:=fun⟨b,c,H,G,h1,h2,h3,h4,h5,h6,h7,h8,h9⟩ hk hz=>⟨b,c,H,G,(hk d h4).trans h1,(pz b a).stay h2 (fun k e=>hk k (h5 k e)) hz,(pg _ _ _ _).stay h3 (fun k e=>hk k (h6 k e)) hz,h4,h5,h6,h7,h8,fun k h=>aU (h9 k h) hz⟩
 more:=fun⟨b,c,H,G,h1,h2,h3,h4,h5,h6,h7,h8,_⟩ h hl=>⟨b,c,H,G,h1,h2,h3,h d h4,fun k e=>h k (h5 k e),fun k e=>h k (h6 k e),h7,h8,hl⟩
 low:=fun⟨_,_,_,_,_,_,_,_,_,_,_,_,h9⟩=>h9
def z_(P:Ft->World->Prop)(F:Ft)(er:Int)(w:World)(e:Ending)(w':World):Prop:=e=.returned (.int .i64 er)/\P (Gr F w w') w'/\Touch F w w'
theorem jO{P:Ft->World->Prop}(S:mQ P){F:Ft}{er:Int}{w w':World}{e:Ending}(h:P F w)(he:e=.returned (.int .i64 er))(hb:Below w.heap.size w w'):z_ P F er w e w':=
 ⟨he,S.more (S.keep h hb) (fun _ h=>.inl h) (jI (S.low h) hb.size),Touch.of_below hb (aK _)⟩
theorem am4(a m:Nat)(w:World)(h0:100<=a)(h1:a<=5000)(h2:2<=m)(h3:m<=4096) :
 Calls Tryz.prog 228 #[.int .i64 a,.int .i64 m] w fun e w'=>∃d,e=.returned (.tuple #[.pointer (some ⟨d,0,none⟩),.int .i64 0])/\vU d a m [] (Gr (fun _=>False) w w') w'/\Below w.heap.size w w':=by
 go_enter Tryz.func228,Tryz.ntmps228
 go_wp2_with fail;refine(TA a w h0 h1).mono ?_
 rintro e w1 ⟨b,rfl,s1,hb1⟩;have hz1:=hb1.size;have S1:=aB (am3 s1);clear s1
 go_wp2_with fail;refine(al9 m w1 h2 h3).mono ?_
 rintro e w2 ⟨c,rfl,s2,hb2⟩;have hz2:=hb2.size;have S2:=aB s2;clear s2
 go_wp2_with fail
 go_ret2
 have hb3:Below w2.heap.size w2 (w2.alloc (.cells #[.pointer (some ⟨b,0,none⟩),.pointer (some ⟨c,0,none⟩)] 245)):=bw;refine⟨_,rfl,⟨b,c,Gr (fun _=>False) w w1,Gr (fun _=>False) w1 w2,dH.new _ _ _,(pz b a).keep S1.out (hb2.trans (hb3.mono hz2)),?_,.inr ⟨by omega,ag⟩,fun k h=>.inr ⟨(h.elim False.elim And.left),?_⟩,fun k h=>.inr ⟨?_,?_⟩,?_,fun k h h'=>?_,fun k h=>h.elim False.elim And.right⟩,bw⟩
 ·have:dW m []=([],0):=lT ag
  rw[this];exact(pg _ _ _ _).keep S2.out hb3
 ·have:=(pz b a).low S1.out k h;simp;omega
 ·have:=(h.elim False.elim And.left);omega
 ·have:=(pg _ _ _ _).low S2.out k h;simp;omega
 ·intro h;have:=(pg _ _ _ _).low S2.out _ h;omega
 ·have h1:=(pz b a).low S1.out k h
  have h2:=(h'.elim False.elim And.left);omega
section
variable {d a m : Nat} {l : List Pr} {F : Ft}
theorem yU(w:World)(h:vU d a m l F w):Calls Tryz.prog 70 #[.pointer (some ⟨d,0,none⟩)] w fun e w'=>e=.returned (.int .i64 a)/\w=w':=by
 obtain⟨b,c,H,G,hB,hS,_⟩:=h;have C:=aB (ab3 w hS.at_);have k0:=hB.cell 0;simp only[aF,aC] at k0;clear hB hS
 go_enter Tryz.func70,Tryz.ntmps70
 go_wp2_with fail;refine(C.out).mono ?_
 rintro e w' ⟨rfl,rfl⟩
 go_wp2_with fail
 go_ret;exact⟨rfl,rfl⟩
theorem uC(w:World)(h:vU d a m l F w):Calls Tryz.prog 71 #[.pointer (some ⟨d,0,none⟩)] w fun e w'=>e=.returned (.int .i64 m)/\w=w':=by
 obtain⟨b,c,H,G,hB,_,hC,_⟩:=h;obtain⟨g,hR⟩:=hC.r;obtain⟨G',hR,_⟩:=hR;have C:Hid (Calls Tryz.prog 163 #[.pointer (some ⟨c,0,none⟩)] w fun e w'=>e=.returned (.int .i64 m)/\w=w'):=by
  have k0:=hR.cell 0;simp only[aF,aC] at k0;clear hR hC hB;refine aB ?_
  go_enter Tryz.func163,Tryz.ntmps163
  go_wp2_with fail
  go_ret;exact⟨rfl,rfl⟩
 have k1:=hB.cell 1;simp only[aF,aC,aG] at k1;clear hB hR hC
 go_enter Tryz.func71,Tryz.ntmps71
 go_wp2_with fail;refine(C.out).mono ?_
 rintro e w' ⟨rfl,rfl⟩
 go_wp2_with fail
 go_ret;exact⟨rfl,rfl⟩
theorem TN(w:World)(h:vU d a m l F w):Calls Tryz.prog 150 #[.pointer (some ⟨d,0,none⟩)] w fun e w'=>e=.returned (.int .u64 (dW m l).2)/\w=w':=by
 obtain⟨b,c,H,G,hB,_,hC,_⟩:=h;obtain⟨g,hR⟩:=hC.r;obtain⟨G',hR,_⟩:=hR;have C:Hid (Calls Tryz.prog 252 #[.pointer (some ⟨c,0,none⟩)] w fun e w'=>e=.returned (.int .u64 (dW m l).2)/\w=w'):=by
  have k0:=hR.cell 2;simp only[aF,aC,aG] at k0;clear hR hC hB;refine aB ?_
  go_enter Tryz.func252,Tryz.ntmps252
  go_wp2_with fail
  go_ret;exact⟨rfl,rfl⟩
 have k1:=hB.cell 1;simp only[aF,aC,aG] at k1;clear hB hR hC
 go_enter Tryz.func150,Tryz.ntmps150
 go_wp2_with fail;refine(C.out).mono ?_
 rintro e w' ⟨rfl,rfl⟩
 go_wp2_with fail
 go_ret;exact⟨rfl,rfl⟩
theorem Xk(w:World)(h:vU d a m l F w)(ok:mg a m l):Calls Tryz.prog 124 #[.pointer (some ⟨d,0,none⟩)] w fun e w'=>e=.returned (.int .u64 (tot l))/\w=w':=by
 obtain⟨b,c,H,G,hB,_,hC,_⟩:=h;obtain⟨g,G',hR,hS⟩:=hC.r;have C0:=aB (Oj w hS);rw[ok.cut.2.1] at C0;have C:Hid (Calls Tryz.prog 219 #[.pointer (some ⟨c,0,none⟩)] w fun e w'=>e=.returned (.int .u64 (tot l))/\w=w'):=by
  have k0:=hR.cell 1;simp only[aF,aC,aG] at k0;clear hR hC hB hS;refine aB ?_
  go_enter Tryz.func219,Tryz.ntmps219
  go_wp2_with fail;refine(C0.out).mono ?_
  rintro e w' ⟨rfl,rfl⟩
  go_wp2_with fail
  go_ret;exact⟨rfl,rfl⟩
 have k1:=hB.cell 1;simp only[aF,aC,aG] at k1;clear hB hR hC hS
 go_enter Tryz.func124,Tryz.ntmps124
 go_wp2_with fail;refine(C.out).mono ?_
 rintro e w' ⟨rfl,rfl⟩
 go_wp2_with fail
 go_ret;exact⟨rfl,rfl⟩
theorem Xl(w:World)(h:vU d a m l F w)(ok:mg a m l):Calls Tryz.prog 149 #[.pointer (some ⟨d,0,none⟩)] w fun e w'=>∃v,e=.returned v/\dI fU w.heap.size w' v (dW m l).1/\Below w.heap.size w w':=by
 obtain⟨b,c,H,G,hB,_,hC,_⟩:=h;obtain⟨g,G',hR,hS⟩:=hC.r;have C0:=aB (Gn w hS ok.cut.1.len);have C:Hid (Calls Tryz.prog 251 #[.pointer (some ⟨c,0,none⟩)] w fun e w'=>∃v,e=.returned v/\dI fU w.heap.size w' v (dW m l).1/\Below w.heap.size w w'):=by
  have k0:=hR.cell 1;simp only[aF,aC,aG] at k0;clear hR hC hB hS;refine aB ?_
  go_enter Tryz.func251,Tryz.ntmps251
  go_wp2_with fail;refine(C0.out).mono ?_
  rintro e w1 ⟨v1,rfl,o1,hb1⟩
  go_wp2_with fail
  go_ret;exact⟨_,rfl,o1,hb1⟩
 have k1:=hB.cell 1;simp only[aF,aC,aG] at k1;clear hB hR hC hS
 go_enter Tryz.func149,Tryz.ntmps149
 go_wp2_with fail;refine(C.out).mono ?_
 rintro e w1 ⟨v1,rfl,o1,hb1⟩
 go_wp2_with fail
 go_ret;exact⟨_,rfl,o1,hb1⟩
end
open Go.RowKit
theorem Gq{P:Ft->World->Prop}(S:mQ P){F:Ft}{er:Int}{w w1 w':World}{e:Ending}(hb:Below w.heap.size w w1)(h0:∀k,F k->k<w.heap.size)(hm:z_ P F er w1 e w'):z_ P F er w e w':=
 ⟨hm.1,S.more hm.2.1 (fun k h=>h.imp id fun h=>⟨bG hb.size h.1,h.2⟩) (jI h0 (bG hb.size hm.2.2.size)),Iq hb hm.2.2⟩
theorem TP{l l':List Pr}(h:tot l=tot l')(k n:Int):iR l k n=iR l' k n:=by unfold iR;rw[h]
theorem Ot{l l' t t':List Pr}(h:tot l=tot l')(h':tot t=tot t'):gJ l t=gJ l' t':=by unfold gJ;rw[h,h']
theorem QV{d a m b c:Nat}{l':List Pr}{F H G:Ft}{w w':World}(hB:dH w d 245 #[.pointer (some ⟨b,0,none⟩),.pointer (some ⟨c,0,none⟩)])(hS:ScF b a H w)(Xm:F d)(hH:∀k,H k->F k)(hG:∀k,G k->F k)(QW:¬G d)(VM:∀k,H k->¬G k)(hF:∀k,F k->k<w.heap.size)
 (hc:Iw c m (dW m l').1 (dW m l').2 (Gr G w w') w') (ht:Touch G w w'):vU d a m l' (Gr F w w') w'/\Touch F w w':=
 ⟨⟨b,c,H,Gr G w w',(ht.block d hB.lt QW).trans hB,(pz b a).far hS ht VM,hc,.inl Xm,fun k h=>.inl (hH k h),fun k h=>h.imp (hG k) id,fun h=>h.elim QW (fun h=>by have:=hB.lt;omega),fun k h h'=>h'.elim (VM k h) (fun h'=>by have:=(pz b a).low hS k h;omega),jI hF ht.size⟩,ht.mono hG⟩
theorem am5{d a m:Nat}{l:List Pr}{F:Ft}(v n:Int)(w:World)(h:vU d a m l F w)(ok:mg a m l)(v0:-9223372036854775808<=v)(v1:v<=9223372036854775807)(n0:0<=n)(n1:n<18446744073709551616) :
 Calls Tryz.prog 132 #[.pointer (some ⟨d,0,none⟩),.int .i64 v,.int .u64 n] w (z_ (vU d a m (Kq a l v n)) F (Oo a l v n) w):=by
 have HH:=aB h;obtain⟨b,c,H,G,hB,hS,hC,Xm,hH,hG,QW,VM,hF⟩:=h;have k0:=hB.cell 0;have k1:=hB.cell 1;simp only[aF,aC,aG] at k0 k1;have hdl:=hB.lt;have X:=aB (aN hB (aN hS (aN hC (aN Xm (aN hH (aN hG (aN QW (aN VM hF))))))));clear hB hC Xm hH hG QW VM hF
 by_cases hn:n=0
 ·have e1:Oo a l v n=4:=if_pos hn
  have e2:Kq a l v n=l:=by unfold Kq;rw[e1];rfl
  rw[e1,e2];clear e1 e2 hS
  go_enter Tryz.func132,Tryz.ntmps132
  go_wp2_with fail
  go_ret;exact jO (pF d a m l) HH.out rfl (aH _ _)
 ·by_cases hv:v=-9223372036854775808
  ·subst hv
   have e1:Oo a l (-9223372036854775808) n=5:=by unfold Oo;rw[if_neg hn,if_pos rfl]
   have e2:Kq a l (-9223372036854775808) n=l:=by unfold Kq;rw[e1];rfl
   rw[e1,e2];have CK:=aB (ab5 w hS.at_);clear e1 e2 hS
   go_enter Tryz.func132,Tryz.ntmps132
   go_wp2_with fail;refine(CK.out).mono ?_
   rintro e w1 ⟨rfl,hb1⟩
   go_wp2_with fail
   go_ret;exact jO (pF d a m l) HH.out rfl hb1
  ·have e1:Oo a l v n=iR l (xJ a v) n:=by unfold Oo;rw[if_neg hn,if_neg hv]
   have HE2:Hid (Kq a l v n=if iR l (xJ a v) n=0 then eQ (xJ a v) n l else l):=aB (by unfold Kq;rw[e1])
   rw[e1];have CK:=aB (ab4 v w hS.at_ ok.a0 ok.a1 ae v1)
   obtain⟨k1',k2',k3',k4',k5'⟩:=ok.cut;have hk:=av5 ok.a0 ok.a1 (v:=v) ae v1
   have Xc:=aB (WS (m:=m) (by have:=ok.m0;omega) ok.gY ok.pos (xJ a v) n ae)
   have CA:Hid (∀w1,Below w.heap.size w w1->_):=aB (fun w1 hb=>Xe (k:=xJ a v) (n:=n) w1 ((pg _ _ _ _).keep X.out.2.2.1 hb) k1' k3' ok.m0 ok.m1 k4' k5' n0 n1)
   rw[TP k2'] at CA;generalize xJ a v=k at *;generalize iR l k n=er at *;clear hS e1 k1' k2' k3' k4' k5'
   go_enter Tryz.func132,Tryz.ntmps132
   go_wp2_with fail;refine(CK.out).mono ?_
   rintro e w1 ⟨rfl,hb1⟩;have bm8:=(hb1.cell (p:=⟨d,1,none⟩) hdl).trans k1
   go_wp2_with fail;refine(CA.out w1 hb1).mono ?_
   intro e w' hp;have HP:=aB hp;obtain⟨rfl,_⟩:=hp
   go_wp2_with fail
   go_ret;obtain⟨_,h1,h2⟩:=HP.out;obtain⟨hB,hS,hC,Xm,hH,hG,QW,VM,hF⟩:=X.out;rw[HE2.out]
   by_cases he:er=0
   ·rw[if_pos he]
    obtain⟨h3,h4⟩:=h1 he;rw[Xc.out] at h3;have hS1:=(pz b a).keep hS hb1;obtain⟨h5,h6⟩:=QV (hB.keep hb1) hS1 Xm hH hG QW VM (fun k h=>aU (hF k h) hb1.size) h3 h4
    exact Gq (pF d a m _) hb1 hF ⟨rfl,h5,h6⟩
   ·rw[if_neg he]
    exact jO (pF d a m l) HH.out rfl (hb1.trans ((h2 he).mono hb1.size))
theorem ab7{d d2 a m:Nat}{l l2:List Pr}{F F2:Ft}(w:World)(h:vU d a m l F w)(h2:vU d2 a m l2 F2 w)(ok:mg a m l)(ok2:mg a m l2)(hd:(∀k,F2 k->¬F k)\/d2=d) :
 Calls Tryz.prog 76 #[.pointer (some ⟨d,0,none⟩),.pointer (some ⟨d2,0,none⟩)] w (z_ (vU d a m (Oq l l2)) F (gJ l l2) w):=by
 have HH:=aB h;have CA1:=aB (yU w h);have CA2:=aB (yU w h2);obtain⟨b,c,H,G,hB,hS,hC,Xm,hH,hG,QW,VM,hF⟩:=h;obtain⟨b2,c2,H2,G2,hB2,_,hC2,av6,_,hG2,_⟩:=h2;have hco:¬G c2\/c2=c:=by
  rcases hd with hd|rfl
  ·left
   obtain⟨_,_,_,_,hc,_⟩:=hC2;exact fun h=>hd c2 (hG2 c2 hc) (hG c2 h)
  ·right
   have e:=hB.cell 1;rw[hB2.cell 1] at e
   simpa using e
 obtain⟨o1,o2,o3,o4,o5⟩:=ok.cut;obtain⟨p1,p2,p3,p4,p5⟩:=ok2.cut;have CT:Hid (∀w1,Below w.heap.size w w1->_):=aB (fun w1 hb=>TJ w1 ((pg _ _ _ _).keep hC hb) (hC2.r.keep hb) o1 p1 o3 (by have:=ok2.m1;omega) ok.m0 ok.m1 o4 o5 p4 p5 hco ok.m1)
 rw[if_pos rfl,Ot o2 p2] at CT;have HMS:=aB (JV (m:=m) (by have:=ok.m0;omega) ok.gY ok.pos ok2.gY ok2.pos)
 have k1:=hB.cell 1;have k2:=hB2.cell 1;simp only[aF,aC,aG] at k1 k2;have hdl:=hB.lt;have av7:=hB2.lt;have av8:¬G d2:=fun h=>by
  rcases hd with hd|rfl
  ·exact hd d2 av6 (hG d2 h)
  ·exact QW h
 have HE2:Hid (Oq l l2=if gJ l l2=0 then fA l l2 else l):=aB rfl
 have X:=aB (aN hB (aN hS (aN Xm (aN hH (aN hG (aN QW (aN VM hF)))))));have K:=aB (aN k1 k2);clear hB hS hC hB2 hC2 Xm hH hG hF VM ok ok2 o1 o2 o3 o4 o5 p1 p2 p3 p4 p5 hd hco k1 k2 av6 hG2;generalize gJ l l2=er at *;have had:((a:Int) != (a:Int))=false:=ag
 have HKK:Hid (w.cell? ⟨d,1,none⟩=some (.pointer (some ⟨c,0,none⟩))/\w.cell? ⟨d2,1,none⟩=some (.pointer (some ⟨c2,0,none⟩))):=K;clear K
 go_enter Tryz.func76,Tryz.ntmps76
 go_wp2_with fail;refine(CA2.out).mono ?_
 rintro e w' ⟨rfl,rfl⟩
 go_wp2_with fail;refine(CA1.out).mono ?_
 rintro e w' ⟨rfl,rfl⟩
 go_wp2_with fail;refine dD (Touch G w) [(0,true),(1,true),(2,true),(3,true),(4,true),(5,true),(6,true),(7,true),(8,false),(9,true)] (by kernel_rfl) (by kernel_rfl) ((Touch.refl _ _).drew) ?_
 iterate 8
  refine dC ax  ax (fun R hR=>?_)
  apply aJ
  refine⟨fun w' hS'=>?_,?_⟩
  ·have k1:=(eG hS' 1 hdl QW).trans HKK.out.1
   have k2:=(eG hS' 1 av7 av8).trans HKK.out.2
   go_simp;exact⟨rfl,rfl⟩
  go_simp;refine hR _ ?_;clear hR R
 refine dE ax  ax (fun K hK=>?_)
 go_simp;refine(CT.out w.drew (aH _ _).drew).mono ?_
 intro e w3 hp;have HP:=aB hp;have T3:Touch G w w3:=(by by_cases he:er=0;exact Iq (aH _ _).drew ((hp.2.1 he).2);exact Touch.of_below ((aH _ _).drew.trans (hp.2.2 he)) (aK _))
 obtain⟨rfl,_⟩:=hp;refine hK _ _ (T3) ?_
 clear hK K
 iterate 1
  refine dC ax  ax (fun R hR=>?_)
  apply aJ
  refine⟨fun w' hS'=>?_,?_⟩
  ·have k1:=(eG hS' 1 hdl QW).trans HKK.out.1
   have k2:=(eG hS' 1 av7 av8).trans HKK.out.2
   go_simp;exact⟨rfl,rfl⟩
  go_simp;refine hR _ ?_;clear hR R
 refine dF ?_
 go_wp2_with fail
 go_ret;obtain⟨_,h1,h2⟩:=HP.out;obtain⟨hB,hS,Xm,hH,hG,QW,VM,hF⟩:=X.out;rw[HE2.out];have hb1:Below w.heap.size w w.drew:=(aH _ _).drew
 by_cases he:er=0
 ·rw[if_pos he]
  obtain⟨h3,h4⟩:=h1 he;rw[show kX m ((dW m l).1,(dW m l).2) ((dW m l2).1,(dW m l2).2) (fA (dW m l).1 (dW m l2).1)=dW m (fA l l2) from HMS.out] at h3
  obtain⟨h5,h6⟩:=QV (hB.keep hb1) ((pz b a).keep hS hb1) Xm hH hG QW VM hF h3 h4;exact Gq (pF d a m _) hb1 hF ⟨rfl,h5,h6⟩
 ·rw[if_neg he]
  exact jO (pF d a m l) HH.out rfl (hb1.trans (h2 he))
def xM(y a m:Nat)(l:List Pr)(F:Ft)(w:World):Prop:=∃rv v,dH w y 167 #[rv,.int .i64 a,.int .i64 m,v]/\dI (VJ 187) 0 w rv (spans a)/\dI fU 0 w v l/\F y/\(∀k,rv.ownBlock=some k->F k)/\(∀k,v.ownBlock=some k->F k)/\∀k,F k->k<w.heap.size
theorem Dv(y a m:Nat)(l:List Pr):mQ (xM y a m l) where
 stay:=fun⟨rv,v,h1,h2,h3,h4,h5,h6,h7⟩ hk hz=>⟨rv,v,(hk y h4).trans h1,h2.stay fun k e=>hk k (h5 k e),h3.stay fun k e=>hk k (h6 k e),h4,h5,h6,fun k h=>aU (h7 k h) hz⟩
 more:=fun⟨rv,v,h1,h2,h3,h4,h5,h6,_⟩ h hl=>⟨rv,v,h1,h2,h3,h y h4,fun k e=>h k (h5 k e),fun k e=>h k (h6 k e),hl⟩
 low:=fun⟨_,_,_,_,_,_,_,_,h7⟩=>h7
theorem ab8(a m:Nat)(w:World)(h0:100<=a)(h1:a<=5000)(h2:2<=m)(h3:m<=4096) :
 Calls Tryz.prog 80 #[.int .i64 a,.int .i64 m] w fun e w'=>∃y,e=.returned (.pointer (some ⟨y,0,none⟩))/\xM y a m [] (Gr (fun _=>False) w w') w'/\Below w.heap.size w w':=by
 go_enter Tryz.func80,Tryz.ntmps80
 go_wp2_with fail;refine(jC a w h0 h1).mono ?_
 rintro e w1 ⟨v,rfl,o1,hb1⟩;have hz1:=hb1.size;have O1:=aB o1;obtain⟨A,c,rfl,_,_,_⟩:=o1.form;clear o1
 go_wp2_with fail
 go_ret;have hb3:Below w1.heap.size w1 (w1.alloc (.cells #[.slice A (spans a).length c,.int .i64 a,.int .i64 m,.slice none 0 0] 167)):=bw;exact⟨_,rfl,⟨_,.slice none 0 0,dH.new _ _ _,(O1.out.keep hb3).more (bW _),dI.nil_ _ _,.inr ⟨by omega,ag⟩,fun k e=>.inr ⟨(O1.out.lt k e).1,by have:=(O1.out.lt k e).2;simp;omega⟩,(fun k e=>by cases e),fun k h=>h.elim False.elim And.right⟩,bw⟩
open Go.RowKit
theorem Kr{y a m:Nat}{l':List Pr}{F:Ft}{w w2:World}{rv v v':Value}(hB:dH w y 167 #[rv,.int .i64 a,.int .i64 m,v])(hR:dI (VJ 187) 0 w rv (spans a))(Jj:F y)(hr:∀k,rv.ownBlock=some k->F k)(hF:∀k,F k->k<w.heap.size)
 (hb:Below w.heap.size w w2) (hO:dI fU 0 w2 v' l') (hv:∀k,v'.ownBlock=some k->F k\/w.heap.size<=k):xM y a m l' (Gr F w (w2.setCell ⟨y,3,none⟩ v')) (w2.setCell ⟨y,3,none⟩ v')/\Touch F w (w2.setCell ⟨y,3,none⟩ v'):=by
 have hne:=own_ne hB hR af
 have hne':=own_ne (hB.keep hb) hO af
 have t2:Touch F w (w2.setCell ⟨y,3,none⟩ v'):=(Touch.of_below (F:=F) hb (aK _)).setCell (p:=⟨y,3,none⟩) (.inl Jj) v';refine⟨⟨rv,v',(hB.keep hb).dP 3 v',(hR.keep hb).far hne _,hO.far hne' _,.inl Jj,fun k e=>.inl (hr k e),fun k e=>(hv k e).imp id fun h=>⟨h,?_⟩,jI hF t2.size⟩,t2⟩
 have:=hO.lt k e
 simpa using this.2
theorem ab9{y a m:Nat}{l:List Pr}{F:Ft}(v n:Int)(w:World)(h:xM y a m l F w)(ok:mg a m l)(v0:-9223372036854775808<=v)(v1:v<=9223372036854775807)(n0:0<=n)(n1:n<18446744073709551616) :
 Calls Tryz.prog 175 #[.pointer (some ⟨y,0,none⟩),.int .i64 v,.int .u64 n] w (z_ (xM y a m (Kq a l v n)) F (Oo a l v n) w):=by
 have HH:=aB h
 by_cases hn:n=0
 ·have e1:Oo a l v n=4:=if_pos hn
  have e2:Kq a l v n=l:=by unfold Kq;rw[e1];rfl
  rw[e1,e2];clear e1 e2 h;subst hn
  go_enter Tryz.func175,Tryz.ntmps175
  go_wp2_with fail
  go_ret;exact jO (Dv y a m l) HH.out rfl (aH _ _)
 ·by_cases hv:v=-9223372036854775808
  ·subst hv
   have e1:Oo a l (-9223372036854775808) n=5:=by unfold Oo;rw[if_neg hn,if_pos rfl]
   have e2:Kq a l (-9223372036854775808) n=l:=by unfold Kq;rw[e1];rfl
   rw[e1,e2];clear e1 e2 h
   go_enter Tryz.func175,Tryz.ntmps175
   go_wp2_with fail
   go_ret;exact jO (Dv y a m l) HH.out rfl (aH _ _)
  ·have e1:Oo a l v n=iR l (xJ a v) n:=by unfold Oo;rw[if_neg hn,if_neg hv]
   have HE2:Hid (Kq a l v n=if iR l (xJ a v) n=0 then eQ (xJ a v) n l else l):=aB (by unfold Kq;rw[e1])
   rw[e1];obtain⟨rv,u,hB,hR,hO,Jj,hr,hu,hF⟩:=h;have CK:Hid (∀w1,Below w.heap.size w w1->_):=aB (fun w1 hb=>Xj rv v w1 ((hR.keep hb).rd) ok.a0 ok.a1 ae v1)
   have CA:Hid (∀w1,Below w.heap.size w w1->_):=aB (fun w1 hb=>Om u (xJ a v) n l w1 ((hO.keep hb).rd) ok.pos n0 n1 ok.sum (by have:=ok.len;omega))
   have k0:=hB.cell 0;have k3:=hB.cell 3;simp only[aF,aC,aG] at k0 k3;have hyl:=hB.lt;have X:=aB (aN hB (aN hR (aN hO (aN Jj (aN hr (aN hu hF))))));obtain⟨A,c,rfl,_,_,_⟩:=hO.form;obtain⟨A1,c1,rfl,_,_,_⟩:=hR.form;clear hB hR hO Jj hr hu hF e1;generalize xJ a v=k at *;generalize iR l k n=er at *;rw[HE2.out];obtain⟨L7,hL7⟩:∃x,(if er=0 then eQ k n l else l)=x:=⟨_,rfl⟩
   rw[hL7];have HL:=aB hL7;clear hL7 HE2;have KK:=aB (aN k0 k3);clear k0 k3
   go_enter Tryz.func175,Tryz.ntmps175
   go_wp2_with fail;refine dD (Below w.heap.size w) [(0,true),(1,true),(2,true),(3,true),(4,true),(5,true),(6,true),(7,true),(8,true),(10,true),(9,false),(11,false),(12,true),(13,true),(14,true),(15,true),(16,true)] (by kernel_rfl) (by kernel_rfl) ((aH _ _).drew) ?_
   iterate 10
    refine dC ax  ax (fun R hR=>?_)
    apply aJ
    refine⟨fun w' hS'=>?_,?_⟩
    ·have k0:=(hS'.cell (p:=⟨y,0,none⟩) hyl).trans KK.out.1
     have k3:=(hS'.cell (p:=⟨y,3,none⟩) hyl).trans KK.out.2
     go_simp;exact⟨rfl,rfl⟩
    go_simp;refine hR _ ?_;clear hR R
   refine dE ax  ax (fun K hK=>?_)
   go_simp;refine(CK.out w.drew (aH _ _).drew).mono ?_
   rintro e w1 ⟨rfl,rfl⟩;refine hK _ _ ((aH _ _).drew) ?_
   clear hK K;refine dE ax  ax (fun K hK=>?_)
   go_simp;refine(CA.out w.drew (aH _ _).drew).mono ?_
   intro e w3 hp;have HP:=aB hp;obtain⟨v3,rfl,_,_,hb3⟩:=hp;have B3:Below w.heap.size w w3:=(aH _ _).drew.trans hb3;refine hK _ _ (B3) ?_
   clear hK K
   iterate 5
    refine dC ax  ax (fun R hR=>?_)
    apply aJ
    refine⟨fun w' hS'=>?_,?_⟩
    ·have k0:=(hS'.cell (p:=⟨y,0,none⟩) hyl).trans KK.out.1
     have k3:=(hS'.cell (p:=⟨y,3,none⟩) hyl).trans KK.out.2
     go_simp;exact⟨rfl,rfl⟩
    go_simp;refine hR _ ?_;clear hR R
   refine dF ?_
   have xu:Hid (dI fU 0 w3 v3 L7/\∀j,v3.ownBlock=some j->F j\/w.heap.size<=j):=aB (by
    rw[<-HL.out];obtain⟨v3',he3,h1,h2,_⟩:=HP.out;simp only[Ending.returned.injEq,Value.tuple.injEq] at he3;have:v3=v3':=by simpa using he3
    subst this
    by_cases he:er=0
    ·rw[if_pos he]
     exact⟨(h1 he).more (bW _),fun j e=>.inr ((h1 he).lt j e).1⟩
    ·rw[if_neg he]
     obtain rfl:=h2 he;exact⟨X.out.2.2.1.keep B3,fun j e=>.inl (X.out.2.2.2.2.2.1 j e)⟩)
   have k3:=(X.out.1.keep B3).cell 3;have f3:=(X.out.1.keep B3).frozen 3;simp only[aF,aC,aG] at k3;obtain⟨A7,c7,rfl,_,_,_⟩:=xu.out.1.form;clear HP
   go_wp2_with fail
   go_ret;obtain⟨hB,hR,hO,Jj,hr,hu,hF⟩:=X.out;exact⟨rfl,Kr hB hR Jj hr hF B3 xu.out.1 xu.out.2⟩
theorem Xn{y y2 a m:Nat}{l l2:List Pr}{F F2:Ft}(w:World)(h:xM y a m l F w)(h2:xM y2 a m l2 F2 w)(ok:mg a m l)(ok2:mg a m l2) :
 Calls Tryz.prog 92 #[.pointer (some ⟨y,0,none⟩),.pointer (some ⟨y2,0,none⟩)] w (z_ (xM y a m (Oq l l2)) F (gJ l l2) w):=by
 have HE2:Hid (Oq l l2=if gJ l l2=0 then fA l l2 else l):=aB rfl
 obtain⟨rv,u,hB,hR,hO,Jj,hr,hu,hF⟩:=h;obtain⟨rv2,u2,hB2,_,hO2,_,_,_,_⟩:=h2;have CA:Hid (∀w1,Below w.heap.size w w1->_):=aB (fun w1 hb=>J_ u u2 l l2 w1 ((hO.keep hb).rd) ((hO2.keep hb).rd) ok.pos ok2.pos ok.sum ok2.sum (by have:=ok.len;have:=ok2.len;omega))
 have k1:=hB.cell 1;have k2:=hB.cell 2;have k3:=hB.cell 3;have j1:=hB2.cell 1;have j2:=hB2.cell 2;have j3:=hB2.cell 3;simp only[aF,aC,aG] at k1 k2 k3 j1 j2 j3;have hyl:=hB.lt;have av9:=hB2.lt;have hem:l2=[]->fA l l2=l:=fun h=>by rw[h];exact qV _
 have X:=aB (aN hB (aN hR (aN hO (aN Jj (aN hr (aN hu hF))))));obtain⟨A,c,rfl,_,_,_⟩:=hO.form;obtain⟨A2,c2,rfl,_,_,_⟩:=hO2.form;clear hB hR hO Jj hr hu hF hB2 hO2 ok ok2;have HEM:=aB hem;clear hem;generalize gJ l l2=er at *;rw[HE2.out];obtain⟨L7,hL7⟩:∃x,(if er=0 then fA l l2 else l)=x:=⟨_,rfl⟩
 rw[hL7];have HL:=aB hL7;clear hL7 HE2;have had:((a:Int) != (a:Int))=false:=ag
 have hmd:((m:Int) != (m:Int))=false:=ag
 have KK:=aB (aN k3 j3)
 go_enter Tryz.func92,Tryz.ntmps92
 go_upto_region 1 with fail
 go_quiet (fail)
 clear k1 k2 k3 j1 j2 j3
 go_wp2_with fail;refine dD (Below w.heap.size w) [(0,true),(1,true),(2,true),(3,true),(4,true),(5,true),(6,true),(7,true),(8,false),(9,true),(10,true),(11,true),(12,true),(13,true)] (by kernel_rfl) (by kernel_rfl) ((below_drewN (aH _ _) nq).drew) ?_
 iterate 8
  refine dC ax  ax (fun R hR=>?_)
  apply aJ
  refine⟨fun w' hS'=>?_,?_⟩
  ·have k0:=(hS'.cell (p:=⟨y,3,none⟩) hyl).trans KK.out.1
   have k3:=(hS'.cell (p:=⟨y2,3,none⟩) av9).trans KK.out.2
   go_simp;exact⟨rfl,rfl⟩
  go_simp;refine hR _ ?_;clear hR R
 refine dE ax  ax (fun K hK=>?_)
 go_simp;refine(CA.out _ (below_drewN (aH _ _) nq).drew).mono ?_
 intro e w3 hp;have HP:=aB hp;obtain⟨v3,rfl,_,_,hb3⟩:=hp;have B3:Below w.heap.size w w3:=(below_drewN (aH _ _) nq).drew.trans hb3;refine hK _ _ (B3) ?_
 clear hK K
 iterate 5
  refine dC ax  ax (fun R hR=>?_)
  apply aJ
  refine⟨fun w' hS'=>?_,?_⟩
  ·have k0:=(hS'.cell (p:=⟨y,3,none⟩) hyl).trans KK.out.1
   have k3:=(hS'.cell (p:=⟨y2,3,none⟩) av9).trans KK.out.2
   go_simp;exact⟨rfl,rfl⟩
  go_simp;refine hR _ ?_;clear hR R
 refine dF ?_
 have xu:Hid (dI fU 0 w3 v3 L7/\∀j,v3.ownBlock=some j->F j\/w.heap.size<=j):=aB (by
  rw[<-HL.out];obtain⟨v3',he3,h1,h2,_⟩:=HP.out;simp only[Ending.returned.injEq,Value.tuple.injEq] at he3;have:v3=v3':=by simpa using he3
  subst this
  by_cases he:er=0
  ·rw[if_pos he]
   by_cases hl2:l2=[]
   ·obtain rfl:=h2 (.inr hl2)
    rw[HEM.out hl2];exact⟨X.out.2.2.1.keep B3,fun j e=>.inl (X.out.2.2.2.2.2.1 j e)⟩
   ·exact⟨(h1 he hl2).more (bW _),fun j e=>.inr ((h1 he hl2).lt j e).1⟩
  ·rw[if_neg he]
   obtain rfl:=h2 (.inl he);exact⟨X.out.2.2.1.keep B3,fun j e=>.inl (X.out.2.2.2.2.2.1 j e)⟩)
 have k3:=(X.out.1.keep B3).cell 3;have f3:=(X.out.1.keep B3).frozen 3;simp only[aF,aC,aG] at k3;obtain⟨A7,c7,rfl,_,_,_⟩:=xu.out.1.form;clear HP
 go_wp2_with fail
 go_ret;obtain⟨hB,hR,hO,Jj,hr,hu,hF⟩:=X.out;exact⟨rfl,Kr hB hR Jj hr hF B3 xu.out.1 xu.out.2⟩
open Go.RowKit
open Go.RowKit
open Go.RowKit Go.Lib
theorem Kt(w:World):Calls Tryz.prog 247 #[.string ⟨#[118,118,118,118]⟩] w fun e w'=>e=.returned (.bool true)/\Below w.heap.size w w':=by
 have FO:=fun w=>aB (jB 7 118 w SS)
 go_enter Tryz.func247,Tryz.ntmps247
 go_wp2_with fail
 go_loopg [11] 4 (fun q i wr=>∃j:Nat,q=4 - j/\j<=4/\i=.int .i64 j/\Below w.heap.size w wr)
 case atStart=>exact⟨0,rfl,ae,rfl,aH _ _⟩
 case round=>
  obtain⟨j,hq,hj,rfl,hb⟩:=hrel;have HQ:=aB hq;have hz:=hb.size;clear hq
  rcases(show j=0\/j=1\/j=2\/j=3\/j=4 by omega) with rfl|rfl|rfl|rfl|rfl
  ·go_wp2_with (go_at_call 248;refine((FO _).out).mono ?_;rintro e w1 ⟨rfl,hb1⟩;have hz1:=hb1.size)
   go_roundg 3
   case measure=>have:=HQ.out;omega
   case rel=>exact⟨1,rfl,ae,ai,bw⟩
  ·go_wp2_with (go_at_call 248;refine((FO _).out).mono ?_;rintro e w1 ⟨rfl,hb1⟩;have hz1:=hb1.size)
   go_roundg 2
   case measure=>have:=HQ.out;omega
   case rel=>exact⟨2,rfl,ae,ai,bw⟩
  ·go_wp2_with (go_at_call 248;refine((FO _).out).mono ?_;rintro e w1 ⟨rfl,hb1⟩;have hz1:=hb1.size)
   go_roundg 1
   case measure=>have:=HQ.out;omega
   case rel=>exact⟨3,rfl,ae,ai,bw⟩
  ·go_wp2_with (go_at_call 248;refine((FO _).out).mono ?_;rintro e w1 ⟨rfl,hb1⟩;have hz1:=hb1.size)
   go_roundg 0
   case measure=>have:=HQ.out;omega
   case rel=>exact⟨4,rfl,ae,ai,bw⟩
  ·go_wp2_with fail
   go_ret;exact⟨rfl,hb⟩
def iV(a b c d:Int):Nat->List Int
 | 0=>[]
 | 1=>fC a
 | 2=>fC a++fC b
 | 3=>fC a++fC b++fC c
 | _=>fC a++fC b++fC c++fC d
theorem Gs(a b c d:Int)(j:Nat):(iV a b c d j).length<=40:=by
 have ha:=dM a;have hb:=dM b;have hc:=dM c;have hd:=dM d
 match j with
 | 0=>simp[iV]
 | 1=>simp only[iV];omega
 | 2=>simp only[iV,aI];omega
 | 3=>simp only[iV,aI];omega
 | n+4=>simp only[iV,aI];omega
theorem TQ(a b c d:Int)(v:Value)(w:World)(hr:iH .u64 w v [a,b,c,d])(a0:0<=a)(a1:a<18446744073709551616)(b0:0<=b)(b1:b<18446744073709551616)(c0:0<=c)(c1:c<18446744073709551616)(d0:0<=d)(d1:d<18446744073709551616) :
 Calls Tryz.prog 147 #[.string ⟨#[118,118,118,118]⟩,v] w fun e w'=>∃v,e=.returned (.tuple #[v,.int .i64 0])/\OwnB w.heap.size w' v (iV a b c d 4)/\Below w.heap.size w w':=by
 obtain⟨AA,cn,rfl,hn,hc,hp⟩:=hr.form;obtain⟨gn,on,rfl,hgn,qZ⟩:=hp.at_ (j:=0) (by simp)
 obtain⟨g',o',e',_,rf⟩:=hp.at_ (j:=1) (by simp)
 simp only[bC,Addr.mk.injEq,and_true] at e';obtain⟨rfl,rfl⟩:=e';obtain⟨g',o',e',_,pU⟩:=hp.at_ (j:=2) (by simp)
 simp only[bC,Addr.mk.injEq,and_true] at e';obtain⟨rfl,rfl⟩:=e';obtain⟨g',o',e',_,Dw⟩:=hp.at_ (j:=3) (by simp)
 simp only[bC,Addr.mk.injEq,and_true] at e';obtain⟨rfl,rfl⟩:=e';simp only[aP,bf,List.getElem_cons_zero,List.getElem_cons_succ,Nat.add_zero] at hn qZ rf pU Dw |-;have Xo:=aB qZ;have CN1:=aB rf;have CN2:=aB pU;have CN3:=aB Dw;have FO:=fun w=>aB (jB 7 118 w SS)
 have HF:=aB (fun(g:Nat) (n:Int) (bs:List Int) (W:World) h n0 n1 hl=>lY g w.heap.size n 0 bs W h n0 n1 hl)
 have eg:∀args w,(callFunc 416 args).run Tryz.prog w=.ok (.enter 416 args) w:=fun _ _=>rfl
 have Nu:Hid (iV a b c d 0++fC a=iV a b c d 1):=aB rfl;have AU:Hid (iV a b c d 1++fC b=iV a b c d 2):=aB rfl;have xu:Hid (iV a b c d 2++fC c=iV a b c d 3):=aB rfl;have ZF:Hid (iV a b c d 3++fC d=iV a b c d 4):=aB rfl;have vC:=aB (Gs a b c d);have ef7:oO 7=416:=rfl;rw[ef7] at FO;clear hr hp ef7 qZ rf pU Dw
 go_enter Tryz.func147,Tryz.ntmps147
 go_wp2_with fail;refine(Kt w).mono ?_
 rintro e w1 ⟨rfl,hb1⟩;have hz1:=hb1.size
 go_wp2_with fail;obtain⟨g,hg⟩:∃g,w1.heap.size=g:=⟨_,rfl⟩;have W0:=aB (Wr.new 332 w1 w.heap.size hz1);have hb2:Below w.heap.size w (w1.alloc (.cells #[.slice none 0 0] 332)):=bw;rw[hg] at W0 |-;generalize w1.alloc (.cells #[.slice none 0 0] 332)=w2 at *;clear hg
 go_loopg [25] 4 (fun q i wr=>∃j:Nat,q=4 - j/\j<=4/\i=.int .i64 j/\Hid (Wr 332 w.heap.size wr g (iV a b c d j))/\Below w.heap.size w wr)
 case atStart=>exact⟨0,rfl,ae,rfl,W0,hb2⟩
 case round=>
  obtain⟨j,hq,hj,rfl,hw,hb⟩:=hrel;have HQ:=aB hq;have hz:=hb.size;clear hq
  rcases(show j=0\/j=1\/j=2\/j=3\/j=4 by omega) with rfl|rfl|rfl|rfl|rfl
  ·have CQ:=(hb.cell (p:=⟨gn,on,none⟩) hgn).trans Xo.out
   go_wp2_with (first
    | (go_at_call 248;refine((FO _).out).mono ?_;rintro e w3 ⟨rfl,hb3⟩;have hz3:=hb3.size)
    | (go_at_fn 416;refine((HF.out g a (iV a b c d 0) _ ((hw.out.keep hb3).keep ((aH _ _).alloc (aK _) _)) a0 a1 (by have:=vC.out 0;omega)).mono ?_);rintro e w4 ⟨rfl,k1,k2⟩;have mG:=k2.size;rw[Nu.out] at k1;have K1:=aB k1;clear k1))
   go_roundg 3
   case measure=>have:=HQ.out;omega
   case rel=>exact⟨1,rfl,ae,ai,K1,bw⟩
  ·have CQ:=(hb.cell (p:=⟨gn,on+1,none⟩) hgn).trans CN1.out
   go_wp2_with (first
    | (go_at_call 248;refine((FO _).out).mono ?_;rintro e w3 ⟨rfl,hb3⟩;have hz3:=hb3.size)
    | (go_at_fn 416;refine((HF.out g b (iV a b c d 1) _ ((hw.out.keep hb3).keep ((aH _ _).alloc (aK _) _)) b0 b1 (by have:=vC.out 1;omega)).mono ?_);rintro e w4 ⟨rfl,k1,k2⟩;have mG:=k2.size;rw[AU.out] at k1;have K1:=aB k1;clear k1))
   go_roundg 2
   case measure=>have:=HQ.out;omega
   case rel=>exact⟨2,rfl,ae,ai,K1,bw⟩
  ·have CQ:=(hb.cell (p:=⟨gn,on+2,none⟩) hgn).trans CN2.out
   go_wp2_with (first
    | (go_at_call 248;refine((FO _).out).mono ?_;rintro e w3 ⟨rfl,hb3⟩;have hz3:=hb3.size)
    | (go_at_fn 416;refine((HF.out g c (iV a b c d 2) _ ((hw.out.keep hb3).keep ((aH _ _).alloc (aK _) _)) c0 c1 (by have:=vC.out 2;omega)).mono ?_);rintro e w4 ⟨rfl,k1,k2⟩;have mG:=k2.size;rw[xu.out] at k1;have K1:=aB k1;clear k1))
   go_roundg 1
   case measure=>have:=HQ.out;omega
   case rel=>exact⟨3,rfl,ae,ai,K1,bw⟩
  ·have CQ:=(hb.cell (p:=⟨gn,on+3,none⟩) hgn).trans CN3.out
   go_wp2_with (first
    | (go_at_call 248;refine((FO _).out).mono ?_;rintro e w3 ⟨rfl,hb3⟩;have hz3:=hb3.size)
    | (go_at_fn 416;refine((HF.out g d (iV a b c d 3) _ ((hw.out.keep hb3).keep ((aH _ _).alloc (aK _) _)) d0 d1 (by have:=vC.out 3;omega)).mono ?_);rintro e w4 ⟨rfl,k1,k2⟩;have mG:=k2.size;rw[ZF.out] at k1;have K1:=aB k1;clear k1))
   go_roundg 0
   case measure=>have:=HQ.out;omega
   case rel=>exact⟨4,rfl,ae,ai,K1,bw⟩
  ·obtain⟨hbg,v,hB,hO⟩:=hw.out
   have c0:=hB.cell 0;simp only[aF,aC] at c0;have HO:=aB hO;clear hB hO
   go_wp2_with fail
   go_ret2
   exact⟨v,rfl,HO.out,hb⟩
end Go.Proofs.YtkiebccnpheloaaGreat.D
