/- Parts. No condition. -/
import Derived.Test.YtdicblkhpcphfaaGreatPA13
set_option maxRecDepth 100000
set_option maxHeartbeats 0
set_option linter.all false
namespace Go.Proofs.YtdicblkhpcphfaaGreat
open Tryz Go.RowKit Go.Lib Go.Shelf
open _root_.List renaming length→ao
open _root_.Go renaming Calls→ar
open Tryz renaming prog→Oe
namespace D
variable{l:List Pr}{a g m:Nat}{bs r:List Int}
def Aq(a b c d:Int):ao (ju a b c d 4)<=40:=xp a b c d 4
def JY(ok:pn l){j:Nat}(h:j+1<ao l):l[j].1<l[j+1].1:=bO.1 ok.iJ j (j+1) _ h aa
def jf.MX(t:TypeId)(k:IntKind)(w:World)(a b c d:Int)(H:Nat)(h:w.heap.size=H):jf k (w.alloc (.cells #[.int k a,.int k b,.int k c,.int k d] t)) (.slice (some ⟨H,0,none⟩) 4 4) [a,b,c,d]:=by
 subst h;have h:gT t k w.heap.size (w.alloc (.cells #[.int k a,.int k b,.int k c,.int k d] t)) (.slice (some ⟨w.heap.size,0,none⟩) 4 4) [a,b,c,d]:=
  ⟨rfl,.inr ⟨w.heap.size,4,_,rfl,aD _,cm _ _,ad,by unfold maxLen;omega,rfl,ad⟩⟩
 exact h.rd
def CW{d:Nat}{F:Ft}(w:World)(h:oR d a m l F w)(ok:iO a m l) :
 ar Oe 125 #[.pointer (some ⟨d,0,none⟩)] w λe Y=>∃v,e=.returned (.tuple #[v,.int .i64 0])/\OwnB w.heap.size Y v (GR a m (gV m l).1 (gV m l).2)/\aq w Y:=by
 have CP:=ay (JU w h ok);have S:=m' d a m l;have CA:Hid (∀z,aq w z->_):=ay (λz y=>sr z (S.keep h y))
 have CB:Hid (∀z,aq w z->_):=ay (λz y=>pY z (S.keep h y))
 have CF:Hid (∀z,aq w z->_):=ay (λz y=>GN z (S.keep h y))
 obtain⟨Q,_,hlm,f0,f1⟩:=ok.cut;have a0:=ok.a0;have a1:=ok.a1;have m0:=ok.m0;have m1:=ok.m1;generalize (gV m l).2=f at *;generalize (gV m l).1=q at *;have U:=ay Q;have hlen:=Q.len;clear h ok S Q
 go_in
 go_wp2_with fail;refine(CP.o).mono ?_
 rintro e z ⟨v,rfl,y,T⟩;have O1:=ay y;obtain⟨A,k,rfl,_,_,x⟩:=y.form;have HF:=ay x;have hz1:=T.size;clear y x
 go_wp2_with fail;refine(CA.o z T).mono ?_
 rintro e Y ⟨rfl,rfl⟩
 go_wp2_with fail;refine(CB.o z T).mono ?_
 rintro e Y ⟨rfl,rfl⟩
 go_wp2_with fail;refine(CF.o z T).mono ?_
 rintro e Y ⟨rfl,rfl⟩
 go_wp2_with fail;refine(GQ a m (ao q) f _ _ (jf.MX _ _ _ _ _ _ _ _ rfl) aa  aa  aa  aa  aa  aa  aa  aa).mono ?_
 rintro e w2 ⟨v2,rfl,x,y⟩;have wo:aq w w2:=T.trans (((aC z.heap.size z).alloc (aD _) _ |>.trans (y.mono ad)).mono hz1)
 have O2:Hid (OwnB z.heap.size w2 v2 (ju a m (ao q) f 4)):=ay (gT.lift x (λg e=>by have:=(gT.lt x g e).1;simp at this;omega))
 have hG:=Aq a m (ao q) f;have HW:Hid (GR a m q f=ju a m (ao q) f 4++rB q (ao q)):=ay rfl;generalize ju a m (ao q) f 4=G at *;have WX:aq z w2:=(aC z.heap.size z).alloc (aD _) _ |>.trans (y.mono ad)
 clear x y
 go_wp2
 go_loopg [5,34] (ao q) (λr y x wr=>∃(j:Nat) (b:Value),b=y/\r=ao q - j/\j<=ao q/\x=.int .i64 j/\Hid (OwnB z.heap.size wr b (G++rB q j))/\aq z wr)
 exact⟨0,_,rfl,aa,aa,rfl,ay (by simpa[rB] using O2.o),WX⟩
 case round=>
  obtain⟨j,b,rfl,Q,hj,rfl,V,S⟩:=hrel;have HQ:=ay Q;clear Q;have hzw:=S.size;have hgl:=yH q j;have uS:ao (G++rB q j)<=100000000:=by rw[aE];omega
  by_cases R:j<ao q
  ·obtain⟨g,W,rfl,o,Tg,Th⟩:=j7 HF.o R
   have c0:=(S.cell (p:=⟨g,W+j * 2,none⟩) o).trans Tg;have c1:=(S.cell (p:=⟨g,W+j * 2+1,none⟩) o).trans Th;have hk:=U.o.key _ (aX R);have hp:=U.o.pos _ (aX R);have hp2:=nm U.o.pos _ (aX R);have ht:=U.o.tot;have hji:(j:Int)<(ao q:Int):=aa
   have B:Hid (nP q j=q[j]):=ay (E9 R);have X:aq wr (wr.alloc (.cells #[.int .i64 q[j].1,.int .u64 q[j].2] 192)):=bw;have u:Hid (gN (wr.alloc (.cells #[.int .i64 q[j].1,.int .u64 q[j].2] 192)) wr.heap.size 192 #[.int .i64 q[j].1,.int .u64 q[j].2]):=ay (gN.new _ _ _);have hn2:q[j].2<18446744073709551616:=aa
   rcases bh j with rfl|hj0
   ·have i:Hid (rB q (0+1)=rB q 0++zg q[0].1++hZ q[0].2):=ay (by rw[<-B.o];rfl)
    have t:((0:Nat):Int)=0:=rfl;simp only[db,bP] at c0 c1;have HZ:Hid (zg q[0].1=QF q 0):=ay (by rw[<-B.o];rfl)
    generalize q[0].1=x at *;generalize q[0].2=n at *;rw[t];clear t Tg Th;obtain⟨t,hw3⟩:=au (wr.alloc (.cells #[.int .i64 x,.int .u64 n] 192));rw[hw3] at X u;have c:=S.trans (X.mono hzw);have O:=ay (gT.keep V.o X);have hz3:=c.size;obtain⟨p,hpp⟩:=au (wr.heap.size);rw[hpp] at u;have J:=u.o.lt
    go_upto_region 10 with fail;have D:=u.o.k0
    go_wp2_with fail;refine(GS x _ z.heap.size _ (G++rB q 0) t hz3 O.o aa (by rw[g_];rfl) aa  aa).mono ?_
    rintro e P ⟨v4,rfl,H,r⟩;have M:aq z P:=c.trans (r.below (λk e=>(gT.lt O.o k e).1) aa)
    have I4:=M.size;have I:¬(b.ownBlock=some p):=λe=>by have:=(gT.lt V.o p e).2;omega
    have p1:=(ik r 1 J I).trans (u.o.cell 1);simp only[aA,az,aB] at p1;have N:=ay H;have Pp:ao (zg x)<=10:=by rw[HZ.o];exact rC q 0
    clear H r
    go_wp2_with fail;refine(ss n z.heap.size _ (G++rB q (0)++zg x) P I4 N.o (by simp only[aE] at uS |-;omega) aa  aa).mono ?_
    rintro e w5 ⟨v5,rfl,E,C⟩;have P5:aq z w5:=M.trans (C.below (λk e=>(gT.lt N.o k e).1) aa)
    have O5:=ay E;clear E C
    go_wp2
    go_roundg (ao q - (0+1))
    exact⟨0+1,_,rfl,rfl,aa,ag,ay (by rw[i.o,<-aO,<-aO];exact O5.o),P5⟩
    have:=HQ.o;omega
   ·obtain⟨s,rfl⟩:∃s,j=s+1:=⟨j - 1,aa⟩
    obtain⟨g',off',he,_,L,_⟩:=j7 HF.o (j:=s) (by omega)
    cases he
    have D0:=ay L;have Ti:=JY U.o R;have hk2:=U.o.key _ (aX (show s<ao q by omega))
    have QG:Hid (nP q s=q[s]):=ay (E9 aa)
    have i:Hid (rB q (s+1+1)=rB q (s+1)++hZ (q[s+1].1 - q[s].1 - 1)++hZ q[s+1].2):=ay (by rw[<-B.o,<-QG.o];rfl)
    have HZ:Hid (hZ (q[s+1].1 - q[s].1 - 1)=QF q (s+1)):=ay (by rw[<-B.o,<-QG.o];rfl)
    generalize q[s+1].1=x at *;generalize q[s+1].2=n at *;generalize q[s].1=y at *;have Ml:Hid (IntKind.i64.wrap (s:Int)=(s:Int)):=ay ai
    have HW1:Hid (IntKind.i64.wrap (x - y)=x - y):=ay ai
    have HW2:Hid (IntKind.i64.wrap (x - y - 1)=x - y - 1):=ay ai
    have HW3:Hid (IntKind.u64.wrap (x - y - 1)=x - y - 1):=ay (by rw[g_];omega)
    clear Tg Th L;have WY:(s:Int)<(ao q:Int):=aa
    obtain⟨t,hw3⟩:=au (wr.alloc (.cells #[.int .i64 x,.int .u64 n] 192));rw[hw3] at X u;have c:=S.trans (X.mono hzw);have O:=ay (gT.keep V.o X);have hz3:=c.size;obtain⟨p,hpp⟩:=au (wr.heap.size);rw[hpp] at u;have J:=u.o.lt
    go_upto_region 12 with fail;clear c0 c1;have I:¬(b.ownBlock=some p):=λe=>by have:=(gT.lt V.o p e).2;omega
    have hbl:∀k,b.ownBlock=some k->z.heap.size<=k:=λk e=>(gT.lt O.o k e).1
    refine i' (Touch (λk=>b.ownBlock=some k) t) (gW 0 12 (ib 12 (gW 13 1 []))) ((Touch.refl _ _).drew) ?_
    iterate 12 refine hC (h:=λY L=>by have D:=(ik L 0 J I).trans (u.o.cell 0);have d0:=((c.trans (L.below hbl aa)).cell (p:=⟨g,W+s * 2,none⟩) o).trans D0.o;have hws:=Ml.o;have Tj:=HW1.o;have Tk:=HW2.o;have Tl:=HW3.o;simp only[aA,az,aB] at D;exact Qv) ?_
    refine iy λK hK=>?_
    go_simp;refine(ss (x - y - 1) z.heap.size b (G++rB q (s+1)) t.drew hz3 (gT.drew O.o) aa  aa  aa).mono ?_
    rintro e P ⟨v4,rfl,H,Vg⟩;have r:Touch (λk=>b.ownBlock=some k) t P:=((Touch.refl _ t).drew).trans Vg (λk e=>.inl e)
    clear Vg;refine hK _ _ (r) ?_
    clear hK K;refine hC (h:=λY L=>by have D:=(ik L 0 J I).trans (u.o.cell 0);have d0:=((c.trans (L.below hbl aa)).cell (p:=⟨g,W+s * 2,none⟩) o).trans D0.o;have hws:=Ml.o;have Tj:=HW1.o;have Tk:=HW2.o;have Tl:=HW3.o;simp only[aA,az,aB] at D;exact Qv) ?_
    refine gM ?_
    have M:aq z P:=c.trans (r.below hbl aa)
    have I4:=M.size;have p1:=(ik r 1 J I).trans (u.o.cell 1);simp only[aA,az,aB] at p1;have N:=ay H;have Pp:ao (hZ (x - y - 1))<=10:=by rw[HZ.o];exact rC q (s+1)
    clear H r
    go_wp2_with fail;refine(ss n z.heap.size _ (G++rB q (s+1)++hZ (x - y - 1)) P I4 N.o (by simp only[aE] at uS |-;omega) aa  aa).mono ?_
    rintro e w5 ⟨v5,rfl,E,C⟩;have P5:aq z w5:=M.trans (C.below (λk e=>(gT.lt N.o k e).1) aa)
    have O5:=ay E;clear E C
    go_wp2
    go_roundg (ao q - (s+1+1))
    exact⟨s+1+1,_,rfl,rfl,aa,ag,ay (by rw[i.o,<-aO,<-aO];exact O5.o),P5⟩
    have:=HQ.o;omega
  ·obtain rfl:j=ao q:=aa
   go_wp2
   go_ret2
   exact⟨_,rfl,by rw[HW.o];exact gT.lift V.o (λg e=>by have:=(gT.lt V.o g e).1;omega),T.trans (S.mono hz1)⟩
def yI{q:List Pr}{f:Int}(v:Value)(w:World)(h:iA il w v q)(Y:pn q)(a1:a<=5000)(m1:m<=4096)(f0:0<=f)(f1:f<=4611686018427387904) :
 ar Oe 167 #[.int .i64 a,.int .i64 m,v,.int .u64 f] w λe O=>∃v,e=.returned v/\OwnB w.heap.size O v (GR a m q f)/\aq w O:=by
 obtain⟨A,k,rfl,_,_,y⟩:=h.form;have o:=ay y;have d:=ay Y;have hlen:=Y.len;have z:Hid (ju a m (ao q) f 4=(([]++hZ a)++hZ m++hZ (ao q))++hZ f):=ay rfl;have s:=gS a;have r:=gS m;have p:=gS (ao q);clear h y Y
 go_in
 go_wp2_with fail;refine(mL a w.heap.size _ [] w (aD _) (gT.nil_ _ _ _ _) ad aa  aa).mono ?_
 rintro e w1 ⟨v1,rfl,x,hb1⟩;have y:=ay x;have hz1:=hb1.size;clear x
 go_wp2_with fail;refine(mL m w.heap.size _ _ w1 hz1 y.o af aa  aa).mono ?_
 rintro e w2 ⟨v2,rfl,u,hb2⟩;have x:=ay u;have wo:=hb1.trans hb2;have hz2:=wo.size;clear u
 go_wp2_with fail;refine(mL (ao q) w.heap.size _ _ w2 hz2 x.o (by simp only[aE,aV];omega) aa  aa).mono ?_
 rintro e w3 ⟨v3,rfl,t,hb3⟩;have u:=ay t;have Ri:=wo.trans hb3;have hz3:=Ri.size;clear t
 go_wp2_with fail;refine(mL f w.heap.size _ _ w3 hz3 u.o (by simp only[aE,aV];omega) aa  aa).mono ?_
 rintro e w4 ⟨v4,rfl,t,hb4⟩;have Tm:=Ri.trans hb4;have O4:=ay t;rw[<-z.o] at O4;clear t y x u z s r p;have hG:=Aq a m (ao q) f;have HW:Hid (GR a m q f=ju a m (ao q) f 4++rB q (ao q)):=ay rfl;generalize ju a m (ao q) f 4=G at *
 go_wp2
 go_loopg [9,10] (ao q) (λr y x wr=>∃(j:Nat) (b:Value),b=y/\r=ao q - j/\j<=ao q/\x=.int .i64 j/\Hid (OwnB w.heap.size wr b (G++rB q j))/\aq w wr)
 exact⟨0,_,rfl,aa,aa,rfl,ay (by simpa[rB] using O4.o),Tm⟩
 case round=>
  obtain⟨j,b,rfl,Y,hj,rfl,M,z⟩:=hrel;have i:=ay Y;clear Y;have hzw:=z.size;have hgl:=yH q j;have uS:ao (G++rB q j)<=100000000:=by rw[aE];omega
  by_cases c:j<ao q
  ·obtain⟨g,r,rfl,t,Q,F⟩:=j7 o.o c
   have X:=ay (aF Q F);have R:=(z.cell (p:=⟨g,r+j * 2,none⟩) t).trans Q;have hk:=d.o.key _ (aX c);have hp:=d.o.pos _ (aX c);have hp2:=nm d.o.pos _ (aX c);have ht:=d.o.tot;have hji:(j:Int)<(ao q:Int):=aa
   have S:Hid (nP q j=q[j]):=ay (E9 c);have hn2:q[j].2<18446744073709551616:=aa
   rcases bh j with rfl|hj0
   ·have L:Hid (rB q (0+1)=rB q 0++zg q[0].1++hZ q[0].2):=ay (by rw[<-S.o];rfl)
    have u:((0:Nat):Int)=0:=rfl;have J:Hid (zg q[0].1=QF q 0):=ay (by rw[<-S.o];rfl)
    simp only[db,bP] at R X;generalize q[0].1=x at *;generalize q[0].2=n at *;rw[u];clear u Q F;have hj0:(0:Int)<(ao q:Int):=aa
    go_wp2_with fail;refine(JX x _ w.heap.size _ (G++rB q 0) wr hzw M.o aa (by rw[g_];rfl) aa  aa).mono ?_
    rintro e N ⟨v6,rfl,U,P⟩;have I:=ay U;have u:=z.trans P;have C:=u.size;have c1:=(u.cell (p:=⟨g,r+1,none⟩) t).trans X.o.2;have Pp:ao (zg x)<=10:=by rw[J.o];exact rC q 0
    clear U
    go_wp2_with fail;refine(mL n w.heap.size _ (G++rB q 0++zg x) N C I.o (by simp only[aE] at uS |-;omega) aa  aa).mono ?_
    rintro e w7 ⟨v7,rfl,T,D⟩;have H:=ay T;clear T
    go_wp2
    go_roundg (ao q - (0+1))
    exact⟨0+1,_,rfl,rfl,aa,ag,ay (by rw[L.o,<-aO,<-aO];exact H.o),u.trans D⟩
    have:=i.o;omega
   ·obtain⟨s,rfl⟩:∃s,j=s+1:=⟨j - 1,aa⟩
    obtain⟨g',off',he,_,V,_⟩:=j7 o.o (j:=s) (by omega)
    cases he
    have l:=ay V;have Ti:=JY d.o c;have hk2:=d.o.key _ (aX (show s<ao q by omega))
    have W:Hid (nP q s=q[s]):=ay (E9 aa)
    have L:Hid (rB q (s+1+1)=rB q (s+1)++hZ (q[s+1].1 - q[s].1 - 1)++hZ q[s+1].2):=ay (by rw[<-S.o,<-W.o];rfl)
    have J:Hid (hZ (q[s+1].1 - q[s].1 - 1)=QF q (s+1)):=ay (by rw[<-S.o,<-W.o];rfl)
    generalize q[s+1].1=x at *;generalize q[s+1].2=n at *;generalize q[s].1=y at *;have Ml:Hid (IntKind.i64.wrap (s:Int)=(s:Int)):=ay ai
    have HW1:Hid (IntKind.i64.wrap (x - y)=x - y):=ay ai
    have HW2:Hid (IntKind.i64.wrap (x - y - 1)=x - y - 1):=ay ai
    have HW3:Hid (IntKind.u64.wrap (x - y - 1)=x - y - 1):=ay (by rw[g_];omega)
    clear Q F V R;have WY:(s:Int)<(ao q:Int):=aa
    go_upto_region 10 with fail;refine i' (Below w.heap.size wr) (gW 0 15 (ib 15 (gW 16 1 []))) ((aC _ _).drew) ?_
    iterate 15 refine hC (h:=λO E=>by have V:=z.trans E;have R:=(V.cell (p:=⟨g,r+(s+1) * 2,none⟩) t).trans X.o.1;have d0:=(V.cell (p:=⟨g,r+s * 2,none⟩) t).trans l.o;have hws:=Ml.o;have Tj:=HW1.o;have Tk:=HW2.o;have Tl:=HW3.o;exact Qv) ?_
    refine iy λK hK=>?_
    go_simp;refine(mL (x - y - 1) w.heap.size b (G++rB q (s+1)) wr.drew hzw (gT.drew M.o) aa  aa  aa).mono ?_
    rintro e N ⟨v6,rfl,U,P⟩;have B:Below w.heap.size wr N:=(aC _ _).drew.trans P;clear P;refine hK _ _ (B) ?_
    clear hK K;refine hC (h:=λO E=>by have V:=z.trans E;have R:=(V.cell (p:=⟨g,r+(s+1) * 2,none⟩) t).trans X.o.1;have d0:=(V.cell (p:=⟨g,r+s * 2,none⟩) t).trans l.o;have hws:=Ml.o;have Tj:=HW1.o;have Tk:=HW2.o;have Tl:=HW3.o;exact Qv) ?_
    refine gM ?_
    have I:=ay U;have u:=z.trans B;have C:=u.size;have c1:=(u.cell (p:=⟨g,r+(s+1) * 2+1,none⟩) t).trans X.o.2;have Pp:ao (hZ (x - y - 1))<=10:=by rw[J.o];exact rC q (s+1)
    clear U
    go_wp2_with fail;refine(mL n w.heap.size _ (G++rB q (s+1)++hZ (x - y - 1)) N C I.o (by simp only[aE] at uS |-;omega) aa  aa).mono ?_
    rintro e w7 ⟨v7,rfl,T,D⟩;have H:=ay T;clear T
    go_wp2
    go_roundg (ao q - (s+1+1))
    exact⟨s+1+1,_,rfl,rfl,aa,ag,ay (by rw[L.o,<-aO,<-aO];exact H.o),u.trans D⟩
    have:=i.o;omega
  ·obtain rfl:j=ao q:=aa
   go_wp2
   go_ret;exact⟨_,rfl,by rw[HW.o];exact M.o,z⟩
def GU(v:Value)(w:World)(h:iA il w v l)(ok:iO a m l) :
 ar Oe 98 #[.int .i64 a,.int .i64 m,v] w λe u=>∃v,e=.returned v/\OwnB w.heap.size u v (GR a m (gV m l).1 (gV m l).2)/\aq w u:=by
 have t:=ay (sq v l m w h ok.pos ok.sum (by have:=ok.m0;omega) (by have:=ok.m1;omega) (by have:=ok.len;omega))
 obtain⟨x,_,r,z,y⟩:=ok.cut;have s:Hid (∀(v:Value) w,iA il w v (gV m l).1->_):=ay (λv w h=>yI v w h x ok.a1 ok.m1 z y)
 obtain⟨A,k,rfl,_,_,_⟩:=h.form;clear h ok x r z y;generalize (gV m l).2=f at *;generalize (gV m l).1=q at *
 go_in
 go_wp2_with fail;refine(t.o).mono ?_
 rintro e c ⟨d,rfl,y,z⟩;have x:=ay y;clear y
 go_wp2_with fail;refine(s.o d c x.o).mono ?_
 rintro e Y ⟨b,rfl,y,p⟩;have r:=ay (gT.lift y (λg e=>bf z.size (gT.lt y g e).1))
 clear y
 go_wp2
 go_ret;exact⟨_,rfl,r.o,z.trans (p.mono z.size)⟩
def uT(w:World)(g:Nat)(bs:List Int)(a:Nat)(v:Value)(e:Ending)(w':World):Prop:=e=.returned v/\hM w' g bs a/\Touch (λk=>k=g) w w'
def J0{x:List Int}(z:a<=ao bs)(h:bs.drop a=x++r):ao bs - ao r=a+ao x:=by
 have:=bq List.length h;rw[aZ,aE] at this;omega
def Pq{w:World}(h:hM w g bs a):a<=ao bs:=by
 obtain⟨_,_,_,h⟩:=h;exact h
def GV{n:Int}(w:World)(h:hM w g bs a)(t:oc bs)(s:ao bs<=1000000000000)(x:bs.drop a=hZ n++r)(q:0<=n)(p:n<18446744073709551616) :
 ar Oe 330 #[.pointer (some ⟨g,0,none⟩),.int .u8 118] w (uT w g bs (a+ao (hZ n)) (.tuple #[.int .u64 n,.int .i64 0])):=by
 refine(qF g bs a w h t s).mono ?_
 intro e f z;unfold mI at z;rw[x,nB q p] at z;obtain⟨v,y,u⟩:=z;rw[J0 (Pq h) x] at y;exact⟨v,y,u⟩
def qJ(y i:Nat)(cs:Array Value)(Q:Value->World->Prop)(w:World)(e:Ending)(w':World):Prop:=
 e=.returned (.int .i64 0)/\∃p w1,Q p w1/\aq w w1/\gN w' y 124 (cs.setIfInBounds i p)/\Touch (λk=>k=y) w1 w'/\Touch (λk=>k=y) w w'
section
variable {y : Nat} {kd p1 p2 p3 p4 : Value} {w : World} {Q : Value -> World -> Prop} {v : Value}
def Ar(z:gN w y 124 #[kd,p1,p2,p3,p4])(h:ar Oe 273 #[v] w λe x=>∃d,e=.returned (.tuple #[.pointer (some ⟨d,0,none⟩),.int .i64 0])/\Q (.pointer (some ⟨d,0,none⟩)) x/\aq w x) :
 ar Oe 187 #[.pointer (some ⟨y,0,none⟩),v] w (qJ y 4 #[kd,p1,p2,p3,p4] Q w):=by
 have C:=ay h;have s:=ay z;clear h z
 go_in
 go_wp2_with fail;refine(C.o).mono ?_
 rintro e z ⟨d,rfl,u,x⟩;have L:=ay (s.o.keep x);have q:=L.o.k4;have g:=L.o.frozen 4;have M:=ay (L.o.gR 4 (.pointer (some ⟨d,0,none⟩)));have T:=ay ((show Touch (λk=>k=y) z z from Touch.refl _ z).setCell (p:=⟨y,4,none⟩) (.inl rfl) (.pointer (some ⟨d,0,none⟩)))
 have r:=ay ((Touch.of_below (F:=λk=>k=y) x (aD _)).setCell (p:=⟨y,4,none⟩) (.inl rfl) (.pointer (some ⟨d,0,none⟩)))
 have t:=ay u;clear u
 go_wp2
 go_ret;exact⟨rfl,_,z,t.o,x,M.o,T.o,r.o⟩
end
def iv(kd lo hi dg:Int)(gr:Bool)(ac sz:Int):Value:=.agg #[.int .u8 kd,.int .i64 lo,.int .i64 hi,.int .i64 dg,.bool gr,.int .i64 ac,.int .i64 sz]
def pZ{y i:Nat}{cs:Array Value}{Q:Value->World->Prop}{w wa w1:World}{p:Value}(t:gN w1 y 124 cs)(z:aq w wa)(v:aq wa w1)(u:Q p w1) :
 qJ y i cs Q w (.returned (.int .i64 0)) (w1.setCell ⟨y,i,none⟩ p):=by
 have x:=z.trans (v.mono z.size);exact⟨rfl,p,w1,u,x,t.gR i p,(show Touch (λk=>k=y) w1 w1 from Touch.refl _ w1).setCell (p:=⟨y,i,none⟩) (.inl rfl) p,(Touch.of_below (F:=λk=>k=y) x (aD _)).setCell (p:=⟨y,i,none⟩) (.inl rfl) p⟩
section
variable {y : Nat} {k0 p1 p2 p3 p4 : Value} {w : World} {Q : Value -> World -> Prop} {kd lo hi dg ac sz : Int} {gr : Bool}
def CZ(z:gN w y 124 #[k0,p1,p2,p3,p4])(h:∀x,aq w x->ar Oe 268 #[.int .i64 ac,.int .i64 sz] x λe v=>∃d,e=.returned (.tuple #[.pointer (some ⟨d,0,none⟩),.int .i64 0])/\Q (.pointer (some ⟨d,0,none⟩)) v/\aq x v) :
 ar Oe 182 #[.pointer (some ⟨y,0,none⟩),iv kd lo hi dg gr ac sz] w (qJ y 2 #[k0,p1,p2,p3,p4] Q w):=by
 have C:=ay h;have s:=ay z;clear h z;unfold iv;obtain⟨b,q⟩:=au (w.heap.size);obtain⟨x,t⟩:=au (w.alloc (.cells #[.int .u8 kd,.int .i64 lo,.int .i64 hi,.int .i64 dg,.bool gr,.int .i64 ac,.int .i64 sz] 33));have v:aq w x:=by rw[<-t];exact bw
 have z:gN x b 33 #[.int .u8 kd,.int .i64 lo,.int .i64 hi,.int .i64 dg,.bool gr,.int .i64 ac,.int .i64 sz]:=by rw[<-t,<-q];exact gN.new _ _ _
 have p:=z.k5;have g:=z.k6;clear z;have z:=ay v;clear v
 go_in
 go_wp2_with fail;refine(C.o x z.o).mono ?_
 rintro e c ⟨d,rfl,u,v⟩;have L:=ay ((s.o.keep z.o).keep v);have r:=L.o.k2;have f:=L.o.frozen 2;have M:=ay (pZ (i:=2) L.o z.o v u);clear u
 go_wp2
 go_ret;exact M.o
def uU(z:gN w y 124 #[k0,p1,p2,p3,p4])(h:∀x,aq w x->ar Oe 270 #[.int .i64 sz] x λe v=>∃d,e=.returned (.tuple #[.pointer (some ⟨d,0,none⟩),.int .i64 0])/\Q (.pointer (some ⟨d,0,none⟩)) v/\aq x v) :
 ar Oe 184 #[.pointer (some ⟨y,0,none⟩),iv kd lo hi dg gr ac sz] w (qJ y 3 #[k0,p1,p2,p3,p4] Q w):=by
 have C:=ay h;have s:=ay z;clear h z;unfold iv;obtain⟨b,q⟩:=au (w.heap.size);obtain⟨x,t⟩:=au (w.alloc (.cells #[.int .u8 kd,.int .i64 lo,.int .i64 hi,.int .i64 dg,.bool gr,.int .i64 ac,.int .i64 sz] 33));have v:aq w x:=by rw[<-t];exact bw
 have z:gN x b 33 #[.int .u8 kd,.int .i64 lo,.int .i64 hi,.int .i64 dg,.bool gr,.int .i64 ac,.int .i64 sz]:=by rw[<-t,<-q];exact gN.new _ _ _
 have p:=z.k6;clear z;have z:=ay v;clear v
 go_in
 go_wp2_with fail;refine(C.o x z.o).mono ?_
 rintro e f ⟨d,rfl,u,v⟩;have L:=ay ((s.o.keep z.o).keep v);have r:=L.o.k3;have g:=L.o.frozen 3;have M:=ay (pZ (i:=3) L.o z.o v u);clear u
 go_wp2
 go_ret;exact M.o
def As(z:gN w y 124 #[k0,p1,p2,p3,p4])(h:∀x,aq w x->ar Oe 272 #[.int .i64 sz] x λe v=>∃d,e=.returned (.tuple #[.pointer (some ⟨d,0,none⟩),.int .i64 0])/\Q (.pointer (some ⟨d,0,none⟩)) v/\aq x v) :
 ar Oe 186 #[.pointer (some ⟨y,0,none⟩),iv kd lo hi dg gr ac sz] w (qJ y 4 #[k0,p1,p2,p3,p4] Q w):=by
 have C:=ay h;have s:=ay z;clear h z;unfold iv;obtain⟨b,q⟩:=au (w.heap.size);obtain⟨x,t⟩:=au (w.alloc (.cells #[.int .u8 kd,.int .i64 lo,.int .i64 hi,.int .i64 dg,.bool gr,.int .i64 ac,.int .i64 sz] 33));have v:aq w x:=by rw[<-t];exact bw
 have z:gN x b 33 #[.int .u8 kd,.int .i64 lo,.int .i64 hi,.int .i64 dg,.bool gr,.int .i64 ac,.int .i64 sz]:=by rw[<-t,<-q];exact gN.new _ _ _
 have p:=z.k6;clear z;have z:=ay v;clear v
 go_in
 go_wp2_with fail;refine(C.o x z.o).mono ?_
 rintro e f ⟨d,rfl,u,v⟩;have L:=ay ((s.o.keep z.o).keep v);have r:=L.o.k4;have g:=L.o.frozen 4;have M:=ay (pZ (i:=4) L.o z.o v u);clear u
 go_wp2
 go_ret;exact M.o
def At(z:gN w y 124 #[k0,p1,p2,p3,p4])(h:∀x,aq w x->ar Oe 263 #[.agg #[.int .i64 lo,.int .i64 hi,.int .i64 dg],.bool gr] x λe v=>∃d,e=.returned (.tuple #[.pointer (some ⟨d,0,none⟩),.int .i64 0])/\Q (.pointer (some ⟨d,0,none⟩)) v/\aq x v) :
 ar Oe 180 #[.pointer (some ⟨y,0,none⟩),iv kd lo hi dg gr ac sz] w (qJ y 1 #[k0,p1,p2,p3,p4] Q w):=by
 have C:=ay h;have s:=ay z;clear h z;unfold iv;obtain⟨b,q⟩:=au (w.heap.size);obtain⟨x,t⟩:=au (w.alloc (.cells #[.int .u8 kd,.int .i64 lo,.int .i64 hi,.int .i64 dg,.bool gr,.int .i64 ac,.int .i64 sz] 33));have v:aq w x:=by rw[<-t];exact bw
 have z:gN x b 33 #[.int .u8 kd,.int .i64 lo,.int .i64 hi,.int .i64 dg,.bool gr,.int .i64 ac,.int .i64 sz]:=by rw[<-t,<-q];exact gN.new _ _ _
 have p:=z.k1;have g:=z.k2;have f:=z.k3;have c:=z.k4;clear z;have z:=ay v;clear v
 go_in
 go_wp2_with fail;refine(C.o x z.o).mono ?_
 rintro e Y ⟨d,rfl,u,v⟩;have L:=ay ((s.o.keep z.o).keep v);have r:=L.o.k1;have a:=L.o.frozen 1;have M:=ay (pZ (i:=1) L.o z.o v u);clear u
 go_wp2
 go_ret;exact M.o
end
section
variable {y : Nat} {p1 p2 p3 p4 : Value} {w : World} {Q : Value -> World -> Prop}
variable{a c n:Value}
def C5(x:gN w y 124 #[.int .u8 1,p1,p2,p3,p4])(h:ar Oe 124 #[.pointer (some ⟨y,0,none⟩)] w λe z=>∃v,e=.returned v/\Q v z) :
 ar Oe 54 #[.pointer (some ⟨y,0,none⟩)] w λe z=>∃v,e=.returned v/\Q v z:=by
 have C:=ay h;have t:=ay x;clear h x;have s:=t.o.k0
 go_in
 go_wp2_with fail;refine(C.o).mono ?_
 rintro e r ⟨v,rfl,x⟩;have u:=ay x;clear x
 go_wp2
 go_ret;exact⟨_,rfl,u.o⟩
def C6(u:gN w y 124 #[.int .u8 2,p1,p2,p3,p4])(h:ar Oe 125 #[p2] w λe z=>∃v,e=.returned (.tuple #[v,.int .i64 0])/\Q v z) :
 ar Oe 54 #[.pointer (some ⟨y,0,none⟩)] w λe z=>∃v,e=.returned v/\Q v z:=by
 have C:=ay h;have x:=ay u;clear h u;have s:=x.o.k0;have r:=x.o.k2
 go_in
 go_wp2_with fail;refine(C.o).mono ?_
 rintro e q ⟨v,rfl,u⟩;have t:=ay u;clear u
 go_wp2
 go_ret;exact⟨_,rfl,t.o⟩
def C7(u:gN w y 124 #[.int .u8 3,p1,p2,p3,p4])(h:ar Oe 126 #[p3] w λe z=>∃v,e=.returned (.tuple #[v,.int .i64 0])/\Q v z) :
 ar Oe 54 #[.pointer (some ⟨y,0,none⟩)] w λe z=>∃v,e=.returned v/\Q v z:=by
 have C:=ay h;have x:=ay u;clear h u;have s:=x.o.k0;have r:=x.o.k3
 go_in
 go_wp2_with fail;refine(C.o).mono ?_
 rintro e q ⟨v,rfl,u⟩;have t:=ay u;clear u
 go_wp2
 go_ret;exact⟨_,rfl,t.o⟩
def C8(u:gN w y 124 #[.int .u8 4,p1,p2,p3,p4])(h:ar Oe 127 #[p4] w λe z=>∃v,e=.returned (.tuple #[v,.int .i64 0])/\Q v z) :
 ar Oe 54 #[.pointer (some ⟨y,0,none⟩)] w λe z=>∃v,e=.returned v/\Q v z:=by
 have C:=ay h;have x:=ay u;clear h u;have s:=x.o.k0;have r:=x.o.k4
 go_in
 go_wp2_with fail;refine(C.o).mono ?_
 rintro e q ⟨v,rfl,u⟩;have t:=ay u;clear u
 go_wp2
 go_ret;exact⟨_,rfl,t.o⟩
def GW(x:gN w y 124 #[.int .u8 1,p1,p2,p3,p4])(h:ar Oe 130 #[p1,a,n] w λe z=>∃v,e=.returned v/\Q v z) :
 ar Oe 64 #[.pointer (some ⟨y,0,none⟩),a,n,c] w λe z=>∃v,e=.returned v/\Q v z:=by
 have C:=ay h;have t:=ay x;clear h x;obtain⟨s,r⟩:=t.o.c2
 go_in
 go_wp2_with fail;refine(C.o).mono ?_
 rintro e q ⟨v,rfl,x⟩;have u:=ay x;clear x
 go_wp2
 go_ret;exact⟨_,rfl,u.o⟩
def GX(u:gN w y 124 #[.int .u8 2,p1,p2,p3,p4])(h:ar Oe 131 #[p2,a,n] w λe z=>∃v,e=.returned v/\Q v z) :
 ar Oe 64 #[.pointer (some ⟨y,0,none⟩),a,n,c] w λe z=>∃v,e=.returned v/\Q v z:=by
 have C:=ay h;have x:=ay u;clear h u;have s:=x.o.k0;have r:=x.o.k2
 go_in
 go_wp2_with fail;refine(C.o).mono ?_
 rintro e q ⟨v,rfl,u⟩;have t:=ay u;clear u
 go_wp2
 go_ret;exact⟨_,rfl,t.o⟩
def GY(u:gN w y 124 #[.int .u8 3,p1,p2,p3,p4])(h:ar Oe 132 #[p3,a,n] w λe z=>∃v,e=.returned v/\Q v z) :
 ar Oe 64 #[.pointer (some ⟨y,0,none⟩),a,n,c] w λe z=>∃v,e=.returned v/\Q v z:=by
 have C:=ay h;have x:=ay u;clear h u;have s:=x.o.k0;have r:=x.o.k3
 go_in
 go_wp2_with fail;refine(C.o).mono ?_
 rintro e q ⟨v,rfl,u⟩;have t:=ay u;clear u
 go_wp2
 go_ret;exact⟨_,rfl,t.o⟩
def xq(u:gN w y 124 #[.int .u8 4,p1,p2,p3,p4])(h:ar Oe 133 #[p4,a,n,c] w λe z=>∃v,e=.returned v/\Q v z) :
 ar Oe 64 #[.pointer (some ⟨y,0,none⟩),a,n,c] w λe z=>∃v,e=.returned v/\Q v z:=by
 have C:=ay h;have x:=ay u;clear h u;have s:=x.o.k0;have r:=x.o.k4
 go_in
 go_wp2_with fail;refine(C.o).mono ?_
 rintro e q ⟨v,rfl,u⟩;have t:=ay u;clear u
 go_wp2
 go_ret;exact⟨_,rfl,t.o⟩
def Au(x:gN w y 124 #[.int .u8 1,p1,p2,p3,p4])(h:ar Oe 55 #[p1] w λe z=>∃v,e=.returned v/\Q v z) :
 ar Oe 18 #[.pointer (some ⟨y,0,none⟩)] w λe z=>∃v,e=.returned v/\Q v z:=by
 have C:=ay h;have t:=ay x;clear h x;obtain⟨s,r⟩:=t.o.c2
 go_in
 go_wp2_with fail;refine(C.o).mono ?_
 rintro e q ⟨v,rfl,x⟩;have u:=ay x;clear x
 go_wp2
 go_ret;exact⟨_,rfl,u.o⟩
def Aw(u:gN w y 124 #[.int .u8 2,p1,p2,p3,p4])(h:ar Oe 56 #[p2] w λe z=>∃v,e=.returned v/\Q v z) :
 ar Oe 18 #[.pointer (some ⟨y,0,none⟩)] w λe z=>∃v,e=.returned v/\Q v z:=by
 have C:=ay h;have x:=ay u;clear h u;have s:=x.o.k0;have r:=x.o.k2
 go_in
 go_wp2_with fail;refine(C.o).mono ?_
 rintro e q ⟨v,rfl,u⟩;have t:=ay u;clear u
 go_wp2
 go_ret;exact⟨_,rfl,t.o⟩
def Ax(u:gN w y 124 #[.int .u8 3,p1,p2,p3,p4])(h:ar Oe 57 #[p3] w λe z=>∃v,e=.returned v/\Q v z) :
 ar Oe 18 #[.pointer (some ⟨y,0,none⟩)] w λe z=>∃v,e=.returned v/\Q v z:=by
 have C:=ay h;have x:=ay u;clear h u;have s:=x.o.k0;have r:=x.o.k3
 go_in
 go_wp2_with fail;refine(C.o).mono ?_
 rintro e q ⟨v,rfl,u⟩;have t:=ay u;clear u
 go_wp2
 go_ret;exact⟨_,rfl,t.o⟩
def Ay(u:gN w y 124 #[.int .u8 4,p1,p2,p3,p4])(h:ar Oe 58 #[p4] w λe z=>∃v,e=.returned v/\Q v z) :
 ar Oe 18 #[.pointer (some ⟨y,0,none⟩)] w λe z=>∃v,e=.returned v/\Q v z:=by
 have C:=ay h;have x:=ay u;clear h u;have s:=x.o.k0;have r:=x.o.k4
 go_in
 go_wp2_with fail;refine(C.o).mono ?_
 rintro e q ⟨v,rfl,u⟩;have t:=ay u;clear u
 go_wp2
 go_ret;exact⟨_,rfl,t.o⟩
end
section
variable {y : Nat} {p1 p2 p3 p4 : Value} {w : World} {n : Int}
def qK(z:gN w y 124 #[.int .u8 3,p1,p2,p3,p4])(h:∀x,aq w x->ar Oe 122 #[p3] x λe g=>e=.returned (.int .i64 n)/\x=g) :
 ar Oe 53 #[.pointer (some ⟨y,0,none⟩)] w (aw w (iv 3 0 0 0 false 0 n)):=by
 have C:=ay h;have f:=ay z;have u:=z.k0;clear h z;unfold iv
 go_in
 obtain⟨b,s⟩:=au (w.heap.size);obtain⟨t,v⟩:=au (w.alloc (.cells #[.int .u8 0,.int .i64 0,.int .i64 0,.int .i64 0,.bool false,.int .i64 0,.int .i64 0] 33));have r:aq w t:=by rw[<-v];exact bw
 have P:Hid (gN t b 33 #[.int .u8 0,.int .i64 0,.int .i64 0,.int .i64 0,.bool false,.int .i64 0,.int .i64 0]):=by rw[<-v,<-s];exact ay (gN.new _ _ _)
 have q:t.heap.size=b+1:=by rw[<-v,<-s,aI]
 have S:=ay s
 go_upto_region 1 with fail;clear v s u;have u:=(f.o.keep r).k0;have R:=ay q;clear q
 go_upto_region 2 with fail;obtain⟨x,p⟩:=au (t.alloc (.cells #[.int .u8 3,.int .i64 0,.int .i64 0,.int .i64 0,.bool false,.int .i64 0,.int .i64 0] 33));have d:aq t x:=by rw[<-p];exact bw
 have q:aq w x:=r.trans (d.mono r.size);have O:Hid (gN x b 33 #[.int .u8 0,.int .i64 0,.int .i64 0,.int .i64 0,.bool false,.int .i64 0,.int .i64 0]):=ay (P.o.keep d);have v:Hid (gN x (b+1) 33 #[.int .u8 3,.int .i64 0,.int .i64 0,.int .i64 0,.bool false,.int .i64 0,.int .i64 0]):=by rw[<-p,<-R.o];exact ay (gN.new _ _ _)
 clear r d;rw[p];rw[R.o];clear p u;have u:=(f.o.keep q).k0;have Q:=(f.o.keep q).k3;have d:=v.o.k0;have c:=v.o.k1;have a:=v.o.k2;have Y:=v.o.k3;have X:=v.o.k4;have V:=v.o.k5;have U:=v.o.k6;have L:=v.o.frozen 6
 go_wp2_with fail;refine(C.o x q).mono ?_
 rintro e g ⟨rfl,rfl⟩;obtain⟨T,r⟩:=au (x.setCell ⟨b+1,6,none⟩ (.int .i64 n));have N:Hid (gN T (b+1) 33 #[.int .u8 3,.int .i64 0,.int .i64 0,.int .i64 0,.bool false,.int .i64 0,.int .i64 n]):=by rw[<-r];exact ay (v.o.gR 6 _)
 have z:Hid (gN T b 33 #[.int .u8 0,.int .i64 0,.int .i64 0,.int .i64 0,.bool false,.int .i64 0,.int .i64 0]):=by rw[<-r];exact ay (O.o.far (p:=⟨b+1,6,none⟩) ad _)
 have M:Hid (aq w T):=by rw[<-r];exact ay (q.setCell (p:=⟨b+1,6,none⟩) (by have:=S.o;show _<=b+1;omega) _)
 clear u Q
 go_upto_region 10 with fail;clear d c a Y X V U L r;obtain⟨d,c,a,Y,X,V,U⟩:=N.o.c7;have l:=z.o.frozen 0;have m:=z.o.frozen 1;have o:=z.o.frozen 2;have W:=z.o.frozen 3;have i:=z.o.frozen 4;have k:=z.o.frozen 5;have h:=z.o.frozen 6;obtain⟨H,G,F,D,B,A,j⟩:=z.o.c7
 go_wp2_with fail;have E:=((((((z.o.gR 0 (.int .u8 3)).gR 1 (.int .i64 0)).gR 2 (.int .i64 0)).gR 3 (.int .i64 0)).gR 4 (.bool false)).gR 5 (.int .i64 0)).gR 6 (.int .i64 n);have u:=E.cell 0;have r:=E.cell 1;have Q:=E.cell 2;have L:=E.cell 3;have K:=E.cell 4;have J:=E.cell 5;have I:=E.cell 6;simp only[aY,bo,bm,aA,az,aB] at u r Q L K J I;refine an ?_
 have s:=S.o;exact⟨rfl,((((((M.o.setCell (p:=⟨b,0,none⟩) (by show _<=b;omega) _).setCell (p:=⟨b,1,none⟩) (by show _<=b;omega) _).setCell (p:=⟨b,2,none⟩) (by show _<=b;omega) _).setCell (p:=⟨b,3,none⟩) (by show _<=b;omega) _).setCell (p:=⟨b,4,none⟩) (by show _<=b;omega) _).setCell (p:=⟨b,5,none⟩) (by show _<=b;omega) _).setCell (p:=⟨b,6,none⟩) (by show _<=b;omega) _⟩
def qL(z:gN w y 124 #[.int .u8 4,p1,p2,p3,p4])(h:∀x,aq w x->ar Oe 123 #[p4] x λe g=>e=.returned (.int .i64 n)/\x=g) :
 ar Oe 53 #[.pointer (some ⟨y,0,none⟩)] w (aw w (iv 4 0 0 0 false 0 n)):=by
 have C:=ay h;have f:=ay z;have u:=z.k0;clear h z;unfold iv
 go_in
 obtain⟨b,s⟩:=au (w.heap.size);obtain⟨t,v⟩:=au (w.alloc (.cells #[.int .u8 0,.int .i64 0,.int .i64 0,.int .i64 0,.bool false,.int .i64 0,.int .i64 0] 33));have r:aq w t:=by rw[<-v];exact bw
 have P:Hid (gN t b 33 #[.int .u8 0,.int .i64 0,.int .i64 0,.int .i64 0,.bool false,.int .i64 0,.int .i64 0]):=by rw[<-v,<-s];exact ay (gN.new _ _ _)
 have q:t.heap.size=b+1:=by rw[<-v,<-s,aI]
 have S:=ay s
 go_upto_region 1 with fail;clear v s u;have u:=(f.o.keep r).k0;have R:=ay q;clear q
 go_upto_region 2 with fail;obtain⟨x,p⟩:=au (t.alloc (.cells #[.int .u8 4,.int .i64 0,.int .i64 0,.int .i64 0,.bool false,.int .i64 0,.int .i64 0] 33));have d:aq t x:=by rw[<-p];exact bw
 have q:aq w x:=r.trans (d.mono r.size);have O:Hid (gN x b 33 #[.int .u8 0,.int .i64 0,.int .i64 0,.int .i64 0,.bool false,.int .i64 0,.int .i64 0]):=ay (P.o.keep d);have v:Hid (gN x (b+1) 33 #[.int .u8 4,.int .i64 0,.int .i64 0,.int .i64 0,.bool false,.int .i64 0,.int .i64 0]):=by rw[<-p,<-R.o];exact ay (gN.new _ _ _)
 clear r d;rw[p];rw[R.o];clear p u;have u:=(f.o.keep q).k0;have Q:=(f.o.keep q).k4;have d:=v.o.k0;have c:=v.o.k1;have a:=v.o.k2;have Y:=v.o.k3;have X:=v.o.k4;have V:=v.o.k5;have U:=v.o.k6;have L:=v.o.frozen 6
 go_wp2_with fail;refine(C.o x q).mono ?_
 rintro e g ⟨rfl,rfl⟩;obtain⟨T,r⟩:=au (x.setCell ⟨b+1,6,none⟩ (.int .i64 n));have N:Hid (gN T (b+1) 33 #[.int .u8 4,.int .i64 0,.int .i64 0,.int .i64 0,.bool false,.int .i64 0,.int .i64 n]):=by rw[<-r];exact ay (v.o.gR 6 _)
 have z:Hid (gN T b 33 #[.int .u8 0,.int .i64 0,.int .i64 0,.int .i64 0,.bool false,.int .i64 0,.int .i64 0]):=by rw[<-r];exact ay (O.o.far (p:=⟨b+1,6,none⟩) ad _)
 have M:Hid (aq w T):=by rw[<-r];exact ay (q.setCell (p:=⟨b+1,6,none⟩) (by have:=S.o;show _<=b+1;omega) _)
 clear u Q
 go_upto_region 10 with fail;clear d c a Y X V U L r;obtain⟨d,c,a,Y,X,V,U⟩:=N.o.c7;have l:=z.o.frozen 0;have m:=z.o.frozen 1;have o:=z.o.frozen 2;have W:=z.o.frozen 3;have i:=z.o.frozen 4;have k:=z.o.frozen 5;have h:=z.o.frozen 6;obtain⟨H,G,F,D,B,A,j⟩:=z.o.c7
 go_wp2_with fail;have E:=((((((z.o.gR 0 (.int .u8 4)).gR 1 (.int .i64 0)).gR 2 (.int .i64 0)).gR 3 (.int .i64 0)).gR 4 (.bool false)).gR 5 (.int .i64 0)).gR 6 (.int .i64 n);have u:=E.cell 0;have r:=E.cell 1;have Q:=E.cell 2;have L:=E.cell 3;have K:=E.cell 4;have J:=E.cell 5;have I:=E.cell 6;simp only[aY,bo,bm,aA,az,aB] at u r Q L K J I;refine an ?_
 have s:=S.o;exact⟨rfl,((((((M.o.setCell (p:=⟨b,0,none⟩) (by show _<=b;omega) _).setCell (p:=⟨b,1,none⟩) (by show _<=b;omega) _).setCell (p:=⟨b,2,none⟩) (by show _<=b;omega) _).setCell (p:=⟨b,3,none⟩) (by show _<=b;omega) _).setCell (p:=⟨b,4,none⟩) (by show _<=b;omega) _).setCell (p:=⟨b,5,none⟩) (by show _<=b;omega) _).setCell (p:=⟨b,6,none⟩) (by show _<=b;omega) _⟩
end
section
variable {y : Nat} {p1 p2 p3 p4 : Value} {w : World} {a n : Int}
def qM(z:gN w y 124 #[.int .u8 2,p1,p2,p3,p4])(h:∀x,aq w x->ar Oe 120 #[p2] x λe u=>e=.returned (.int .i64 a)/\x=u)(v:∀x,aq w x->ar Oe 121 #[p2] x λe u=>e=.returned (.int .i64 n)/\x=u) :
 ar Oe 53 #[.pointer (some ⟨y,0,none⟩)] w (aw w (iv 2 0 0 0 false a n)):=by
 have C:=ay h;have H:=ay v;have r:=ay z;have t:=z.k0;clear h v z;unfold iv
 go_in
 obtain⟨b,g⟩:=au (w.heap.size);obtain⟨s,q⟩:=au (w.alloc (.cells #[.int .u8 0,.int .i64 0,.int .i64 0,.int .i64 0,.bool false,.int .i64 0,.int .i64 0] 33));have v:aq w s:=by rw[<-q];exact bw
 have J:Hid (gN s b 33 #[.int .u8 0,.int .i64 0,.int .i64 0,.int .i64 0,.bool false,.int .i64 0,.int .i64 0]):=by rw[<-q,<-g];exact ay (gN.new _ _ _)
 have p:s.heap.size=b+1:=by rw[<-q,<-g,aI]
 have d:=ay g
 go_upto_region 1 with fail;clear q g t;have t:=(r.o.keep v).k0;have P:=ay p;clear p
 go_upto_region 2 with fail;obtain⟨x,p⟩:=au (s.alloc (.cells #[.int .u8 2,.int .i64 0,.int .i64 0,.int .i64 0,.bool false,.int .i64 0,.int .i64 0] 33));have f:aq s x:=by rw[<-p];exact bw
 have q:aq w x:=v.trans (f.mono v.size);have I:Hid (gN x b 33 #[.int .u8 0,.int .i64 0,.int .i64 0,.int .i64 0,.bool false,.int .i64 0,.int .i64 0]):=ay (J.o.keep f);have Y:Hid (gN x (b+1) 33 #[.int .u8 2,.int .i64 0,.int .i64 0,.int .i64 0,.bool false,.int .i64 0,.int .i64 0]):=by rw[<-p,<-P.o];exact ay (gN.new _ _ _)
 clear v f;rw[p];rw[P.o];clear p t;have t:=(r.o.keep q).k0;have v:=(r.o.keep q).k2;have F:=ay v;have B:y<x.heap.size:=(r.o.keep q).lt;have A:¬(y=b+1):=by have:=r.o.lt;have:=d.o;omega
 have S:aq x x.drew:=(aC _ _).drew;have X:aq w x.drew:=q.drew;have c:Touch (λk=>k=b+1) x x.drew:=(Touch.refl _ x).drew
 have R:=ay (Y.o.keep S);clear v
 go_upto_region 7 with fail;have Z:=ay (λ(u:World) (v:(Touch (λk=>k=b+1) x) u)=>((ik v 2 B A).trans F.o))
 refine i' (Touch (λk=>k=b+1) x) (gW 0 4 (gW 5 4 (ib 4 (gW 10 1 (ib 9 (ib 11 (gW 12 1 (ib 13 [])))))))) (c) ?_
 iterate 8 refine hC ?_
 refine iy λK v=>?_
 go_simp;refine(C.o x.drew X).mono ?_
 rintro e u ⟨rfl,rfl⟩;refine v _ _ (c) ?_
 clear v K;refine hC ?_
 refine iy λK v=>?_
 go_simp;refine(H.o x.drew X).mono ?_
 rintro e u ⟨rfl,rfl⟩;refine v _ _ (c) ?_
 clear v K;refine iy λK v=>?_
 have M:=R.o.frozen 5;have U:=R.o.k5
 go_simp;have O:Touch (λk=>k=b+1) x ((x.setCell ⟨b+1,5,none⟩ (.int .i64 a)).drew):=((show Touch (λk=>k=b+1) x x from Touch.refl _ x).setCell (p:=⟨b+1,5,none⟩) (.inl rfl) _).drew
 have Q:=ay ((Y.o.gR 5 (.int .i64 a)).keep ((aC _ _).drew));clear M U;refine v _ _ (O) ?_
 clear v K;refine hC ?_
 refine iy λK v=>?_
 have L:=Q.o.frozen 6;have T:=Q.o.cell 6;simp only[aY,bo,bm,aA,az,aB] at T
 go_simp;have N:Touch (λk=>k=b+1) x (((x.setCell ⟨b+1,5,none⟩ (.int .i64 a)).setCell ⟨b+1,6,none⟩ (.int .i64 n)).drew):=(((show Touch (λk=>k=b+1) x x from Touch.refl _ x).setCell (p:=⟨b+1,5,none⟩) (.inl rfl) _).setCell (p:=⟨b+1,6,none⟩) (.inl rfl) _).drew
 clear L T;refine v _ _ (N) ?_
 clear v K;refine gM ?_
 obtain⟨V,f⟩:=au ((((x.setCell ⟨b+1,5,none⟩ (.int .i64 a)).setCell ⟨b+1,6,none⟩ (.int .i64 n)).drew));have G:Hid (gN V (b+1) 33 #[.int .u8 2,.int .i64 0,.int .i64 0,.int .i64 0,.bool false,.int .i64 a,.int .i64 n]):=by rw[<-f];exact ay (((Y.o.gR 5 _).gR 6 _).keep ((aC _ _).drew))
 have z:Hid (gN V b 33 #[.int .u8 0,.int .i64 0,.int .i64 0,.int .i64 0,.bool false,.int .i64 0,.int .i64 0]):=by rw[<-f];exact ay (((I.o.far (p:=⟨b+1,5,none⟩) ad _).far (p:=⟨b+1,6,none⟩) ad _).keep ((aC _ _).drew))
 have D:Hid (aq w V):=by rw[<-f];exact ay (((q.setCell (p:=⟨b+1,5,none⟩) (by have:=d.o;show _<=b+1;omega) _).setCell (p:=⟨b+1,6,none⟩) (by have:=d.o;show _<=b+1;omega) _).drew)
 try rw[f]
 clear t c O N S X
 go_upto_region 10 with fail;clear f;obtain⟨j,l,m,o,W,i,k⟩:=G.o.c7;have y0:=z.o.frozen 0;have y1:=z.o.frozen 1;have y2:=z.o.frozen 2;have y3:=z.o.frozen 3;have y4:=z.o.frozen 4;have M:=z.o.frozen 5;have L:=z.o.frozen 6;obtain⟨h,x1,x2,x3,x4,U,T⟩:=z.o.c7
 go_wp2_with fail;have E:=((((((z.o.gR 0 (.int .u8 2)).gR 1 (.int .i64 0)).gR 2 (.int .i64 0)).gR 3 (.int .i64 0)).gR 4 (.bool false)).gR 5 (.int .i64 a)).gR 6 (.int .i64 n);have t:=E.cell 0;have f:=E.cell 1;have c:=E.cell 2;have X:=E.cell 3;have S:=E.cell 4;have O:=E.cell 5;have N:=E.cell 6;simp only[aY,bo,bm,aA,az,aB] at t f c X S O N;refine an ?_
 have g:=d.o;exact⟨rfl,((((((D.o.setCell (p:=⟨b,0,none⟩) (by show _<=b;omega) _).setCell (p:=⟨b,1,none⟩) (by show _<=b;omega) _).setCell (p:=⟨b,2,none⟩) (by show _<=b;omega) _).setCell (p:=⟨b,3,none⟩) (by show _<=b;omega) _).setCell (p:=⟨b,4,none⟩) (by show _<=b;omega) _).setCell (p:=⟨b,5,none⟩) (by show _<=b;omega) _).setCell (p:=⟨b,6,none⟩) (by show _<=b;omega) _⟩
end
def uV(k:Int)(w:World)(y:1<=k)(x:k<=4):ar Oe 107 #[.int .u8 k] w λe z=>e=.returned (.bool true)/\w=z:=by
 go_in
 go_wp2
 go_ret;exact⟨rfl,rfl⟩
section
variable {y : Nat} {p1 p2 p3 p4 : Value} {w : World} {lo hi dg : Int} {gr : Bool}
def qN(z:gN w y 124 #[.int .u8 1,p1,p2,p3,p4])(h:∀x,aq w x->ar Oe 118 #[p1] x λe u=>e=.returned (.agg #[.int .i64 lo,.int .i64 hi,.int .i64 dg])/\aq x u)(v:∀x,aq w x->ar Oe 119 #[p1] x λe u=>e=.returned (.bool gr)/\x=u) :
 ar Oe 53 #[.pointer (some ⟨y,0,none⟩)] w (aw w (iv 1 lo hi dg gr 0 0)):=by
 have C:=ay h;have l:=ay v;have a:=ay z;have s:=z.k0;clear h v z;unfold iv
 go_in
 obtain⟨b,f⟩:=au (w.heap.size);obtain⟨q,t⟩:=au (w.alloc (.cells #[.int .u8 0,.int .i64 0,.int .i64 0,.int .i64 0,.bool false,.int .i64 0,.int .i64 0] 33));have v:aq w q:=by rw[<-t];exact bw
 have B:Hid (gN q b 33 #[.int .u8 0,.int .i64 0,.int .i64 0,.int .i64 0,.bool false,.int .i64 0,.int .i64 0]):=by rw[<-t,<-f];exact ay (gN.new _ _ _)
 have r:q.heap.size=b+1:=by rw[<-t,<-f,aI]
 have U:=ay f
 go_upto_region 1 with fail;clear t f s;have s:=(a.o.keep v).k0;have M:=ay r;clear r
 go_upto_region 2 with fail;obtain⟨x,t⟩:=au (q.alloc (.cells #[.int .u8 1,.int .i64 0,.int .i64 0,.int .i64 0,.bool false,.int .i64 0,.int .i64 0] 33));have r:aq q x:=by rw[<-t];exact bw
 have g:aq w x:=v.trans (r.mono v.size);have A:Hid (gN x b 33 #[.int .u8 0,.int .i64 0,.int .i64 0,.int .i64 0,.bool false,.int .i64 0,.int .i64 0]):=ay (B.o.keep r);have j:Hid (gN x (b+1) 33 #[.int .u8 1,.int .i64 0,.int .i64 0,.int .i64 0,.bool false,.int .i64 0,.int .i64 0]):=by rw[<-t,<-M.o];exact ay (gN.new _ _ _)
 clear v r;rw[t];rw[M.o];clear t s;obtain⟨s,v⟩:=(a.o.keep g).c2;have o:=ay v;have h:y<x.heap.size:=(a.o.keep g).lt;have ny:¬(y=b+1):=by have:=a.o.lt;have:=U.o;omega
 have N:aq x x.drew:=(aC _ _).drew;have I:aq w x.drew:=g.drew;have L:Touch (λk=>k=b+1) x x.drew:=(Touch.refl _ x).drew
 clear v
 go_upto_region 5 with fail;have Z:=ay (λ(u:World) (v:(Touch (λk=>k=b+1) x) u)=>((ik v 1 h ny).trans o.o))
 refine i' (Touch (λk=>k=b+1) x) (gW 0 4 (gW 5 4 (ib 4 (gW 10 1 (ib 9 (ib 11 (gW 12 1 (ib 13 [])))))))) (L) ?_
 iterate 8 refine hC ?_
 refine iy λK v=>?_
 go_simp;refine(C.o x.drew I).mono ?_
 rintro e r ⟨rfl,i⟩;have c:aq x r:=N.trans i;have Y:Touch (λk=>k=b+1) x r:=Touch.of_below c (aD _)
 have t:=ay (j.o.keep c);have n:=ay (A.o.keep c);have bs:aq w r:=g.trans (c.mono g.size);refine v _ _ (Y) ?_
 clear v K;refine hC ?_
 refine iy λK v=>?_
 go_simp;refine(l.o r bs).mono ?_
 rintro e u ⟨rfl,rfl⟩;refine v _ _ (Y) ?_
 clear v K;refine iy λK v=>?_
 have H:=t.o.frozen 1;have R:=t.o.k1;have G:=t.o.frozen 2;have Q:=t.o.k2;have F:=t.o.frozen 3;have P:=t.o.k3
 go_simp;have T:Touch (λk=>k=b+1) x (((r.setCell ⟨b+1,1,none⟩ (.int .i64 lo)).setCell ⟨b+1,2,none⟩ (.int .i64 hi)).setCell ⟨b+1,3,none⟩ (.int .i64 dg)):=((Y.setCell (p:=⟨b+1,1,none⟩) (.inl rfl) _).setCell (p:=⟨b+1,2,none⟩) (.inl rfl) _).setCell (p:=⟨b+1,3,none⟩) (.inl rfl) _
 have V:=ay (((t.o.gR 1 (.int .i64 lo)).gR 2 (.int .i64 hi)).gR 3 (.int .i64 dg));clear H R G Q F P;refine v _ _ (T) ?_
 clear v K;refine hC ?_
 refine iy λK v=>?_
 have D:=V.o.frozen 4;have O:=V.o.cell 4;simp only[aY,bo,bm,aA,az,aB] at O
 go_simp;have J:Touch (λk=>k=b+1) x ((((r.setCell ⟨b+1,1,none⟩ (.int .i64 lo)).setCell ⟨b+1,2,none⟩ (.int .i64 hi)).setCell ⟨b+1,3,none⟩ (.int .i64 dg)).setCell ⟨b+1,4,none⟩ (.bool gr)):=T.setCell (p:=⟨b+1,4,none⟩) (.inl rfl) _
 clear D O;refine v _ _ (J) ?_
 clear v K;refine gM ?_
 obtain⟨S,d⟩:=au ((((r.setCell ⟨b+1,1,none⟩ (.int .i64 lo)).setCell ⟨b+1,2,none⟩ (.int .i64 hi)).setCell ⟨b+1,3,none⟩ (.int .i64 dg)).setCell ⟨b+1,4,none⟩ (.bool gr));have m:Hid (gN S (b+1) 33 #[.int .u8 1,.int .i64 lo,.int .i64 hi,.int .i64 dg,.bool gr,.int .i64 0,.int .i64 0]):=by rw[<-d];exact ay (V.o.gR 4 _)
 have z:Hid (gN S b 33 #[.int .u8 0,.int .i64 0,.int .i64 0,.int .i64 0,.bool false,.int .i64 0,.int .i64 0]):=by rw[<-d];exact ay ((((n.o.far (p:=⟨b+1,1,none⟩) ad _).far (p:=⟨b+1,2,none⟩) ad _).far (p:=⟨b+1,3,none⟩) ad _).far (p:=⟨b+1,4,none⟩) ad _)
 have X:w.heap.size<=b+1:=by have:=U.o;omega
 have W:Hid (aq w S):=by rw[<-d];exact ay ((((bs.setCell (p:=⟨b+1,1,none⟩) X _).setCell (p:=⟨b+1,2,none⟩) X _).setCell (p:=⟨b+1,3,none⟩) X _).setCell (p:=⟨b+1,4,none⟩) X _)
 try rw[d]
 clear s L T J Y N I
 go_upto_region 10 with fail;clear d;obtain⟨I,k,j2,j3,j4,j5,j6⟩:=m.o.c7;have y0:=z.o.frozen 0;have H:=z.o.frozen 1;have G:=z.o.frozen 2;have F:=z.o.frozen 3;have D:=z.o.frozen 4;have y5:=z.o.frozen 5;have y6:=z.o.frozen 6;obtain⟨x0,R,Q,P,O,x5,x6⟩:=z.o.c7
 go_wp2_with fail;have E:=((((((z.o.gR 0 (.int .u8 1)).gR 1 (.int .i64 lo)).gR 2 (.int .i64 hi)).gR 3 (.int .i64 dg)).gR 4 (.bool gr)).gR 5 (.int .i64 0)).gR 6 (.int .i64 0);have s:=E.cell 0;have d:=E.cell 1;have Y:=E.cell 2;have T:=E.cell 3;have N:=E.cell 4;have L:=E.cell 5;have J:=E.cell 6;simp only[aY,bo,bm,aA,az,aB] at s d Y T N L J;refine an ?_
 have f:=U.o;exact⟨rfl,((((((W.o.setCell (p:=⟨b,0,none⟩) (by show _<=b;omega) _).setCell (p:=⟨b,1,none⟩) (by show _<=b;omega) _).setCell (p:=⟨b,2,none⟩) (by show _<=b;omega) _).setCell (p:=⟨b,3,none⟩) (by show _<=b;omega) _).setCell (p:=⟨b,4,none⟩) (by show _<=b;omega) _).setCell (p:=⟨b,5,none⟩) (by show _<=b;omega) _).setCell (p:=⟨b,6,none⟩) (by show _<=b;omega) _⟩
end
end D
end Go.Proofs.YtdicblkhpcphfaaGreat
