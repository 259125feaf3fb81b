/- Parts. -/
import Derived.Test.YtdicblkhpcphfaaGreatPU33
set_option maxRecDepth 100000
set_option maxHeartbeats 0
set_option linter.all false
namespace Go.Proofs.YtdicblkhpcphfaaGreat
open Tryz Go.RowKit Go.Lib Go.Shelf
open _root_.List renaming length→ab0
open Go.IntKind renaming wrap→ad0
open _root_.Go renaming Calls→af4
open Tryz renaming prog→af5
namespace D
variable{sp:ie}{a base i n o0 vb wb x y:Nat}{cq v:Value}{O1 Ow:Nat->Ft}{w w' w0:World}{F Fy H:Ft}{o s s':Wn}{B:List Int}{R S:Nat->Wn}{X Y:Nat->Nat}{l:List zO}
structure JS(o0:Nat)(sp:ie)(B:List Int)(late:Nat)(o:Wn)(r:List Js × Nat × Int)(N:Nat)(cq:Value)(H:Ft)(w:World)(z now k:Nat)(L:List Js)(a:Nat)(F:Ft)(wr:World):Prop where
 win:iV sp ⟨L,now⟩ z F wr
 ok:∀c∈L,im sp c
 len:ab0 L=N
 cn:iI o0 cq B a H wr
 new:∀j,F j->w.heap.size<=j
 touch:Touch H w wr
 eq:ua sp B late o.L k L a=r
def PA{now aa1 z:Nat}{L:List Js}{v0:Value}{ps:List Nat}{G:Ft}(r:g7 w x 54 (sp.cs++[v0,Value.int .u64 aa1]).toArray)(h:jZ sp now L v ps Ow G z w)(y:¬G x):jZ sp now L v ps Ow G x ((w.setCell (af7 x 7) v).setCell (af7 x 8) (.int .u64 now))/\Touch (λj=>j=x) w ((w.setCell (af7 x 7) v).setCell (af7 x 8) (.int .u64 now)):=by
 have u:Touch (λj=>j=x) w ((w.setCell (af7 x 7) v).setCell (af7 x 8) (.int .u64 now)):=Touch.setCell (F:=λj=>j=x) (Touch.setCell (F:=λj=>j=x) (Touch.refl _ w) (p:=af7 x 7) (.inl rfl) v) (p:=af7 x 8) (.inl rfl) _;have t:=(r.hJ 7 v).hJ 8 (.int .u64 now);exact⟨⟨by revert t;cases sp<;>exact id,h.ring.far (ll sp) u (λj s e=>y (by rw[<-show j=x from e];exact s)),h.pos,h.n60,y⟩,u⟩
def oV{kd lo hi dg ac sz:Int}{gr:Bool}(X:sp.cs=[.int .u8 kd,af6 lo,af6 hi,af6 dg,.bool gr,af6 ac,af6 sz])(oks:jR sp)(w:World)(h:iV sp s x F w)(h2:iV sp o y Fy w)(d:jX sp n s)(b:jX sp n o)(hn0:0<n)
 (V:iI o0 cq B a H w) (ho0:o0<=w.heap.size) (U:∀k,H k->¬F k/\¬Fy k) (Ws:∀k,F k->o0<=k) :
 af4 af5 36 #[aq x,aq y,cq] w (jx (iV sp (pO sp B o s a) x) (iI o0 cq B (qN sp B o s a).2.1) F H (s8 sp B o s a) w):=by
 have HX0:=ax h;obtain⟨v,ps,Ow,G,N,hFx,hGF,hF⟩:=h;obtain⟨u,qs,Oy,Gy,r,Zz,W_,kF⟩:=h2;have Mc:ab0 s.L=n:=d.len;have Y:ab0 o.L=n:=b.len;have h60:n<=60:=by rw[<-Mc];exact N.n60
 have Pw:=d.now;have know:=b.now;have ly:=r.blk.lt;have D:=N.blk.lt;have HW:=ax N;have KW:=ax r;have HN:=ax (aB d b);have HC:=ax V;have HD:=ax U;have PX:=ax X;have t:=N.blk;have z:=r.blk;rw[X] at t z;have f0:=t.C 0;have f1:=t.C 1;have f2:=t.C 2;have f3:=t.C 3;have f4:=t.C 4;have f5:=t.C 5;have f6:=t.C 6;have d0:=z.C 0;have d1:=z.C 1;have d2:=z.C 2;have d3:=z.C 3;have d4:=z.C 4;have d5:=z.C 5;have d6:=z.C 6;simp only[bG,bB,az,ay,aA] at f0 f1 f2 f3 f4 f5 f6 d0 d1 d2 d3 d4 d5 d6;have f7:=N.c7;have f8:=N.c8;have d7:=r.c7;have f:=r.c8;obtain⟨g,c,rfl,hgl,_,_,UE,_,p⟩:=N.ring.pos N.pos;obtain⟨g2,c2,rfl,kgl,_,_,kGg,_,q⟩:=r.ring.pos r.pos;rw[Mc] at f7;rw[Y] at d7;have R:=ax (aB f0 (aB f1 (aB f2 (aB f3 (aB f4 (aB f5 (aB f6 (aB f7 f8))))))));have A:=ax (aB d0 (aB d1 (aB d2 (aB d3 (aB d4 (aB d5 (aB d6 (aB d7 f))))))));have Ss:=ax (aB Mc Y);have HCE:=ax (aB p q);clear N r d b V U X t z Mc Y f0 f1 f2 f3 f4 f5 f6 f7 f8 d0 d1 d2 d3 d4 d5 d6 d7 f p q;go_in;go_upto_region 1 with fail;refine jh (λX=>X=w.drew) (hQ 0 22 []) (rfl) ?_;iterate 22 refine ib (h:=λX Y=>by subst Y;have f0:w.drew.cell? (af7 x 0)=_:=R.o.1;have f1:w.drew.cell? (af7 x 1)=_:=R.o.2.1;have f2:w.drew.cell? (af7 x 2)=_:=R.o.2.2.1;have f3:w.drew.cell? (af7 x 3)=_:=R.o.2.2.2.1;have f4:w.drew.cell? (af7 x 4)=_:=R.o.2.2.2.2.1;have f5:w.drew.cell? (af7 x 5)=_:=R.o.2.2.2.2.2.1;have f6:w.drew.cell? (af7 x 6)=_:=R.o.2.2.2.2.2.2.1;have f7:w.drew.cell? (af7 x 7)=_:=R.o.2.2.2.2.2.2.2.1;have d0:w.drew.cell? (af7 y 0)=_:=A.o.1;have d1:w.drew.cell? (af7 y 1)=_:=A.o.2.1;have d2:w.drew.cell? (af7 y 2)=_:=A.o.2.2.1;have d3:w.drew.cell? (af7 y 3)=_:=A.o.2.2.2.1;have d4:w.drew.cell? (af7 y 4)=_:=A.o.2.2.2.2.1;have d5:w.drew.cell? (af7 y 5)=_:=A.o.2.2.2.2.2.1;have d6:w.drew.cell? (af7 y 6)=_:=A.o.2.2.2.2.2.2.1;have d7:w.drew.cell? (af7 y 7)=_:=A.o.2.2.2.2.2.2.2.1;exact af8) ?_
 refine g4 ?_;have f:af3 w w.drew.drew:=(aC _ _).drew.drew;go_upto_region 3 with fail;have Z:=ax (λ(X:World) (Y:(af3 w) X)=>(aB ((Y.C (p:=af7 x 0) D).T R.o.1) (aB ((Y.C (p:=af7 x 1) D).T R.o.2.1) (aB ((Y.C (p:=af7 x 2) D).T R.o.2.2.1) (aB ((Y.C (p:=af7 x 3) D).T R.o.2.2.2.1) (aB ((Y.C (p:=af7 x 4) D).T R.o.2.2.2.2.1) (aB ((Y.C (p:=af7 x 5) D).T R.o.2.2.2.2.2.1) (aB ((Y.C (p:=af7 x 6) D).T R.o.2.2.2.2.2.2.1) ((Y.C (p:=af7 x 8) D).T R.o.2.2.2.2.2.2.2.2)))))))));refine jh (af3 w) (hQ 0 9 (ik 9 (hQ 10 1 []))) (f) ?_;iterate 9 refine ib ?_
 refine iz λK Q=>?_;go_simp;refine Q _ _ (f.alloc f.size _) ?_;refine ib ?_;refine g4 ?_;have⟨z,r⟩:=ar (w.heap.size);have⟨wz,t⟩:=ar ((w.alloc (.cells #[.int .u8 kd,af6 lo,af6 hi,af6 dg,.bool gr,af6 ac,af6 sz,.slice none 0 0,.int .u64 s.now] 54)).drew.drew);try refine g6 ?_
 rw[t,r];have UF:Hid (oy sp s.now s.L w z 0 (.slice none 0 0) [] (λ_ _=>False) (λ_=>False) wz):=by
  refine ax (oy.start ?_ (by rw[<-t];exact bw));rw[PX.o,<-t,<-r];exact(g7.new w 54 #[.int .u8 kd,af6 lo,af6 hi,af6 dg,.bool gr,af6 ac,af6 sz,.slice none 0 0,.int .u64 s.now]).drew.drew
 clear t;have Wi:=ax r;clear r f;go_wp2;go_loopg [8] n (λq t wr=>∃(i:Nat) (m:Value) (ps1:List Nat) (Wj:Nat->Ft) (G1:Ft),q=n - i/\i<=n/\t=af6 i/\Hid (oy sp s.now s.L w z i m ps1 Wj G1 wr))
 exact⟨0,_,_,_,_,rfl,aa,rfl,UF⟩
 case round=>
  obtain⟨i,m,ps1,Wj,G1,hq,hile,rfl,V⟩:=hrel;have HQ:=ax hq;clear hq;have f7:=(V.o.below.C (p:=af7 x 7) D).T R.o.2.2.2.2.2.2.2.1;by_cases hlt:i<n
  .have hji:(i:Int)<(n:Int):=aa
   have L:i<ab0 s.L:=by rw[Ss.o.1];exact hlt
   have cir:Hid (wr.cell? (af7 g i)=some (.pointer (some (af7 (ps.getD i 0) 0)))):=ax ((V.o.below.C (p:=af7 g i) hgl).T (HCE.o.1 i L));have r:im sp s.L[i]:=HN.o.1.each _ (aP L);have t:=(HW.o.K V.o.below).ring.each i L;have CP:=ax (Fl wr.drew ((ke sp _ _).K t (aC _ _).drew) r);have z7:=ax (by have:=V.o.blk.C 7;rw[PX.o] at this;exact this:wr.cell? (af7 z 7)=some m);have y7:Hid (wr.frozen? (af7 z 7)=false):=ax (V.o.blk.F 7);have x7:=ax f7;have lz:z<wr.heap.size:=V.o.blk.lt;have lxr:x<wr.heap.size:=by have:=V.o.below.size;omega
   have Th:g<wr.heap.size:=by have:=V.o.below.size;omega
   have l:∀k,m.ownBlock=some k->w.heap.size<=k/\k≠z:=λk e=>V.o.new k (V.o.ring.mg k e).1;have j:¬(m.ownBlock=some z):=λe=>(l z e).2 rfl;have nx:¬(m.ownBlock=some x):=λe=>by have:=(l x e).1;omega
   have ng:¬(m.ownBlock=some g):=λe=>by have:=(l g e).1;omega
   have hrl:ab0 ps1=i:=by rw[V.o.ring.len,aU];omega
   have J:w.heap.size<=z:=by have:=Wi.o;omega
   clear r t;generalize ps.getD i 0=yi at *;go_upto_region 7 with fail;clear f7;have Z:=ax (λ(X:World) (Y:(Touch (λk=>m.ownBlock=some k) wr) X)=>(aB ((g9 Y 7 lz j).T z7.o) (aB ((g9 Y 7 lxr nx).T x7.o) ((g9 Y i Th ng).T cir.o))));refine qd (Touch (λk=>m.ownBlock=some k) wr) 17 (pW 0 12 (o_ 12 (o_ 13 (o_ 14 (FH 15 1 (pW 16 1 (o_ 17 []))))))) ((Touch.refl _ _).drew) ?_;iterate 12 refine kz ?_
   refine nC λK Q=>?_;go_simp;refine WE CP.o ?_;rintro U T ⟨C,I⟩;have b:af3 wr T:=(aC _ _).drew.T I;have O:Touch (λk=>m.ownBlock=some k) wr T:=Touch.of_below b (aD _);refine Q _ _ (O) ?_;refine nC λK Q=>?_;have P:=O.alloc (.cells #[aq U] 49);have M:af3 wr _:=b.alloc b.size (.cells #[aq U] 49);go_simp;refine Q _ _ (P) ?_;refine nC λK Q=>?_;refine yq It (.tmp 57) (.tmp 66) rfl (g8.K V.o.ring.row M) rfl _ [U] rfl (iQ.ig (E:=zP 49) T U _ rfl _ rfl _ rfl) ae (bl _) ?_;intro v8 W r t d;have f:Touch (λk=>m.ownBlock=some k) wr W:=P.grown t (λk e=>.inl e);have S:=ax (V.o.next L J C b ((aC _ T).alloc (aD _) _) r t d);obtain⟨A8,c8,rfl,_,_,_⟩:=r.form;clear r t d;go_simp;refine Q _ _ (f) ?_;refine sQ ?_;refine kz ?_;refine qc λK Q=>?_;have z7':=(g9 f 7 lz j).T z7.o;have d:=(kU f 7 lz j).T y7.o;go_simp;refine Q _ _ ?_;refine iq ?_;have t:=S.o;simp only[aE,bh,hrl] at t;have r:=ax t;clear t S O P f b M CP C I z7 y7;try refine g6 ?_
   go_wp2;go_roundg (n - (i+1))
   exact⟨i+1,_,_,_,_,rfl,aa,af,r⟩;have:=HQ.o;omega
  .have hji:¬((i:Int)<(n:Int)):=aa
   obtain rfl:n=i:=aa;have t:=V.o;rw[<-Ss.o.1] at t;have J:w.heap.size<=z:=by have:=Wi.o;omega
   have HZ:=ax (t.done J HW.o.pos HW.o.n60);have HB:=ax V.o.below;have z9:=ax (by have:=V.o.blk.C 8;rw[PX.o] at this;exact this:wr.cell? (af7 z 8)=some (.int .u64 s.now));have o9:Hid (wr.cell? (af7 y 8)=some (.int .u64 o.now)):=ax ((V.o.below.C (p:=af7 y 8) ly).T A.o.2.2.2.2.2.2.2.2);have lz:z<wr.heap.size:=V.o.blk.lt;clear t V HQ;go_upto_region 8 with fail;clear f7;refine jh (λX=>X=wr.drew) (hQ 0 9 []) (rfl) ?_;iterate 9 refine ib (h:=λX Y=>by subst Y;have Wk:wr.drew.cell? (af7 z 8)=_:=z9.o;have Wl:wr.drew.cell? (af7 y 8)=_:=o9.o;exact af8) ?_
   refine g4 ?_;rcases bm s.now o.now with hgt|hgt
   have f:wG sp o s=kH sp (o.now - s.now) s:=by unfold wG;rw[aH hgt]
   have U:(o.now:Int) - (s.now:Int)=((o.now - s.now:Nat):Int):=aa;have b:=ax (vx (o.now - s.now) wr.drew.drew oks ((iM sp s z).K HZ.o (aC _ _).drew.drew) Pw aa);have r:=ax f;have⟨dn,t⟩:=ar (o.now - s.now);rw[t] at b U r;clear f t;go_upto_region 9 with fail;refine kr (λX=>X=wr.drew.drew) 10 (hQ 0 10 []) (rfl) ?_;iterate 10 refine jG (h:=λX Y=>by subst Y;have Wk:wr.drew.drew.cell? (af7 z 8)=_:=z9.o;have Wl:wr.drew.drew.cell? (af7 y 8)=_:=o9.o;exact af8) ?_
   refine hN ?_;simp only[aX,bj];go_wp21;refine RX b.o ?_;rintro P ⟨d,t⟩;obtain⟨W,HZ3,HF3⟩:∃W:Ft,Hid (iV sp (wG sp o s) z W P)/\Hid (∀k,W k->w.heap.size<=k):=⟨Gr (Gr (λ_=>False) w wr) wr.drew.drew P,ax (by rw[r.o];exact d),ax (λk hk=>hk.elim (λh=>h.elim False.elim And.left) (λh=>by have:=HB.o.size;have h:wr.heap.size<=k:=h.1;omega))⟩;have HB3:Hid (af3 w P):=ax (HB.o.T ((aC _ wr).drew.drew.M HB.o.size |>.trans (t.below (λk hk=>hk.elim False.elim And.left) HB.o.size)));clear d t b r U z9 o9 lz J;go_wp21;try refine g6 ?_
   try go_wp21
   rotate_left
   have f:wG sp o s=s:=by unfold wG;rw[aF aa]
   have r:=ax f;clear f;go_upto_region 10 with fail;have⟨P,t⟩:=ar (wr.drew);rw[t];obtain⟨W,HZ3,HF3⟩:∃W:Ft,Hid (iV sp (wG sp o s) z W P)/\Hid (∀k,W k->w.heap.size<=k):=⟨Gr (λ_=>False) w wr,ax (by rw[r.o,<-t];exact(iM sp s z).K HZ.o (aC _ _).drew),ax (λk hk=>hk.elim False.elim And.left)⟩;have HB3:=ax (by rw[<-t];exact HB.o.drew:af3 w P);clear t r z9 o9 lz J
   all_goals
    have HU:=ax (aB (Ia (o:=o) oks HN.o.1 hn0) (JJ (sp:=sp) (s:=s) HN.o.2));have⟨U,t⟩:=ar (wG sp o s);have Wm:=ax t;rw[t] at HZ3 HU;clear t;have⟨b,t⟩:=ar (U.now - o.now);have r:=HU.o.2;have hUn:=HU.o.1.now;have PV:(U.now:Int) - (o.now:Int)=(b:Int):=aa;have hll:b<=9223372036854775807:=aa;have ZA:=ax t;have o9:Hid (P.cell? (af7 y 8)=some (.int .u64 o.now)):=ax ((HB3.o.C (p:=af7 y 8) ly).T A.o.2.2.2.2.2.2.2.2);have z9:=ax (by obtain⟨_,_,_,_,r1,_⟩:=HZ3.o;exact r1.c8:P.cell? (af7 z 8)=some (.int .u64 U.now));have AR:=ax PV;clear t PV r;go_upto_region 10 with fail;refine kr (λX=>X=P.drew) 9 (hQ 0 9 []) (rfl) ?_;iterate 9 refine jG (h:=λX Y=>by subst Y;have PV:=AR.o;have Wk:P.drew.cell? (af7 z 8)=_:=z9.o;have Wl:P.drew.cell? (af7 y 8)=_:=o9.o;exact af8) ?_
    refine hN ?_;simp only[aX,bj];have t:P.drew.cell? (af7 y 7)=_:=(HB3.o.C (p:=af7 y 7) ly).T A.o.2.2.2.2.2.2.2.1;go_wp21;try refine g6 ?_
    try go_wp21
    clear t;have⟨w4,t⟩:=ar (P.drew);rw[t];have f:af3 w w4:=by rw[<-t];exact HB3.o.drew
    have r:ab0 o.L=n:=HN.o.2.len;have HT0:Hid (JS o0 sp B b o (qN sp B o s a) n cq H w z U.now n U.L a W w4):=ax ⟨by rw[<-t];exact(iM sp U z).K HZ3.o (aC _ _).drew,HU.o.1.each,HU.o.1.len,HC.o.K ho0 f,HF3.o,Touch.of_below f (aD _),by unfold qN;rw[Wm.o,ZA.o,r]⟩;have Om:=ax r;have hwl:ad0 .u64 (b:Int)=(b:Int):=by rw[c_];omega
    try rw[hwl]
    clear t f r AR o9 z9 hwl;go_loopg [10,11] n (λq t _ wr=>∃(k:Nat) (L:List Js) (a2:Nat) (F4:Ft),q=k/\k<=n/\t=af6 ((k:Int) - 1)/\Hid (JS o0 sp B b o (qN sp B o s a) n cq H w z U.now k L a2 F4 wr))
    exact⟨n,U.L,a,W,rfl,aD _,rfl,HT0⟩
    case round=>
     obtain⟨k,L,a2,F4,hq,hk,rfl,r⟩:=hrel;have Mm:=ax hq;clear hq;have Um:=r.o.touch.size;have Xa:¬H y:=λe=>(HD.o y e).2 Zz;have nx:¬H x:=λe=>(HD.o x e).1 hFx;have Xb:Hid (jZ sp o.now o.L (.slice (some (af7 g2 0)) (ab0 o.L) c2) qs Oy Gy y wr):=ax (KW.o.stay (r.o.touch.block y ly Xa) (λj f=>r.o.touch.block j (KW.o.ring.low j f) (λe=>(HD.o j e).2 (W_ j f))) Um);obtain⟨v3,rs,Or,G3,r1,UG,Px,rF⟩:=r.o.win;have M:ab0 L=n:=r.o.len;obtain⟨J,c3,rfl,hg3,_,_,hG3,_,t⟩:=r1.ring.pos r1.pos;have R1:=ax r1;have RCE:=ax t;have c7:wr.cell? (af7 z 7)=_:=r1.c7;have lz:=r1.blk.lt;have Up:=ax M;replace c7:wr.cell? (af7 z 7)=some (.slice (some (af7 J 0)) n c3):=by rw[<-M];exact c7
     clear r1 t M;cases k with
     | zero=>
      have t:=r.o.eq;rw[ua] at t;have E:=ax t;clear t;have t:=r.o.touch;have f7:=(g9 t 7 D nx).T R.o.2.2.2.2.2.2.2.1;have f8:=(g9 t 8 D nx).T R.o.2.2.2.2.2.2.2.2;have y7:=(kU t 7 D nx).T (HW.o.blk.F 7);have y8:=(kU t 8 D nx).T (HW.o.blk.F 8);have c8:wr.cell? (af7 z 8)=some (.int .u64 U.now):=R1.o.c8;clear t;go_wp2;go_ret;have S:=(HW.o.stay (r.o.touch.block x D nx) (λj f=>r.o.touch.block j (HW.o.ring.low j f) (λe=>(HD.o j e).1 (hGF j f))) Um).blk;have l:¬G3 x:=λhx=>by have:=r.o.new x (Px x hx);omega
      have C:=PA S R1.o l;have M:=Up.o;obtain⟨d,t⟩:=C;have T:((wr.setCell (af7 x 7) (.slice (some (af7 J 0)) (ab0 L) c3)).setCell (af7 x 8) (.int .u64 U.now))=((wr.setCell (af7 x 7) (.slice (some (af7 J 0)) n c3)).setCell (af7 x 8) (.int .u64 U.now)):=by rw[M]
      have d:jZ sp U.now L (.slice (some (af7 J 0)) (ab0 L) c3) rs Or G3 x ((wr.setCell (af7 x 7) (.slice (some (af7 J 0)) (ab0 L) c3)).setCell (af7 x 8) (.int .u64 U.now)):=d;have t:Touch (λj=>j=x) wr ((wr.setCell (af7 x 7) (.slice (some (af7 J 0)) (ab0 L) c3)).setCell (af7 x 8) (.int .u64 U.now)):=t;rw[T] at d t;clear T S M;have⟨I,O⟩:=ar (((wr.setCell (af7 x 7) (.slice (some (af7 J 0)) n c3)).setCell (af7 x 8) (.int .u64 U.now)));rw[O] at d t;try rw[O]
      have S:s8 sp B o s a=0:=by unfold s8;rw[<-E.o]
      have hS0:pO sp B o s a=⟨L,U.now⟩:=by unfold pO;rw[aH S,<-E.o,Wm.o]
      rw[S,hS0,<-E.o];have T:=(r.o.touch.M (λj f=>(.inr f:F j\/H j))).T t (λj f=>.inl (.inl (by rw[show j=x from f];exact hFx)));have Mc:=r.o.cn.far aa t (λj f e=>nx (by rw[<-show j=x from e];exact f)) (λj e=>by rw[show j=x from e];exact Ws x hFx);refine⟨rfl,?_⟩;show iV sp ⟨L,U.now⟩ x (Gr F w I) I/\_/\_
      exact⟨⟨_,rs,Or,G3,d,.inl hFx,λj f=>.inr ⟨r.o.new j (Px j f),d.ring.low j f⟩,jt hF T.size⟩,Mc,T⟩
     | succ i=>
      have t:((i+1:Nat):Int) - 1=(i:Int):=aa;rw[t];have hi0:(i:Int)>=0:=aa;clear t;by_cases hge:n<=b+i
      .have S:=r.o.eq
       rw[ua,aH (by rw[Up.o];exact hge)] at S;have SD:Hid (JS o0 sp B b o (qN sp B o s a) n cq H w z U.now i L a2 F4 wr):=ax ⟨r.o.win,r.o.ok,r.o.len,r.o.cn,r.o.new,r.o.touch,S⟩;clear S;by_cases t:n<=b
       .have h3:(b:Int)>=(n:Int):=aa
        go_wp2;go_roundg i
        exact⟨i,L,a2,F4,rfl,aa,af,SD⟩;have:=Mm.o;omega
       .have h3:¬((b:Int)>=(n:Int)):=aa
        have h4:(i:Int)+(b:Int)>=(n:Int):=aa;go_wp2;go_roundg i
        exact⟨i,L,a2,F4,rfl,aa,af,SD⟩;have:=Mm.o;omega
      .have h3:¬((b:Int)>=(n:Int)):=aa
       have h4:¬((i:Int)+(b:Int)>=(n:Int)):=aa;have⟨p,hp⟩:=ar (i+b);have hpi:(i:Int)+(b:Int)=(p:Int):=aa;have hpn:(p:Int)<(n:Int):=aa;have hpL:p<ab0 L:=by rw[Up.o];omega
       have hin:(i:Int)<(n:Int):=aa;have UH:i<ab0 o.L:=by rw[Om.o];omega
       have hwl:ad0 .i64 (b:Int)=(b:Int):=ah;have hwp:ad0 .i64 (p:Int)=(p:Int):=ah;have AR:=ax (aB hpi (aB hwl hwp));have Yy:=ax hp;have ca:Hid (wr.cell? (af7 J p)=some (.pointer (some (af7 (rs.getD p 0) 0)))):=ax (RCE.o p hpL);have cb:Hid (wr.cell? (af7 g2 i)=some (.pointer (some (af7 (qs.getD i 0) 0)))):=ax ((g9 r.o.touch i kgl (λe=>(HD.o g2 e).2 (W_ g2 kGg))).T (HCE.o.2 i UH));have d7:Hid (wr.cell? (af7 y 7)=some (.slice (some (af7 g2 0)) n c2)):=ax ((g9 r.o.touch 7 ly Xa).T A.o.2.2.2.2.2.2.2.1);have z7:=ax c7;have lyw:y<wr.heap.size:=aa;have lg2:g2<wr.heap.size:=aa;have T:im sp (o.L.getD i sp.new):=HN.o.2.at_ UH;have CP:=ax (Fl wr.drew ((ke sp _ _).K (Xb.o.js UH) (aC _ _).drew) T);have OKT:=ax T;have⟨C,d⟩:=ar (mn sp (L.getD p sp.new) (o.L.getD i sp.new));have UI:=ax d;have C3:Hid (∀(q:World) (E:Nat),af3 wr q->iH sp (o.L.getD i sp.new) E (Gr (λ_=>False) wr.drew q) q->af4 af5 16 #[.pointer (some (af7 (rs.getD p 0) 0)),aq E,cq] q λe X=>e=.returned (af6 C)/\(C=0->∃L' a5 F5,JS o0 sp B b o (qN sp B o s a) n cq H w z U.now i L' a5 F5 X)/\(C≠0->s8 sp B o s a=C/\iI o0 cq B (qN sp B o s a).2.1 H X/\Touch H w X)):=ax (λq E O ZF=>by
        have hp:=Yy.o;have z6:=R1.o.K O;have M:ab0 L=n:=Up.o;have Wp:im sp (L.getD p sp.new):=jX.at_ (s:=⟨L,U.now⟩) ⟨M,r.o.ok,HU.o.1.now⟩ hpL;have T:im sp (o.L.getD i sp.new):=OKT.o;have ZE:iH sp (L.getD p sp.new) (rs.getD p 0) (Or p) q:=z6.js hpL;have hbz:=O.size;have Ij:∀j,Or p j->¬Gr (λ_=>False) wr.drew q j:=λj N h2=>h2.elim False.elim (λh=>by have h3:wr.heap.size<=j:=h.1;have:=R1.o.ring.low j (R1.o.ring.qu _ _ N);omega);have l:∀j,H j->¬F4 j:=λj N h2=>by have:=r.o.new j h2;have:=HC.o.low j N;omega
        refine(zm q ZE ZF (.inr Ij) Wp T (r.o.cn.K aa O) (λj N h2=>l j N (Px j (R1.o.ring.qu _ _ h2))) aa (λj N=>by have:=r.o.new j (Px j (R1.o.ring.qu _ _ N));omega)).M ?_;intro e X hm;obtain⟨hme,hmj,I,hmt⟩:=hm;obtain⟨t1,t2⟩:=Ba (s:=⟨L,U.now⟩) (F:=F4) z6 UG Px (λj f=>aG (rF j f) hbz) hpL hmj hmt l;have tt:Touch H w X:=(r.o.touch.T (Touch.of_below (F:=H) O (aD _)) (λj f=>.inl f)).T t2 (λj f=>f.elim (λh=>.inr (r.o.new j h)) .inl);have S:=r.o.eq;rw[ua,aF (by rw[M];omega),hp] at S;refine⟨by rw[hme,d],λt=>?_,λt=>?_⟩
        .rw[aH (d.T t)] at S
         exact⟨_,_,_,t1,Cd r.o.ok (qq Wp T),by rw[aZ];exact M,I,λj f=>f.elim (r.o.new j) (λh=>by have:=h.1;omega),tt,S⟩
        .rw[aF (λh=>t (d.Y.T h))] at S
         exact⟨by unfold s8;rw[<-S];exact d,by rw[<-S];exact I,tt⟩)
       clear hp d T hpi hwl hwp;generalize rs.getD p 0=za at *;go_upto_region 15 with fail;clear c7;refine kr (af3 wr) 19 (hQ 0 17 (hQ 18 1 (ik 17 []))) ((aC _ _).drew) ?_;iterate 18 refine jG (h:=λX Y=>by obtain⟨hpi,hwl,hwp⟩:=AR.o;have z7':=(Y.C (p:=af7 z 7) lz).T z7.o;have ca':=(Y.C (p:=af7 J p) hg3).T ca.o;have d7':=(Y.C (p:=af7 y 7) lyw).T d7.o;have cb':=(Y.C (p:=af7 g2 i) lg2).T cb.o;exact af8) ?_
       refine pq λK Q=>?_;go_simp;refine WE CP.o ?_;rintro E wC ⟨l,I⟩;have d:af3 wr wC:=(aC _ _).drew.T I;have Y:=ax l;refine Q _ _ (d) ?_;refine hN ?_;simp only[aX,bj];go_wp21;refine RX (C3.o _ E d Y.o) ?_;rintro w7 ⟨q,t⟩;have O:=ax q;have T:=ax t;clear q t C3 CP Y d;by_cases d:C=0
       .subst d
        obtain⟨L',a5,F5,t⟩:=O.o rfl;have SD:=ax t;clear t T;go_wp21;try refine g6 ?_
        try go_wp21
        go_roundg i
        exact⟨i,L',a5,F5,rfl,aa,af,SD⟩;have:=Mm.o;omega
       .go_wp21
        try refine g6 ?_
        try go_wp21
        go_ret;obtain⟨q,Y,t⟩:=T.o d;have hS0:pO sp B o s a=s:=by unfold pO;rw[aF (by rw[q];exact d)]
        rw[q,hS0];exact⟨rfl,(iM sp s x).more ((iM sp s x).far HX0.o t (λj f h=>(HD.o j h).1 f)) (λ_ h=>.inl h) (jt hF t.size),Y,t.M (λ_ h=>.inr h)⟩
structure Duo(sp:ie)(n base:Nat)(S R:Nat->Wn)(X Y:Nat->Nat)(Ow:Nat->Ft)(wb vb:Nat)(w:World):Prop where
 win:∀i,i<2->jf sp (S i) (X i) (Ow i) w
 ref:∀i,i<2->iV sp (R i) (Y i) (Ow (2+i)) w
 ok:∀i,i<2->jX sp n (S i)
 Xe:∀i,i<2->jX sp n (R i)
 uniq:∀a b k,Ow a k->Ow b k->a=b
 low:∀a k,Ow a k->base<=k/\k<w.heap.size
 rw:Ow 4 wb
 rv:Ow 4 vb
 cw:∀i,i<2->w.cell? (af7 wb i)=some (jw (X i))
 cv:∀i,i<2->w.cell? (af7 vb i)=some (jw (Y i))
def Duo.stay(h:Duo sp n base S R X Y Ow wb vb w)(y:∀a k,Ow a k->w'.heap[k]?=w.heap[k]?)(x:w.heap.size<=w'.heap.size):Duo sp n base S R X Y Ow wb vb w':=
 ⟨λi z=>(jy sp _ _).stay (h.win i z) (y i) x,λi z=>(iM sp _ _).stay (h.ref i z) (y _) x,h.ok,h.Xe,h.uniq,λa k e=>⟨(h.low a k e).1,aG (h.low a k e).2 x⟩,h.rw,h.rv,
  λi z=>(bn (a:=af7 wb i) (y 4 wb h.rw)).T (h.cw i z),λi z=>(bn (a:=af7 vb i) (y 4 vb h.rv)).T (h.cv i z)⟩
def Duo.K(h:Duo sp n base S R X Y Ow wb vb w)(z:af3 w w'):Duo sp n base S R X Y Ow wb vb w':=
 h.stay (λa k e=>z.block k (h.low a k e).2) z.size
def Duo.zn(h:Duo sp n base S R X Y Ow wb vb w)(f:i<2)(g:base<=w.heap.size)(p:jf sp s' (X i) (Gr (Ow i) w w') w')(ok:jX sp n s')(r:Touch (λk=>Ow i k\/H k) w w')(q:∀k,H k->∀a,¬Ow a k):Duo sp n base (EK S i s') R X Y (pg Ow i (Gr (Ow i) w w')) wb vb w':=by
 have t:∀a k,a≠i->Ow a k->w'.heap[k]?=w.heap[k]?:=λa k z e=>r.block k (h.low a k e).2 (λy=>y.elim (λy=>z (h.uniq a i k e y)) (λy=>q k y a e));have s:=r.size;refine⟨λj x=>?_,λj x=>?_,λj x=>?_,h.Xe,λa b k z y=>?_,λa k e=>?_,?_,?_,λj x=>?_,λj x=>?_⟩
 .by_cases e:j=i
  .subst e;rw[xz,iK];exact p
  .rw[xA e,hX e];exact(jy sp _ _).stay (h.win j x) (λk=>t j k e) s
 .rw[hX aa];exact(iM sp _ _).stay (h.ref j x) (λk=>t _ k aa) s
 .by_cases e:j=i
  .subst e;rw[xz];exact ok
  .rw[xA e];exact h.ok j x
 .by_cases v:a=i<;>by_cases u:b=i
  .rw[v,u]
  .rw[v,iK] at z;rw[hX u] at y
   rcases z with z|z
   .exact v.T (h.uniq i b k z y)
   .have:=(h.low b k y).2;omega
  .rw[u,iK] at y;rw[hX v] at z
   rcases y with y|y
   .exact(h.uniq a i k z y).T u.Y
   .have:=(h.low a k z).2;omega
  .rw[hX v] at z;rw[hX u] at y;exact h.uniq a b k z y
 .by_cases v:a=i
  .rw[v,iK] at e
   rcases e with e|e
   .exact⟨(h.low i k e).1,aG (h.low i k e).2 s⟩
   .omega
  .rw[hX v] at e;exact⟨(h.low a k e).1,aG (h.low a k e).2 s⟩
 .rw[hX aa];exact h.rw
 .rw[hX aa];exact h.rv
 .exact(bn (a:=af7 wb j) (t 4 wb aa h.rw)).T (h.cw j x)
 .exact(bn (a:=af7 vb j) (t 4 vb aa h.rv)).T (h.cv j x)
def Duo.zo(h:Duo sp n base S R X Y Ow wb vb w)(f:i<2)(g:base<=w.heap.size)(p:iV sp s' (Y i) (Gr (Ow (2+i)) w w') w')(ok:jX sp n s')(r:Touch (λk=>Ow (2+i) k\/H k) w w')(q:∀k,H k->∀a,¬Ow a k):Duo sp n base S (EK R i s') X Y (pg Ow (2+i) (Gr (Ow (2+i)) w w')) wb vb w':=by
 have t:∀a k,a≠2+i->Ow a k->w'.heap[k]?=w.heap[k]?:=λa k z e=>r.block k (h.low a k e).2 (λy=>y.elim (λy=>z (h.uniq a _ k e y)) (λy=>q k y a e));have s:=r.size;refine⟨λj x=>?_,λj x=>?_,h.ok,λj x=>?_,λa b k z y=>?_,λa k e=>?_,?_,?_,λj x=>?_,λj x=>?_⟩
 .rw[hX aa];exact(jy sp _ _).stay (h.win j x) (λk=>t _ k aa) s
 .by_cases e:j=i
  .subst e;rw[xz,iK];exact p
  .rw[xA e,hX aa];exact(iM sp _ _).stay (h.ref j x) (λk=>t _ k aa) s
 .by_cases e:j=i
  .subst e;rw[xz];exact ok
  .rw[xA e];exact h.Xe j x
 .by_cases v:a=2+i<;>by_cases u:b=2+i
  .rw[v,u]
  .rw[v,iK] at z;rw[hX u] at y
   rcases z with z|z
   .exact v.T (h.uniq _ b k z y)
   .have:=(h.low b k y).2;omega
  .rw[u,iK] at y;rw[hX v] at z
   rcases y with y|y
   .exact(h.uniq a _ k z y).T u.Y
   .have:=(h.low a k z).2;omega
  .rw[hX v] at z;rw[hX u] at y;exact h.uniq a b k z y
 .by_cases v:a=2+i
  .rw[v,iK] at e
   rcases e with e|e
   .exact⟨(h.low _ k e).1,aG (h.low _ k e).2 s⟩
   .omega
  .rw[hX v] at e;exact⟨(h.low a k e).1,aG (h.low a k e).2 s⟩
 .rw[hX aa];exact h.rw
 .rw[hX aa];exact h.rv
 .exact(bn (a:=af7 wb j) (t 4 wb aa h.rw)).T (h.cw j x)
 .exact(bn (a:=af7 vb j) (t 4 vb aa h.rv)).T (h.cv j x)
def Iv(Ow Ow':Nat->Ft)(w w':World):Prop:=(∀a k,Ow' a k->Ow a k\/(w.heap.size<=k/\k<w'.heap.size))/\Touch (λk=>∃a,Ow a k) w w'
def Iv.K(h:Iv Ow O1 w0 w)(y:af3 w w'):Iv Ow O1 w0 w':=
 ⟨λa k e=>(h.1 a k e).imp id (λz=>⟨z.1,aG z.2 y.size⟩),h.2.T (Touch.of_below (F:=λk=>∃a,Ow a k) y (aD _)) (λ_ z=>.inl z)⟩
def Iv.step{c:Nat}(h:Iv Ow O1 w0 w)(x:Touch (λk=>O1 c k\/H k) w w')(v:∀k,H k->w0.heap.size<=k):Iv Ow (pg O1 c (Gr (O1 c) w w')) w0 w':=by
 have u:=h.2.size;have t:=x.size;refine⟨λa k e=>?_,h.2.T x (λk z=>z.elim (λe=>(h.1 c k e).elim (λz=>.inl ⟨c,z⟩) (λz=>.inr z.1)) (λe=>.inr (v k e)))⟩;by_cases y:a=c
 .rw[y,iK] at e
  rcases e with e|e
  .rw[y];exact(h.1 c k e).imp id (λz=>⟨z.1,aa⟩)
  .exact .inr ⟨aa,e.2⟩
 .rw[hX y] at e;exact(h.1 a k e).imp id (λz=>⟨z.1,aa⟩)
def Iv.refl{Ow:Nat->Ft}{w w':World}(z:af3 w w'):Iv Ow Ow w w':=⟨λ_ _ e=>.inl e,Touch.of_below z (aD _)⟩
def Fs(Y:jR sp)(w:World)(h:jf sp s x F w)(z:jf sp o y Fy w)(p:jX sp n s)(f:jX sp n o)(g:0<n)
 (v:iT cq B a H w) (r:∀k,H k->¬F k/\¬Fy k) (b:∀q,sp=.k q->cq=.pointer none->(∀c∈s.L,c.L=[])/\∀c∈o.L,c.L=[]) :
 af4 af5 13 #[aq x,aq y,cq] w (jx (jf sp (pO sp B o s a) x) (iT cq B (qN sp B o s a).2.1) F H (s8 sp B o s a) w):=by
 cases sp with
 | h lo hi dg u m gr=>exact qy rfl Y w h z p f g v r b
 | d a m=>exact qy rfl Y w h z p f g v r b
 | t d=>exact qy rfl Y w h z p f g v r b
 | k q=>exact qy rfl Y w h z p f g v r b
def Bb(Y:jR sp)(w:World)(h:iV sp s x F w)(z:iV sp o y Fy w)(p:jX sp n s)(f:jX sp n o)(g:0<n)
 (v:iI o0 cq B a H w) (c:o0<=w.heap.size) (r:∀k,H k->¬F k/\¬Fy k) (b:∀k,F k->o0<=k) :
 af4 af5 36 #[aq x,aq y,cq] w (jx (iV sp (pO sp B o s a) x) (iI o0 cq B (qN sp B o s a).2.1) F H (s8 sp B o s a) w):=by
 cases sp with
 | h lo hi dg u m gr=>exact oV rfl Y w h z p f g v c r b
 | d a m=>exact oV rfl Y w h z p f g v c r b
 | t d=>exact oV rfl Y w h z p f g v c r b
 | k q=>exact oV rfl Y w h z p f g v c r b
def Cm(o0:Nat)(w:World)(A:Option Addr)(l:List zO):Prop:=0<ab0 l->∃g off,A=some (af7 g off)/\g<o0/\∀j (h:j<ab0 l),∃cv,
 w.cell? (af7 g (off+j * 5))=some (.int .u8 l[j].kd)/\w.cell? (af7 g (off+j * 5+1))=some (.bool l[j].who)/\w.cell? (af7 g (off+j * 5+2))=some (af6 l[j].v)/\w.cell? (af7 g (off+j * 5+3))=some (.int .u64 l[j].n)/\w.cell? (af7 g (off+j * 5+4))=some cv/\FO o0 w cv l[j].B
def vy(o0:Nat)(w:World)(v:Value)(l:List zO):Prop:=o0<=w.heap.size/\∃A c,v=.slice A (ab0 l) c/\ab0 l<=c/\c<=9223372036854775807/\Cm o0 w A l
def Cm.K{A:Option Addr}(h:Cm o0 w A l)(a:o0<=w.heap.size)(z:Below o0 w w'):Cm o0 w' A l:=λu=>by
 obtain⟨g,x,c,y,b⟩:=h u;refine⟨g,x,c,y,λj p=>?_⟩;obtain⟨v,t,s,r,q,f,d⟩:=b j p;exact⟨v,(z.C (p:=af7 g (x+j * 5)) y).T t,(z.C (p:=af7 g (x+j * 5+1)) y).T s,(z.C (p:=af7 g (x+j * 5+2)) y).T r,(z.C (p:=af7 g (x+j * 5+3)) y).T q,(z.C (p:=af7 g (x+j * 5+4)) y).T f,d.K a z⟩
def vy.K(h:vy o0 w v l)(z:Below o0 w w'):vy o0 w' v l:=by
 obtain⟨y,A,c,x,u,t,s⟩:=h;exact⟨bf y z.size,A,c,x,u,t,s.K y z⟩
section
open Go.ChangeShapes Go.WideShapes Go.Deep
variable {H : Type} {enc : TypeId × Value -> H} {w : World} {base : Nat} {held : Bool}
def vz{v:Value}{d:DataW H}{ps:List MemPlace}{r:Reach}{b0:Nat}
 (hval:Value.okWide prog w r b0 23 v) (h:DataW.Trod enc prog w base (λ_=>true) held 23 v d ps):∃l:List zO,vy w.heap.size w v l/\∀o∈l,o.fits:=by
 obtain⟨a0,Y,l,rfl⟩:=okWide_slice underlying23 hval;obtain⟨n,h⟩:=h;rcases open_slice underlying23 h with⟨s,_⟩|⟨a,len,cap,m,q,D,Pl,s,_,e,hm,hmm,_,c⟩
 .simp[Value.cells] at s
  obtain⟨rfl,rfl,rfl⟩:=s;exact⟨[],⟨aD _,none,0,rfl,aD _,aa,λh=>absurd h ad⟩,λo z=>by cases z⟩
 .simp[Value.cells] at s
  obtain⟨rfl,rfl,rfl⟩:=s;simp only[if_true] at hmm;have y:prog.cellsOf 39=5:=by kernel_rfl
  have W:∀i,i<m->∃q:zO × Value,(w.cell? (a.add (i * 5))=some (.int .u8 q.1.kd)/\w.cell? (a.add (i * 5+1))=some (.bool q.1.who)/\w.cell? (a.add (i * 5+2))=some (af6 q.1.v)/\w.cell? (a.add (i * 5+3))=some (.int .u64 q.1.n)/\w.cell? (a.add (i * 5+4))=some q.2)/\FO w.heap.size w q.2 q.1.B/\q.1.fits:=by
   intro i g;obtain⟨o,t,p⟩:=c i g;rw[y] at t;obtain⟨_,u,x⟩:=World.cells?_some t;obtain⟨xs,k,hk,hxy,_,hxl,z⟩:=DataW.trod_struct underlying39 p
   match xs,hxl,o,u with
   | [y0,y1,y2,y3,y4],_,[v0,v1,v2,v3,v4],_=>
    have T:=z 0 _ rfl;have S:=z 1 _ rfl;have R:=z 2 _ rfl;have Q:=z 3 _ rfl;have P:=z 4 _ rfl;simp[show prog.cellsOf 5=1 by kernel_rfl,show prog.cellsOf 4=1 by kernel_rfl,show prog.cellsOf 2=1 by kernel_rfl,show prog.cellsOf 36=1 by kernel_rfl,show prog.cellsOf 37=1 by kernel_rfl] at T S R Q P;have f:=x 0 aa;have b:=x 1 aa;have X:=x 2 aa;have V:=x 3 aa;have U:=x 4 aa;rw[add_add] at f b X V U;obtain⟨x0,L,_,b0⟩:=gI (k:=.u8) underlying5 T;obtain⟨x1,K,_⟩:=DataW.trod_bool underlying4 S;obtain⟨x2,J,_,C⟩:=gI (k:=.i64) underlying2 R;obtain⟨F,I,_,B⟩:=gI (k:=.u64) underlying36 Q;obtain⟨x4,E,G,j,A⟩:=Po P;simp only[List.cons.injEq,and_true] at L K J I G;subst L;subst K;subst J;subst I;subst G;refine⟨(⟨x0,x1,x2,F,E⟩,v4),⟨by simpa[y] using f,by simpa[y] using b,by simpa[y] using X,by simpa[y] using V,by simpa[y] using U⟩,j,?_⟩;have M:=bounds_i64 C;have N:=bounds_u64 B;have O:=bounds_u8 b0;refine⟨O.1,O.2,M.1,M.2,N.1,by show F<18446744073709551616;have:=N.2;omega,A⟩
  obtain⟨f,z⟩:=choose_lt W;have u:ab0 ((List.range Y).map λi=>(f i).1)=Y:=ad;refine⟨(List.range Y).map λi=>(f i).1,⟨aD _,some a,l,by rw[u],by rw[u];exact e,by unfold maxLen at hm;omega,λb=>?_⟩,λx c=>?_⟩
  .rw[u] at b
   obtain⟨b,S,R⟩:=a;have T:R=none:=by simpa[Addr.add] using World.cell?_spot (z 0 aa).1.1
   subst T;refine⟨b,S,rfl,bH _ _ (z 0 aa).1.1,λj x=>?_⟩;rw[u] at x;obtain⟨⟨t,p,x,X,V⟩,U,_⟩:=z j aa;rw[add_plain] at t p x X V;simp only[fB,List.getElem_range];exact⟨_,t,p,x,X,V,U⟩
  .obtain⟨i,g,rfl⟩:=gS.1 c
   have x:=eG.1 g;exact(z i aa).2.2
end
structure tb(sp:ie)(n o0:Nat)(S R:Nat->Wn)(X Y:Nat->Nat)(PY Ow:Nat->Ft)(wb vb bx:Nat)(B:List Int)(dq:Value)(H HR:Ft)(w0 w:World):Prop where
 du:Duo sp n o0 S R X Y Ow wb vb w
 got:Iv PY Ow w0 w
 hH:∀k,H k->bx<k/\k<w.heap.size/\∀a,¬Ow a k
 hR:∀k,HR k->bx<k/\k<w.heap.size/\∀a,¬Ow a k
 ap:∀k,H k->¬HR k
 rc:iI o0 dq B 0 HR w
 hb:w0.heap.size<=bx/\bx<w.heap.size/\∀a,¬Ow a bx
 bz:o0<=w0.heap.size
section
variable {sp : ie} {n o0 : Nat} {S R : Nat -> Wn} {X Y : Nat -> Nat} {PY Ow : Nat -> Ft} {wb vb bx i : Nat} {B : List Int} {dq : Value} {H HR : Ft} {w0 w w' : World} {s' : Wn}
def tb.K(d:tb sp n o0 S R X Y PY Ow wb vb bx B dq H HR w0 w)(z:af3 w w'):tb sp n o0 S R X Y PY Ow wb vb bx B dq H HR w0 w':=by
 have y:=z.size;have x:=d.got.2.size;have v:=d.bz;exact⟨d.du.K z,d.got.K z,λk e=>⟨(d.hH k e).1,aG (d.hH k e).2.1 y,(d.hH k e).2.2⟩,λk e=>⟨(d.hR k e).1,aG (d.hR k e).2.1 y,(d.hR k e).2.2⟩,d.ap,d.rc.K aa z,⟨d.hb.1,aG d.hb.2.1 y,d.hb.2.2⟩,d.bz⟩
def Iw{c k:Nat}(h:∀a,¬Ow a k)(x:k<w.heap.size):∀a,¬pg Ow c (Gr (Ow c) w w') a k:=λa e=>by
 by_cases z:a=c
 .rw[z,iK] at e
  exact e.elim (h c) (λy=>by omega)
 .rw[hX z] at e;exact h a e
def tb.zn(d:tb sp n o0 S R X Y PY Ow wb vb bx B dq H HR w0 w)(u:i<2)(t:jf sp s' (X i) (Gr (Ow i) w w') w')(ok:jX sp n s')(y:Touch (λk=>Ow i k\/H k) w w'):tb sp n o0 (EK S i s') R X Y PY (pg Ow i (Gr (Ow i) w w')) wb vb bx B dq H HR w0 w':=by
 have x:=y.size;have s:=d.got.2.size;have r:=d.bz;exact⟨d.du.zn u aa t ok y (λk e=>(d.hH k e).2.2),d.got.step y (λk e=>by have:=(d.hH k e).1;have:=d.hb.1;omega),
  λk e=>⟨(d.hH k e).1,aG (d.hH k e).2.1 x,Iw (d.hH k e).2.2 (d.hH k e).2.1⟩,λk e=>⟨(d.hR k e).1,aG (d.hR k e).2.1 x,Iw (d.hR k e).2.2 (d.hR k e).2.1⟩,d.ap,
  d.rc.far aa y (λk e z=>z.elim ((d.hR k e).2.2 i) (λv=>d.ap k v e)) (λk e=>e.elim (λz=>(d.du.low i k z).1) (λz=>by have:=(d.hH k z).1;have:=d.hb.1;omega)),
  ⟨d.hb.1,aG d.hb.2.1 x,Iw d.hb.2.2 d.hb.2.1⟩,d.bz⟩
def tb.zo(d:tb sp n o0 S R X Y PY Ow wb vb bx B dq H HR w0 w)(y:i<2)(x:iV sp s' (Y i) (Gr (Ow (2+i)) w w') w')(ok:jX sp n s')(z:Touch (λk=>Ow (2+i) k\/HR k) w w'):Duo sp n o0 S (EK R i s') X Y (pg Ow (2+i) (Gr (Ow (2+i)) w w')) wb vb w'/\Iv PY (pg Ow (2+i) (Gr (Ow (2+i)) w w')) w0 w':=by
 have v:=d.got.2.size;have u:=d.bz;exact⟨d.du.zo y aa x ok z (λk e=>(d.hR k e).2.2),d.got.step z (λk e=>by have:=(d.hR k e).1;have:=d.hb.1;omega)⟩
def Fu(l:List Nat)(w w':World):Prop:=∀k∈l,w'.heap[k]?=w.heap[k]?
def Fu.at_{l:List Nat}(h:Fu l w w'){p:Addr}(z:p.block∈l):w'.cell? p=w.cell? p:=bn (h _ z)
def tb.Fv(d:tb sp n o0 S R X Y PY Ow wb vb bx B dq H HR w0 w)(t:i<2)(u:Touch (λk=>Ow i k\/H k) w w'):Fu [wb,vb,bx] w w':=λk v=>by
 have x:∀k,Ow 4 k->w'.heap[k]?=w.heap[k]?:=λk e=>u.block k (d.du.low 4 k e).2 (λy=>y.elim (λz=>by have:=d.du.uniq 4 i k e z;omega) (λz=>(d.hH k z).2.2 4 e));simp only[aS,cx,or_false] at v;rcases v with rfl|rfl|rfl
 .exact x _ d.du.rw
 .exact x _ d.du.rv
 .exact u.block _ d.hb.2.1 (λy=>y.elim (d.hb.2.2 i) (λz=>by have:=(d.hH _ z).1;omega))
def tb.PC(d:tb sp n o0 S R X Y PY Ow wb vb bx B dq H HR w0 w)(t:i<2)(u:Touch (λk=>Ow (2+i) k\/HR k) w w'):Fu [wb,vb,bx] w w':=λk v=>by
 have x:∀k,Ow 4 k->w'.heap[k]?=w.heap[k]?:=λk e=>u.block k (d.du.low 4 k e).2 (λy=>y.elim (λz=>by have:=d.du.uniq 4 (2+i) k e z;omega) (λz=>(d.hR k z).2.2 4 e));simp only[aS,cx,or_false] at v;rcases v with rfl|rfl|rfl
 .exact x _ d.du.rw
 .exact x _ d.du.rv
 .exact u.block _ d.hb.2.1 (λy=>y.elim (d.hb.2.2 (2+i)) (λz=>by have:=(d.hR _ z).1;omega))
end
structure kP(wb vb bx i j x0 x1 y0 y1 kd n:Nat)(who:Bool)(v:Int)(cv:Value)(w:World):Prop where
 p0:w.cell? (af7 wb i)=some (aq x0)
 p1:w.cell? (af7 wb j)=some (aq x1)
 q0:w.cell? (af7 vb i)=some (aq y0)
 q1:w.cell? (af7 vb j)=some (aq y1)
 o0:w.cell? (af7 bx 0)=some (.int .u8 kd)
 o1:w.cell? (af7 bx 1)=some (.bool who)
 o2:w.cell? (af7 bx 2)=some (af6 v)
 o3:w.cell? (af7 bx 3)=some (.int .u64 n)
 o4:w.cell? (af7 bx 4)=some cv
def kP.same{wb vb bx i j x0 x1 y0 y1 kd n:Nat}{who:Bool}{v:Int}{cv:Value}{w w':World}(h:kP wb vb bx i j x0 x1 y0 y1 kd n who v cv w)(y:Fu [wb,vb,bx] w w'):kP wb vb bx i j x0 x1 y0 y1 kd n who v cv w':=by
 have u:∀k,w'.cell? (af7 wb k)=w.cell? (af7 wb k):=λk=>y.at_ ad;have x:∀k,w'.cell? (af7 vb k)=w.cell? (af7 vb k):=λk=>y.at_ ad;have z:∀k,w'.cell? (af7 bx k)=w.cell? (af7 bx k):=λk=>y.at_ ad;exact⟨(u _).T h.p0,(u _).T h.p1,(x _).T h.q0,(x _).T h.q1,(z _).T h.o0,(z _).T h.o1,(z _).T h.o2,(z _).T h.o3,(z _).T h.o4⟩
end D
inductive Tr where
 | nil
 | rd (i:Nat) (t:Tr)
 | ef (i:Nat) (t:Tr)
 | two (i j:Nat) (t u:Tr)
def Tr.len:Tr->Nat
 | .nil=>0
 | .rd _ t=>t.len+1
 | .ef _ t=>t.len+1
 | .two _ _ t _=>t.len+1
section
variable {P : Program} {ops : Array Oper} {md : Region.Mode} {S : World -> Prop} {Q : Exit -> Act -> World -> Prop}
variable{a:Act}{w:World}{i:Nat}{r:Tr}{o:Oper}
def PZ(md:Region.Mode)(ops:Array Oper):Tr->Array Bool->Bool
 | .nil,listed=>(Region.ready md ops listed).isEmpty
 | .rd i r,listed=>(Region.ready md ops listed).contains i && Region.free md ops listed i && PZ md ops r (listed.setIfInBounds i true)
 | .ef i r,listed=>decide (Region.ready md ops listed=[i]) && PZ md ops r (listed.setIfInBounds i true)
 | .two i j r q,listed=>decide (Region.ready md ops listed=[i,j]) && decide (r.len=q.len) && PZ md ops r (listed.setIfInBounds i true) && PZ md ops q (listed.setIfInBounds j true)
def sm(P:Program)(ops:Array Oper)(Q:Exit->Act->World->Prop)(S:World->Prop):Tr->Act->World->Prop
 | .nil,a,w=>Q .normal a w
 | .rd i r,a,w=>∃o v,ops[i]?=some o/\YieldsIf P ops S o v a/\sm P ops Q S r (a.put o.dst v) w
 | .ef i r,a,w=>wpOp P ops Q i (λa' w'=>S w'/\sm P ops Q S r a' w') a w
 | .two i j r q,a,w=>wpOp P ops Q i (λa' w'=>S w'/\sm P ops Q S r a' w') a w/\wpOp P ops Q j (λa' w'=>S w'/\sm P ops Q S q a' w') a w
def rD(s:Region.noSelect ops=true)(u:∀c a w,¬Q (.panic c) a w):∀(t:Tr) (listed:Array Bool) (a:Act) (w:World),PZ md ops t listed=true->S w ->
 sm P ops Q S t a w->wpAnyH P md ops Q S t.len listed a w
 | .nil,listed,a,w,hB,_,h=>⟨by simpa[PZ] using hB,h⟩
 | .rd i r,listed,a,w,hB,hS,h=>by
  simp only[PZ,bC] at hB;obtain⟨o,v,y,t,z⟩:=h;exact wpAnyH_take y s hB.1.2 hB.1.1 (λc a w x=>absurd x (u c _ w)) t hS (rD s u r _ _ w hB.2 hS z)
 | .ef i r,listed,a,w,hB,hS,h=>by
  simp only[PZ,bC,bD] at hB;refine⟨λx=>(by rw[hB.1] at x;cases x),λj z=>?_⟩;rw[hB.1] at z;have t:j=i:=by simpa using z
  subst t;exact wpOp_mono (λy v z=>⟨z.1,rD s u r _ y v hB.2 z.1 z.2⟩) h
 | .two i j r q,listed,a,w,hB,hS,h=>by
  simp only[PZ,bC,bD] at hB;obtain⟨⟨⟨p,g⟩,f⟩,d⟩:=hB;refine⟨λx=>(by rw[p] at x;cases x),λk t=>?_⟩;rw[p] at t;simp only[aS,cx,or_false] at t;rcases t with rfl|rfl
  .exact wpOp_mono (λy v z=>⟨z.1,rD s u r _ y v f z.1 z.2⟩) h.1
  .exact wpOp_mono (λy v z=>⟨z.1,by
    have:=rD s u q _ y v d z.1 z.2;rw[<-g] at this;exact this⟩) h.2
def oz{id:Nat}(S:World->Prop)(t:Tr)(x:P.follows .mixedOrders=true)
 (z:(Region.noSelect ops && decide (t.len=ops.size) && PZ .any ops t (Array.replicate ops.size false))=true)
 (y:S w.drew) (h:sm P ops (Calm Q) S t a w.drew):(Code.region id ops true).wp P Q a w:=by
 simp only[bC,bD] at z;have H:=rD (Q:=Calm Q) z.1.1 (λ_ _ _ h=>h) t _ a _ z.2 y h;rw[z.1.2] at H;exact eZ Calm.imp (wp_region_any x (wpAny_of_held _ _ _ _ H))
def iU(s:ops[i]?=some o)(q:Region.wanted o (yielded ops a.tmps)=true)
 (h:∀R:Act->Prop,(∀z,sm P ops Q S r z w->R z)->∃v,(∀z,S z->po v z ((execOp a.eval o).run P z))/\R (a.put o.dst v)):sm P ops Q S (.rd i r) a w:=by
 obtain⟨v,u,t⟩:=h _ (λ_ h=>h);refine⟨o,v,s,.inl ⟨q,λz x=>?_⟩,t⟩;have y:=u z x;generalize (execOp a.eval o).run P z=x at *;cases x with
 | ok n w''=>obtain⟨rfl,rfl⟩:=y;rfl
 | halt x w''=>exact y.elim
def jU(x:ops[i]?=some o)(v:Region.wanted o (yielded ops a.tmps)=true)
 (h:∀K:Act->World->Prop,(∀y z,S z->sm P ops Q S r y z->K y z)->o.wp P a w K Q):sm P ops Q S (.ef i r) a w:=by
 unfold sm wpOp;simp only[x,v,if_true];exact .inl (h _ λ_ _ z y=>⟨z,y⟩)
def pT{j:Nat}{q:Tr}{o2:Oper}(v:ops[i]?=some o)(t:Region.wanted o (yielded ops a.tmps)=true)(u:ops[j]?=some o2)(s:Region.wanted o2 (yielded ops a.tmps)=true)
 (h:∀K:Act->World->Prop,(∀y z,S z->sm P ops Q S r y z->K y z)->o.wp P a w K Q)
 (x:∀K:Act->World->Prop,(∀y z,S z->sm P ops Q S q y z->K y z)->o2.wp P a w K Q):sm P ops Q S (.two i j r q) a w:=by
 unfold sm wpOp;simp only[v,t,u,s,if_true];exact⟨.inl (h _ λ_ _ z x=>⟨z,x⟩),.inl (x _ λ_ _ z x=>⟨z,x⟩)⟩
def mi(h:Q .normal a w):sm P ops (Calm Q) S .nil a w:=h
end
