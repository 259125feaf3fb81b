/- Parts. -/
import Derived.Test.YtdicblkhpcphfaaGreatPU29
set_option maxRecDepth 100000
set_option maxHeartbeats 0
set_option linter.all false
namespace Go.Proofs.YtdicblkhpcphfaaGreat
open Tryz Go.RowKit Go.Lib Go.Shelf
open _root_.List renaming length→ab0
open Go.IntKind renaming wrap→ad0
open _root_.Go renaming Calls→af4
open Tryz renaming prog→af5
namespace D
section
variable {sp : ie} {now now' a0 a1 x y g n c : Nat} {C : List Js} {ps : List Nat} {Ow : Nat -> Ft} {G F : Ft} {w w1 w2 : World} {s : Wn}
def jN.at_(h:jN sp now a0 C (.slice (some (af7 g 0)) n c) ps Ow G x w)(z:a1<ab0 C):jN sp now a1 C (.slice (some (af7 g 0)) n c) ps Ow G x (w.setCell (af7 x 8) (af6 a1)):=by
 have y:=h.blk.hJ 8 (af6 a1);refine⟨by revert y;cases sp<;>exact id,h.ring.far (H:=λk=>k=x) (mh sp) (Touch.setCell (F:=λk=>k=x) (Touch.refl _ w) (p:=af7 x 8) (.inl rfl) _) (λk v e=>h.o (by rw[<-show k=x from e];exact v)),z,h.n60,h.o⟩
def jN.Zx(h:jN sp now a0 C (.slice (some (af7 g 0)) n c) ps Ow G x w):jN sp now' a0 C (.slice (some (af7 g 0)) n c) ps Ow G x (w.setCell (af7 x 9) (.int .u64 now')):=by
 have z:=h.blk.hJ 9 (.int .u64 now');refine⟨by revert z;cases sp<;>exact id,h.ring.far (H:=λk=>k=x) (mh sp) (Touch.setCell (F:=λk=>k=x) (Touch.refl _ w) (p:=af7 x 9) (.inl rfl) _) (λk y e=>h.o (by rw[<-show k=x from e];exact y)),h.at0,h.n60,h.o⟩
def jN.fresh{c':Js}(h:jN sp now a0 C (.slice (some (af7 g 0)) n c) ps Ow G x w){i:Nat}(s:i<ab0 C)(r:jq sp c' y (Gr (λ_=>False) w w2) w2)(u:af3 w w2):jN sp now a0 (C.set i c') (.slice (some (af7 g 0)) n c) (ps.set i y) (pg Ow i (Gr (λ_=>False) w w2)) (λk=>G k\/Gr (λ_=>False) w w2 k) x (w2.setCell (af7 g i) (jw y)):=by
 have z:=h.K u;have t:=h.ring.mg g rfl;have d:=h.blk.lt;refine⟨z.blk.far (p:=af7 g i) (λe=>h.o (by rw[show x=g from e];exact t.1)) _,z.ring.put (mh sp) s r (λk q v=>q.elim False.elim (λf=>by have:=h.ring.low k v;omega)) rfl,by rw[aZ];exact h.at0,by rw[aZ];exact h.n60,λe=>e.elim h.o (λe=>e.elim False.elim (λe=>by omega))⟩
end
variable{sp:ie}{ac dg hi kd lo sz:Int}{gr:Bool}{a0 i n now x y z:Nat}{F G:Ft}{s:Wn}{C:List Js}{w wr:World}{v:Value}{ps:List Nat}{Ow:Nat->Ft}
structure Ul(sp:ie)(now x:Nat)(v:Value)(L:List Js)(N:Nat)(F:Ft)(w:World)(j a:Nat)(C:List Js)(ps:List Nat)(Ow:Nat->Ft)(G:Ft)(wr:World):Prop where
 win:jN sp now a C v ps Ow G x wr
 eq:xB sp.new a C=nr sp L j
 len:ab0 C=N
 sub:∀k,G k->F k\/w.heap.size<=k
 touch:Touch F w wr
def qx(r:sp.v=iB kd lo hi dg gr ac sz)(hcs:sp.cs=[.int .u8 kd,af6 lo,af6 hi,af6 dg,.bool gr,af6 ac,af6 sz])(ok:jR sp)(n:Nat)(w:World)(h:jf sp s x F w)(Pw:s.now<=9223372036854775807)(hn:n<18446744073709551616):af4 af5 32 #[aq x,.int .u64 n] w λe b=>e=.returned (.tuple #[])/\jf sp (kH sp n s) x (Gr F w b) b/\Touch F w b:=by
 obtain⟨a0,C,v,ps,Ow,G,z,y,D,h4,h5⟩:=h;have CM:Hid (∀w1:World,af4 af5 46 #[.agg #[.int .u8 kd,af6 lo,af6 hi,af6 dg,.bool gr,af6 ac,af6 sz]] w1 _):=ax (λw1=>by rw[show Value.agg #[.int .u8 kd,af6 lo,af6 hi,af6 dg,.bool gr,af6 ac,af6 sz]=sp.v from r.Y];exact Cg w1 ok);obtain⟨g,c,rfl,_,hc1,hc2,UE,_⟩:=z.ring.pos z.pos;have X:=z.c7;have q:=z.c9;have d:=z.blk.F 9;have B:=z.pos;have h60:=z.n60;have hL:ab0 s.L=ab0 C:=by rw[y,iw]
 have⟨k,M⟩:=ar (FN n s);have f:min (n:Int) (9223372036854775807 - (s.now:Int))=(k:Int):=by rw[<-M];unfold FN;omega
 have hkn:s.now+k<=9223372036854775807:=by rw[<-M];unfold FN;omega
 have t:=ax (z.Zx (now':=s.now+k));have u:=ax y;have hgx:g≠x:=λe=>z.o (by rw[<-e];exact UE);clear z y r;go_in;go_upto_region 2 with fail;have⟨w1,y⟩:=ar (w.setCell (af7 x 9) (.int .u64 ((s.now:Int)+(k:Int))));rw[y];have HW:Hid (Ul sp (s.now+k) x (.slice (some (af7 g 0)) (ab0 C) c) s.L (ab0 C) F w 0 a0 C ps Ow G w1):=by
  have h:=t.o;rw[dx,y] at h;exact ax ⟨h,u.o.Y,rfl,λj hj=>.inl (h4 j hj),by rw[<-y];exact Touch.setCell (Touch.refl _ _) (p:=af7 x 9) (.inl D) _⟩
 clear y X q d t u f;have X:=HW.o.win.c7;have⟨m,y⟩:=ar (min k (ab0 C));have hmi:min (k:Int) (ab0 C:Int)=(m:Int):=aa;have hmn:m<=ab0 C:=aa;have HM:=ax y;clear y;go_wp21;clear X;go_loopg [27] m (λq y wr=>∃(j a:Nat) (Y:List Js) (Q:List Nat) (S:Nat->Ft) (T:Ft),q=m - j/\j<=m/\y=.int .u64 j/\Hid (Ul sp (s.now+k) x (.slice (some (af7 g 0)) (ab0 C) c) s.L (ab0 C) F w j a Y Q S T wr))
 exact⟨0,a0,C,ps,Ow,G,rfl,aa,rfl,HW⟩
 case round=>
  obtain⟨j,a,Y,Q,S,T,y,hj,rfl,u⟩:=hrel;have HQ:=ax y;clear y;by_cases hlt:j<m
  .have hji:(j:Int)<(m:Int):=aa
   have X:=u.o.win.c7;have P:=u.o.win.c8;have E:=u.o.win.blk.F 8;have ha0:=u.o.win.at0;have R:=u.o.len;rw[R] at ha0;have⟨a1,y⟩:=ar ((a+1) % ab0 C);have t:((a:Int)+1) % (ab0 C:Int)=(a1:Int):=by rw[<-y,Int.natCast_emod,dx];rfl
   have J:ad0 .i64 ((a:Int)+1)=(a:Int)+1:=ah;have L:Int.tmod ((a:Int)+1) (ab0 C:Int)=(a1:Int):=by rw[eO aa];exact t
   have hne:¬C=[]:=λe=>by rw[e] at B;simp at B
   have f:=ax (aB J L);clear J L t;have Wf:a1<ab0 C:=by rw[<-y];exact ek _ B
   have d:=ax (u.o.win.at_ (a1:=a1) (by rw[R];exact Wf));have HA1:=ax y;have t:=ax (aB X (aB P E));clear X P E y;go_upto_region 4 with fail;refine qd (λb=>b=wr.drew) 14 (pW 0 12 (FH 12 1 (pW 13 1 (o_ 14 [])))) (rfl) ?_;iterate 12 refine kz (h:=λb y=>by subst y;obtain⟨J,L⟩:=f.o;have X:wr.drew.cell? (af7 x 7)=_:=t.o.1;have P:wr.drew.cell? (af7 x 8)=_:=t.o.2.1;exact af8) ?_
   refine sQ ?_;refine kz (h:=λb y=>by subst y;obtain⟨J,L⟩:=f.o;have X:wr.drew.cell? (af7 x 7)=_:=t.o.1;have P:wr.drew.cell? (af7 x 8)=_:=t.o.2.1;exact af8) ?_;refine qc λK V=>?_;have P:wr.drew.cell? (af7 x 8)=_:=t.o.2.1;have E:wr.drew.frozen? (af7 x 8)=_:=t.o.2.2;go_simp;refine V _ _ ?_;refine iq ?_;have⟨w2,q⟩:=ar ((wr.setCell (af7 x 8) (af6 a1)).drew);try refine g6 ?_
   rw[q];have r:Hid (jN sp (s.now+k) a1 Y (.slice (some (af7 g 0)) (ab0 C) c) Q S T x w2):=by rw[<-q];exact ax (d.o.K (aC _ _).drew)
   have T2:Hid (Touch F w w2):=by rw[<-q];exact ax ((u.o.touch.setCell (p:=af7 x 8) (.inl D) _).drew)
   clear q d t f;have f:=r.o.blk.lt;have d:¬(x=g):=λe=>hgx e.Y;have q:=r.o.blk;rw[hcs] at q;have O:=q.C 0;have N:=q.C 1;have I:=q.C 2;have H:=q.C 3;have A:=q.C 4;have l:=q.C 5;have o:=q.C 6;simp only[bG,bB,az,ay,aA] at O N I H A l o;have U:=ax (aB O (aB N (aB I (aB H (aB A (aB l o))))));have t:=ax (aB r.o.c7 r.o.c8);have hC1:a1<ab0 Y:=by rw[R];exact Wf
   have Wg:=(r.o.ring.row.lt g rfl).2;have i:=JL r.o.ring.row (j:=a1) (by rw[r.o.ring.len];exact hC1);have fg:=r.o.ring.row.frozenAt a1;have W:=ax (aB i fg);have hai:(a1:Int)<(ab0 C:Int):=aa;have ae6:0<=(a1:Int):=aa;clear q O N I H A l o i fg;go_upto_region 5 with fail;have Z:=ax (λ(b:World) (y:(Touch (λj=>j=g) w2) b)=>(aB ((g9 y 0 f d).T U.o.1) (aB ((g9 y 1 f d).T U.o.2.1) (aB ((g9 y 2 f d).T U.o.2.2.1) (aB ((g9 y 3 f d).T U.o.2.2.2.1) (aB ((g9 y 4 f d).T U.o.2.2.2.2.1) (aB ((g9 y 5 f d).T U.o.2.2.2.2.2.1) (aB ((g9 y 6 f d).T U.o.2.2.2.2.2.2) (aB ((g9 y 7 f d).T t.o.1) ((g9 y 8 f d).T t.o.2))))))))));refine jh (Touch (λj=>j=g) w2) (hQ 0 12 (ik 12 (hQ 13 4 (ik 17 [])))) ((Touch.refl _ _).drew) ?_;iterate 12 refine ib ?_
   refine iz λK V=>?_;go_simp;refine WE (CM.o w2.drew) ?_;rintro y O ⟨o,l⟩;have I:af3 w2 O:=(aC _ _).drew.T l;have H:Touch (λj=>j=g) w2 O:=Touch.of_below I (aD _);have N:=ax ((r.o.K (aC _ _).drew).fresh hC1 o l);have kg:=(I.C (p:=af7 g a1) Wg).T W.o.1;have kf:=(I.F (p:=af7 g a1) Wg).T W.o.2;have q:=Touch.setCell H (p:=af7 g a1) (.inl rfl) (jw y);unfold jw at q N;refine V _ _ (H) ?_;iterate 4 refine ib ?_
   refine iz λK V=>?_;go_simp;refine V _ _ (q) ?_;refine g4 ?_;have⟨w4,A⟩:=ar (O.setCell (af7 g a1) (aq y));try refine g6 ?_
   rw[A] at q N;rw[A];have z:Hid (Ul sp (s.now+k) x (.slice (some (af7 g 0)) (ab0 C) c) s.L (ab0 C) F w (j+1) a1 (Y.set a1 sp.new) (Q.set a1 y) (pg S a1 (Gr (λ_=>False) w2.drew O)) (λk=>T k\/Gr (λ_=>False) w2.drew O k) w4):=by
    refine ax ⟨N.o,?_,by rw[aZ];exact R,λi hi=>hi.elim (u.o.sub i) (λh=>h.elim False.elim (λh=>?_)),T2.o.T q (λi e=>.inl (by rw[show i=g from e];exact h4 g UE))⟩
    .have:=Pp (sp:=sp) (a0:=a) (C:=Y) (by rw[R];exact ha0)
     rw[R,HA1.o,u.o.eq] at this;exact this
    .have:=T2.o.size
     have h:w2.heap.size<=i:=h.1;exact .inr aa
   clear A H q N kg kf;go_wp2;go_roundg (m - (j+1))
   exact⟨j+1,_,_,_,_,_,rfl,aa,af,z⟩;have:=HQ.o;omega
  .have hji:¬((j:Int)<(m:Int)):=aa
   obtain rfl:j=m:=aa;go_wp21;have y:=u.o.touch.size;have z:jf sp (kH sp n s) x (Gr F w wr) wr:=by
    refine⟨a,Y,.slice (some (af7 g 0)) (ab0 C) c,Q,S,λi=>T i,?_,?_,.inl D,λi hi=>?_,jt h5 y⟩
    .have:=u.o.win
     show jN sp (s.now+FN n s) a Y (.slice (some (af7 g 0)) (ab0 C) c) Q S T x wr
     rw[M];exact this
    .show nr sp s.L (min (FN n s) (ab0 s.L))=_
     rw[M,hL,HM.o];exact u.o.eq.Y
    .exact(u.o.sub i hi).imp id (λh=>⟨h,u.o.win.ring.low i hi⟩)
   refine ct (v:=.tuple #[]) (by simp[results,Tryz.results32,go_sem, *];try rfl) rfl ?_;exact⟨rfl,z,u.o.touch⟩
def ug(n:Nat)(w:World)(ok:jR sp)(h:jf sp s x F w)(y:s.now<=9223372036854775807)(z:n<18446744073709551616):af4 af5 32 #[aq x,.int .u64 n] w λe v=>e=.returned (.tuple #[])/\jf sp (kH sp n s) x (Gr F w v) v/\Touch F w v:=by
 cases sp with
 | h lo hi dg u m gr=>exact qx rfl rfl ok n w h y z
 | d a m=>exact qx rfl rfl ok n w h y z
 | t d=>exact qx rfl rfl ok n w h y z
 | k q=>exact qx rfl rfl ok n w h y z
structure zQ(sp:ie)(now a0:Nat)(C:List Js)(w:World)(z i:Nat)(v:Value)(ps:List Nat)(Ow:Nat->Ft)(G:Ft)(wr:World):Prop where
 blk:g7 wr z 96 (sp.cs++[v,af6 a0,.int .u64 now]).toArray
 ring:RingAt 46 (We sp) (C.take i) v ps Ow G wr
 new:∀k,G k->w.heap.size<=k/\k≠z
 below:af3 w wr
def zQ.start(y:g7 wr z 96 (sp.cs++[Value.slice none 0 0,af6 a0,Value.int .u64 now]).toArray)(h:af3 w wr):zQ sp now a0 C w z 0 (.slice none 0 0) [] (λ_ _=>False) (λ_=>False) wr:=
 ⟨y,⟨g8.nil_ _ _,rfl,λi x=>absurd x ad,λ_ _ _ h=>h.elim,λk e=>by simp[Value.ownBlock] at e,λ_ _ h=>h.elim,λ_ h=>h.elim⟩,λ_ h=>h.elim,h⟩
def zQ.next{w1 w2 w3:World}{v':Value}(h:zQ sp now a0 C w z i v ps Ow G wr)(Y:i<ab0 C)(Q:w.heap.size<=z)(R:jq sp C[i] y (Gr (λ_=>False) wr w1) w1)(q:af3 wr w1)(g:af3 w1 w2)
 (X:g8 (zP 46) 0 w3 v' (ps++[y])) (t:w2.grownBy w3 v.ownBlock) (s:v'.ownBlock=v.ownBlock\/v'.ownBlock=some w2.heap.size) :
 zQ sp now a0 C w z (i+1) v' (ps++[y]) (pg Ow (ab0 (C.take i)) (Gr (λ_=>False) wr w1)) (λk=>G k\/Gr (λ_=>False) wr w1 k\/v'.ownBlock=some k) (w3.setCell (af7 z 7) v'):=by
 have u:af3 wr w2:=q.T (g.M q.size);have M:=h.blk.lt;have N:=u.size;have U:=h.below.size;have P:=h.ring.K (mh sp) u;have O:=(ju sp _ y).K R g;have r:∀k,Gr (λ_=>False) wr w1 k->wr.heap.size<=k/\k<w1.heap.size:=λk x=>x.elim False.elim id;have a:∀k,Gr (λ_=>False) wr w1 k->¬G k:=λk x c=>by have:=r k x;have:=h.ring.low k c;omega
 have d:v.ownBlock≠some z:=λe=>(h.new z (h.ring.mg z e).1).2 rfl;have S:v'.ownBlock≠some z:=λe=>by
  rcases ni s z e with e|e
  .exact d e
  .omega
 have V:=P.push (mh sp) O a X t s;have f:∀k,(G k\/Gr (λ_=>False) wr w1 k\/v'.ownBlock=some k)->k≠z:=λk x=>by
  rcases x with x|x|x
  .exact(h.new k x).2
  .have:=r k x;omega
  .intro e;rw[e] at x;exact S x
 have T:Touch (λk=>k=z) w3 (w3.setCell (af7 z 7) v'):=Touch.setCell (F:=λk=>k=z) (Touch.refl _ w3) (p:=af7 z 7) (.inl rfl) _;refine⟨?_,?_,λk x=>⟨?_,f k x⟩,?_⟩
 .have b:g7 w3 z 96 (sp.cs++[v,af6 a0,.int .u64 now]).toArray:=(t.block z aa (λe=>d e.Y)).T (h.blk.K u)
  have:=b.hJ 7 v'
  revert this
  cases sp<;>exact id
 .have:=V.far (mh sp) T (λk x e=>f k x e)
  rw[aM Y];exact this
 .rcases x with x|x|x
  .exact(h.new k x).1
  .have:=r k x;omega
  .rcases ni s k x with e|e
   .exact(h.new k (h.ring.mg k e).1).1
   .omega
 .refine dW (p:=af7 z 7) ?_ Q _
  refine ep (h.below.T (u.M U)) t aa (λk e=>(h.new k (h.ring.mg k e).1).1)
def zQ.done(h:zQ sp s.now a0 C w z (ab0 C) v ps Ow G wr)(r:s.L=xB sp.new a0 C)(q:w.heap.size<=z)(u:a0<ab0 C)(t:ab0 C<=60):jf sp s z (Gr (λ_=>False) w wr) wr:=by
 have x:=h.ring;rw[bc (aD _)] at x;exact⟨a0,C,v,ps,Ow,G,⟨h.blk,x,u,t,λe=>(h.new z e).2 rfl⟩,r,.inr ⟨q,h.blk.lt⟩,λk y=>.inr ⟨(h.new k y).1,x.low k y⟩,λk y=>y.elim False.elim And.right⟩
structure RP(sp:ie)(B:List Int)(late:Nat)(o:Wn)(r:List Js × Nat × Int)(N:Nat)(cq:Value)(H:Ft)(w:World)(z now k:Nat)(L:List Js)(a:Nat)(F:Ft)(wr:World):Prop where
 win:jf sp ⟨L,now⟩ z F wr
 ok:∀c∈L,im sp c
 len:ab0 L=N
 cn:iT cq B a H wr
 new:∀j,F j->w.heap.size<=j
 touch:Touch H w wr
 eq:ua sp B late o.L k L a=r
 idle:∀q,sp=.k q->cq=.pointer none->∀c∈L,c.L=[]
def zi{T:TypeId}{g:Nat}:∀(us cs:List Value) (p:Nat) (w:World),g7 w g T cs.toArray->g7 (stores w g p us) g T (Gz cs p us).toArray
 | [],_,_,_,h=>h
 | u::us,cs,p,w,h=>by
  have z:=h.hJ p u;rw[bA] at z;exact zi us _ _ _ z
def ui{g:Nat}{a:World}:∀(us:List Value) (p:Nat) (w:World),Touch (λj=>j=g) a w->Touch (λj=>j=g) a (stores w g p us)
 | [],_,_,h=>h
 | u::us,p,w,h=>ui us _ _ (Touch.setCell (F:=λj=>j=g) h (p:=af7 g p) (.inl rfl) u)
def RQ{cs:List Value}(r:g7 w x 96 cs.toArray)(q:ab0 cs=10)(h:jN sp now a0 C v ps Ow G z w)(u:¬G x):jN sp now a0 C v ps Ow G x (stores w x 0 (sp.cs++[v,af6 a0,.int .u64 now]))/\Touch (λj=>j=x) w (stores w x 0 (sp.cs++[v,af6 a0,.int .u64 now])):=by
 have p:ab0 (sp.cs++[v,af6 a0,.int .u64 now])=10:=by cases sp<;>rfl
 have t:=ui (a:=w) (sp.cs++[v,af6 a0,.int .u64 now]) 0 w (Touch.refl _ _) (g:=x);have y:=zi (sp.cs++[v,af6 a0,.int .u64 now]) cs 0 w r;rw[BA _ _ _ aa,dm,bB,db aa,bP] at y;exact⟨⟨y,h.ring.far (mh sp) t (λj s e=>u (by rw[<-show j=x from e];exact s)),h.at0,h.n60,u⟩,t⟩
def Ii(w:World)(x:Nat)(z y v u t s r q p g:Value):stores w x 0 [z,y,v,u,t,s,r,q,p,g]=((((((((((w).setCell (af7 x 0) z).setCell (af7 x 1) y).setCell (af7 x 2) v).setCell (af7 x 3) u).setCell (af7 x 4) t).setCell (af7 x 5) s).setCell (af7 x 6) r).setCell (af7 x 7) q).setCell (af7 x 8) p).setCell (af7 x 9) g:=by
 simp only[stores,cG,Nat.reduceAdd]
def Zy:Ty prog (zP 46) 94:=rg pjI underlying94 rfl ab  ab
def RR(h:a0<n)(z:i<n):ow a0 n (ow a0 n i)=i:=by
 rw[rB h z];split
 .rw[rB h aa];split<;>omega
 .rw[rB h aa];split<;>omega
def RT{d c:Js}(y:a0<ab0 C)(x:c∈C):c∈xB d a0 C:=by
 obtain⟨i,z,rfl⟩:=dt x;have v:=qv (a0:=a0) (n:=ab0 C) (a:=i) aa;have e:(xB d a0 C)[ow a0 (ab0 C) i]'(by rw[iw];exact v)=C[i]:=by
  rw[oT,RR y z,aT,aL z,br]
 rw[<-e];exact aP _
def qy(T:sp.cs=[.int .u8 kd,af6 lo,af6 hi,af6 dg,.bool gr,af6 ac,af6 sz])(oks:jR sp){a:Nat}{Fy H:Ft}{o:Wn}{cq:Value}{B:List Int}(w:World)(h:jf sp s x F w)(h2:jf sp o y Fy w)(p:jX sp n s)(d:jX sp n o)(hn0:0<n)
 (R:iT cq B a H w) (P:∀k,H k->¬F k/\¬Fy k) (hq:∀q,sp=.k q->cq=.pointer none->(∀c∈s.L,c.L=[])/\∀c∈o.L,c.L=[]) :
 af4 af5 13 #[aq x,aq y,cq] w (jx (jf sp (pO sp B o s a) x) (iT cq B (qN sp B o s a).2.1) F H (s8 sp B o s a) w):=by
 obtain⟨a0,C,v,ps,Ow,G,Q,V,hFx,hGF,hF⟩:=h;obtain⟨b0,D,u,qs,Oy,Gy,r,X,Zz,W_,kF⟩:=h2;have Mc:ab0 C=n:=by rw[<-iw sp.new a0 C,<-V];exact p.len
 have Y:ab0 D=n:=by rw[<-iw sp.new b0 D,<-X];exact d.len
 have h60:n<=60:=by rw[<-Mc];exact Q.n60
 have Pw:=p.now;have know:=d.now;have ly:=r.blk.lt;have f:=Q.blk.lt;have S:=ax Q;have KW:=ax r;have HL:=ax (aB V X);have HN:=ax (aB p d);have HC:=ax R;have HD:=ax P;have Wh:=ax hq;have PX:=ax T;have t:=Q.blk;have z:=r.blk;rw[T] at t z;have f0:=t.C 0;have f1:=t.C 1;have f2:=t.C 2;have f3:=t.C 3;have f4:=t.C 4;have f5:=t.C 5;have f6:=t.C 6;have d0:=z.C 0;have d1:=z.C 1;have d2:=z.C 2;have d3:=z.C 3;have d4:=z.C 4;have d5:=z.C 5;have d6:=z.C 6;simp only[bG,bB,az,ay,aA] at f0 f1 f2 f3 f4 f5 f6 d0 d1 d2 d3 d4 d5 d6;have f7:=Q.c7;have f8:=Q.c8;have f9:=Q.c9;have d7:=r.c7;have U:=r.c9;obtain⟨g,c,rfl,_⟩:=Q.ring.pos Q.pos;obtain⟨g2,c2,rfl,_⟩:=r.ring.pos r.pos;rw[Mc] at f7;rw[Y] at d7;have b:=ax (aB f0 (aB f1 (aB f2 (aB f3 (aB f4 (aB f5 (aB f6 (aB f7 (aB f8 f9)))))))));have J:=ax (aB d0 (aB d1 (aB d2 (aB d3 (aB d4 (aB d5 (aB d6 (aB d7 U))))))));have Ss:=ax (aB Mc Y);clear Q r V X p d R P hq T t z Mc Y f0 f1 f2 f3 f4 f5 f6 f7 f8 f9 d0 d1 d2 d3 d4 d5 d6 d7 U;go_in;go_upto_region 3 with fail;refine jh (λT=>T=w.drew) (hQ 0 23 []) (rfl) ?_;iterate 23 refine ib (h:=λT t=>by subst t;have f0:w.drew.cell? (af7 x 0)=_:=b.o.1;have f1:w.drew.cell? (af7 x 1)=_:=b.o.2.1;have f2:w.drew.cell? (af7 x 2)=_:=b.o.2.2.1;have f3:w.drew.cell? (af7 x 3)=_:=b.o.2.2.2.1;have f4:w.drew.cell? (af7 x 4)=_:=b.o.2.2.2.2.1;have f5:w.drew.cell? (af7 x 5)=_:=b.o.2.2.2.2.2.1;have f6:w.drew.cell? (af7 x 6)=_:=b.o.2.2.2.2.2.2.1;have f7:w.drew.cell? (af7 x 7)=_:=b.o.2.2.2.2.2.2.2.1;have d0:w.drew.cell? (af7 y 0)=_:=J.o.1;have d1:w.drew.cell? (af7 y 1)=_:=J.o.2.1;have d2:w.drew.cell? (af7 y 2)=_:=J.o.2.2.1;have d3:w.drew.cell? (af7 y 3)=_:=J.o.2.2.2.1;have d4:w.drew.cell? (af7 y 4)=_:=J.o.2.2.2.2.1;have d5:w.drew.cell? (af7 y 5)=_:=J.o.2.2.2.2.2.1;have d6:w.drew.cell? (af7 y 6)=_:=J.o.2.2.2.2.2.2.1;have d7:w.drew.cell? (af7 y 7)=_:=J.o.2.2.2.2.2.2.2.1;exact af8) ?_
 refine g4 ?_;have Y:af3 w w.drew.drew:=(aC _ _).drew.drew;go_upto_region 5 with fail;have Z:=ax (λ(T:World) (t:(af3 w) T)=>(aB ((t.C (p:=af7 x 0) f).T b.o.1) (aB ((t.C (p:=af7 x 1) f).T b.o.2.1) (aB ((t.C (p:=af7 x 2) f).T b.o.2.2.1) (aB ((t.C (p:=af7 x 3) f).T b.o.2.2.2.1) (aB ((t.C (p:=af7 x 4) f).T b.o.2.2.2.2.1) (aB ((t.C (p:=af7 x 5) f).T b.o.2.2.2.2.2.1) (aB ((t.C (p:=af7 x 6) f).T b.o.2.2.2.2.2.2.1) (aB ((t.C (p:=af7 x 8) f).T b.o.2.2.2.2.2.2.2.2.1) ((t.C (p:=af7 x 9) f).T b.o.2.2.2.2.2.2.2.2.2))))))))));refine jh (af3 w) (hQ 0 13 (ik 13 (hQ 14 1 []))) (Y) ?_;iterate 13 refine ib ?_
 refine iz λK O=>?_;go_simp;refine O _ _ (Y.alloc Y.size _) ?_;refine ib ?_;refine g4 ?_;have⟨z,d⟩:=ar (w.heap.size);have⟨wz,r⟩:=ar ((w.alloc (.cells #[.int .u8 kd,af6 lo,af6 hi,af6 dg,.bool gr,af6 ac,af6 sz,.slice none 0 0,af6 a0,.int .u64 s.now] 96)).drew.drew);try refine g6 ?_
 rw[r,d];have UF:Hid (zQ sp s.now a0 C w z 0 (.slice none 0 0) [] (λ_ _=>False) (λ_=>False) wz):=by
  refine ax (zQ.start ?_ (by rw[<-r];exact bw));rw[PX.o,<-r,<-d];exact(g7.new w 96 #[.int .u8 kd,af6 lo,af6 hi,af6 dg,.bool gr,af6 ac,af6 sz,.slice none 0 0,af6 a0,.int .u64 s.now]).drew.drew
 clear r;have Wi:=ax d;clear d Y;have f7:wz.cell? (af7 x 7)=_:=(UF.o.below.C (p:=af7 x 7) f).T b.o.2.2.2.2.2.2.2.1;go_wp21;clear f7;go_loopg [9,58] n (λq _ r wr=>∃(i:Nat) (v1:Value) (ps1:List Nat) (Wj:Nat->Ft) (G1:Ft),q=n - i/\i<=n/\r=af6 i/\Hid (zQ sp s.now a0 C w z i v1 ps1 Wj G1 wr))
 exact⟨0,_,_,_,_,rfl,aa,rfl,UF⟩
 case round=>
  obtain⟨i,v1,ps1,Wj,G1,hq,hile,rfl,R⟩:=hrel;have HQ:=ax hq;clear hq;by_cases hlt:i<n
  .have hji:(i:Int)<(n:Int):=aa
   have j:i<ab0 C:=by rw[Ss.o.1];exact hlt
   obtain⟨gg,cc,P,hgl,E,I,_,_,U⟩:=S.o.ring.pos S.o.pos;have r:=U i j;have X:gg=g:=by injection P with N M e3;injection N with N;injection N with N M e3;exact N.Y
   rw[X] at r hgl;have cir:wr.cell? (af7 g i)=some (.pointer (some (af7 (ps.getD i 0) 0))):=(R.o.below.C (p:=af7 g i) hgl).T r;have Y:im sp C[i]:=HN.o.1.each _ (by rw[HL.o.1];exact RT S.o.at0 (aP j));have d:=(S.o.K R.o.below).ring.each i j;have CP:=ax (L_ wr.drew ((ju sp _ _).K d (aC _ _).drew) Y);have z7:=ax (by have:=R.o.blk.C 7;rw[PX.o] at this;exact this:wr.cell? (af7 z 7)=some v1);have y7:Hid (wr.frozen? (af7 z 7)=false):=ax (R.o.blk.F 7);have V:z<wr.heap.size:=R.o.blk.lt;have m:¬(v1.ownBlock=some z):=λe=>(R.o.new z (R.o.ring.mg z e).1).2 rfl;have hrl:ab0 ps1=i:=by rw[R.o.ring.len,aU];omega
   have L:w.heap.size<=z:=by have:=Wi.o;omega
   clear P U r X Y d E I;generalize ps.getD i 0=yi at *;go_upto_region 9 with fail;have Z:=ax (λ(T:World) (t:(Touch (λk=>v1.ownBlock=some k) wr) T)=>((g9 t 7 V m).T z7.o));refine qd (Touch (λk=>v1.ownBlock=some k) wr) 11 (pW 0 6 (o_ 6 (o_ 7 (o_ 8 (FH 9 1 (pW 10 1 (o_ 11 []))))))) ((Touch.refl _ _).drew) ?_;iterate 6 refine kz ?_
   refine nC λK O=>?_;go_simp;refine WE CP.o ?_;rintro y1 U ⟨hj1,hb1⟩;have Y:af3 wr U:=(aC _ _).drew.T hb1;have A:Touch (λk=>v1.ownBlock=some k) wr U:=Touch.of_below Y (aD _);refine O _ _ (A) ?_;refine nC λK O=>?_;have I:=A.alloc (.cells #[aq y1] 46);have W:af3 wr _:=Y.alloc Y.size (.cells #[aq y1] 46);go_simp;refine O _ _ (I) ?_;refine nC λK O=>?_;refine yq Zy (.tmp 66) (.tmp 69) rfl (g8.K R.o.ring.row W) rfl _ [y1] rfl (iQ.ig (E:=zP 46) U y1 _ rfl _ rfl _ rfl) ae (bl _) ?_;intro v8 w8 d r P;have X:Touch (λk=>v1.ownBlock=some k) wr w8:=I.grown r (λk e=>.inl e);have l:=ax (R.o.next j L hj1 Y ((aC _ U).alloc (aD _) _) d r P);obtain⟨A8,c8,rfl,_,_,_⟩:=d.form;clear d r P;go_simp;refine O _ _ (X) ?_;refine sQ ?_;refine kz ?_;refine qc λK O=>?_;have z7':=(g9 X 7 V m).T z7.o;have P:=(kU X 7 V m).T y7.o;go_simp;refine O _ _ ?_;refine iq ?_;have r:=l.o;simp only[aE,bh,hrl] at r;have d:=ax r;clear r l A I X Y W CP hj1 hb1 z7 y7;try refine g6 ?_
   go_wp2;go_roundg (n - (i+1))
   exact⟨i+1,_,_,_,_,rfl,aa,af,d⟩;have:=HQ.o;omega
  .have hji:¬((i:Int)<(n:Int)):=aa
   obtain rfl:n=i:=aa;have r:=R.o;rw[<-Ss.o.1] at r;have L:w.heap.size<=z:=by have:=Wi.o;omega
   have HZ:=ax (r.done HL.o.1 L S.o.at0 S.o.n60);have HB:=ax R.o.below;have z9:=ax (by have:=R.o.blk.C 9;rw[PX.o] at this;exact this:wr.cell? (af7 z 9)=some (.int .u64 s.now));have o9:Hid (wr.cell? (af7 y 9)=some (.int .u64 o.now)):=ax ((R.o.below.C (p:=af7 y 9) ly).T J.o.2.2.2.2.2.2.2.2);have V:z<wr.heap.size:=R.o.blk.lt;clear r R HQ;go_upto_region 11 with fail;refine jh (λT=>T=wr.drew) (hQ 0 9 []) (rfl) ?_;iterate 9 refine ib (h:=λT t=>by subst t;have Wk:wr.drew.cell? (af7 z 9)=_:=z9.o;have Wl:wr.drew.cell? (af7 y 9)=_:=o9.o;exact af8) ?_
   refine g4 ?_;rcases bm s.now o.now with hgt|hgt
   have Y:wG sp o s=kH sp (o.now - s.now) s:=by unfold wG;rw[aH hgt]
   have I:(o.now:Int) - (s.now:Int)=((o.now - s.now:Nat):Int):=aa;have X:=ax (ug (o.now - s.now) wr.drew.drew oks ((jy sp s z).K HZ.o (aC _ _).drew.drew) Pw aa);have d:=ax Y;have⟨dn,r⟩:=ar (o.now - s.now);rw[r] at X I d;clear Y r;go_upto_region 12 with fail;refine kr (λT=>T=wr.drew.drew) 10 (hQ 0 10 []) (rfl) ?_;iterate 10 refine jG (h:=λT t=>by subst t;have Wk:wr.drew.drew.cell? (af7 z 9)=_:=z9.o;have Wl:wr.drew.drew.cell? (af7 y 9)=_:=o9.o;exact af8) ?_
   refine hN ?_;simp only[aX,bj];go_wp21;refine RX X.o ?_;rintro P ⟨U,r⟩;obtain⟨W,HZ3,HF3⟩:∃W:Ft,Hid (jf sp (wG sp o s) z W P)/\Hid (∀k,W k->w.heap.size<=k):=⟨Gr (Gr (λ_=>False) w wr) wr.drew.drew P,ax (by rw[d.o];exact U),ax (λk hk=>hk.elim (λh=>h.elim False.elim And.left) (λh=>by have:=HB.o.size;have h:wr.heap.size<=k:=h.1;omega))⟩;have HB3:Hid (af3 w P):=ax (HB.o.T ((aC _ wr).drew.drew.M HB.o.size |>.trans (r.below (λk hk=>hk.elim False.elim And.left) HB.o.size)));clear U r X d I z9 o9 V L;go_wp21;try refine g6 ?_
   try go_wp21
   rotate_left
   have Y:wG sp o s=s:=by unfold wG;rw[aF aa]
   have d:=ax Y;clear Y;go_upto_region 13 with fail;have⟨P,r⟩:=ar (wr.drew);rw[r];obtain⟨W,HZ3,HF3⟩:∃W:Ft,Hid (jf sp (wG sp o s) z W P)/\Hid (∀k,W k->w.heap.size<=k):=⟨Gr (λ_=>False) w wr,ax (by rw[d.o,<-r];exact(jy sp s z).K HZ.o (aC _ _).drew),ax (λk hk=>hk.elim False.elim And.left)⟩;have HB3:=ax (by rw[<-r];exact HB.o.drew:af3 w P);clear r d z9 o9 V L
   all_goals
    have HU:=ax (aB (Ia (o:=o) oks HN.o.1 hn0) (JJ (sp:=sp) (s:=s) HN.o.2));have HUI:Hid (∀q,sp=.k q->cq=.pointer none->∀c∈(wG sp o s).L,c.L=[]):=ax (λq N M=>Rx (Wh.o q N M).1);have⟨U,r⟩:=ar (wG sp o s);have Wm:=ax r;rw[r] at HZ3 HU HUI;clear r;have⟨V,r⟩:=ar (U.now - o.now);have d:=HU.o.2;have hUn:=HU.o.1.now;have PV:(U.now:Int) - (o.now:Int)=(V:Int):=aa;have hll:V<=9223372036854775807:=aa;have ZA:=ax r;have o9:Hid (P.cell? (af7 y 9)=some (.int .u64 o.now)):=ax ((HB3.o.C (p:=af7 y 9) ly).T J.o.2.2.2.2.2.2.2.2);have z9:=ax (by obtain⟨_,_,_,_,_,_,r1,_⟩:=HZ3.o;exact r1.c9:P.cell? (af7 z 9)=some (.int .u64 U.now));have Y:=ax PV;clear r PV d;go_upto_region 13 with fail;refine kr (λT=>T=P.drew) 9 (hQ 0 9 []) (rfl) ?_;iterate 9 refine jG (h:=λT t=>by subst t;have PV:=Y.o;have Wk:P.drew.cell? (af7 z 9)=_:=z9.o;have Wl:P.drew.cell? (af7 y 9)=_:=o9.o;exact af8) ?_
    refine hN ?_;simp only[aX,bj];have t:P.drew.cell? (af7 y 7)=_:=(HB3.o.C (p:=af7 y 7) ly).T J.o.2.2.2.2.2.2.2.1;go_wp21;try refine g6 ?_
    try go_wp21
    clear t;have⟨w4,t⟩:=ar (P.drew);rw[t];have d:af3 w w4:=by rw[<-t];exact HB3.o.drew
    have r:ab0 o.L=n:=HN.o.2.len;have HT0:Hid (RP sp B V o (qN sp B o s a) n cq H w z U.now n U.L a W w4):=ax ⟨by rw[<-t];exact(jy sp U z).K HZ3.o (aC _ _).drew,HU.o.1.each,HU.o.1.len,HC.o.K d,HF3.o,Touch.of_below d (aD _),by unfold qN;rw[Wm.o,ZA.o,r],HUI.o⟩;have Om:=ax r;clear t d r Y o9 z9;go_loopg [11,12] n (λq t _ wr=>∃(k:Nat) (L:List Js) (a2:Nat) (F4:Ft),q=k/\k<=n/\t=af6 ((k:Int) - 1)/\Hid (RP sp B V o (qN sp B o s a) n cq H w z U.now k L a2 F4 wr))
    exact⟨n,U.L,a,W,rfl,aD _,rfl,HT0⟩
    case round=>
     obtain⟨k,L,a2,F4,hq,hk,rfl,t⟩:=hrel;have Mm:=ax hq;clear hq;have Um:=t.o.touch.size;have Xa:¬H y:=λe=>(HD.o y e).2 Zz;have Y:¬H x:=λe=>(HD.o x e).1 hFx;have Xb:Hid (jN sp o.now b0 D (.slice (some (af7 g2 0)) (ab0 D) c2) qs Oy Gy y wr):=ax (KW.o.stay (t.o.touch.block y ly Xa) (λj d=>t.o.touch.block j (KW.o.ring.low j d) (λe=>(HD.o j e).2 (W_ j d))) Um);obtain⟨a3,E,v3,rs,Or,G3,r1,X,UG,Px,rF⟩:=t.o.win;have r:ab0 E=n:=by have:=t.o.len;rw[<-iw sp.new a3 E];rw[<-this];exact bu List.length X.Y
     obtain⟨g3,c3,rfl,_⟩:=r1.ring.pos r1.pos;have R1:=ax r1;have Wo:=ax r;have RL:=ax X;have c7:wr.cell? (af7 z 7)=_:=r1.c7;rw[r] at c7;clear r1 r X;cases k with
     | zero=>
      clear c7;have r:=t.o.eq;rw[ua] at r;have HX:=ax r;clear r;have r:=t.o.touch;have X:=R1.o.blk;rw[PX.o] at X;have f0:=(g9 r 0 f Y).T b.o.1;have f1:=(g9 r 1 f Y).T b.o.2.1;have f2:=(g9 r 2 f Y).T b.o.2.2.1;have f3:=(g9 r 3 f Y).T b.o.2.2.2.1;have f4:=(g9 r 4 f Y).T b.o.2.2.2.2.1;have f5:=(g9 r 5 f Y).T b.o.2.2.2.2.2.1;have f6:=(g9 r 6 f Y).T b.o.2.2.2.2.2.2.1;have f7:=(g9 r 7 f Y).T b.o.2.2.2.2.2.2.2.1;have f8:=(g9 r 8 f Y).T b.o.2.2.2.2.2.2.2.2.1;have f9:=(g9 r 9 f Y).T b.o.2.2.2.2.2.2.2.2.2;have z0:=X.C 0;have z1:=X.C 1;have z2:=X.C 2;have z3:=X.C 3;have z4:=X.C 4;have z5:=X.C 5;have z6:=X.C 6;have z7:=X.C 7;have z8:=X.C 8;have z9:=X.C 9;have y0:=(kU r 0 f Y).T (S.o.blk.F 0);have y1:=(kU r 1 f Y).T (S.o.blk.F 1);have y2:=(kU r 2 f Y).T (S.o.blk.F 2);have y3:=(kU r 3 f Y).T (S.o.blk.F 3);have y4:=(kU r 4 f Y).T (S.o.blk.F 4);have y5:=(kU r 5 f Y).T (S.o.blk.F 5);have y6:=(kU r 6 f Y).T (S.o.blk.F 6);have y7:=(kU r 7 f Y).T (S.o.blk.F 7);have y8:=(kU r 8 f Y).T (S.o.blk.F 8);have y9:=(kU r 9 f Y).T (S.o.blk.F 9);simp only[bG,bB,az,ay,aA] at z0 z1 z2 z3 z4 z5 z6 z7 z8 z9;clear r X;go_wp2;go_ret;have A:=(S.o.stay (t.o.touch.block x f Y) (λj d=>t.o.touch.block j (S.o.ring.low j d) (λe=>(HD.o j e).1 (hGF j d))) Um).blk;have hxo:¬G3 x:=λhx=>by have:=t.o.new x (Px x hx);omega
      have ZB:∀l:List Value,ab0 l=3->ab0 (sp.cs++l)=10:=λl hl=>by rw[PX.o,aE,hl];rfl
      have hP:=RQ A (ZB _ rfl) R1.o hxo;have I:stores wr x 0 (sp.cs++[.slice (some (af7 g3 0)) (ab0 E) c3,af6 a3,.int .u64 U.now])=((((((((((wr).setCell (af7 x 0) (.int .u8 kd)).setCell (af7 x 1) (af6 lo)).setCell (af7 x 2) (af6 hi)).setCell (af7 x 3) (af6 dg)).setCell (af7 x 4) (.bool gr)).setCell (af7 x 5) (af6 ac)).setCell (af7 x 6) (af6 sz)).setCell (af7 x 7) (.slice (some (af7 g3 0)) (ab0 E) c3)).setCell (af7 x 8) (af6 a3)).setCell (af7 x 9) (.int .u64 U.now):=by rw[PX.o];simp only[bG,bB];rw[Ii]
      rw[I] at hP;obtain⟨X,r⟩:=hP;clear I A;have⟨wf,m⟩:=ar (((((((((((wr).setCell (af7 x 0) (.int .u8 kd)).setCell (af7 x 1) (af6 lo)).setCell (af7 x 2) (af6 hi)).setCell (af7 x 3) (af6 dg)).setCell (af7 x 4) (.bool gr)).setCell (af7 x 5) (af6 ac)).setCell (af7 x 6) (af6 sz)).setCell (af7 x 7) (.slice (some (af7 g3 0)) (ab0 E) c3)).setCell (af7 x 8) (af6 a3)).setCell (af7 x 9) (.int .u64 U.now));rw[m] at X r;try rw[m]
      have A:s8 sp B o s a=0:=by unfold s8;rw[<-HX.o]
      have hS0:pO sp B o s a=⟨L,U.now⟩:=by unfold pO;rw[aH A,<-HX.o,Wm.o]
      rw[A,hS0,<-HX.o];have I:=(t.o.touch.M (λj d=>(.inr d:F j\/H j))).T r (λj d=>.inl (.inl (by rw[show j=x from d];exact hFx)));have Mc:=t.o.cn.far r (λj d e=>Y (by rw[<-show j=x from e];exact d));refine⟨rfl,?_⟩;show jf sp ⟨L,U.now⟩ x (Gr F w wf) wf/\_/\_
      exact⟨⟨a3,E,_,rs,Or,G3,X,RL.o,.inl hFx,λj d=>.inr ⟨t.o.new j (Px j d),X.ring.low j d⟩,jt hF I.size⟩,Mc,I⟩
     | succ i=>
      have M:((i+1:Nat):Int) - 1=(i:Int):=aa;rw[M];have hi0:(i:Int)>=0:=aa;clear M;by_cases hge:n<=V+i
      .have ZC:(V:Int)+(i:Int)>=(n:Int):=aa
       have X:=t.o.eq;rw[ua,aH (by rw[t.o.len];exact hge)] at X;have SD:Hid (RP sp B V o (qN sp B o s a) n cq H w z U.now i L a2 F4 wr):=ax ⟨t.o.win,t.o.ok,t.o.len,t.o.cn,t.o.new,t.o.touch,X,t.o.idle⟩;clear X;go_wp2;go_roundg i
       exact⟨i,L,a2,F4,rfl,aa,af,SD⟩;have:=Mm.o;omega
      .have ZC:¬((V:Int)+(i:Int)>=(n:Int)):=aa
       have m:i+V<ab0 E:=by rw[Wo.o];omega
       have UH:i<ab0 D:=by rw[Ss.o.2];omega
       have A:ab0 L=n:=t.o.len;have ZD:=pQ (i+V) wr R1.o m;rw[dx] at ZD;have C1:=ax ZD;have C2:Hid (∀w5,af3 wr w5->_):=ax (λw5 r=>pQ i w5 (Xb.o.K r) UH);have⟨er,her⟩:=ar (mn sp (L.getD (i+V) sp.new) (o.L.getD i sp.new));have C3:Hid (∀I,af3 wr I->af4 af5 45 #[.pointer (some ⟨rs.getD (ow a3 (ab0 E) (i+V)) 0,0,none⟩),.pointer (some ⟨qs.getD (ow b0 (ab0 D) i) 0,0,none⟩),cq] I λe T=>e=.returned (af6 er)/\(er=0->∃L' a5 F5,RP sp B V o (qN sp B o s a) n cq H w z U.now i L' a5 F5 T)/\(er≠0->s8 sp B o s a=er/\iT cq B (qN sp B o s a).2.1 H T/\Touch H w T)):=ax (λI r=>by
        have z6:=R1.o.K r;have Wp:im sp (L.getD (i+V) sp.new):=jX.at_ (s:=⟨L,U.now⟩) ⟨A,t.o.ok,HU.o.1.now⟩ (by show i+V<ab0 L;rw[A,<-Wo.o];exact m);have okT:im sp (o.L.getD i sp.new):=HN.o.2.at_ (by rw[Om.o];omega);have ZE:jq sp (L.getD (i+V) sp.new) _ _ I:=z6.js (s:=⟨L,U.now⟩) RL.o m;have ZF:=(Xb.o.K r).js HL.o.2 UH;have hbz:=r.size;have Ij:∀j,Or (ow a3 (ab0 E) (i+V)) j->¬Oy (ow b0 (ab0 D) i) j:=λj Q h2=>by have:=t.o.new j (Px j (R1.o.ring.qu _ _ Q));have:=KW.o.ring.low j (KW.o.ring.qu _ _ h2);omega
        have Xc:∀j,H j->¬F4 j:=λj Q h2=>by have:=t.o.new j h2;have:=HC.o.low j Q;omega
        refine(JO I ZE ZF (.inr Ij) Wp okT (t.o.cn.K r) (λq N M=>?_) (λj Q h2=>Xc j Q (Px j (R1.o.ring.qu _ _ h2)))).M ?_
        .have hx:=t.o.idle q N M _ (aP (l:=L) (n:=i+V) (by rw[A,<-Wo.o];exact m))
         have ht:=(Wh.o q N M).2 _ (aP (l:=o.L) (n:=i) (by rw[Om.o];omega));rw[aT,aL (by rw[A,<-Wo.o];exact m),br,hx,aT,aL (by rw[Om.o];omega),br,ht];rfl
        .intro e T hm
         obtain⟨hme,hmj,hmc,hmt⟩:=hm;obtain⟨t1,t2⟩:=EX (s:=⟨L,U.now⟩) z6 RL.o UG Px (λj d=>aG (rF j d) hbz) m hmj hmt Xc;have tt:Touch H w T:=(t.o.touch.T (Touch.of_below (F:=H) r (aD _)) (λj d=>.inl d)).T t2 (λj d=>d.elim (λh=>.inr (t.o.new j h)) .inl);have X:=t.o.eq;rw[ua,aF (by rw[A];omega)] at X;refine⟨by rw[hme,her],λe0=>?_,λe0=>?_⟩
         .rw[aH (her.T e0)] at X
          refine⟨_,_,_,t1,Cd t.o.ok (qq Wp okT),by rw[aZ];exact A,hmc,λj d=>d.elim (t.o.new j) (λh=>by have:=h.1;omega),tt,X,λq N M c' hc'=>?_⟩;rcases eW hc' with hc'|rfl
          .exact t.o.idle q N M c' hc'
          .subst N
           refine Ry ?_ ?_
           .rw[aT,aL (by rw[A,<-Wo.o];exact m),br];exact t.o.idle q rfl M _ (aP _)
           .rw[aT,aL (by rw[Om.o];omega),br];exact(Wh.o q rfl M).2 _ (aP _)
         .rw[aF (λh=>e0 (her.Y.T h))] at X
          refine⟨by unfold s8;rw[<-X];exact her,by rw[<-X];exact hmc,tt⟩)
       clear ZD her;generalize rs.getD (ow a3 (ab0 E) (i+V)) 0=za at *;generalize qs.getD (ow b0 (ab0 D) i) 0=zb at *;go_wp21;refine RX C1.o ?_;intro w5 r;have q:=ax (C2.o w5 r);have KR:=ax r;clear r;go_wp21;refine RX q.o ?_;intro I r;have N:=ax (C3.o I (KR.o.T (r.M KR.o.size)));clear r q C1 C2;go_wp21;refine RX N.o ?_;rintro w7 ⟨q,r⟩;have HE1:=ax q;have HE2:=ax r;clear q r N C3;by_cases q:er=0
       .subst q
        obtain⟨L',a5,F5,ht⟩:=HE1.o rfl;have SD:=ax ht;clear ht HE2;go_wp2;go_roundg i
        exact⟨i,L',a5,F5,rfl,aa,af,SD⟩;have:=Mm.o;omega
       .go_wp2
        go_ret;obtain⟨N,m2,r⟩:=HE2.o q;have hS0:pO sp B o s a=s:=by unfold pO;rw[aF (by rw[N];exact q)]
        rw[N,hS0];have X0:jf sp s x F w:=⟨a0,C,_,ps,Ow,G,S.o,HL.o.1,hFx,hGF,hF⟩;exact⟨rfl,(jy sp s x).more ((jy sp s x).far X0 r (λj d h=>(HD.o j h).1 d)) (λ_ h=>.inl h) (jt hF r.size),m2,r.M (λ_ h=>.inr h)⟩
section
variable {y : Nat} {p1 p2 p3 p4 : Value} {w : World} {Q : Value -> World -> Prop} {lo hi dg ac sz : Int} {gr : Bool}
variable{a c n:Value}
def Ik(u:g7 w y 106 #[.int .u8 1,af6 lo,af6 hi,af6 dg,.bool gr,af6 ac,af6 sz,p1,p2,p3,p4])(h:af4 af5 91 #[p1,a,n] w λe z=>∃v,e=.returned v/\Q v z):af4 af5 37 #[aq y,a,n,c] w λe z=>∃v,e=.returned v/\Q v z:=by
 have C:=ax h;have x:=ax u;clear h u;have s:=x.o.k0;have r:=x.o.k7;go_in;go_wp21;refine WE C.o ?_;intro v q u;have t:=ax u;clear u;go_wp2;go_ret;exact⟨_,rfl,t.o⟩
def Il(u:g7 w y 106 #[.int .u8 2,af6 lo,af6 hi,af6 dg,.bool gr,af6 ac,af6 sz,p1,p2,p3,p4])(h:af4 af5 92 #[p2,a,n] w λe z=>∃v,e=.returned v/\Q v z):af4 af5 37 #[aq y,a,n,c] w λe z=>∃v,e=.returned v/\Q v z:=by
 have C:=ax h;have x:=ax u;clear h u;have s:=x.o.k0;have r:=x.o.k8;go_in;go_wp21;refine WE C.o ?_;intro v q u;have t:=ax u;clear u;go_wp2;go_ret;exact⟨_,rfl,t.o⟩
def Im(u:g7 w y 106 #[.int .u8 3,af6 lo,af6 hi,af6 dg,.bool gr,af6 ac,af6 sz,p1,p2,p3,p4])(h:af4 af5 93 #[p3,a,n] w λe z=>∃v,e=.returned v/\Q v z):af4 af5 37 #[aq y,a,n,c] w λe z=>∃v,e=.returned v/\Q v z:=by
 have C:=ax h;have x:=ax u;clear h u;have s:=x.o.k0;have r:=x.o.k9;go_in;go_wp21;refine WE C.o ?_;intro v q u;have t:=ax u;clear u;go_wp2;go_ret;exact⟨_,rfl,t.o⟩
def Io(u:g7 w y 106 #[.int .u8 4,af6 lo,af6 hi,af6 dg,.bool gr,af6 ac,af6 sz,p1,p2,p3,p4])(h:af4 af5 94 #[p4,a,n,c] w λe z=>∃v,e=.returned v/\Q v z):af4 af5 37 #[aq y,a,n,c] w λe z=>∃v,e=.returned v/\Q v z:=by
 have C:=ax h;have x:=ax u;clear h u;have s:=x.o.k0;have r:=x.o.k10;go_in;go_wp21;refine WE C.o ?_;intro v q u;have t:=ax u;clear u;go_wp2;go_ret;exact⟨_,rfl,t.o⟩
end
section
variable {x y : Nat} {p1 p2 p3 p4 q1 q2 q3 q4 : Value} {w : World} {Q : Value -> World -> Prop} {lo hi dg ac sz : Int} {gr : Bool}
variable{c:Value}
def EY(u:g7 w y 106 #[.int .u8 1,af6 lo,af6 hi,af6 dg,.bool gr,af6 ac,af6 sz,p1,p2,p3,p4])(z:g7 w x 106 #[.int .u8 1,af6 lo,af6 hi,af6 dg,.bool gr,af6 ac,af6 sz,q1,q2,q3,q4])(h:∀P,af3 w P->af4 af5 49 #[p1,q1] P λe t=>∃v,e=.returned v/\Q v t):af4 af5 16 #[aq y,aq x,c] w λe t=>∃v,e=.returned v/\Q v t:=by
 have C:=ax h;have s:=u.C 0;have p:=u.C 1;have g:=u.C 2;have f:=u.k3;have d:=u.k4;have b:=u.k5;have a:=u.k6;have r:=u.k7;have Y:=z.k0;have X:=z.k1;have V:=z.k2;have U:=z.k3;have T:=z.k4;have S:=z.k5;have R:=z.k6;have q:=z.k7;simp only[az,ay,aA] at s p g;clear h u z;have u:=ax (aB r q);clear r q;have O:af3 w w.drew:=(aC _ _).drew;have N:af3 w w.drew.drew:=O.drew;go_in;go_upto_region 1 with fail;refine jh (λt=>t=w.drew) (hQ 0 9 []) (rfl) ?_;iterate 9 refine ib (h:=λt z=>by subst z;have s:w.drew.cell? (af7 y 0)=_:=s;have p:w.drew.cell? (af7 y 1)=_:=p;have g:w.drew.cell? (af7 y 2)=_:=g;have f:w.drew.cell? (af7 y 3)=_:=f;have d:w.drew.cell? (af7 y 4)=_:=d;have b:w.drew.cell? (af7 y 5)=_:=b;have a:w.drew.cell? (af7 y 6)=_:=a;have Y:w.drew.cell? (af7 x 0)=_:=Y;have X:w.drew.cell? (af7 x 1)=_:=X;have V:w.drew.cell? (af7 x 2)=_:=V;have U:w.drew.cell? (af7 x 3)=_:=U;have T:w.drew.cell? (af7 x 4)=_:=T;have S:w.drew.cell? (af7 x 5)=_:=S;have R:w.drew.cell? (af7 x 6)=_:=R;exact af8) ?_
 refine g4 ?_;have s:w.drew.cell? (af7 y 0)=_:=s;go_upto_region 5 with fail;refine kr (λt=>t=w.drew.drew) 8 (hQ 0 8 []) (rfl) ?_;iterate 8 refine jG (h:=λt z=>by have r:w.drew.drew.cell? (af7 y 7)=some p1:=u.o.1;have q:w.drew.drew.cell? (af7 x 7)=some q1:=u.o.2;subst z;exact af8) ?_
 refine hN ?_;simp only[aX,bj];go_wp21;refine WE (C.o w.drew.drew N) ?_;intro v P z;have M:=ax z;clear z;go_wp21;try refine g6 ?_
 go_wp2;go_ret;exact⟨_,rfl,M.o⟩
def EZ(u:g7 w y 106 #[.int .u8 2,af6 lo,af6 hi,af6 dg,.bool gr,af6 ac,af6 sz,p1,p2,p3,p4])(z:g7 w x 106 #[.int .u8 2,af6 lo,af6 hi,af6 dg,.bool gr,af6 ac,af6 sz,q1,q2,q3,q4])(h:∀P,af3 w P->af4 af5 50 #[p2,q2] P λe t=>∃v,e=.returned v/\Q v t):af4 af5 16 #[aq y,aq x,c] w λe t=>∃v,e=.returned v/\Q v t:=by
 have C:=ax h;have s:=u.C 0;have p:=u.C 1;have g:=u.C 2;have f:=u.k3;have d:=u.k4;have b:=u.k5;have a:=u.k6;have r:=u.k8;have Y:=z.k0;have X:=z.k1;have V:=z.k2;have U:=z.k3;have T:=z.k4;have S:=z.k5;have R:=z.k6;have q:=z.k8;simp only[az,ay,aA] at s p g;clear h u z;have u:=ax (aB r q);clear r q;have O:af3 w w.drew:=(aC _ _).drew;have N:af3 w w.drew.drew:=O.drew;go_in;go_upto_region 1 with fail;refine jh (λt=>t=w.drew) (hQ 0 9 []) (rfl) ?_;iterate 9 refine ib (h:=λt z=>by subst z;have s:w.drew.cell? (af7 y 0)=_:=s;have p:w.drew.cell? (af7 y 1)=_:=p;have g:w.drew.cell? (af7 y 2)=_:=g;have f:w.drew.cell? (af7 y 3)=_:=f;have d:w.drew.cell? (af7 y 4)=_:=d;have b:w.drew.cell? (af7 y 5)=_:=b;have a:w.drew.cell? (af7 y 6)=_:=a;have Y:w.drew.cell? (af7 x 0)=_:=Y;have X:w.drew.cell? (af7 x 1)=_:=X;have V:w.drew.cell? (af7 x 2)=_:=V;have U:w.drew.cell? (af7 x 3)=_:=U;have T:w.drew.cell? (af7 x 4)=_:=T;have S:w.drew.cell? (af7 x 5)=_:=S;have R:w.drew.cell? (af7 x 6)=_:=R;exact af8) ?_
 refine g4 ?_;have s:w.drew.cell? (af7 y 0)=_:=s;go_upto_region 7 with fail;refine kr (λt=>t=w.drew.drew) 8 (hQ 0 8 []) (rfl) ?_;iterate 8 refine jG (h:=λt z=>by have r:w.drew.drew.cell? (af7 y 8)=some p2:=u.o.1;have q:w.drew.drew.cell? (af7 x 8)=some q2:=u.o.2;subst z;exact af8) ?_
 refine hN ?_;simp only[aX,bj];go_wp21;refine WE (C.o w.drew.drew N) ?_;intro v P z;have M:=ax z;clear z;go_wp21;try refine g6 ?_
 go_wp2;go_ret;exact⟨_,rfl,M.o⟩
def E5(u:g7 w y 106 #[.int .u8 3,af6 lo,af6 hi,af6 dg,.bool gr,af6 ac,af6 sz,p1,p2,p3,p4])(z:g7 w x 106 #[.int .u8 3,af6 lo,af6 hi,af6 dg,.bool gr,af6 ac,af6 sz,q1,q2,q3,q4])(h:∀P,af3 w P->af4 af5 51 #[p3,q3] P λe t=>∃v,e=.returned v/\Q v t):af4 af5 16 #[aq y,aq x,c] w λe t=>∃v,e=.returned v/\Q v t:=by
 have C:=ax h;have s:=u.C 0;have p:=u.C 1;have g:=u.C 2;have f:=u.k3;have d:=u.k4;have b:=u.k5;have a:=u.k6;have r:=u.k9;have Y:=z.k0;have X:=z.k1;have V:=z.k2;have U:=z.k3;have T:=z.k4;have S:=z.k5;have R:=z.k6;have q:=z.k9;simp only[az,ay,aA] at s p g;clear h u z;have u:=ax (aB r q);clear r q;have O:af3 w w.drew:=(aC _ _).drew;have N:af3 w w.drew.drew:=O.drew;go_in;go_upto_region 1 with fail;refine jh (λt=>t=w.drew) (hQ 0 9 []) (rfl) ?_;iterate 9 refine ib (h:=λt z=>by subst z;have s:w.drew.cell? (af7 y 0)=_:=s;have p:w.drew.cell? (af7 y 1)=_:=p;have g:w.drew.cell? (af7 y 2)=_:=g;have f:w.drew.cell? (af7 y 3)=_:=f;have d:w.drew.cell? (af7 y 4)=_:=d;have b:w.drew.cell? (af7 y 5)=_:=b;have a:w.drew.cell? (af7 y 6)=_:=a;have Y:w.drew.cell? (af7 x 0)=_:=Y;have X:w.drew.cell? (af7 x 1)=_:=X;have V:w.drew.cell? (af7 x 2)=_:=V;have U:w.drew.cell? (af7 x 3)=_:=U;have T:w.drew.cell? (af7 x 4)=_:=T;have S:w.drew.cell? (af7 x 5)=_:=S;have R:w.drew.cell? (af7 x 6)=_:=R;exact af8) ?_
 refine g4 ?_;have s:w.drew.cell? (af7 y 0)=_:=s;go_upto_region 9 with fail;refine kr (λt=>t=w.drew.drew) 8 (hQ 0 8 []) (rfl) ?_;iterate 8 refine jG (h:=λt z=>by have r:w.drew.drew.cell? (af7 y 9)=some p3:=u.o.1;have q:w.drew.drew.cell? (af7 x 9)=some q3:=u.o.2;subst z;exact af8) ?_
 refine hN ?_;simp only[aX,bj];go_wp21;refine WE (C.o w.drew.drew N) ?_;intro v P z;have M:=ax z;clear z;go_wp21;try refine g6 ?_
 go_wp2;go_ret;exact⟨_,rfl,M.o⟩
def E6(u:g7 w y 106 #[.int .u8 4,af6 lo,af6 hi,af6 dg,.bool gr,af6 ac,af6 sz,p1,p2,p3,p4])(z:g7 w x 106 #[.int .u8 4,af6 lo,af6 hi,af6 dg,.bool gr,af6 ac,af6 sz,q1,q2,q3,q4])(h:∀P,af3 w P->af4 af5 52 #[p4,q4,c] P λe t=>∃v,e=.returned v/\Q v t):af4 af5 16 #[aq y,aq x,c] w λe t=>∃v,e=.returned v/\Q v t:=by
 have C:=ax h;have s:=u.C 0;have p:=u.C 1;have g:=u.C 2;have f:=u.k3;have d:=u.k4;have b:=u.k5;have a:=u.k6;have r:=u.k10;have Y:=z.k0;have X:=z.k1;have V:=z.k2;have U:=z.k3;have T:=z.k4;have S:=z.k5;have R:=z.k6;have q:=z.k10;simp only[az,ay,aA] at s p g;clear h u z;have u:=ax (aB r q);clear r q;have O:af3 w w.drew:=(aC _ _).drew;have N:af3 w w.drew.drew:=O.drew;go_in;go_upto_region 1 with fail;refine jh (λt=>t=w.drew) (hQ 0 9 []) (rfl) ?_;iterate 9 refine ib (h:=λt z=>by subst z;have s:w.drew.cell? (af7 y 0)=_:=s;have p:w.drew.cell? (af7 y 1)=_:=p;have g:w.drew.cell? (af7 y 2)=_:=g;have f:w.drew.cell? (af7 y 3)=_:=f;have d:w.drew.cell? (af7 y 4)=_:=d;have b:w.drew.cell? (af7 y 5)=_:=b;have a:w.drew.cell? (af7 y 6)=_:=a;have Y:w.drew.cell? (af7 x 0)=_:=Y;have X:w.drew.cell? (af7 x 1)=_:=X;have V:w.drew.cell? (af7 x 2)=_:=V;have U:w.drew.cell? (af7 x 3)=_:=U;have T:w.drew.cell? (af7 x 4)=_:=T;have S:w.drew.cell? (af7 x 5)=_:=S;have R:w.drew.cell? (af7 x 6)=_:=R;exact af8) ?_
 refine g4 ?_;have s:w.drew.cell? (af7 y 0)=_:=s;go_upto_region 10 with fail;refine kr (λt=>t=w.drew.drew) 9 (hQ 0 9 []) (rfl) ?_;iterate 9 refine jG (h:=λt z=>by have r:w.drew.drew.cell? (af7 y 10)=some p4:=u.o.1;have q:w.drew.drew.cell? (af7 x 10)=some q4:=u.o.2;subst z;exact af8) ?_
 refine hN ?_;simp only[aX,bj];go_wp21;refine WE (C.o w.drew.drew N) ?_;intro v P z;have M:=ax z;clear z;go_wp21;try refine g6 ?_
 go_wp2;go_ret;exact⟨_,rfl,M.o⟩
end
