/- Parts. -/
import Derived.Test.YtdicblkhpcphfaaGreatPU35
set_option maxRecDepth 100000
set_option maxHeartbeats 0
set_option linter.all false
namespace Go.Proofs.YtdicblkhpcphfaaGreat
open Tryz Go.RowKit Go.Lib Go.Shelf
open _root_.List renaming length→ab0
open Go.IntKind renaming wrap→ad0
open _root_.Go renaming Calls→af4
open Tryz renaming prog→af5
namespace D
def Be{sp:ie}{c t:Js}{B:List Int}{a:Nat}(h:im sp c)(v:im sp t):k_ sp (jb sp B t c a).1=if mn sp c t=0 then k_ sp c+k_ sp t else k_ sp c:=by
 cases sp with
 | h lo hi dg u m gr=>
  show tot (NH c.l t.l)=if Ct c.l t.l=0 then tot c.l+tot t.l else tot c.l
  unfold NH;split
  .rw[lR]
  .rfl
 | d ac m=>
  show tot (BI c.l t.l)=if i4 c.l t.l=0 then tot c.l+tot t.l else tot c.l
  unfold BI;split
  .rw[lR]
  .rfl
 | t d=>
  show k_ (.t d) (if iO c.s t.s=0 then {c with s:=c.s.take d t.s} else c)=if iO c.s t.s=0 then Go.Proofs.YtdicblkhpcphfaaGreat.tot (c.s.L++c.s.W)+Go.Proofs.YtdicblkhpcphfaaGreat.tot (t.s.L++t.s.W) else Go.Proofs.YtdicblkhpcphfaaGreat.tot (c.s.L++c.s.W)
  by_cases z:iO c.s t.s=0
  .rw[aH z,aH z]
   by_cases y:Go.Proofs.YtdicblkhpcphfaaGreat.tot (t.s.L++t.s.W)=0
   .have:c.s.take d t.s=c.s:=by unfold St.take;rw[aH y]
    show Go.Proofs.YtdicblkhpcphfaaGreat.tot ((c.s.take d t.s).L++(c.s.take d t.s).W)=_
    rw[this,y];omega
   .unfold iO at z
    split at z
    .cases z
    .have p:=(th.fit h).d0
     obtain⟨g,r,q,x⟩:=(th.fit h).ok.take (th.fit v).ok aa y aa;exact x
  .rw[aF z,aF z];rfl
 | k q=>
  show((K.wt (K.kW q B (t.L,t.led) (c.L,c.led,a)).1:Nat):Int)=if K.iO c.L t.L=0 then(K.wt c.L:Int)+K.wt t.L else K.wt c.L
  rw[K.Es];simp only;split<;>omega
def PI(sp:ie)(B:List Int):List Js->Js->Nat->Js × Nat × Int
 | [],x,a=>(x,a,0)
 | t::r,x,a=>if mn sp x t=0 then PI sp B r (jb sp B t x a).1 (jb sp B t x a).2 else((jb sp B t x a).1,(jb sp B t x a).2,mn sp x t)
def kX(sp:ie)(B:List Int)(L:List Js)(k:Nat)(x:Js)(a:Nat):Js × Nat × Int:=PI sp B (L.take k).reverse x a
def qB(z:ie)(B:List Int)(L:List Js)(x:Js)(a:Nat):kX z B L 0 x a=(x,a,0):=rfl
def qC(z:ie)(B:List Int){L:List Js}{k:Nat}(h:k<ab0 L)(x:Js)(a:Nat):kX z B L (k+1) x a=if mn z x L[k]=0 then kX z B L k (jb z B L[k] x a).1 (jb z B L[k] x a).2 else((jb z B L[k] x a).1,(jb z B L[k] x a).2,mn z x L[k]):=by
 unfold kX;rw[aM h,List.reverse_append];rfl
def zx(z:ie):k_ z z.new=0:=by cases z<;>rfl
def PJ{q:Nat}{M:K.LL}(h:K.jo q M=none):K.jo q (K.jT [] M)=none:=by
 have y:ab0 (K.jT [] M)=ab0 M:=by unfold K.jT;rw[K.kS];simp
 refine K.mQ λj z=>?_;rw[y] at z |-;have:=K.qi h j z;unfold K.jT;rw[K.pG,aH z,K.oO]
 simpa[K.lvl] using this
def uF(P:Js->Nat->Ft->World->Prop)(C:Nat->Ft->World->Prop)(H:Ft)(r:Js × Nat × Int)(w:World)(e:Ending)(w':World):Prop:=
 (if r.2.2=0 then ∃y,e=.returned (.tuple #[aq y,af6 0])/\P r.1 y (Gr (λ_=>False) w w') w' else e=.returned (.tuple #[.pointer none,af6 r.2.2]))/\C r.2.1 H w'/\Touch H w w'
section
variable {sp : ie} {a0 x n a : Nat} {C : List Js} {v : Value} {ps : List Nat} {Ow : Nat -> Ft} {G F H : Ft} {w w' : World} {s : Wn} {cq : Value} {B : List Int}
structure Ut(sp:ie)(B:List Int)(L:List Js)(last a:Nat)(cq:Value)(H:Ft)(w:World)(y:Nat)(j:Nat)(e:Int)(X:Js)(a':Nat)(Fy:Ft)(wr:World):Prop where
 js:jq sp X y Fy wr
 ok:im sp X
 cn:iT cq B a' H wr
 new:∀k,Fy k->w.heap.size<=k
 touch:Touch H w wr
 fst:j=last->X=sp.new
 eq:kX sp B L last sp.new a=if e=0 then kX sp B L j X a' else(X,a',e)
def qD{kd lo hi dg ac sz:Int}{gr:Bool}(b:sp.v=iB kd lo hi dg gr ac sz)(p:sp.cs=[.int .u8 kd,af6 lo,af6 hi,af6 dg,.bool gr,af6 ac,af6 sz])(y:jR sp)(t:Nat)(w:World)(h:jN sp s.now a0 C v ps Ow G x w)(u:s.L=xB sp.new a0 C)(ok:∀c∈s.L,im sp c)(l1:1<=t)(l2:t<=ab0 C)
 (r:iT cq B a H w) (T:∀q,sp=.k q->cq=.pointer none->t=1) (d:∀k,H k->¬G k/\k≠x) :
 af4 af5 14 #[aq x,af6 t,cq] w (uF (We sp) (λa H=>iT cq B a H) H (kX sp B s.L t sp.new a) w):=by
 have CM:Hid (∀f:World,af4 af5 46 #[.agg #[.int .u8 kd,af6 lo,af6 hi,af6 dg,.bool gr,af6 ac,af6 sz]] f _):=ax (λf=>by rw[show Value.agg #[.int .u8 kd,af6 lo,af6 hi,af6 dg,.bool gr,af6 ac,af6 sz]=sp.v from b.Y];exact Cg f y);have O:=h.c7;have Y:=ax h;have m:=ax u;have zC:=ax ok;have A:=ax r;have l:=ax d;have Wh:=ax T;have Tz:=ax (pf y);obtain⟨g,c,rfl,_⟩:=h.ring.pos h.pos;have z:=h.blk;rw[p] at z;have X:=z.C 0;have V:=z.C 1;have U:=z.C 2;have S:=z.C 3;have R:=z.C 4;have Q:=z.C 5;have P:=z.C 6;simp only[bG,bB,az,ay,aA] at X V U S R Q P;have hn1:¬((t:Int)<1):=aa;have hn2:¬((t:Int) > (ab0 C:Int)):=aa;have h60:=h.n60;clear h u ok r d T z p b y;go_in;go_wp21;refine WE (CM.o w) ?_;rintro y f ⟨I,u⟩;have HI:Hid (Ut sp B s.L t a cq H w y t 0 sp.new a (Gr (λ_=>False) w f) f):=ax ⟨I,Tz.o,A.o.K u,λk z=>z.elim False.elim And.left,Touch.of_below u (aD _),λ_=>rfl,by rw[aH rfl]⟩;clear I u X V U S R Q P O;go_wp2;go_loopg [9,10] (t+1) (λq r u wr=>∃(j:Nat) (V:Int) (X:Js) (S:Nat) (b:Ft),q=(if V=0 then j+1 else 0)/\j<=t/\r=af6 V/\u=af6 ((j:Int) - 1)/\Hid (Ut sp B s.L t a cq H w y j V X S b wr))
 exact⟨t,0,sp.new,a,_,ad,aD _,rfl,rfl,HI⟩
 case round=>
  obtain⟨j,V,X,S,b,T,I,rfl,rfl,u⟩:=hrel;have HQ:=ax T;clear T;by_cases Q:V=0
  .subst Q
   cases j with
   | zero=>
    go_wp2;refine ak ?_;have r:=u.o.eq;rw[aH rfl,qB] at r;rw[r];exact⟨by rw[aH rfl];exact⟨y,rfl,lk ⟨b,u.o.js,u.o.new⟩⟩,u.o.cn,u.o.touch⟩
   | succ i=>
    have o:i<ab0 C:=aa;have R:((i+1:Nat):Int) - 1=(i:Int):=aa;rw[R];have hi0:(i:Int)>=0:=aa;have E:jN sp s.now a0 C (.slice (some (af7 g 0)) (ab0 C) c) ps Ow G x wr:=Y.o.stay (u.o.touch.block x Y.o.blk.lt (λe=>(l.o x e).2 rfl)) (λk z=>u.o.touch.block k (Y.o.ring.low k z) (λe=>(l.o k e).1 z)) u.o.touch.size;have n:=ax (pQ i wr E o);have hlen:ab0 s.L=ab0 C:=by rw[m.o,iw]
    have J:s.L.getD i sp.new=s.L[i]' aa :=by rw[aT,aL aa,br]
    have P:im sp (s.L.getD i sp.new):=by rw[J];exact zC.o _ (aP _)
    have W:Hid (∀d,af3 wr d->af4 af5 45 #[aq y,.pointer (some ⟨ps.getD (ow a0 (ab0 C) i) 0,0,none⟩),cq] d λe w'=>∃U N M O,e=.returned (af6 U)/\Ut sp B s.L t a cq H w y i U N M O w'):=ax (λd p=>by
     have hw2:=E.K p;have hz:=u.o.touch.size;have ho:=hw2.js m.o o;have hjs:=(ju sp X y).K u.o.js p;have Ij:∀k,b k->¬Ow (ow a0 (ab0 C) i) k:=λk L K=>by have:=u.o.new k L;have:=Y.o.ring.low k (Y.o.ring.qu _ _ K);omega
     have D:∀k,H k->¬b k:=λk L K=>by have:=u.o.new k K;have:=A.o.low k L;omega
     refine(JO d hjs ho (.inr Ij) u.o.ok P (u.o.cn.K p) (λq r R=>?_) D).M ?_
     .have:=Wh.o q r R
      have q:=u.o.fst aa;rw[q];subst r;exact PJ (pN.fit P).none
     .intro e w' q
      have hbz:=p.size;refine⟨_,(jb sp B (s.L.getD i sp.new) X S).1,(jb sp B (s.L.getD i sp.new) X S).2,_,q.1,q.2.1,qq u.o.ok P,q.2.2.1,λk z=>z.elim (u.o.new k) (λh=>by omega),?_,λe=>by omega,?_⟩
      .have ht:=(u.o.touch.T (Touch.of_below (F:=H) p (aD _)) (λk z=>.inl z)).T q.2.2.2 (λk z=>z.elim (λh=>.inr (u.o.new k h)) .inl)
       exact ht
      .have z:=u.o.eq
       rw[aH rfl,qC sp B aa] at z;rw[z,J])
    clear E P R J;generalize ps.getD (ow a0 (ab0 C) i) 0=z at *;go_wp21;refine RX n.o ?_;intro d p;have D:=ax (W.o d p);clear p;go_wp21;refine(D.o).M ?_;rintro e L ⟨U,N,M,O,rfl,q⟩;have P:=ax q;clear q;go_wp2;go_roundg (if U=0 then i+1 else 0)
    case measure=>have:=HQ.o;simp at this;split<;>omega
    case rel=>exact⟨i,U,N,M,O,rfl,aa,rfl,af,P⟩
  .have r:=u.o.eq
   rw[aF Q] at r;have z:=ax r;clear r;by_cases q:j=0
   .subst q
    go_wp2;refine ak ?_;rw[z.o];exact⟨by rw[aF Q],u.o.cn,u.o.touch⟩
   .have hi0:(j:Int) - 1>=0:=aa
    go_wp2;refine ak ?_;rw[z.o];exact⟨by rw[aF Q],u.o.cn,u.o.touch⟩
def Fz(Y:jR sp)(z:Nat)(w:World)(h:jN sp s.now a0 C v ps Ow G x w)(y:s.L=xB sp.new a0 C)(ok:∀c∈s.L,im sp c)(f:1<=z)(b:z<=ab0 C)
 (r:iT cq B a H w) (g:∀q,sp=.k q->cq=.pointer none->z=1) (p:∀k,H k->¬G k/\k≠x) :
 af4 af5 14 #[aq x,af6 z,cq] w (uF (We sp) (λa H=>iT cq B a H) H (kX sp B s.L z sp.new a) w):=by
 cases sp with
 | h lo hi dg u m gr=>exact qD rfl rfl Y z w h y ok f b r g p
 | d a m=>exact qD rfl rfl Y z w h y ok f b r g p
 | t d=>exact qD rfl rfl Y z w h y ok f b r g p
 | k q=>exact qD rfl rfl Y z w h y ok f b r g p
end
variable{sp:ie}{c:Js}{x y:Nat}{F G:Ft}
def uG{kd lo hi dg ac sz:Int}{gr:Bool}(T:sp.v=iB kd lo hi dg gr ac sz)(v:sp.cs=[.int .u8 kd,af6 lo,af6 hi,af6 dg,.bool gr,af6 ac,af6 sz])(w:World)(h:jq sp c x F w)(M:iH sp c y G w)(ok:im sp c):af4 af5 17 #[aq x,aq y] w (au w (.bool true)):=by
 have P:=ax (λW (z:af3 w W)=>Cf W ((ju sp c x).K h z) ok);have D:=ax (λW (z:af3 w W)=>uf W ((ju sp c x).K h z) ok);have E:=ax (λW (z:af3 w W)=>vu W ((ke sp c y).K M z) ok);have C:=ax (λW (z:af3 w W)=>xC W ((ju sp c x).K h z) ok);have O:=ax (λW (z:af3 w W)=>Fb W ((ke sp c y).K M z) ok);obtain⟨p,k,z,_⟩:=M;have V:=z.lt;rw[v] at z;have r:=z.C 0;have g:=z.C 1;have f:=z.C 2;have d:=z.C 3;have b:=z.C 4;have a:=z.C 5;have Y:=z.C 6;simp only[bG,bB,az,ay,aA] at r g f d b a Y;have X:=ax (aB r (aB g (aB f (aB d (aB b (aB a Y))))));rw[T] at P;unfold iB at P;have⟨tt,s⟩:=ar (k_ sp c);have⟨W,U⟩:=ar (qM sp c);rw[s] at D E;rw[U] at C O;have⟨st,t⟩:=ar (strOfNums W);have S:=ax t;clear h z T v ok s U t r g f d b a Y;go_in;go_upto_region 1 with fail;have Z:=ax (λu (v:(λu=>af3 w u) u)=>(aB ((v.C (p:=af7 y 0) V).T X.o.1) (aB ((v.C (p:=af7 y 1) V).T X.o.2.1) (aB ((v.C (p:=af7 y 2) V).T X.o.2.2.1) (aB ((v.C (p:=af7 y 3) V).T X.o.2.2.2.1) (aB ((v.C (p:=af7 y 4) V).T X.o.2.2.2.2.1) (aB ((v.C (p:=af7 y 5) V).T X.o.2.2.2.2.2.1) ((v.C (p:=af7 y 6) V).T X.o.2.2.2.2.2.2))))))));refine oz (λu=>af3 w u) (.rd 0 (.rd 2 (.rd 3 (.rd 4 (.rd 5 (.ef 1 (.rd 6 (.rd 7 (.rd 8 (.rd 10 (.ef 9 (.ef 11 (.rd 12 (.rd 13 (.rd 14 (.rd 15 (.rd 18 (.ef 16 (.two 17 19 (.ef 19 (.ef 20 (.rd 21 (.rd 22 (.rd 23 .nil))))) (.two 17 20 (.ef 20 (.rd 21 (.rd 22 (.rd 23 .nil)))) (.ef 17 (.rd 21 (.rd 22 (.rd 23 .nil)))))))))))))))))))))))) (by kernel_rfl) (by kernel_rfl) ((aC _ _).drew) ?_
 iterate 5
  refine iU aj  aj (λR t=>?_);apply bp
  refine⟨λu v=>?_,?_⟩
  .obtain⟨r,g,f,d,b,a,Y⟩:=Z.o u v
   exact af8
  go_simp;refine t _ ?_;clear t R
 refine jU aj  aj (λK z=>?_);go_simp;refine RX (P.o _ (aC _ _).drew) ?_;intro J m;have U:af3 w J:=(aC _ _).drew.T m;refine z _ _ (U) ?_
 iterate 4
  refine iU aj  aj (λR t=>?_);apply bp
  refine⟨λu v=>?_,?_⟩
  .obtain⟨r,g,f,d,b,a,Y⟩:=Z.o u v
   exact af8
  go_simp;refine t _ ?_;clear t R
 refine jU aj  aj (λK z=>?_);go_simp;refine Ix (D.o J U) ?_;refine z _ _ (U) ?_;refine jU aj  aj (λK z=>?_);go_simp;refine RX (E.o J U) ?_;intro A o;have T:af3 w A:=U.T (o.M U.size);refine z _ _ (T) ?_
 iterate 5
  refine iU aj  aj (λR t=>?_);apply bp
  refine⟨λu v=>?_,?_⟩
  .obtain⟨r,g,f,d,b,a,Y⟩:=Z.o u v
   exact af8
  go_simp;refine t _ ?_;clear t R
 refine jU aj  aj (λK z=>?_);go_simp;refine WE (C.o A T) ?_;rintro h I ⟨B,n⟩;have q:af3 w I:=T.T (n.M T.size);have j:=rC (hO.rd B);rw[S.o] at j;refine z _ _ (q) ?_;refine pT aj  aj  aj  aj (λK z=>?_) (λK z=>?_);go_simp;refine z _ _ (q) ?_;refine jU aj  aj (λK z=>?_);go_simp;refine WE (O.o I q) ?_;rintro i H ⟨L,Q⟩;have s:af3 w H:=q.T (Q.M q.size);have N:=rC (hO.rd L);rw[S.o] at N;refine z _ _ (s) ?_;refine jU aj  aj (λK z=>?_);go_simp;refine z _ _ (s) ?_
 iterate 3
  refine iU aj  aj (λR t=>?_);apply bp
  refine⟨λu v=>?_,?_⟩
  .obtain⟨r,g,f,d,b,a,Y⟩:=Z.o u v
   exact af8
  go_simp;refine t _ ?_;clear t R
 refine mi ?_
 rotate_left
 go_simp;refine WE (O.o I q) ?_;rintro i H ⟨L,Q⟩;have s:af3 w H:=q.T (Q.M q.size);have N:=rC (hO.rd L);rw[S.o] at N;have l:=rC (jC.K (hO.rd B) Q);rw[S.o] at l;refine z _ _ (s) ?_;refine pT aj  aj  aj  aj (λK z=>?_) (λK z=>?_);go_simp;refine z _ _ (s) ?_;refine jU aj  aj (λK z=>?_);go_simp;refine z _ _ (s) ?_
 iterate 3
  refine iU aj  aj (λR t=>?_);apply bp
  refine⟨λu v=>?_,?_⟩
  .obtain⟨r,g,f,d,b,a,Y⟩:=Z.o u v
   exact af8
  go_simp;refine t _ ?_;clear t R
 refine mi ?_
 rotate_left
 go_simp;refine z _ _ (s) ?_;refine jU aj  aj (λK z=>?_);go_simp;refine z _ _ (s) ?_
 iterate 3
  refine iU aj  aj (λR t=>?_);apply bp
  refine⟨λu v=>?_,?_⟩
  .obtain⟨r,g,f,d,b,a,Y⟩:=Z.o u v
   exact af8
  go_simp;refine t _ ?_;clear t R
 refine mi ?_
 all_goals
  try refine g6 ?_
  go_wp2;refine ak ?_;exact⟨ad,s⟩
def zy(w:World)(h:jq sp c x F w)(z:iH sp c y G w)(ok:im sp c):af4 af5 17 #[aq x,aq y] w (au w (.bool true)):=by
 cases sp with
 | h lo hi dg u m gr=>exact uG rfl rfl w h z ok
 | d a m=>exact uG rfl rfl w h z ok
 | t d=>exact uG rfl rfl w h z ok
 | k q=>exact uG rfl rfl w h z ok
