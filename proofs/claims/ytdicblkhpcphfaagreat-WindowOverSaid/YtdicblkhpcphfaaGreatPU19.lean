/- Parts. -/
import Derived.Test.YtdicblkhpcphfaaGreatPU18
set_option maxRecDepth 100000
set_option maxHeartbeats 0
set_option linter.all false
namespace Go.Proofs.YtdicblkhpcphfaaGreat
open Tryz Go.RowKit Go.Lib Go.Shelf
open _root_.List renaming length→ab0
open Go.IntKind renaming wrap→ad0
open _root_.Go renaming Calls→af4
open Tryz renaming prog→af5
namespace D
def pd.first{w w1:World}{g:Nat}{bs:List Int}{a:Nat}{v:Value}{e:Ending}{w':World}(z:af3 w w1)(h:pd w1 g bs a v e w'):pd w g bs a v e w':=⟨h.1,h.2.1,BF z h.2.2⟩
def r7(k K:Nat)(c z:Int)(g:Nat)(bs:List Int)(a b:Nat)(n:Int)(w:World)(h:hT w g bs a)(u:FL k c z)(x:sG k=K)
 (q:∀y w,(callFunc K y).run prog w=.ok (.enter K y) w)
 (v:∀w,hT w g bs a->Calls prog K #[aq g,af6 z] w (pd w g bs b (.tuple #[.int .u64 n,af6 0]))) :
 af4 af5 330 #[aq g,.int .u8 c] w (pd w g bs b (.tuple #[.int .u64 n,af6 0])):=by
 have H:=ax h;have s:=ax v;have t:Hid (af4 af5 276 #[.int .u8 c] w λe y=>e=.returned (.tuple #[.agg #[.int .u8 c,af6 z,.func (.func (pZ k)) #[] #[],.func (.func K) #[] #[]],.bool true])/\af3 w y):=by
  rw[<-x];exact ax (vM k c z w u)
 clear h v x u;go_in;go_wp21;refine RX t.o ?_;intro r u;have p:=u.size;have x:∀y,af3 w (r.alloc (.cells y 377)):=λy=>bw;go_wp2_with (go_at_fn K;refine(s.o _ (H.o.K (x _))).M ?_)
 rintro e f y;have v:=ax (pd.first (x _) y);obtain⟨rfl,_,_⟩:=y;go_wp2;go_ret2;exact v.o
section
variable {g a : Nat} {bs r : List Int} {n : Int} {w : World}
def r8(w:World)(h:hT w g bs a)(y:ab0 bs<=1000000000000)(z:bs.drop a=jS 4 n++r)(x:0<=n)(v:n<4294967296):af4 af5 330 #[aq g,.int .u8 87] w (pd w g bs (a+4) (.tuple #[.int .u64 n,af6 0])):=
 r7 4 404 87 4 g bs a (a+4) n w h Vb rfl (λ_ _=>rfl) (λw h=>AD 4 w h y z aa x aa (by show n / 4294967296=0;omega))
def vi(w:World)(h:hT w g bs a)(y:ab0 bs<=1000000000000)(z:bs.drop a=jS 8 n++r)(x:0<=n)(v:n<18446744073709551616):af4 af5 330 #[aq g,.int .u8 81] w (pd w g bs (a+8) (.tuple #[.int .u64 n,af6 0])):=
 r7 6 404 81 8 g bs a (a+8) n w h Vc rfl (λ_ _=>rfl) (λw h=>AD 8 w h y z aa x aa (by show n / 18446744073709551616=0;omega))
def Lg(w:World)(h:hT w g bs a)(y:ab0 bs<=1000000000000)(z:bs.drop a=n::r)(x:0<=n)(v:n<256):af4 af5 330 #[aq g,.int .u8 98] w (pd w g bs (a+1) (.tuple #[.int .u64 n,af6 0])):=
 r7 0 402 98 1 g bs a (a+1) n w h Va rfl (λ_ _=>rfl) (λw h=>KY w h y z x v)
def Lh{x:Int}(w:World)(h:hT w g bs a)(y:ab0 bs<=1000000000000)(z:bs.drop a=nn x++r)(v:-9223372036854775808<=x)(u:x<=9223372036854775807):af4 af5 330 #[aq g,.int .u8 110] w (pd w g bs (a+ab0 (nn x)) (.tuple #[.int .u64 (ub x),af6 0])):=
 r7 9 410 110 0 g bs a _ (ub x) w h Vd rfl (λ_ _=>rfl) (λw h=>KZ 0 w h y z v u)
end
def Tw{w w':World}{g:Nat}{bs:List Int}{a:Nat}{u:Value}{l:List Int}(h:hT w g bs a)(x:g8 FJ (g+1) w u l)(y:w.grownBy w' u.ownBlock):hT w' g bs a:=by
 obtain⟨v,t,z,s⟩:=h;refine⟨v,iG t x ab y,?_,s⟩;exact hY.2 ((hY.1 z).grown y (kC (hY.1 z) x ab))
def Jr(p:ByteArray)(bs N:List Int)(u:Nat->Nat)(v:Value)(w:World)(h:jC .u8 w v bs)(D:ab0 bs<=1000000000000)
 (y:∀w,af4 af5 275 #[.string p] w λe r=>e=.returned (.bool true)/\af3 w r) (n:p.size=ab0 N) (A:ab0 N<=64) (I:u 0=0) (o:∀j,j<=ab0 N->u j<=1000000000000)
 (z:∀(j:Nat) (h:j<ab0 N) (t:j<p.size) (g:Nat) (x:World),hT x g bs (u j)->af4 af5 330 #[aq g,.int .u8 ((p[j]'t).toNat:Int)] x (pd x g bs (u (j+1)) (.tuple #[.int .u64 N[j],af6 0]))) :
 af4 af5 264 #[.string p,v] w λe r=>∃t,e=.returned (.tuple #[t,af6 (u (ab0 N)),af6 0])/\g8 FJ w.heap.size r t N/\af3 w r:=by
 have P:=ax (y w);have Q:Hid (∀x,af3 w x->_):=ax (λx s=>q_ v bs x (h.K s) D);have O:=ax z;clear y h z;go_in;go_wp21;refine RX P.o ?_;intro x f;go_wp21;refine WE (Q.o x f) ?_;rintro g w2 ⟨t,z,y⟩;have m:w.heap.size<=g:=bf f.size t;have G:=f.T (y.M f.size);rw[<-I] at z;have L:=ax z;clear z t y;go_wp2;go_loopg [9,22] (ab0 N) (λq l i wr=>∃j:Nat,q=ab0 N - j/\j<=ab0 N/\i=af6 j/\Hid (g8 FJ (g+1) wr l (N.take j))/\Hid (hT wr g bs (u j))/\af3 w wr)
 exact⟨0,rfl,aa,rfl,ax (g8.nil_ _ _),L,G⟩
 case round=>
  obtain⟨j,z,l,rfl,t,X,s⟩:=hrel;have M:=ax z;clear z;by_cases T:j<ab0 N
  .have F:j<p.size:=aa
   have Y:=ax (O.o j T F g wr X.o);obtain⟨R,J,U,_,_,_⟩:=t.o.form;have⟨B,y⟩:=ar (ab0 (N.take j));rw[y] at U;subst U;have C:ab0 (N.take j)+1<=1099511627776:=by rw[aU];omega
   clear y;go_wp21;refine RX Y.o ?_;rintro a ⟨d,b⟩;have q:Hid (g8 FJ (g+1) a (.slice R B J) (N.take j)):=ax (t.o.stay (λk z=>b.block k (t.o.lt k z).2 (λe=>by have:=(t.o.lt k z).1;omega)));have K:=ax d;have c:af3 w a:=s.T (b.below (λk z=>by omega) s.size);have W:g+1<=a.heap.size:=by have:=d.lt;omega
   have V:Hid (N.take (j+1)=N.take j++[N[j]]):=ax (aM T);have⟨y,S⟩:=ar (N[j]);rw[S] at V |-;clear d b Y S
   go_wp2_with (at_builtin;go_must (refine oM QX rfl (.tmp 36) (.tmp 38) rfl (q.o.alloc _) rfl _ [y] rfl (iQ.ig (E:=FJ) _ y _ rfl _ rfl _ ad) C (by simp only[aI];omega) ?_);intro i Y b d _;have S:=ax b;have H:af3 w Y:=(c.alloc c.size (.cells #[.int .u64 y] 36)).grown d (by simp only[aI];have:=c.size;omega) (λk z=>by have:=(q.o.lt k z).1;omega);have z:Hid (hT Y g bs (u (j+1))):=ax (Tw (K.o.K ((aC _ _).alloc (aD _) (.cells #[.int .u64 y] 36))) (q.o.alloc (.cells #[.int .u64 y] 36)) d);clear b d)
   go_roundg (ab0 N - (j+1))
   exact⟨j+1,rfl,aa,af,by rw[V.o];exact S,z,H⟩;have:=M.o;omega
  .obtain rfl:j=ab0 N:=aa
   have z:=t.o;rw[bc (aD _)] at z;have q:=ax z;have y:=ax (tD g bs (u (ab0 N)) wr X.o);clear z t;go_wp21;refine Ix y.o ?_;go_wp2;refine ak ?_;exact⟨_,rfl,q.o.more aa,s⟩
def Oj(x:Int)(v:Value)(w:World)(s:jC .u64 w v [ub x])(u:-9223372036854775808<=x)(t:x<=9223372036854775807):af4 af5 195 #[.string ⟨#[110]⟩,v] w λe z=>∃v,e=.returned (.tuple #[v,af6 0])/\OwnB w.heap.size z v (nn x)/\af3 w z:=
 put_any 9 409 110 (ub x) (nn x) v w XS s rfl (λ_ _=>rfl) (λg y w h=>Aw g y x 0 [] w h u t ad)
def Ee(w:World):af4 af5 275 #[.string ⟨#[118,118,118,98]⟩] w (au w (.bool true)):=
 yA [.lv 0,.lv 0,.lv 0,.lb 0] ab w
def iZ(a b c d:Int):Nat->List Int
 | 0=>[]
 | 1=>il a
 | 2=>il a++il b
 | 3=>il a++il b++il c
 | _=>il a++il b++il c++[d]
def r9(a b c d:Int)(j:Nat):ab0 (iZ a b c d j)<=40:=by
 have z:=hM a;have y:=hM b;have x:=hM c
 match j with
 | 0=>simp[iZ]
 | 1=>simp only[iZ,aE,aK,aY];omega
 | 2=>simp only[iZ,aE,aK,aY];omega
 | 3=>simp only[iZ,aE,aK,aY];omega
 | n+4=>simp only[iZ,aE,aK,aY];omega
def Li(a b c d:Int)(v:Value)(w:World)(g:jC .u64 w v [a,b,c,d])(y:0<=a)(x:a<18446744073709551616)(u:0<=b)(t:b<18446744073709551616)(s:0<=c)(r:c<18446744073709551616)(q:0<=d)(p:d<256):af4 af5 195 #[.string ⟨#[118,118,118,98]⟩,v] w λe z=>∃v,e=.returned (.tuple #[v,af6 0])/\OwnB w.heap.size z v (iZ a b c d 4)/\af3 w z:=
 GP [.lv a,.lv b,.lv c,.lb d] ad ⟨⟨y,x⟩,⟨u,t⟩,⟨s,r⟩,⟨q,p⟩,trivial⟩ (by simp[Jf,PL.o,iZ]) g
def Ef(w:World):af4 af5 275 #[.string ⟨#[87,87,87,87,81,81,81]⟩] w (au w (.bool true)):=
 yA [.lW 0,.lW 0,.lW 0,.lW 0,.lQ 0,.lQ 0,.lQ 0] ab w
def pI(xa xb xc xd xe xf xg:Int):Nat->List Int
 | 0=>[]
 | 1=>jS 4 xa
 | 2=>jS 4 xa++jS 4 xb
 | 3=>jS 4 xa++jS 4 xb++jS 4 xc
 | 4=>jS 4 xa++jS 4 xb++jS 4 xc++jS 4 xd
 | 5=>jS 4 xa++jS 4 xb++jS 4 xc++jS 4 xd++jS 8 xe
 | 6=>jS 4 xa++jS 4 xb++jS 4 xc++jS 4 xd++jS 8 xe++jS 8 xf
 | _=>jS 4 xa++jS 4 xb++jS 4 xc++jS 4 xd++jS 8 xe++jS 8 xf++jS 8 xg
def Lj(z y x v u t s:Int)(j:Nat):ab0 (pI z y x v u t s j)<=70:=by
 have r:=ix 4 z;have q:=ix 4 y;have p:=ix 4 x;have g:=ix 4 v;have f:=ix 8 u;have d:=ix 8 t;have c:=ix 8 s
 match j with
 | 0=>simp[pI]
 | 1=>simp only[pI,aE,aK,aY];omega
 | 2=>simp only[pI,aE,aK,aY];omega
 | 3=>simp only[pI,aE,aK,aY];omega
 | 4=>simp only[pI,aE,aK,aY];omega
 | 5=>simp only[pI,aE,aK,aY];omega
 | 6=>simp only[pI,aE,aK,aY];omega
 | n+7=>simp only[pI,aE,aK,aY];omega
def Lk(z y x u t s r:Int)(v:Value)(w:World)(p:jC .u64 w v [z,y,x,u,t,s,r])(g:0<=z)(f:z<4294967296)(d:0<=y)(c:y<4294967296)(b:0<=x)(a:x<4294967296)(Y:0<=u)(X:u<4294967296)(V:0<=t)(U:t<18446744073709551616)(T:0<=s)(S:s<18446744073709551616)(R:0<=r)(Q:r<18446744073709551616):af4 af5 195 #[.string ⟨#[87,87,87,87,81,81,81]⟩,v] w λe q=>∃v,e=.returned (.tuple #[v,af6 0])/\OwnB w.heap.size q v (pI z y x u t s r 7)/\af3 w q:=
 GP [.lW z,.lW y,.lW x,.lW u,.lQ t,.lQ s,.lQ r] ad ⟨⟨g,f⟩,⟨d,c⟩,⟨b,a⟩,⟨Y,X⟩,⟨V,U⟩,⟨T,S⟩,⟨R,Q⟩,trivial⟩ (by simp[Jf,PL.o,pI]) p
open Go.RowKit Go.Lib Go.Shelf Go.Maps
def Ll{l:List Pr}(s:ji l)(z:i' l)(k:Int):0<=lA l k/\lA l k<=tot l:=by
 have x:=j_ (k:=k) z;refine⟨x,?_⟩;by_cases v:lA l k=0
 .have:=g_ z;omega
 .obtain⟨p,y,e⟩:=(nd z _).2 v
  rw[<-e,Ng s y];exact mC z p y
section
variable {x y lo hi dg u m bk bt : Nat} {gr : Bool} {l t : List Pr} {F Fy : Ft}
def Ol(w:World)(h:mE x lo hi dg u m gr bk l F w)(hy:mE y lo hi dg u m gr bt t Fy w)(ok:jn lo hi dg u m gr bk l)(s:jn lo hi dg u m gr bt t):af4 af5 103 #[aq x,aq y] w (wM (mE x lo hi dg u m gr (QH l t bk bt) (NH l t)) F (Ct l t) w):=by
 have HH:=ax h;have CX:Hid (∀z,af3 w z->_):=ax (λz v=>og (x:=x) z ((i_ x lo hi dg u m gr bk l).K h v));have CY:Hid (∀z,af3 w z->_):=ax (λz v=>og (x:=y) z ((i_ y lo hi dg u m gr bt t).K hy v));have a:Hid (Ct l t=if 4611686018427387904<tot l+tot t then 6 else 0):=ax rfl;have q:Hid (NH l t=if Ct l t=0 then iC l t else l):=ax rfl;have r:Hid (QH l t bk bt=if Ct l t=0 then max bk bt else bk):=ax rfl;obtain⟨g,b,z,Q,f,N,O,P,S⟩:=h;obtain⟨gy,c,U,T,V,_⟩:=hy;have t0:=g_ ok.pos;have t1:=g_ s.pos;have l0:=ok.len;have l1:=s.len;have s0:=ok.sum;have s1:=s.sum;have R:=ax (aB ok s);have X:=ax (aB z (aB Q (aB f (aB N (aB O (aB P S))))));have Y:=ax (aB U (aB T V));have hxg:x≠g:=by
  rintro rfl;have:=z.Y.T Q;simp at this
 have hxb:=(f.ne z).Y;have hgb:=(f.ne Q).Y;have UA:=(V.ne z).Y;have hyl:=U.lt;have⟨er,d⟩:=ar (Ct l t);rw[d] at a q r |-;have⟨L9,p⟩:=ar (NH l t);have⟨I,v⟩:=ar (QH l t bk bt);rw[p] at q |-;rw[v] at r |-;clear d p v;have d:=ax (by rw[iy];omega:ad0 .u64 (4611686018427387904 - tot l)=4611686018427387904 - tot l)
 have p:Hid (4611686018427387904<tot l+tot t<->4611686018427387904 - tot l<tot t):=ax aa;have HS:=ax (xk (A:=l) (B:=t) ok.pos s.pos);clear z Q f N O P S ok s U T V;have Bd:af3 w w.drew:=(aC _ _).drew;go_in;go_upto_region 3 with fail;refine jh (af3 w) (hQ 0 1 (hQ 2 1 (ik 1 (ik 3 (hQ 4 13 []))))) (Bd) ?_;iterate 2 refine ib (h:=λJ v=>by have k1:=(X.o.1.K v).C 1;have j1:=(Y.o.1.K v).k1;simp only[az,ay,aA] at k1;exact af8) ?_
 refine iz λK W=>?_;go_simp;refine RX (CY.o w.drew Bd) ?_;intro w3 hb3;have B3:af3 w w3:=Bd.T hb3;refine W _ _ (B3) ?_;refine iz λK W=>?_;go_simp;refine RX (CX.o w3 B3) ?_;intro S hb4;have V:af3 w S:=B3.T (hb4.M B3.size);refine W _ _ (V) ?_;iterate 13 refine ib (h:=λJ v=>by have k1:=(X.o.1.K v).C 1;have j1:=(Y.o.1.K v).k1;simp only[az,ay,aA] at k1;exact af8) ?_
 refine g4 ?_;go_upto_region 5 with fail;have f:af3 w S.drew:=V.drew;by_cases z:4611686018427387904 - tot l<tot t
 .obtain rfl:er=6:=by rw[a.o,aH (p.o.2 z)]
  obtain rfl:L9=l:=by rw[q.o];rfl
  obtain rfl:I=bk:=by rw[r.o];rfl
  clear p a q r;refine jh (af3 w) (hQ 0 11 []) (f) ?_;iterate 11 refine ib (h:=λJ v=>by have ew:=d.o;have hc':=z;have s:=(X.o.1.K v).k4;have o:=(Y.o.1.K v).k4;exact af8) ?_
  refine g4 ?_;go_wp2;go_ret;exact lh (i_ x lo hi dg u m gr I L9) HH.o rfl f
 obtain rfl:er=0:=by rw[a.o,aF (λh=>z (p.o.1 h))]
 have Jj:Hid (tot l+tot t<=4611686018427387904):=ax (aa2 p.o);obtain rfl:L9=iC l t:=by rw[q.o];rfl
 obtain rfl:I=max bk bt:=by rw[r.o];rfl
 clear p a q r;refine jh (af3 w) (hQ 0 11 []) (f) ?_;iterate 11 refine ib (h:=λJ v=>by have ew:=d.o;have hc':=z;have s:=(X.o.1.K v).k4;have o:=(Y.o.1.K v).k4;exact af8) ?_
 refine g4 ?_;clear z d;have ET:=ax (by have:=Jj.o;rw[iy];omega:ad0 .u64 (tot l+tot t)=tot l+tot t);go_upto_region 7 with fail;have d:af3 w S.drew.drew:=f.drew;refine kr (af3 w) 11 (hQ 0 11 []) (d) ?_;iterate 11 refine jG (h:=λJ v=>by have et:=ET.o;have s:=(X.o.1.K v).k4;have o:=(Y.o.1.K v).k4;exact af8) ?_
 refine hN ?_;simp only[aX,bj];have s:=(X.o.1.K d).k4;have O:=(X.o.1.K d).F 4;go_wp21;refine g6 ?_;have⟨r,a⟩:=ar ((S.setCell (af7 x 4) (.int .u64 (tot l+tot t))).drew.drew);have P:=X.o.1.K V;have q:Hid (g7 r x 206 #[aq g,.bool gr,af6 bk,.map (some b),.int .u64 (tot l+tot t)]/\ml r g lo hi dg u m/\lD r b l/\lD r c t/\Touch F w r/\r.cell? (af7 y 2)=some (af6 bt)/\r.cell? (af7 y 3)=some (.map (some c))):=ax (by
  have T:=(Y.o.1.K V).k2;have U:=(Y.o.1.K V).k3;rw[<-a];refine⟨P.hJ 4 _,(a_ S (af7 x 4) _ g (λe=>hxg e.Y)).T (g7.K X.o.2.1 V),(X.o.2.2.1.K V).stay (a_ S (af7 x 4) _ b (λe=>hxb e.Y)),(Y.o.2.2.K V).stay (a_ S (af7 x 4) _ c (λe=>UA e.Y)),(((Touch.of_below V (aD _)).setCell (p:=af7 x 4) (.inl X.o.2.2.2.1) _).drew).drew,?_,?_⟩
  .exact(bK _ _ _ _ (by intro h;injection h with _ h;omega)).T T
  .exact(bK _ _ _ _ (by intro h;injection h with _ h;omega)).T U)
 rw[a];clear a s O P d f;go_upto_region 8 with fail;have d:af3 r r.drew:=(aC _ _).drew;have T:y<r.heap.size:=by have:=q.o.2.2.2.2.1.size;omega
 refine kr (af3 r) 12 (hQ 0 12 []) (d) ?_;iterate 12 refine jG (h:=λJ v=>by have s:=(q.o.1.K v).C 2;have j2:=(v.C (p:=af7 y 2) T).T q.o.2.2.2.2.2.1;simp only[az,ay,aA] at s;exact af8) ?_
 refine hN ?_;simp only[aX,bj];have s:=(q.o.1.K d).k2;have G:=(q.o.1.K d).F 2;go_wp21;refine g6 ?_;have⟨a,U⟩:=ar ((r.setCell (af7 x 2) (af6 (max (bk:Int) (bt:Int)))).drew);have f:Hid (g7 a x 206 #[aq g,.bool gr,af6 ((max bk bt:Nat):Int),.map (some b),.int .u64 (tot l+tot t)]/\ml a g lo hi dg u m/\lD a b l/\lD a c t/\Touch F w a/\a.cell? (af7 y 3)=some (.map (some c))):=ax (by
  obtain⟨H,L,M,N,O,_,P⟩:=q.o;have e:max (bk:Int) (bt:Int)=((max bk bt:Nat):Int):=aa;rw[<-U,e];exact⟨H.hJ 2 _,(a_ r (af7 x 2) _ g (λe=>hxg e.Y)).T L,M.stay (a_ r (af7 x 2) _ b (λe=>hxb e.Y)),N.stay (a_ r (af7 x 2) _ c (λe=>UA e.Y)),(O.setCell (p:=af7 x 2) (.inl X.o.2.2.2.1) _).drew,(bK _ _ _ _ (by intro h;injection h with _ h;omega)).T P⟩)
 rw[U];clear U s G d T q;go_wp21;refine WE (yM a f.o.2.2.2.2.2 f.o.2.2.2.1 R.o.2) ?_;rintro v7 L ⟨s,T⟩;obtain⟨A7,c7,rfl,_,_,q⟩:=s.form;have HF7:=ax q;have hbl:b<a.heap.size:=f.o.2.2.1.lt;have Z7:Hid (lD L b l/\Touch F w L/\g7 L x 206 #[aq g,.bool gr,af6 ((max bk bt:Nat):Int),.map (some b),.int .u64 (tot l+tot t)]/\ml L g lo hi dg u m):=ax ⟨f.o.2.2.1.K T,tbl f.o.2.2.2.2.1 T,f.o.1.K T,g7.K f.o.2.1 T⟩;have O7:=ax s;clear s q;go_wp2;go_loopg [64] (ab0 t) (λq s wr=>∃j:Nat,q=ab0 t - j/\j<=ab0 t/\s=af6 j/\Hid (lD wr b (iC l (t.take j)))/\Hid (Touch (λk=>k=b) L wr))
 exact⟨0,rfl,aa,rfl,ax (by rw[dm,qa];exact Z7.o.1),ax (Touch.refl _ _)⟩
 case round=>
  obtain⟨j,s,hj,rfl,Yd,q⟩:=hrel;have HQ:=ax s;clear s;by_cases C:j<ab0 t
  .obtain⟨gp,off,rfl,Cu,N,O⟩:=j' HF7.o C
   have hgb':gp≠b:=λe=>by have:=(O7.o.lt gp rfl).1;omega
   have N:=(g9 q.o (off+j * 2) Cu hgb').T N;have O:=(g9 q.o (off+j * 2+1) Cu hgb').T O;have hji:(j:Int)<(ab0 t:Int):=aa;have⟨z,hz⟩:=ar (t[j].1);have⟨n,H⟩:=ar (t[j].2);rw[hz] at N;rw[H] at O;go_upto_region 12 with fail;have hmem:t[j]∈t:=aP C;have hn0:0<n:=by rw[<-H];exact R.o.2.pos _ hmem
   have hzb:0<=z/\z<=16777216:=by rw[<-hz];exact R.o.2.kb _ hmem
   have D:ji (iC l (t.take j)):=mL R.o.1.jk;have E:i' (iC l (t.take j)):=lS R.o.1.pos (λp s=>R.o.2.pos p (cm s));have hlen:ab0 (iC l (t.take j))<=1000000000:=by
    have d:=xo (t.take j) l;have s:=eS j t;omega
   have hcn:=Ll D E z;rw[lR] at hcn;have hts:=ja C;rw[H] at hts;have htl:=km R.o.2.pos (j+1);have hsm:=Jj.o;have hstep:iC l (t.take (j+1))=iu z n (iC l (t.take j)):=by rw[aM C,ym,hz,H]
   have Jt:=ax hstep;have hcb:lA (iC l (t.take j)) z+n<=4611686018427387904:=aa;have i:=Yd;have hxr:x<wr.heap.size:=by have:=q.o.size;have:=T.size;have:=f.o.1.lt;omega
   have K3:Hid (wr.cell? (af7 x 3)=some (.map (some b))):=ax (by
    have k:=Z7.o.2.2.1.k3;exact(g9 q.o 3 (aa6 T.size f.o.1.lt) hxb).T k)
   have P:Hid (g7 (wr.alloc (.cells #[af6 z,.int .u64 n] 192)) wr.heap.size 192 #[af6 z,.int .u64 n]):=ax (g7.new _ _ _);have d:af3 wr (wr.alloc (.cells #[af6 z,.int .u64 n] 192)):=bw;have⟨s,M⟩:=ar (wr.alloc (.cells #[af6 z,.int .u64 n] 192));have⟨q0,G⟩:=ar (wr.heap.size);rw[M] at P d |-;rw[G] at P |-;have EN:=ax (by rw[iy];omega:ad0 .u64 (lA (iC l (t.take j)) z+n)=lA (iC l (t.take j)) z+n)
   have U:=ax (aB D (aB E (aB hlen hcb)));clear M N O hstep hts htl hsm D E hlen hcb hcn;have⟨M,Q⟩:=ar (iC l (t.take j));rw[Q] at EN U i Jt;clear Q Yd;have O:af3 s s.drew:=(aC _ _).drew;clear G;have E:x<s.heap.size:=by have:=d.size;omega
   refine kr (af3 s) 10 (hQ 0 6 (hQ 7 2 (hQ 6 1 (hQ 9 1 [])))) (O) ?_;iterate 10 refine jG (h:=λJ v=>by have en:=EN.o;have k3:=(v.C (p:=af7 x 3) E).T ((d.C (p:=af7 x 3) hxr).T K3.o);have G:=(P.o.K v).k0;have N:=(P.o.K v).k1;have D:=((i.o.K d).K v).look (k:=z) aa  aa ;exact af8) ?_
   refine hN ?_;simp only[aX,bj];go_wp2_with (at_mapUpdate;refine X' rfl _ _ _ rfl ((i.o.K d).K O) U.o.1 U.o.2.1 U.o.2.2.1 aa  aa hn0 (aa2 U.o.2.2.2) rfl rfl rfl ?_;intro J p v)
   refine g6 ?_;go_wp2;go_roundg (ab0 t - (j+1))
   exact⟨j+1,rfl,aa,af,ax (by rw[Jt.o];exact p),ax ((q.o.T ((Touch.of_below d (aD _)).T ((Touch.of_below O (aD _)).T (ve (F:=λk=>k=b) rfl v) (λ_ h=>.inl h)) (λ_ h=>.inl h)) (λ_ h=>.inl h)))⟩;have:=HQ.o;omega
  .obtain rfl:j=ab0 t:=aa
   have d:=Yd;rw[bc (aD _)] at d;go_wp2;go_ret;obtain⟨_,U,p,s⟩:=Z7.o;have v:Touch F w wr:=U.T q.o (λk h=>by cases h;exact .inl X.o.2.2.2.2.2.1);have I:g7 wr x 206 #[aq g,.bool gr,af6 ((max bk bt:Nat):Int),.map (some b),.int .u64 (tot l+tot t)]:=(q.o.block x p.lt hxb).T p;rw[<-lR] at I;exact⟨rfl,⟨g,b,I,(q.o.block g (g7.lt s) hgb).T s,d.o,.inl X.o.2.2.2.1,.inl X.o.2.2.2.2.1,.inl X.o.2.2.2.2.2.1,jt X.o.2.2.2.2.2.2 v.size⟩,v⟩
end
def wP.stay{B:Nat}{w w':World}{g:Nat}{l:List Pr}(h:wP B w g l)(x:∀k,B<=k->k<w.heap.size->w'.heap[k]?=w.heap[k]?):wP B w' g l:=by
 obtain⟨v,t,s,u,z,y⟩:=h;exact⟨v,t,s,(x g v u.lt).T u,z.stay (λk e=>x k (z.lt k e).1 (z.lt k e).2),y.stay (λk e=>x k (y.lt k e).1 (y.lt k e).2)⟩
section
variable {x g lo hi dg u m bk : Nat} {gr : Bool} {l : List Pr}
def Hj(w:World)(s:w.cell? (af7 x 0)=some (aq g))(y:ml w g lo hi dg u m)(b:x<w.heap.size)(ok:sk lo hi dg u m):af4 af5 336 #[aq x] w (au w (af6 ((1+jg u m hi:Nat):Int))):=by
 have r:Hid (∀z,af3 w z->_):=ax (λz v=>qg (w:=z) (g7.K y v));have q:Hid (∀z,af3 w z->_):=ax (λz v=>kR (w:=z) hi (g7.K y v) ok.um (aa2 ok.h1));have f:=ax s;clear y ok s;generalize 1+jg u m hi=R at *;go_in;go_wp21;have Z:=ax (λ(t:World) (z:(af3 w) t)=>((z.C (p:=af7 x 0) b).T f.o));refine jh (af3 w) (hQ 0 8 (ik 8 (hQ 9 1 (ik 10 (hQ 11 1 []))))) ((aC _ _).drew) ?_;iterate 8 refine ib ?_
 refine iz λK z=>?_;go_simp;refine RX (r.o w.drew (aC _ _).drew) ?_;intro s d;have y:af3 w s:=(aC _ _).drew.T d;refine z _ _ (y) ?_;refine ib ?_;refine iz λK z=>?_;go_simp;refine RX (q.o s y) ?_;intro a c;have v:af3 w a:=y.T (c.M y.size);refine z _ _ (v) ?_;refine ib ?_;refine g4 ?_;go_wp2;go_ret;exact⟨rfl,v⟩
def Ju(v:Value)(w:World)(h:iQ iF w v l)(ok:jn lo hi dg u m gr bk l):af4 af5 266 #[.agg #[af6 lo,af6 hi,af6 dg],.bool gr,af6 bk,v] w λe Q=>∃x,e=.returned (.tuple #[aq x,af6 0])/\mE x lo hi dg u m gr bk l (Gr (λ_=>False) w Q) Q/\af3 w Q:=by
 have CN:Hid (∀Y,_):=ax (λY=>Jk gr Y ok.sh);have CT:Hid (∀Y,af3 w Y->_):=ax (λY V=>Od v l Y (h.K V) ok.jk ok.pos ok.sum (aa2 ok.len));obtain⟨A,c,rfl,_,_,z⟩:=h.form;have HF:=ax z;have t:=ax ok;have hlen:=ok.len;have Ye:=ok.fst;have hb64:=ok.b1;clear h z ok;have⟨b,r⟩:=ar (w.heap.size);have⟨D,z⟩:=ar (w.alloc (.cells #[af6 lo,af6 hi,af6 dg] 31));have s:=ao z;have y:=(an z r).o;obtain⟨k0,q,P⟩:=y.c3;have HB0:=ax s;clear y s;go_in;go_upto_region 1 with fail;clear z r;go_wp21;refine WE (CN.o D) ?_;rintro x Y ⟨s,z⟩;have y:=HB0.o.T (z.M HB0.o.size);have E:=ax s;have Hb1:=ax (aB z y);clear s z y k0 q P;go_wp21;refine WE (CT.o Y Hb1.o.2) ?_;rintro gt w2 ⟨a,q⟩;have HT:=ax a;have G:=ax (Hb1.o.2.T (q.M Hb1.o.2.size));obtain⟨g,f,z,y,s,d,p,r,_⟩:=(i_ x lo hi dg u m gr _ []).K E.o q;have O:w.heap.size<=x/\w.heap.size<=g/\w.heap.size<=f:=by
  have:=HB0.o.size;exact⟨bf this (d.elim False.elim And.left),bf this (p.elim False.elim And.left),bf this (r.elim False.elim And.left)⟩
 have ac6:f<Y.heap.size:=r.elim False.elim And.right;have hxg:x≠g:=by
  rintro rfl;have:=z.Y.T y;simp at this
 have H:=(s.ne z).Y;have hgb:=(s.ne y).Y;have hxl:=z.lt;have hgl:=g7.lt y;have P:=z.k2;have X:=ax (aB z (aB y s));clear z y s d p r a q;go_wp2;go_loopg [13,40] (ab0 l) (λq s i wr=>∃j r:Nat,q=ab0 l - j/\j<=ab0 l/\i=af6 j/\s=af6 r/\r<=bk/\1+jg u m hi<=r/\Hid (∀p∈l.take j,∀v:Nat,v<9223372036854775808->p.1=oJ u m v->1+jg u m v<=r)/\Hid (lD wr f (l.take j))/\Hid (Touch (λk=>k=f) w2 wr))
 exact⟨0,_,rfl,aa,rfl,rfl,Ye,aD _,ax ad,ax (by rw[dm];exact X.o.2.2),ax (Touch.refl _ _)⟩
 case round=>
  obtain⟨j,r,z,hj,rfl,rfl,hnd,ac7,HN,HC,a⟩:=hrel;have HQ:=ax z;clear z;by_cases hlt:j<ab0 l
  .obtain⟨o,C,rfl,Cu,c0,c1⟩:=j' HF.o hlt
   have hgb':o≠f:=aa;have Vt:o<w2.heap.size:=by have:=G.o.size;omega
   have c0:=(g9 a.o (C+j * 2) Vt hgb').T ((G.o.C (p:=af7 o (C+j * 2)) Cu).T c0);have c1:=(g9 a.o (C+j * 2+1) Vt hgb').T ((G.o.C (p:=af7 o (C+j * 2+1)) Cu).T c1);have hji:(j:Int)<(ab0 l:Int):=aa;have hmem:l[j]∈l:=aP hlt;obtain⟨y,hvv,hix,hbv⟩:=t.o.key _ hmem;have hn0:0<l[j].2:=t.o.pos _ hmem;have hnt:=mC t.o.pos _ hmem;have hns:=t.o.sum;have Mq:Hid (l.take (j+1)=l.take j++[l[j]]):=ax (aM hlt);have z:∀p∈l.take j,p.1<l[j].1:=λp q=>by
    obtain⟨i,hi,rfl⟩:=List.mem_take_iff_getElem.1 q;exact ck.1 t.o.jk i j aa hlt aa
   have E:Hid (l[j]=(l[j].1,l[j].2)):=ax rfl;have hxk:=NG t.o.sh hvv;rw[hix] at c0 z E;generalize l[j].2=n at *;rw[E.o] at Mq;have T:lA (l.take j) (oJ u m y)=0:=mN (λp q=>by have:=z p q;omega);have U:iu (oJ u m y) n (l.take j)=l.take (j+1):=by rw[Mq.o,yw z]
   have Vu:=ax (aB T U);have d:ji (l.take j):=t.o.jk.sublist (List.take_sublist j l);have s:i' (l.take j):=λp q=>t.o.pos p (cm q);have HSP:=ax (aB d s);clear z E T U d s;have hjl:ab0 (l.take j)<=1000000000:=by rw[aU];omega
   go_upto_region 11 with fail;have⟨q0,d⟩:=ar (wr.heap.size);have⟨z,s⟩:=ar (wr.alloc (.cells #[af6 (oJ u m y),.int .u64 n] 192));have J:=an s d;have R:=ao s;rw[s,d];clear s d;have hz2:=a.o.size;have U:Hid (z.cell? (af7 x 0)=some (aq g)/\z.cell? (af7 x 3)=some (.map (some f))/\ml z g lo hi dg u m/\lD z f (l.take j)):=ax (by
    have d:=X.o.1.k0;have s:=X.o.1.k3;exact⟨(R.C (p:=af7 x 0) (by show x<_;omega)).T ((g9 a.o 0 hxl H).T d),(R.C (p:=af7 x 3) (by show x<_;omega)).T ((g9 a.o 3 hxl H).T s),g7.K ((a.o.block g hgl hgb).T X.o.2.1) R,HC.o.K R⟩)
   have L:x<z.heap.size:=by have:=R.size;omega
   have CV:Hid (∀d,af3 z d->_):=ax (λd V=>G' (w:=d) y (g7.K U.o.2.2.1 V) t.o.sh.um t.o.sh.mb.1 t.o.sh.mb.2 hvv);have hlw:Mo u m y<9223372036854775808:=eY (Nk u m y) hvv;have CB:Hid (∀d,af3 z d->_):=ax (λd V=>kR (w:=d) (Mo u m y) (g7.K U.o.2.2.1 V) t.o.sh.um hlw);rw[UZ t.o.sh.mb.1 aa] at CB;have W:af3 z z.drew:=(aC _ _).drew;have Lm:Hid (∀p∈l.take (j+1),∀v:Nat,v<9223372036854775808->p.1=oJ u m v->1+jg u m v<=max r (1+jg u m y)):=ax (λp q v hv e=>by
    rw[Mq.o] at q;rcases cz.1 q with q|q
    .have:=HN.o p q v hv e;omega
    .obtain rfl:p=((oJ u m y:Int),n):=by simpa using q
     have s:oJ u m y=oJ u m v:=by have:((oJ u m y:Nat):Int)=oJ u m v:=e;omega
     have N:=Nj (u:=u) (m:=m) (v:=y) t.o.sh.mb.1 aa;have e2:=Nj (u:=u) (m:=m) (v:=v) t.o.sh.mb.1 aa;rw[s,e2] at N;have:=(gY.1 N).1;simp only at this;omega)
   generalize oJ u m y=I at *;generalize Mo u m y=V at *;generalize jg u m y=B at *;refine jh (af3 z) (hQ 0 6 (ik 6 (hQ 7 5 []))) (W) ?_;iterate 6 refine ib (h:=λQ s=>by have k0:=(s.C (p:=af7 x 0) L).T U.o.1;have S:=(J.o.K s).k0;exact af8) ?_
   refine iz λK hK=>?_;go_simp;refine RX (CV.o z.drew W) ?_;intro d hb3;have T:af3 z d:=W.T hb3;refine hK _ _ (T) ?_;clear hK K;iterate 5 refine ib (h:=λQ s=>by have k0:=(s.C (p:=af7 x 0) L).T U.o.1;have S:=(J.o.K s).k0;exact af8) ?_
   refine g4 ?_;have k0:=(T.C (p:=af7 x 0) L).T U.o.1;go_wp21;refine RX (CB.o d T) ?_;intro w4 hb4;have B4:af3 z w4:=T.T (hb4.M T.size);go_upto_region 15 with fail;have M:af3 z w4.drew:=B4.drew;refine kr (af3 z) 8 (hQ 0 8 []) (M) ?_;iterate 8 refine jG (h:=λQ s=>by have k3:=(s.C (p:=af7 x 3) L).T U.o.2.1;have S:=(J.o.K s).k0;have p1:=(J.o.K s).k1;exact af8) ?_
   refine hN ?_;simp only[aX,bj];have hcn:lA (l.take j) (I:Int)+n=n:=by have:=Vu.o.1;omega
   go_wp2_with (at_mapUpdate;refine X' rfl _ _ _ rfl (U.o.2.2.2.K M) HSP.o.1 HSP.o.2 hjl (k:=(I:Int)) (n:=n) aa  aa hn0 aa rfl rfl (by rw[hcn];rfl) ?_;intro w8 C8 s)
   refine g6 ?_;go_wp2;go_roundg (ab0 l - (j+1))
   exact⟨j+1,max r (1+B),rfl,aa,af,by rw[show max (r:Int) (1+(B:Int))=((max r (1+B):Nat):Int) by omega],aa,aa,Lm,ax (by rw[<-Vu.o.2];exact C8),ax (a.o.T ((Touch.of_below R (aD _)).T ((Touch.of_below M (aD _)).T (ve (F:=λk=>k=f) rfl s) (λ_ h=>.inl h)) (λ_ h=>.inl h)) (λ_ h=>.inl h))⟩;have:=HQ.o;omega
  .obtain rfl:j=ab0 l:=aa
   have F:=HC;rw[bc (aD _)] at F HN;clear HC;have n:r=bk:=by
    rcases t.o.mx with e|⟨p,q,v,hv,N,e2⟩
    .omega
    .have:=HN.o p q v hv N;omega
   subst n;have hz2:=a.o.size;have y:Hid (g7 wr x 206 #[aq g,.bool gr,af6 ((1+jg u m hi:Nat):Int),.map (some f),.int .u64 (tot [])]/\ml wr g lo hi dg u m):=ax ⟨(a.o.block x hxl H).T X.o.1,(a.o.block g hgl hgb).T X.o.2.1⟩;have I:Hid (wP Y.heap.size wr gt l):=ax (HT.o.stay (λk T V=>a.o.block k V aa));have J:=ax (Hj (x:=x) wr (by have k:=y.o.1.C 0;simpa only[az,ay] using k) y.o.2 aa t.o.sh);have o:gr=false->r=1+jg u m hi:=t.o.U9;generalize 1+jg u m hi=R at *;have L:Hid (∀s:World,af3 wr s->∀W:World,W=(s.setCell (af7 x 2) (af6 r)).setCell (af7 x 4) (.int .u64 (tot l))->mE x lo hi dg u m gr r l (Gr (λ_=>False) w W) W/\af3 w W):=ax (λs z W d=>by
    have M:af3 w wr:=G.o.T (a.o.below (λk B=>by cases B;exact O.2.2) G.o.size);have C:af3 w W:=by rw[d];exact((M.T (z.M M.size)).setCell (p:=af7 x 2) O.1 _).setCell (p:=af7 x 4) O.1 _
    have N:g7 W x 206 #[aq g,.bool gr,af6 r,.map (some f),.int .u64 (tot l)]:=by rw[d];exact((y.o.1.K z).hJ 2 _).hJ 4 _
    have S:ml W g lo hi dg u m:=by rw[d];exact(a_ _ (af7 x 4) _ g (λe=>hxg e.Y)).T ((a_ _ (af7 x 2) _ g (λe=>hxg e.Y)).T (g7.K y.o.2 z))
    have U:lD W f l:=(F.o.K z).stay (by rw[d];exact(a_ _ (af7 x 4) _ f (λe=>H e.Y)).T (a_ _ (af7 x 2) _ f (λe=>H e.Y)));exact⟨⟨g,f,N,S,U,.inr ⟨O.1,N.lt⟩,.inr ⟨O.2.1,g7.lt S⟩,.inr ⟨O.2.2,U.lt⟩,λk h=>h.elim False.elim And.right⟩,C⟩)
   by_cases M:R<r
   .obtain rfl:gr=true:=by
     cases gr
     .have:=o rfl;omega
     .rfl
    have N:(R:Int)<(r:Int):=aa;go_wp21;refine RX J.o ?_;intro s z;go_wp21;refine Ix (wg s (I.o.K z)) ?_;have P:=(y.o.1.K z).k2;have d:=(y.o.1.K z).k4;have S:=(y.o.1.K z).F 2;have U:=(y.o.1.K z).F 4;go_wp2;go_ret2;obtain⟨T,V⟩:=L.o s z _ rfl;exact⟨x,rfl,T,V⟩
   .have N:¬(R:Int)<(r:Int):=aa
    go_wp21;refine RX J.o ?_
    intro s z;go_wp21;refine Ix (wg s (I.o.K z)) ?_;have P:=(y.o.1.K z).k2;have d:=(y.o.1.K z).k4;have S:=(y.o.1.K z).F 2;have U:=(y.o.1.K z).F 4;go_wp2;go_ret2;obtain⟨T,V⟩:=L.o s z _ rfl;exact⟨x,rfl,T,V⟩
end
variable{l:List Pr}{bk dg hi j lo m u:Nat}{gr:Bool}
def Sq(g:Nat)(w w':World):Prop:=∀k T cs,g7 w k T cs->T≠5->k≠g->g7 w' k T cs
def xw(x:Int)(g t:Nat)(f:List Int)(w:World)(h:Wr 37 t w g f)(J:-9223372036854775808<=x)(I:x<=9223372036854775807)(B:ab0 f<=1000000000000):af4 af5 355 #[af6 x,aq g] w λe Y=>e=.returned (.tuple #[])/\Wr 37 t Y g (f++nn x)/\Below t w Y/\Sq g w Y:=by
 have A:=h.lt;have H:=ax h;have O:Hid (∀(v:Value) (p:World),jC .u64 p v [ub x]->_):=ax (λv p z=>Oj x v p z J I);have M:Hid (ad0 .u64 x=ub x):=ax rfl;have j:=sS x;clear h;generalize nn x=N at *;generalize ub x=u at *;have q:=M.o;go_in;go_wp21;refine WE (O.o _ _ (jC.ig _ _ _ _ _ rfl)) ?_;rintro o p ⟨r,c⟩;have F:Below t w (w.alloc (.cells #[.int .u64 u] 36)):=(aC _ _).alloc aa _;have R:Below t w p:=F.T (c.M ae);obtain⟨Q,n,z,s⟩:=(H.o.K ((aC w.heap.size w).alloc (aD _) (.cells #[.int .u64 u] 36))).K c;have K:=ax r;have y:=ax (aB z (aB Q s));have b:=z.k0;clear q z s r;have l:=R.size;go_wp2_with (at_builtin;refine oM uI rfl (.tmp 12) (.tmp 13) rfl (hY.1 y.o.2.2) rfl _ N rfl (hY.1 K.o).rd aa  aa ?_;intro W X a r _;have U:=ax (lV (i:=0) y.o.1 (hY.1 y.o.2.2) ab r a);have V:=iG y.o.1 (hY.1 y.o.2.2) ab r;have L:Hid (∀k T s,g7 w k T s->T≠5->g7 X k T s):=ax (λk T s q d=>iG ((g7.alloc q (.cells #[.int .u64 u] 36)).K c) (hY.1 y.o.2.2) d r);have G:Below t w X:=R.grown r aa (λk q=>(g8.lt (hY.1 y.o.2.2) k q).1);have b:=V.k0;have C:=V.F 0;obtain⟨E,D,S,_,_,_⟩:=a.form;have⟨m,P⟩:=ar (ab0 (f++N));rw[P] at S;subst S;clear P a r)
 refine ct (v:=.tuple #[]) (by simp[results,Tryz.results355,go_sem, *];try rfl) rfl ?_;exact⟨rfl,⟨Q,_,U.o.1,hY.2 U.o.2⟩,G.setCell aa _,λk T s q d z=>(a_ X (af7 g 0) _ k z).T (L.o k T s q d)⟩
def QZ(n:Int)(g q z:Nat)(y:List Int)(w:World)(h:Wr 37 z w g y)(U:w.cell? (af7 q 0)=some (.func (.func 355) #[] #[aq g]))(X:-9223372036854775808<n)(V:n<=9223372036854775807)(p:ab0 y<=1000000000000):af4 af5 356 #[af6 n,aq q] w λe r=>e=.returned (.tuple #[])/\Wr 37 z r g (y++lj (nE n))/\Below z w r/\Sq g w r:=by
 have H:=ax h;have d:=ax (xw 0 g z y w h aa  aa p);have c:=ax (xw (-n) g z y w h aa  aa p);clear h;by_cases x:n=1
 .subst x
  have e:lj (nE 1)=nn 0:=ai;rw[e];go_in;go_wp21;refine RX d.o ?_;rintro a ⟨u,t,s⟩;go_wp21;refine ct (v:=.tuple #[]) (by simp[results,Tryz.results356,go_sem, *];try rfl) rfl ?_;exact⟨rfl,u,t,s⟩
 .have T:(n == 1)=false:=by simpa using x
  by_cases f:1<n
  .have e:lj (nE n)=nn (-n):=by
    unfold nE;rw[aF x,aH f];simp[lj]
   have b:Hid (ad0 .i64 (-n)=-n):=ax ah;have Y:=b.o;rw[e];go_in;go_wp21;refine RX c.o ?_;rintro a ⟨u,t,s⟩;go_wp21;refine ct (v:=.tuple #[]) (by simp[results,Tryz.results356,go_sem, *];try rfl) rfl ?_;exact⟨rfl,u,t,s⟩
  .have e:lj (nE n)=[]:=by
    unfold nE;rw[aF x,aF f];rfl
   rw[e,bP];go_in;go_wp21;refine ct (v:=.tuple #[]) (by simp[results,Tryz.results356,go_sem, *];try rfl) rfl ?_;exact⟨rfl,H.o,aC _ _,λ_ _ _ h _ _=>h⟩
def yN:∀(l:List Pr) (a:Int) (p:Pr),v_ a (l++[p])=v_ a l++(nE (p.1 - py a l)++[p.2])
 | [],_,_=>by simp[v_,py]
 | q::l,a,p=>by rw[bG,v_,yN l,v_,py,aN];rfl
def vj:∀(l:List Pr) (a:Int) (p:Pr),py a (l++[p])=p.1+1
 | [],_,_=>rfl
 | q::l,a,p=>by rw[bG,py,vj l]
def Jv(h:∀p∈l,0<=p.1/\p.1<=16777216):∀(a:Int),0<=a->a<=16777217->0<=py a l/\py a l<=16777217:=by
 induction l with
 | nil=>intro a z y;exact⟨z,y⟩
 | cons p l ih=>
  intro a z y;have:=h p (aJ ..);exact ih (λq x=>h q (aQ _ x)) _ aa  aa
def Hk(v:Value)(w:World)(h:iQ iF w v l)(ok:jn lo hi dg u m gr bk l):af4 af5 277 #[v] w λe F=>∃z,e=.returned z/\OwnB w.heap.size F z (lB l)/\af3 w F:=by
 obtain⟨A,c,rfl,_,_,z⟩:=h.form;have B:=ax z;have PB:=ax ok.pb;have hlen:=ok.len;have k:=ax ok.kb;clear h z ok;go_in;go_wp21;have⟨g,z⟩:=ar (w.heap.size);have⟨f,y⟩:=ar ((w.alloc (.cells #[.slice none 0 0] 37)).alloc (.cells #[.func (.func 355) #[] #[.pointer (some (af7 (w.heap.size) 0))]] 452));have M:Hid (Wr 37 w.heap.size f g []):=by rw[<-y,<-z];exact ax ((Wr.new _ w w.heap.size (aD _)).K ((aC _ _).alloc (aD _) _))
 have h:Hid (g7 f (g+1) 452 #[.func (.func 355) #[] #[aq g]]):=by
  rw[<-y,<-z];have:=g7.new (w.alloc (.cells #[.slice none 0 0] 37)) 452 #[.func (.func 355) #[] #[.pointer (some (af7 (w.heap.size) 0))]];rw[aI] at this;exact ax this
 have J:af3 w f:=by rw[<-y];exact bw
 rw[y,z];clear y;go_loopg [6,13] (ab0 l) (λq s i wr=>∃j:Nat,q=ab0 l - j/\j<=ab0 l/\i=af6 j/\s=af6 (py 0 (l.take j))/\Hid (Wr 37 g wr g (lj (v_ 0 (l.take j))))/\Hid (g7 wr (g+1) 452 #[.func (.func 355) #[] #[aq g]])/\Below g w wr)
 exact⟨0,rfl,aa,rfl,rfl,by rw[dm];rw[z] at M;exact M,h,by subst z;exact J⟩
 case round=>
  obtain⟨j,y,hj,rfl,rfl,d,S,r⟩:=hrel;have o:=ax y;have hz:=r.size;clear y;by_cases T:j<ab0 l
  .obtain⟨L,H,rfl,I,b,a⟩:=j' B.o T
   have K:af3 w wr:=by subst z;exact r
   have b:=(K.C (p:=af7 L (H+j * 2)) I).T b;have a:=(K.C (p:=af7 L (H+j * 2+1)) I).T a;have hji:(j:Int)<(ab0 l:Int):=aa;have hbd:=PB.o _ (aP T);have hed:=Jv (l:=l.take j) (λp y=>k.o p (cm y)) 0 aa  aa;have hnl:=tM (v_ 0 (l.take j));have hnm:=xp (l.take j) 0;have htl:ab0 (l.take j)<=16777217:=by rw[aU];omega
   have R:Hid (lj (v_ 0 (l.take (j+1)))=lj (v_ 0 (l.take j))++lj (nE (l[j].1 - py 0 (l.take j)))++nn l[j].2/\py 0 (l.take (j+1))=l[j].1+1):=ax (by
    rw[aM T,yN,vj,lC,lC,aN];refine⟨?_,rfl⟩
    congr 2
    simp[lj])
   generalize l[j].1=x at *;generalize l[j].2=n at *;generalize py 0 (l.take j)=s at *;generalize lj (v_ 0 (l.take j))=p at *;have C:Hid (ad0 .i64 (x - s)=x - s/\wrap64 n=n/\ad0 .i64 (x+1)=x+1):=ax ⟨ah,by unfold wrap64;omega,ah⟩;have hgl:=DI (x - s);have uS:=tM (nE (x - s));have D:Hid (∀y,Wr 37 g y g p->y.cell? (af7 (g+1) 0)=some (.func (.func 355) #[] #[aq g])->_):=ax (λy t q=>QZ (x - s) g (g+1) g p y t q aa  aa  aa);have E:Hid (∀y,Wr 37 g y g (p++lj (nE (x - s)))->_):=ax (λy t=>xw n g g (p++lj (nE (x - s))) y t aa  aa (by rw[aE];omega));go_upto_region 8 with fail;have⟨X,Y⟩:=ar (wr.heap.size);have⟨q,t⟩:=ar (wr.alloc (.cells #[af6 x,.int .u64 n] 192));have O:=an t Y;have U:=ao t;rw[t,Y];have hgq:g<X:=by have:=d.o.lt;omega
   clear t Y b a;have WP:=ax (d.o.K U);have P:=ax (S.o.K U);have t:=P.o.k0;have Y:=O.o.k0;obtain⟨e1,e2,e3⟩:=C.o;go_wp21;refine RX (D.o q WP.o t) ?_;rintro y ⟨a,hb3,b⟩;have Q:=ax (b _ _ _ P.o ab aa);have N:=ax (b _ _ _ O.o ab aa);have W:=ax a;clear a b t Y;have t:=Q.o.k0;have G:=N.o.k1;go_wp21;refine RX (E.o y W.o) ?_;rintro w4 ⟨a,V,b⟩;have P4:=ax (b _ _ _ Q.o ab aa);have Q4:=ax (b _ _ _ N.o ab aa);have i:=ax a;clear a b t G;have Y:=Q4.o.k0;go_wp2;go_roundg (ab0 l - (j+1))
   exact⟨j+1,rfl,aa,af,by rw[R.o.2],by rw[R.o.1];exact i,P4,((r.T (U.M aa)).T hb3).T V⟩;have:=o.o;omega
  .obtain rfl:j=ab0 l:=aa
   have s:=d;rw[bc (aD _)] at s;clear d;by_cases q:ab0 l=0
   .have e:l=[]:=aV q
    subst e;have Y:=ax (xw 0 g g [] wr s.o aa  aa ad);have t:=S.o.k0;go_wp21;refine RX Y.o ?_;rintro w4 ⟨a,V,b⟩;obtain⟨_,X,y,x⟩:=a;have p:=y.k0;go_wp2;go_ret;exact⟨_,rfl,by rw[z];simpa[lB,As,lj] using x,by subst z;exact r.T V⟩
   .have U:((ab0 l:Int) == 0)=false:=by simpa using q
    obtain⟨_,X,y,x⟩:=s.o;have p:=y.k0;have Y:=ax x;clear y x;go_wp2;go_ret;have y:l≠[]:=λe=>q (by rw[e];rfl);exact⟨_,rfl,by rw[z];unfold lB As;rw[aF y];exact Y.o,by subst z;exact r⟩
def jC.Jw(t:TypeId)(k:IntKind)(w:World)(l:List Int)(z:Array Value)(x:z=(l.map (Value.int k)).toArray)(n:Nat)(v:n=ab0 l)(s:ab0 l<=100)(H:Nat)(h:w.heap.size=H):jC k (w.alloc (.cells z t)) (.slice (some (af7 H 0)) n n) l:=by
 subst x v h;refine⟨ad,_,ab0 l,rfl,aD _,by unfold maxLen;omega,λy=>⟨w.heap.size,0,rfl,ad,λj u=>?_⟩⟩;rw[cG];have y:(w.alloc (.cells (l.map (Value.int k)).toArray t)).heap[w.heap.size]?=some (.cells (l.map (Value.int k)).toArray t (0,0)):=(g7.new w t (l.map (Value.int k)).toArray);rw[cell_of_row _ _ _ _ _ _ y];simp
def Eg(ok:sk lo hi dg u m)(z:bk<=64):iv u m hi bk<=9223372036854775807:=by
 have:=ok.h1;unfold iv;split
 .exact ok.h1
 .unfold oC
  split
  .exact aD _
  .rename_i h
   have y:2 ^ (bk - 1+u+m)<=2 ^ 62:=lY aa;omega
def Eh{x:Nat}{F:Ft}(w:World)(h:mE x lo hi dg u m gr bk l F w)(ok:jn lo hi dg u m gr bk l):af4 af5 196 #[aq x] w λe g=>∃v,e=.returned (.tuple #[v,af6 0])/\OwnB w.heap.size g v (hwB lo (iv u m hi bk) dg l)/\af3 w g:=by
 have S:=i_ x lo hi dg u m gr bk l;have B:=ax (og w h);have A:Hid (∀y,af3 w y->_):=ax (λy z=>D' y (S.K h z) ok);have j:Hid (∀(v:Value) (y:World),iQ iF y v l->_):=ax (λv y t=>Hk v y t ok);have o:Hid (∀y,af3 w y->_):=ax (λy z=>NY y (S.K h z) ok.sh ok.b0 ok.b1);have hrb:=Eg ok.sh ok.b1 (bk:=bk);have hcl:=mY l;have hll:=ok.len;have hlo:lo<=9223372036854775807:=by have:=ok.sh.h0;have:=ok.sh.h1;omega
 have hdg:=ok.sh.d1;have z:Hid (hwB lo (iv u m hi bk) dg l=pI 478450451 (ab0 (lB l)) 0 dg lo (iv u m hi bk) 4607182418800017408 7++lB l):=ax rfl;rw[z.o];clear z S h ok;generalize iv u m hi bk=R at *;generalize lB l=X at *;have⟨N,z⟩:=ar (ab0 X);have P:=ax z;rw[z] at hcl |-;have n:Hid (∀(v:Value) (y:World),jC .u64 y v [478450451,(N:Int),0,(dg:Int),(lo:Int),(R:Int),4607182418800017408]->_):=ax (λv y t=>Lk 478450451 N 0 dg lo R 4607182418800017408 v y t aa  aa  aa  aa  aa  aa  aa  aa  aa  aa  aa  aa  aa  aa)
 have V:Hid (ad0 .u64 (N:Int)=(N:Int)/\ad0 .u64 (dg:Int)=(dg:Int)/\ad0 .u64 (lo:Int)=(lo:Int)/\ad0 .u64 (R:Int)=(R:Int)):=ax ⟨by rw[iy];omega,by rw[iy];omega,by rw[iy];omega,by rw[iy];omega⟩;have Om:=Lj 478450451 N 0 dg lo R 4607182418800017408 7;generalize pI 478450451 N 0 dg lo R 4607182418800017408 7=OP at *;clear z;go_in;go_wp21;refine RX B.o ?_;intro y U;go_wp21;refine WE (A.o y U) ?_;rintro v2 w2 ⟨v,hb2⟩;have T:=U.T (hb2.M U.size);go_wp21;refine WE (j.o v2 w2 v.rd) ?_;rintro v3 c ⟨z,hb3⟩;have S:=T.T (hb3.M T.size);have W:=ax z;obtain⟨A3,c3,G,_,_,_⟩:=(hO.rd z).form;rw[P.o] at G;subst G;clear v z;go_upto_region 4 with fail;have⟨b4,q⟩:=ar (c.heap.size);have⟨v,t⟩:=ar (c.alloc (.cells #[af6 lo,af6 hi,af6 dg] 31));have s:=an t q;have z:=ao t;have r:af3 w v:=S.T (z.M S.size);have i:=ax (hO.K W.o z);rw[t,q];clear t q z;have b:af3 v v.drew:=(aC _ _).drew;refine jh (af3 v) (hQ 0 10 (ik 10 (hQ 11 1 (ik 12 (ik 13 (hQ 14 5 [])))))) (b) ?_;iterate 10 refine ib (h:=λg t=>by have q:=(s.o.K t).C 0;have p:=(s.o.K t).k2;simp only[az,ay,aA] at q;obtain⟨L,J,I,H⟩:=V.o;exact af8) ?_
 refine iz λK z=>?_;go_simp;refine RX (o.o v.drew (r.T (b.M r.size))) ?_;intro f hb5;have d:af3 v f:=b.T hb5;refine z _ _ (d) ?_;refine ib (h:=λg t=>by have q:=(s.o.K t).C 0;have p:=(s.o.K t).k2;simp only[az,ay,aA] at q;obtain⟨L,J,I,H⟩:=V.o;exact af8) ?_;refine iz λK z=>?_;go_simp;have a:af3 v (f.alloc (.cells #[.int .u64 478450451,.int .u64 N,.int .u64 0,.int .u64 dg,.int .u64 lo,.int .u64 R,.int .u64 4607182418800017408] 36)):=d.alloc d.size _;refine z _ _ (a) ?_;refine iz λK z=>?_;go_simp;refine WE (n.o _ _ (jC.Jw 36 .u64 f [478450451,(N:Int),0,(dg:Int),(lo:Int),(R:Int),4607182418800017408] _ rfl 7 rfl ad _ rfl)) ?_;rintro v7 D ⟨Q,E⟩;have M:=ax Q;have Y:af3 v D:=a.T (E.M a.size);clear Q;refine z _ _ (Y) ?_;iterate 5 refine ib (h:=λg t=>by have q:=(s.o.K t).C 0;have p:=(s.o.K t).k2;simp only[az,ay,aA] at q;obtain⟨L,J,I,H⟩:=V.o;exact af8) ?_
 refine g4 ?_;have O47:=ax (hO.K i.o Y);have Q:=r.T (Y.M r.size);have hop:ab0 OP+ab0 X<=1099511627776:=by have:=P.o;omega
 have t:=M.o;rw[aI] at t;have O:=ax t;have IZ:w.heap.size<=f.heap.size+1:=by have:=r.size;have:=d.size;omega
 have Sn:f.heap.size+1<=D.heap.size:=by have:=E.size;rw[aI] at this;exact this
 clear t M;go_wp2_with (at_builtin;refine oM uI rfl (.tmp 35) (.tmp 36) rfl (hY.1 O.o) rfl _ X rfl (hY.1 O47.o).rd hop Sn ?_;intro v8 w8 M t _;have O8:=ax (hY.2 (M.more IZ));have C:af3 w w8:=Q.grown t Q.size (λk hk=>by have:=(g8.lt (hY.1 O.o) k hk).1;omega);clear M t)
 go_ret2;exact⟨_,rfl,O8.o,C⟩
def pJ(w:World):af4 af5 333 #[.bool true] w λe z=>e=.returned (.tuple #[])/\w=z:=by
 go_in;go_wp21;refine ct (v:=.tuple #[]) (by simp[results,Tryz.results333,go_sem, *];try rfl) rfl ?_;exact⟨rfl,rfl⟩
def Tx{l:List Int}(h:j<ab0 l):(lj l).drop (ab0 (lj (l.take j)))=nn l[j]++(lj l).drop (ab0 (lj (l.take (j+1)))):=by
 have z:lj l=lj (l.take j)++(nn l[j]++lj (l.drop (j+1))):=by
  conv=>lhs;rw[<-bL j l,lC,b_ h]
  rfl
 have y:lj l=lj (l.take (j+1))++lj (l.drop (j+1)):=by rw[<-lC,bL]
 rw[show(lj l).drop (ab0 (lj (l.take (j+1))))=lj (l.drop (j+1)) by rw[y,dA]]
 conv=>lhs;rw[z,dA]
def BV{l:List Int}(h:j<ab0 l):ab0 (lj (l.take (j+1)))=ab0 (lj (l.take j))+ab0 (nn l[j]):=by
 rw[aM h,lC,aE];simp[lj]
def st_len:∀(l:List Int) (s:Int × List Pr),ab0 (l.foldl rS s).2<=ab0 s.2+ab0 l
 | [],_=>by simp
 | n::l,s=>by
  have z:=st_len l (rS s n);have y:ab0 (rS s n).2<=ab0 s.2+1:=by unfold rS;(repeat' split)<;>simp
  rw[fM,aK];omega
def Ln(M:Nat)(v:Value)(w:World)(h:jC .u8 w v (lB l))(ok:jn lo hi dg u m gr bk l)(x:∀p∈l,p.1<(M:Int))(hM0:1<=M)(hM1:M<=100000000):af4 af5 334 #[v,af6 M] w λe f=>∃z,e=.returned z/\g8 iF w.heap.size f z l/\af3 w f:=by
 have hcl:=mY l;have hll:=ok.len;have K:=ax (q_ v (lB l) w h aa);have y:=QJ (M:=(M:Int)) ok.jk ok.pos (λp Y=>⟨(ok.kb p Y).1,x p Y⟩) aa;have H:=ax y;have HBD:=ax (NK ok.pb);have z:Hid (lB l=lj (As l)):=ax rfl;have hnl:=Jd l;rw[z.o] at K hcl;clear h ok x y z;generalize As l=y at *;have C:ab0 (lj y)<=1000000000000:=aa;go_in;go_wp21;refine WE K.o ?_;rintro g w1 ⟨hg,z,hb1⟩;have HR:=ax z;clear z;go_wp2;go_loopg [6,7] (ab0 y) (λq b s wr=>∃j:Nat,q=ab0 y - j/\j<=ab0 y/\s=af6 (((y.take j).foldl rS (0,[])).1)/\Hid (g8 iF (g+1) wr b ((y.take j).foldl rS (0,[])).2)/\Hid (hT wr g (lj y) (ab0 (lj (y.take j))))/\af3 w wr)
 exact⟨0,rfl,aa,rfl,ax (g8.nil_ _ _),HR,hb1⟩
 case round=>
  obtain⟨j,z,hj,rfl,p,P,N⟩:=hrel;have Q:=ax z;clear z;have X:=ax (mA g (lj y) _ wr P.o C);by_cases U:j<ab0 y
  .have I:=ax (Tx U)
   have HLN:=ax (BV U);have s:=ax (Td U (0,[]));have r:=H.o.2 (j+1);have D:=st_len (y.take j) (0,[]);have htj:=eS j y;have A:=KH (y.take j);have hbd:=HBD.o _ (aP U);have ac8:=sS y[j];have hle:=(GS P.o);have ac9:ab0 (lj (y.take j))+ab0 (nn y[j])<=ab0 (lj y):=by
    have z:=bu List.length I.o;rw[aW,aE,aW] at z;omega
   rw[s.o] at r;generalize y[j]=n at *;have J:Hid (∀d,hT d g (lj y) (ab0 (lj (y.take j)))->_):=ax (λd z=>Lh (x:=n) d z C I.o aa  aa);rw[<-HLN.o] at J;have⟨L,c⟩:=ar ((y.take j).foldl rS (0,[]));rw[c] at p s A r D |-;obtain⟨t,q⟩:=L;simp only[aY] at p A r D |-;obtain⟨i,c5,F,_,_,_⟩:=p.o.form;have⟨n5,B⟩:=ar (ab0 q);rw[B] at F;subst F;have hL0:(0:Int)<(ab0 (lj y):Int) - (ab0 (lj (y.take j)):Int):=aa
   have h:Hid (wrap64 (ub n)=n):=ax (oG aa  aa);clear c;go_wp21;refine RX X.o ?_;rintro f ⟨nq,rfl⟩;go_wp21;refine RX (J.o _ (P.o.drewN nq)) ?_;rintro d ⟨T,z⟩;have V:=ax T;have b:af3 w d:=(below_drewN N nq).T (z.below (λk a=>by omega) N.size);have c:Hid (g8 iF (g+1) d (.slice i n5 c5) q):=ax (p.o.stay (λk a=>z.block k (p.o.lt k a).2 (λe=>by have:=(p.o.lt k a).1;omega)));clear T z;have S:=λw=>ax (pJ w);have ew:=h.o;by_cases T:n<0
   .have z:rS (t,q) n=(t - n,q):=by unfold rS;rw[aH T]
    rw[z] at s r;simp only at r;have R:Hid (ad0 .i64 (-n)=-n/\ad0 .i64 ((M:Int) - t)=(M:Int) - t/\ad0 .i64 (t+-n)=t - n):=ax ⟨ah,ah,ah⟩;have hc1:0 < -n:=aa;have E:-n<=(M:Int) - t:=aa;clear z;go_wp2_with (go_at_call 333;refine Ix (S _).o ?_;obtain⟨e1,O,G⟩:=R.o)
    go_roundg (ab0 y - (j+1))
    exact⟨j+1,rfl,aa,by rw[s.o],by rw[s.o];exact c,V,b⟩;have:=Q.o;omega
   .have hc1:t<(M:Int):=by
     unfold rS at r;rw[aF T] at r;split at r<;>simp only at r<;>omega
    have R:Hid (ad0 .i64 (t+1)=t+1):=ax ah;have e1:=R.o;by_cases Y:0<n
    .have z:rS (t,q) n=(t+1,q++[(t,n)]):=by unfold rS;rw[aF T,aH Y]
     rw[z] at s;have O:ub n=n:=by unfold ub;omega
     have WO:=ax O;have hlen5:ab0 q+1<=1099511627776:=aa;have hzg:g+1<=d.heap.size:=by have:=V.o.lt;omega
     clear z O r B;go_wp2_with (first|(go_at_call 333;refine Ix (S _).o ?_)|(at_builtin;refine oM oB rfl (.tmp 50) (.tmp 54) rfl (c.o.alloc _) rfl _ [(t,ub n)] rfl (iQ.ig (E:=iF) _ (t,ub n) _ rfl _ rfl _ ad) hlen5 (by simp only[aI];omega) ?_;intro v6 W o O _;have G:=ax o;have hb6:af3 w W:=(b.alloc b.size (.cells #[af6 t,.int .u64 (ub n)] 192)).grown O (by simp only[aI];have:=b.size;omega) (λk a=>by have:=(c.o.lt k a).1;omega);have R6:Hid (hT W g (lj y) (ab0 (lj (y.take (j+1))))):=ax (vd (V.o.K ((aC _ _).alloc (aD _) (.cells #[af6 t,.int .u64 (ub n)] 192))) (c.o.alloc (.cells #[af6 t,.int .u64 (ub n)] 192)) O);clear o O))
     go_roundg (ab0 y - (j+1))
     exact⟨j+1,rfl,aa,by rw[s.o],by rw[s.o];rw[WO.o] at G;exact G,R6,hb6⟩;have:=Q.o;omega
    .have z:rS (t,q) n=(t+1,q):=by unfold rS;rw[aF T,aF Y]
     rw[z] at s;clear z r;go_wp2_with (go_at_call 333;refine Ix (S _).o ?_)
     go_roundg (ab0 y - (j+1))
     exact⟨j+1,rfl,aa,by rw[s.o],by rw[s.o];exact c,V,b⟩;have:=Q.o;omega
  .obtain rfl:j=ab0 y:=aa
   have z:=p.o;rw[bc (aD _)] at X z;rw[H.o.1] at z;have x:=ax z;have t:(ab0 (lj y):Int) - (ab0 (lj y):Int)=0:=aa;rw[t] at X;clear z p;go_wp21;refine RX X.o ?_;rintro f ⟨nq,rfl⟩;go_wp2;go_ret;exact⟨_,rfl,g8.more (g8.drewN x.o nq) aa,below_drewN N nq⟩
