/- Parts. -/
import Derived.Test.YtdicblkhpcphfaaGreatPU28
set_option maxRecDepth 100000
set_option maxHeartbeats 0
set_option linter.all false
namespace Go.Proofs.YtdicblkhpcphfaaGreat
open Tryz Go.RowKit Go.Lib Go.Shelf
open _root_.List renaming length→ab0
open Go.IntKind renaming wrap→ad0
open _root_.Go renaming Calls→af4
open Tryz renaming prog→af5
namespace D
section
variable {R : Nat -> World -> Prop}
def Ib(v:Value)(u:List Int)(w:World)(q:jC .u8 w v u)(f:ab0 u<=1000000000000)(s:∀y x z,af3 w z->w.heap.size<=y->g7 z y 124 #[.int .u8 1,.pointer none,.pointer none,.pointer none,.pointer none]->jC .u8 z x u->af4 af5 181 #[aq y,x] z λe x=>e=.returned (af6 0)/\R y x/\Touch (λj=>j=y) z x)
 (r:∀y z,R y z->af4 af5 54 #[aq y] z λe x=>∃v,e=.returned v/\OwnB z.heap.size x v u/\af3 z x)
 (t:∀y z x,R y z->af3 z x->R y x) :
 af4 af5 101 #[.int .u8 1,v] w λe x=>∃y,e=.returned (.tuple #[aq y,af6 0])/\R y x/\af3 w x:=by
 have I:=ax s;have H:=ax r;have d:=ax t;have a:=ax q;clear s r t q;have M:=ax (oe 1 w ab  ab);have⟨b,r⟩:=ar (w.heap.size);go_in;go_wp21;refine Ix M.o ?_;have⟨y,s⟩:=ar (w.alloc (.cells #[.int .u8 1,.pointer none,.pointer none,.pointer none,.pointer none] 124));have t:=ao s;have C:=an s r;have J:=ax r;go_upto_region 4 with fail;try rw[s]
 clear s r;have T:w.heap.size<=b:=by have:=J.o;omega
 have E:Touch (λj=>j=b) y y.drew:=(Touch.refl _ y).drew;have O:af3 y y.drew:=(aC _ _).drew;refine jh (Touch (λj=>j=b) y) (hQ 1 2 (hQ 5 2 (ik 0 (hQ 3 2 (ik 7 (ik 8 (hQ 9 1 []))))))) (E) ?_;iterate 4 refine ib (h:=λx U=>by skip;exact af8) ?_
 refine iz λK z=>?_;go_simp;refine RX (ox y.drew) ?_;intro r m;have s:af3 y r:=O.T m;have D:Touch (λj=>j=b) y r:=Touch.of_below s (aD _);have B:af3 w r:=t.T (s.M t.size);unfold mkV;have q:=ax (tC v u r (a.o.K B) f);refine z _ _ (D) ?_;iterate 2 refine ib (h:=λx U=>by skip;exact af8) ?_
 refine iz λK z=>?_;go_simp;refine WE q.o ?_;rintro W wc ⟨c,l⟩;have g:af3 y wc:=s.T (l.M s.size);have X:Touch (λj=>j=b) y wc:=Touch.of_below g (aD _);have A:af3 w wc:=t.T (g.M t.size);have p:=ax (I.o b W wc A T (C.o.K g) c.rd);clear c;refine z _ _ (X) ?_;refine iz λK z=>?_;go_simp;refine RX p.o ?_;rintro wt ⟨o,n⟩;have V:Touch (λj=>j=b) y wt:=X.T n (λ_ h=>.inl h);have c:=ax o;have Y:=ax (t.T (V.below (λj S=>by rw[show j=b from S];exact T) t.size));refine z _ _ (V) ?_;refine ib (h:=λx U=>by skip;exact af8) ?_;refine g4 ?_;have L:=ax (H.o b wt c.o);have j:=Y.o.size;clear p q;go_wp21;refine WE L.o ?_;rintro Q q ⟨S,U⟩;have p:=ax (Y.o.T (U.M j));have G:=ax (d.o _ _ _ c.o U);have N:Hid (af4 af5 170 #[Q,v] q λe x=>e=.returned (.bool true)/\af3 q x):=ax ((lJ Q v u u q S.rd (a.o.K p.o) f f).M (λe x h=>⟨by rw[h.1];simp,h.2⟩));clear S;go_wp21;refine RX N.o ?_;intro i S;have P:=ax (p.o.T (S.M p.o.size));have F:=ax (d.o _ _ _ G.o S);go_wp2;refine ak ?_;exact⟨_,rfl,F.o,P.o⟩
def Ic(v:Value)(u:List Int)(w:World)(q:jC .u8 w v u)(f:ab0 u<=1000000000000)(s:∀y x z,af3 w z->w.heap.size<=y->g7 z y 124 #[.int .u8 2,.pointer none,.pointer none,.pointer none,.pointer none]->jC .u8 z x u->af4 af5 183 #[aq y,x] z λe x=>e=.returned (af6 0)/\R y x/\Touch (λj=>j=y) z x)
 (r:∀y z,R y z->af4 af5 54 #[aq y] z λe x=>∃v,e=.returned v/\OwnB z.heap.size x v u/\af3 z x)
 (t:∀y z x,R y z->af3 z x->R y x) :
 af4 af5 101 #[.int .u8 2,v] w λe x=>∃y,e=.returned (.tuple #[aq y,af6 0])/\R y x/\af3 w x:=by
 have I:=ax s;have H:=ax r;have d:=ax t;have a:=ax q;clear s r t q;have M:=ax (oe 2 w ab  ab);have⟨b,r⟩:=ar (w.heap.size);go_in;go_wp21;refine Ix M.o ?_;have⟨y,s⟩:=ar (w.alloc (.cells #[.int .u8 2,.pointer none,.pointer none,.pointer none,.pointer none] 124));have t:=ao s;have C:=an s r;have J:=ax r;go_upto_region 4 with fail;try rw[s]
 clear s r;have T:w.heap.size<=b:=by have:=J.o;omega
 have E:Touch (λj=>j=b) y y.drew:=(Touch.refl _ y).drew;have O:af3 y y.drew:=(aC _ _).drew;refine jh (Touch (λj=>j=b) y) (hQ 1 2 (hQ 5 2 (ik 0 (hQ 3 2 (ik 7 (ik 8 (hQ 9 1 []))))))) (E) ?_;iterate 4 refine ib (h:=λx U=>by skip;exact af8) ?_
 refine iz λK z=>?_;go_simp;refine RX (ox y.drew) ?_;intro r m;have s:af3 y r:=O.T m;have D:Touch (λj=>j=b) y r:=Touch.of_below s (aD _);have B:af3 w r:=t.T (s.M t.size);unfold mkV;have q:=ax (tC v u r (a.o.K B) f);refine z _ _ (D) ?_;iterate 2 refine ib (h:=λx U=>by skip;exact af8) ?_
 refine iz λK z=>?_;go_simp;refine WE q.o ?_;rintro W wc ⟨c,l⟩;have g:af3 y wc:=s.T (l.M s.size);have X:Touch (λj=>j=b) y wc:=Touch.of_below g (aD _);have A:af3 w wc:=t.T (g.M t.size);have p:=ax (I.o b W wc A T (C.o.K g) c.rd);clear c;refine z _ _ (X) ?_;refine iz λK z=>?_;go_simp;refine RX p.o ?_;rintro wt ⟨o,n⟩;have V:Touch (λj=>j=b) y wt:=X.T n (λ_ h=>.inl h);have c:=ax o;have Y:=ax (t.T (V.below (λj S=>by rw[show j=b from S];exact T) t.size));refine z _ _ (V) ?_;refine ib (h:=λx U=>by skip;exact af8) ?_;refine g4 ?_;have L:=ax (H.o b wt c.o);have j:=Y.o.size;clear p q;go_wp21;refine WE L.o ?_;rintro Q q ⟨S,U⟩;have p:=ax (Y.o.T (U.M j));have G:=ax (d.o _ _ _ c.o U);have N:Hid (af4 af5 170 #[Q,v] q λe x=>e=.returned (.bool true)/\af3 q x):=ax ((lJ Q v u u q S.rd (a.o.K p.o) f f).M (λe x h=>⟨by rw[h.1];simp,h.2⟩));clear S;go_wp21;refine RX N.o ?_;intro i S;have P:=ax (p.o.T (S.M p.o.size));have F:=ax (d.o _ _ _ G.o S);go_wp2;refine ak ?_;exact⟨_,rfl,F.o,P.o⟩
def Ie(v:Value)(u:List Int)(w:World)(q:jC .u8 w v u)(f:ab0 u<=1000000000000)(s:∀y x z,af3 w z->w.heap.size<=y->g7 z y 124 #[.int .u8 3,.pointer none,.pointer none,.pointer none,.pointer none]->jC .u8 z x u->af4 af5 185 #[aq y,x] z λe x=>e=.returned (af6 0)/\R y x/\Touch (λj=>j=y) z x)
 (r:∀y z,R y z->af4 af5 54 #[aq y] z λe x=>∃v,e=.returned v/\OwnB z.heap.size x v u/\af3 z x)
 (t:∀y z x,R y z->af3 z x->R y x) :
 af4 af5 101 #[.int .u8 3,v] w λe x=>∃y,e=.returned (.tuple #[aq y,af6 0])/\R y x/\af3 w x:=by
 have I:=ax s;have H:=ax r;have d:=ax t;have a:=ax q;clear s r t q;have M:=ax (oe 3 w ab  ab);have⟨b,r⟩:=ar (w.heap.size);go_in;go_wp21;refine Ix M.o ?_;have⟨y,s⟩:=ar (w.alloc (.cells #[.int .u8 3,.pointer none,.pointer none,.pointer none,.pointer none] 124));have t:=ao s;have C:=an s r;have J:=ax r;go_upto_region 4 with fail;try rw[s]
 clear s r;have T:w.heap.size<=b:=by have:=J.o;omega
 have E:Touch (λj=>j=b) y y.drew:=(Touch.refl _ y).drew;have O:af3 y y.drew:=(aC _ _).drew;refine jh (Touch (λj=>j=b) y) (hQ 1 2 (hQ 5 2 (ik 0 (hQ 3 2 (ik 7 (ik 8 (hQ 9 1 []))))))) (E) ?_;iterate 4 refine ib (h:=λx U=>by skip;exact af8) ?_
 refine iz λK z=>?_;go_simp;refine RX (ox y.drew) ?_;intro r m;have s:af3 y r:=O.T m;have D:Touch (λj=>j=b) y r:=Touch.of_below s (aD _);have B:af3 w r:=t.T (s.M t.size);unfold mkV;have q:=ax (tC v u r (a.o.K B) f);refine z _ _ (D) ?_;iterate 2 refine ib (h:=λx U=>by skip;exact af8) ?_
 refine iz λK z=>?_;go_simp;refine WE q.o ?_;rintro W wc ⟨c,l⟩;have g:af3 y wc:=s.T (l.M s.size);have X:Touch (λj=>j=b) y wc:=Touch.of_below g (aD _);have A:af3 w wc:=t.T (g.M t.size);have p:=ax (I.o b W wc A T (C.o.K g) c.rd);clear c;refine z _ _ (X) ?_;refine iz λK z=>?_;go_simp;refine RX p.o ?_;rintro wt ⟨o,n⟩;have V:Touch (λj=>j=b) y wt:=X.T n (λ_ h=>.inl h);have c:=ax o;have Y:=ax (t.T (V.below (λj S=>by rw[show j=b from S];exact T) t.size));refine z _ _ (V) ?_;refine ib (h:=λx U=>by skip;exact af8) ?_;refine g4 ?_;have L:=ax (H.o b wt c.o);have j:=Y.o.size;clear p q;go_wp21;refine WE L.o ?_;rintro Q q ⟨S,U⟩;have p:=ax (Y.o.T (U.M j));have G:=ax (d.o _ _ _ c.o U);have N:Hid (af4 af5 170 #[Q,v] q λe x=>e=.returned (.bool true)/\af3 q x):=ax ((lJ Q v u u q S.rd (a.o.K p.o) f f).M (λe x h=>⟨by rw[h.1];simp,h.2⟩));clear S;go_wp21;refine RX N.o ?_;intro i S;have P:=ax (p.o.T (S.M p.o.size));have F:=ax (d.o _ _ _ G.o S);go_wp2;refine ak ?_;exact⟨_,rfl,F.o,P.o⟩
def Ig(v:Value)(u:List Int)(w:World)(q:jC .u8 w v u)(f:ab0 u<=1000000000000)(s:∀y x z,af3 w z->w.heap.size<=y->g7 z y 124 #[.int .u8 4,.pointer none,.pointer none,.pointer none,.pointer none]->jC .u8 z x u->af4 af5 187 #[aq y,x] z λe x=>e=.returned (af6 0)/\R y x/\Touch (λj=>j=y) z x)
 (r:∀y z,R y z->af4 af5 54 #[aq y] z λe x=>∃v,e=.returned v/\OwnB z.heap.size x v u/\af3 z x)
 (t:∀y z x,R y z->af3 z x->R y x) :
 af4 af5 101 #[.int .u8 4,v] w λe x=>∃y,e=.returned (.tuple #[aq y,af6 0])/\R y x/\af3 w x:=by
 have I:=ax s;have H:=ax r;have d:=ax t;have a:=ax q;clear s r t q;have M:=ax (oe 4 w ab  ab);have⟨b,r⟩:=ar (w.heap.size);go_in;go_wp21;refine Ix M.o ?_;have⟨y,s⟩:=ar (w.alloc (.cells #[.int .u8 4,.pointer none,.pointer none,.pointer none,.pointer none] 124));have t:=ao s;have C:=an s r;have J:=ax r;go_upto_region 4 with fail;try rw[s]
 clear s r;have T:w.heap.size<=b:=by have:=J.o;omega
 have E:Touch (λj=>j=b) y y.drew:=(Touch.refl _ y).drew;have O:af3 y y.drew:=(aC _ _).drew;refine jh (Touch (λj=>j=b) y) (hQ 1 2 (hQ 5 2 (ik 0 (hQ 3 2 (ik 7 (ik 8 (hQ 9 1 []))))))) (E) ?_;iterate 4 refine ib (h:=λx U=>by skip;exact af8) ?_
 refine iz λK z=>?_;go_simp;refine RX (ox y.drew) ?_;intro r m;have s:af3 y r:=O.T m;have D:Touch (λj=>j=b) y r:=Touch.of_below s (aD _);have B:af3 w r:=t.T (s.M t.size);unfold mkV;have q:=ax (tC v u r (a.o.K B) f);refine z _ _ (D) ?_;iterate 2 refine ib (h:=λx U=>by skip;exact af8) ?_
 refine iz λK z=>?_;go_simp;refine WE q.o ?_;rintro W wc ⟨c,l⟩;have g:af3 y wc:=s.T (l.M s.size);have X:Touch (λj=>j=b) y wc:=Touch.of_below g (aD _);have A:af3 w wc:=t.T (g.M t.size);have p:=ax (I.o b W wc A T (C.o.K g) c.rd);clear c;refine z _ _ (X) ?_;refine iz λK z=>?_;go_simp;refine RX p.o ?_;rintro wt ⟨o,n⟩;have V:Touch (λj=>j=b) y wt:=X.T n (λ_ h=>.inl h);have c:=ax o;have Y:=ax (t.T (V.below (λj S=>by rw[show j=b from S];exact T) t.size));refine z _ _ (V) ?_;refine ib (h:=λx U=>by skip;exact af8) ?_;refine g4 ?_;have L:=ax (H.o b wt c.o);have j:=Y.o.size;clear p q;go_wp21;refine WE L.o ?_;rintro Q q ⟨S,U⟩;have p:=ax (Y.o.T (U.M j));have G:=ax (d.o _ _ _ c.o U);have N:Hid (af4 af5 170 #[Q,v] q λe x=>e=.returned (.bool true)/\af3 q x):=ax ((lJ Q v u u q S.rd (a.o.K p.o) f f).M (λe x h=>⟨by rw[h.1];simp,h.2⟩));clear S;go_wp21;refine RX N.o ?_;intro i S;have P:=ax (p.o.T (S.M p.o.size));have F:=ax (d.o _ _ _ G.o S);go_wp2;refine ak ?_;exact⟨_,rfl,F.o,P.o⟩
end
variable{sp:ie}{c:Js}{x y:Nat}{w':World}{F:Ft}
def ie.kd:ie->Int
 | .h ..=>1
 | .d ..=>2
 | .t ..=>3
 | .k ..=>4
def mJ{i:Nat}{cs:Array Value}{w0 w1:World}{e:Ending}(h:qf y i cs (λp w'=>∃x G,p=jw x/\rq sp c x G w'/\∀k,G k->w1.heap.size<=k) w1 e w')(r:∀x,cs.setIfInBounds i (jw x)=sp.five x)(b:y<w1.heap.size)(f:w0.heap.size<=y):e=.returned (af6 0)/\(∃F,jq sp c y F w'/\∀k,F k->w0.heap.size<=k)/\Touch (λj=>j=y) w1 w':=by
 obtain⟨rfl,p,a,⟨x,G,rfl,t,u⟩,d,v,q,g⟩:=h;rw[r] at v;have I:=(jL sp c x).far t q (λk z e=>by have:=u k z;rw[show k=y from e] at this;omega);refine⟨rfl,⟨λk=>k=y\/G k,⟨x,G,v,I,.inl rfl,λs=>by have:=u y s;omega,λk z=>.inr z,λk z=>z.elim (λe=>by rw[e];exact v.lt) ((jL sp c x).low I k)⟩,λk z=>z.elim (λe=>by rw[e];exact f) (λh=>by have:=u k h;omega)⟩,g⟩
def lk{w:World}(h:∃F,jq sp c y F w'/\∀k,F k->w.heap.size<=k):jq sp c y (Gr (λ_=>False) w w') w':=by
 obtain⟨F,x,v⟩:=h;exact(ju sp c y).more x (λk z=>.inr ⟨v k z,(ju sp c y).low x k z⟩) (λk z=>z.elim False.elim And.right)
def Cg(w:World)(ok:jR sp):af4 af5 46 #[sp.v] w λe z=>∃x,e=.returned (.tuple #[aq x,af6 0])/\jq sp sp.new x (Gr (λ_=>False) w z) z/\af3 w z:=by
 have U:∀y v,(∃F,jq sp sp.new y F v/\∀k,F k->w.heap.size<=k)->af4 af5 53 #[aq y] v λe z=>e=.returned sp.v/\af3 v z:=λy v ⟨F,h,_⟩=>Cf v h (pf ok);have g:∀y v z,(∃F,jq sp sp.new y F v/\∀k,F k->w.heap.size<=k)->af3 v z->(∃F,jq sp sp.new y F z/\∀k,F k->w.heap.size<=k):=λy v z ⟨F,h,s⟩ V=>⟨F,(ju sp _ y).K h V,s⟩;cases sp with
 | h lo hi dg u m gr=>
  refine(si (.inl ⟨rfl,rfl⟩) w (λy v V X f=>?_) U g).M (λe z ⟨x,r,s,b⟩=>⟨x,r,lk s,b⟩);refine(DS f (Q:=λp z=>∃x G,p=jw x/\rq (.h lo hi dg u m gr) (ie.h lo hi dg u m gr).new x G z/\∀k,G k->v.heap.size<=k) (λc Y=>?_)).M (λe z h=>mJ h (λx=>rfl) f.lt X);refine WE (Jk gr c ok) ?_;rintro x z ⟨r,s⟩;exact⟨x,rfl,⟨x,_,rfl,r,λk g=>g.elim False.elim (λh=>bf Y.size h.1)⟩,s⟩
 | d a m=>
  refine(si (.inr (.inl ⟨rfl,rfl⟩)) w (λy v V X f=>?_) U g).M (λe z ⟨x,r,s,b⟩=>⟨x,r,lk s,b⟩);refine(GY f (Q:=λp z=>∃x G,p=jw x/\rq (.d a m) (ie.d a m).new x G z/\∀k,G k->v.heap.size<=k) (λc Y=>?_)).M (λe z h=>mJ h (λx=>rfl) f.lt X);refine WE (NB a m c ok.1 ok.2.1 ok.2.2.1 ok.2.2.2) ?_;rintro x z ⟨r,s⟩;exact⟨x,rfl,⟨x,_,rfl,r,λk g=>g.elim False.elim (λh=>bf Y.size h.1)⟩,s⟩
 | t d=>
  refine(si (.inr (.inr (.inl ⟨rfl,rfl⟩))) w (λy v V X f=>?_) U g).M (λe z ⟨x,r,s,b⟩=>⟨x,r,lk s,b⟩);refine(yG f (Q:=λp z=>∃x G,p=jw x/\rq (.t d) (ie.t d).new x G z/\∀k,G k->v.heap.size<=k) (λc Y=>?_)).M (λe z h=>mJ h (λx=>rfl) f.lt X);refine WE (Bs d c (aa2 ok.1) (aa2 ok.2)) ?_;rintro x z ⟨q,r,s⟩;exact⟨x,rfl,⟨x,λk=>k=x,rfl,r,λk g=>by rw[show k=x from g];exact bf Y.size q⟩,s⟩
 | k q=>
  refine(si (.inr (.inr (.inr ⟨rfl,rfl⟩))) w (λy v V X f=>?_) U g).M (λe z ⟨x,r,s,b⟩=>⟨x,r,lk s,b⟩);refine(DR f (Q:=λp z=>∃x G,p=jw x/\rq (.k q) (ie.k q).new x G z/\∀k,G k->v.heap.size<=k) (λc Y=>?_)).M (λe z h=>mJ h (λx=>rfl) f.lt X);refine(K.new_any q c ok.1 ok.2).M ?_;rintro e z ⟨rfl,rfl⟩;exact⟨_,rfl,⟨_,_,rfl,K.Rf q c,λk g=>by rw[show k=c.heap.size from g];exact Y.size⟩,bw⟩
def th.rd{d:Nat}{s:St}(h:th d s):∃k,Fit d s k/\k<=65536:=by
 rcases h.big with x|rfl
 .exact⟨_,h.fit,aa⟩
 .have z:=h.fit.d0
  have y:=h.fit.d1;exact⟨0,⟨St.II d aa,aa,by simp[St.zero,Go.Proofs.YtdicblkhpcphfaaGreat.tot],z,y⟩,aa⟩
def pN.right{q:Nat}{L:K.LL}{led:Nat}(h:pN q L led):K.jB q L led:=K.L8 h.fit h.q0 h.q1 h.emp
def Pv(ok:im sp c):ab0 (qM sp c)<=1000000000:=by
 cases sp with
 | h lo hi dg u m gr=>
  show(hjB lo hi dg (iv u m hi c.bk) gr c.l).length<=_
  unfold hjB;rw[aE];have z:=r9 lo hi dg (Ei gr) 4;have y:=rT lo (iv u m hi c.bk) dg c.l;have x:=mY c.l;have v:=jn.len ok;omega
 | d a m=>
  show(n_ a m (hZ m c.l).1 (hZ m c.l).2).length<=_
  unfold n_;rw[aE];have z:=tQ a m (ab0 (hZ m c.l).1) (hZ m c.l).2;have y:=tP (hZ m c.l).1 (ab0 (hZ m c.l).1);have x:=(kG.cut ok).2.2.1;have v:=kG.m1 ok;omega
 | t d=>exact JN (aa6 (th.fit ok).ok.len (th.fit ok).d1)
 | k q=>exact(pN.right ok).len_
def RJ(v:Value)(w:World)(h:jC .u8 w v (qM sp c))(ok:im sp c):af4 af5 101 #[.int .u8 sp.kd,v] w λe z=>∃x,e=.returned (.tuple #[aq x,af6 0])/\jq sp c x (Gr (λ_=>False) w z) z/\af3 w z:=by
 have R:∀y s,(∃F,jq sp c y F s/\∀k,F k->w.heap.size<=k)->af4 af5 54 #[aq y] s λe z=>∃v,e=.returned v/\OwnB s.heap.size z v (qM sp c)/\af3 s z:=λy s ⟨F,h,_⟩=>xC s h ok;have b:∀y s z,(∃F,jq sp c y F s/\∀k,F k->w.heap.size<=k)->af3 s z->(∃F,jq sp c y F z/\∀k,F k->w.heap.size<=k):=λy s z ⟨F,h,r⟩ T=>⟨F,(ju sp _ y).K h T,r⟩;have O:=Pv ok;have S:ab0 (qM sp c)<=1000000000000:=aa;cases sp with
 | h lo hi dg u m gr=>
  refine(Ib v _ w h S (λy U s T V Y X=>?_) R b).M (λe z ⟨x,g,r,f⟩=>⟨x,g,lk r,f⟩);refine RX (Ek U s Y X ok) ?_;rintro z ⟨x,g,r,f⟩;have q:=Y.lt;exact⟨rfl,⟨λk=>k=y\/Gr (λ_=>False) s z k,⟨x,_,g,r,.inl rfl,λt=>t.elim False.elim (λh=>by omega),λk b=>.inr b,λk b=>b.elim (λe=>by rw[e];exact g.lt) (λt=>t.elim False.elim And.right)⟩,
   λk b=>b.elim (λe=>by rw[e];exact V) (λt=>t.elim False.elim (λh=>bf T.size h.1))⟩,f⟩
 | d a m=>
  refine(Ic v _ w h S (λy U s T V Y X=>?_) R b).M (λe z ⟨x,g,r,f⟩=>⟨x,g,lk r,f⟩);refine(GX Y (Q:=λp z=>∃x G,p=jw x/\rq (.d a m) c x G z/\∀k,G k->s.heap.size<=k) ?_).M (λe z h=>mJ h (λx=>rfl) Y.lt V);refine WE (KT U s X ok) ?_;rintro x z ⟨g,r⟩;exact⟨x,rfl,⟨x,_,rfl,g,λk b=>b.elim False.elim And.left⟩,r⟩
 | t d=>
  refine(Ie v _ w h S (λy U s T V Y X=>?_) R b).M (λe z ⟨x,g,r,f⟩=>⟨x,g,lk r,f⟩);refine(yF Y (Q:=λp z=>∃x G,p=jw x/\rq (.t d) c x G z/\∀k,G k->s.heap.size<=k) ?_).M (λe z h=>mJ h (λx=>rfl) Y.lt V);obtain⟨k,q,P⟩:=th.rd ok;refine(Ui U s X q P).M ?_;rintro e z ⟨x,F,rfl,g,r,f⟩;exact⟨x,rfl,⟨x,F,rfl,g,r⟩,f⟩
 | k q=>
  refine(Ig v _ w h S (λy U s T V Y X=>?_) R b).M (λe z ⟨x,g,r,f⟩=>⟨x,g,lk r,f⟩);refine(DQ Y (Q:=λp z=>∃x G,p=jw x/\rq (.k q) c x G z/\∀k,G k->s.heap.size<=k) ?_).M (λe z h=>mJ h (λx=>rfl) Y.lt V);refine(K.LY U s X (pN.right ok) (pN.bd ok)).M ?_;rintro e z ⟨x,F,rfl,g,r,f⟩;exact⟨x,rfl,⟨x,F,rfl,g,r⟩,f⟩
def RK(z u1 u2 u3 u4 u5 u6:Value)(w:World):(Instr.field 33 (.agg #[z,u1,u2,u3,u4,u5,u6]) 0).run prog w=.ok z w:=by kernel_rfl
def qw(w:World)(t:Int)(s:t=sp.kd)(u1 u2 u3 u4 u5 u6:Value)(q:sp.v=.agg #[.int .u8 t,u1,u2,u3,u4,u5,u6])(h:jq sp c x F w)(ok:im sp c):af4 af5 43 #[aq x] w λe r=>∃y,e=.returned (aq y)/\jq sp c y (Gr (λ_=>False) w r) r/\af3 w r:=by
 have u:=Cf w h ok;rw[q] at u;have u:=ax u;have g:Hid (∀z,af3 w z->_):=ax (λz v=>xC z ((ju sp c x).K h v) ok);have f:Hid (∀(v:Value) (z:World),jC .u8 z v (qM sp c)->af4 af5 101 #[.int .u8 t,v] z _):=ax (λv z p=>by rw[s];exact RJ v z p ok);clear h ok q s;have V:=RK (.int .u8 t) u1 u2 u3 u4 u5 u6;go_in;go_wp21;refine RX u.o ?_;intro z s;have v:=ax s;clear s;go_wp21;refine WE (g.o z v.o) ?_;rintro Y X ⟨p,q⟩;have s:=ax (v.o.T (q.M v.o.size));have d:=ax (f.o Y X p.rd);clear q p;go_wp21;refine WE d.o ?_;rintro y U ⟨p,q⟩;have a:=ax p;have b:=ax (s.o.T (q.M s.o.size));clear p q;go_wp2;go_ret;exact⟨y,rfl,lk ⟨_,a.o,λk q=>q.elim False.elim (λh=>bf s.o.size h.1)⟩,b.o⟩
def L_(w:World)(h:jq sp c x F w)(ok:im sp c):af4 af5 43 #[aq x] w λe z=>∃y,e=.returned (aq y)/\jq sp c y (Gr (λ_=>False) w z) z/\af3 w z:=by
 cases sp with
 | h lo hi dg u m gr=>exact qw w _ rfl _ _ _ _ _ _ rfl h ok
 | d a m=>exact qw w _ rfl _ _ _ _ _ _ rfl h ok
 | t d=>exact qw w _ rfl _ _ _ _ _ _ rfl h ok
 | k q=>exact qw w _ rfl _ _ _ _ _ _ rfl h ok
abbrev We(sp:ie):Js->Nat->Ft->World->Prop:=λc p=>jq sp c p
def mh(sp:ie):∀c p,kK (We sp c p):=λc p=>ju sp c p
structure jN(sp:ie)(now a0:Nat)(C:List Js)(v:Value)(ps:List Nat)(Ow:Nat->Ft)(G:Ft)(x:Nat)(w:World):Prop where
 blk:g7 w x 96 (sp.cs++[v,af6 a0,.int .u64 now]).toArray
 ring:RingAt 46 (We sp) C v ps Ow G w
 at0:a0<ab0 C
 n60:ab0 C<=60
 o:¬G x
def jf(sp:ie)(s:Wn)(x:Nat)(F:Ft)(w:World):Prop:=∃a0 C v ps Ow G,jN sp s.now a0 C v ps Ow G x w/\s.L=xB sp.new a0 C/\F x/\(∀k,G k->F k)/\∀k,F k->k<w.heap.size
section
variable {sp : ie} {now a0 x : Nat} {C : List Js} {v : Value} {ps : List Nat} {Ow : Nat -> Ft} {G F : Ft} {w w' : World} {s : Wn}
def jN.stay(h:jN sp now a0 C v ps Ow G x w)(y:w'.heap[x]?=w.heap[x]?)(z:∀k,G k->w'.heap[k]?=w.heap[k]?)(u:w.heap.size<=w'.heap.size):jN sp now a0 C v ps Ow G x w':=
 ⟨y.T h.blk,h.ring.stay (mh sp) z u,h.at0,h.n60,h.o⟩
def jN.K(h:jN sp now a0 C v ps Ow G x w)(z:af3 w w'):jN sp now a0 C v ps Ow G x w':=h.stay (z.block x h.blk.lt) (λk y=>z.block k (h.ring.low k y)) z.size
def jy(sp:ie)(s:Wn)(x:Nat):kK (jf sp s x) where
 stay:=λ⟨a0,C,v,ps,Ow,G,u,t,z,y,r⟩ q p=>⟨a0,C,v,ps,Ow,G,u.stay (q x z) (λk e=>q k (y k e)) p,t,z,y,λk h=>aG (r k h) p⟩
 more:=λ⟨a0,C,v,ps,Ow,G,u,t,z,y,_⟩ h q=>⟨a0,C,v,ps,Ow,G,u,t,h x z,λk e=>h k (y k e),q⟩
 low:=λ⟨_,_,_,_,_,_,_,_,_,_,r⟩=>r
def jN.pos(h:jN sp now a0 C v ps Ow G x w):0<ab0 C:=by have:=h.at0;omega
def jN.c7(h:jN sp now a0 C v ps Ow G x w):w.cell? (af7 x 7)=some v:=by have:=h.blk.C 7;revert this;cases sp<;>exact id
def jN.c8(h:jN sp now a0 C v ps Ow G x w):w.cell? (af7 x 8)=some (af6 a0):=by have:=h.blk.C 8;revert this;cases sp<;>exact id
def jN.c9(h:jN sp now a0 C v ps Ow G x w):w.cell? (af7 x 9)=some (.int .u64 now):=by have:=h.blk.C 9;revert this;cases sp<;>exact id
def JP(w:World)(h:jN sp now a0 C v ps Ow G x w):af4 af5 33 #[aq x] w λe w'=>e=.returned (.int .u64 now)/\w=w':=by
 have z:=h.c9;clear h;go_in;go_wp2;go_ret;exact⟨rfl,rfl⟩
def RM{a:Nat}(z:a0<ab0 C)(y:a<ab0 C):((a0:Int)+(ab0 C:Int) - (a:Int)) % (ab0 C:Int)=((ow a0 (ab0 C) a:Nat):Int):=by
 unfold ow;rw[Int.natCast_emod]
 congr 1
 omega
def Ma(a:Nat)(w:World)(h:jN sp now a0 C v ps Ow G x w)(y:a<ab0 C):af4 af5 102 #[aq x,af6 a] w (au w (af6 (ow a0 (ab0 C) a:Nat))):=by
 have z:=ax (RM h.at0 y);have s:=h.at0;have r:=h.n60;have u:=h.c7;have t:=h.c8;obtain⟨g,c,rfl,_⟩:=h.ring.pos h.pos;clear h;go_in;go_wp21
 go_quiet (fail)
 go_wp2;go_ret;refine⟨?_,bw⟩;show Ending.returned (af6 (((a0:Int)+(ab0 C:Int) - (a:Int)) % (ab0 C:Int)))=_
 rw[z.o]
def pQ(a:Nat)(w:World)(h:jN sp now a0 C v ps Ow G x w)(f:a<ab0 C):af4 af5 44 #[aq x,af6 a] w (au w (.pointer (some ⟨ps.getD (ow a0 (ab0 C) a) 0,0,none⟩))):=by
 have q:=ax (Ma a w.drew (h.K (aC _ _).drew) f);have z:=h.c7;obtain⟨g,c,rfl,d,Y,X,_,_,s⟩:=h.ring.pos h.pos;have r:=qv (a0:=a0) (a:=a) h.pos;have t:w.cell? ⟨g,ow a0 (ab0 C) a,none⟩=some (.pointer (some ⟨ps.getD (ow a0 (ab0 C) a) 0,0,none⟩)):=s _ r;have b:=h.blk.lt;have u:=ax (aB z t);generalize ow a0 (ab0 C) a=i at *;generalize ps.getD i 0=y at *;have V:(i:Int)<(ab0 C:Int):=aa;have U:0<=(i:Int):=aa;clear h z t s r;go_in;go_upto_region 1 with fail;have Z:=ax (λ(w':World) (z:(af3 w) w')=>(aB ((z.C (p:=af7 x 7) b).T u.o.1) ((z.C (p:=af7 g i) d).T u.o.2)));refine jh (af3 w) (hQ 0 6 (ik 6 (hQ 7 3 []))) ((aC _ _).drew) ?_;iterate 6 refine ib ?_
 refine iz λK t=>?_;go_simp;refine RX q.o ?_;intro r s;have z:af3 w r:=(aC _ _).drew.T s;refine t _ _ (z) ?_;iterate 3 refine ib ?_
 refine g4 ?_;go_wp2;go_ret;exact⟨rfl,z⟩
end
section
variable {sp : ie} {now a0 x n a : Nat} {C : List Js} {v : Value} {ps : List Nat} {Ow : Nat -> Ft} {G F H : Ft} {w w' : World} {s : Wn} {cq : Value} {B : List Int}
variable{i:Nat}
def jN.js(h:jN sp now a0 C v ps Ow G x w)(z:s.L=xB sp.new a0 C)(y:i<ab0 C):jq sp (s.L.getD i sp.new) (ps.getD (ow a0 (ab0 C) i) 0) (Ow (ow a0 (ab0 C) i)) w:=by
 rw[z,EP y];exact h.ring.each _ (qv h.pos)
def EX{c':Js}(h:jN sp s.now a0 C v ps Ow G x w)(g:s.L=xB sp.new a0 C)(u:F x)(y:∀k,G k->F k)(p:∀k,F k->k<w.heap.size)(f:i<ab0 C)
 (d:jq sp c' (ps.getD (ow a0 (ab0 C) i) 0) (Gr (Ow (ow a0 (ab0 C) i)) w w') w') (z:Touch (λk=>Ow (ow a0 (ab0 C) i) k\/H k) w w') (t:∀k,H k->¬F k) :
 jf sp {s with L:=s.L.set i c'} x (Gr F w w') w'/\Touch (λk=>F k\/H k) w w':=by
 have c:¬(Ow (ow a0 (ab0 C) i) x\/H x):=λe=>e.elim (λe=>h.o (h.ring.qu _ _ e)) (λe=>t x e u);refine⟨⟨a0,C.set (ow a0 (ab0 C) i) c',v,ps,pg Ow (ow a0 (ab0 C) i) (Gr (Ow (ow a0 (ab0 C) i)) w w'),Gr G w w',⟨(z.block x h.blk.lt c).T h.blk,h.ring.turn (mh sp) (qv h.pos) d z (λk r q=>t k r (y k q)),by rw[aZ];exact h.at0,by rw[aZ];exact h.n60,λe=>e.elim h.o (λe=>by have:=h.blk.lt;omega)⟩,?_,.inl u,λk e=>e.imp (y k) id,jt p z.size⟩,z.M λk e=>e.imp (λe=>y k (h.ring.qu _ _ e)) id⟩;rw[RG h.at0 f,<-g]
def zf(v n:Int)(w:World)(h:jf sp s x F w)(ok:∀c∈s.L,im sp c)(X:iT cq B a H w)(d:∀k,H k->¬F k)
 (Y:∀(z:World) {c:Js} {y:Nat} {G:Ft},jq sp c y G z->im sp c->iT cq B a H z->(∀k,H k->¬G k)->af4 af5 64 #[aq y,af6 v,.int .u64 n,cq] z (jx (jq sp (ki sp B v n c a).1 y) (iT cq B (ki sp B v n c a).2) G H (mH sp c v n) z)) :
 af4 af5 31 #[aq x,af6 v,.int .u64 n,cq] w (jx (jf sp (rA sp B v n s a) x) (iT cq B (ki sp B v n (s.L.getD 0 sp.new) a).2) F H (ze sp s v n) w):=by
 obtain⟨a0,C,L,ps,Ow,G,q,p,b,g,f⟩:=h;have t:=q.pos;have T:=ax (pQ 0 w q t);have U:im sp (s.L.getD 0 sp.new):=by rw[p,EP t];exact ok _ (by rw[p];have:=aP (l:=xB sp.new a0 C) (n:=0) (by rw[iw];exact t);rwa [oT,aT,aL (qv t),br] at this)
 have V:∀k,H k->¬Ow (ow a0 (ab0 C) 0) k:=λk R Q=>d k R (g k (q.ring.qu _ _ Q));have S:Hid (∀z,af3 w z->af4 af5 64 #[.pointer (some ⟨ps.getD (ow a0 (ab0 C) 0) 0,0,none⟩),af6 v,.int .u64 n,cq] z λe w'=>jx (jf sp (rA sp B v n s a) x) (iT cq B (ki sp B v n (s.L.getD 0 sp.new) a).2) F H (ze sp s v n) w e w'):=ax (λz u=>by
  have c:=q.K u;refine(Y z (c.js p t) U (X.K u) V).M ?_;intro e w' r;have P:∀k,F k->k<z.heap.size:=λk O=>aG (f k O) u.size;obtain⟨O,N⟩:=EX c p b g P t r.2.1 r.2.2.2 d;exact s_ (jy sp _ x) u f ⟨r.1,O,r.2.2.1,N⟩)
 clear q p b g f ok X Y d U V t;generalize ps.getD (ow a0 (ab0 C) 0) 0=y at *;go_in;go_wp21;refine RX T.o ?_;intro z u;have D:=ax (S.o z u);clear u;go_wp21;refine(D.o).M ?_;intro e w' r;obtain⟨rfl,t⟩:=r;have M:=ax t;clear t;go_wp2;go_ret;exact⟨rfl,M.o⟩
def RN(v n:Int)(w:World)(h:jf sp s x F w)(ok:∀c∈s.L,im sp c)(r:iT cq B a H w)(g:(∃q,sp=.k q)->cq≠.pointer none)(p:∀k,H k->¬F k)(b:-9223372036854775808<=v)(Y:v<=9223372036854775807)(f:0<=n)(d:n<18446744073709551616):af4 af5 31 #[aq x,af6 v,.int .u64 n,cq] w (jx (jf sp (rA sp B v n s a) x) (iT cq B (ki sp B v n (s.L.getD 0 sp.new) a).2) F H (ze sp s v n) w):=
 zf v n w h ok r p (λq {_ _ _} z y u t=>Uj v n q z y u g t b Y f d)
end
section
variable {sp : ie} {now a0 x n a : Nat} {C : List Js} {v : Value} {ps : List Nat} {Ow : Nat -> Ft} {G F H : Ft} {w w' : World} {s : Wn} {cq : Value} {B : List Int}
def JQ(sp:ie)(L:List Js):∀k,0<=oD sp L k/\oD sp L k<18446744073709551616
 | 0=>by unfold oD;omega
 | k+1=>by unfold oD;rw[c_];omega
def zh(m:Nat)(w:World)(h:jN sp s.now a0 C v ps Ow G x w)(z:s.L=xB sp.new a0 C)(ok:∀c∈s.L,im sp c)(L:m<=ab0 C):af4 af5 22 #[aq x,af6 m] w (au w (.int .u64 (oD sp s.L m))):=by
 have Q:=h.c7;have V:=ax h;have p:=ax z;have Y:=ax ok;obtain⟨g,c,rfl,_⟩:=h.ring.pos h.pos;have P:¬((m:Int) > (ab0 C:Int)):=aa;have K:¬((m:Int)<0):=aa;have O:=h.n60;clear h z ok;go_in;go_wp2;go_loopg [5,16] m (λq y z wr=>∃j:Nat,q=m - j/\j<=m/\y=.int .u64 (oD sp s.L j)/\z=af6 j/\Hid (af3 w wr))
 exact⟨0,rfl,aa,rfl,rfl,ax (aC _ _)⟩
 case round=>
  obtain⟨j,z,N,rfl,rfl,r⟩:=hrel;have X:=ax z;clear z;by_cases M:j<m
  .have R:(j:Int)<(m:Int):=aa
   have q:j<ab0 C:=aa;have z:=V.o.K r.o;have b:=ax (pQ j wr z q);have y:im sp (s.L.getD j sp.new):=by rw[aT,aL (by rw[p.o,iw];exact q),br];exact Y.o _ (aP _)
   have a:Hid (∀t,af3 wr t->_):=ax (λt u=>uf t ((z.K u).js p.o q) y);have f:Hid (oD sp s.L (j+1)=ad0 .u64 (oD sp s.L j+k_ sp (s.L.getD j sp.new))):=ax rfl;have U:=JQ sp s.L j;clear z y;generalize ps.getD (ow a0 (ab0 C) j) 0=y at *;generalize k_ sp (s.L.getD j sp.new)=T at *;have⟨S,d⟩:=ar (oD sp s.L j);rw[d] at f U |-;clear d
   go_wp21;refine RX b.o ?_
   intro t u;have D:=ax (a.o t u);have z:=ax (r.o.T (u.M r.o.size));clear u;go_wp21;refine Ix D.o ?_;go_wp2;go_roundg (m - (j+1))
   exact⟨j+1,rfl,aa,by rw[f.o],af,z⟩;have:=X.o;omega
  .have R:¬((j:Int)<(m:Int)):=aa
   obtain rfl:j=m:=aa;go_wp2;go_ret;exact⟨rfl,r.o⟩
def vt(z:Int)(w:World)(h:jN sp s.now a0 C v ps Ow G x w)(u:s.L=xB sp.new a0 C)(ok:∀c∈s.L,im sp c):af4 af5 22 #[aq x,af6 z] w (au w (.int .u64 (mI sp s z))):=by
 have d:ab0 s.L=ab0 C:=by rw[u,iw]
 by_cases y:(ab0 C:Int)<z
 .have t:=h.c7
  obtain⟨g,c,rfl,_⟩:=h.ring.pos h.pos;have r:z > (ab0 C:Int):=y;have e:mI sp s z=0:=by unfold mI;rw[aH aa]
  rw[e];clear h u ok e y;go_in;go_wp2;go_ret;exact⟨rfl,bw⟩
 .by_cases f:0<=z
  .have e:mI sp s z=oD sp s.L z.toNat:=by unfold mI;rw[aF aa]
   have q:((z.toNat:Nat):Int)=z:=aa;rw[e,<-q];exact zh z.toNat w h u ok aa
  .have e:mI sp s z=0:=by unfold mI;rw[aF aa,show z.toNat=0 by omega];rfl
   rw[e];have t:=h.c7;obtain⟨g,c,rfl,_⟩:=h.ring.pos h.pos;have r:¬z > (ab0 C:Int):=y;have b:max z 0=0:=aa;clear h u ok e y;go_in;go_wp2;go_loopg [5,16] 0 (λq p q wr=>p=.int .u64 0/\q=af6 0/\w=wr)
   exact⟨rfl,rfl,rfl⟩
   case round=>
    obtain⟨rfl,rfl,rfl⟩:=hrel;go_wp2;go_ret;exact⟨rfl,aC _ _⟩
end
variable{ps:List Nat}{sp:ie}{g n x:Nat}{Ow:Nat->Ft}{w0 wr:World}
def SB(t:TypeId):vT (Option Nat) where
 k:=1
 t:=t
 enc p:=[match p with|none=>.pointer none|some p=>jw p]
 len _:=rfl
 one p u hu:=by
  simp only[aS,cx,or_false] at hu;subst hu;cases p<;>rfl
def SC(t:TypeId):∀ps:List Nat,cellsE (SB t) (ps.map some)=cellsE (zP t) ps
 | []=>rfl
 | p::ps=>by rw[dO,i9,i9,SC t ps];rfl
def Uk{t:TypeId}{base:Nat}{w:World}{v:Value}(h:g8 (SB t) base w v (ps.map some)):g8 (zP t) base w v ps:=by
 unfold g8 at h |-;rw[SC,dy] at h;exact h
def RO(t:TypeId)(w:World)(n:Nat)(v:n<=1000000):g8 (SB t) w.heap.size (w.alloc (.cells (madeCells #[.pointer none] n) t)) (.slice (some (af7 (w.heap.size) 0)) n n) (List.replicate n none):=by
 have y:ab0 (List.replicate n (none:Option Nat))=n:=ad;have x:∀m,cellsE (SB t) (List.replicate m none)=List.replicate m (Value.pointer none):=λm=>by
  induction m with
  | zero=>rfl
  | succ m ih=>rw[dC,i9,ih,dC];rfl
 have z:(SB t).k=1:=rfl;refine⟨by rw[x,cr,y,z,cW],.inr ⟨w.heap.size,n,madeCells #[.pointer none] n,by rw[y],aD _,cH _ _,aa,by unfold maxLen;omega,by rw[size_madeCells,z,cW],?_⟩⟩;rw[x,toList_madeCells_one,y,z,cW,List.take_replicate,Nat.min_self]
def pjI:(prog.info? 46).map (λi=>(i.zero,i.size,i.bytes))=some (some (.pointer none),1,8):=by kernel_rfl
def Mb:∀(n:Nat),n<=60->∀W:World,(Instr.makeSlice 94 (af6 n) (af6 n)).run prog W=.ok (.slice (some (af7 (W.heap.size) 0)) n n) (W.alloc (.cells (madeCells #[.pointer none] n) 46)):=λn t W=>by
 obtain⟨u,z,y,x,v⟩:=cR pjI;have:=mK 94 46 u _ underlying94 z y .i64 .i64 n n (aD _) (by rw[v];omega) aa W;rw[x,cW] at this;exact this
structure Ih(sp:ie)(cs:List Value)(n i g x:Nat)(ps:List Nat)(Ow:Nat->Ft)(w0 wr:World):Prop where
 len:ab0 ps=i
 le:i<=n
 row:g8 (SB 46) 0 wr (.slice (some (af7 g 0)) n n) (ps.map some++List.replicate (n - i) none)
 blk:g7 wr x 96 (cs++[Value.slice (some (af7 g 0)) n n,af6 0,Value.int .u64 0]).toArray
 each:∀j,j<i->jq sp sp.new (ps.getD j 0) (Ow j) wr
 apart:∀a b k,Ow a k->Ow b k->a=b
 far:∀j k,Ow j k->(k≠g/\k≠x/\w0.heap.size<=k)/\k<wr.heap.size
 below:af3 w0 wr
def Ih.next{cs:List Value}{i y:Nat}{w1:World}(h:Ih sp cs n i g x ps Ow w0 wr)(X:i<n)(c:w0.heap.size<=g)(Y:g≠x)(U:g<wr.heap.size)(V:jq sp sp.new y (Gr (λ_=>False) wr w1) w1)(t:af3 wr w1):Ih sp cs n (i+1) g x (ps++[y]) (pg Ow i (Gr (λ_=>False) wr w1)) w0 (w1.setCell (af7 g i) (jw y)):=by
 have T:=h.blk.lt;have d:Touch (λk=>k=g) w1 (w1.setCell (af7 g i) (jw y)):=Touch.setCell (F:=λk=>k=g) (Touch.refl _ w1) (p:=af7 g i) (.inl rfl) _;have S:=t.size;have f:=h.len;have r:∀k,Gr (λ_=>False) wr w1 k->wr.heap.size<=k/\k<w1.heap.size:=λk z=>z.elim False.elim id;refine⟨by rw[aE,h.len];rfl,X,?_,?_,λj v=>?_,λa b k u v=>?_,λj k z=>?_,(h.below.T (t.M h.below.size)).setCell (p:=af7 g i) c _⟩
 .have s:=(h.row.K t).hJ i ae (some y)
  rw[show i * (SB 46).k=i by show i * 1=i;omega] at s;have e:(ps.map some++List.replicate (n - i) none).set i (some y)=(ps++[y]).map some++List.replicate (n - (i+1)) none:=by
   rw[fC _ _ (by rw[dy];omega),dy,f,cZ,show n - i=(n - (i+1))+1 by omega,dC,bS,dU,aN];rfl
  rw[e] at s;exact s
 .exact(h.blk.K t).far (p:=af7 g i) (λe=>Y e.Y) _
 .by_cases e:j=i
  .subst e
   rw[iK,aT,cI aa,f,cZ];exact(ju sp _ y).far V d (λk z e=>by have:=r k z;rw[show k=g from e] at this;omega)
  .rw[hX e,aT,cD aa,<-aT]
   exact(ju sp _ _).far ((ju sp _ _).K (h.each j aa) t) d (λk z e=>(h.far j k z).1.1 e)
 .by_cases q:a=i
  .by_cases s:b=i
   .omega
   .rw[q,iK] at u;rw[hX s] at v
    have:=r k u;have:=(h.far b k v).2;omega
  .rw[hX q] at u
   by_cases s:b=i
   .rw[s,iK] at v
    have:=r k v;have:=(h.far a k u).2;omega
   .rw[hX s] at v;exact h.apart a b k u v
 .rw[bT]
  by_cases e:j=i
  .rw[e,iK] at z
   have:=r k z;have:=h.below.size;exact⟨⟨aa,aa,aa⟩,aa⟩
  .rw[hX e] at z
   have:=h.far j k z;exact⟨this.1,aa⟩
def Ih.done(h:Ih sp sp.cs n n g x ps Ow w0 wr)(u:0<n)(r:n<=60)(p:w0.heap.size<=g)(d:w0.heap.size<=x)(f:g≠x):jf sp (jM sp n) x (Gr (λ_=>False) w0 wr) wr:=by
 have v:=h.row;rw[cZ,fU,bP] at v;have v:=Uk v;have s:=(v.lt g rfl).2;have q:∀i (y:i<ab0 (List.replicate n sp.new)),(List.replicate n sp.new)[i]=sp.new:=λi y=>eC y;refine⟨0,List.replicate n sp.new,_,ps,λj k=>j<n/\Ow j k,λk=>(k=g\/(∃j,j<n/\Ow j k)),⟨h.blk,⟨v,by rw[h.len,cr],λi y=>?_,λa b k z t=>h.apart a b k z.2 t.2,λk e=>?_,λj k z=>.inr ⟨j,z⟩,λk z=>?_⟩,by rw[cr];exact u,by rw[cr];exact r,?_⟩,?_,.inr ⟨d,h.blk.lt⟩,λk z=>?_,λk z=>z.elim False.elim And.right⟩
 .rw[q]
  have t:i<n:=by rw[cr] at y;exact y
  exact(ju sp _ _).more (h.each i t) (λk z=>⟨t,z⟩) (λk z=>(h.far i k z.2).2)
 .injection e with e
  exact⟨.inl e.Y,λi y=>(h.far i k y.2).1.1 e.Y⟩
 .rcases z with rfl|⟨j,_,z⟩
  .exact s
  .exact(h.far j k z).2
 .intro e
  rcases e with e|⟨j,_,z⟩
  .exact f e.Y
  .exact(h.far j x z).1.2.1 rfl
 .unfold jM
  refine eK (by rw[iw,cr]) λi t b=>?_;have c:i<n:=by rw[cr] at t;exact t
  rw[oT,cr,eC,aT,ei,aH (qv u),br]
 .rcases z with rfl|⟨j,_,z⟩
  .exact .inr ⟨p,s⟩
  .exact .inr ⟨(h.far j k z).1.2.2,(h.far j k z).2⟩
def sj{kd lo hi dg ac sz:Int}{gr:Bool}(y:sp.v=iB kd lo hi dg gr ac sz)(z:sp.cs=[.int .u8 kd,af6 lo,af6 hi,af6 dg,.bool gr,af6 ac,af6 sz])(ok:jR sp)(n:Nat)(w:World)(A:1<=n)(L:n<=60):af4 af5 30 #[iB kd lo hi dg gr ac sz,af6 n] w λe f=>∃x,e=.returned (.tuple #[aq x,af6 0])/\jf sp (jM sp n) x (Gr (λ_=>False) w f) f/\af3 w f:=by
 have H:Hid (∀s:World,af4 af5 46 #[.agg #[.int .u8 kd,af6 lo,af6 hi,af6 dg,.bool gr,af6 ac,af6 sz]] s _):=ax (λs=>by rw[show Value.agg #[.int .u8 kd,af6 lo,af6 hi,af6 dg,.bool gr,af6 ac,af6 sz]=sp.v from y.Y];exact Cg s ok);have R:=ax z;clear y z ok;unfold iB;have⟨b,v⟩:=ar (w.heap.size);have⟨x,y⟩:=ar (w.alloc (.cells #[.int .u8 kd,af6 lo,af6 hi,af6 dg,.bool gr,af6 ac,af6 sz] 33));have J:=ao y;have P:=an y v;have W:¬(n:Int)<1:=aa;have hn2:¬(n:Int) > 60:=aa;go_in;go_upto_region 3 with fail;try rw[y]
 clear y v;have⟨g,d⟩:=ar (x.heap.size);have G:=ax d;have t:b<x.heap.size:=P.o.lt;obtain⟨c,Y,X,V,U,T,S⟩:=P.o.c7;have v:=ax (aB c (aB Y (aB X (aB V (aB U (aB T S))))));clear c Y X V U T S;have M:=Mb n L;have u:af3 x x.drew:=(aC _ _).drew;have q:af3 x (x.drew.alloc (.cells (madeCells #[.pointer none] n) 46)):=u.alloc u.size _;have Z:=ax (λ(f:World) (y:(af3 x) f)=>(aB ((y.C (p:=af7 b 0) t).T v.o.1) (aB ((y.C (p:=af7 b 1) t).T v.o.2.1) (aB ((y.C (p:=af7 b 2) t).T v.o.2.2.1) (aB ((y.C (p:=af7 b 3) t).T v.o.2.2.2.1) (aB ((y.C (p:=af7 b 4) t).T v.o.2.2.2.2.1) (aB ((y.C (p:=af7 b 5) t).T v.o.2.2.2.2.2.1) ((y.C (p:=af7 b 6) t).T v.o.2.2.2.2.2.2))))))));refine jh (af3 x) (hQ 0 2 (ik 2 (hQ 3 1 (ik 4 (hQ 5 1 []))))) (u) ?_;iterate 2 refine ib ?_
 refine iz λK r=>?_;go_simp;refine r _ _ (q) ?_;refine ib ?_;refine iz λK r=>?_;go_simp;refine r _ _ (q.alloc q.size _) ?_;refine ib ?_;refine g4 ?_;have⟨wc,y⟩:=ar (((x.alloc (.cells (madeCells #[.pointer none] n) 46)).alloc (.cells #[.int .u8 kd,af6 lo,af6 hi,af6 dg,.bool gr,af6 ac,af6 sz,.slice (some (af7 g 0)) n n,af6 0,.int .u64 0] 96)).drew);try refine g6 ?_
 rw[y];have O:Hid (Ih sp sp.cs n 0 g (g+1) [] (λ_ _=>False) x wc):=by
  rw[<-y];have z:=RO 46 x n aa;rw[d] at z;have N:=g7.new (x.alloc (.cells (madeCells #[.pointer none] n) 46)) 96 #[.int .u8 kd,af6 lo,af6 hi,af6 dg,.bool gr,af6 ac,af6 sz,.slice (some (af7 g 0)) n n,af6 0,.int .u64 0];rw[aI,d] at N;refine ax ⟨rfl,aa,?_,?_,λj Q=>by omega,λa b k h=>h.elim,λj k h=>h.elim,bw⟩
  .exact((g8.more z (bl _)).alloc _).drew
  .rw[R.o];exact N.drew
 have m:g<wc.heap.size:=by rw[<-y];show g<((x.alloc _).alloc _).heap.size;rw[aI,aI,d];omega
 clear y u q M;have M:wc.cell? (af7 (g+1) 7)=some (.slice (some (af7 g 0)) n n):=by have:=O.o.blk;rw[R.o] at this;exact this.C 7
 go_wp21;clear M
 go_loopg [7,8,9,26] n (λq _ _ _ z wr=>∃(i:Nat) (I:List Nat) (N:Nat->Ft),q=n - i/\z=af6 i/\Hid (Ih sp sp.cs n i g (g+1) I N x wr))
 exact⟨0,_,_,aa,rfl,O⟩
 case round=>
  obtain⟨i,I,N,y,rfl,z⟩:=hrel;have F:=ax y;clear y;have o:=z.o.le;by_cases C:i<n
  .have D:(i:Int)<(n:Int):=aa
   have y:=z.o.below;have c:=(y.C (p:=af7 b 0) t).T v.o.1;have Y:=(y.C (p:=af7 b 1) t).T v.o.2.1;have X:=(y.C (p:=af7 b 2) t).T v.o.2.2.1;have V:=(y.C (p:=af7 b 3) t).T v.o.2.2.2.1;have U:=(y.C (p:=af7 b 4) t).T v.o.2.2.2.2.1;have T:=(y.C (p:=af7 b 5) t).T v.o.2.2.2.2.2.1;have S:=(y.C (p:=af7 b 6) t).T v.o.2.2.2.2.2.2;have E:g<wr.heap.size:=(z.o.row.lt g rfl).2;clear y;go_wp21;refine WE (H.o wr) ?_;rintro y s ⟨Q,q⟩;have a:=ax (z.o.next C (by rw[<-G.o];exact aD _) aa E Q q);have M:s.cell? (af7 (g+1) 7)=some (.slice (some (af7 g 0)) n n):=by have:=z.o.blk.K q;rw[R.o] at this;exact this.C 7
   obtain⟨B,l⟩:∃u,s.cell? (af7 g i)=some u:=by
    have:=(z.o.row.K q).cellAt (j:=i) (by simp[z.o.len];omega) 0 (by show 0<1;omega);rw[show i * (SB 46).k+0=i by show i * 1+0=i;omega] at this;exact⟨_,this⟩
   have u:=(z.o.row.K q).frozenAt i;clear c Y X V U T S Q q;unfold jw at a;go_wp2;go_roundg (n - (i+1))
   exact⟨i+1,_,_,rfl,af,a⟩;have:=F.o;omega
  .have D:¬((i:Int)<(n:Int)):=aa
   obtain rfl:i=n:=aa;go_wp2;refine ak ?_;have q:=J.size;have u:=z.o.done aa L aa  aa  aa;exact⟨g+1,rfl,(jy sp _ _).more u (λk y=>y.elim False.elim (λh=>.inr ⟨aa,h.2⟩)) (λk y=>y.elim False.elim And.right),J.T (z.o.below.M q)⟩
def JR(n:Nat)(w:World)(ok:jR sp)(z:1<=n)(y:n<=60):af4 af5 30 #[sp.v,af6 n] w λe v=>∃x,e=.returned (.tuple #[aq x,af6 0])/\jf sp (jM sp n) x (Gr (λ_=>False) w v) v/\af3 w v:=by
 cases sp with
 | h lo hi dg u m gr=>exact sj rfl rfl ok n w z y
 | d a m=>exact sj rfl rfl ok n w z y
 | t d=>exact sj rfl rfl ok n w z y
 | k q=>exact sj rfl rfl ok n w z y
