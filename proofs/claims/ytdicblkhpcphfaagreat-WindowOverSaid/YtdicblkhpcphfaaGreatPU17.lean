/- Parts. -/
import Derived.Test.YtdicblkhpcphfaaGreatPU16
set_option maxRecDepth 100000
set_option maxHeartbeats 0
set_option linter.all false
namespace Go.Proofs.YtdicblkhpcphfaaGreat
open Tryz Go.RowKit Go.Lib Go.Shelf
open _root_.List renaming length→ab0
open Go.IntKind renaming wrap→ad0
open _root_.Go renaming Calls→af4
open Tryz renaming prog→af5
namespace D
def mE(x lo hi dg u m:Nat)(gr:Bool)(bk:Nat)(l:List Pr)(F:Ft)(w:World):Prop:=∃g b,g7 w x 206 #[aq g,.bool gr,af6 bk,.map (some b),.int .u64 (tot l)]/\ml w g lo hi dg u m/\lD w b l/\F x/\F g/\F b/\∀k,F k->k<w.heap.size
def i_(x lo hi dg u m:Nat)(gr:Bool)(bk:Nat)(l:List Pr):kK (mE x lo hi dg u m gr bk l) where
 stay:=λ⟨g,b,t,s,r,z,y,v,q⟩ p f=>⟨g,b,(p x z).T t,(p g y).T s,r.stay (p b v),z,y,v,λk h=>aG (q k h) f⟩
 more:=λ⟨g,b,t,s,r,z,y,v,_⟩ h p=>⟨g,b,t,s,r,h x z,h g y,h b v,p⟩
 low:=λ⟨_,_,_,_,_,_,_,_,q⟩=>q
def Tp(a b c:Int)(w:World):(Instr.field 31 (.agg #[af6 a,af6 b,af6 c]) 1).run prog w=.ok (af6 b) w:=by kernel_rfl
section
variable {x lo hi dg u m bk : Nat} {gr : Bool} {l : List Pr} {F : Ft}
def og(w:World)(h:mE x lo hi dg u m gr bk l F w):af4 af5 118 #[aq x] w (au w (.agg #[af6 lo,af6 hi,af6 dg])):=by
 obtain⟨g,c,r,q,_⟩:=h;have C:Hid (∀z,af3 w z->_):=ax (λz y=>qg (w:=z) (g7.K q y));have⟨b,t⟩:=ar (w.heap.size);have⟨z,v⟩:=ar (w.alloc (.cells #[af6 0,af6 0,af6 0] 31));have y:=ao v;have s:=(an v t).o;have f:=(r.K y).k0;have X:=ax (aB y (aB s t));clear q r s y;go_in;go_upto_region 1 with fail;clear v t;go_wp21;refine RX (C.o z X.o.1) ?_;intro R s;have y:=X.o.2.1.K s;have a:=y.F 0;have Y:=y.F 1;have V:=y.F 2;obtain⟨U,T,S⟩:=y.c3;have v:=ax (aB y s);clear y s;go_wp21;have y:=(((v.o.1.hJ 0 (af6 lo)).hJ 1 (af6 hi)).hJ 2 (af6 dg)).C 0;have s:=(((v.o.1.hJ 0 (af6 lo)).hJ 1 (af6 hi)).hJ 2 (af6 dg)).C 1;have r:=(((v.o.1.hJ 0 (af6 lo)).hJ 1 (af6 hi)).hJ 2 (af6 dg)).C 2;simp only[bA,bS,bR,az,ay,aA] at y s r;refine ak ?_;have t:=X.o.2.2;have q:=X.o.1.T (v.o.2.M X.o.1.size);exact⟨rfl,((q.setCell (p:=af7 b 0) (by show _<=b;omega) _).setCell (p:=af7 b 1) (by show _<=b;omega) _).setCell (p:=af7 b 2) (by show _<=b;omega) _⟩
def tR(w:World)(h:mE x lo hi dg u m gr bk l F w):af4 af5 119 #[aq x] w λe v=>e=.returned (.bool gr)/\w=v:=by
 obtain⟨g,b,z,_⟩:=h;have y:=z.k1;clear z;go_in;go_wp2;go_ret;exact⟨rfl,rfl⟩
def Hb(w:World)(h:mE x lo hi dg u m gr bk l F w):af4 af5 267 #[aq x] w λe v=>e=.returned (af6 bk)/\w=v:=by
 obtain⟨g,b,z,_⟩:=h;have y:=z.k2;clear z;go_in;go_wp2;go_ret;exact⟨rfl,rfl⟩
def NW(w:World)(h:mE x lo hi dg u m gr bk l F w):af4 af5 55 #[aq x] w λe v=>e=.returned (.int .u64 (tot l))/\w=v:=by
 obtain⟨g,b,z,_⟩:=h;have y:=z.k4;clear z;go_in;go_wp2;go_ret;exact⟨rfl,rfl⟩
def NX(w:World)(h:mE x lo hi dg u m gr bk l F w)(ok:sk lo hi dg u m):af4 af5 336 #[aq x] w (au w (af6 ((1+jg u m hi:Nat):Int))):=by
 obtain⟨g,b,t,y,_⟩:=h;have f:Hid (∀z,af3 w z->_):=ax (λz v=>qg (w:=z) (g7.K y v));have d:Hid (∀z,af3 w z->_):=ax (λz v=>kR (w:=z) hi (g7.K y v) ok.um (aa2 ok.h1));have r:=ax t;clear y t ok;generalize 1+jg u m hi=R at *;go_in;go_wp21;refine jh (af3 w) (hQ 0 8 (ik 8 (hQ 9 1 (ik 10 (hQ 11 1 []))))) ((aC _ _).drew) ?_;iterate 8 refine ib (h:=λs y=>by have v:=(r.o.K y).C 0;simp only[az,ay] at v;exact af8) ?_
 refine iz λK z=>?_;go_simp;refine RX (f.o w.drew (aC _ _).drew) ?_;intro p c;have t:af3 w p:=(aC _ _).drew.T c;refine z _ _ (t) ?_;refine ib (h:=λs y=>by have v:=(r.o.K y).C 0;simp only[az,ay] at v;exact af8) ?_;refine iz λK z=>?_;go_simp;refine RX (d.o p t) ?_;intro Y a;have q:af3 w Y:=t.T (a.M t.size);refine z _ _ (q) ?_;refine ib (h:=λs y=>by have v:=(r.o.K y).C 0;simp only[az,ay] at v;exact af8) ?_;refine g4 ?_;go_wp2;go_ret;exact⟨rfl,q⟩
def NY(w:World)(h:mE x lo hi dg u m gr bk l F w)(ok:sk lo hi dg u m)(Q:1<=bk)(P:bk<=64):af4 af5 278 #[aq x] w (au w (af6 (iv u m hi bk))):=by
 have Y:Hid (∀z,af3 w z->_):=ax (λz y=>NX (x:=x) z ((i_ x lo hi dg u m gr bk l).K h y) ok);obtain⟨g,b,q,t,_⟩:=h;have s:Hid (iv u m hi bk=if bk=1+jg u m hi then hi else oC u m bk):=ax rfl;rw[s.o];have U:Hid (∀z,af3 w z->_):=ax (λz y=>qg (w:=z) (g7.K t y));have S:Hid (∀z,af3 w z->_):=ax (λz y=>DY (w:=z) bk (g7.K t y) ok.um Q P);have v:=ax q;clear t q ok s;generalize 1+jg u m hi=R at *;generalize oC u m bk=T at *;by_cases X:bk=R
 .subst X
  rw[aH rfl];have O:((bk:Int) == (bk:Int))=true:=ad;have f:=Tp;go_in;go_wp21;refine jh (af3 w) (hQ 0 5 (ik 5 (hQ 6 1 []))) ((aC _ _).drew) ?_;iterate 5 refine ib (h:=λr z=>by have y:=(v.o.K z).C 2;simp only[az,ay,aA] at y;exact af8) ?_
  refine iz λK s=>?_;go_simp;refine RX (Y.o w.drew (aC _ _).drew) ?_;intro q d;have t:af3 w q:=(aC _ _).drew.T d;refine s _ _ (t) ?_;refine ib (h:=λr z=>by have y:=(v.o.K z).C 2;simp only[az,ay,aA] at y;exact af8) ?_;refine g4 ?_;have p:=(v.o.K t).k0;go_wp21;refine RX (U.o q t) ?_;intro V c;go_wp2;go_ret;exact⟨rfl,t.T (c.M t.size)⟩
 .rw[aF X]
  have O:((bk:Int) == (R:Int))=false:=ae;go_in;go_wp21;refine jh (af3 w) (hQ 0 5 (ik 5 (hQ 6 1 []))) ((aC _ _).drew) ?_;iterate 5 refine ib (h:=λr z=>by have y:=(v.o.K z).C 2;simp only[az,ay,aA] at y;exact af8) ?_
  refine iz λK s=>?_;go_simp;refine RX (Y.o w.drew (aC _ _).drew) ?_;intro q d;have t:af3 w q:=(aC _ _).drew.T d;refine s _ _ (t) ?_;refine ib (h:=λr z=>by have y:=(v.o.K z).C 2;simp only[az,ay,aA] at y;exact af8) ?_;refine g4 ?_;go_wp21;have f:af3 w q.drew:=t.drew;refine jh (af3 w) (hQ 0 8 (ik 8 (hQ 9 1 []))) (f) ?_;iterate 8 refine ib (h:=λr z=>by have p:=(v.o.K z).C 0;have y:=(v.o.K z).k2;simp only[az,ay,aA] at p;exact af8) ?_
  refine iz λK s=>?_;go_simp;refine RX (S.o q.drew f) ?_;intro V c;have a:af3 w V:=f.T (c.M f.size);refine s _ _ (a) ?_;refine ib (h:=λr z=>by have p:=(v.o.K z).C 0;have y:=(v.o.K z).k2;simp only[az,ay,aA] at p;exact af8) ?_;refine g4 ?_;go_wp2;go_ret;exact⟨rfl,a⟩
def Jk{lo hi dg u m:Nat}(gr:Bool)(w:World)(ok:sk lo hi dg u m):af4 af5 263 #[.agg #[af6 lo,af6 hi,af6 dg],.bool gr] w λe p=>∃x,e=.returned (.tuple #[aq x,af6 0])/\mE x lo hi dg u m gr (1+jg u m hi) [] (Gr (λ_=>False) w p) p/\af3 w p:=by
 have L:=@run_makeMap prog;have Y:Hid (∀w,_):=ax (λw=>Dv w ok);have V:Hid (∀(t:World) (g:Nat),ml t g lo hi dg u m->_):=ax (λt g h=>kR (w:=t) (g:=g) hi h ok.um (aa2 ok.h1));clear ok;generalize 1+jg u m hi=R at *;have⟨b,y⟩:=ar (w.heap.size);have⟨v,x⟩:=ar (w.alloc (.cells #[af6 lo,af6 hi,af6 dg] 31));have s:=ao x;have z:=(an x y).o;obtain⟨K,J,I⟩:=z.c3;have X:=ax (aB s (aB z y));clear z s;go_in;go_upto_region 1 with fail;clear x y;go_wp21;refine WE (Y.o v) ?_;rintro g t ⟨s,z,y⟩;have N:=(X.o.2.1.K y).k1;have r:=ax (aB z (aB y s));clear z y s;go_wp21;refine RX (V.o t g r.o.1) ?_;intro z x;have U:=ax (aB (g7.K r.o.1 x) x);clear x;go_wp2;go_ret2;obtain⟨f,x⟩:=U.o;obtain⟨_,y,s⟩:=r.o;have d:af3 w z:=X.o.1.T ((y.T (x.M y.size)).M X.o.1.size);have a:=d.size;have Q:w.heap.size<=g:=bf X.o.1.size s;have M:=g7.lt f;have S:af3 z (z.alloc (.map #[] 0)):=(aC _ _).alloc (aD _) _;have c:af3 z ((z.alloc (.map #[] 0)).alloc (.cells #[aq g,.bool gr,af6 R,.map (some z.heap.size),.int .u64 0] 206)):=S.alloc ad _;have T:=(To z).K ((aC _ _).alloc (aD _) (.cells #[aq g,.bool gr,af6 R,.map (some z.heap.size),.int .u64 0] 206));have O:(z.alloc (.map #[] 0)).heap.size=z.heap.size+1:=ad;have q:=g7.new (z.alloc (.map #[] 0)) 206 #[aq g,.bool gr,af6 R,.map (some z.heap.size),.int .u64 0];rw[O] at q;have P:=q.lt;exact⟨_,rfl,⟨g,z.heap.size,q,g7.K f c,T,.inr ⟨aa,P⟩,.inr ⟨Q,aa⟩,.inr ⟨a,aa⟩,λk h=>h.elim False.elim And.right⟩,d.T (c.M a)⟩
end
section
variable {x lo hi dg u m bk : Nat} {gr : Bool} {l : List Pr} {F : Ft}
def NZ(v:Nat)(n:Int)(w:World)(h:mE x lo hi dg u m gr bk l F w)(ok:jn lo hi dg u m gr bk l)(Q:v<9223372036854775808)(n0:0<n)(hn:tot l+n<=4611686018427387904):af4 af5 210 #[aq x,af6 v,.int .u64 n] w λe f=>e=.returned (.tuple #[])/\mE x lo hi dg u m gr (max bk (1+jg u m v)) (iu (oJ u m v) n l) (Gr F w f) f/\Touch F w f:=by
 obtain⟨g,b,z,y,t,c,d,q,s⟩:=h;have G:=ax (GF v y ok.sh.um ok.sh.mb.1 ok.sh.mb.2 Q);have H:Hid (∀T,ml T g lo hi dg u m->_):=ax (λT h=>kR (w:=T) v h ok.sh.um Q);have HIX:=NG ok.sh Q;have A:=ax (p_ (oJ u m v) n l);have ht0:=g_ ok.pos;have hlen:=ok.len;have hc0:=j_ (k:=(oJ u m v:Int)) ok.pos;have hc1:lA l (oJ u m v)<=4611686018427387904:=by
  have:=j_ (k:=(oJ u m v:Int)) ok.pos;by_cases a:lA l (oJ u m v)=0
  .omega
  .obtain⟨p,r,e⟩:=(nd ok.pos _).2 a
   rw[<-e,Ng ok.jk r];have:=mC ok.pos p r;have:=ok.sum;omega
 have M:=ax (aB ok.jk ok.pos);have X:=ax (aB z (aB y (aB t (aB c (aB d (aB q s))))));have L:x≠g:=by
  rintro rfl;have:=z.Y.T y;simp at this
 have P:=(t.ne z).Y;have i:=(t.ne y).Y;have r:=z.k0;have hxl:=z.lt;clear z y t c d q s ok;generalize hix:oJ u m v=I at *;generalize jg u m v=B at *;have D:=ax (by rw[iy];omega:ad0 .u64 (lA l (I:Int)+n)=lA l (I:Int)+n);have E:=ax (by rw[iy];omega:ad0 .u64 (tot l+n)=tot l+n);have C:Hid (max (bk:Int) (1+(B:Int))=((max bk (1+B):Nat):Int)):=ax aa;go_in;go_wp21;refine RX G.o ?_;intro T t;have S:=X.o.1.K t;have R:=X.o.2.2.1.K t;have K:=S.k3;have hlk:=R.look (k:=(I:Int)) aa  aa;have o:=D.o;go_wp2_with (at_mapUpdate;refine X' rfl _ _ _ rfl R M.o.1 M.o.2 aa  aa  aa n0 aa rfl rfl rfl ?_;intro d O q;have s:g7 d x _ _:=(q.block x (aa2 t.size) (λe=>P (by cases e;rfl))).T S;have J:=s.k4;have W:=s.F 4;have j:=E.o)
 have N:ml d g lo hi dg u m:=(q.block g (aa6 (g7.lt X.o.2.1) t.size) (λe=>i (by cases e;rfl))).T (X.o.2.1.K t);have⟨z,y⟩:=ar (d.setCell (af7 x 4) (.int .u64 (tot l+n)));have c:g7 z x 206 #[aq g,.bool gr,af6 bk,.map (some b),.int .u64 (tot l+n)]:=by rw[<-y];exact s.hJ 4 _
 have V:ml z g lo hi dg u m:=by rw[<-y];exact(a_ d (af7 x 4) _ g (λe=>L e.Y)).T N
 have a:lD z b (iu (I:Int) n l):=by rw[<-y];exact O.stay (a_ d (af7 x 4) _ b (λe=>P e.Y))
 have U:Touch F w z:=by
  rw[<-y];exact((Touch.of_below t (aD _)).T (ve X.o.2.2.2.2.2.1 q) (λ_ h=>.inl h)).setCell (p:=af7 x 4) (.inl X.o.2.2.2.1) _
 rw[y];have Y:=ax (aB c (aB V (aB a U)));clear y c V a U S R O s q J W K hlk N o j;refine kr (af3 z) 12 (hQ 0 10 (ik 10 (hQ 11 1 []))) ((aC _ _).drew) ?_;iterate 10 refine jG (h:=λf s=>by have r:=(Y.o.1.K s).C 0;have q:=(Y.o.1.K s).k2;simp only[az,ay,aA] at r;exact af8) ?_
 refine pq λK R=>?_;go_simp;refine RX (H.o z.drew (g7.K Y.o.2.1 (aC _ _).drew)) ?_;intro S N;have y:af3 z S:=(aC _ _).drew.T N;refine R _ _ (y) ?_;refine jG (h:=λf s=>by have r:=(Y.o.1.K s).C 0;have q:=(Y.o.1.K s).k2;simp only[az,ay,aA] at r;exact af8) ?_;refine hN ?_;simp only[aX,bj];have q:=(Y.o.1.K y).k2;have J:=(Y.o.1.K y).F 2;go_wp21;refine g6 ?_;go_wp21;refine ct (v:=.tuple #[]) (by simp[results,Tryz.results210,go_sem, *];try rfl) rfl ?_;rw[C.o];obtain⟨c,V,a,U⟩:=Y.o;have s:=(U.T (Touch.of_below (F:=F) y (aD _)) (λ_ h=>.inl h)).setCell (p:=af7 x 2) (.inl X.o.2.2.2.1) (af6 ((max bk (1+B):Nat):Int));have O:=(c.K y).hJ 2 (af6 ((max bk (1+B):Nat):Int));refine⟨rfl,⟨g,b,?_,?_,?_,.inl X.o.2.2.2.1,.inl X.o.2.2.2.2.1,.inl X.o.2.2.2.2.2.1,jt X.o.2.2.2.2.2.2 s.size⟩,s⟩
 .rw[A.o];exact O
 .exact(a_ S (af7 x 2) _ g (λe=>L e.Y)).T (g7.K V y)
 .exact(a.K y).stay (a_ S (af7 x 2) _ b (λe=>P e.Y))
def N0(v n:Int)(w:World)(h:mE x lo hi dg u m gr bk l F w)(ok:jn lo hi dg u m gr bk l)(j:-9223372036854775808<=v)(o:v<=9223372036854775807)(B:0<=n)(A:n<18446744073709551616):af4 af5 209 #[aq x,af6 v,.int .u64 n] w (au w (af6 (hsE u m gr bk l v n))):=by
 have H:Hid (hsE u m gr bk l v n=if n=0 then 4 else if v<0 then 5 else if gr=false/\(oC u m bk:Int)<v then 5 else if 4611686018427387904<tot l+n then 6 else 0):=ax rfl;obtain⟨g,b,t,s,_⟩:=h;have N:Hid (∀z,af3 w z->_):=ax (λz y=>DY (w:=z) bk (g7.K s y) ok.sh.um ok.b0 ok.b1);have y:=ax t;have D:=g_ ok.pos;have C:=ok.sum;clear t s ok;generalize oC u m bk=T at *;generalize tot l=t at *;have J:=ax (by rw[iy];omega:ad0 .u64 (4611686018427387904 - t)=4611686018427387904 - t);rw[H.o];by_cases I:n=0
 .subst I
  rw[aH rfl];go_in;go_wp2;go_ret;exact⟨rfl,aC _ _⟩
 rw[aF I];have E:(n == 0)=false:=ae;by_cases X:v<0
 .rw[aH X]
  go_in;go_upto_region 3 with fail;refine jh (af3 w) (hQ 0 23 []) ((aC _ _).drew) ?_;iterate 3 refine ib ?_
  iterate 18 (refine YtdicblkhpcphfaaGreat.kJ ?_;try go_simp)
  iterate 2 refine ib ?_
  refine g4 ?_;go_wp2;go_ret;exact⟨rfl,(aC _ _).drew⟩
 rw[aF X];obtain⟨S,z⟩:∃S:Int,(if 4611686018427387904<t+n then(6:Int) else 0)=S:=⟨_,rfl⟩;rw[z];have a:=ax z;clear z;have c:Hid (4611686018427387904<t+n<->4611686018427387904 - t<n):=ax aa;have d:af3 w w.drew:=(aC _ _).drew;by_cases Y:(T:Int)<v
 .cases gr
  .rw[aH ⟨rfl,Y⟩]
   clear c a;go_in;go_upto_region 3 with fail;refine jh (af3 w) (hQ 0 12 (ik 12 (hQ 13 10 []))) (d) ?_;iterate 12 refine ib (h:=λU z=>by have Q:=X;have R:=Y;have r:=(y.o.K z).k0;have q:=(y.o.K z).k1;have p:=(y.o.K z).k2;exact af8) ?_
   refine iz λK V=>?_;go_simp;refine RX (N.o w.drew d) ?_;intro O P;have f:af3 w O:=d.T P;refine V _ _ (f) ?_;iterate 10 refine ib (h:=λU z=>by have Q:=X;have R:=Y;have r:=(y.o.K z).k0;have q:=(y.o.K z).k1;have p:=(y.o.K z).k2;exact af8) ?_
   refine g4 ?_;go_wp2;go_ret;exact⟨rfl,f⟩
  .rw[aF (λh=>by cases h.1)]
   go_in;go_upto_region 3 with fail;refine jh (af3 w) (hQ 0 12 (ik 12 (hQ 13 10 []))) (d) ?_;iterate 12 refine ib (h:=λU z=>by have Q:=X;have R:=Y;have r:=(y.o.K z).k0;have q:=(y.o.K z).k1;have p:=(y.o.K z).k2;exact af8) ?_
   refine iz λK V=>?_;go_simp;refine RX (N.o w.drew d) ?_;intro O P;have f:af3 w O:=d.T P;refine V _ _ (f) ?_;iterate 10 refine ib (h:=λU z=>by have Q:=X;have R:=Y;have r:=(y.o.K z).k0;have q:=(y.o.K z).k1;have p:=(y.o.K z).k2;exact af8) ?_
   refine g4 ?_;have L:=(y.o.K f).k4;have G:=J.o;by_cases s:4611686018427387904<t+n
   .have M:4611686018427387904 - t<n:=c.o.1 s
    obtain rfl:S=6:=by rw[<-a.o,aH s]
    clear c a s;go_wp2;go_ret;exact⟨rfl,f⟩
   .have M:¬4611686018427387904 - t<n:=λh=>s (c.o.2 h)
    obtain rfl:S=0:=by rw[<-a.o,aF s]
    clear c a s;go_wp2;go_ret;exact⟨rfl,f⟩
 .rw[aF (λh=>Y h.2)]
  go_in;go_upto_region 3 with fail;refine jh (af3 w) (hQ 0 12 (ik 12 (hQ 13 10 []))) (d) ?_;iterate 12 refine ib (h:=λU z=>by have Q:=X;have R:=Y;have r:=(y.o.K z).k0;have q:=(y.o.K z).k1;have p:=(y.o.K z).k2;exact af8) ?_
  refine iz λK V=>?_;go_simp;refine RX (N.o w.drew d) ?_;intro O P;have f:af3 w O:=d.T P;refine V _ _ (f) ?_;iterate 2 refine ib (h:=λU z=>by have Q:=X;have R:=Y;have r:=(y.o.K z).k0;have q:=(y.o.K z).k1;have p:=(y.o.K z).k2;exact af8) ?_
  iterate 5 (refine YtdicblkhpcphfaaGreat.kJ ?_;try go_simp)
  iterate 3 refine ib (h:=λU z=>by have Q:=X;have R:=Y;have r:=(y.o.K z).k0;have q:=(y.o.K z).k1;have p:=(y.o.K z).k2;exact af8) ?_
  refine g4 ?_;have L:=(y.o.K f).k4;have G:=J.o;by_cases s:4611686018427387904<t+n
  .have M:4611686018427387904 - t<n:=c.o.1 s
   obtain rfl:S=6:=by rw[<-a.o,aH s]
   clear c a s;go_wp2;go_ret;exact⟨rfl,f⟩
  .have M:¬4611686018427387904 - t<n:=λh=>s (c.o.2 h)
   obtain rfl:S=0:=by rw[<-a.o,aF s]
   clear c a s;go_wp2;go_ret;exact⟨rfl,f⟩
def K4(v n:Int)(w:World)(h:mE x lo hi dg u m gr bk l F w)(ok:jn lo hi dg u m gr bk l)(T:-9223372036854775808<=v)(S:v<=9223372036854775807)(V:0<=n)(U:n<18446744073709551616):af4 af5 130 #[aq x,af6 v,.int .u64 n] w (wM (mE x lo hi dg u m gr (hsB u m gr bk l v n) (hsL u m gr bk l v n)) F (hsE u m gr bk l v n) w):=by
 have c:=ax h;have r:=ax (N0 v n w h ok T S V U);have p:Hid (hsL u m gr bk l v n=if hsE u m gr bk l v n=0 then iu (oJ u m v.toNat) n l else l):=ax rfl;have q:Hid (hsB u m gr bk l v n=if hsE u m gr bk l v n=0 then max bk (1+jg u m v.toNat) else bk):=ax rfl;rw[p.o,q.o];by_cases y:hsE u m gr bk l v n=0
 .have t:0<n/\0<=v/\tot l+n<=4611686018427387904:=by
   unfold hsE at y
   (repeat' split at y)<;>omega
  obtain⟨z,rfl⟩:=bO t.2.1;have d:Hid (∀s,af3 w s->_):=ax (λs g=>NZ (x:=x) z n s ((i_ x lo hi dg u m gr bk l).K h g) ok aa t.1 t.2.2);rw[aH y,aH y];rw[y] at r |-;simp only[bY];have X:=(i_ x lo hi dg u m gr bk l).low h;clear p q y t h ok
  go_in;go_wp21;refine RX r.o ?_;intro s t;go_wp21;refine RX (d.o s t) ?_;rintro R ⟨Y,f⟩;go_wp2;go_ret;refine⟨rfl,?_,BF t f⟩;refine(i_ x lo hi dg u m gr _ _).more Y (λk g=>?_) (jt X (BF t f).size);rcases g with g|⟨a,b⟩
  .exact .inl g
  .exact .inr ⟨bf t.size a,b⟩
 .rw[aF y,aF y]
  have g:(hsE u m gr bk l v n == 0)=false:=by simpa using y
  clear p q h ok;generalize hsE u m gr bk l v n=z at *;go_in;go_wp21;refine RX r.o ?_;intro s t;go_wp2;go_ret;exact lh (i_ x lo hi dg u m gr bk l) c.o rfl t
end
end D
namespace K
variable{x:Int}{B l vs:List Int}{h j k len:Nat}{w:World}{A:Option Addr}
def ins(v:Int):List Int->List Int
 | []=>[v]
 | y::l=>if v<y then v::y::l else y::ins v l
def insL(l vs:List Int):List Int:=vs.foldl (λl v=>ins v l) l
abbrev pz(l:List Int):Prop:=l.Pairwise (λa b=>a<=b)
def tS(v:Int):∀l,(ins v l).Perm (v::l)
 | []=>.refl _
 | y::l=>by
  unfold ins;split
  .exact .refl _
  .exact((tS v l).cons y).T (List.Perm.swap v y l)
def QT{v:Int}:x∈ins v l<->x=v\/x∈l:=by rw[(tS v l).mem_iff,aS]
def sD(v:Int)(l:List Int):ab0 (ins v l)=ab0 l+1:=(tS v l).length_eq
def Jl(v:Int):∀{l:List Int},pz l->pz (ins v l)
 | [],_=>by simp[ins]
 | y::l,h=>by
  have u:=aR.1 h;unfold ins;split
  .rename_i t
   exact aR.2 ⟨λz x=>by
    rcases aS.1 x with rfl|x
    .omega
    .have:=u.1 z x;omega,h⟩
  .rename_i t
   refine aR.2 ⟨λz x=>?_,Jl v u.2⟩;rcases QT.1 x with rfl|x
   .omega
   .exact u.1 z x
def N5(l:List Int):insL l []=l:=rfl
def K9(l:List Int)(v:Int)(z:List Int):insL l (v::z)=insL (ins v l) z:=rfl
def DZ(l a b:List Int):insL l (a++b)=insL (insL l a) b:=dN
def rW:∀(vs l:List Int),(insL l vs).Perm (l++vs)
 | [],l=>by rw[bP];exact .refl _
 | v::vs,l=>by
  rw[K9];refine(rW vs (ins v l)).T (((tS v l).append_right vs).T ?_);exact List.perm_middle.Y
def oO(l z:List Int):ab0 (insL l z)=ab0 l+ab0 z:=by rw[(rW z l).length_eq,aE]
def N6:x∈insL l vs<->x∈l\/x∈vs:=by rw[(rW vs l).mem_iff,cz]
def yH(h:pz l):∀(vs:List Int),pz (insL l vs):=by
 intro vs
 induction vs generalizing l with
 | nil=>exact h
 | cons v vs ih=>exact ih (Jl v h)
def yI:∀{a b:List Int},a.Perm b->pz a->pz b->a=b
 | [],b,p,_,_=>(List.nil_perm.1 p).Y
 | x::a,b,p,ha,hb=>by
  cases b with
  | nil=>exact absurd p.length_eq ad
  | cons y b=>
   have v:=aR.1 ha;have u:=aR.1 hb;have e:x=y:=by
    have t:x∈y::b:=p.subset (aJ ..);have s:y∈x::a:=p.Y.subset (aJ ..);rcases aS.1 t with h|h
    .exact h
    .rcases aS.1 s with z|z
     .exact z.Y
     .have:=v.1 y z
      have:=u.1 x h;omega
   subst e;rw[yI ((List.perm_cons x).1 p) v.2 u.2]
def N7(l:List Int):pz (l.mergeSort λx y=>decide (x<=y)):=by
 have h:=List.pairwise_mergeSort (le:=λx y:Int=>decide (x<=y)) (λa b c z y=>by simp only[bD] at *;omega) (λa b=>by simp only[Bool.or_eq_true,bD];omega) l;exact h.imp (λh=>by simpa using h)
def N8(h:pz l)(z:List Int):((l++z).mergeSort λx y=>decide (x<=y))=insL l z:=
 yI ((List.mergeSort_perm _ _).T (rW z l).Y) (N7 _) (yH h z)
abbrev LL:=List (List Int)
def ext(L:LL)(h:Nat):LL:=L++List.replicate (h+1 - ab0 L) []
def lvl(L:LL)(h:Nat):List Int:=L.getD h []
def lN(L:LL)(h:Nat)(vs:List Int):LL:=(ext L h).set h (insL (lvl L h) vs)
def mF(L:LL)(h:Nat):ab0 (ext L h)=max (ab0 L) (h+1):=by
 unfold ext;rw[aE,cr];omega
def tT(L:LL)(h j:Nat):lvl (ext L h) j=lvl L j:=by
 unfold lvl ext;simp only[List.getD];rcases bm j (ab0 L) with z|z
 .rw[cD z]
 .rw[cI z,ei,dH z]
  split<;>rfl
def pF{L:LL}(h:ab0 L<=j):lvl L j=[]:=by
 unfold lvl;rw[List.getD,dH h];rfl
def kZ{L:LL}(h:j<ab0 L):lvl L j=L[j]:=by
 unfold lvl;rw[List.getD,aL h];rfl
def nF(L:LL)(h j:Nat)(l:List Int)(y:h<ab0 L):lvl (L.set h l) j=if j=h then l else lvl L j:=by
 unfold lvl;simp only[List.getD];rw[List.getElem?_set];by_cases e:h=j
 .subst e;rw[aH rfl,aH rfl,aH y];rfl
 .rw[aF e,aF (λz=>e z.Y)]
def jd(L:LL)(h:Nat)(z:List Int):ab0 (lN L h z)=max (ab0 L) (h+1):=by
 unfold lN;rw[aZ,mF]
def l_(L:LL)(h j:Nat)(z:List Int):lvl (lN L h z) j=if j=h then insL (lvl L h) z else lvl L j:=by
 unfold lN;rw[nF _ _ _ _ (by rw[mF];omega),tT]
def N9{A B:LL}(x:ab0 A=ab0 B)(h:∀j,j<ab0 A->lvl A j=lvl B j):A=B:=
 eK x λi z y=>by rw[<-kZ z,<-kZ y];exact h i z
def AE(L:LL)(h:Nat)(a b:List Int):lN (lN L h a) h b=lN L h (a++b):=by
 refine N9 (by rw[jd,jd,jd];omega) λj _=>?_;rw[l_,l_,l_,l_];by_cases e:j=h
 .rw[aH e,aH e,aH rfl,DZ]
 .rw[aF e,aF e,aF e]
def cnt(L:LL):Nat:=(L.map List.length).sum
def pX:Nat->LL->Nat
 | _,[]=>0
 | w,l::L=>ab0 l * w+pX (2 * w) L
def wt(L:LL):Nat:=pX 1 L
def oh(A B:LL):cnt (A++B)=cnt A+cnt B:=by simp[cnt]
def mZ(l:List Int)(L:LL):cnt (l::L)=ab0 l+cnt L:=by simp[cnt]
def QU(n:Nat):cnt (List.replicate n [])=0:=by simp[cnt]
def QV(L:LL)(h:Nat):cnt (ext L h)=cnt L:=by rw[ext,oh,QU];rfl
def xr:∀(L:LL) (h:Nat) (_:h<ab0 L) (l:List Int),cnt (L.set h l)+ab0 (lvl L h)=cnt L+ab0 l
 | x::L,0,_,l=>by rw[bS,mZ,mZ];simp only[lvl,eh];omega
 | x::L,h+1,hh,l=>by
  have:=xr L h (by simpa using hh) l;rw[bR,mZ,mZ];simp only[lvl,ee] at this |-;omega
def oP(L:LL)(h:Nat)(z:List Int):cnt (lN L h z)=cnt L+ab0 z:=by
 have y:=xr (ext L h) h (by rw[mF];omega) (insL (lvl L h) z);rw[tT,oO,QV] at y;unfold lN;omega
def iD:∀(L:LL) (h:Nat),ab0 (lvl L h)<=cnt L
 | [],h=>by simp[lvl]
 | x::L,0=>by rw[mZ];simp only[lvl,eh];omega
 | x::L,h+1=>by
  have:=iD L h;rw[mZ];simp only[lvl,ee] at this |-;omega
def oj:∀(w:Nat) (A B:LL),pX w (A++B)=pX w A+pX (2 ^ ab0 A * w) B
 | w,[],B=>by simp[pX]
 | w,a::A,B=>by
  rw[bG,pX,oj (2 * w) A B,pX,aK,cC,ej,de]
def Jm:∀(n w:Nat),pX w (List.replicate n [])=0
 | 0,_=>rfl
 | n+1,w=>by rw[dC,pX,Jm n];simp
def Tq(L:LL)(h:Nat):wt (ext L h)=wt L:=by unfold wt;rw[ext,oj,Jm];rfl
def BN:∀(L:LL) (w h:Nat) (_:h<ab0 L) (l:List Int),pX w (L.set h l)+ab0 (lvl L h) * (2 ^ h * w)=pX w L+ab0 l * (2 ^ h * w)
 | x::L,w,0,_,l=>by
  rw[bS,pX,pX];simp only[lvl,eh,Nat.pow_zero,gZ];omega
 | x::L,w,h+1,hh,l=>by
  have:=BN L (2 * w) h (by simpa using hh) l;rw[bR,pX,pX,cC,ej (2 ^ h) 2 w];simp only[lvl,ee] at this |-;omega
def Hc(L:LL)(h:Nat)(z:List Int):wt (lN L h z)=wt L+ab0 z * 2 ^ h:=by
 have y:=BN (ext L h) 1 h (by rw[mF];omega) (insL (lvl L h) z);rw[tT,oO,cW,eD] at y;have x:=Tq L h;unfold wt at x |-;unfold lN;omega
def Ts(L:LL)(h:Nat)(z:h<ab0 L)(l:List Int):wt (L.set h l)+ab0 (lvl L h) * 2 ^ h=wt L+ab0 l * 2 ^ h:=by
 have:=BN L 1 h z l;rw[cW] at this;exact this
def Hd:∀(L:LL) (w h:Nat),ab0 (lvl L h) * (2 ^ h * w)<=pX w L
 | [],w,h=>by simp[lvl,pX]
 | x::L,w,0=>by rw[pX];simp only[lvl,eh,Nat.pow_zero,gZ];omega
 | x::L,w,h+1=>by
  have:=Hd L (2 * w) h;rw[pX,cC,ej (2 ^ h) 2 w];simp only[lvl,ee] at this |-;omega
def thin(c:Nat):Nat:=(2 * c+2) / 3
def nm:Nat->Nat->Nat
 | 0,c=>c
 | j+1,c=>nm j (thin c)
def room(k len h:Nat):Nat:=if h<len then max (nm (len - 1 - h) k) 2 else 0
def tU:∀(j c:Nat),2<=c->nm j c<=c/\2<=nm j c
 | 0,c,h=>⟨aD _,h⟩
 | j+1,c,h=>by
  have y:thin c<=c:=by unfold thin;omega
  have z:2<=thin c:=by unfold thin;omega
  have:=tU j (thin c) z;rw[nm];omega
def room_le(z:2<=k):room k len h<=k:=by
 unfold room;have:=tU (len - 1 - h) k z;split<;>omega
def xt(z:h<len):2<=room k len h:=by
 unfold room;rw[aH z];omega
def BO(k:Nat)(L:LL)(h:Nat):Bool:=decide (room k (ab0 L) h<ab0 (lvl L h))
def jo(k:Nat)(L:LL):Option Nat:=(List.range (ab0 L)).find? (BO k L)
def N_(l:List Int)(K_:Nat):List Int:=(List.range (ab0 l / 2)).map λi=>l.getD (2 * i+K_) 0
def m8(l:List Int):List Int:=l.drop (2 * (ab0 l / 2))
def mu(L:LL)(h K_:Nat):LL:=lN (L.set h (m8 (lvl L h))) (h+1) (N_ (lvl L h) K_)
def qh(l:List Int)(c:Nat):ab0 (N_ l c)=ab0 l / 2:=by simp[N_]
def rj(l:List Int):ab0 (m8 l)=ab0 l % 2:=by unfold m8;rw[aW];omega
def lE{L:LL}(e:jo k L=some h):h<ab0 L/\room k (ab0 L) h<ab0 (lvl L h)/\∀j,j<h->ab0 (lvl L j)<=room k (ab0 L) j:=by
 unfold jo at e;obtain⟨u,z,p,y,t⟩:=List.find?_eq_some_iff_append.1 e;have q:h∈List.range (ab0 L):=by rw[y];simp
 have g:ab0 z=h:=by
  have x:ab0 z<ab0 (List.range (ab0 L)):=by rw[y];simp
  have:(List.range (ab0 L))[ab0 z]'x=h:=by simp[y]
  rw[List.getElem_range] at this;exact this
 refine⟨eG.1 q,by simpa[BO] using u,λj v=>?_⟩;have s:j∈z:=by
  have x:j<ab0 z:=aa;have:z[j]=j:=by
   have v:(z++h::p)[j]' ae =z[j]:=da x;rw[<-v];have r:j<ab0 (List.range (ab0 L)):=by rw[y];simp;omega
   have:(List.range (ab0 L))[j]'r=j:=ad;simpa[y] using this
  rw[<-this];exact aP x
 have:=t j s;simpa[BO] using this
def qi{L:LL}(e:jo k L=none):∀j,j<ab0 L->ab0 (lvl L j)<=room k (ab0 L) j:=by
 intro j z;have:=List.find?_eq_none.1 e j (eG.2 z);simpa[BO] using this
def D5{L:LL}(y:h<ab0 L)(t:room k (ab0 L) h<ab0 (lvl L h))(x:∀j,j<h->ab0 (lvl L j)<=room k (ab0 L) j):jo k L=some h:=by
 cases e:jo k L with
 | none=>have:=qi e h y;omega
 | some h'=>
  obtain⟨v,u,z⟩:=lE e;rcases Nat.lt_trichotomy h h' with c|c|c
  .have:=z h c;omega
  .rw[c]
  .have:=x h' c;omega
def mQ{L:LL}(h:∀j,j<ab0 L->ab0 (lvl L j)<=room k (ab0 L) j):jo k L=none:=by
 cases e:jo k L with
 | none=>rfl
 | some h'=>
  obtain⟨z,y,_⟩:=lE e;have:=h h' z;omega
def AF{L:LL}(y:h<ab0 L)(c:Nat):cnt (mu L h c)+ab0 (lvl L h) / 2=cnt L:=by
 have z:=xr L h y (m8 (lvl L h));rw[rj] at z;unfold mu;rw[oP,qh];omega
def D6{L:LL}(y:h<ab0 L)(c:Nat):wt (mu L h c)=wt L:=by
 have z:=Ts L h y (m8 (lvl L h));rw[rj] at z;unfold mu;rw[Hc,qh,cC];have x:ab0 (lvl L h) * 2 ^ h=ab0 (lvl L h) % 2 * 2 ^ h+ab0 (lvl L h) / 2 * (2 ^ h * 2):=by
  conv=>lhs;rw[<-Nat.mod_add_div (ab0 (lvl L h)) 2]
  rw[eD,cJ 2,ej,cJ 2]
 omega
def BP(L:LL)(h c:Nat):ab0 (mu L h c)=max (ab0 L) (h+2):=by unfold mu;rw[jd,aZ]
def i5(B:List Int)(a:Nat):Nat:=if a<8 * ab0 B then(B.getD (a / 8) 0 / 2 ^ (a % 8) % 2).toNat else 0
def jP(B:List Int)(a:Nat):Nat:=if a<8 * ab0 B then a+1 else a
def rX(B:List Int)(a:Nat):i5 B a<=1:=by
 unfold i5;split
 .have:=cO (B.getD (a / 8) 0 / 2 ^ (a % 8)) (show(0:Int)<2 by decide)
  omega
 .omega
abbrev KS:=LL × Nat × Nat
def kO(B:List Int)(h:Nat)(s:KS):KS:=(mu s.1 h (i5 B s.2.2),min (s.2.1+2 ^ h) 4611686018427387904,jP B s.2.2)
def tV(k:Nat)(B:List Int):Nat->KS->KS
 | 0,s=>s
 | f+1,s=>match jo k s.1 with
  | none=>s
  | some h=>tV k B f (kO B h s)
def je(k:Nat)(B:List Int)(s:KS):KS:=tV k B (cnt s.1) s
def nO{s:KS}(e:jo k s.1=some h):cnt (kO B h s).1+1<=cnt s.1:=by
 obtain⟨z,y,_⟩:=lE e;have:=xt (k:=k) z;have:=AF z (i5 B s.2.2);show cnt (mu s.1 h (i5 B s.2.2))+1<=_
 omega
def yJ(k:Nat)(B:List Int):∀(f g:Nat) (s:KS),cnt s.1<=f->f<=g->tV k B g s=tV k B f s
 | 0,g,s,h1,_=>by
  have e:jo k s.1=none:=by
   cases e:jo k s.1 with
   | none=>rfl
   | some h=>have:=nO (B:=B) e;omega
  cases g with
  | zero=>rfl
  | succ g=>simp only[tV,e]
 | f+1,g,s,h1,h2=>by
  obtain⟨g,rfl⟩:∃z,g=z+1:=⟨g - 1,aa⟩;simp only[tV];cases e:jo k s.1 with
  | none=>rfl
  | some h=>
   have:=nO (B:=B) e;exact yJ k B f g _ aa  aa
def qj{s:KS}(e:jo k s.1=none):je k B s=s:=by
 unfold je;cases h:cnt s.1 with
 | zero=>rfl
 | succ f=>simp only[tV,e]
def sX{s:KS}(e:jo k s.1=some h):je k B s=je k B (kO B h s):=by
 have x:=nO (B:=B) e;have z:je k B s=tV k B (cnt s.1 - 1) (kO B h s):=by
  unfold je;obtain⟨f,y⟩:∃f,cnt s.1=f+1:=⟨cnt s.1 - 1,aa⟩;rw[y];simp only[tV,e];rfl
 rw[z];exact yJ k B _ _ _ (aD _) aa
def vf{k:Nat}{B:List Int}{P:KS->Prop}(z:∀s h,P s->jo k s.1=some h->P (kO B h s)):∀(n:Nat) (s:KS),cnt s.1<=n->P s->P (je k B s)/\jo k (je k B s).1=none
 | n,s,hn,hs=>by
  cases e:jo k s.1 with
  | none=>rw[qj e];exact⟨hs,e⟩
  | some h=>
   have y:=nO (B:=B) e;rw[sX e]
   match n,hn with
   | 0,hn=>omega
   | n+1,hn=>exact vf z n _ aa (z s h hs e)
def sY{P:KS->Prop}(y:∀s h,P s->jo k s.1=some h->P (kO B h s)){s:KS}(z:P s):P (je k B s):=(vf y _ s (aD _) z).1
def He(k:Nat)(B:List Int)(s:KS):jo k (je k B s).1=none:=(vf (P:=λ_=>True) (λ_ _ _ _=>trivial) _ s (aD _) trivial).2
def pe:Nat->Nat->Nat->LL->Int->LL
 | 0,_,_,L,_=>L
 | f+1,h,m,L,v=>if m=0 then L else pe f (h+1) (m / 2) (if m % 2=1 then lN L h [v] else L) v
def jD(L:LL)(v:Int)(n:Nat):LL:=pe 64 0 n L v
def AG:∀(f h:Nat) (L:LL) (v:Int),pe f h 0 L v=L
 | 0,_,_,_=>rfl
 | f+1,_,_,_=>by rw[pe,aH rfl]
def Jn:∀(f h m:Nat) (L:LL) (v:Int),m<2 ^ f->wt (pe f h m L v)=wt L+m * 2 ^ h
 | 0,h,m,L,v,hm=>by
  obtain rfl:m=0:=aa;simp[pe]
 | f+1,h,m,L,v,hm=>by
  rw[pe];by_cases z:m=0
  .rw[aH z,z];simp
  .rw[aF z,Jn f (h+1) (m / 2) _ v (by rw[cC] at hm;omega)]
   have e:m * 2 ^ h=m % 2 * 2 ^ h+m / 2 * 2 ^ (h+1):=by
    conv=>lhs;rw[<-Nat.mod_add_div m 2]
    rw[eD,cC,cJ 2 (m / 2),ej,cJ 2]
   split
   .rename_i y
    rw[Hc,e,y];simp only[bh];omega
   .have:m % 2=0:=aa
    rw[e,this];omega
def BQ{n:Nat}(L:LL)(v:Int)(z:n<18446744073709551616):wt (jD L v n)=wt L+n:=by
 unfold jD;rw[Jn 64 0 n L v aa];simp
def D7:∀(f h m:Nat) (L:LL) (v:Int),cnt (pe f h m L v)<=cnt L+f
 | 0,h,m,L,v=>aD _
 | f+1,h,m,L,v=>by
  rw[pe];split
  .omega
  .refine bf (D7 f _ _ _ v) ?_
   split
   .rw[oP];simp only[bh];omega
   .omega
def N'(L:LL)(v:Int)(n:Nat):cnt (jD L v n)<=cnt L+64:=D7 64 0 n L v
def vg{P:LL->Prop}{v:Int}(z:∀L h,P L->P (lN L h [v])):∀(f h m:Nat) (L:LL),P L->P (pe f h m L v)
 | 0,_,_,_,hp=>hp
 | f+1,h,m,L,hp=>by
  rw[pe];split
  .exact hp
  .refine vg z f _ _ _ ?_
   split
   .exact z L h hp
   .exact hp
def D8(L:LL):Prop:=0<ab0 L->lvl L (ab0 L - 1)≠[]
def xu(h:vs≠[]\/l≠[]):insL l vs≠[]:=by
 intro e;have:=bu List.length e;rw[oO,aY] at this;rcases h with h|h
 .exact h (aV aa)
 .exact h (aV aa)
def D8.put{L:LL}(z:D8 L)(h:Nat)(y:vs≠[]):D8 (lN L h vs):=by
 intro x;rw[jd,l_];split
 .exact xu (.inl y)
 .rename_i v
  have:max (ab0 L) (h+1)=ab0 L:=aa;rw[this];exact z aa
def D8.pack{L:LL}(y:D8 L)(z:h<ab0 L)(v:2<=ab0 (lvl L h))(c:Nat):D8 (mu L h c):=by
 intro x;rw[BP];unfold mu;rw[l_];split
 .refine xu (.inl λe=>?_)
  have:=bu List.length e;rw[qh,aY] at this;omega
 .rename_i u
  rw[nF _ _ _ _ z,aF aa,show max (ab0 L) (h+2)=ab0 L by omega];exact y aa
def D8.add{L:LL}(y:D8 L)(v:Int)(n:Nat):D8 (jD L v n):=vg (λ_ h z=>z.put h ad) 64 0 n L y
def QW{L:LL}(v:D8 L)(u:wt L<=281474976710656):ab0 L<=49:=by
 rcases bo (ab0 L) with z|z
 .omega
 .have t:=Hd L 1 (ab0 L - 1)
  have x:1<=ab0 (lvl L (ab0 L - 1)):=eR.2 (v z);rcases bm 49 (ab0 L) with y|y
  .exfalso
   have s:2 ^ 49<=2 ^ (ab0 L - 1):=bM ab aa;have r:1 * (2 ^ (ab0 L - 1) * 1)<=ab0 (lvl L (ab0 L - 1)) * (2 ^ (ab0 L - 1) * 1):=cN _ x;unfold wt at u;omega
  .exact y
def takeN(M:LL):Nat->LL->LL
 | 0,L=>L
 | j+1,L=>lN (takeN M j L) j (lvl M j)
def jT(L M:LL):LL:=takeN M (ab0 M) L
def D9(M L:LL):∀j,j<=ab0 M->wt (takeN M j L)=wt L+pX 1 (M.take j)
 | 0,_=>by simp[takeN,pX]
 | j+1,hj=>by
  rw[takeN,Hc,D9 M L j aa,aM aa,oj,aU,dM aa,kZ aa];simp[pX,de]
def tW(L M:LL):wt (jT L M)=wt L+wt M:=by
 unfold jT;rw[D9 M L (ab0 M) (aD _),cK];rfl
def rY(M L:LL):∀j,j<=ab0 M->cnt (takeN M j L)=cnt L+cnt (M.take j)
 | 0,_=>by simp[takeN,cnt]
 | j+1,hj=>by
  rw[takeN,oP,rY M L j aa,aM aa,oh,kZ aa];simp[cnt,de]
def K'(L M:LL):cnt (jT L M)=cnt L+cnt M:=by
 unfold jT;rw[rY M L (ab0 M) (aD _),cK]
def kS(M L:LL):∀j,ab0 (takeN M j L)=max (ab0 L) j
 | 0=>by simp[takeN]
 | j+1=>by rw[takeN,jd,kS M L j];omega
def pG(M L:LL):∀j i,lvl (takeN M j L) i=if i<j then insL (lvl L i) (lvl M i) else lvl L i
 | 0,i=>by simp[takeN]
 | j+1,i=>by
  rw[takeN,l_,pG M L j i,pG M L j j];by_cases e:i=j
  .subst e;rw[aH rfl,aF aa,aH aa]
  .rw[aF e]
   by_cases h:i<j
   .rw[aH h,aH aa]
   .rw[aF h,aF aa]
def D8.take{L M:LL}(x:D8 L)(s:D8 M):D8 (jT L M):=by
 intro u;have v:=kS M L (ab0 M);unfold jT at u |-;rw[v,pG]
 rcases bm (ab0 L - 1) (ab0 M) with t|t
 .rcases bo (ab0 M) with y|y
  .omega
  .rw[aH aa]
   rcases bm (ab0 M) (ab0 L) with z|z
   .have:max (ab0 L) (ab0 M) - 1=ab0 L - 1:=aa
    rw[this];exact xu (.inr (x aa))
   .have:max (ab0 L) (ab0 M) - 1=ab0 M - 1:=aa
    rw[this];exact xu (.inl (s y))
 .have z:max (ab0 L) (ab0 M) - 1=ab0 L - 1:=aa
  rw[z,aF aa];exact x aa
def iY:vT Int where
 k:=1
 t:=2
 enc x:=[af6 x]
 len _:=rfl
 one x u hu:=by
  simp only[aS,cx,or_false] at hu;subst hu;rfl
abbrev Sv:=Option Addr × Nat × Nat
def jc(s:Sv):Value:=.slice s.1 s.2.1 s.2.2
def rZ:vT Sv where
 k:=1
 t:=196
 enc s:=[jc s]
 len _:=rfl
 one x u hu:=by
  simp only[aS,cx,or_false] at hu;subst hu;rfl
def _root_.Go.Proofs.YtdicblkhpcphfaaGreat.ky.i64(h:ky iY w A l)(u:j<ab0 l):∃g z,A=some (af7 g z)/\g<w.heap.size/\w.cell? (af7 g (z+j))=some (af6 l[j]):=by
 obtain⟨g,z,y,v,x⟩:=h aa;refine⟨g,z,y,v,?_⟩;have:=x j u 0 ab;rw[show z+j * iY.k+0=z+j by show z+j * 1+0=_;omega] at this;exact this
def _root_.Go.Proofs.YtdicblkhpcphfaaGreat.ky.sl{l:List Sv}(h:ky rZ w A l)(u:j<ab0 l):∃g z,A=some (af7 g z)/\g<w.heap.size/\w.cell? (af7 g (z+j))=some (jc l[j]):=by
 obtain⟨g,z,y,v,x⟩:=h aa;refine⟨g,z,y,v,?_⟩;have:=x j u 0 ab;rw[show z+j * rZ.k+0=z+j by show z+j * 1+0=_;omega] at this;exact this
def pH:∀l:List Int,cellsE iY l=l.map (Value.int .i64)
 | []=>rfl
 | x::l=>by rw[i9,pH l];rfl
structure BS(F:Nat->Prop)(w:World)(lv:Value)(vs:List Sv)(L:LL):Prop where
 row:g8 rZ 0 w lv vs
 len:ab0 vs=ab0 L
 each:∀i (h:i<ab0 vs),g8 iY 0 w (jc vs[i]) (lvl L i)
 apart:∀i (h:i<ab0 vs) k,(jc vs[i]).ownBlock=some k->lv.ownBlock≠some k
 diff:∀i j (hi:i<ab0 vs) (hj:j<ab0 vs),i≠j->∀k,(jc vs[i]).ownBlock=some k->(jc vs[j]).ownBlock≠some k
 fl:∀k,lv.ownBlock=some k->F k
 fv:∀i (h:i<ab0 vs) k,(jc vs[i]).ownBlock=some k->F k
section
variable {F : Nat -> Prop} {w w' : World} {lv : Value} {vs : List Sv} {L : LL}
def BS.stay(h:BS F w lv vs L)(y:∀k,F k->w'.heap[k]?=w.heap[k]?):BS F w' lv vs L:=
 ⟨h.row.stay λk e=>y k (h.fl k e),h.len,λi z=>(h.each i z).stay λk e=>y k (h.fv i z k e),h.apart,h.diff,h.fl,h.fv⟩
def BS.lt(h:BS F w lv vs L){i:Nat}(z:i<ab0 vs):∀k,(jc vs[i]).ownBlock=some k->k<w.heap.size:=λk e=>((h.each i z).lt k e).2
def BS.M{G:Nat->Prop}(h:BS F w lv vs L)(z:∀k,F k->G k):BS G w lv vs L:=⟨h.row,h.len,h.each,h.apart,h.diff,λk e=>z k (h.fl k e),λi y k e=>z k (h.fv i y k e)⟩
end
structure mR(t:TypeId)(a:Value)(rest:List Value)(F:Nat->Prop)(w:World)(g:Nat)(lv:Value)(vs:List Sv)(L:LL):Prop where
 blk:g7 w g t (a::lv::rest).toArray
 iN:BS F w lv vs L
 fg:F g
 g1:lv.ownBlock≠some g
 g2:∀i (h:i<ab0 vs),(jc vs[i]).ownBlock≠some g
 low:∀k,F k->k<w.heap.size
section
variable {t : TypeId} {a : Value} {rest : List Value} {F : Nat -> Prop} {w w' : World} {g : Nat} {lv : Value} {vs : List Sv} {L : LL}
variable{b c:Value}{r:List Value}{w1:World}{l':List Int}{j:Nat}
def mR.stay(h:mR t a rest F w g lv vs L)(z:∀k,F k->w'.heap[k]?=w.heap[k]?)(x:w.heap.size<=w'.heap.size):mR t a rest F w' g lv vs L:=
 ⟨(z g h.fg).T h.blk,h.iN.stay z,h.fg,h.g1,h.g2,λk y=>aG (h.low k y) x⟩
def mR.K(h:mR t a rest F w g lv vs L)(z:af3 w w'):mR t a rest F w' g lv vs L:=h.stay (λk y=>z.block k (h.low k y)) z.size
def mR.cell0(h:mR t a rest F w g lv vs L):w.cell? (af7 g 0)=some a:=by rw[h.blk.C 0];simp
def mR.cell1(h:mR t a rest F w g lv vs L):w.cell? (af7 g 1)=some lv:=by rw[h.blk.C 1];simp
def mR.cell2(h:mR t a (b::r) F w g lv vs L):w.cell? (af7 g 2)=some b:=by rw[h.blk.C 2];simp
def mR.AH(h:mR t a (b::c::r) F w g lv vs L):w.cell? (af7 g 3)=some c:=by rw[h.blk.C 3];simp
def mR.form(h:mR t a rest F w g lv vs L):∃A c,lv=.slice A (ab0 L) c/\ab0 L<=c/\c<=9223372036854775807/\ky rZ w A vs:=by
 obtain⟨A,c,e,z,y,x⟩:=h.iN.row.form;rw[h.iN.len] at e z;exact⟨A,c,e,z,y,x⟩
def mR.Hf(h:mR t a (b::r) F w g lv vs L)(u:Value):mR t a (u::r) F (w.setCell (af7 g 2) u) g lv vs L:=by
 have z:∀k,k≠g->(w.setCell (af7 g 2) u).heap[k]?=w.heap[k]?:=λk z=>a_ w (af7 g 2) u k z;refine⟨?_,⟨h.iN.row.stay λk e=>z k (λy=>h.g1 (by rw[e,y])),h.iN.len,λi x=>(h.iN.each i x).stay λk e=>z k (λy=>h.g2 i x (by rw[e,y])),h.iN.apart,h.iN.diff,h.iN.fl,h.iN.fv⟩,h.fg,h.g1,h.g2,λk y=>by have:=h.low k y;simpa using this⟩;have:=h.blk.hJ 2 u;simpa using this
def mR.Tt(h:mR t a (b::c::r) F w g lv vs L)(u:Value):mR t a (b::u::r) F (w.setCell (af7 g 3) u) g lv vs L:=by
 have z:∀k,k≠g->(w.setCell (af7 g 3) u).heap[k]?=w.heap[k]?:=λk z=>a_ w (af7 g 3) u k z;refine⟨?_,⟨h.iN.row.stay λk e=>z k (λy=>h.g1 (by rw[e,y])),h.iN.len,λi x=>(h.iN.each i x).stay λk e=>z k (λy=>h.g2 i x (by rw[e,y])),h.iN.apart,h.iN.diff,h.iN.fl,h.iN.fv⟩,h.fg,h.g1,h.g2,λk y=>by have:=h.low k y;simpa using this⟩;have:=h.blk.hJ 3 u;simpa using this
def mR.more{tX:Value}(h:mR t a rest F w g lv vs L)(c:g8 rZ 0 w1 tX (vs++[(none,0,0)]))(q:w.grownBy w1 lv.ownBlock)(d:tX.ownBlock=lv.ownBlock\/tX.ownBlock=some w.heap.size):mR t a rest (λk=>F k\/tX.ownBlock=some k) (w1.setCell (af7 g 1) tX) g tX (vs++[(none,0,0)]) (L++[[]]):=by
 have V:=h.blk.lt;have S:w.heap.size<=w1.heap.size:=q.size;have p:tX.ownBlock≠some g:=by
  rcases d with e|e
  .rw[e];exact h.g1
  .rw[e];intro x;injection x with x;omega
 have Y:∀k,k<w.heap.size->lv.ownBlock≠some k->k≠g->(w1.setCell (af7 g 1) tX).heap[k]?=w.heap[k]?:=λk z v r=>
  (a_ w1 (af7 g 1) tX k r).T (q.block k z (λe=>v e.Y))
 have s:∀i (y:i<ab0 (vs++[((none,0,0):Sv)])),∀k,(jc ((vs++[((none,0,0):Sv)])[i])).ownBlock=some k->∃f:i<ab0 vs,(jc vs[i]).ownBlock=some k:=λi y k e=>by
  rcases bm i (ab0 vs) with z|z
  .rw[da z] at e;exact⟨z,e⟩
  .rw[cU z] at e
   simp[jc,Value.ownBlock] at e
 have X:∀i (y:i<ab0 vs) k,(jc vs[i]).ownBlock=some k->tX.ownBlock≠some k:=λi y k e=>by
  rcases d with x|x
  .rw[x];exact h.iN.apart i y k e
  .rw[x];intro u;injection u with u;have:=h.iN.lt y k e;omega
 refine⟨?_,⟨?_,by rw[aE,aE,h.iN.len];rfl,λi y=>?_,λi y k e=>?_,λi j y T U k e x=>?_,λk e=>.inr e,λi y k e=>?_⟩,.inl h.fg,p,λi y e=>?_,λk u=>?_⟩
 .have z:g7 w1 g t (a::lv::rest).toArray:=(q.block g V (λe=>h.g1 e.Y)).T h.blk
  have:=z.hJ 1 tX;simpa using this
 .exact c.far p tX
 .rcases bm i (ab0 vs) with z|z
  .rw[da z]
   have e:lvl (L++[[]]) i=lvl L i:=by
    unfold lvl;simp only[List.getD];rw[cD (by rw[<-h.iN.len];exact z)]
   rw[e];exact(h.iN.each i z).stay λk e=>Y k (h.iN.lt z k e) (h.iN.apart i z k e) (λx=>h.g2 i z (by rw[e,x]))
  .have f:i=ab0 vs:=by rw[aE] at y;simp only[bh] at y;omega
   subst f;have e:lvl (L++[[]]) (ab0 vs)=[]:=by
    unfold lvl;simp only[List.getD];rw[h.iN.len,cI (aD _)];simp
   rw[e];simp only[cU (aD _),cZ,bZ];exact g8.nil_ _ _
 .obtain⟨z,v⟩:=s i y k e
  exact X i z k v
 .obtain⟨z,v⟩:=s i y k e
  obtain⟨r,b⟩:=s j T k x;exact h.iN.diff i j z r U k v b
 .obtain⟨z,v⟩:=s i y k e
  exact .inl (h.iN.fv i z k v)
 .obtain⟨z,v⟩:=s i y g e
  exact h.g2 i z v
 .rcases u with u|u
  .have:=h.low k u;simp;omega
  .have:=(c.lt k u).2;simpa using this
def mR.level{s':Sv}(h:mR t a rest F w g lv vs L)(f:j<ab0 L){gl cl n:Nat}(R:lv=.slice (some (af7 gl 0)) n cl)
 (P:g8 iY 0 w1 (jc s') l') (S:∀k,k<w.heap.size->(jc (vs[j]'(by rw[h.iN.len];exact f))).ownBlock≠some k->w1.heap[k]?=w.heap[k]?) (D:w.heap.size<=w1.heap.size)
 (I:(jc s').ownBlock=(jc (vs[j]'(by rw[h.iN.len];exact f))).ownBlock\/∀k,(jc s').ownBlock=some k->w.heap.size<=k) :
 mR t a rest (λk=>F k\/(jc s').ownBlock=some k) (w1.setCell (af7 gl j) (jc s')) g lv (vs.set j s') (L.set j l'):=by
 have u:j<ab0 vs:=by rw[h.iN.len];exact f
 have s:lv.ownBlock=some gl:=by rw[R];rfl
 have T:gl<w.heap.size:=(h.iN.row.lt gl s).2;have K:∀k,(jc vs[j]).ownBlock=some k->k≠gl:=λk e y=>h.iN.apart j u k e (by rw[s,y]);have c:∀k,(jc s').ownBlock=some k->(k<w.heap.size->(jc vs[j]).ownBlock=some k):=λk e d=>by
  rcases I with y|y
  .rw[<-y];exact e
  .have:=y k e;omega
 have O:(jc s').ownBlock≠some gl:=λe=>h.iN.apart j u gl (c gl e T) s;have E:(jc s').ownBlock≠some g:=λe=>h.g2 j u (c g e h.blk.lt);have U:∀k,k<w.heap.size->(jc vs[j]).ownBlock≠some k->k≠gl->(w1.setCell (af7 gl j) (jc s')).heap[k]?=w.heap[k]?:=λk b N M=>
  (a_ w1 (af7 gl j) _ k M).T (S k b N)
 have H:∀i (z:i<ab0 vs),i≠j->g8 iY 0 (w1.setCell (af7 gl j) (jc s')) (jc vs[i]) (lvl L i):=λi z J=>
  (h.iN.each i z).stay λk e=>U k (h.iN.lt z k e) (h.iN.diff i j z u J k e) (λy=>h.iN.apart i z k e (by rw[s,y]))
 have G:g8 rZ 0 (w1.setCell (af7 gl j) (jc s')) lv (vs.set j s'):=by
  have b:g8 rZ 0 w1 lv vs:=h.iN.row.stay λk e=>by
   rw[s] at e;injection e with e;subst e;exact S _ T (λy=>K _ y rfl)
  have:=b;rw[R] at this |-;have:=this.hJ j u s';rw[show j * rZ.k=j by show j * 1=j;omega] at this
  exact this
 have r:∀i (z:i<ab0 (vs.set j s')),(vs.set j s')[i]=if i=j then s' else vs[i]'(by rw[aZ] at z;exact z):=λi z=>by
  rw[fy];by_cases e:j=i
  .subst e;simp
  .rw[aF e,aF (λV=>e V.Y)]
 refine⟨?_,⟨G,by rw[aZ,aZ,h.iN.len],λi z=>?_,λi z k e=>?_,λi p z Y Q k e y=>?_,λk e=>.inl (h.iN.fl k e),λi z k e=>?_⟩,.inl h.fg,h.g1,λi z e=>?_,λk q=>?_⟩
 .exact(U g h.blk.lt (h.g2 j u) (λe=>h.g1 (by rw[s,e]))).T h.blk
 .have v:i<ab0 vs:=by rw[aZ] at z;exact z
  rw[r i z,nF _ _ _ _ f];by_cases e:i=j
  .rw[aH e,aH e]
   exact P.far O _
  .rw[aF e,aF e]
   exact H i v e
 .have v:i<ab0 vs:=by rw[aZ] at z;exact z
  rw[r i z] at e;by_cases x:i=j
  .rw[aH x] at e
   intro y;rw[s] at y;injection y with y;subst y;exact O e
  .rw[aF x] at e;exact h.iN.apart i v k e
 .have v:i<ab0 vs:=by rw[aZ] at z;exact z
  have X:p<ab0 vs:=by rw[aZ] at Y;exact Y
  rw[r i z] at e;rw[r p Y] at y;by_cases x:i=j
  .rw[aH x] at e
   rw[aF (λV=>Q aa)] at y;have d:=h.iN.lt X k y;exact h.iN.diff j p u X aa k (c k e d) y
  .rw[aF x] at e
   by_cases Y:p=j
   .rw[aH Y] at y
    have d:=h.iN.lt v k e;exact h.iN.diff i j v u x k e (c k y d)
   .rw[aF Y] at y
    exact h.iN.diff i p v X Q k e y
 .have v:i<ab0 vs:=by rw[aZ] at z;exact z
  rw[r i z] at e;by_cases x:i=j
  .rw[aH x] at e;exact .inr e
  .rw[aF x] at e;exact .inl (h.iN.fv i v k e)
 .have v:i<ab0 vs:=by rw[aZ] at z;exact z
  rw[r i z] at e;by_cases x:i=j
  .rw[aH x] at e;exact E e
  .rw[aF x] at e;exact h.g2 i v e
 .rcases q with q|q
  .have:=h.low k q;simp;omega
  .have:=(P.lt k q).2;simpa using this
def mR.turn(h:mR t a rest F w g lv vs L)(y:j<ab0 L)(r:g8 iY 0 w' (jc (vs[j]'(by rw[h.iN.len];exact y))) l')
 (u:∀k,k<w.heap.size->(jc (vs[j]'(by rw[h.iN.len];exact y))).ownBlock≠some k->w'.heap[k]?=w.heap[k]?) (q:w.heap.size<=w'.heap.size):mR t a rest F w' g lv vs (L.set j l'):=by
 have v:j<ab0 vs:=by rw[h.iN.len];exact y
 refine⟨(u g h.blk.lt (h.g2 j v)).T h.blk,⟨h.iN.row.stay λk e=>u k (h.iN.row.lt k e).2 (λz=>h.iN.apart j v k z e),by rw[aZ];exact h.iN.len,λi x=>?_,h.iN.apart,h.iN.diff,h.iN.fl,h.iN.fv⟩,h.fg,h.g1,h.g2,λk s=>aG (h.low k s) q⟩;rw[nF _ _ _ _ y];by_cases e:i=j
 .subst e;rw[aH rfl];exact r
 .rw[aF e]
  exact(h.iN.each i x).stay λk z=>u k (h.iN.lt x k z) (h.iN.diff i j x v e k z)
end
