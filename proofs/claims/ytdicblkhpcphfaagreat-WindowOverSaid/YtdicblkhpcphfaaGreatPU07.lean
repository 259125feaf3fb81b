/- Parts. -/
import Derived.Test.YtdicblkhpcphfaaGreatPU06
set_option maxRecDepth 100000
set_option maxHeartbeats 0
set_option linter.all false
namespace Go.Proofs.YtdicblkhpcphfaaGreat
open Tryz Go.RowKit Go.Lib
open _root_.List renaming length→ab0
open Go.IntKind renaming wrap→ad0
open _root_.Go renaming Calls→af4
open Tryz renaming prog→af5
section
def MZ(p:ByteArray)(N:List Int)(K G:Nat->Nat)(S:Nat->Int)(y:Nat->List Int)(v:Value)(w:World)(d:jC .u64 w v N)(hsz:p.size=ab0 N)(m:ab0 N<=64)(s:y 0=[])
 (t:∀(j:Nat) (h:j<p.size) (w:World),af4 af5 276 #[.int .u8 ((p[j]'h).toNat:Int)] w λe z=>e=.returned (.tuple #[.agg #[.int .u8 ((p[j]'h).toNat:Int),af6 (S j),.func (.func (K j)) #[] #[],.func (.func (G j)) #[] #[]],.bool true])/\af3 w z)
 (u:∀j,j<ab0 N->∀x w,(callFunc (K j) x).run prog w=.ok (.enter (K j) x) w)
 (r:∀(j:Nat) (h:j<ab0 N),S j=0\/S j=8\/(S j=1/\N[j] / 256=0)\/(S j=4/\N[j] / 4294967296=0))
 (q:∀(j:Nat) (h:j<ab0 N) (g x:Nat) (w:World),Wr 373 x w g (y j)->Calls prog (K j) #[aq g,.int .u64 N[j],af6 (S j)] w λe z=>e=.returned (.tuple #[])/\Wr 373 x z g (y (j+1))/\Below x w z) :
 af4 af5 195 #[.string p,v] w λe z=>∃v,e=.returned (.tuple #[v,af6 0])/\OwnB w.heap.size z v (y (ab0 N))/\af3 w z:=by
 obtain⟨A,l,rfl,h,o,f⟩:=d.form;have R:=ax f;have V:=ax t;have P:=ax r;have T:=ax q;have Y:=ax u;have U:=ax s;have x:=ax (C6 p K G S w aa t);clear d f t r q u s;go_in;go_wp21;refine RX x.o ?_;intro s J;have D:=J.size;go_wp21;have⟨g,t⟩:=ar (s.heap.size);have f:=ax (Wr.new 373 s w.heap.size D);have I:af3 w (s.alloc (.cells #[.slice none 0 0] 373)):=bw;rw[t] at f |-;generalize s.alloc (.cells #[.slice none 0 0] 373)=w2 at *;clear t x
 go_loopg [25] (ab0 N) (λq i wr=>∃j:Nat,q=ab0 N - j/\j<=ab0 N/\i=af6 j/\Hid (Wr 373 w.heap.size wr g (y j))/\af3 w wr)
 exact⟨0,rfl,aa,rfl,by rw[U.o];exact f,I⟩
 case round=>
  obtain⟨j,x,n,rfl,b,r⟩:=hrel;have Q:=ax x;have i:=r.size;clear x;by_cases t:j<ab0 N
  .have E:j<p.size:=aa
   have W:(j:Int)<(ab0 N:Int):=aa;obtain⟨L,B,rfl,H,q⟩:=R.o.at_ t;have F:=ax (V.o j E);have X:=ax (T.o j t g w.heap.size);have u:=Y.o j t;have M:=(r.C (p:=af7 L (B+j)) H).T q;have c:=P.o j t;have⟨x,a⟩:=ar (N[j]);have⟨k,d⟩:=ar (K j);rw[a] at M c X;rw[d] at F X u;have q1:ad0 .i64 8=8:=rfl;have q2:ad0 .i64 32=32:=rfl;clear a d q;rcases c with e|e|⟨e,d⟩|⟨e,d⟩<;>rw[e] at F X<;>clear e
   all_goals
    go_wp2_with (first
     | (go_at_call 276;refine RX (F.o _) ?_;intro w3 q;have hz3:=q.size)
     | (go_at_fn k;refine((X.o _ ((b.o.K q).K ((aC _ _).alloc (aD _) _))).M ?_);rintro e w4 ⟨rfl,a,C⟩;have Gp:=C.size;have O:=ax a;clear a))
    go_roundg (ab0 N - (j+1))
    exact⟨j+1,rfl,aa,af,O,bw⟩;have:=Q.o;omega
  .obtain rfl:j=ab0 N:=aa
   obtain⟨a,v,x,q⟩:=b.o;have c:=x.k0;have d:=ax q;clear x q;go_wp2;go_ret2;exact⟨v,rfl,d.o,r⟩
def put_any(k K:Nat)(c:UInt8)(n:Int)(u:List Int)(v:Value)(w:World)(h:VZ k (c.toNat:Int))(p:jC .u64 w v [n])(r:pZ k=K)
 (t:∀z w,(callFunc K z).run prog w=.ok (.enter K z) w)
 (q:∀(g z:Nat) (w:World),Wr 373 z w g []->Calls prog K #[aq g,.int .u64 n,af6 0] w λe y=>e=.returned (.tuple #[])/\Wr 373 z y g u/\Below z w y) :
 af4 af5 195 #[.string ⟨#[c]⟩,v] w λe y=>∃v,e=.returned (.tuple #[v,af6 0])/\OwnB w.heap.size y v u/\af3 w y:=
 MZ ⟨#[c]⟩ [n] (λ_=>K) (λ_=>sG k) (λ_=>0) (λj=>if j=0 then [] else u) v w p rfl ad rfl
  (λj x w=>by
   obtain rfl:j=0:=by have s:j<1:=x;omega
   rw[<-r];exact my k _ w h)
  (λ_ _=>t) (λ_ _=>.inl rfl)
  (λj x g z w f=>by
   obtain rfl:j=0:=by have s:j<1:=x;omega
   exact q g z w f)
end
section
variable{w w' w1 w2:World}{g:Nat}{F:Nat->Prop}{bs:List Int}
def zB(w:World)(g:Nat)(F:Nat->Prop)(bs:List Int):Prop:=
 ∃v,g7 w g 275 #[v]/\OwnB 0 w v bs/\F g/\(∀k,v.ownBlock=some k->F k)/\(∀k,F k->k<w.heap.size)
def zB.low(h:zB w g F bs):∀k,F k->k<w.heap.size:=by
 obtain⟨_,_,_,_,_,z⟩:=h;exact z
def zB.stay(h:zB w g F bs)(x:∀k,F k->w'.heap[k]?=w.heap[k]?)(q:w.heap.size<=w'.heap.size):zB w' g F bs:=by
 obtain⟨v,u,t,z,y,s⟩:=h;exact⟨v,(x g z).T u,hO.stay t (λk e=>x k (y k e)),z,y,λk r=>aG (s k r) q⟩
def zB.K(h:zB w g F bs)(z:af3 w w'):zB w' g F bs:=
 h.stay (λk y=>z.block k (h.low k y)) z.size
def zB.new(w:World):zB (w.alloc (.cells #[.slice none 0 0] 275)) w.heap.size (λk=>k=w.heap.size) []:=
 ⟨_,g7.new _ _ _,hO.nil_ _ _ _ _,rfl,λk e=>by simp[Value.ownBlock] at e,λk e=>by subst e;simp⟩
def nB(w:World)(g:Nat)(F:Nat->Prop)(bs:List Int)(w':World):Prop:=
 ∃F':Nat->Prop,(∀k,F' k->F k\/w.heap.size<=k)/\zB w' g F' bs/\Touch F w w'
def nB.T{F1:Nat->Prop}(z:∀k,F1 k->F k\/w.heap.size<=k)(y:Touch F w w1)(h:nB w1 g F1 bs w2):nB w g F bs w2:=by
 obtain⟨x,v,u,t⟩:=h;refine⟨x,λk r=>?_,u,y.T t (λi s=>z i s)⟩;rcases v k r with h|h
 .exact z k h
 .exact .inr (bf y.size h)
def nB.first(z:af3 w w1)(h:nB w1 g F bs w2):nB w g F bs w2:=
 nB.T (λ_ y=>.inl y) (Touch.of_below z (aD _)) h
def nB.put{v v':Value}{bs':List Int}(h:g7 w g 275 #[v])(p:OwnB 0 w v bs)(s:F g)(r:∀k,v.ownBlock=some k->F k)(q:∀k,F k->k<w.heap.size)
 (u:OwnB 0 w' v' bs') (x:w.grownBy w' v.ownBlock) (y:v'.ownBlock=v.ownBlock\/v'.ownBlock=some w.heap.size):nB w g F bs' (w'.setCell (af7 g 0) v'):=by
 have t:g7 w' g 275 #[v]:=(x.block g h.lt (λe=>h.Bl p ab e.Y)).T h;have f:=x.size;refine⟨λk=>F k\/v'.ownBlock=some k,?_,⟨v',t.hJ 0 v',u.far (λe=>t.Bl u ab e) _,.inl s,λk e=>.inr e,?_⟩,?_⟩
 .rintro k (z|z)
  .exact .inl z
  .rcases y with y|y
   .exact .inl (r k (by rw[<-y];exact z))
   .rw[y] at z;simp only[bg] at z;exact .inr aa
 .rintro k (z|z)
  .have:=q k z;simp only[bT];omega
  .have:=(hO.lt u k z).2;simpa using this
 .exact((Touch.refl F w).grown x (λk e=>.inl (r k e))).setCell (.inl s) _
def De(c:UInt8)(m:Int)(y:List Int)(g:Nat)(F:Nat->Prop)(z:List Int)(w:World)(h:zB w g F z)(K:ab0 z+ab0 y<=1000000000000)
 (x:∀(v:Value) (w:World),jC .u64 w v [m]->af4 af5 195 #[.string ⟨#[c]⟩,v] w λe u=>∃v,e=.returned (.tuple #[v,af6 0])/\OwnB w.heap.size u v y/\af3 w u) :
 af4 af5 201 #[aq g,.string ⟨#[c]⟩,.int .u64 m] w λe u=>e=.returned (.tuple #[])/\nB w g F (z++y) u:=by
 have H:=ax h;have V:=ax x;clear h x;go_in;go_wp21;refine WE (V.o _ _ (jC.ig _ _ _ _ _ rfl)) ?_;rintro Q P ⟨b,R⟩;have U:=ax b;have d:af3 w P:=((aC _ _).alloc (aD _) _).T (R.M ad);obtain⟨v,t,r,q,p,f⟩:=H.o.K d;have x:=ax t;have s:=ax r;have a:=ax q;have Y:=ax p;have X:=ax f;have T:=t.k0;clear b t r q p f
 go_wp2_with (first
  | (at_builtin
     go_must (refine kv rfl (.tmp 19) (.tmp 20) rfl 0 v z rfl s.o Q y rfl (hO.rd U.o) aa (bl _) ?_)
     intro I O q r p;obtain⟨M,J,f,_,_,_⟩:=(hO.rd q).form;generalize ab0 (z++y)=N at f;subst f;have b:=ax (nB.put x.o s.o a.o Y.o X.o q r p);have t:g7 O g 275 #[v]:=(r.block g x.o.lt (λe=>x.o.Bl s.o ab e.Y)).T x.o;have S:=t.k0;have L:=t.F 0;clear q r p t))
 refine ct (v:=.tuple #[]) (by simp[results,Tryz.results201,go_sem, *];try rfl) rfl ?_;exact⟨rfl,nB.first d b.o⟩
def nN(n:Int)(g:Nat)(F:Nat->Prop)(z:List Int)(w:World)(h:zB w g F z)(s:ab0 z<=900000000000)(x:0<=n)(u:n<18446744073709551616):af4 af5 201 #[aq g,.string ⟨#[118]⟩,.int .u64 n] w λe t=>e=.returned (.tuple #[])/\nB w g F (z++il n) t:=
 De 118 n (il n) g F z w h (aa2 (hM n)) (λv w y=>yf n v w y x u)
def uR(x m:Int)(g:Nat)(F:Nat->Prop)(z:List Int)(w:World)(h:zB w g F z)(q:ab0 z<=900000000000)(t:m=ub x)(y:-9223372036854775808<=x)(u:x<=9223372036854775807):af4 af5 201 #[aq g,.string ⟨#[122]⟩,.int .u64 m] w λe r=>e=.returned (.tuple #[])/\nB w g F (z++zg x) r:=by
 subst t;exact De 122 (ub x) (zg x) g F z w h (by have:=hM (oF x);unfold zg;omega) (λv w s=>yg x v w s y u)
end
section
def zB.drew{w:World}{g:Nat}{F:Nat->Prop}{bs:List Int}(h:zB w g F bs):zB w.drew g F bs:=h
def yh(x n:Int)(g:Nat)(F:Nat->Prop)(z:List Int)(w:World)(h:zB w g F z)(S:ab0 z<=800000000000)(V:-9223372036854775808<=x)(U:x<=9223372036854775807)(a:0<=n)(Y:n<18446744073709551616):af4 af5 203 #[aq g,.agg #[af6 x,.int .u64 n],.pointer none] w λe X=>e=.returned (.tuple #[])/\nB w g F (z++(zg x++il n)) X:=by
 have u:af3 w (w.alloc (.cells #[af6 x,.int .u64 n] 216)):=(aC _ _).alloc (aD _) _;have q:=ax (h.K u);have b:=ax h.low;clear h;go_in;go_wp21;refine RX (uR x _ g F z _ q.o aa (by rw[iy];rfl) V U) ?_;rintro s ⟨r,v,t,y⟩;have T:s.cell? (af7 (w.heap.size) 1)=some (.int .u64 n):=(y.C ad (λp=>by have:=b.o _ p;omega)).T (by simp[bW]);have c:ab0 (z++zg x)<=900000000000:=by rw[aE];have:=hM (oF x);unfold zg;omega
 have p:=ax v;have f:=ax t;have d:=ax y;clear v t y;go_wp21;refine RX (nN n g r (z++zg x) s f.o c a Y) ?_;intro t y;go_wp21;refine ct (v:=.tuple #[]) (by simp[results,Tryz.results203,go_sem, *];try rfl) rfl ?_;refine⟨rfl,nB.first u (nB.T p.o d.o ?_)⟩;rw[<-aN];exact y
def Gq(x n y:Int)(t s:Nat)(g:Nat)(F:Nat->Prop)(u:List Int)(w:World)(h:zB w g F u)(C:ab0 u<=800000000000)(A:x<=9223372036854775807)(E:0<=n)(D:n<18446744073709551616)
 (X:w.cell? (af7 t s)=some (af6 y)) (L:t<w.heap.size) (a:¬F t) (j:-9223372036854775808<=y) (l:y<=x) :
 af4 af5 203 #[aq g,.agg #[af6 x,.int .u64 n],.pointer (some (af7 t s))] w λe f=>e=.returned (.tuple #[])/\nB w g F (u++(il (x - y)++il n)) f:=by
 obtain⟨z,v⟩:∃z,z=w.alloc (.cells #[af6 x,.int .u64 n] 216):=⟨_,rfl⟩;have q:af3 w z:=by rw[v];exact(aC _ _).alloc (aD _) _
 have T:=ax (h.K q);have G:=ax h.low;have c:Hid (g7 z w.heap.size 216 #[af6 x,.int .u64 n]):=by show g7 _ _ _ _;rw[v];exact g7.new _ _ _
 have Q:=ax ((q.C (p:=af7 t s) L).T X);have R:=ax v;have Y:=c.o.lt;obtain⟨r,d⟩:=c.o.c2;have N:=ax r;have M:=ax d;have S:=ax a;have b:Hid (¬F w.heap.size):=ax (λV=>by have:=G.o _ V;omega);have U:=ax (show ad0 .u64 (ad0 .u64 x - ad0 .u64 y)=x - y by simp only[iy];omega);have J:t<z.heap.size:=aa;have H:ab0 (u++il (x - y))<=900000000000:=by rw[aE];have:=hM (x - y);omega
 clear h v r d X a;go_in;go_wp21;rw[<-R.o];have Z:=ax (λ(f:World) (v:(Touch F z) f)=>(aB ((v.C (o:=0) Y b.o).T N.o) (aB ((v.C (o:=s) J S.o).T Q.o) (U.o))));refine jh (Touch F z) (hQ 0 10 (ik 10 [])) ((Touch.refl F z).drew) ?_;iterate 10 refine ib ?_
 refine iz λK a=>?_;go_simp;refine RX (nN (x - y) g F u z.drew T.o.drew aa  aa  aa) ?_;rintro d ⟨F1,v,X,V⟩;have P:=ax v;have O:=ax X;have r:Hid (Touch F z d):=ax ((Touch.refl F z).drew.T V (λi I=>.inl I));clear v X V;refine a _ _ (r.o) ?_;refine g4 ?_;have I:d.cell? (af7 (w.heap.size) 1)=some (.int .u64 n):=(r.o.C Y b.o).T M.o;go_wp21;refine RX (nN n g F1 (u++il (x - y)) d O.o H E D) ?_;intro B V;go_wp21;refine ct (v:=.tuple #[]) (by simp[results,Tryz.results203,go_sem, *];try rfl) rfl ?_;refine⟨rfl,nB.first q (nB.T (F1:=F1) (λk X=>?_) r.o ?_)⟩
 .exact P.o k X
 .rw[<-aN];exact V
end
section
def pr(c n x:Int)(z:Nat)(u:Value)(y:List Int)(w:World)(b:z<=w.heap.size)(s:OwnB z w u y)(S:ab0 y<=1000000000000)(r:(c=118/\x=n/\0<=n/\n<18446744073709551616)\/(c=122/\n=ub x/\-9223372036854775808<=x/\x<=9223372036854775807)):af4 af5 168 #[u,.int .u8 c,.int .u64 n] w λe q=>∃v,e=.returned v/\OwnB z q v (y++(if c=118 then il x else zg x))/\Below z w q:=by
 have t:=ax s;have p:=ax (tB c n x w r);have R:ab0 (if c=118 then il x else zg x)<=10:=by split;exact(hM _).2;exact(hM _).2
 generalize (if c=118 then il x else zg x)=X at *;clear s r;go_in;go_wp21;refine WE p.o ?_;rintro V P ⟨s,v⟩;have g:=ax s;have Q:=v.size;clear s
 go_wp2_with (first
  | (at_builtin
     go_must (refine kv rfl (.tmp 15) (.tmp 16) rfl z u y rfl (hO.K t.o v) V X rfl (hO.rd g.o) aa  aa ?_)
     intro U T r s d;have a:Below z w T:=(v.M b).grown s aa (λk Y=>(hO.lt t.o k Y).1);have f:=ax r;clear r s d))
 go_ret;exact⟨U,rfl,f.o,a⟩
def mB(n:Int)(z:Nat)(x:Value)(y:List Int)(w:World)(s:z<=w.heap.size)(t:OwnB z w x y)(r:ab0 y<=1000000000000)(q:0<=n)(p:n<18446744073709551616):af4 af5 168 #[x,.int .u8 118,.int .u64 n] w λe u=>∃v,e=.returned v/\OwnB z u v (y++il n)/\Below z w u:=by
 have h:=pr 118 n n z x y w s t r (.inl ⟨rfl,rfl,q,p⟩)
 rwa [aH rfl] at h
def rO(x n:Int)(z:Nat)(u:Value)(y:List Int)(w:World)(p:z<=w.heap.size)(q:OwnB z w u y)(g:ab0 y<=1000000000000)(f:n=ub x)(s:-9223372036854775808<=x)(r:x<=9223372036854775807):af4 af5 168 #[u,.int .u8 122,.int .u64 n] w λe t=>∃v,e=.returned v/\OwnB z t v (y++zg x)/\Below z w t:=by
 have h:=pr 122 n x z u y w p q g (.inr ⟨rfl,f,s,r⟩)
 rwa [aF aa] at h
def Gs(g:Nat)(F:Nat->Prop)(d t a:Int)(L W:List Mn)(w:World)(h:q8 w g F d L W t a)(Y:jF L)(f:oY L)(c:oY W)(hlen:ab0 L+ab0 W<=1000000000)(d0:0<=d)(d1:d<=9223372036854775807)
 (l0:-9223372036854775808<=t) (l1:t<=9223372036854775807) (h0:-9223372036854775808<=a) (h1:a<=9223372036854775807) :
 af4 af5 99 #[aq g] w λe Q=>∃v,e=.returned v/\OwnB w.heap.size Q v (z_ d L W t a)/\af3 w Q:=by
 obtain⟨lv,wv,z,b,X,O,_,_,_,_⟩:=h;have u:=z.lt;obtain⟨A,ca,rfl,na,ma,q⟩:=b.form;obtain⟨B,cb,rfl,nb,mb,p⟩:=X.form;obtain⟨R,y,x,s,r⟩:=z.c5;have P:=ax y;have C2:=ax x;have C3:=ax s;have C4:=ax r;have FA:=ax q;have FB:=ax p;have HR:=ax Y;have HL:=ax f;have HW:=ax c;have V:=hM d;have U:=hM (oF t);have T:=hM (oF a);have S:=hM (ab0 L:Int);have b5:=hM (ab0 W:Int);clear z b X O q p Y f c y x s r;go_in;go_wp21;refine WE (mB d w.heap.size _ [] w (aD _) (hO.nil_ _ _ _ _) ad d0 aa) ?_;rintro v1 w1 ⟨z,hb1⟩;have O1:=ax z;have hz1:=hb1.size;have k:=(hb1.C (p:=af7 g 3) u).T C3.o;clear z R;go_wp21;clear k;refine WE (rO t _ w.heap.size v1 ([]++il d) w1 hz1 O1.o ae (by rw[iy];rfl) l0 l1) ?_;rintro v2 w2 ⟨z,hb2⟩;have O2:=ax z;have hbw2:=hb1.T hb2;have hz2:=hbw2.size;have k:=(hbw2.C (p:=af7 g 4) u).T C4.o;clear z;go_wp21;clear k;refine WE (rO a _ w.heap.size v2 ([]++il d++zg t) w2 hz2 O2.o (by unfold zg;simp;omega) (by rw[iy];rfl) h0 h1) ?_;rintro v3 w3 ⟨z,hb3⟩;have O3:=ax z;have hbw3:=hbw2.T hb3;have hz3:=hbw3.size;have k:=(hbw3.C (p:=af7 g 1) u).T P.o;clear z;go_wp21;clear k;refine WE (mB (ab0 L:Int) w.heap.size v3 ([]++il d++zg t++zg a) w3 hz3 O3.o (by unfold zg;simp;omega) aa  aa) ?_;rintro v4 w4 ⟨y,hb4⟩;have⟨H,z⟩:=ar ([]++il d++zg t++zg a++il (ab0 L:Int));have hHl:ab0 H<=40:=by rw[<-z];unfold zg;simp;omega
 rw[z] at y;have HH:=ax z;have O4:=ax y;have M7:=hbw3.T hb4;clear y z V U T S;go_wp2;go_loopg [3,4] (ab0 L) (λq v i wr=>∃j:Nat,q=ab0 L - j/\j<=ab0 L/\i=af6 j/\Hid (OwnB w.heap.size wr v (H++qI none (L.take j)))/\af3 w wr)
 exact⟨0,rfl,aa,rfl,ax (by simpa[qI] using O4.o),M7⟩
 case round=>
  obtain⟨j,D,hj,rfl,ho,f⟩:=hrel;have HQ:=ax D;have M9:=f.size;have C:=(f.C (p:=af7 g 1) u).T P.o;have tl:=tz L j;clear D;by_cases E:j<ab0 L
  .obtain⟨r,V,rfl,b,U,T⟩:=FA.o.at_ E
   have Y:=HL.o L[j] (aP E);have o:=(f.C (p:=af7 r (V+j * 2)) b).T U;have J:=ax T;have hji:(j:Int)<(ab0 L:Int):=aa;rcases bo j with rfl|hj0
   .have O:=ax (Ad L E)
    have z:((0:Nat):Int)=0:=rfl;simp only[dj,cF] at o;generalize L[0].1=x at *;generalize L[0].2=y at *;simp only[dj,cF] at T J;rw[z];clear z U T;go_wp21;refine WE (rO x _ w.heap.size u3 (H++qI none (L.take 0)) wr M9 ho.o (by rw[aE];omega) (by rw[iy];rfl) Y.1 Y.2.1) ?_;rintro v5 k ⟨s,I⟩;have N:=ax s;have z:=f.T I;have IZ:=z.size;have R:=(z.C (p:=af7 g 1) u).T P.o;have l:=(z.C (p:=af7 r (V+1)) b).T J.o;have hx:=hM (oF x);clear s C o;go_wp21;refine WE (mB y w.heap.size v5 (H++qI none (L.take 0)++zg x) k IZ N.o (by unfold zg;rw[aE,aE];omega) Y.2.2.1 aa) ?_;rintro v6 w6 ⟨X,G⟩;have M:=ax X;have c:=z.T G;clear X R l;go_wp2;go_roundg (ab0 L - (0+1))
    exact⟨1,rfl,aa,rfl,ax (by rw[O.o];simpa[aN] using M.o),c⟩;have:=HQ.o;omega
   .obtain⟨m,rfl⟩:∃m,j=m+1:=⟨j - 1,aa⟩
    have n:m<ab0 L:=aa;have O:=ax (CZ L m E);obtain⟨gl',off',hA',_,S,_⟩:=FA.o.at_ n;simp only[bg,gf,and_true] at hA';obtain⟨rfl,rfl⟩:=hA';have hrs:=ck.1 HR.o m (m+1) n E aa;have hm':=HL.o L[m] (aP n);have Q1:=ax U;have Q2:=ax S;generalize L[m+1].1=x at *;generalize L[m+1].2=y at *;generalize L[m].1=p at *;have EW:=ax (show ad0 .u64 (ad0 .u64 x - ad0 .u64 p)=x - p by simp only[iy];omega);have jne:(((m:Int)+1) == 0)=false:=bV.2 aa;have hj1:(0:Int)<=(m:Int)+1:=aa;have hj2:(m:Int)+1<(ab0 L:Int):=aa;have hj3:(m:Int)<(ab0 L:Int):=aa;have J3:=ax (show((m:Int)+1).toNat=m+1 by omega);have J4:=ax (show ad0 .i64 (m:Int)=(m:Int) from cy _ aa);clear U S T o;go_wp21;clear C;have Z:=ax (λ(Q:World) (S:af3 w Q)=>(aB ((S.C (p:=af7 g 1) u).T P.o) (aB ((S.C (p:=⟨r,V+(m+1) * 2,none⟩) b).T Q1.o) (aB ((S.C (p:=af7 r (V+m * 2)) b).T Q2.o) (aB (EW.o) (aB (J3.o) (J4.o)))))));refine jh (λQ=>af3 w Q) (hQ 0 21 (ik 21 (hQ 22 1 []))) (f.drew) ?_;iterate 21 refine ib ?_
    refine iz λK S=>?_;go_simp;refine WE (mB (x - p) w.heap.size u3 (H++qI none (L.take (m+1))) _ ag (hO.drew ho.o) (by rw[aE];omega) aa  aa) ?_;rintro v5 k ⟨s,I⟩;have N:=ax s;have z:af3 w k:=f.drew.T I;clear s;refine S _ _ (z) ?_;refine ib ?_;refine g4 ?_;have IZ:=z.size;have R:=(z.C (p:=af7 g 1) u).T P.o;have l:=(z.C (p:=⟨r,V+(m+1) * 2+1,none⟩) b).T J.o;have hx:=hM (x - p);go_wp21;refine WE (mB y w.heap.size v5 (H++qI none (L.take (m+1))++il (x - p)) k IZ N.o (by rw[aE,aE];omega) Y.2.2.1 aa) ?_;rintro v6 w6 ⟨X,G⟩;have M:=ax X;have c:=z.T G;clear X R l;go_wp2;go_roundg (ab0 L - (m+1+1))
    exact⟨m+1+1,rfl,aa,af,ax (by rw[O.o];simpa[aN] using M.o),c⟩;have:=HQ.o;omega
  .have hE:Hid (L.take j=L):=by show _=_;rw[bc aa]
   rw[hE.o] at ho;have R:=(f.C (p:=af7 g 2) u).T C2.o;have wl:=(p7 none L).2;go_wp21;clear C R;refine WE (mB (ab0 W:Int) w.heap.size u3 (H++qI none L) wr M9 ho.o (by rw[aE];omega) aa  aa) ?_;rintro v5 k ⟨s,I⟩;have⟨K,S⟩:=ar (H++qI none L++il (ab0 W:Int));have hKl:ab0 K<=21000000000:=by rw[<-S,aE,aE];omega
   rw[S] at s;have HK:=ax S;have N:=ax s;have z:=f.T I;clear s S;go_wp2;go_loopg [3,5] (ab0 W) (λq v i wr=>∃j:Nat,q=ab0 W - j/\j<=ab0 W/\i=af6 j/\Hid (OwnB w.heap.size wr v (K++sH (W.take j)))/\af3 w wr)
   exact⟨0,rfl,aa,rfl,ax (by simpa[sH] using N.o),z⟩
   case round=>
    obtain⟨n,D,hn,rfl,q,v⟩:=hrel;have i:=ax D;have hzs:=v.size;have C:=(v.C (p:=af7 g 2) u).T C2.o;have tl2:=tA W n;clear D;by_cases s:n<ab0 W
    .obtain⟨r,V,rfl,b,U,T⟩:=FB.o.at_ s
     have Y:=HW.o W[n] (aP s);have o:=(v.C (p:=af7 r (V+n * 2)) b).T U;have J:=ax T;have O:=ax (C5 W n s);have hni:(n:Int)<(ab0 W:Int):=aa;generalize W[n].1=x at *;generalize W[n].2=y at *;clear U T;go_wp21;refine WE (rO x _ w.heap.size u3 (K++sH (W.take n)) wr hzs q.o (by rw[aE];omega) (by rw[iy];rfl) Y.1 Y.2.1) ?_;rintro v6 w6 ⟨X,G⟩;have M:=ax X;have c:=v.T G;have UU:=c.size;have R:=(c.C (p:=af7 g 2) u).T C2.o;have l:=(c.C (p:=af7 r (V+n * 2+1)) b).T J.o;have hx:=hM (oF x);clear X C o;go_wp21;refine WE (mB y w.heap.size v6 (K++sH (W.take n)++zg x) w6 UU M.o (by unfold zg;rw[aE,aE];omega) Y.2.2.1 aa) ?_;rintro v7 w7 ⟨m,hb7⟩;have O7:=ax m;have Xv:=c.T hb7;clear m R l;go_wp2;go_roundg (ab0 W - (n+1))
     exact⟨n+1,rfl,aa,af,ax (by rw[O.o];simpa[aN] using O7.o),Xv⟩;have:=i.o;omega
    .have m:Hid (W.take n=W):=by show _=_;rw[bc aa]
     rw[m.o] at q;go_wp2;go_ret;refine⟨_,rfl,?_,v⟩;have:=q.o;rw[<-HK.o,<-HH.o] at this;simpa[z_,aN] using this
end
section
variable{w w' wr:World}{A:Option Addr}{l:List Mn}{F F':Nat->Prop}
def yj(w:World)(A:Option Addr)(l:List Mn)(F:Nat->Prop):Prop:=0<ab0 l->∃g off,A=some (af7 g off)/\g<w.heap.size/\¬F g/\∀j (h:j<ab0 l),w.cell? (af7 g (off+j * 2))=some (af6 l[j].1)/\w.cell? (af7 g (off+j * 2+1))=some (.int .u64 l[j].2)
def yj.of{c base:Nat}(h:ic base w (.slice A (ab0 l) c) l)(x:∀k,F k->k<base):yj w A l F:=λy=>by
 obtain⟨g,s,z,r,u,_,_⟩:=h.pos y;simp only[gv,true_and] at z;obtain⟨rfl,rfl⟩:=z;refine⟨g,0,rfl,u,λv=>by have:=x g v;omega,λj t=>?_⟩;have:=h.at_ t;rw[cG];exact⟨this.1,this.2.1⟩
def yj.go(h:yj w A l F)(r:∀k,F' k->F k\/w.heap.size<=k)(x:Touch F w w'):yj w' A l F':=λs=>by
 obtain⟨g,f,q,y,z,u⟩:=h s;refine⟨g,f,q,aG y x.size,λp=>?_,λj t=>?_⟩
 .rcases r g p with v|v
  .exact z v
  .omega
 .exact⟨(x.C y z).T (u j t).1,(x.C y z).T (u j t).2⟩
def yj.at_(h:yj w A l F){j:Nat}(t:j<ab0 l):∃g z,A=some (af7 g z)/\g<w.heap.size/\¬F g/\w.cell? (af7 g (z+j * 2))=some (af6 l[j].1)/\w.cell? (af7 g (z+j * 2+1))=some (.int .u64 l[j].2):=by
 obtain⟨g,z,y,u,x,v⟩:=h aa;exact⟨g,z,y,u,x,v j t⟩
def UW(s:St):Int:=if tot (s.L++s.W)=0 then 8 else 0
def SR{g:Nat}{d:Int}{s:St}{k:Nat}(w:World)(h:vR w g F d s)(y:Fit d s k):af4 af5 200 #[aq g] w (au w (.tuple #[af6 s.lo,af6 s.hi,af6 (UW s)])):=by
 unfold UW;by_cases z:tot (s.L++s.W)=0
 .rw[aH z]
  have x:=y.ok.emp (y.ok.sF.1 z);rw[x.1,x.2];unfold vR at h;rw[z] at h;exact Ki w h
 .rw[aF z]
  exact Kj w h (aa2 y.ok.j7)
def mV(z:af3 w wr)(y:∀k,F k->w.heap.size<=k)(x:Touch F wr w'):af3 w w':=z.T (x.below y z.size)
def q'(x:af3 w wr)(y:∀k,F k->w.heap.size<=k)(z:∀k,F' k->F k\/wr.heap.size<=k):∀k,F' k->w.heap.size<=k:=λk v=>by
 have:=x.size;rcases z k v with h|h
 .exact y k h
 .omega
def yk(g:Nat)(F:Nat->Prop)(d:Int)(s:St)(k:Nat)(w:World)(h:vR w g F d s)(z:Fit d s k):af4 af5 126 #[aq g] w λe A=>∃v,e=.returned (.tuple #[v,af6 0])/\OwnB w.heap.size A v (z_ d s.L s.W s.lo s.hi)/\af3 w A:=by
 have HD:=ax h;have FT:=ax z;have hlen:ab0 s.L+ab0 s.W<=100000000:=by have:=z.ok.len;have:=z.k1;omega
 have d0:=z.d0;have d1:=z.d1;have l0:=z.ok.Kc;have l1:=z.ok.lo1;have i0:=z.ok.hi0;have i1:=z.ok.hi1;have ht:=z.t;have HR:=ax z.ok.rise;have b1:=hM d;have p:=hM (oF s.lo);have q:=hM (oF s.hi);have t:=hM (ab0 s.L:Int);have b5:=hM (ab0 s.W:Int);have y:∀m∈s.L++s.W,Hid (-9223372036854775808<=m.1/\m.1<=9223372036854775807/\0<=m.2/\m.2<18446744073709551616):=λm S=>by
  have O:=z.ok.ok m S;obtain⟨j,hj,rfl⟩:=dt S;have u:=z.ok.ok.Bi hj;have x:=(z.ok.ok.tq j).1;exact ax ⟨O.1,O.2.1,by have:=O.2.2;omega,aa⟩
 have Xw:=ax y;clear h z y;go_in;go_wp21;have⟨a,z⟩:=ar (w.heap.size);have y:=ax (zB.new w);have hb0:af3 w (w.alloc (.cells #[.slice none 0 0] 275)):=(aC _ _).alloc (aD _) _;have F0:Hid (∀k,(λk=>k=w.heap.size) k->w.heap.size<=k):=ax (λk hk=>by simp only at hk;omega);generalize (λk=>k=w.heap.size:Nat->Prop)=FW at *;generalize w.alloc (.cells #[.slice none 0 0] 275)=w0 at *;rw[z] at y |-;clear z;refine RX (SR w0 (Dg.K HD.o hb0) FT.o) ?_
 intro w1 z;have SS:=hb0.T (z.M hb0.size);have W1:=ax (y.o.K z);clear y z;go_wp21;refine Ix (nA w1 (Dg.K HD.o SS)) ?_;go_wp21;refine RX (nN d a FW [] w1 W1.o ad aa  aa) ?_;rintro w2 ⟨F2,u,r,z⟩;have W2:=ax r;have hbw2:=mV SS F0.o z;have F02:=ax (q' SS F0.o u);clear u r z;go_wp21;refine RX (uR s.lo _ a F2 ([]++il d) w2 W2.o ae (by rw[iy];rfl) l0 l1) ?_;rintro w3 ⟨F3,u,r,z⟩;have W3:=ax r;have hbw3:=mV hbw2 F02.o z;have F03:=ax (q' hbw2 F02.o u);clear u r z;go_wp21;refine RX (uR s.hi _ a F3 ([]++il d++zg s.lo) w3 W3.o (by unfold zg;simp;omega) (by rw[iy];rfl) i0 i1) ?_;rintro w4 ⟨F4,u,r,z⟩;have W4:=ax r;have M7:=mV hbw3 F03.o z;have F04:=ax (q' hbw3 F03.o u);clear u r z;go_wp21;refine WE (MW w4 (Dg.K HD.o M7) aa) ?_;rintro v5 w5 ⟨x,y⟩;obtain⟨A5,c5,rfl,n5,m5,_⟩:=x.form;have M5:=ax (yj.of x W4.o.low);have W5:=ax (W4.o.K y);have Km:=M7.T (y.M M7.size);clear x y;go_wp21;refine RX (nN (ab0 s.L:Int) a F4 ([]++il d++zg s.lo++zg s.hi) w5 W5.o (by unfold zg;simp;omega) aa  aa) ?_;rintro w6 ⟨F6,u,r,z⟩;have⟨H,y⟩:=ar ([]++il d++zg s.lo++zg s.hi++il (ab0 s.L:Int));have hHl:ab0 H<=40:=by rw[<-y];unfold zg;simp;omega
 rw[y] at r;have HH:=ax y;have W6:=ax r;have Qk:=mV Km F04.o z;have F06:=ax (q' Km F04.o u);have M6:=ax (M5.o.go u z);clear u r z y b1 p q t;go_wp2;go_loopg [46] (ab0 s.L) (λq i wr=>∃(j:Nat) (c:Nat->Prop),q=ab0 s.L - j/\j<=ab0 s.L/\i=af6 j/\Hid (zB wr a c (H++qI none (s.L.take j)))/\Hid (yj wr A5 s.L c)/\Hid (∀k,c k->w.heap.size<=k)/\af3 w wr)
 exact⟨0,F6,rfl,aa,rfl,ax (by simpa[qI] using W6.o),M6,F06,Qk⟩
 case round=>
  obtain⟨j,c,B,hj,rfl,P,S,Q,T⟩:=hrel;have HQ:=ax B;have M9:=T.size;have tl:=tz s.L j;clear B;by_cases C:j<ab0 s.L
  .obtain⟨W,off,rfl,hgl,D,e0,e1⟩:=S.o.at_ C
   have b:=Xw.o s.L[j] (dJ _ (aP C));have HF:=ax D;rcases bo j with rfl|hj0
   .have E:=ax (Ad s.L C)
    have t:((0:Nat):Int)=0:=rfl;simp only[dj,cF] at e0 e1;generalize s.L[0].1=x at *;generalize s.L[0].2=y at *;rw[t];clear t D;go_wp21;have Y:af3 wr (wr.alloc (.cells #[af6 x,.int .u64 y] 216)):=(aC _ _).alloc (aD _) _;refine RX (yh x y a c (H++qI none (s.L.take 0)) _ (P.o.K Y) (by rw[aE];omega) b.o.1 b.o.2.1 b.o.2.2.1 b.o.2.2.2) ?_;intro L V;obtain⟨F7,u,r,z⟩:=nB.first Y V;have M:=ax r;have N:=ax (S.o.go u z);have R:=mV T Q.o z;have h:=ax (q' T Q.o u);clear V u r z
    go_wp2;go_roundg (ab0 s.L - (0+1))
    exact⟨1,F7,rfl,aa,rfl,ax (by rw[E.o];simpa[aN] using M.o),N,h,R⟩;have:=HQ.o;omega
   .obtain⟨m,rfl⟩:∃m,j=m+1:=⟨j - 1,aa⟩
    have n:m<ab0 s.L:=aa;have E:=ax (CZ s.L m C);obtain⟨gl',off',hA',_,_,t,_⟩:=S.o.at_ n;simp only[bg,gf,and_true] at hA';obtain⟨rfl,rfl⟩:=hA';have hrs:=ck.1 HR.o m (m+1) n C aa;have Xx:=Xw.o s.L[m] (dJ _ (aP n));have Q2:=ax t;generalize s.L[m+1].1=x at *;generalize s.L[m+1].2=y at *;generalize s.L[m].1=p at *;have jne:(((m:Int)+1) == 0)=false:=bV.2 aa;have hj1:(0:Int)<=(m:Int)+1:=aa;have hj2:(m:Int)+1<(ab0 s.L:Int):=aa;have hj3:(m:Int)<(ab0 s.L:Int):=aa;have J3:=ax (show((m:Int)+1).toNat=m+1 by omega);have J4:=ax (show ad0 .i64 (m:Int)=(m:Int) from cy _ aa);clear t D;go_wp21;obtain⟨f,t⟩:∃f,f=wr.alloc (.cells #[af6 x,.int .u64 y] 216):=⟨_,rfl⟩;have Y:af3 wr f:=by rw[t];exact(aC _ _).alloc (aD _) _
    have B0:Hid (g7 f wr.heap.size 216 #[af6 x,.int .u64 y]):=by show g7 _ _ _ _;rw[t];exact g7.new _ _ _
    have hlt0:=B0.o.lt;obtain⟨U,b1⟩:=B0.o.c2;have X0:=ax U;have X1:=ax b1;have NF:Hid (¬c wr.heap.size):=ax (λX=>by have:=P.o.low _ X;omega);have WA:=ax (P.o.K Y);have QA:=ax ((Y.C (p:=af7 W (off+m * 2)) hgl).T Q2.o);have Xy:W<f.heap.size:=aG hgl Y.size;rw[<-t];clear t U b1 e0 e1;have Z:=ax (λ(A:World) (t:(Touch c f) A)=>(aB ((t.C (o:=0) hlt0 NF.o).T X0.o) (aB ((t.C (o:=1) hlt0 NF.o).T X1.o) (aB (J3.o) (J4.o)))));refine jh (Touch c f) (hQ 0 6 (ik 6 [])) ((Touch.refl c f).drew) ?_;iterate 6 refine ib ?_
    refine iz λK U=>?_;go_simp;refine RX (Gq x y p W (off+m * 2) a c (H++qI none (s.L.take (m+1))) f.drew WA.o.drew (by rw[aE];omega) b.o.2.1 b.o.2.2.1 b.o.2.2.2 QA.o Xy HF.o Xx.o.1 hrs) ?_;intro L V;have K0:=ax V;have l:=ax (by obtain⟨_,_,_,t⟩:=V;exact((Touch.refl c f).drew).T t (λi X=>.inl X):Touch c f L);clear V;refine U _ _ (l.o) ?_;refine g4 ?_;obtain⟨F7,u,r,z⟩:=nB.first (Y.T ((below_drewN (aC f.heap.size f) 0).M Y.size)) (show nB (f.drewN 0) a c (H++qI none (s.L.take (m+1))++(il (x - p)++il y)) L from by
     obtain⟨G,I,J,X⟩:=K0.o;exact⟨G,I,J,⟨X.os,l.o.tape,X.output,X.size,X.block⟩⟩)
    have M:=ax r;have N:=ax (S.o.go u z);have R:=mV T Q.o z;have h:=ax (q' T Q.o u);clear u r z;go_wp2;go_roundg (ab0 s.L - (m+1+1))
    exact⟨m+1+1,F7,rfl,aa,af,ax (by rw[E.o];simpa[aN] using M.o),N,h,R⟩;have:=HQ.o;omega
  .have hE:Hid (s.L.take j=s.L):=by show _=_;rw[bc aa]
   rw[hE.o] at P;have wl:=(p7 none s.L).2;go_wp21;refine WE (Kk wr (Dg.K HD.o T) aa) ?_;rintro v7 L ⟨p,t⟩;obtain⟨A7,c7,rfl,n7,m7,_⟩:=p.form;have N:=ax (yj.of p P.o.low);have M:=ax (P.o.K t);have R:=T.T (t.M M9);clear p t;go_wp21;refine RX (nN (ab0 s.W:Int) a c (H++qI none s.L) L M.o (by rw[aE];omega) aa  aa) ?_;rintro w8 ⟨F8,u,r,z⟩;have⟨K,U⟩:=ar (H++qI none s.L++il (ab0 s.W:Int));have hKl:ab0 K<=2100000000:=by rw[<-U,aE,aE];omega
   rw[U] at r;have HK:=ax U;have W8:=ax r;have M_:=mV R Q.o z;have F08:=ax (q' R Q.o u);have M8:=ax (N.o.go u z);clear u r z U;go_wp2;go_loopg [73] (ab0 s.W) (λq i wr=>∃(j:Nat) (c:Nat->Prop),q=ab0 s.W - j/\j<=ab0 s.W/\i=af6 j/\Hid (zB wr a c (K++sH (s.W.take j)))/\Hid (yj wr A7 s.W c)/\Hid (∀k,c k->w.heap.size<=k)/\af3 w wr)
   exact⟨0,F8,rfl,aa,rfl,ax (by simpa[sH] using W8.o),M8,F08,M_⟩
   case round=>
    obtain⟨n,FY,B,hn,rfl,G,i,f,p⟩:=hrel;have Mm:=ax B;have tl2:=tA s.W n;clear B;by_cases q:n<ab0 s.W
    .obtain⟨W,off,rfl,hgl,D,e0,e1⟩:=i.o.at_ q
     have b:=Xw.o s.W[n] (dG _ (aP q));have E:=ax (C5 s.W n q);have hni:(n:Int)<(ab0 s.W:Int):=aa;generalize s.W[n].1=x at *;generalize s.W[n].2=y at *;clear D;go_wp21;have Y:af3 wr (wr.alloc (.cells #[af6 x,.int .u64 y] 216)):=(aC _ _).alloc (aD _) _;refine RX (yh x y a FY (K++sH (s.W.take n)) _ (G.o.K Y) (by rw[aE];omega) b.o.1 b.o.2.1 b.o.2.2.1 b.o.2.2.2) ?_;intro w9 V;obtain⟨F9,u,r,z⟩:=nB.first Y V;have h:=ax r;have o:=ax (i.o.go u z);have l:=mV p f.o z;have t:=ax (q' p f.o u);clear V u r z
     go_wp2;go_roundg (ab0 s.W - (n+1))
     exact⟨n+1,F9,rfl,aa,af,ax (by rw[E.o];simpa[aN] using h.o),o,t,l⟩;have:=Mm.o;omega
    .have hE2:Hid (s.W.take n=s.W):=by show _=_;rw[bc aa]
     rw[hE2.o] at G;obtain⟨v,I,J,X,t,l⟩:=G.o;have h:=I.k0;have Q2:=ax J;have o:=ax t;clear I J X t l;go_wp2;go_ret2;refine⟨_,rfl,?_,p⟩;have O:=hO.lift Q2.o (λk hk=>f.o k (o.o k hk));rw[<-HK.o,<-HH.o] at O;simpa[z_,aN,OwnB] using O
end
def yl(K:List Nat)(a0:Act)(X:List PanicEntry->World->Prop)(Q:Exit->Act->World->Prop):Exit->Act->World->Prop
 | .panic c,a,w=>(∀t∈K,a.tmps[t]?=a0.tmps[t]?)/\a.defers=a0.defers/\X c w
 | e,a,w=>Q e a w
def xh(K:List Nat)(o:Oper):Bool:=match o.dst with
 | some t=>!K.contains t
 | none=>true
def yl.put{K:List Nat}{a0:Act}{X:List PanicEntry->World->Prop}{Q:Exit->Act->World->Prop}{o:Oper}(h:xh K o=true){c:List PanicEntry}{a:Act}{w:World}{v:Value}(q:yl K a0 X Q (.panic c) (a.put o.dst v) w):yl K a0 X Q (.panic c) a w:=by
 obtain⟨z,y,x⟩:=q;unfold xh at h;unfold Act.put at z y;cases hd:o.dst with
 | none=>rw[hd] at z y;exact⟨z,y,x⟩
 | some t=>
  rw[hd] at h z y;refine⟨λs u=>?_,y,x⟩;have:=z s u;have r:t≠s:=by rintro rfl;simp at h;exact h u
  simp only[Array.getElem?_setIfInBounds_ne r] at this;exact this
section
variable {P : Program} {ops : Array Oper} {md : Region.Mode} {S : World -> Prop} {Q : Exit -> Act -> World -> Prop} {K : List Nat} {a0 : Act} {X : List PanicEntry -> World -> Prop}
def sN(md:Region.Mode)(K:List Nat)(ops:Array Oper):List (Nat × Bool)->Array Bool->Bool
 | [],listed=>(Region.ready md ops listed).isEmpty
 | (i,true)::r,listed=>(Region.ready md ops listed).contains i && Region.free md ops listed i && ((ops[i]?).map (xh K)).getD false && sN md K ops r (listed.setIfInBounds i true)
 | (i,false)::r,listed=>decide (Region.ready md ops listed=[i]) && sN md K ops r (listed.setIfInBounds i true)
def ra(y:Region.noSelect ops=true):∀(l:List (Nat × Bool)) (listed:Array Bool) (a:Act) (w:World),sN md K ops l listed=true->S w ->
 jV P ops (yl K a0 X Q) S l a w->wpAnyH P md ops (yl K a0 X Q) S (ab0 l) listed a w
 | [],listed,a,w,hB,_,h=>⟨by simpa[sN] using hB,h⟩
 | (i,true)::r,listed,a,w,hB,hS,h=>by
  simp only[sN,bC] at hB;obtain⟨⟨⟨u,t⟩,z⟩,s⟩:=hB;obtain⟨o,v,x,f,p⟩:=h;have q:xh K o=true:=by rw[x] at z;simpa using z
  exact wpAnyH_take x y t u (λc a w g=>yl.put q g) f hS (ra y r _ _ w s hS p)
 | (i,false)::r,listed,a,w,hB,hS,h=>by
  simp only[sN,bC,bD] at hB;refine⟨λx=>(by rw[hB.1] at x;cases x),λj z=>?_⟩;rw[hB.1] at z;have u:j=i:=by simpa using z
  subst u;exact wpOp_mono (λv t z=>⟨z.1,ra y r _ v t hB.2 z.1 z.2⟩) h
def nc{id:Nat}{a:Act}{w:World}(K:List Nat)(X:List PanicEntry->World->Prop)(S:World->Prop)(l:List (Nat × Bool))(r:P.follows .mixedOrders=true)
 (y:(Region.noSelect ops && decide (ab0 l=ops.size) && sN .any K ops l (Array.replicate ops.size false))=true)
 (s:∀c z v,(∀t∈K,z.tmps[t]?=a.tmps[t]?)->z.defers=a.defers->X c v->Q (.panic c) z v)
 (u:S w.drew) (h:jV P ops (yl K a X Q) S l a w.drew):(Code.region id ops true).wp P Q a w:=by
 simp only[bC,bD] at y;have H:=ra (Q:=Q) y.1.1 l _ a _ y.2 u h;rw[y.1.2] at H;refine eZ (λe z v x=>?_) (wp_region_any r (wpAny_of_held _ _ _ _ H));cases e with
 | panic c=>exact s c z v x.1 x.2.1 x.2.2
 | _=>exact x
end
