/- Parts. No condition. -/
import Derived.Test.YtdicblkhpcphfaaGreatPA07
set_option maxRecDepth 100000
set_option maxHeartbeats 0
set_option linter.all false
namespace Go.Proofs.YtdicblkhpcphfaaGreat
open Tryz Go.RowKit Go.Lib
open _root_.List renaming length→ao
open _root_.Go renaming Calls→ar
open Tryz renaming prog→Oe
section
def put_any(k K:Nat)(c:UInt8)(n:Int)(t:List Int)(v:Value)(w:World)(h:VZ k (c.toNat:Int))(r:jf .u64 w v [n])(Wi:0<=n)(Wj:n<18446744073709551616)(x:mY k=K)
 (M:∀z w,(callFunc K z).run prog w=.ok (.enter K z) w)
 (u:∀(g y:Nat) (w:World),Wr 373 y w g []->Calls prog K #[.pointer (some ⟨g,0,none⟩),.int .u64 n,.int .i64 0] w λe z=>e=.returned (.tuple #[])/\Wr 373 y z g t/\Below y w z) :
 ar Oe 195 #[.string ⟨#[c]⟩,v] w λe z=>∃v,e=.returned (.tuple #[v,.int .i64 0])/\OwnB w.heap.size z v t/\aq w z:=by
 obtain⟨A,O,rfl,R,L,s⟩:=r.form;obtain⟨X,P,rfl,T,y⟩:=s.at_ (j:=0) (by simp)
 simp only[bu,bn,bP] at R y |-;have f:=ay y;have H:=ay h;have b:=ay u;clear r s y h u;have d:Hid (∀w,ar Oe 276 #[.int .u8 (c.toNat:Int)] w λe z=>e=.returned (.tuple #[.agg #[.int .u8 (c.toNat:Int),.int .i64 0,.func (.func K) #[] #[],.func (.func (se k)) #[] #[]],.bool true])/\aq w z):=λw=>by
  rw[<-x];exact jZ k (c.toNat:Int) w H.o
 clear x
 go_in
 go_wp2_with fail;refine(ud k c w H.o).mono ?_
 rintro e y ⟨rfl,V⟩;have Q:=V.size
 go_wp2_with fail;obtain⟨g,x⟩:=au (y.heap.size);have s:=ay (Wr.new 373 y w.heap.size Q);have U:aq w (y.alloc (.cells #[.slice none 0 0] 373)):=bw;rw[x] at s |-;generalize y.alloc (.cells #[.slice none 0 0] 373)=D at *;clear x
 go_loopg [25] 1 (λq i wr=>∃j:Nat,q=1 - j/\j<=1/\i=.int .i64 j/\Hid (Wr 373 w.heap.size wr g (if j=0 then [] else t))/\aq w wr)
 exact⟨0,rfl,aa,rfl,s,U⟩
 case round=>
  obtain⟨j,x,J,rfl,q,u⟩:=hrel;have a:=ay x;have G:=u.size;clear x
  by_cases I:j<1
  ·obtain rfl:j=0:=aa
   have N:=(u.cell (p:=⟨X,P,none⟩) T).trans f.o
   go_wp2_with (first
    | (go_at_call 276;refine(d.o _).mono ?_;rintro e C ⟨rfl,x⟩;have F:=x.size)
    | (go_at_fn K;refine((b.o g w.heap.size _ ((q.o.keep x).keep ((aC _ _).alloc (aD _) _))).mono ?_);rintro e B ⟨rfl,r,S⟩;have E:=S.size;have Y:=ay r;clear r))
   go_roundg 0
   exact⟨1,rfl,aa,ag,Y,bw⟩
   have:=a.o;omega
  ·have S:j=1:=aa
   subst S;obtain⟨N,v,r,x⟩:=q.o;have Y:=r.k0;rw[aG aa] at x
   have p:=ay x;clear r x
   go_wp2
   go_ret2
   exact⟨v,rfl,p.o,u⟩
end
section
variable{w w' w1 w2:World}{g:Nat}{F:Nat->Prop}{bs:List Int}
def vZ(w:World)(g:Nat)(F:Nat->Prop)(bs:List Int):Prop:=
 ∃v,gN w g 275 #[v]/\OwnB 0 w v bs/\F g/\(∀k,v.ownBlock=some k->F k)/\(∀k,F k->k<w.heap.size)
def vZ.low(h:vZ w g F bs):∀k,F k->k<w.heap.size:=by
 obtain⟨_,_,_,_,_,z⟩:=h;exact z
def vZ.stay(h:vZ w g F bs)(x:∀k,F k->w'.heap[k]?=w.heap[k]?)(q:w.heap.size<=w'.heap.size):vZ w' g F bs:=by
 obtain⟨v,u,t,z,y,s⟩:=h;exact⟨v,(x g z).trans u,gT.stay t (λk e=>x k (y k e)),z,y,λk r=>aR (s k r) q⟩
def vZ.keep(h:vZ w g F bs)(z:aq w w'):vZ w' g F bs:=
 h.stay (λk y=>z.block k (h.low k y)) z.size
def vZ.new(w:World):vZ (w.alloc (.cells #[.slice none 0 0] 275)) w.heap.size (λk=>k=w.heap.size) []:=
 ⟨_,gN.new _ _ _,gT.nil_ _ _ _ _,rfl,λk e=>by simp[Value.ownBlock] at e,λk e=>by subst e;simp⟩
def mi(w:World)(g:Nat)(F:Nat->Prop)(bs:List Int)(w':World):Prop:=
 ∃F':Nat->Prop,(∀k,F' k->F k\/w.heap.size<=k)/\vZ w' g F' bs/\Touch F w w'
def mi.trans{F1:Nat->Prop}(z:∀k,F1 k->F k\/w.heap.size<=k)(y:Touch F w w1)(h:mi w1 g F1 bs w2):mi w g F bs w2:=by
 obtain⟨x,v,u,t⟩:=h;refine⟨x,λk r=>?_,u,y.trans t (λi s=>z i s)⟩
 rcases v k r with h|h
 ·exact z k h
 ·exact .inr (bf y.size h)
def mi.first(z:aq w w1)(h:mi w1 g F bs w2):mi w g F bs w2:=
 mi.trans (λ_ y=>.inl y) (Touch.of_below z (aD _)) h
def mi.put{v v':Value}{bs':List Int}(h:gN w g 275 #[v])(p:OwnB 0 w v bs)(s:F g)(r:∀k,v.ownBlock=some k->F k)(q:∀k,F k->k<w.heap.size)
 (u:OwnB 0 w' v' bs') (x:w.grownBy w' v.ownBlock) (y:v'.ownBlock=v.ownBlock\/v'.ownBlock=some w.heap.size):mi w g F bs' (w'.setCell ⟨g,0,none⟩ v'):=by
 have t:gN w' g 275 #[v]:=(x.block g h.lt (λe=>h.t_ p ab e.symm)).trans h
 have f:=x.size;refine⟨λk=>F k\/v'.ownBlock=some k,?_,⟨v',t.gR 0 v',u.far (λe=>t.t_ u ab e) _,.inl s,λk e=>.inr e,?_⟩,?_⟩
 ·rintro k (z|z)
  ·exact .inl z
  ·rcases y with y|y
   ·exact .inl (r k (by rw[<-y];exact z))
   ·rw[y] at z;simp only[aW] at z;exact .inr aa
 ·rintro k (z|z)
  ·have:=q k z;simp only[bW];omega
  ·have:=(gT.lt u k z).2;simpa using this
 ·exact((Touch.refl F w).grown x (λk e=>.inl (r k e))).setCell (.inl s) _
def zU(c:UInt8)(m:Int)(z:List Int)(g:Nat)(F:Nat->Prop)(bs:List Int)(w:World)(h:vZ w g F bs)(L:ao bs+ao z<=1000000000000)
 (y:∀(v:Value) (w:World),jf .u64 w v [m]->ar Oe 195 #[.string ⟨#[c]⟩,v] w λe x=>∃v,e=.returned (.tuple #[v,.int .i64 0])/\OwnB w.heap.size x v z/\aq w x) :
 ar Oe 201 #[.pointer (some ⟨g,0,none⟩),.string ⟨#[c]⟩,.int .u64 m] w λe x=>e=.returned (.tuple #[])/\mi w g F (bs++z) x:=by
 have H:=ay h;have X:=ay y;clear h y
 go_in
 go_wp2_with fail;refine(X.o _ _ (jf.hJ _ _ _ _ _ rfl)).mono ?_
 rintro e Q ⟨R,rfl,d,S⟩;have V:=ay d;have f:aq w Q:=((aC _ _).alloc (aD _) _).trans (S.mono ad)
 obtain⟨v,u,s,r,q,p⟩:=H.o.keep f;have y:=ay u;have t:=ay s;have b:=ay r;have a:=ay q;have Y:=ay p;have U:=u.k0;clear d u s r q p
 go_wp2_with (first
  | (at_builtin
     go_must (refine jO rfl (.tmp 19) (.tmp 20) rfl 0 v bs rfl t.o R z rfl (gT.rd V.o) aa (bB _) ?_)
     intro J P r s q;obtain⟨O,K,p,_,_,_⟩:=(gT.rd r).form;generalize ao (bs++z)=N at p;subst p;have d:=ay (mi.put y.o t.o b.o a.o Y.o r s q);have u:gN P g 275 #[v]:=(s.block g y.o.lt (λe=>y.o.t_ t.o ab e.symm)).trans y.o
     have T:=u.k0;have M:=u.frozen 0;clear r s q u))
 refine cp (v:=.tuple #[]) (by simp[results,Tryz.results201,go_sem, *];try rfl) rfl ?_
 exact⟨rfl,mi.first f d.o⟩
def mz(n:Int)(g:Nat)(F:Nat->Prop)(bs:List Int)(w:World)(h:vZ w g F bs)(t:ao bs<=900000000000)(y:0<=n)(x:n<18446744073709551616) :
 ar Oe 201 #[.pointer (some ⟨g,0,none⟩),.string ⟨#[118]⟩,.int .u64 n] w λe u=>e=.returned (.tuple #[])/\mi w g F (bs++hZ n) u:=
 zU 118 n (hZ n) g F bs w h (by have:=gS n;omega) (λv w z=>uB n v w z y x)
def sk(x m:Int)(g:Nat)(F:Nat->Prop)(bs:List Int)(w:World)(h:vZ w g F bs)(r:ao bs<=900000000000)(u:m=ub x)(z:-9223372036854775808<=x)(y:x<=9223372036854775807) :
 ar Oe 201 #[.pointer (some ⟨g,0,none⟩),.string ⟨#[122]⟩,.int .u64 m] w λe s=>e=.returned (.tuple #[])/\mi w g F (bs++zg x) s:=by
 subst u;exact zU 122 (ub x) (zg x) g F bs w h (by have:=gS (qs x);unfold zg;omega) (λv w t=>uC x v w t z y)
end
section
def vZ.drew{w:World}{g:Nat}{F:Nat->Prop}{bs:List Int}(h:vZ w g F bs):vZ w.drew g F bs:=h
def uE(x n:Int)(g:Nat)(F:Nat->Prop)(bs:List Int)(w:World)(h:vZ w g F bs)(T:ao bs<=800000000000)(X:-9223372036854775808<=x)(V:x<=9223372036854775807)(b:0<=n)(a:n<18446744073709551616) :
 ar Oe 203 #[.pointer (some ⟨g,0,none⟩),.agg #[.int .i64 x,.int .u64 n],.pointer none] w λe Y=>e=.returned (.tuple #[])/\mi w g F (bs++(zg x++hZ n)) Y:=by
 have y:aq w (w.alloc (.cells #[.int .i64 x,.int .u64 n] 216)):=(aC _ _).alloc (aD _) _;have r:=ay (h.keep y);have c:=ay h.low;clear h
 go_in
 go_wp2_with fail;refine(sk x _ g F bs _ r.o aa (by rw[g_];rfl) X V).mono ?_
 rintro e t ⟨rfl,s,v,u,z⟩;have U:t.cell? ⟨w.heap.size,1,none⟩=some (.int .u64 n):=(z.cell ad (λq=>by have:=c.o _ q;omega)).trans (by simp[bU])
 have d:ao (bs++zg x)<=900000000000:=by rw[aE];have:=gS (qs x);unfold zg;omega
 have q:=ay v;have p:=ay u;have f:=ay z;clear v u z
 go_wp2_with fail;refine(mz n g s (bs++zg x) t p.o d b a).mono ?_
 rintro e u ⟨rfl,z⟩
 go_wp2_with fail;refine cp (v:=.tuple #[]) (by simp[results,Tryz.results203,go_sem, *];try rfl) rfl ?_
 refine⟨rfl,mi.first y (mi.trans q.o f.o ?_)⟩
 rw[<-aO];exact z
def Cx(x n y:Int)(u t:Nat)(g:Nat)(F:Nat->Prop)(bs:List Int)(w:World)(h:vZ w g F bs)(D:ao bs<=800000000000)(B:x<=9223372036854775807)(G:0<=n)(E:n<18446744073709551616)
 (Y:w.cell? ⟨u,t,none⟩=some (.int .i64 y)) (M:u<w.heap.size) (b:¬F u) (A:-9223372036854775808<=y) (j:y<=x) :
 ar Oe 203 #[.pointer (some ⟨g,0,none⟩),.agg #[.int .i64 x,.int .u64 n],.pointer (some ⟨u,t,none⟩)] w λe q=>e=.returned (.tuple #[])/\mi w g F (bs++(hZ (x - y)++hZ n)) q:=by
 obtain⟨z,v⟩:∃z,z=w.alloc (.cells #[.int .i64 x,.int .u64 n] 216):=⟨_,rfl⟩;have r:aq w z:=by rw[v];exact(aC _ _).alloc (aD _) _
 have U:=ay (h.keep r);have H:=ay h.low;have d:Hid (gN z w.heap.size 216 #[.int .i64 x,.int .u64 n]):=by show gN _ _ _ _;rw[v];exact gN.new _ _ _
 have R:=ay ((r.cell (p:=⟨u,t,none⟩) M).trans Y);have S:=ay v;have a:=d.o.lt;obtain⟨s,f⟩:=d.o.c2;have O:=ay s;have N:=ay f;have T:=ay b;have c:Hid (¬F w.heap.size):=ay (λX=>by have:=H.o _ X;omega)
 have V:=ay (show IntKind.u64.wrap (IntKind.u64.wrap x - IntKind.u64.wrap y)=x - y by simp only[g_];omega)
 have L:u<z.heap.size:=aa
 have I:ao (bs++hZ (x - y))<=900000000000:=by rw[aE];have:=gS (x - y);omega
 clear h v s f Y b
 go_in
 go_wp2_with fail;rw[<-S.o];have Z:=ay (λ(q:World) (v:(Touch F z) q)=>(aF ((v.cell (o:=0) a c.o).trans O.o) (aF ((v.cell (o:=t) L T.o).trans R.o) (V.o))))
 refine i' (Touch F z) (gW 0 10 (ib 10 [])) ((Touch.refl F z).drew) ?_
 iterate 10 refine hC ?_
 refine iy λK b=>?_
 go_simp;refine(mz (x - y) g F bs z.drew U.o.drew aa  aa  aa).mono ?_
 rintro e f ⟨rfl,F1,v,Y,X⟩;have Q:=ay v;have P:=ay Y;have s:Hid (Touch F z f):=ay ((Touch.refl F z).drew.trans X (λi J=>.inl J))
 clear v Y X;refine b _ _ (s.o) ?_
 clear b K;refine gM ?_
 have J:f.cell? ⟨w.heap.size,1,none⟩=some (.int .u64 n):=(s.o.cell a c.o).trans N.o
 go_wp2_with fail;refine(mz n g F1 (bs++hZ (x - y)) f P.o I G E).mono ?_
 rintro e C ⟨rfl,X⟩
 go_wp2_with fail;refine cp (v:=.tuple #[]) (by simp[results,Tryz.results203,go_sem, *];try rfl) rfl ?_
 refine⟨rfl,mi.first r (mi.trans (F1:=F1) (λk Y=>?_) s.o ?_)⟩
 ·exact Q.o k Y
 ·rw[<-aO];exact X
end
section
def nF(c n x:Int)(z:Nat)(u:Value)(bs:List Int)(w:World)(d:z<=w.heap.size)(y:OwnB z w u bs)(T:ao bs<=1000000000000)(t:(c=118/\x=n/\0<=n/\n<18446744073709551616)\/(c=122/\n=ub x/\-9223372036854775808<=x/\x<=9223372036854775807)) :
 ar Oe 168 #[u,.int .u8 c,.int .u64 n] w λe r=>∃v,e=.returned v/\OwnB z r v (bs++(if c=118 then hZ x else zg x))/\Below z w r:=by
 have v:=ay y;have q:=ay (rl c n x w t);have S:ao (if c=118 then hZ x else zg x)<=10:=by split;exact(gS _).2;exact(gS _).2
 generalize (if c=118 then hZ x else zg x)=Y at *
 clear y t
 go_in
 go_wp2_with fail;refine(q.o).mono ?_
 rintro e Q ⟨X,rfl,t,y⟩;have p:=ay t;have R:=y.size;clear t
 go_wp2_with (first
  | (at_builtin
     go_must (refine jO rfl (.tmp 15) (.tmp 16) rfl z u bs rfl (gT.keep v.o y) X Y rfl (gT.rd p.o) aa  aa ?_)
     intro V U s t f;have b:Below z w U:=(y.mono d).grown t aa (λk a=>(gT.lt v.o k a).1)
     have g:=ay s;clear s t f))
 go_ret;exact⟨V,rfl,g.o,b⟩
def lk(n:Int)(z:Nat)(y:Value)(bs:List Int)(w:World)(t:z<=w.heap.size)(u:OwnB z w y bs)(s:ao bs<=1000000000000)(r:0<=n)(q:n<18446744073709551616) :
 ar Oe 168 #[y,.int .u8 118,.int .u64 n] w λe x=>∃v,e=.returned v/\OwnB z x v (bs++hZ n)/\Below z w x:=by
 have h:=nF 118 n n z y bs w t u s (.inl ⟨rfl,rfl,r,q⟩)
 rwa [aH rfl] at h
def pQ(x n:Int)(z:Nat)(y:Value)(bs:List Int)(w:World)(q:z<=w.heap.size)(r:OwnB z w y bs)(p:ao bs<=1000000000000)(g:n=ub x)(t:-9223372036854775808<=x)(s:x<=9223372036854775807) :
 ar Oe 168 #[y,.int .u8 122,.int .u64 n] w λe u=>∃v,e=.returned v/\OwnB z u v (bs++zg x)/\Below z w u:=by
 have h:=nF 122 n x z y bs w q r p (.inr ⟨rfl,g,t,s⟩)
 rwa [aG aa] at h
def Cy(g:Nat)(F:Nat->Prop)(d t a:Int)(L W:List Mn)(w:World)(h:oO w g F d L W t a)(Y:kG L)(f:OS L)(c:OS W)(hlen:ao L+ao W<=1000000000)(d0:0<=d)(d1:d<=9223372036854775807)
 (l0:-9223372036854775808<=t) (l1:t<=9223372036854775807) (h0:-9223372036854775808<=a) (h1:a<=9223372036854775807) :
 ar Oe 99 #[.pointer (some ⟨g,0,none⟩)] w λe Q=>∃v,e=.returned v/\OwnB w.heap.size Q v (QV d L W t a)/\aq w Q:=by
 obtain⟨lv,wv,z,b,X,O,_,_,_,_⟩:=h;have u:=z.lt;obtain⟨A,ca,rfl,na,ma,q⟩:=b.form;obtain⟨B,cb,rfl,nb,mb,p⟩:=X.form;obtain⟨R,y,x,s,r⟩:=z.c5;have P:=ay y;have C2:=ay x;have C3:=ay s;have C4:=ay r;have FA:=ay q;have FB:=ay p;have HR:=ay Y;have HL:=ay f;have HW:=ay c;have V:=gS d;have U:=gS (qs t);have T:=gS (qs a);have S:=gS (ao L:Int);have b5:=gS (ao W:Int);clear z b X O q p Y f c y x s r
 go_in
 go_wp2_with fail;refine(lk d w.heap.size _ [] w (aD _) (gT.nil_ _ _ _ _) ad d0 aa).mono ?_
 rintro e w1 ⟨v1,rfl,z,hb1⟩;have O1:=ay z;have hz1:=hb1.size;have k:=(hb1.cell (p:=⟨g,3,none⟩) u).trans C3.o;clear z R
 go_wp2_with fail;clear k;refine(pQ t _ w.heap.size v1 ([]++hZ d) w1 hz1 O1.o af (by rw[g_];rfl) l0 l1).mono ?_
 rintro e w2 ⟨v2,rfl,z,hb2⟩;have O2:=ay z;have hbw2:=hb1.trans hb2;have hz2:=hbw2.size;have k:=(hbw2.cell (p:=⟨g,4,none⟩) u).trans C4.o;clear z
 go_wp2_with fail;clear k;refine(pQ a _ w.heap.size v2 ([]++hZ d++zg t) w2 hz2 O2.o (by unfold zg;simp;omega) (by rw[g_];rfl) h0 h1).mono ?_
 rintro e w3 ⟨v3,rfl,z,hb3⟩;have O3:=ay z;have hbw3:=hbw2.trans hb3;have hz3:=hbw3.size;have k:=(hbw3.cell (p:=⟨g,1,none⟩) u).trans P.o;clear z
 go_wp2_with fail;clear k;refine(lk (ao L:Int) w.heap.size v3 ([]++hZ d++zg t++zg a) w3 hz3 O3.o (by unfold zg;simp;omega) aa  aa).mono ?_
 rintro e w4 ⟨v4,rfl,y,hb4⟩;obtain⟨H,z⟩:=au ([]++hZ d++zg t++zg a++hZ (ao L:Int));have UX:ao H<=40:=by rw[<-z];unfold zg;simp;omega
 rw[z] at y;have HH:=ay z;have O4:=ay y;have JB:=hbw3.trans hb4;clear y z V U T S
 go_wp2
 go_loopg [3,4] (ao L) (λq v i wr=>∃j:Nat,q=ao L - j/\j<=ao L/\i=.int .i64 j/\Hid (OwnB w.heap.size wr v (H++q' none (L.take j)))/\aq w wr)
 exact⟨0,rfl,aa,rfl,ay (by simpa[q'] using O4.o),JB⟩
 case round=>
  obtain⟨j,D,hj,rfl,ho,f⟩:=hrel;have HQ:=ay D;have Qz:=f.size;have C:=(f.cell (p:=⟨g,1,none⟩) u).trans P.o;have tl:=rj L j;clear D
  by_cases E:j<ao L
  ·obtain⟨r,V,rfl,b,U,T⟩:=FA.o.at_ E
   have Y:=HL.o L[j] (aX E);have o:=(f.cell (p:=⟨r,V+j * 2,none⟩) b).trans U;have J:=ay T;have hji:(j:Int)<(ao L:Int):=aa
   rcases bh j with rfl|hj0
   ·have O:=ay (wT L E)
    have z:((0:Nat):Int)=0:=rfl;simp only[db,bP] at o;generalize L[0].1=x at *;generalize L[0].2=y at *;simp only[db,bP] at T J;rw[z];clear z U T
    go_wp2_with fail;refine(pQ x _ w.heap.size u3 (H++q' none (L.take 0)) wr Qz ho.o (by rw[aE];omega) (by rw[g_];rfl) Y.1 Y.2.1).mono ?_
    rintro e k ⟨v5,rfl,s,I⟩;have N:=ay s;have z:=f.trans I;have zN:=z.size;have R:=(z.cell (p:=⟨g,1,none⟩) u).trans P.o;have l:=(z.cell (p:=⟨r,V+1,none⟩) b).trans J.o;have hx:=gS (qs x);clear s C o
    go_wp2_with fail;refine(lk y w.heap.size v5 (H++q' none (L.take 0)++zg x) k zN N.o (by unfold zg;rw[aE,aE];omega) Y.2.2.1 aa).mono ?_
    rintro e w6 ⟨v6,rfl,X,G⟩;have M:=ay X;have c:=z.trans G;clear X R l
    go_wp2
    go_roundg (ao L - (0+1))
    exact⟨1,rfl,aa,rfl,ay (by rw[O.o];simpa[aO] using M.o),c⟩
    have:=HQ.o;omega
   ·obtain⟨m,rfl⟩:∃m,j=m+1:=⟨j - 1,aa⟩
    have n:m<ao L:=aa
    have O:=ay (zG L m E);obtain⟨UY,off',hA',_,S,_⟩:=FA.o.at_ n;simp only[aW,bY,and_true] at hA';obtain⟨rfl,rfl⟩:=hA';have hrs:=bO.1 HR.o m (m+1) n E aa
    have hm':=HL.o L[m] (aX n);have Q1:=ay U;have Q2:=ay S;generalize L[m+1].1=x at *;generalize L[m+1].2=y at *;generalize L[m].1=p at *;have EW:=ay (show IntKind.u64.wrap (IntKind.u64.wrap x - IntKind.u64.wrap p)=x - p by simp only[g_];omega)
    have Wk:(((m:Int)+1) == 0)=false:=b9.2 aa
    have hj1:(0:Int)<=(m:Int)+1:=aa
    have hj2:(m:Int)+1<(ao L:Int):=aa
    have hj3:(m:Int)<(ao L:Int):=aa
    have J3:=ay (show((m:Int)+1).toNat=m+1 by omega)
    have J4:=ay (show IntKind.i64.wrap (m:Int)=(m:Int) from cy _ aa)
    clear U S T o
    go_wp2_with fail;clear C;have Z:=ay (λ(Q:World) (S:aq w Q)=>(aF ((S.cell (p:=⟨g,1,none⟩) u).trans P.o) (aF ((S.cell (p:=⟨r,V+(m+1) * 2,none⟩) b).trans Q1.o) (aF ((S.cell (p:=⟨r,V+m * 2,none⟩) b).trans Q2.o) (aF (EW.o) (aF (J3.o) (J4.o)))))))
    refine i' (λQ=>aq w Q) (gW 0 21 (ib 21 (gW 22 1 []))) (f.drew) ?_
    iterate 21 refine hC ?_
    refine iy λK S=>?_
    go_simp;refine(lk (x - p) w.heap.size u3 (H++q' none (L.take (m+1))) _ ah (gT.drew ho.o) (by rw[aE];omega) aa  aa).mono ?_
    rintro e k ⟨v5,rfl,s,I⟩;have N:=ay s;have z:aq w k:=f.drew.trans I;clear s;refine S _ _ (z) ?_
    clear S K;refine hC ?_
    refine gM ?_
    have zN:=z.size;have R:=(z.cell (p:=⟨g,1,none⟩) u).trans P.o;have l:=(z.cell (p:=⟨r,V+(m+1) * 2+1,none⟩) b).trans J.o;have hx:=gS (x - p)
    go_wp2_with fail;refine(lk y w.heap.size v5 (H++q' none (L.take (m+1))++hZ (x - p)) k zN N.o (by rw[aE,aE];omega) Y.2.2.1 aa).mono ?_
    rintro e w6 ⟨v6,rfl,X,G⟩;have M:=ay X;have c:=z.trans G;clear X R l
    go_wp2
    go_roundg (ao L - (m+1+1))
    exact⟨m+1+1,rfl,aa,ag,ay (by rw[O.o];simpa[aO] using M.o),c⟩
    have:=HQ.o;omega
  ·have hE:Hid (L.take j=L):=by show _=_;rw[bj aa]
   rw[hE.o] at ho;have R:=(f.cell (p:=⟨g,2,none⟩) u).trans C2.o;have wl:=(tx none L).2
   go_wp2_with fail;clear C R;refine(lk (ao W:Int) w.heap.size u3 (H++q' none L) wr Qz ho.o (by rw[aE];omega) aa  aa).mono ?_
   rintro e k ⟨v5,rfl,s,I⟩;obtain⟨K,S⟩:=au (H++q' none L++hZ (ao W:Int));have Wl:ao K<=21000000000:=by rw[<-S,aE,aE];omega
   rw[S] at s;have HK:=ay S;have N:=ay s;have z:=f.trans I;clear s S
   go_wp2
   go_loopg [3,5] (ao W) (λq v i wr=>∃j:Nat,q=ao W - j/\j<=ao W/\i=.int .i64 j/\Hid (OwnB w.heap.size wr v (K++wR (W.take j)))/\aq w wr)
   exact⟨0,rfl,aa,rfl,ay (by simpa[wR] using N.o),z⟩
   case round=>
    obtain⟨n,D,hn,rfl,q,v⟩:=hrel;have i:=ay D;have hzs:=v.size;have C:=(v.cell (p:=⟨g,2,none⟩) u).trans C2.o;have Wm:=rk W n;clear D
    by_cases s:n<ao W
    ·obtain⟨r,V,rfl,b,U,T⟩:=FB.o.at_ s
     have Y:=HW.o W[n] (aX s);have o:=(v.cell (p:=⟨r,V+n * 2,none⟩) b).trans U;have J:=ay T;have O:=ay (zH W n s);have hni:(n:Int)<(ao W:Int):=aa
     generalize W[n].1=x at *;generalize W[n].2=y at *;clear U T
     go_wp2_with fail;refine(pQ x _ w.heap.size u3 (K++wR (W.take n)) wr hzs q.o (by rw[aE];omega) (by rw[g_];rfl) Y.1 Y.2.1).mono ?_
     rintro e w6 ⟨v6,rfl,X,G⟩;have M:=ay X;have c:=v.trans G;have Sr:=c.size;have R:=(c.cell (p:=⟨g,2,none⟩) u).trans C2.o;have l:=(c.cell (p:=⟨r,V+n * 2+1,none⟩) b).trans J.o;have hx:=gS (qs x);clear X C o
     go_wp2_with fail;refine(lk y w.heap.size v6 (K++wR (W.take n)++zg x) w6 Sr M.o (by unfold zg;rw[aE,aE];omega) Y.2.2.1 aa).mono ?_
     rintro e w7 ⟨v7,rfl,m,hb7⟩;have O7:=ay m;have SW:=c.trans hb7;clear m R l
     go_wp2
     go_roundg (ao W - (n+1))
     exact⟨n+1,rfl,aa,ag,ay (by rw[O.o];simpa[aO] using O7.o),SW⟩
     have:=i.o;omega
    ·have m:Hid (W.take n=W):=by show _=_;rw[bj aa]
     rw[m.o] at q
     go_wp2
     go_ret;refine⟨_,rfl,?_,v⟩
     have:=q.o;rw[<-HK.o,<-HH.o] at this
     simpa[QV,aO] using this
end
section
variable{w w' wr:World}{A:Option Addr}{l:List Mn}{F F':Nat->Prop}
def uF(w:World)(A:Option Addr)(l:List Mn)(F:Nat->Prop):Prop:=0<ao l->∃g off,A=some ⟨g,off,none⟩/\g<w.heap.size/\¬F g/\∀j (h:j<ao l),w.cell? ⟨g,off+j * 2,none⟩=some (.int .i64 l[j].1)/\w.cell? ⟨g,off+j * 2+1,none⟩=some (.int .u64 l[j].2)
def uF.of{c base:Nat}(h:g7 base w (.slice A (ao l) c) l)(x:∀k,F k->k<base):uF w A l F:=λy=>by
 obtain⟨g,s,z,r,u,_,_⟩:=h.pos y;simp only[fS,true_and] at z;obtain⟨rfl,rfl⟩:=z;refine⟨g,0,rfl,u,λv=>by have:=x g v;omega,λj t=>?_⟩
 have:=h.at_ t;rw[cJ];exact⟨this.1,this.2.1⟩
def uF.go(h:uF w A l F)(r:∀k,F' k->F k\/w.heap.size<=k)(x:Touch F w w'):uF w' A l F':=λs=>by
 obtain⟨g,f,q,y,z,u⟩:=h s;refine⟨g,f,q,aR y x.size,λp=>?_,λj t=>?_⟩
 ·rcases r g p with v|v
  ·exact z v
  ·omega
 ·exact⟨(x.cell y z).trans (u j t).1,(x.cell y z).trans (u j t).2⟩
def uF.at_(h:uF w A l F){j:Nat}(t:j<ao l):∃g z,A=some ⟨g,z,none⟩/\g<w.heap.size/\¬F g/\w.cell? ⟨g,z+j * 2,none⟩=some (.int .i64 l[j].1)/\w.cell? ⟨g,z+j * 2+1,none⟩=some (.int .u64 l[j].2):=by
 obtain⟨g,z,y,u,x,v⟩:=h aa
 exact⟨g,z,y,u,x,v j t⟩
def Q7(s:St):Int:=if tot (s.L++s.W)=0 then 8 else 0
def Pc{g:Nat}{d:Int}{s:St}{k:Nat}(w:World)(h:zO w g F d s)(y:Fit d s k) :
 ar Oe 200 #[.pointer (some ⟨g,0,none⟩)] w (aw w (.tuple #[.int .i64 s.lo,.int .i64 s.hi,.int .i64 (Q7 s)])):=by
 unfold Q7
 by_cases z:tot (s.L++s.W)=0
 ·rw[aH z]
  have x:=y.ok.emp (y.ok.r_.1 z);rw[x.1,x.2];unfold zO at h;rw[z] at h;exact Gw w h
 ·rw[aG z]
  exact Gx w h (by have:=y.ok.i7;omega)
def lM(z:aq w wr)(y:∀k,F k->w.heap.size<=k)(x:Touch F wr w'):aq w w':=z.trans (x.below y z.size)
def pg(x:aq w wr)(y:∀k,F k->w.heap.size<=k)(z:∀k,F' k->F k\/wr.heap.size<=k):∀k,F' k->w.heap.size<=k:=λk v=>by
 have:=x.size
 rcases z k v with h|h
 ·exact y k h
 ·omega
def Cz(g:Nat)(F:Nat->Prop)(d:Int)(s:St)(k:Nat)(w:World)(h:zO w g F d s)(z:Fit d s k) :
 ar Oe 126 #[.pointer (some ⟨g,0,none⟩)] w λe A=>∃v,e=.returned (.tuple #[v,.int .i64 0])/\OwnB w.heap.size A v (QV d s.L s.W s.lo s.hi)/\aq w A:=by
 have HD:=ay h;have FT:=ay z;have hlen:ao s.L+ao s.W<=100000000:=by have:=z.ok.len;have:=z.k1;omega
 have d0:=z.d0;have d1:=z.d1;have l0:=z.ok.wk;have l1:=z.ok.lo1;have i0:=z.ok.hi0;have i1:=z.ok.hi1;have ht:=z.t;have HR:=ay z.ok.rise;have b1:=gS d;have p:=gS (qs s.lo);have q:=gS (qs s.hi);have t:=gS (ao s.L:Int);have b5:=gS (ao s.W:Int);have y:∀m∈s.L++s.W,Hid (-9223372036854775808<=m.1/\m.1<=9223372036854775807/\0<=m.2/\m.2<18446744073709551616):=λm S=>by
  have O:=z.ok.ok m S;obtain⟨j,hj,rfl⟩:=cE S;have u:=z.ok.ok.pL hj;have x:=(z.ok.ok.mC j).1;exact ay ⟨O.1,O.2.1,by have:=O.2.2;omega,aa⟩
 have SX:=ay y;clear h z y
 go_in
 go_wp2_with fail;obtain⟨a,z⟩:=au (w.heap.size);have y:=ay (vZ.new w);have hb0:aq w (w.alloc (.cells #[.slice none 0 0] 275)):=(aC _ _).alloc (aD _) _;have F0:Hid (∀k,(λk=>k=w.heap.size) k->w.heap.size<=k):=ay (λk hk=>by simp only at hk;omega)
 generalize (λk=>k=w.heap.size:Nat->Prop)=FW at *
 generalize w.alloc (.cells #[.slice none 0 0] 275)=w0 at *;rw[z] at y |-;clear z;refine(Pc w0 (Dg.keep HD.o hb0) FT.o).mono ?_
 rintro e w1 ⟨rfl,z⟩;have Pd:=hb0.trans (z.mono hb0.size);have W1:=ay (y.o.keep z);clear y z
 go_wp2_with fail;refine(mh w1 (Dg.keep HD.o Pd)).mono ?_
 rintro e A ⟨rfl,rfl⟩
 go_wp2_with fail;refine(mz d a FW [] w1 W1.o ad aa  aa).mono ?_
 rintro e w2 ⟨rfl,F2,u,r,z⟩;have W2:=ay r;have hbw2:=lM Pd F0.o z;have UZ:=ay (pg Pd F0.o u);clear u r z
 go_wp2_with fail;refine(sk s.lo _ a F2 ([]++hZ d) w2 W2.o af (by rw[g_];rfl) l0 l1).mono ?_
 rintro e w3 ⟨rfl,F3,u,r,z⟩;have W3:=ay r;have hbw3:=lM hbw2 UZ.o z;have U0:=ay (pg hbw2 UZ.o u);clear u r z
 go_wp2_with fail;refine(sk s.hi _ a F3 ([]++hZ d++zg s.lo) w3 W3.o (by unfold zg;simp;omega) (by rw[g_];rfl) i0 i1).mono ?_
 rintro e w4 ⟨rfl,F4,u,r,z⟩;have W4:=ay r;have JB:=lM hbw3 U0.o z;have U2:=ay (pg hbw3 U0.o u);clear u r z
 go_wp2_with fail;refine(Jt w4 (Dg.keep HD.o JB) aa).mono ?_
 rintro e w5 ⟨v5,rfl,x,y⟩;obtain⟨A5,c5,rfl,n5,m5,_⟩:=x.form;have M5:=ay (uF.of x W4.o.low);have W5:=ay (W4.o.keep y);have Q8:=JB.trans (y.mono JB.size);clear x y
 go_wp2_with fail;refine(mz (ao s.L:Int) a F4 ([]++hZ d++zg s.lo++zg s.hi) w5 W5.o (by unfold zg;simp;omega) aa  aa).mono ?_
 rintro e w6 ⟨rfl,F6,u,r,z⟩;obtain⟨H,y⟩:=au ([]++hZ d++zg s.lo++zg s.hi++hZ (ao s.L:Int));have UX:ao H<=40:=by rw[<-y];unfold zg;simp;omega
 rw[y] at r;have HH:=ay y;have W6:=ay r;have SY:=lM Q8 U2.o z;have Wn:=ay (pg Q8 U2.o u);have M6:=ay (M5.o.go u z);clear u r z y b1 p q t
 go_wp2
 go_loopg [46] (ao s.L) (λq i wr=>∃(j:Nat) (c:Nat->Prop),q=ao s.L - j/\j<=ao s.L/\i=.int .i64 j/\Hid (vZ wr a c (H++q' none (s.L.take j)))/\Hid (uF wr A5 s.L c)/\Hid (∀k,c k->w.heap.size<=k)/\aq w wr)
 exact⟨0,F6,rfl,aa,rfl,ay (by simpa[q'] using W6.o),M6,Wn,SY⟩
 case round=>
  obtain⟨j,c,B,hj,rfl,P,S,Q,T⟩:=hrel;have HQ:=ay B;have Qz:=T.size;have tl:=rj s.L j;clear B
  by_cases C:j<ao s.L
  ·obtain⟨W,off,rfl,hgl,D,e0,e1⟩:=S.o.at_ C
   have b:=SX.o s.L[j] (dR _ (aX C));have HF:=ay D
   rcases bh j with rfl|hj0
   ·have E:=ay (wT s.L C)
    have t:((0:Nat):Int)=0:=rfl;simp only[db,bP] at e0 e1;generalize s.L[0].1=x at *;generalize s.L[0].2=y at *;rw[t];clear t D
    go_wp2_with fail;have Y:aq wr (wr.alloc (.cells #[.int .i64 x,.int .u64 y] 216)):=(aC _ _).alloc (aD _) _;refine(uE x y a c (H++q' none (s.L.take 0)) _ (P.o.keep Y) (by rw[aE];omega) b.o.1 b.o.2.1 b.o.2.2.1 b.o.2.2.2).mono ?_
    rintro e L ⟨rfl,V⟩;obtain⟨F7,u,r,z⟩:=mi.first Y V;have M:=ay r;have N:=ay (S.o.go u z);have R:=lM T Q.o z;have h:=ay (pg T Q.o u);clear V u r z
    go_wp2
    go_roundg (ao s.L - (0+1))
    exact⟨1,F7,rfl,aa,rfl,ay (by rw[E.o];simpa[aO] using M.o),N,h,R⟩
    have:=HQ.o;omega
   ·obtain⟨m,rfl⟩:∃m,j=m+1:=⟨j - 1,aa⟩
    have n:m<ao s.L:=aa
    have E:=ay (zG s.L m C);obtain⟨UY,off',hA',_,_,t,_⟩:=S.o.at_ n;simp only[aW,bY,and_true] at hA';obtain⟨rfl,rfl⟩:=hA';have hrs:=bO.1 HR.o m (m+1) n C aa
    have SZ:=SX.o s.L[m] (dR _ (aX n));have Q2:=ay t;generalize s.L[m+1].1=x at *;generalize s.L[m+1].2=y at *;generalize s.L[m].1=p at *;have Wk:(((m:Int)+1) == 0)=false:=b9.2 aa
    have hj1:(0:Int)<=(m:Int)+1:=aa
    have hj2:(m:Int)+1<(ao s.L:Int):=aa
    have hj3:(m:Int)<(ao s.L:Int):=aa
    have J3:=ay (show((m:Int)+1).toNat=m+1 by omega)
    have J4:=ay (show IntKind.i64.wrap (m:Int)=(m:Int) from cy _ aa)
    clear t D
    go_wp2_with fail;obtain⟨f,t⟩:∃f,f=wr.alloc (.cells #[.int .i64 x,.int .u64 y] 216):=⟨_,rfl⟩;have Y:aq wr f:=by rw[t];exact(aC _ _).alloc (aD _) _
    have B0:Hid (gN f wr.heap.size 216 #[.int .i64 x,.int .u64 y]):=by show gN _ _ _ _;rw[t];exact gN.new _ _ _
    have hlt0:=B0.o.lt;obtain⟨U,b1⟩:=B0.o.c2;have X0:=ay U;have X1:=ay b1;have NF:Hid (¬c wr.heap.size):=ay (λX=>by have:=P.o.low _ X;omega)
    have WA:=ay (P.o.keep Y);have QA:=ay ((Y.cell (p:=⟨W,off+m * 2,none⟩) hgl).trans Q2.o);have S6:W<f.heap.size:=aR hgl Y.size;rw[<-t];clear t U b1 e0 e1;have Z:=ay (λ(A:World) (t:(Touch c f) A)=>(aF ((t.cell (o:=0) hlt0 NF.o).trans X0.o) (aF ((t.cell (o:=1) hlt0 NF.o).trans X1.o) (aF (J3.o) (J4.o)))))
    refine i' (Touch c f) (gW 0 6 (ib 6 [])) ((Touch.refl c f).drew) ?_
    iterate 6 refine hC ?_
    refine iy λK U=>?_
    go_simp;refine(Cx x y p W (off+m * 2) a c (H++q' none (s.L.take (m+1))) f.drew WA.o.drew (by rw[aE];omega) b.o.2.1 b.o.2.2.1 b.o.2.2.2 QA.o S6 HF.o SZ.o.1 hrs).mono ?_
    rintro e L ⟨rfl,V⟩;have K0:=ay V;have l:Hid (Touch c f L):=ay (by obtain⟨_,_,_,t⟩:=V;exact((Touch.refl c f).drew).trans t (λi X=>.inl X))
    clear V;refine U _ _ (l.o) ?_
    clear U K;refine gM ?_
    obtain⟨F7,u,r,z⟩:=mi.first (Y.trans ((below_drewN (aC f.heap.size f) 0).mono Y.size)) (show mi (f.drewN 0) a c (H++q' none (s.L.take (m+1))++(hZ (x - p)++hZ y)) L from by
     obtain⟨G,I,J,X⟩:=K0.o;exact⟨G,I,J,⟨X.os,l.o.tape,X.output,X.size,X.block⟩⟩)
    have M:=ay r;have N:=ay (S.o.go u z);have R:=lM T Q.o z;have h:=ay (pg T Q.o u);clear u r z
    go_wp2
    go_roundg (ao s.L - (m+1+1))
    exact⟨m+1+1,F7,rfl,aa,ag,ay (by rw[E.o];simpa[aO] using M.o),N,h,R⟩
    have:=HQ.o;omega
  ·have hE:Hid (s.L.take j=s.L):=by show _=_;rw[bj aa]
   rw[hE.o] at P;have wl:=(tx none s.L).2
   go_wp2_with fail;refine(Gy wr (Dg.keep HD.o T) aa).mono ?_
   rintro e L ⟨v7,rfl,p,t⟩;obtain⟨A7,c7,rfl,n7,m7,_⟩:=p.form;have N:=ay (uF.of p P.o.low);have M:=ay (P.o.keep t);have R:=T.trans (t.mono Qz);clear p t
   go_wp2_with fail;refine(mz (ao s.W:Int) a c (H++q' none s.L) L M.o (by rw[aE];omega) aa  aa).mono ?_
   rintro e w8 ⟨rfl,F8,u,r,z⟩;obtain⟨K,U⟩:=au (H++q' none s.L++hZ (ao s.W:Int));have Wl:ao K<=2100000000:=by rw[<-U,aE,aE];omega
   rw[U] at r;have HK:=ay U;have W8:=ay r;have S7:=lM R Q.o z;have Wo:=ay (pg R Q.o u);have M8:=ay (N.o.go u z);clear u r z U
   go_wp2
   go_loopg [73] (ao s.W) (λq i wr=>∃(j:Nat) (c:Nat->Prop),q=ao s.W - j/\j<=ao s.W/\i=.int .i64 j/\Hid (vZ wr a c (K++wR (s.W.take j)))/\Hid (uF wr A7 s.W c)/\Hid (∀k,c k->w.heap.size<=k)/\aq w wr)
   exact⟨0,F8,rfl,aa,rfl,ay (by simpa[wR] using W8.o),M8,Wo,S7⟩
   case round=>
    obtain⟨n,FY,B,hn,rfl,G,i,f,p⟩:=hrel;have Q9:=ay B;have Wm:=rk s.W n;clear B
    by_cases q:n<ao s.W
    ·obtain⟨W,off,rfl,hgl,D,e0,e1⟩:=i.o.at_ q
     have b:=SX.o s.W[n] (dQ _ (aX q));have E:=ay (zH s.W n q);have hni:(n:Int)<(ao s.W:Int):=aa
     generalize s.W[n].1=x at *;generalize s.W[n].2=y at *;clear D
     go_wp2_with fail;have Y:aq wr (wr.alloc (.cells #[.int .i64 x,.int .u64 y] 216)):=(aC _ _).alloc (aD _) _;refine(uE x y a FY (K++wR (s.W.take n)) _ (G.o.keep Y) (by rw[aE];omega) b.o.1 b.o.2.1 b.o.2.2.1 b.o.2.2.2).mono ?_
     rintro e w9 ⟨rfl,V⟩;obtain⟨F9,u,r,z⟩:=mi.first Y V;have h:=ay r;have o:=ay (i.o.go u z);have l:=lM p f.o z;have t:=ay (pg p f.o u);clear V u r z
     go_wp2
     go_roundg (ao s.W - (n+1))
     exact⟨n+1,F9,rfl,aa,ag,ay (by rw[E.o];simpa[aO] using h.o),o,t,l⟩
     have:=Q9.o;omega
    ·have hE2:Hid (s.W.take n=s.W):=by show _=_;rw[bj aa]
     rw[hE2.o] at G;obtain⟨v,I,J,X,t,l⟩:=G.o;have h:=I.k0;have Q2:=ay J;have o:=ay t;clear I J X t l
     go_wp2
     go_ret2
     refine⟨_,rfl,?_,p⟩
     have O:=gT.lift Q2.o (λk hk=>f.o k (o.o k hk))
     rw[<-HK.o,<-HH.o] at O
     simpa[QV,aO,OwnB] using O
end
namespace D
variable{a:Nat}
def hiN(a low:Nat):Nat:=min 9223372036854775807 (min 9223372036854775807 (low+low * a / 10000) * 10000 / (10000 - a))
def oP(a:Nat):Nat->Nat->Nat
 | 0,low=>low
 | n+1,low=>oP a n (hiN a low+1)
def yu(a m:Nat):∀n low,oP a (n+m) low=oP a m (oP a n low)
 | 0,low=>by rw[cJ];rfl
 | n+1,low=>by rw[Nat.succ_add];exact yu a m n _
def Pe:oP 100 2100 1=9223372036854775808:=by
 have s:∀{x y z:Nat} (n:Nat),oP 100 100 x=y->oP 100 n y=z->oP 100 (100+n) x=z:=λn h k=>by rw[yu,h,k]
 exact s (y:=104) 2000 aj (s (x:=104) (y:=796) 1900 aj (s (x:=796) (y:=5881) 1800 aj (s (x:=5881) (y:=43437) 1700 aj (s (x:=43437) (y:=321021) 1600 aj (s (x:=321021) (y:=2372209) 1500 aj (s (x:=2372209) (y:=17529544) 1400 aj (s (x:=17529544) (y:=129535419) 1300 aj (s (x:=129535419) (y:=957208293) 1200 aj (s (x:=957208293) (y:=7073337340) 1100 aj (s (x:=7073337340) (y:=52268771102) 1000 aj (s (x:=52268771102) (y:=386242632093) 900 aj (s (x:=386242632093) (y:=2854158758609) 800 aj (s (x:=2854158758609) (y:=21090945283128) 700 aj (s (x:=21090945283128) (y:=155852568324805) 600 aj (s (x:=155852568324805) (y:=1151680151238675) 500 aj (s (x:=1151680151238675) (y:=8510396620432366) 400 aj (s (x:=8510396620432366) (y:=62887990697042869) 300 aj (s (x:=62887990697042869) (y:=464713872960532417) 200 aj (s (x:=464713872960532417) (y:=3434025818416436332) 100 aj (s (x:=3434025818416436332) (y:=9223372036854775808) 0 aj (rfl)))))))))))))))))))))
def zV(a z:Nat):hiN a z<=9223372036854775807:=Nat.min_le_left ..
def MK{low zW:Nat}(x:100<=a)(t:a<=5000)(h:zW<=low):hiN 100 zW<=hiN a low:=by
 unfold hiN;have z:zW * 100<=low * a:=cT h x;have v:zW * 100 / 10000<=low * a / 10000:=gB z;have y:min 9223372036854775807 (zW+zW * 100 / 10000)<=min 9223372036854775807 (low+low * a / 10000):=aa
 have u:min 9223372036854775807 (zW+zW * 100 / 10000) * 10000 / (10000 - 100)<=min 9223372036854775807 (low+low * a / 10000) * 10000 / (10000 - a):=
  bf (gB (cd _ y)) (Nat.div_le_div_left aa  aa)
 omega
def zX{a:Nat}(z:100<=a)(y:a<=5000):∀(n:Nat) {x v:Nat},v<=x->oP 100 n v<=oP a n x
 | 0,_,_,h=>h
 | n+1,_,_,h=>zX z y n (Nat.succ_le_succ (MK z y h))
def ML(z:100<=a)(y:a<=5000):9223372036854775808<=oP a 2100 1:=by
 have:=zX z y 2100 (aD 1);rw[Pe] at this;exact this
structure Sp where
 low:Int
 mid:Int
 high:Int
def nk(a low:Nat):Sp:=⟨low,(min 9223372036854775807 (low+low * a / 10000):Nat),hiN a low⟩
def l4(a:Nat):Nat->Nat->List Sp
 | 0,_=>[]
 | n+1,low=>nk a low::if hiN a low=9223372036854775807 then [] else l4 a n (hiN a low+1)
def spans(a:Nat):List Sp:=l4 a 2100 1
def rn(a:Nat):∀n low,ao (l4 a n low)<=n
 | 0,_=>by simp[l4]
 | n+1,low=>by
  unfold l4;have:=rn a n (hiN a low+1)
  split<;>simp only[aJ,aV]<;>omega
def Q_{low:Nat}(x:a<=5000)(h:low<=9223372036854775807):low<=hiN a low:=by
 unfold hiN;have z:low<=min 9223372036854775807 (low+low * a / 10000):=aa
 have y:low<=min 9223372036854775807 (low+low * a / 10000) * 10000 / (10000 - a):=by
  rw[dC aa]
  exact cT z aa
 omega
def uG{a:Nat}(v:a<=5000):∀(n low:Nat),1<=low->low<=9223372036854775807->(∃k,k<n/\hiN a (oP a k low)=9223372036854775807) ->
 (∀s∈l4 a n low,1<=s.low/\(low:Int)<=s.low/\s.low<=s.mid/\s.mid<=s.high/\s.high<=9223372036854775807)/\(l4 a n low).Pairwise (λx y=>x.high<y.low) /\
  ∃s,(l4 a n low).getLast?=some s/\s.high=9223372036854775807
 | 0,_,_,_,⟨k,hk,_⟩=>absurd hk aa
 | n+1,low,h1,h2,⟨k,hk,he⟩=>by
  have p:=Q_ v h2;have f:=zV a low;have d:min 9223372036854775807 (low+low * a / 10000)<=hiN a low:=by
   unfold hiN;have:min 9223372036854775807 (low+low * a / 10000)<=min 9223372036854775807 (low+low * a / 10000) * 10000 / (10000 - a):=by
    rw[dC aa]
    exact eJ _ aa
   omega
  have u:1<=(nk a low).low/\(low:Int)<=(nk a low).low/\(nk a low).low<=(nk a low).mid/\(nk a low).mid<=(nk a low).high/\(nk a low).high<=9223372036854775807:=by
   unfold nk;refine⟨?_,?_,?_,?_,?_⟩<;>simp only<;>omega
  unfold l4
  by_cases x:hiN a low=9223372036854775807
  ·rw[aH x]
   refine⟨λs h=>?_,ad,nk a low,rfl,?_⟩
   ·simp only[ct] at h
    subst h;exact u
   ·show((hiN a low:Nat):Int)=_
    omega
  ·rw[aG x]
   have g:0<k:=by
    cases k with
    | zero=>exact absurd he x
    | succ k=>omega
   obtain⟨t,r,s,y,q⟩:=uG v n (hiN a low+1) aa  aa ⟨k - 1,aa,by
    have:k=k - 1+1:=aa
    rw[this] at he;exact he⟩
   refine⟨λs h=>?_,aT.2 ⟨λs h=>?_,r⟩,s,?_,q⟩
   ·rcases aS.1 h with rfl|h
    ·exact u
    ·have:=t s h
     omega
   ·have:=t s h
    show((hiN a low:Nat):Int)<s.low
    omega
   ·cases hz:l4 a n (hiN a low+1) with
    | nil=>rw[hz] at y;simp at y
    | cons z l=>rw[hz] at y;rw[List.getLast?_cons_cons,y]
def JC(z:100<=a)(y:a<=5000):∃k,k<2100/\hiN a (oP a k 1)=9223372036854775807:=by
 have h:=ML z y;rw[show(2100:Nat)=2099+1 from rfl,yu] at h
 have e:oP a 1 (oP a 2099 1)=hiN a (oP a 2099 1)+1:=rfl;rw[e] at h;have:=zV a (oP a 2099 1);exact⟨2099,aa,aa⟩
def ph(p:100<=a)(z:a<=5000):(∀s∈spans a,1<=s.low/\s.low<=s.mid/\s.mid<=s.high/\s.high<=9223372036854775807)/\(spans a).Pairwise (λx y=>x.high<y.low) /\
 ao (spans a)<=2100/\∃s,(spans a).getLast?=some s/\s.high=9223372036854775807:=by
 obtain⟨t,r,q⟩:=uG z 2100 1 (aD _) aa (JC p z)
 refine⟨λs h=>?_,r,rn ..,q⟩
 obtain⟨y,_,x,v,u⟩:=t s h;exact⟨y,x,v,u⟩
end D
end Go.Proofs.YtdicblkhpcphfaaGreat
