/- Parts. -/
import Derived.Test.YtdicblkhpcphfaaGreatPU07
import Derived.Maps.RangeWalk
import Derived.Maps.OwnSet
import Derived.Maps.OwnOps
set_option maxRecDepth 100000
set_option maxHeartbeats 0
set_option linter.all false
namespace Go.Proofs.YtdicblkhpcphfaaGreat
open Tryz Go.RowKit Go.Lib
open _root_.List renaming length→ab0
open Go.IntKind renaming wrap→ad0
open _root_.Go renaming Calls→af4
open Tryz renaming prog→af5
section
def Ql(e:Ending):Prop:=∃n:Int,e=.panicked [{v:=.iface 439 (.agg #[af6 n]),recovered:=false}]
def iW{α:Type}(x:Option (α × List Int))(val:α->World->Value->Prop)(w:World)(g:Nat)(bs:List Int)(e:Ending)(w':World):Prop:=
 match x with
 | some p=>∃v,e=.returned v/\val p.1 w' v/\hT w' g bs (ab0 bs - ab0 p.2)/\Touch (λk=>k=g) w w'
 | none=>Ql e/\Touch (λk=>k=g) w w'
def I0(c:Int)(f:Int->Int)(g:Nat)(z:List Int)(a:Nat)(w:World)(h:hT w g z a)
 (y:∀w,hT w g z a->af4 af5 330 #[aq g,.int .u8 c] w (mU w g z a f)) :
 af4 af5 346 #[.agg #[aq g],.int .u8 c] w (iW (hU (z.drop a)) (λn _ v=>v=.int .u64 (f n)) w g z):=by
 have H:=ax h;have b:=ax y;have r:af3 w (w.alloc (.cells #[aq g] 441)):=(aC _ _).alloc (aD _) _;have X:=h.lt;clear h y;go_in;go_wp21;refine(b.o _ (H.o.K r)).M ?_;intro e d v;unfold mU at v;cases hu:hU (z.drop a) with
 | none=>
  simp only[hu] at v;have t:=ax hu;obtain⟨p,rfl,q,x,y⟩:=v;have V:(p != 0)=true:=by rcases q with rfl|rfl<;>rfl
  have s:=ax y;have u:=ax x;have Y:d.cell? (af7 (w.heap.size) 0)=some (aq g):=(bn (a:=af7 (w.heap.size) 0) (y.block w.heap.size ad aa)).T (by simp[bW]);clear hu q x y;go_wp21;refine Ix (tD g z a d u.o) ?_;go_wp21;refine⟨rfl,?_⟩;unfold iW;rw[t.o];exact⟨⟨_,rfl⟩,(Touch.of_below r (aD _)).T s.o (λi q=>.inl q)⟩
 | some p=>
  simp only[hu] at v;have t:=ax hu;obtain⟨rfl,x,y⟩:=v;have s:=ax y;have u:=ax x;clear hu x y;go_wp2;go_ret;unfold iW;rw[t.o];exact⟨_,rfl,rfl,u.o,(Touch.of_below r (aD _)).T s.o (λi q=>.inl q)⟩
def lP(g:Nat)(z:List Int)(a:Nat)(w:World)(h:hT w g z a)(y:jE z)(x:ab0 z<=1000000000000):af4 af5 346 #[.agg #[aq g],.int .u8 118] w (iW (hU (z.drop a)) (λn _ v=>v=.int .u64 n) w g z):=
 I0 118 id g z a w h (λw h=>p9 g z a w h y x)
def nV(g:Nat)(z:List Int)(a:Nat)(w:World)(h:hT w g z a)(y:jE z)(x:ab0 z<=1000000000000):af4 af5 346 #[.agg #[aq g],.int .u8 122] w (iW (hU (z.drop a)) (λn _ v=>v=.int .u64 (ub (lH n))) w g z):=
 I0 122 (λn=>ub (lH n)) g z a w h (λw h=>sL g z a w h y x)
def Df(g:Nat)(z:List Int)(a:Nat)(w:World)(h:hT w g z a)(y:jE z)(X:ab0 z<=1000000000000):af4 af5 397 #[.agg #[aq g]] w (iW (jv (z.drop a)) (λn _ v=>v=af6 n) w g z):=by
 have f:af3 w (w.alloc (.cells #[aq g] 441)):=(aC _ _).alloc (aD _) _;have H:=ax (h.K f);have L:=h.lt;have M:a<=ab0 z:=by obtain⟨v,_,_,s⟩:=h;exact s
 have Y:=ax y;clear h y;go_in;go_wp21;refine(lP g z a _ H.o Y.o X).M ?_;intro e T d;unfold iW at d;cases hu:hU (z.drop a) with
 | none=>
  simp only[hu] at d;have y:=ax (by unfold jv;rw[hu]:jv (z.drop a)=none);obtain⟨⟨r,rfl⟩,u⟩:=d;have t:=ax u;clear hu u;go_wp21;refine⟨rfl,?_⟩;unfold iW;rw[y.o];exact⟨⟨_,rfl⟩,(Touch.of_below f (aD _)).T t.o (λi x=>.inl x)⟩
 | some p=>
  obtain⟨n,r⟩:=p;have O:=jm (Y.o.drop a) hu;have U:=(lI hu).1;rw[aW] at U;simp only[hu] at d O U;obtain⟨v,rfl,rfl,s,u⟩:=d;have N:T.cell? (af7 (w.heap.size) 0)=some (aq g):=(bn (a:=af7 (w.heap.size) 0) (u.block w.heap.size ad aa)).T (by simp[bW]);have t:=ax u;have c:=ax s;have V:((ab0 z:Int) - ((ab0 z - ab0 r:Nat):Int))=(ab0 r:Int):=aa;have q:=mA g z (ab0 z - ab0 r) T s X;rw[V] at q;have b:=ax q;clear q s u V;have K:(ab0 r:Int)<18446744073709551616:=aa;by_cases Q:n<=65536
  .have S:decide ((65536:Int)<n)=false:=bq aa
   by_cases P:n<=ab0 r
   .have y:=ax (by unfold jv;rw[hu];simp only;rw[aH ⟨Q,P⟩]:jv (z.drop a)=some (n.toNat,r))
    have R:decide ((ab0 r:Int)<n)=false:=bq aa;have V:=ax (show((n.toNat:Nat):Int)=n by omega);clear hu;go_wp2_with (go_at_call 343;refine RX b.o ?_;rintro u ⟨q,rfl⟩)
    go_ret;unfold iW;rw[y.o];refine⟨_,rfl,?_,c.o.drewN _,((Touch.of_below f (aD _)).T t.o (λi x=>.inl x)).drewN _⟩;simp only;rw[V.o];rfl
   .have y:=ax (by unfold jv;rw[hu];simp only;rw[aF aa]:jv (z.drop a)=none)
    have R:decide ((ab0 r:Int)<n)=true:=bN aa;clear hu;go_wp2_with (first|(go_at_call 343;refine RX b.o ?_;rintro u ⟨q,rfl⟩)|(go_at_call 331;refine Ix (tD g z _ _ (c.o.drewN _)) ?_))
    refine⟨rfl,?_⟩;unfold iW;rw[y.o];exact⟨⟨_,rfl⟩,((Touch.of_below f (aD _)).T t.o (λi x=>.inl x)).drewN _⟩
  .have S:decide ((65536:Int)<n)=true:=bN aa
   have y:=ax (by unfold jv;rw[hu];simp only;rw[aF aa]:jv (z.drop a)=none);clear hu;go_wp2_with (go_at_call 331;refine Ix (tD g z _ _ c.o) ?_);refine⟨rfl,?_⟩;unfold iW;rw[y.o];exact⟨⟨_,rfl⟩,(Touch.of_below f (aD _)).T t.o (λi x=>.inl x)⟩
end
section
variable{w:World}{v:Value}{l:List Int}{k:Nat}{acc:List Mn}{T:Option (List Mn × List Int)}{x:Mn × List Int}
def ic.away{base g:Nat}{w':World}{l:List Mn}(h:ic base w v l)(z:Touch (λk=>k=g) w w')(x:g<base):ic base w' v l:=
 h.stay λk e=>z.block k (h.lt k e).2 (λy=>by have:=(h.lt k e).1;omega)
def OwnB.Xz{b b':Nat}{u:Value}{bs:List Int}{l:List Mn}(h:OwnB b w v bs)(q:ic b' w u l)(z:v.ownBlock=some k):u.ownBlock≠some k:=by
 intro e;rcases h.2 with t|⟨Y,p,f,rfl,c,x,r⟩
 .rw[t.1] at z;cases z
 .rcases q.2 with s|⟨X,g,d,rfl,a,y,V⟩
  .rw[s.1] at e;cases e
  .cases z
   cases e
   rw[x] at y;cases y
def hT.grown{w w':World}{g:Nat}{bs:List Int}{a b:Nat}{u:Value}{l:List Mn}(h:hT w g bs a)(s:ic b w u l)(x:w.grownBy w' u.ownBlock):hT w' g bs a:=by
 obtain⟨v,z,y,r⟩:=h;exact⟨v,(x.block g z.lt (λe=>z.kY s ab e.Y)).T z,hO.stay y (λk t=>x.block k (hO.lt y k t).2 (λe=>y.Xz s t e.Y)),r⟩
def Dh(h:Cr (k+1) acc l=T)(z:jY (acc.getLast?.map (·.1)) l=some x):Cr k (acc++[x.1]) x.2=T:=by
 rw[Cr,z] at h;exact h
def rb(h:Cr (k+1) acc l=T)(z:jY (acc.getLast?.map (·.1)) l=none):T=none:=by
 rw[Cr,z] at h;exact h.Y
def Na(h:Cs (k+1) acc l=T)(z:jY none l=some x):Cs k (acc++[x.1]) x.2=T:=by
 rw[Cs,z] at h;exact h
def Di(h:Cs (k+1) acc l=T)(z:jY none l=none):T=none:=by
 rw[Cs,z] at h;exact h.Y
def Dj(g:Nat)(u:List Int)(a:Nat)(w:World)(h:hT w g u a)(z:jE u)(J:ab0 u<=1000000000000):af4 af5 348 #[.agg #[aq g]] w (iW (lu (u.drop a)) (λl y v=>ic w.heap.size y v l) w g u):=by
 have K:af3 w (w.alloc (.cells #[aq g] 441)):=(aC _ _).alloc (aD _) _;have H:=ax (h.K K);have hlt:=h.lt;have S:=ax z;clear h z;go_in;go_wp21;refine(Df g u a _ H.o S.o J).M ?_;intro e Y s;unfold iW at s;cases hu:jv (u.drop a) with
 | none=>
  simp only[hu] at s;have b:=ax (by unfold lu;rw[hu]:lu (u.drop a)=none);obtain⟨⟨W,rfl⟩,t⟩:=s;have V:=ax t;clear hu t;go_wp21;refine⟨rfl,?_⟩;unfold iW;rw[b.o];exact⟨⟨_,rfl⟩,(Touch.of_below K (aD _)).T V.o (λi z=>.inl z)⟩
 | some p=>
  obtain⟨n,r⟩:=p;simp only[hu] at s;obtain⟨v,rfl,rfl,d,t⟩:=s;have hn:n<=65536/\u.drop (ab0 u - ab0 r)=r:=by
   unfold jv at hu;cases hx:hU (u.drop a) with
   | none=>rw[hx] at hu;cases hu
   | some q=>
    obtain⟨z,x⟩:=q;rw[hx] at hu;simp only at hu;split at hu
    .rename_i y
     simp only[bg,fs] at hu;obtain⟨rfl,rfl⟩:=hu;exact⟨aa,i7 hx⟩
    .cases hu
  obtain⟨hn1,x⟩:=hn;have V:=ax (tt (Touch.of_below K (aD _)) t);have C0:Hid (Y.cell? (af7 (w.heap.size) 0)=some (aq g)):=ax ((bn (a:=af7 (w.heap.size) 0) (t.block w.heap.size ad aa)).T (by simp[bW]));have R:=ax (by have:=t.size;simp at this;omega:w.heap.size<Y.heap.size);have⟨T,y⟩:=ar (lu (u.drop a));have N:=ax y;have R0:=ax (by rw[x,<-y];unfold lu;rw[hu]:Cs n [] (u.drop (ab0 u - ab0 r))=T);have H3:=ax d;clear hu y d t x;generalize ab0 u - ab0 r=a1 at *;go_wp2;go_loopg [3,7] n (λq v i wr=>∃(j f:Nat) (c:List Mn),q=n - j/\j<=n/\i=af6 j/\ab0 c=j/\ic Y.heap.size wr v c/\Hid (hT wr g u f)/\Hid (Cs (n - j) c (u.drop f)=T)/\Hid (Touch (λk=>k=g) Y wr))
  exact⟨0,a1,[],rfl,aa,rfl,rfl,ic.nil_ _ _,H3,R0,ax (Touch.refl _ _)⟩
  case round=>
   obtain⟨j,f,c,U,hj,rfl,y,x,I,G,X⟩:=hrel;have HQ:=ax U;have C:=ax x;have XA:=ax y;have hal:ab0 c+1<=1099511627776:=aa;have P:=(X.o.C (o:=0) R.o aa).T C0.o;have CB:=ax P;have M9:=X.o.size;have hwr:w.heap.size<wr.heap.size:=by have:=R.o;omega
   have l:g<Y.heap.size:=by have:=R.o;omega
   clear U x y;by_cases hlt2:j<n
   .have y:=G.o
    rw[show n - j=(n - (j+1))+1 by omega] at y;have O:=ax y;clear y;go_wp21;refine(nV g u f wr I.o S.o J).M ?_;intro e w3 s;unfold iW at s;cases hA:hU (u.drop f) with
    | none=>
     simp only[hA] at s;have b:Hid (T=none):=ax (Di O.o (by unfold jY;rw[hA]));obtain⟨⟨W,rfl⟩,t⟩:=s;have U:=ax t;clear hA t P;go_wp21;refine⟨rfl,?_⟩;unfold iW;rw[N.o,b.o];exact⟨⟨_,rfl⟩,tt (tt V.o X.o) U.o⟩
    | some p=>
     obtain⟨z,r1⟩:=p;simp only[hA] at s;obtain⟨v,rfl,rfl,d,t⟩:=s;have y:=jm (S.o.drop f) hA;have h:=uM y.1 y.2;have zw:=ax (oG h.1 h.2);have E:=ax (i7 hA);have D:=ax hA;have A:=(t.C (o:=0) hwr aa).T CB.o;have U:=ax t;have R3:=ax d;have hz3:=t.size;clear hA d t P y;simp only;generalize ab0 u - ab0 r1=B at *;go_wp21;refine(lP g u B w3 R3.o S.o J).M ?_;intro e w4 s;unfold iW at s;cases hA2:hU (u.drop B) with
     | none=>
      simp only[hA2] at s;have b:Hid (T=none):=ax (Di O.o (by unfold jY;rw[D.o];simp only[Kd];rw[<-E.o,hA2]));obtain⟨⟨W,rfl⟩,t⟩:=s;have Q:=ax t;clear hA2 t A;go_wp21;refine⟨rfl,?_⟩;unfold iW;rw[N.o,b.o];exact⟨⟨_,rfl⟩,tt (tt (tt V.o X.o) U.o) Q.o⟩
     | some p=>
      obtain⟨y,F⟩:=p;simp only[hA2] at s;obtain⟨v,rfl,rfl,d,t⟩:=s;have HN:=ax (Na O.o (x:=((lH z,y),F)) (by unfold jY;rw[D.o];simp only[Kd];rw[<-E.o,hA2]));have E2:=ax (i7 hA2);have Q:=ax t;have R4:=ax d;have Gp:=t.size;have M:=ax ((C.o.away U.o l).away Q.o l);have hzw:=zw.o;clear hA2 d t A
      go_wp2_with (first
       | (at_builtin
          go_must (refine iP rfl (.tmp 12) (.tmp 17) rfl Y.heap.size u3 c rfl (M.o.alloc _) _ [(lH z,y)] rfl (mS.one _ (lH z,y)) hal (by simp only[aI];omega) ?_)
          intro v5 i m L a5;have T7:Hid (Touch (λk=>k=g) Y i):=ax (((tt (tt X.o U.o) Q.o).alloc _).grown L (λk hk=>.inr (M.o.lt k hk).1));have R5:Hid (hT i g u (ab0 u - ab0 F)):=ax ((R4.o.K ((aC _ _).alloc (aD _) _)).grown (M.o.alloc _) L);have O5:=ax m;clear m L a5))
      go_roundg (n - (j+1))
      exact⟨j+1,ab0 u - ab0 F,c++[(lH z,y)],rfl,aa,af,by simp[XA.o],O5.o,R5,ax (by rw[E2.o];exact HN.o),T7⟩;have:=HQ.o;omega
   .have x:j=n:=aa
    subst x;rw[cZ] at G;have b:=ax (by rw[<-G.o];rfl:T=some (c,u.drop f));have z:ab0 u - ab0 (u.drop f)=f:=by
     obtain⟨v,_,_,d⟩:=I.o;rw[aW];omega
    have y:=ax z;clear z P;go_wp2;go_ret;unfold iW;rw[N.o,b.o];exact⟨_,rfl,C.o.more (aa2 R.o),by simp only;rw[y.o];exact I.o,tt V.o X.o⟩
end
section
def okV(l:List Mn):Prop:=∀m∈l,-9223372036854775808<=m.1/\m.1<=9223372036854775807
def okV.snoc{l:List Mn}{m:Mn}(h:okV l)(y:-9223372036854775808<=m.1/\m.1<=9223372036854775807):okV (l++[m]):=λx z=>by
 rcases cz.1 z with z|z
 .exact h x z
 .simp only[bQ] at z;subst z;exact y
def Gt(g:Nat)(t:List Int)(a:Nat)(w:World)(h:hT w g t a)(z:jE t)(hlen:ab0 t<=1000000000000):af4 af5 347 #[.agg #[aq g]] w (iW (kM (t.drop a)) (λl w' v=>ic w.heap.size w' v l) w g t):=by
 have hb1:af3 w (w.alloc (.cells #[aq g] 441)):=(aC _ _).alloc (aD _) _;have H:=ax (h.K hb1);have hlt:=h.lt;have F:=ax z;clear h z;go_in;go_wp21;refine(Df g t a _ H.o F.o hlen).M ?_;intro e P s;unfold iW at s;cases hu:jv (t.drop a) with
 | none=>
  simp only[hu] at s;have b:=ax (by unfold kM;rw[hu]:kM (t.drop a)=none);obtain⟨⟨pv,rfl⟩,u⟩:=s;have L:=ax u;clear hu u;go_wp21;refine⟨rfl,?_⟩;unfold iW;rw[b.o];exact⟨⟨_,rfl⟩,(Touch.of_below hb1 (aD _)).T L.o (λi z=>.inl z)⟩
 | some p=>
  obtain⟨n,r⟩:=p;simp only[hu] at s;obtain⟨v,rfl,rfl,d,u⟩:=s;have hn:n<=65536/\t.drop (ab0 t - ab0 r)=r:=by
   unfold jv at hu;cases hx:hU (t.drop a) with
   | none=>rw[hx] at hu;cases hu
   | some q=>
    obtain⟨z,x⟩:=q;rw[hx] at hu;simp only at hu;split at hu
    .rename_i y
     simp only[bg,fs] at hu;obtain⟨rfl,rfl⟩:=hu;exact⟨aa,i7 hx⟩
    .cases hu
  obtain⟨hn1,x⟩:=hn;have L:=ax (tt (Touch.of_below hb1 (aD _)) u);have C0:Hid (P.cell? (af7 (w.heap.size) 0)=some (aq g)):=ax ((bn (a:=af7 (w.heap.size) 0) (u.block w.heap.size ad aa)).T (by simp[bW]));have HH:=ax (by have:=u.size;simp at this;omega:w.heap.size<P.heap.size);have⟨T,y⟩:=ar (kM (t.drop a));have l:=ax y;have R0:=ax (by rw[x,<-y];unfold kM;rw[hu]:Cr n [] (t.drop (ab0 t - ab0 r))=T);have H3:=ax d;clear hu y d u x;generalize ab0 t - ab0 r=a1 at *;go_wp2;go_loopg [3,9] n (λq v i wr=>∃(Y:Nat) (f:List Mn),q=n - ab0 f/\ab0 f<=n/\i=af6 (ab0 f)/\ic P.heap.size wr v f/\okV f/\Hid (hT wr g t Y)/\Hid (Cr (n - ab0 f) f (t.drop Y)=T)/\Hid (Touch (λk=>k=g) P wr))
  exact⟨a1,[],rfl,ad,rfl,ic.nil_ _ _,(λm R=>by cases R),H3,R0,ax (Touch.refl _ _)⟩
  case round=>
   obtain⟨Y,f,x,hj,rfl,C,y,hr,hs,U⟩:=hrel;have HQ:=ax x;have HO:=ax C;have zC:=ax y;have hal:ab0 f+1<=1099511627776:=aa;have D:=(U.o.C (o:=0) HH.o aa).T C0.o;have CB:=ax D;have M9:=U.o.size;have hwr:w.heap.size<wr.heap.size:=by have:=HH.o;omega
   have hg2:g<P.heap.size:=by have:=HH.o;omega
   clear x y;by_cases hlt2:ab0 f<n
   .have I:=hs.o
    rw[show n - ab0 f=(n - (ab0 f+1))+1 by omega] at I;have J:=ax I;clear I;rcases bo (ab0 f) with h0|h0
    .obtain rfl:f=[]:=aV h0
     clear C;simp only[aY] at hlt2 |-;have y:((0:Nat):Int)=0:=rfl;rw[y];clear y
     go_wp21;refine(nV g t Y wr hr.o F.o hlen).M ?_
     intro e w3 s;unfold iW at s;cases hA:hU (t.drop Y) with
     | none=>
      simp only[hA] at s;have b:Hid (T=none):=ax (rb J.o (by simp only[gq,eT];unfold jY;rw[hA]));obtain⟨⟨pv,rfl⟩,u⟩:=s;have c:=ax u;clear hA u D;go_wp21;refine⟨rfl,?_⟩;unfold iW;rw[l.o,b.o];exact⟨⟨_,rfl⟩,tt (tt L.o U.o) c.o⟩
     | some p=>
      obtain⟨z,r1⟩:=p;simp only[hA] at s;obtain⟨v,rfl,rfl,d,u⟩:=s;have zb:=jm (F.o.drop Y) hA;have X:=uM zb.1 zb.2;have Q:=ax (oG X.1 X.2);have E1:=ax (i7 hA);have E:=ax hA;have i:=(u.C (o:=0) hwr aa).T CB.o;have c:=ax u;have R3:=ax d;have hz3:=u.size;clear hA d u D zb;simp only;generalize ab0 t - ab0 r1=W at *;go_wp21;refine(lP g t W w3 R3.o F.o hlen).M ?_;intro e w4 s;unfold iW at s;cases hA2:hU (t.drop W) with
      | none=>
       simp only[hA2] at s;have b:Hid (T=none):=ax (rb J.o (by simp only[gq,eT];unfold jY;rw[E.o];simp only[Kd];rw[<-E1.o,hA2]));obtain⟨⟨pv,rfl⟩,u⟩:=s;have S:=ax u;clear hA2 u i;go_wp21;refine⟨rfl,?_⟩;unfold iW;rw[l.o,b.o];exact⟨⟨_,rfl⟩,tt (tt (tt L.o U.o) c.o) S.o⟩
      | some p=>
       obtain⟨y,M⟩:=p;simp only[hA2] at s;obtain⟨v,rfl,rfl,d,u⟩:=s;have HN:=ax (Dh J.o (x:=((lH z,y),M)) (by simp only[gq,eT];unfold jY;rw[E.o];simp only[Kd];rw[<-E1.o,hA2]));have E2:=ax (i7 hA2);have S:=ax u;have R4:=ax d;have Gp:=u.size;have N:=ax ((HO.o.away c.o hg2).away S.o hg2);have K:=Q.o;have V:=ax X;clear hA2 d u i
       go_wp2_with (first
        | (at_builtin
           go_must (refine iP rfl (.tmp 42) (.tmp 47) rfl P.heap.size u3 [] rfl (N.o.alloc _) _ [(lH z,y)] rfl (mS.one _ (lH z,y)) hal (by simp only[aI];omega) ?_)
           intro v5 A B O a5;have T7:Hid (Touch (λk=>k=g) P A):=ax (((tt (tt U.o c.o) S.o).alloc _).grown O (λk hk=>.inr (N.o.lt k hk).1));have R5:Hid (hT A g t (ab0 t - ab0 M)):=ax ((R4.o.K ((aC _ _).alloc (aD _) _)).grown (N.o.alloc _) O);have O5:=ax B;clear B O a5))
       go_roundg (n - (0+1))
       case measure=>have:=HQ.o;simp only[aY] at this;omega
       case rel=>exact⟨ab0 t - ab0 M,[(lH z,y)],rfl,ae,rfl,O5.o,(λm R=>by simp only[bQ] at R;subst R;exact V.o),R5,ax (by rw[E2.o];exact HN.o),T7⟩
    .obtain⟨m,R⟩:∃m,ab0 f=m+1:=⟨ab0 f - 1,aa⟩
     obtain⟨gl,cl,rfl,XD,uS,hcl,ab3⟩:=C.pos h0;have V:=C.at_ (j:=m) (by omega);have hlast:f.getLast?=some (f[m]' aa):=by
      rw[gz,show ab0 f - 1=m by omega];exact aL aa
     have Q:=zC.o (f[m]' aa) (aP aa);have X:=ax hlast;have⟨ql,G⟩:=ar (f[m]' aa );rw[G] at V Q X;have AT:=ax V.1;have K:=ax R;rw[R] at HO hcl hlt2 hal |-;rw[R] at HQ;clear C V hlast G R h0;obtain⟨q,qn⟩:=ql;simp only at AT Q;have G:=ax (by rw[X.o];rfl:f.getLast?.map (·.1)=some q)
     have jne:(((m:Int)+1) == 0)=false:=bV.2 aa;have jn1:(m:Int)+1<(n:Int):=aa;clear Q X;go_wp21;refine(lP g t Y wr hr.o F.o hlen).M ?_;intro e w3 s;unfold iW at s;cases hA:hU (t.drop Y) with
     | none=>
      simp only[hA] at s;have b:Hid (T=none):=ax (rb J.o (by rw[G.o];unfold jY;rw[hA]));obtain⟨⟨pv,rfl⟩,u⟩:=s;have c:=ax u;clear hA u D;go_wp21;refine⟨rfl,?_⟩;unfold iW;rw[l.o,b.o];exact⟨⟨_,rfl⟩,tt (tt L.o U.o) c.o⟩
     | some p=>
      obtain⟨z,r1⟩:=p;simp only[hA] at s;obtain⟨v,rfl,rfl,d,u⟩:=s;have zb:=jm (F.o.drop Y) hA;simp only at zb;have E1:=ax (i7 hA);have E:=ax hA;have i:=(u.C (o:=0) hwr aa).T CB.o;have at3:=(u.C (o:=m * 2) uS aa).T AT.o;have c:=ax u;have R3:=ax d;have hz3:=u.size;have⟨V,X⟩:=ar (wrap64 ((ub q+z) % 18446744073709551616));have Q:-9223372036854775808<=V/\V<=9223372036854775807:=by rw[<-X];unfold wrap64;omega
      have hV2:wrap64 (ad0 .u64 (ad0 .u64 q+z))=V:=by rw[<-X];simp only[iy,ub]
      have HV:=ax X;have V0:=Q.1;have V1:=Q.2;clear hA d u D X Q;generalize ab0 t - ab0 r1=W at *;by_cases X:V<q
      .have b:Hid (T=none):=ax (rb J.o (by rw[G.o];unfold jY;rw[E.o];simp only[Kd];rw[HV.o,aH X]))
       have Q:decide (V<q)=true:=bN X;go_wp2_with (go_at_call 331;refine Ix (tD g t _ _ R3.o) ?_);refine⟨rfl,?_⟩;unfold iW;rw[l.o,b.o];exact⟨⟨_,rfl⟩,tt (tt L.o U.o) c.o⟩
      .have Q:decide (V<q)=false:=bq X
       go_wp21;refine(lP g t W w3 R3.o F.o hlen).M ?_
       intro e w4 s;unfold iW at s;cases hA2:hU (t.drop W) with
       | none=>
        simp only[hA2] at s;have b:Hid (T=none):=ax (rb J.o (by rw[G.o];unfold jY;rw[E.o];simp only[Kd];rw[HV.o,aF aa];simp only;rw[<-E1.o,hA2]));obtain⟨⟨pv,rfl⟩,u⟩:=s;have S:=ax u;clear hA2 u i at3;go_wp21;refine⟨rfl,?_⟩;unfold iW;rw[l.o,b.o];exact⟨⟨_,rfl⟩,tt (tt (tt L.o U.o) c.o) S.o⟩
       | some p=>
        obtain⟨y,M⟩:=p;simp only[hA2] at s;obtain⟨v,rfl,rfl,d,u⟩:=s;have HN:=ax (Dh J.o (x:=((V,y),M)) (by rw[G.o];unfold jY;rw[E.o];simp only[Kd];rw[HV.o,aF aa];simp only;rw[<-E1.o,hA2]));have E2:=ax (i7 hA2);have S:=ax u;have R4:=ax d;have Gp:=u.size;have N:=ax ((HO.o.away c.o hg2).away S.o hg2);clear hA2 d u i at3
        go_wp2_with (first
         | (at_builtin
            go_must (refine iP rfl (.tmp 42) (.tmp 47) rfl P.heap.size (.slice (some (af7 gl 0)) (m+1) cl) f rfl (N.o.alloc _) _ [(V,y)] rfl (mS.one _ (V,y)) (by simp only[bh];have:=K.o;omega) (by simp only[aI];omega) ?_)
            intro v5 A B O a5;have T7:Hid (Touch (λk=>k=g) P A):=ax (((tt (tt U.o c.o) S.o).alloc _).grown O (λk hk=>.inr (N.o.lt k hk).1));have R5:Hid (hT A g t (ab0 t - ab0 M)):=ax ((R4.o.K ((aC _ _).alloc (aD _) _)).grown (N.o.alloc _) O);have O5:=ax B;clear B O a5))
        go_roundg (n - (m+1+1))
        exact⟨ab0 t - ab0 M,f++[(V,y)],by rw[aE,K.o];rfl,by rw[aE,K.o];simp;omega,by rw[aE,K.o];go_num,O5.o,zC.o.snoc ⟨V0,V1⟩,R5,ax (by rw[E2.o,aE,K.o];have h:=HN.o;rw[K.o] at h;exact h),T7⟩;have:=HQ.o;omega
   .have x:ab0 f=n:=aa
    have I:=hs.o;rw[x,cZ] at I;have b:=ax (by rw[<-I];rfl:T=some (f,t.drop Y));have z:ab0 t - ab0 (t.drop Y)=Y:=by
     obtain⟨v,_,_,d⟩:=hr.o;rw[aW];omega
    have y:=ax z;clear z D I C;go_wp2;go_ret;unfold iW;rw[l.o,b.o];exact⟨_,rfl,HO.o.more (aa2 HH.o),by simp only;rw[y.o];exact hr.o,tt L.o U.o⟩
end
section
def catch_panicking(z y:Nat)(U T:Value)(n:Int)(w:World)(t:w.cell? (af7 z 0)=some U)(s:w.cell? (af7 y 0)=some T)(R:w.frozen? (af7 z 0)=false)(Q:w.frozen? (af7 y 0)=false)(c:z≠y):CallsD prog 345 #[aq z,aq y] (.panicking ({v:=.iface 439 (.agg #[af6 n]),recovered:=false}::[])) w λe V x=>
  e=.returned (.tuple #[])/\V=.panicking ({v:=.iface 439 (.agg #[af6 n]),recovered:=true}::[])/\x.cell? (af7 z 0)=some (.pointer none)/\x.cell? (af7 y 0)=some (af6 9)/\Touch (λk=>k=z\/k=y) w x:=by
 have a:z<w.heap.size:=bH _ _ t;have Y:y<w.heap.size:=bH _ _ s;refine callsD_of_wpS func345 rfl λf S b=>?_;apply wpS_seq
 apply wpS_region
 rw[ntmps345];simp[wpOpsS,go_sem,recoverD,b,Exit.thenS];refine wpS_of_wp ?_;have e:(#[aq z,aq y]++(Array.replicate 9 undef).setIfInBounds 3 (Value.iface 439 (Value.agg #[af6 n])):Array Value)=#[aq z,aq y,undef,undef,undef,Value.iface 439 (Value.agg #[af6 n]),undef,undef,undef,undef,undef]:=rfl;rw[e];clear e;have P:∀(n:Int) (w:World),(Instr.typeAssert (.iface 439 (.agg #[af6 n])) 20 439 true).run prog w=.ok (.tuple #[.agg #[af6 n],.bool true]) w:=λ_ _=>by kernel_rfl
 go_wp2;cases f
 have r:((af7 z 0):Addr)≠(af7 y 0):=λh=>c (by injection h);have q:((w.setCell (af7 z 0) (.pointer none)).setCell (af7 y 0) (af6 9)).cell? (af7 z 0)=some (.pointer none):=
  (bK _ _ _ _ r.Y).T (cY _ _ _ t)
 have g:((w.setCell (af7 z 0) (.pointer none)).setCell (af7 y 0) (af6 9)).cell? (af7 y 0)=some (af6 9):=
  cY _ _ _ ((bK _ _ _ _ r).T s)
 have u:∀(X:World) (o:Obj) (h:Nat),h<X.heap.size->(X.alloc o).cell? (af7 h 0)=X.cell? (af7 h 0):=λX o h d=>((aC X.heap.size X).alloc (aD _) o).C (p:=af7 h 0) d;refine⟨rfl,_,rfl,.tuple #[],by simp[results,Tryz.results345,go_sem],rfl,rfl,?_,?_,?_⟩
 .exact(u _ _ _ (by simp only[bT];exact a)).T q
 .exact(u _ _ _ (by simp only[bT];exact Y)).T g
 .exact(((Touch.refl (λk=>k=z\/k=y) w).setCell (p:=af7 z 0) (.inl (.inl rfl)) _).setCell (p:=af7 y 0) (.inl (.inr rfl)) _).alloc _
def catch_idle(y x:Nat)(w:World):CallsD prog 345 #[aq y,aq x] .returning w λe u t=>e=.returned (.tuple #[])/\u=.returning/\t=w:=by
 refine callsD_of_wpS func345 rfl λz v v=>?_;apply wpS_seq
 apply wpS_region
 simp[wpOpsS,go_sem,recoverD,v,ntmps345,Exit.thenS];refine wpS_of_wp ?_;go_wp2;cases z
 simp_all[bodyPostS,results,Tryz.results345]
end
namespace D
variable{c k n x:Int}{m:Nat}{D:DataW Unit}{left:Lit->Bool}
abbrev Pr:=Int × Int
def tot(l:List Pr):Int:=(l.map Prod.snd).sum
abbrev ji(l:List Pr):Prop:=l.Pairwise (λa b=>a.1<b.1)
abbrev i'(l:List Pr):Prop:=∀p∈l,0<p.2
def iu(k n:Int):List Pr->List Pr
 | []=>[(k,n)]
 | p::l=>if p.1<k then p::iu k n l else if p.1=k then(k,p.2+n)::l else(k,n)::p::l
def iC(a b:List Pr):List Pr:=b.foldl (λl p=>iu p.1 p.2 l) a
def lA(l:List Pr)(k:Int):Int:=(l.map λp=>if p.1=k then p.2 else 0).sum
def uT(l:List Pr)(t:Int):Int:=(l.map λp=>if p.1<t then p.2 else 0).sum
@[simp] theorem Qm:tot []=0:=rfl
@[simp] theorem kx (p:Pr) (l:List Pr):tot (p::l)=p.2+tot l:=by simp[tot]
def h_(a b:List Pr):tot (a++b)=tot a+tot b:=by simp[tot]
@[simp] theorem XF (k:Int):lA [] k=0:=rfl
@[simp] theorem jj (p:Pr) (l:List Pr) (k:Int):lA (p::l) k=(if p.1=k then p.2 else 0)+lA l k:=by simp[lA]
def Am(a b:List Pr)(k:Int):lA (a++b) k=lA a k+lA b k:=by simp[lA]
@[simp] theorem XG (k:Int):uT [] k=0:=rfl
@[simp] theorem oI (p:Pr) (l:List Pr) (k:Int):uT (p::l) k=(if p.1<k then p.2 else 0)+uT l k:=by simp[uT]
def uU(a b:List Pr)(k:Int):uT (a++b) k=uT a k+uT b k:=by simp[uT]
def p_(k n:Int):∀l,tot (iu k n l)=tot l+n
 | []=>by simp[iu]
 | p::l=>by
  unfold iu;split
  .simp only[kx,p_ k n l];omega
  .split<;>simp only[kx]<;>omega
def uV(k n j:Int):∀l,lA (iu k n l) j=lA l j+if k=j then n else 0
 | []=>by simp[iu]
 | p::l=>by
  unfold iu;split
  .simp only[jj,uV k n j l];omega
  .split
   .rename_i h
    simp only[jj,h];split<;>omega
   .simp only[jj];omega
def Nb(k n t:Int):∀l,uT (iu k n l) t=uT l t+if k<t then n else 0
 | []=>by simp[iu]
 | p::l=>by
  unfold iu;split
  .simp only[oI,Nb k n t l];omega
  .split
   .rename_i h
    simp only[oI,h];split<;>omega
   .simp only[oI];omega
def put_mem{l:List Pr}{p:Pr}(h:p∈iu k n l):p.1=k\/p∈l:=by
 induction l with
 | nil=>left;simp[iu] at h;rw[h]
 | cons q l ih=>
  unfold iu at h;split at h
  .rcases aS.1 h with rfl|h
   .exact .inr (aJ ..)
   .exact(ih h).imp id (aQ _)
  .split at h
   .rcases aS.1 h with rfl|h
    .exact .inl rfl
    .exact .inr (aQ _ h)
   .rcases aS.1 h with rfl|h
    .exact .inl rfl
    .exact .inr h
def xi{k n:Int}:∀{l:List Pr},ji l->ji (iu k n l)
 | [],_=>by simp[iu]
 | p::l,h=>by
  have y:=aR.1 h;unfold iu;split
  .rename_i x
   refine aR.2 ⟨λq z=>?_,xi y.2⟩;rcases put_mem z with e|z
   .rw[e];exact x
   .exact y.1 q z
  .split
   .rename_i x
    refine aR.2 ⟨λq z=>?_,y.2⟩;have:=y.1 q z;show k<q.1
    omega
   .refine aR.2 ⟨λq z=>?_,h⟩
    show k<q.1
    rcases aS.1 z with rfl|z
    .omega
    .have:=y.1 q z;omega
def put_pos{k n:Int}(y:0<n):∀{l:List Pr},i' l->i' (iu k n l)
 | [],_=>by intro p z;simp[iu] at z;rw[z];exact y
 | q::l,h=>by
  intro p z;have u:=h q (aJ ..);have v:i' l:=λx t=>h x (aQ _ t);unfold iu at z;split at z
  .rcases aS.1 z with rfl|z
   .exact u
   .exact put_pos y v p z
  .split at z
   .rcases aS.1 z with rfl|z
    .show 0<q.2+n;omega
    .exact v p z
   .rcases aS.1 z with rfl|z
    .exact y
    .exact h p z
def p'(k n:Int):∀l:List Pr,ab0 l<=ab0 (iu k n l)/\ab0 (iu k n l)<=ab0 l+1
 | []=>by simp[iu]
 | q::l=>by
  have:=p' k n l;unfold iu;split
  .simp only[aK];omega
  .split<;>simp only[aK]<;>omega
def qa(a:List Pr):iC a []=a:=rfl
def tE(a:List Pr)(p:Pr)(b:List Pr):iC a (p::b)=iC (iu p.1 p.2 a) b:=rfl
def ym(a b:List Pr)(p:Pr):iC a (b++[p])=iu p.1 p.2 (iC a b):=by simp[iC,dN]
def lR:∀(b a:List Pr),tot (iC a b)=tot a+tot b
 | [],a=>by simp[qa]
 | p::b,a=>by rw[tE,lR b,p_,kx];omega
def Bt(j:Int):∀(b a:List Pr),lA (iC a b) j=lA a j+lA b j
 | [],a=>by simp[qa]
 | p::b,a=>by rw[tE,Bt j b,uV,jj];omega
def Gu(j:Int):∀(b a:List Pr),uT (iC a b) j=uT a j+uT b j
 | [],a=>by simp[qa]
 | p::b,a=>by rw[tE,Gu j b,Nb,oI];omega
def mL:∀{b a:List Pr},ji a->ji (iC a b)
 | [],_,h=>h
 | _::b,_,h=>mL (b:=b) (xi h)
def lS:∀{b a:List Pr},i' a->i' b->i' (iC a b)
 | [],_,h,_=>h
 | p::b,_,h,hb=>lS (b:=b) (put_pos (hb p (aJ ..)) h) λx z=>hb x (aQ _ z)
def mN{k:Int}:∀{l:List Pr},(∀p∈l,p.1≠k)->lA l k=0
 | [],_=>rfl
 | p::l,h=>by
  rw[jj,aF (h p (aJ ..)),mN λq z=>h q (aQ _ z)];rfl
def j_{k:Int}:∀{l:List Pr},i' l->0<=lA l k
 | [],_=>by simp
 | p::l,h=>by
  have:=h p (aJ ..);have:=j_ (k:=k) (l:=l) λq z=>h q (aQ _ z);rw[jj];split<;>omega
def sO{l:List Pr}(y:i' l){p:Pr}(h:p∈l):0<lA l p.1:=by
 induction l with
 | nil=>cases h
 | cons q l ih=>
  have u:=y q (aJ ..);have z:i' l:=λx v=>y x (aQ _ v);rw[jj];rcases aS.1 h with rfl|h
  .have:=j_ (k:=p.1) z
   simp only[if_true];omega
  .have:=ih z h
   split<;>omega
def nd{l:List Pr}(z:i' l)(k:Int):(∃p∈l,p.1=k)<->lA l k≠0:=by
 constructor
 .rintro ⟨p,h,rfl⟩
  have:=sO z h;omega
 .intro h
  by_cases y:∃p∈l,p.1=k
  .exact y
  .exact absurd (mN λp z e=>y ⟨p,z,e⟩) h
def Bu{p:Pr}{l:List Pr}(h:ji (p::l)):lA (p::l) p.1=p.2:=by
 rw[jj,mN λq z e=>by have:=(aR.1 h).1 q z;omega];simp
def I1:∀{a b:List Pr},ji a->ji b->i' a->i' b->(∀k,lA a k=lA b k)->a=b
 | [],[],_,_,_,_,_=>rfl
 | [],q::b,_,_,_,hb,h=>by
  have:=sO hb (aJ ..);rw[<-h] at this;simp at this
 | p::a,[],_,_,ha,_,h=>by
  have:=sO ha (aJ ..);rw[h] at this;simp at this
 | p::a,q::b,sa,sb,ha,hb,h=>by
  have u:=aR.1 sa;have t:=aR.1 sb;have e:p.1=q.1:=by
   have s:=sO ha (aJ ..);have r:=sO hb (aJ ..);rw[h] at s;rw[<-h] at r;obtain⟨x,z,g⟩:=(nd hb p.1).2 aa;obtain⟨y,v,f⟩:=(nd ha q.1).2 aa;have d:q.1<=p.1:=by
    rcases aS.1 z with rfl|z
    .omega
    .have:=t.1 x z;omega
   have c:p.1<=q.1:=by
    rcases aS.1 v with rfl|v
    .omega
    .have:=u.1 y v;omega
   omega
  have y:p.2=q.2:=by
   have:=h p.1;rw[Bu sa,e,Bu sb] at this;exact this
  have:p=q:=Prod.ext e y;subst this;rw[I1 u.2 t.2 (λx z=>ha x (aQ _ z)) (λx z=>hb x (aQ _ z)) (λk=>by
   have:=h k;rw[jj,jj] at this;omega)]
def bump(n:Int):List Pr->List Pr
 | []=>[]
 | p::l=>(p.1,p.2+n)::l
def Kn(l:List Pr):bump 0 l=l:=by cases l<;>simp[bump]
def bump_length(n:Int)(l:List Pr):ab0 (bump n l)=ab0 l:=by cases l<;>simp[bump]
def hZ(m:Nat)(l:List Pr):List Pr × Int:=(bump (tot (l.take (ab0 l - m))) (l.drop (ab0 l - m)),tot (l.take (ab0 l - m)))
def lT{l:List Pr}(h:ab0 l<=m):hZ m l=(l,0):=by
 unfold hZ;rw[show ab0 l - m=0 by omega];simp[Kn]
def tF(A B:List Pr):hZ (ab0 B) (A++B)=(bump (tot A) B,tot A):=by
 unfold hZ;rw[show(A++B).length - ab0 B=ab0 A by rw[aE];omega];rw[List.take_left' rfl,fO rfl]
def rP(m:Nat)(y:0<m)(l:List Pr)(h:m<ab0 l):∃A q B,l=A++q::B/\ab0 (q::B)=m/\0<ab0 A:=by
 have z:=bL (ab0 l - m) l;cases hd:l.drop (ab0 l - m) with
 | nil=>
  have:=bu List.length hd;rw[aW] at this;simp at this;omega
 | cons q B=>
  refine⟨l.take (ab0 l - m),q,B,by rw[<-hd,z],?_,?_⟩
  .rw[<-hd,aW];omega
  .rw[aU];omega
def tG{A B:List Pr}(h:ji (A++B)):ji A/\ji B/\∀a∈A,∀b∈B,a.1<b.1:=by
 rw[ji,fJ] at h;exact h
def Bv{t:Int}:∀{l:List Pr},(∀p∈l,p.1<t)->uT l t=tot l
 | [],_=>rfl
 | p::l,h=>by
  rw[oI,aH (h p (aJ ..)),Bv λq z=>h q (aQ _ z),kx]
def xj{t:Int}:∀{l:List Pr},(∀p∈l,t<=p.1)->uT l t=0
 | [],_=>rfl
 | p::l,h=>by
  have:=h p (aJ ..);rw[oI,aF aa,xj λq z=>h q (aQ _ z)];rfl
def g_:∀{l:List Pr},i' l->0<=tot l
 | [],_=>by simp
 | p::l,h=>by
  have:=h p (aJ ..);have:=g_ (l:=l) λq z=>h q (aQ _ z);rw[kx];omega
def Qn{l:List Pr}(h:i' l)(z:0<ab0 l):0<tot l:=by
 cases l with
 | nil=>simp at z
 | cons p l=>
  have:=h p (aJ ..);have:=g_ (l:=l) λq y=>h q (aQ _ y);rw[kx];omega
def tH{A B:List Pr}(h:i' (A++B)):i' A/\i' B:=⟨λp z=>h p (dJ _ z),λp z=>h p (dG _ z)⟩
def qb:∀{b a:List Pr},ji a->ji b->(∀p∈a,∃q∈b,q.1=p.1)->ab0 a<=ab0 b
 | _,[],_,_,_=>by simp
 | [],p::a,_,_,h=>by
  obtain⟨q,z,_⟩:=h p (aJ ..);cases z
 | q::b,p::a,sa,sb,h=>by
  have r:=aR.1 sa;have g:=aR.1 sb;by_cases e:p.1=q.1
  .have:=qb (b:=b) (a:=a) r.2 g.2 λx v=>by
    obtain⟨y,u,t⟩:=h x (aQ _ v);rcases aS.1 u with rfl|u
    .have:=r.1 x v;omega
    .exact⟨y,u,t⟩
   simp only[aK];omega
  .have:=qb (b:=b) (a:=p::a) sa g.2 λx v=>by
    obtain⟨y,u,t⟩:=h x v;rcases aS.1 u with rfl|u
    .obtain⟨z,s,f⟩:=h p (aJ ..)
     rcases aS.1 s with rfl|s
     .exact absurd f.Y e
     .have:=g.1 z s
      rcases aS.1 v with rfl|v
      .omega
      .have:=r.1 x v;omega
    .exact⟨y,u,t⟩
   simp only[aK] at this |-;omega
def xk{A B:List Pr}(z:i' A)(y:i' B)(k:Int):(∃p∈iC A B,p.1=k)<->(∃p∈A,p.1=k)\/(∃p∈B,p.1=k):=by
 rw[nd (lS z y),nd z,nd y,Bt];have:=j_ (k:=k) z;have:=j_ (k:=k) y;omega
def Dk(t:Int):∀{l:List Pr},ji l->∃A H,l=A++H/\(∀p∈A,p.1<t)/\∀p∈H,t<=p.1
 | [],_=>⟨[],[],rfl,ad,ad⟩
 | p::l,h=>by
  have y:=aR.1 h;by_cases u:p.1<t
  .obtain⟨A,H,e,x,v⟩:=Dk t y.2
   refine⟨p::A,H,by rw[e];rfl,λq z=>?_,v⟩;rcases aS.1 z with rfl|z
   .exact u
   .exact x q z
  .refine⟨[],p::l,rfl,ad,λq z=>?_⟩
   rcases aS.1 z with rfl|z
   .omega
   .have:=y.1 q z;omega
def mj:List Pr->Int
 | []=>0
 | p::_=>p.1
def An(n:Int)(l:List Pr):mj (bump n l)=mj l:=by cases l<;>rfl
def iR(f:Int)(L L':List Pr):Int:=if 0<f/\mj L=mj L' then f else 0
def mr(m:Nat)(a b:List Pr × Int)(M:List Pr):List Pr × Int:=
 ((hZ m M).1,(hZ m M).2+iR a.2 a.1 (hZ m M).1+iR b.2 b.1 (hZ m M).1)
def Nc{l:List Pr}(x:0<m)(v:i' l)(h:¬0<(hZ m l).2):hZ m l=(l,0)/\ab0 l<=m:=by
 by_cases z:ab0 l<=m
 .exact⟨lT z,z⟩
 .obtain⟨A,q,B,rfl,e,y⟩:=rP m x l aa
  rw[<-e,tF] at h;exact absurd (Qn (tH v).1 y) h
def I4(V:0<m){A S:List Pr}(Q:ji A)(Y:i' A){A0 B0:List Pr}{q:Pr}(P:S=A0++q::B0)(J:ji S)(N:ab0 (q::B0)=m)
 (X:∀p∈A,∃x∈S,x.1=p.1):∃F,F=(if 0<(hZ m A).2/\mj (hZ m A).1=q.1 then(hZ m A).2 else 0)/\uT (hZ m A).1 q.1+F=uT A q.1 /\
  (∀k,q.1<=k->lA (hZ m A).1 k=lA A k+if k=q.1 then F else 0)/\i' (hZ m A).1/\ji (hZ m A).1:=by
 by_cases r:0<(hZ m A).2
 .by_cases L:ab0 A<=m
  .rw[lT L] at r
   exact absurd r ad
  .obtain⟨v,z,s,rfl,e,G⟩:=rP m V A aa
   have c:hZ m (v++z::s)=(bump (tot v) (z::s),tot v):=by rw[<-e,tF]
   rw[c] at r |-;obtain⟨D,T,R⟩:=tG Q;obtain⟨E,U⟩:=tH Y;have f:=aR.1 T;subst P;obtain⟨C,I,H⟩:=tG J;have K:z.1<=q.1:=by
    by_cases c:z.1<=q.1
    .exact c
    .have:=qb (a:=(q.1,1)::z::s) (b:=q::B0) (aR.2 ⟨λx u=>by
      show q.1<x.1
      rcases aS.1 u with rfl|u
      .omega
      .have:=f.1 x u;omega,T⟩) I λx u=>by
       rcases aS.1 u with rfl|u
       .exact⟨q,aJ ..,rfl⟩
       .obtain⟨y,t,g⟩:=X x (dG _ u)
        have d:q.1<x.1:=by
         rcases aS.1 u with rfl|u
         .omega
         .have:=f.1 x u;omega
        rcases cz.1 t with t|t
        .have:=H y t q (aJ ..);omega
        .exact⟨y,t,g⟩
     rw[aK,e,N] at this;omega
   have M:uT s z.1=0:=xj λp y=>by have:=f.1 p y;omega
   have a:∀t,z.1<=t->uT v t=tot v:=λt h=>Bv λp y=>by have:=R p y z (aJ ..);omega
   have O:∀k,z.1<=k->lA v k=0:=λk h=>mN λp y e=>by have:=R p y z (aJ ..);omega
   refine⟨_,rfl,?_,λk X=>?_,?_,?_⟩
   .show uT ((z.1,z.2+tot v)::s) q.1+(if 0<tot v/\z.1=q.1 then tot v else 0)=uT (v++z::s) q.1
    rw[oI,uU,oI,a _ K];have d:0<tot v:=r;show(if z.1<q.1 then z.2+tot v else 0)+uT s q.1+_=_
    have b:z.1=q.1->uT s q.1=0:=λe=>by rw[<-e];exact M
    by_cases g:z.1=q.1
    .have:=b g
     simp only[d,g,and_self,if_true,Int.lt_irrefl,if_false];omega
    .have:z.1<q.1:=aa
     simp only[g,and_false,if_false,this,if_true];omega
   .show lA ((z.1,z.2+tot v)::s) k=lA (v++z::s) k+(if k=q.1 then(if 0<tot v/\z.1=q.1 then tot v else 0) else 0)
    rw[jj,Am,jj,O k aa];have d:0<tot v:=r;show(if z.1=k then z.2+tot v else 0)+lA s k=_
    by_cases g:z.1=q.1
    .simp only[d,g,and_self,if_true]
     by_cases b:k=q.1
     .simp only[b,if_true];omega
     .simp only[b,if_false];omega
    .have:¬z.1=k:=aa
     simp only[g,and_false,if_false,this,ite_self];omega
   .intro p y
    rcases aS.1 y with rfl|y
    .have:=U z (aJ ..)
     show 0<z.2+tot v
     have d:0<tot v:=r;omega
    .exact U p (aQ _ y)
   .exact aR.2 ⟨λx u=>f.1 x u,f.2⟩
 .obtain⟨e,_⟩:=Nc V Y r
  rw[e];exact⟨0,ad,ad,ad,Y,Q⟩
def Dl(N:0<m){A B:List Pr}(K:ji A)(U:i' A)(sB:ji B)(T:i' B):mr m (hZ m A) (hZ m B) (iC (hZ m A).1 (hZ m B).1)=hZ m (iC A B):=by
 have f:ji (iC A B):=mL K;have pS:=lS U T;have o:∀p∈A,∃x∈iC A B,x.1=p.1:=λp z=>(xk U T p.1).2 (.inl ⟨p,z,rfl⟩);have n:∀p∈B,∃x∈iC A B,x.1=p.1:=λp z=>(xk U T p.1).2 (.inr ⟨p,z,rfl⟩);by_cases hl:ab0 (iC A B)<=m
 .have:=qb K f o
  have:=qb sB f n;rw[lT (l:=A) aa,lT (l:=B) aa];unfold mr;rw[lT hl];simp[iR]
 .obtain⟨t,q,d,e,S,_⟩:=rP m N _ (show m<ab0 (iC A B) by omega)
  obtain⟨Y,R,la,G,i,sA'⟩:=I4 N K U e f S o;obtain⟨X,Q,lb,F,w,_⟩:=I4 N sB T e f S n;obtain⟨r,D⟩:∃x,x=(hZ m A).1:=⟨_,rfl⟩;obtain⟨g,C⟩:∃x,x=(hZ m B).1:=⟨_,rfl⟩;rw[<-D] at la G i sA' R;rw[<-C] at lb F w Q;have sM:ji (iC r g):=mL sA';have pM:=lS i w;obtain⟨u,H,V,W,L⟩:=Dk q.1 sM;have e':=e;rw[e] at f pS;obtain⟨t1,J,t3⟩:=tG f;have b:=aR.1 J;obtain⟨x1,a⟩:=tH pS;have sM':=sM;rw[V] at sM' pM;obtain⟨u1,u2,u3⟩:=tG sM';obtain⟨v1,I⟩:=tH pM;have j:∀k,q.1<=k->lA H k=lA (q::d) k+if k=q.1 then Y+X else 0:=λk s=>by
   have c:=bu (lA · k) V;have y:=bu (lA · k) e;simp only[Am,Bt] at c y;rw[mN (l:=u) λp z e=>by have:=W p z;omega,G k s,F k s] at c;rw[mN (l:=t) λp z e=>by have:=t3 p z q (aJ ..);omega] at y;split at c<;>rename_i v
   .rw[aH v];omega
   .rw[aF v];omega
  have hF0:0<=Y:=by rw[R];split<;>omega
  have hF1:0<=X:=by rw[Q];split<;>omega
  have hlo:uT (iC r g) q.1+Y+X=uT (iC A B) q.1:=by rw[Gu,Gu];omega
  have hA0:uT (iC A B) q.1=tot t:=by
   rw[e,uU,Bv λp z=>t3 p z q (aJ ..),xj λp z=>by
    rcases aS.1 z with rfl|z
    .omega
    .have:=b.1 p z;omega]
   omega
  have hM1:uT (iC r g) q.1=tot u:=by
   rw[V,uU,Bv W,xj L];omega
  have O:∀k,(∃p∈H,p.1=k)<->∃p∈q::d,p.1=k:=λk=>by
   by_cases s:q.1<=k
   .rw[nd I,nd a,j k s]
    have:=j_ (k:=k) a;by_cases v:k=q.1
    .have P:=sO a (aJ ..)
     rw[aH v,v];constructor<;>intro<;>omega
    .rw[aF v,eE]
   .constructor
    .rintro ⟨p,z,rfl⟩;exact absurd (L p z) s
    .rintro ⟨p,z,rfl⟩
     rcases aS.1 z with rfl|z
     .omega
     .have:=b.1 p z;omega
  have E:ab0 H=m:=by
   have c:=qb u2 J λp z=>(O p.1).1 ⟨p,z,rfl⟩;have y:=qb J u2 λp z=>(O p.1).2 ⟨p,z,rfl⟩;omega
  have hcM:hZ m (iC r g)=(bump (tot u) H,tot u):=by rw[V,<-E,tF]
  have hcS:hZ m (iC A B)=(bump (tot t) (q::d),tot t):=by rw[e,<-S,tF]
  obtain⟨h,H',rfl⟩:∃h H',H=h::H':=by
   cases H with
   | nil=>simp at E;omega
   | cons h H'=>exact⟨h,H',rfl⟩
  have P:h.1=q.1:=by
   have c:=L h (aJ ..);obtain⟨y,M,ey⟩:=(O q.1).2 ⟨q,aJ ..,rfl⟩;rcases aS.1 M with rfl|M
   .exact ey
   .have:=(aR.1 u2).1 y M;omega
  have u4:=aR.1 u2;unfold mr;rw[<-D,<-C,hcM,hcS];have c:iR (hZ m A).2 r (bump (tot u) (h::H'))=Y:=by rw[R,iR,An,<-P];rfl
  have M:iR (hZ m B).2 g (bump (tot u) (h::H'))=X:=by rw[Q,iR,An,<-P];rfl
  refine Prod.ext ?_ ?_
  .show bump (tot u) (h::H')=bump (tot t) (q::d)
   have n1:=g_ v1;have n2:=g_ x1;refine I1 (aR.2 ⟨λx y=>u4.1 x y,u4.2⟩) (aR.2 ⟨λx y=>b.1 x y,b.2⟩) (λp z=>?_) (λp z=>?_) λk=>?_
   .rcases aS.1 z with rfl|z
    .have:=I h (aJ ..)
     show 0<h.2+tot u;omega
    .exact I p (aQ _ z)
   .rcases aS.1 z with rfl|z
    .have:=a q (aJ ..)
     show 0<q.2+tot t;omega
    .exact a p (aQ _ z)
   .show lA ((h.1,h.2+tot u)::H') k=lA ((q.1,q.2+tot t)::d) k
    by_cases s:q.1<=k
    .have:=j k s
     rw[jj,jj] at this |-;rw[P] at this |-
     by_cases v:k=q.1
     .rw[aH v,aH v.Y,aH v.Y] at this
      rw[aH (show q.1=k from v.Y),aH (show q.1=k from v.Y)];show h.2+tot u+_=q.2+tot t+_
      omega
     .rw[aF v,aF (λe=>v e.Y),aF (λe=>v e.Y)] at this
      rw[aF (show ¬q.1=k from λe=>v e.Y),aF (show ¬q.1=k from λe=>v e.Y)];omega
    .rw[mN λp z e=>?_,mN λp z e=>?_]
     .rcases aS.1 z with rfl|z
      .have y:q.1=k:=e
       omega
      .have:=b.1 p z;omega
     .rcases aS.1 z with rfl|z
      .have y:h.1=k:=e
       omega
      .have:=u4.1 p z;omega
  .show tot u+iR (hZ m A).2 r (bump (tot u) (h::H'))+iR (hZ m B).2 g (bump (tot u) (h::H'))=tot t
   rw[c,M];omega
def Nd(y:0<m){A:List Pr}(u:ji A)(v:i' A)(k n:Int)(x:0<n):mr m (hZ m A) ([],0) (iu k n (hZ m A).1)=hZ m (iu k n A):=by
 have h:=Dl y u v (B:=[(k,n)]) ad (by intro p z;simp at z;rw[z];exact x);rw[lT (l:=[(k,n)]) ae] at h;show mr m (hZ m A) ([],0) (iC (hZ m A).1 [(k,n)])=hZ m (iC A [(k,n)])
 rw[<-h];simp[mr,iR]
def nf:List Pr->List Pr->List Pr
 | [],b=>b
 | a,[]=>a
 | p::a,q::b=>if p.1<q.1 then p::nf a (q::b) else if q.1<p.1 then q::nf (p::a) b else(p.1,p.2+q.2)::nf a b
termination_by a b=>ab0 a+ab0 b
def zip_nil_left(b:List Pr):nf [] b=b:=by unfold nf;rfl
def zip_nil_right(a:List Pr):nf a []=a:=by cases a<;>unfold nf<;>rfl
def Gv{p q:Pr}(a b:List Pr)(h:p.1<q.1):nf (p::a) (q::b)=p::nf a (q::b):=by rw[nf,aH h]
def Gw{p q:Pr}(a b:List Pr)(h:q.1<p.1):nf (p::a) (q::b)=q::nf (p::a) b:=by rw[nf,aF aa,aH h]
def Gx{p q:Pr}(a b:List Pr)(h:p.1=q.1):nf (p::a) (q::b)=(p.1,p.2+q.2)::nf a b:=by rw[nf,aF aa,aF aa]
def xl:∀(n:Nat) (a b:List Pr),ab0 a+ab0 b<=n->ji a->ji b->i' a->i' b ->
 ji (nf a b)/\i' (nf a b)/\(∀t,(∀p∈a,t<p.1)->(∀p∈b,t<p.1)->∀p∈nf a b,t<p.1)/\∀k,lA (nf a b) k=lA a k+lA b k
 | _,[],b,_,_,sb,_,pb=>by rw[zip_nil_left];exact⟨sb,pb,λt _ h=>h,ad⟩
 | _,p::a,[],_,sa,_,pa,_=>by rw[zip_nil_right];exact⟨sa,pa,λt h _=>h,ad⟩
 | 0,p::a,q::b,h,_,_,_,_=>by simp at h
 | n+1,p::a,q::b,h,sa,sb,pa,pb=>by
  have Y:=aR.1 sa;have X:=aR.1 sb;have U:i' a:=λx z=>pa x (aQ _ z);have T:i' b:=λx z=>pb x (aQ _ z);have S:=pa p (aJ ..);have R:=pb q (aJ ..);simp only[aK] at h;by_cases c:p.1<q.1
  .rw[Gv a b c]
   obtain⟨g,f,v,d⟩:=xl n a (q::b) (by simp only[aK];omega) Y.2 sb U pb;refine⟨aR.2 ⟨v p.1 Y.1 λx z=>?_,g⟩,λx z=>?_,λt u r x z=>?_,λk=>?_⟩
   .rcases aS.1 z with rfl|z
    .exact c
    .have:=X.1 x z;omega
   .rcases aS.1 z with rfl|z
    .exact S
    .exact f x z
   .rcases aS.1 z with rfl|z
    .exact u x (aJ ..)
    .exact v t (λy s=>u y (aQ _ s)) r x z
   .rw[jj,d,jj p];omega
  .by_cases V:q.1<p.1
   .rw[Gw a b V]
    obtain⟨g,f,v,d⟩:=xl n (p::a) b (by simp only[aK];omega) sa X.2 pa T;refine⟨aR.2 ⟨v q.1 (λx z=>?_) X.1,g⟩,λx z=>?_,λt u r x z=>?_,λk=>?_⟩
    .rcases aS.1 z with rfl|z
     .exact V
     .have:=Y.1 x z;omega
    .rcases aS.1 z with rfl|z
     .exact R
     .exact f x z
    .rcases aS.1 z with rfl|z
     .exact r x (aJ ..)
     .exact v t u (λy s=>r y (aQ _ s)) x z
    .rw[jj,d,jj q];omega
   .have e:p.1=q.1:=aa
    rw[Gx a b e];obtain⟨g,f,v,d⟩:=xl n a b aa Y.2 X.2 U T;refine⟨aR.2 ⟨v p.1 Y.1 λx z=>?_,g⟩,λx z=>?_,λt u r x z=>?_,λk=>?_⟩
    .have:=X.1 x z;omega
    .rcases aS.1 z with rfl|z
     .show 0<p.2+q.2;omega
     .exact f x z
    .rcases aS.1 z with rfl|z
     .exact u p (aJ ..)
     .exact v t (λy s=>u y (aQ _ s)) (λy s=>r y (aQ _ s)) x z
    .rw[jj,d,jj,jj]
     show(if p.1=k then p.2+q.2 else 0)+_=_
     rw[e];split<;>omega
def Bw{a b:List Pr}(x:ji a)(s:ji b)(z:i' a)(y:i' b):nf a b=iC a b:=by
 obtain⟨v,u,_,t⟩:=xl _ a b (aD _) x s z y;exact I1 v (mL x) u (lS z y) λk=>by rw[t,Bt]
def Bx(t:0<m){l:List Pr}(h:ji l)(z:i' l):ji (hZ m l).1/\i' (hZ m l).1/\tot (hZ m l).1=tot l/\ab0 (hZ m l).1<=m/\0<=(hZ m l).2:=by
 by_cases y:ab0 l<=m
 .rw[lT y];exact⟨h,z,rfl,y,ad⟩
 .obtain⟨A,q,B,rfl,e,d⟩:=rP m t l aa
  rw[<-e,tF];obtain⟨_,f,_⟩:=tG h;obtain⟨g,v⟩:=tH z;have u:=aR.1 f;have r:=g_ g;refine⟨aR.2 ⟨λx s=>u.1 x s,u.2⟩,λp z=>?_,?_,?_,r⟩
  .rcases aS.1 z with rfl|z
   .have:=v q (aJ ..)
    show 0<q.2+tot A;omega
   .exact v p (aQ _ z)
  .show tot ((q.1,q.2+tot A)::B)=_
   rw[h_,kx,kx];show q.2+tot A+_=_
   omega
  .exact Nat.le_of_eq (bump_length (tot A) (q::B))
def qJ(k:Int):List Pr->Nat
 | []=>0
 | p::l=>if p.1<k then qJ k l+1 else 0
def I5(k:Int):∀l,qJ k l<=ab0 l
 | []=>aD _
 | p::l=>by
  have:=I5 k l;unfold qJ;split<;>simp only[aK]<;>omega
def Sd(k:Int):∀(l:List Pr) (j:Nat) (h:j<ab0 l),j<qJ k l->l[j].1<k
 | [],_,h,_=>by simp at h
 | p::l,j,h,hj=>by
  unfold qJ at hj;split at hj
  .rename_i z
   cases j with
   | zero=>exact z
   | succ j=>exact Sd k l j (by simpa using h) aa
  .omega
def Se(k:Int):∀(l:List Pr),ji l->∀(j:Nat) (h:j<ab0 l),qJ k l<=j->k<=l[j].1
 | [],_,_,h,_=>by simp at h
 | p::l,s,j,h,hj=>by
  have y:=aR.1 s;unfold qJ at hj;split at hj
  .cases j with
   | zero=>omega
   | succ j=>exact Se k l y.2 j (by simpa using h) aa
  .rename_i x
   cases j with
   | zero=>show k<=p.1;omega
   | succ j=>
    have z:j<ab0 l:=by simpa using h
    have:=y.1 (l[j]'z) (aP z);show k<=(l[j]'z).1
    omega
def Ko(k:Int){l:List Pr}(s:ji l)(i:Nat)(x:i<=ab0 l)(z:∀(j:Nat) (h:j<ab0 l),j<i->l[j].1<k)(y:∀(j:Nat) (h:j<ab0 l),i<=j->k<=l[j].1):i=qJ k l:=by
 have v:=I5 k l;rcases Nat.lt_trichotomy i (qJ k l) with h|h|h
 .have a:=Sd k l i aa h
  have b:=y i aa (aD _);omega
 .exact h
 .have a:=z (qJ k l) aa h
  have b:=Se k l s (qJ k l) aa (aD _);omega
def nW(l:List Pr)(i:Nat)(x:Pr):List Pr:=l.take i++x::l.drop i
def Ao(k n:Int):∀(l:List Pr) (m:Int),l[qJ k l]?=some (k,m)->iu k n l=l.set (qJ k l) (k,m+n)
 | [],m,h=>by simp at h
 | p::l,m,h=>by
  unfold qJ at h |-;unfold iu
  split at h
  .rename_i z
   rw[aH z,aH z,bR,Ao k n l m (by simpa using h)]
  .rename_i z
   simp only[ay,bg] at h;rw[aF z,aF z,aH (by rw[h])];rw[h];rfl
def I6(k n:Int):∀(l:List Pr),(∀p,l[qJ k l]?=some p->p.1≠k)->iu k n l=nW l (qJ k l) (k,n)
 | [],_=>rfl
 | p::l,h=>by
  unfold qJ at h |-;unfold iu
  split at h
  .rename_i z
   rw[aH z,aH z,I6 k n l λq y=>h q (by simpa using y)];rfl
  .rename_i z
   have:=h p ad;rw[aF z,aF z,aF this];rfl
def Dm(k n:Int)(l:List Pr):(nW l (qJ k l) (k,0)).set (qJ k l) (k,0+n)=nW l (qJ k l) (k,n):=by
 have z:=I5 k l;unfold nW;rw[fC _ _ (by rw[aU];omega)];simp only[aU];rw[show qJ k l - min (qJ k l) (ab0 l)=0 by omega];simp
def Ap{B:Int}{l:List Pr}(h:∀p∈l,-B<=p.1/\p.1<=B)(y:-B<=k/\k<=B):∀p∈iu k n l,-B<=p.1/\p.1<=B:=λp z=>by
 rcases put_mem z with e|z
 .rw[e];exact y
 .exact h p z
def mC{l:List Pr}(h:i' l):∀p∈l,p.2<=tot l:=by
 induction l with
 | nil=>intro p z;cases z
 | cons q l ih=>
  intro p z;have u:=h q (aJ ..);have y:i' l:=λx v=>h x (aQ _ v);have:=g_ y;rw[kx];rcases aS.1 z with rfl|z
  .omega
  .have:=ih y p z;omega
open Go.Maps
abbrev iL(k:Int):Lit:=.int .i64 k
def WK(k:Int):WideAt.IsKeyLit (iL k):=trivial
abbrev uD(n:Int):DataW Unit:=.lit (.int .u64 n)
def I7{a b:Int}(h:a≠b):iL a≠iL b:=λe=>h (by cases e;rfl)
def Qo(a b:Int):(iL a).sameKey (iL b)=decide (a=b):=by
 by_cases h:a=b
 .subst h;rw[WideAt.sameKey_self (WK _)];simp
 .rw[sameKey_ne (I7 h)];simp[h]
structure PQ(D:DataW Unit)(l:List Pr):Prop where
 tidy:Tidy D
 Nf:∀k:Int,Maps.has D (iL k)=decide (∃p∈l,p.1=k)
 at_:∀(k:Int) (z:DataW Unit),Maps.has D (iL k)=true->D.atKey (iL k) z=uD (lA l k)
 sz:Maps.size D=ab0 l
def SU:PQ (.map []) []:=⟨tidy_empty,λk=>by simp[Maps.has],λk z h=>by simp[Maps.has] at h,rfl⟩
def PQ.get{l:List Pr}(h:PQ D l)(k:Int):D.atKey (iL k) (uD 0)=uD (lA l k):=by
 by_cases x:Maps.has D (iL k)=true
 .exact h.at_ k _ x
 .have z:=h.Nf k
  have y:Maps.has D (iL k)=false:=by simpa using x
  rw[y] at z;rw[atKey_of_not_has y,mN];intro p v e;exact absurd z.Y (by simp;exact⟨p.2,by rw[<-e];exact v⟩)
def I8{k n:Int}:∀{l:List Pr},ji l->ab0 (iu k n l)=if (∃p∈l,p.1=k) then ab0 l else ab0 l+1
 | [],_=>by simp[iu]
 | p::l,s=>by
  have v:=aR.1 s;have u:=I8 (k:=k) (n:=n) v.2;unfold iu;by_cases x:p.1<k
  .have e:(∃q∈p::l,q.1=k)<->(∃q∈l,q.1=k):=⟨λ⟨q,z,e⟩=>by
    rcases aS.1 z with rfl|z
    .omega
    .exact⟨q,z,e⟩,λ⟨q,z,e⟩=>⟨q,aQ _ z,e⟩⟩
   rw[aH x,aK,u];by_cases y:∃q∈l,q.1=k
   .rw[aH y,aH (e.2 y)];simp
   .rw[aF y,aF (λh=>y (e.1 h))];simp
  .rw[aF x]
   by_cases y:p.1=k
   .rw[aH y,aH ⟨p,aJ ..,y⟩];simp
   .rw[aF y,aF]
    .simp
    .rintro ⟨q,z,e⟩
     rcases aS.1 z with rfl|z
     .exact y e
     .have:=v.1 q z;omega
def PQ.put{l:List Pr}(h:PQ D l)(s:ji l)(x:i' l)(k n:Int)(t:0<n):PQ (D.put (iL k) (uD (lA l k+n))) (iu k n l):=by
 have r:=put_pos t x (k:=k);refine⟨h.tidy.put (WK _) _,λj=>?_,λj z v=>?_,?_⟩
 .have e:=nd r j
  rw[uV] at e;by_cases y:j=k
  .subst y
   rw[has_put_same h.tidy.isMap (WK _)];have:=j_ (k:=j) x;simp only[aH] at e;exact(bN (e.2 aa)).Y
  .rw[has_put_other (I7 y),h.Nf j]
   rw[aF (λh=>y h.Y),eE] at e;have u:=nd x j
   congr 1
   exact propext (u.T e.Y)
 .rw[uV]
  by_cases y:j=k
  .subst y
   rw[atKey_put_same h.tidy.isMap (WK _),aH rfl]
  .rw[has_put_other (I7 y)] at v
   rw[atKey_put_other (I7 y),h.at_ j z v,aF (λh=>y h.Y),eE]
 .rw[size_put h.tidy,h.sz,h.Nf k,I8 s]
  by_cases z:∃p∈l,p.1=k<;>simp[z]
def Ng{l:List Pr}(s:ji l){p:Pr}(h:p∈l):lA l p.1=p.2:=by
 induction l with
 | nil=>cases h
 | cons q l ih=>
  have z:=aR.1 s;rcases aS.1 h with rfl|h
  .exact Bu s
  .have y:=z.1 p h
   have:=ih z.2 h;have e:lA (q::l) p.1=(if q.1=p.1 then q.2 else 0)+lA l p.1:=by simp[lA]
   rw[e,this,aF aa];omega
def Sf(l out:List Pr)(left:Lit->Bool):Prop:=(out++l.filter (λp=>left (iL p.1))).Perm l
def Nh{l:List Pr}(h:PQ D l):Sf l [] (Maps.has D):=by
 show(l.filter (λp=>Maps.has D (iL p.1))).Perm l
 rw[List.filter_eq_self.2 (λp z=>by rw[h.Nf];exact bN ⟨p,z,rfl⟩)]
def vS{f:Int->Bool}{p:Pr}:∀{l:List Pr},ji l->p∈l->f p.1=true->(p::l.filter (λq=>f q.1 && !decide (q.1=p.1))).Perm (l.filter (λq=>f q.1))
 | [],_,h,_=>by cases h
 | q::l,s,h,hf=>by
  have x:=aR.1 s;rcases aS.1 h with rfl|h
  .have e:l.filter (λq=>f q.1 && !decide (q.1=p.1))=l.filter (λq=>f q.1):=List.filter_congr λq y=>by
    have:=x.1 q y;have z:¬q.1=p.1:=aa;simp[z]
   simp[hf,e]
  .have u:=x.1 p h
   have z:¬q.1=p.1:=aa;have v:=vS x.2 h hf;cases y:f q.1
   .simpa[y,z] using v
   .simp only[List.filter_cons,y,z,decide_false,Bool.not_false,Bool.and_self,if_true]
    exact(List.Perm.swap q p _).T (v.cons q)
def UX{l:List Pr}(h:PQ D l)(s:ji l)(u:∀z,D.atKey (iL x) z=uD c):(x,c)∈l:=by
 have y:=has_true_of_atKey u;have z:=h.at_ x (uD 0) y;rw[u] at z;have v:=h.Nf x;rw[y] at v;obtain⟨p,t,rfl⟩:=of_decide_eq_true v.Y;rw[Ng s t] at z;cases z
 exact t
def Qp{l out:List Pr}(s:ji l)(h:Sf l out left)(v:left (iL x)=true)(y:(x,c)∈l):Sf l (out++[(x,c)]) (λz=>left z && !z.sameKey (iL x)):=by
 unfold Sf;have e:l.filter (λp=>left (iL p.1) && !(iL p.1).sameKey (iL x))=l.filter (λp=>left (iL p.1) && !decide (p.1=x)):=List.filter_congr λp _=>by rw[Qo]
 rw[e,aN];refine List.Perm.T ?_ h;exact List.Perm.append_left out (vS (f:=λk=>left (iL k)) (p:=(x,c)) s y v)
def SV{l out:List Pr}(h:Sf l out left)(z:∀y,left y=false):out.Perm l:=by
 unfold Sf at h;rw[List.filter_eq_nil_iff.2 (λp _=>by rw[z];simp),bP] at h;exact h
def SW{l out:List Pr}(h:Sf l out left):ab0 out<=ab0 l:=by
 have:=h.length_eq;rw[aE] at this;omega
def Qq{a b:List Pr}(h:a.Perm b)(k:Int):lA a k=lA b k:=by
 induction h with
 | nil=>rfl
 | cons x _ ih=>simp only[lA,dO,ft] at ih |-;omega
 | swap x y l=>simp only[lA,dO,ft];omega
 | trans _ _ i1 i2=>exact i1.T i2
def Kp{l r:List Pr}(s:ji l)(z:i' l)(h:r.Perm l)(v:r.Pairwise (λa b=>a.1<=b.1)):r=l:=by
 have y:r.Pairwise (λa b=>a.1≠b.1):=(h.pairwise_iff (λ{a b} (h:a.1≠b.1)=>h.Y)).2 (s.imp (λh=>by omega));have u:ji r:=(v.and y).imp (λh=>by omega);exact I1 u s (λp x=>z p (h.mem_iff.1 x)) z (λk=>Qq h k)
