/- Parts. -/
import Derived.Test.YtdicblkhpcphfaaGreatPU11
set_option maxRecDepth 100000
set_option maxHeartbeats 0
set_option linter.all false
namespace Go.Proofs.YtdicblkhpcphfaaGreat
open Tryz Go.RowKit Go.Lib Go.Shelf
open _root_.List renaming length→ab0
open Go.IntKind renaming wrap→ad0
open _root_.Go renaming Calls→af4
open Tryz renaming prog→af5
namespace D
variable{f f2 k n:Int}{c dg g hi i lo m m2 o p q u:Nat}{l l2 out:List Pr}{F G:Ft}
def yy(c m:Nat)(F:Ft)(er:Int)(s:List Pr × Int)(w:World)(e:Ending)(w':World):Prop:=
 e=.returned (af6 er)/\(er=0->uX c m s.1 s.2 (Gr F w w') w'/\Touch F w w')/\(er≠0->af3 w w')
def U5(g:Nat)(M:List Pr)(G:Ft)(er:Int)(W:World)(e:Ending)(W':World):Prop:=
 e=.returned (af6 er)/\(er=0->mW g M (Gr G W W') W'/\Touch G W W')/\(er≠0->af3 W W')
def XO(w:World)(op:Option Nat)(l:List Pr)(f:Int):Prop:=match op with
 | some o=>∃m,PS w o m l f
 | none=>l=[]/\f=0
def DB(z:0<=f)(y:f<=4611686018427387904)(l M:List Pr):0<=iR f l M/\iR f l M<=4611686018427387904:=by
 unfold iR;split<;>omega
def vZ{M:List Pr}{er:Int}{op:Option Nat}(K:Nat)(cb:Array Value)(w:World)
 (y:g7 w c 285 #[af6 m,aq g,.int .u64 f]) (t:mW g l G w) (hFc:F c) (hGc:¬G c) (v:∀k,G k->F k) (x:∀k,F k->k<w.heap.size) (r:XO w op l2 f2)
 (f0:0<=f) (n:f<=4611686018427387904) (g0:0<=f2) (g1:f2<=4611686018427387904) (hl:ab0 l<=100000) (hl2:ab0 l2<=100000) (hm0:2<=m) (hm1:m<=4096) (u:er=0->qP M)
 (eg:∀z w,(callFunc K z).run prog w=.ok (.enter K z) w) (s:∀W,af3 w W->Calls prog K cb W (U5 g M G er W)) :
 af4 af5 256 #[aq c,.func (.func K) #[] cb,.pointer (op.map λo=>(af7 o 0))] w (yy c m F er (mr m (l,f) (l2,f2) M) w):=by
 have HB:=ax y;have HS:=ax t;have HFl:=ax x;have U6:=ax v;have HO:=ax r;have HC:=ax s;have HM:=ax u;have hcl:=y.lt;clear y t x v r s u;obtain⟨N,z⟩:∃v:Option Addr,(op.map λo=>((af7 o 0):Addr))=v:=⟨_,rfl⟩;rw[z];have HPA:=ax z;clear z;go_in;go_wp21;have x:=g7.new w 208 #[aq c,.pointer N];have y:=g7.new (w.alloc (.cells #[aq c,.pointer N] 208)) 418 #[af6 0,af6 0];have z:=g7.new ((w.alloc (.cells #[aq c,.pointer N] 208)).alloc (.cells #[af6 0,af6 0] 418)) 419 #[.int .u64 0,.int .u64 0];have hbs:af3 w (((w.alloc (.cells #[aq c,.pointer N] 208)).alloc (.cells #[af6 0,af6 0] 418)).alloc (.cells #[.int .u64 0,.int .u64 0] 419)):=bw;simp only[aI] at y z;have B0':=ax ((x.alloc (.cells #[af6 0,af6 0] 418)).alloc (.cells #[.int .u64 0,.int .u64 0] 419));have B1':=ax (y.alloc (.cells #[.int .u64 0,.int .u64 0] 419));have B2':=ax z;clear x y z;generalize ((w.alloc (.cells #[aq c,.pointer N] 208)).alloc (.cells #[af6 0,af6 0] 418)).alloc (.cells #[.int .u64 0,.int .u64 0] 419)=w0 at *
 go_loopg [23] 2 (λq x wr=>∃j:Nat,q=2 - j/\j<=2/\x=af6 j/\Hid (g7 wr w.heap.size 208 #[aq c,.pointer N])/\Hid (g7 wr (w.heap.size+1) 418 #[af6 (if 1<=j then mj l else 0),af6 (if 2<=j then mj l2 else 0)]) /\
  Hid (g7 wr (w.heap.size+1+1) 419 #[.int .u64 (if 1<=j then f else 0),.int .u64 (if 2<=j then f2 else 0)])/\af3 w wr)
 exact⟨0,rfl,aa,rfl,B0',B1',B2',hbs⟩
 case round=>
  obtain⟨j,H,hj,rfl,O,I,P,b⟩:=hrel;have d:=ax H;have hz:=b.size;have hz2:=P.o.lt;clear H hbs B0' B1' B2';have hjc:j=0\/j=1\/j=2:=aa;rcases hjc with rfl|rfl|rfl
  .have Q:=O.o.k0
   have L:=ax (first_any wr ((show PS w c m l f from⟨g,G,HB.o,HS.o⟩).K b) hl);go_wp21;refine RX L.o ?_;intro C u;have Y:=b.T (u.M hz);have p:=HB.o.K Y;have J:=p.k2;have y:=I.o.K u;have z:=P.o.K u;have n:=y.F 0;have f2:=z.F 0;have T:=y.k0;have V:=z.k0;have R:=ax y;have S:=ax z;have X:=ax (O.o.K u);clear y z p;go_wp2;go_roundg 1
   exact⟨1,rfl,aa,rfl,ax ((X.o.far ad _).far ae _),ax ((R.o.hJ 0 (af6 (mj l))).far ad _),ax ((S.o.far ad _).hJ 0 (.int .u64 f)),(Y.setCell ad _).setCell ae _⟩;have:=d.o;omega
  .have Q:=O.o.k1
   cases op with
   | none=>
    have U:=HPA.o;simp only[eT] at U;subst U;obtain⟨a,r⟩:=(show l2=[]/\f2=0 from HO.o);subst a;subst r;go_wp2;go_roundg 0
    exact⟨2,rfl,aa,rfl,O,I,P,b⟩;have:=d.o;omega
   | some o=>
    have U:=HPA.o;simp only[df] at U;subst U;obtain⟨W,t⟩:=(show ∃m,PS w o m l2 f2 from HO.o);have D:=t;obtain⟨A,B,s,_⟩:=D;have L:=ax (first_any wr (t.K b) hl2);have E:=ax s;clear t s;go_wp21;refine RX L.o ?_;intro C u;have Y:=b.T (u.M hz);have p:=E.o.K Y;have J:=p.k2;have y:=I.o.K u;have z:=P.o.K u;have n:=y.F 1;have f2':=z.F 1;have T:=y.k1;have V:=z.k1;have R:=ax y;have S:=ax z;have X:=ax (O.o.K u);clear y z p;go_wp2;go_roundg 0
    exact⟨2,rfl,aa,rfl,ax ((X.o.far ad _).far ae _),ax ((R.o.hJ 1 (af6 (mj l2))).far ad _),ax ((S.o.far ad _).hJ 1 (.int .u64 f2)),(Y.setCell ad _).setCell ae _⟩;have:=d.o;omega
  .have HCW:=ax (HC.o wr b)
   clear HC;go_wp21;refine RX HCW.o ?_;rintro t ⟨hy,hn⟩;by_cases A:er=0
   .subst A
    obtain⟨V,z⟩:=hy rfl;have X:=HM.o rfl;have ab9:=z.size;have B:¬Gr G wr t c:=λh=>h.elim hGc (λh=>by omega);have y:∀k,G k->k<w.heap.size:=λk h=>HFl.o k (U6.o k h);have p:∀k,w.heap.size<=k->k<wr.heap.size->¬Gr G wr t k:=λk Y s h=>h.elim (λh=>by have:=y k h;omega) (λh=>by omega);have Bc:=ax ((z.block c aa hGc).T (HB.o.K b));have Q:t.cell? (af7 c 0)=some (af6 m):=g7.C Bc.o 0;have u:t.cell? (af7 c 1)=some (aq g):=g7.C Bc.o 1;have K0:=ax Q;have K1:=ax u;have hc2:c<t.heap.size:=aa;have S2:=ax V;have T2:=ax z;have R:Hid (g7 t (w.heap.size+1) 418 #[af6 (mj l),af6 (mj l2)]):=ax ((z.block _ aa (λh=>by have:=y _ h;omega)).T I.o);have S:Hid (g7 t (w.heap.size+1+1) 419 #[.int .u64 f,.int .u64 f2]):=ax ((z.block _ aa (λh=>by have:=y _ h;omega)).T P.o);have L:=ax X;have HGN:=ax p;clear Q u V z hy hn O I P X p y;go_upto_region 14 with fail;have Z:=ax (λ(y:World) (z:(Touch (Gr G wr t) t) y)=>(aB ((g9 z 0 hc2 B).T K0.o) ((g9 z 1 hc2 B).T K1.o)));refine jh (Touch (Gr G wr t) t) (hQ 0 8 (ik 8 (hQ 9 1 []))) ((Touch.refl _ _).drew) ?_;iterate 8 refine ib ?_
    refine iz λK hK=>?_;go_simp;refine RX (Qv m t.drew ((jK _ _).K S2.o (aC _ _).drew) L.o aa  aa) ?_;rintro C ⟨z,y⟩;have T3:Touch (Gr G wr t) t C:=BF (aC _ _).drew y;have i:=ax z;have TT3:=ax T3;clear z y;refine hK _ _ (T3) ?_;clear hK K;refine ib ?_;refine g4 ?_;have V:=Bx (m:=m) aa L.o.jk L.o.pos;have hD1:(hZ m M).2<=4611686018427387904:=by
     have e:tot M=tot (M.take (ab0 M - m))+tot (M.drop (ab0 M - m)):=by rw[<-h_,bL]
     have s:=g_ (l:=M.drop (ab0 M - m)) (λp U=>L.o.pos p (cp U));have E:=L.o.tot;show tot (M.take (ab0 M - m))<=_
     omega
    have hD0:=V.2.2.2.2;have hLL:=V.2.2.2.1;have W:Hid (mr m (l,f) (l2,f2) M=((hZ m M).1,(hZ m M).2+iR f l (hZ m M).1+iR f2 l2 (hZ m M).1)):=ax rfl;have⟨z,X⟩:=ar ((hZ m M).1);have⟨D,u⟩:=ar ((hZ m M).2);rw[X] at W i hLL;rw[u] at W hD0 hD1 |-;clear V X u;have y:=TT3.o;have hz3:=y.size;have Bc3:=ax ((y.block c hc2 B).T Bc.o);have X13:=ax ((y.block _ R.o.lt (HGN.o _ aa  aa)).T R.o)
    have X23:=ax ((y.block _ S.o.lt (HGN.o _ aa  aa)).T S.o);have C4:=ax (first_any C (show PS C c m z f from⟨g,_,Bc3.o,i.o⟩) aa);clear y;go_wp21;refine RX C4.o ?_;intro X V;have Gp:=V.size;have y:g7 X c 285 #[af6 m,aq g,.int .u64 f]:=g7.K Bc3.o V;have T:g7 X (w.heap.size+1) 418 #[af6 (mj l),af6 (mj l2)]:=g7.K X13.o V;have u:g7 X (w.heap.size+1+1) 419 #[.int .u64 f,.int .u64 f2]:=g7.K X23.o V;have a0:=T.k0;have a1:=T.k1;have b0:=u.k0;have b1:=u.k1;have J:=y.k2;have f2':=y.F 2;have i0:∀w,(Instr.index 419 (.agg #[.int .u64 f,.int .u64 f2]) (af6 0)).run prog w=.ok (.int .u64 f) w:=λ_=>by kernel_rfl
    have i1:∀w,(Instr.index 419 (.agg #[.int .u64 f,.int .u64 f2]) (af6 1)).run prog w=.ok (.int .u64 f2) w:=λ_=>by kernel_rfl
    have S4:=ax ((jK _ _).K i.o V);have BB4:=ax y;clear y T u;go_wp2;go_loopg [13,64] 2 (λq y x u=>(∃j:Nat,q=2 - j/\j<=2/\x=af6 j/\y=.int .u64 (D+(if 1<=j then iR f l z else 0)+(if 2<=j then iR f2 l2 z else 0)))/\X=u)
    exact⟨⟨0,rfl,aa,rfl,ad⟩,rfl⟩
    case round=>
     obtain⟨⟨j,H,hj,rfl,rfl⟩,rfl⟩:=hrel;have d:=ax H;clear H;have hjc:j=0\/j=1\/j=2:=aa;rcases hjc with rfl|rfl|rfl
     .have y:(D+(if 1<=0 then iR f l z else 0)+(if 2<=0 then iR f2 l2 z else 0))=D:=ad
      have a:Hid ((D+(if 1<=1 then iR f l z else 0)+(if 2<=1 then iR f2 l2 z else 0))=D+iR f l z):=ax ad;rw[y];clear y;by_cases Y:0<f
      .by_cases s:mj l=mj z
       .have r:Hid (iR f l z=f):=ax (aH ⟨Y,s⟩)
        have E:(mj l == mj z)=true:=by simp[s]
        rw[s] at a0;go_wp2;go_roundg 1
        exact⟨⟨1,rfl,aa,rfl,by rw[a.o,r.o]⟩,rfl⟩;have:=d.o;omega
       .have r:Hid (iR f l z=0):=ax (aF (λh=>s h.2))
        have E:(mj l == mj z)=false:=bV.2 s;go_wp2;go_roundg 1
        exact⟨⟨1,rfl,aa,rfl,by rw[a.o,r.o,eE]⟩,rfl⟩;have:=d.o;omega
      .have r:Hid (iR f l z=0):=ax (aF (λh=>Y h.1))
       go_wp2;go_roundg 1
       exact⟨⟨1,rfl,aa,rfl,by rw[a.o,r.o,eE]⟩,rfl⟩;have:=d.o;omega
     .have y:(D+(if 1<=1 then iR f l z else 0)+(if 2<=1 then iR f2 l2 z else 0))=(D+iR f l z):=ad
      have a:Hid ((D+(if 1<=2 then iR f l z else 0)+(if 2<=2 then iR f2 l2 z else 0))=(D+iR f l z)+iR f2 l2 z):=ax ad;rw[y];clear y;have hf:=DB f0 n l z;generalize iR f l z=u at *;by_cases Y:0<f2
      .by_cases s:mj l2=mj z
       .have r:Hid (iR f2 l2 z=f2):=ax (aH ⟨Y,s⟩)
        have E:(mj l2 == mj z)=true:=by simp[s]
        rw[s] at a1;go_wp2;go_roundg 0
        exact⟨⟨2,rfl,aa,rfl,by rw[a.o,r.o]⟩,rfl⟩;have:=d.o;omega
       .have r:Hid (iR f2 l2 z=0):=ax (aF (λh=>s h.2))
        have E:(mj l2 == mj z)=false:=bV.2 s;go_wp2;go_roundg 0
        exact⟨⟨2,rfl,aa,rfl,by rw[a.o,r.o,eE]⟩,rfl⟩;have:=d.o;omega
      .have r:Hid (iR f2 l2 z=0):=ax (aF (λh=>Y h.1))
       go_wp2;go_roundg 0
       exact⟨⟨2,rfl,aa,rfl,by rw[a.o,r.o,eE]⟩,rfl⟩;have:=d.o;omega
     .have y:(D+(if 1<=2 then iR f l z else 0)+(if 2<=2 then iR f2 l2 z else 0))=D+iR f l z+iR f2 l2 z:=ad
      rw[y];clear y;have hf:=DB f0 n l z;have HPO:=ax (by rw[W.o]:yy c m F 0 (mr m (l,f) (l2,f2) M) w=yy c m F 0 (z,D+iR f l z+iR f2 l2 z) w);generalize iR f l z=u at *;generalize iR f2 l2 z=v at *;go_wp2;go_ret;rw[HPO.o];have T:Touch G w X:=(BF b (tgr T2.o TT3.o)).T (Touch.of_below (F:=G) V (aD _)) (λ_ h=>.inl h);have q:=(T.M (G:=F) U6.o).setCell (p:=af7 c 2) (.inl hFc) (.int .u64 (D+u+v));have x:¬Gr (Gr G wr t) t.drew C c:=λh=>h.elim B (λh=>by have:=h.1;simp at this;omega);refine⟨rfl,λ_=>⟨⟨g,_,BB4.o.hJ 2 (.int .u64 (D+u+v)),(jK g z).stay S4.o (λk y=>a_ _ _ _ k (λe=>x (by rw[<-show k=c from e];exact y))) ad,.inl hFc,x,λk y=>?_,jt HFl.o q.size⟩,q⟩,λh=>absurd rfl h⟩;have p:(X.setCell (af7 c 2) (.int .u64 (D+u+v))).heap.size=X.heap.size:=ad;rcases y with(y|y)|y
      .exact .inl (U6.o k y)
      .exact .inr ⟨aa,aa⟩
      .have Y:=y.1
       simp at Y;exact .inr ⟨aa,by have:=y.2;simp only[aq,af6,af7] at *;omega⟩
   .have z:=b.T ((hn A).M hz)
    have y:(er != 0)=true:=by simpa using A
    clear hy hn;go_wp2;go_ret;exact⟨rfl,λh=>absurd h A,λ_=>z⟩
def Nw{r:Nat}(W:World)(u:g7 W c 285 #[af6 m,aq g,.int .u64 f])(Y:mW g l G W)(ok:qP l)(V:0<=n)(F:n<18446744073709551616)(N:ab0 l<100000)
 (t:W.cell? (af7 p 0)=some (aq c)) (s:W.cell? (af7 q 0)=some (af6 k)) (d:W.cell? (af7 r 0)=some (.int .u64 n)) (T:¬G p) (S:¬G q) (R:¬G r) (U:¬G c) :
 af4 af5 284 #[aq p,aq q,aq r] W (U5 g (iu k n l) G (jH l k n) W):=by
 have b:=u.k1;have L:=bH _ _ t;have J:=bH _ _ s;have I:=bH _ _ d;have O:=u.lt;have X:=ax (aB t (aB s (aB d b)));have C:Hid (∀y,af3 W y->af4 af5 285 #[aq g,af6 k,.int .u64 n] y (U5 g (iu k n l) G (jH l k n) y)):=ax (λy P=>by
  have h:=(jK g l).K Y P;by_cases z:jH l k n=0
  .rw[z]
   exact(DA k n y h ok V z N).M λe a ⟨x,v,Q⟩=>⟨x,λ_=>⟨v,Q⟩,λh=>absurd rfl h⟩
  .exact(Qu k n y h ok V F z).M λe a ⟨x,v⟩=>⟨x,λh=>absurd h z,λ_=>by subst v;exact aC _ _⟩)
 clear t s d b u Y ok;generalize iu k n l=M at *;generalize jH l k n=t at *;go_in;go_wp21;have Z:=ax (λ(a:World) (y:(Touch G W) a)=>(aB ((g9 y 0 L T).T X.o.1) (aB ((g9 y 0 J S).T X.o.2.1) (aB ((g9 y 0 I R).T X.o.2.2.1) ((g9 y 1 O U).T X.o.2.2.2)))));refine jh (Touch G W) (hQ 0 6 (ik 6 (hQ 7 1 []))) ((Touch.refl _ _).drew) ?_;iterate 6 refine ib ?_
 refine iz λK v=>?_;go_simp;refine RX (C.o W.drew (aC _ _).drew) ?_;rintro s ⟨x,y⟩;have H:=ax (aB x y);have u:Touch G W s:=(by by_cases z:t=0;exact BF (aC _ _).drew (x z).2;exact Touch.of_below ((aC _ _).drew.T (y z)) (aD _));clear x y;refine v _ _ (u) ?_;refine ib ?_;refine g4 ?_;go_wp2;go_ret;exact⟨rfl,λh=>⟨(H.o.1 h).1,BF (aC _ _).drew (H.o.1 h).2⟩,λh=>(aC _ _).drew.T (H.o.2 h)⟩
def Qz(ok:qP l)(u:0<m):qP (hZ m l).1:=by
 obtain⟨y,x,v,t,s⟩:=Bx u ok.jk ok.pos;refine⟨y,x,λp z=>?_,by rw[v];exact ok.tot,?_⟩
 .unfold hZ at z
  cases hd:l.drop (ab0 l - m) with
  | nil=>rw[hd] at z;simp[bump] at z
  | cons q r=>
   rw[hd] at z;rcases aS.1 z with rfl|z
   .exact ok.key q (cp (i:=ab0 l - m) (by rw[hd];exact aJ ..))
   .exact ok.key p (cp (i:=ab0 l - m) (by rw[hd];exact aQ _ z))
 .have:=ok.len
  unfold hZ;rw[bump_length,aW];omega
def Nx(w:World)(h:uX c m l f F w)(ok:qP l)(J:ab0 l<=m)(M:2<=m)(L:m<=4096)(S:0<=f)(R:f<=4611686018427387904)(a:0<=n)(K:n<18446744073709551616):af4 af5 211 #[aq c,af6 k,.int .u64 n] w (yy c m F (jH l k n) (mr m (l,f) ([],0) (iu k n l)) w):=by
 have Q:=h;obtain⟨g,G,u,r,N,d,t,v⟩:=Q;have z:af3 w (((w.alloc (.cells #[aq c] 208)).alloc (.cells #[af6 k] 3)).alloc (.cells #[.int .u64 n] 36)):=bw;have Y:(((w.alloc (.cells #[aq c] 208)).alloc (.cells #[af6 k] 3)).alloc (.cells #[.int .u64 n] 36)).cell? (af7 (w.heap.size) 0)=some (aq c):=(((g7.new w 208 #[aq c]).alloc _).alloc _).C 0;have X:(((w.alloc (.cells #[aq c] 208)).alloc (.cells #[af6 k] 3)).alloc (.cells #[.int .u64 n] 36)).cell? (af7 (w.heap.size+1) 0)=some (af6 k):=by
  have:=((g7.new (w.alloc (.cells #[aq c] 208)) 3 #[af6 k]).alloc (.cells #[.int .u64 n] 36)).C 0
  rwa [aI] at this
 have V:(((w.alloc (.cells #[aq c] 208)).alloc (.cells #[af6 k] 3)).alloc (.cells #[.int .u64 n] 36)).cell? (af7 (w.heap.size+1+1) 0)=some (.int .u64 n):=by
  have:=(g7.new ((w.alloc (.cells #[aq c] 208)).alloc (.cells #[af6 k] 3)) 36 #[.int .u64 n]).C 0
  rwa [aI,aI] at this
 have b:(((w.alloc (.cells #[aq c] 208)).alloc (.cells #[af6 k] 3)).alloc (.cells #[.int .u64 n] 36)).heap.size=w.heap.size+1+1+1:=ad;have U:Hid (∀e x,yy c m F (jH l k n) (mr m (l,f) ([],0) (iu k n l)) (((w.alloc (.cells #[aq c] 208)).alloc (.cells #[af6 k] 3)).alloc (.cells #[.int .u64 n] 36)) e x->yy c m F (jH l k n) (mr m (l,f) ([],0) (iu k n l)) w e x):=ax (λe x ⟨p,T,P⟩=>⟨p,λy=>by
  obtain⟨O,s⟩:=T y;refine⟨(nD _ _ _ _).more O (λk q=>q.imp id (λh=>⟨by rw[b] at h;omega,h.2⟩)) (jt v (aa2 s.size)),BF z s⟩,λy=>z.T ((P y).M z.size)⟩)
 have C:Hid (af4 af5 256 #[aq c,.func (.func 284) #[] #[.pointer (some (af7 (w.heap.size) 0)),.pointer (some (af7 (w.heap.size+1) 0)),.pointer (some (af7 (w.heap.size+1+1) 0))],.pointer none] (((w.alloc (.cells #[aq c] 208)).alloc (.cells #[af6 k] 3)).alloc (.cells #[.int .u64 n] 36)) (yy c m F (jH l k n) (mr m (l,f) ([],0) (iu k n l)) (((w.alloc (.cells #[aq c] 208)).alloc (.cells #[af6 k] 3)).alloc (.cells #[.int .u64 n] 36)))):=by
  generalize ((w.alloc (.cells #[aq c] 208)).alloc (.cells #[af6 k] 3)).alloc (.cells #[.int .u64 n] 36)=T at *;have s:∀k,G k->k<w.heap.size:=λk h=>v k (t k h);refine ax (vZ (op:=none) 284 _ T (u.K z) ((jK g l).K r z) N d t (λk q=>aG (v k q) z.size) ⟨rfl,rfl⟩ S R aa  aa  aa ad M L (λy=>Nt ok y a aa) (λ_ _=>rfl) (λW y=>?_))
  have q:=z.T (y.M z.size);exact Nw W (u.K q) ((jK g l).K r q) ok a K aa ((y.C (p:=af7 (w.heap.size) 0) (by show w.heap.size<_;omega)).T Y) ((y.C (p:=af7 (w.heap.size+1) 0) (by show w.heap.size+1<_;omega)).T X) ((y.C (p:=af7 (w.heap.size+1+1) 0) (by show w.heap.size+1+1<_;omega)).T V)
   (λh=>by have:=s _ h;omega) (λh=>by have:=s _ h;omega) (λh=>by have:=s _ h;omega) d
 clear h u r ok v t Y X V z b;go_in;go_wp21;refine(C.o).M ?_;intro e x h;have z:=U.o e x h;obtain⟨rfl,_⟩:=h;have y:=ax z;clear z;go_wp2;go_ret;exact y.o
def i4(l l2:List Pr):Int:=if 4611686018427387904<tot l+tot l2 then 6 else 0
def Kz{h:Nat}{G2:Ft}(W:World)(u:g7 W c 285 #[af6 m,aq g,.int .u64 f])(V:mW g l G W)(t:g7 W o 285 #[af6 m2,aq h,.int .u64 f2])(U:mW h l2 G2 W)
 (ok:qP l) (a:qP l2) (L:ab0 l+ab0 l2<=100000) (s:W.cell? (af7 p 0)=some (aq c)) (r:W.cell? (af7 q 0)=some (aq o)) (Q:¬G p) (P:¬G q) (S:¬G c) (R:¬G o) :
 af4 af5 257 #[aq p,aq q] W (U5 g (iC l l2) G (i4 l l2) W):=by
 have d:=u.k1;have b:=t.k1;have I:=bH _ _ s;have F:=bH _ _ r;have N:=u.lt;have J:=t.lt;have X:=ax (aB s (aB r (aB d b)));have C:Hid (∀z,af3 W z->af4 af5 258 #[aq g,aq h] z (U5 g (iC l l2) G (i4 l l2) z)):=ax (λz T=>by
  have y:=(jK g l).K V T;have x:=(jK h l2).K U T;unfold i4;by_cases v:4611686018427387904<tot l+tot l2
  .rw[aH v]
   exact(GK z y x ok a v).M λe Y ⟨y,n,x⟩=>⟨y,λh=>absurd h ab,λ_=>by subst x;exact below_drewN (aC _ _) _⟩
  .rw[aF v]
   exact(Kx z y x ok a aa L).M λe Y ⟨y,x,O⟩=>⟨y,λ_=>⟨x,O⟩,λh=>absurd rfl h⟩)
 clear s r d b u V t U ok a;generalize iC l l2=M at *;generalize i4 l l2=t at *;go_in;go_wp21;have Z:=ax (λ(Y:World) (z:(Touch G W) Y)=>(aB ((g9 z 0 I Q).T X.o.1) (aB ((g9 z 0 F P).T X.o.2.1) (aB ((g9 z 1 N S).T X.o.2.2.1) ((g9 z 1 J R).T X.o.2.2.2)))));refine jh (Touch G W) (hQ 0 8 (ik 8 (hQ 9 1 []))) ((Touch.refl _ _).drew) ?_;iterate 8 refine ib ?_
 refine iz λK x=>?_;go_simp;refine RX (C.o W.drew (aC _ _).drew) ?_;rintro s ⟨y,z⟩;have H:=ax (aB y z);have u:Touch G W s:=(by by_cases v:t=0;exact BF (aC _ _).drew (y v).2;exact Touch.of_below ((aC _ _).drew.T (z v)) (aD _));clear y z;refine x _ _ (u) ?_;refine ib ?_;refine g4 ?_;go_wp2;go_ret;exact⟨rfl,λh=>⟨(H.o.1 h).1,BF (aC _ _).drew (H.o.1 h).2⟩,λh=>(aC _ _).drew.T (H.o.2 h)⟩
def KA(w:World)(h:uX c m l f F w)(x:PS w o m2 l2 f2)(ok:qP l)(b:qP l2)(hl:ab0 l<=m)(hl2:ab0 l2<=4096)(j:2<=m)(i:m<=4096)(N:0<=f)(M:f<=4611686018427387904)(L:0<=f2)(K:f2<=4611686018427387904)(ho:¬F o\/o=c)(hm2:m2<=4096):af4 af5 172 #[aq c,aq o] w (yy c m F (if m2=m then i4 l l2 else 3) (mr m (l,f) (l2,f2) (iC l l2)) w):=by
 have I:=h;obtain⟨g,G,v,d,B,Y,r,s⟩:=I;have H:=x;obtain⟨J,G2,t,X⟩:=H;have A:¬G o:=λQ=>ho.elim (λh=>h (r o Q)) (λe=>Y (e▸Q));have z:af3 w ((w.alloc (.cells #[aq c] 208)).alloc (.cells #[aq o] 208)):=bw;have T:((w.alloc (.cells #[aq c] 208)).alloc (.cells #[aq o] 208)).cell? (af7 (w.heap.size) 0)=some (aq c):=((g7.new w 208 #[aq c]).alloc _).C 0;have S:((w.alloc (.cells #[aq c] 208)).alloc (.cells #[aq o] 208)).cell? (af7 (w.heap.size+1) 0)=some (aq o):=by
  have:=(g7.new (w.alloc (.cells #[aq c] 208)) 208 #[aq o]).C 0
  rwa [aI] at this
 have U:((w.alloc (.cells #[aq c] 208)).alloc (.cells #[aq o] 208)).heap.size=w.heap.size+1+1:=ad;have k0:=(z.C (p:=af7 c 0) v.lt).T (v.C 0);have k2:=(z.C (p:=af7 o 0) t.lt).T (t.C 0);simp only[az,ay] at k0 k2;by_cases P:m2=m
 .subst P
  rw[aH rfl];have O:Hid (∀n e q,yy c m2 F (i4 l l2) (mr m2 (l,f) (l2,f2) (iC l l2)) ((((w.alloc (.cells #[aq c] 208)).alloc (.cells #[aq o] 208))).drewN n) e q->yy c m2 F (i4 l l2) (mr m2 (l,f) (l2,f2) (iC l l2)) w e q):=ax (λn e q ⟨a,x,R⟩=>⟨a,λu=>by
   obtain⟨E,y⟩:=x u;have D:=y.size;simp only[ir] at D;refine⟨(nD _ _ _ _).more E (λk V=>V.imp id (λh=>⟨by simp only[ir,U] at h;omega,h.2⟩)) (jt s aa),BF z (BF (below_drewN (aC _ _) n) y)⟩,λu=>z.T ((below_drewN (aC _ _) n).T (R u) |>.mono z.size)⟩)
  have C:Hid (∀n,af4 af5 256 #[aq c,.func (.func 257) #[] #[.pointer (some (af7 (w.heap.size) 0)),.pointer (some (af7 (w.heap.size+1) 0))],aq o] (((w.alloc (.cells #[aq c] 208)).alloc (.cells #[aq o] 208)).drewN n) (yy c m2 F (i4 l l2) (mr m2 (l,f) (l2,f2) (iC l l2)) (((w.alloc (.cells #[aq c] 208)).alloc (.cells #[aq o] 208)).drewN n))):=by
   refine ax (λn=>?_);generalize (w.alloc (.cells #[aq c] 208)).alloc (.cells #[aq o] 208)=a at *;have y:=below_drewN z n;have R:∀k,G k->k<w.heap.size:=λk h=>s k (r k h);refine vZ (op:=some o) 257 _ (a.drewN n) (v.K y) ((jK g l).K d y) B Y r (λk V=>aG (s k V) y.size) ⟨m2,x.K y⟩ N M L K aa  aa j i (λu=>?_) (λ_ _=>rfl) (λW V=>?_)
   .unfold i4 at u
    split at u
    .omega
    .exact Qx ok b aa  aa
   .have u:=y.T (V.M y.size)
    exact Kz W (v.K u) ((jK g l).K d u) (t.K u) ((jK J l2).K X u) ok b aa ((V.C (p:=af7 (w.heap.size) 0) (by show w.heap.size<a.heap.size;omega)).T T) ((V.C (p:=af7 (w.heap.size+1) 0) (by show w.heap.size+1<a.heap.size;omega)).T S)
     (λh=>by have:=R _ h;omega) (λh=>by have:=R _ h;omega) Y A
  clear h x v d t X ok b s r T S z U;have a:((m2:Int) != (m2:Int))=false:=ad;go_in;go_wp21
  go_quiet (fail)
  go_wp21;refine(C.o _).M ?_
  intro e q h;have y:=O.o _ e q h;obtain⟨rfl,_⟩:=h;have u:=ax y;clear y;go_wp2;go_ret;exact u.o
 .rw[aF P]
  have a:((m2:Int) != (m:Int))=true:=ae;clear h x v d t X ok b s r T S U;go_in;go_wp21
  go_quiet (fail)
  go_wp2;go_ret;exact⟨rfl,λh=>absurd h ab,λ_=>below_drewN z _⟩
def km(z:i' l)(j:Nat):0<=tot (l.take j)/\tot (l.take j)<=tot l:=by
 have e:tot l=tot (l.take j)+tot (l.drop j):=by rw[<-h_,bL]
 have y:=g_ (l:=l.take j) (λp h=>z p (cm h));have x:=g_ (l:=l.drop j) (λp h=>z p (cp h));omega
def ja{j:Nat}(z:j<ab0 l):tot (l.take (j+1))=tot (l.take j)+l[j].2:=by rw[aM z,h_];simp
def mX(v:Value)(l:List Pr)(w:World)(h:iQ iF w v l)(x:i' l)(T:tot l<=9223372036854775807)(U:ab0 l<=1000000000):af4 af5 59 #[v] w λe d=>e=.returned (.int .u64 (tot l))/\w=d:=by
 obtain⟨A,c,rfl,_,_,z⟩:=h.form;have p:=ax z;have y:Hid (∀j,0<=tot (l.take j)/\tot (l.take j)<=9223372036854775807):=ax (λj=>by have:=km x j;omega);clear h z x;go_in;go_wp2;go_loopg [3,4] (ab0 l) (λq s x wr=>(∃j:Nat,q=ab0 l - j/\j<=ab0 l/\x=af6 j/\s=.int .u64 (tot (l.take j)))/\w=wr)
 exact⟨⟨0,rfl,aa,rfl,rfl⟩,rfl⟩
 case round=>
  obtain⟨⟨j,z,X,rfl,rfl⟩,rfl⟩:=hrel;have q:=ax z;clear z;by_cases t:j<ab0 l
  .obtain⟨g,S,rfl,Y,b,a⟩:=j' p.o t
   have z:=ax (ja t);have f:=y.o j;have u:=y.o (j+1);rw[z.o] at u;have V:(j:Int)<(ab0 l:Int):=aa;have⟨s,r⟩:=ar (tot (l.take j));rw[r] at z f u |-;clear r;generalize l[j].1=x at *;generalize l[j].2=n at *
   go_wp2;go_roundg (ab0 l - (j+1))
   exact⟨⟨j+1,rfl,aa,af,by rw[z.o]⟩,rfl⟩;have:=q.o;omega
  .obtain rfl:j=ab0 l:=aa
   rw[bc (aD _)];go_wp2;go_ret;exact⟨rfl,rfl⟩
def rQ{k n:Int}:∀{l:List Pr} {i:Nat},(∀(t:Nat) (h:t<ab0 l),t<i->l[t].1<k)->iu k n l=l.take i++iu k n (l.drop i)
 | _,0,_=>by simp
 | [],i+1,_=>by simp
 | p::l,i+1,h=>by
  have z:p.1<k:=h 0 ad aa;have y:=rQ (k:=k) (n:=n) (l:=l) (i:=i) (λt x v=>h (t+1) ae aa);rw[iu,aH z,y];simp
def lL(l:List Pr)(k n:Int)(i:Nat)(d:Bool)(out:List Pr):Prop:=if d then out++l.drop i=iu k n l else out=l.take i/\∀(t:Nat) (h:t<ab0 l),t<i->l[t].1<k
def lL.len{d:Bool}(h:lL l k n i d out):ab0 out<=ab0 l+1:=by
 unfold lL at h;split at h
 .have z:=bu List.length h
  have:=p' k n l;rw[aE] at z;omega
 .rw[h.1,aU];omega
def lL.pass(h:lL l k n i false out)(x:i<ab0 l)(v:l[i].1<k):lL l k n (i+1) false (out++[l[i]]):=by
 obtain⟨z,y⟩:=h;refine⟨by rw[z,aM x],λt u s=>?_⟩;rcases bm t i with h|h
 .exact y t u h
 .obtain rfl:t=i:=aa
  exact v
def lL.same(h:lL l k n i false out)(x:i<ab0 l)(v:l[i].1=k):lL l k n (i+1) true (out++[(k,l[i].2+n)]):=by
 obtain⟨z,y⟩:=h;show _++_=_
 rw[rQ y,z,b_ x,iu,aF aa,aH v];simp
def lL.hit(h:lL l k n i false out)(x:i<ab0 l)(v:k<l[i].1):lL l k n (i+1) true (out++[(k,n)]++[l[i]]):=by
 obtain⟨z,y⟩:=h;show _++_=_
 rw[rQ y,z,b_ x,iu,aF aa,aF aa];simp
def lL.rest(h:lL l k n i true out)(z:i<ab0 l):lL l k n (i+1) true (out++[l[i]]):=by
 have h:out++l.drop i=iu k n l:=h;rw[b_ z] at h;show _++_=_
 rw[<-h];simp
def lL.fin1(h:lL l k n (ab0 l) true out):out=iu k n l:=by
 have h:out++l.drop (ab0 l)=iu k n l:=h;simpa using h
def lL.fin0(h:lL l k n (ab0 l) false out):out++[(k,n)]=iu k n l:=by
 obtain⟨z,y⟩:=h;rw[rQ y,z];simp[iu]
def qe(v:Value)(k n:Int)(l:List Pr)(w:World)(h:iQ iF w v l)(z:i' l)(n0:0<=n)(ht:tot l+n<=9223372036854775807)(hl:ab0 l<=1000000000):af4 af5 112 #[v,af6 k,.int .u64 n] w λe J=>∃y,e=.returned y/\g8 iF w.heap.size J y (iu k n l)/\af3 w J:=by
 obtain⟨A,c,rfl,_,_,y⟩:=h.form;have H:=ax y;have I:Hid (∀(j:Nat) (h:j<ab0 l),0<=l[j].2/\l[j].2+n<=9223372036854775807):=ax (λj h=>by
  have x:=z _ (aP h);have u:=mC z _ (aP h);omega)
 clear h y z;go_in;go_wp2;go_loopg [7,8,9] (ab0 l) (λq u d x wr=>∃(j:Nat) (b:Bool) (P:List Pr),q=ab0 l - j/\j<=ab0 l/\x=af6 j/\d=.bool b/\Hid (lL l k n j b P)/\Hid (g8 iF w.heap.size wr u P)/\af3 w wr)
 exact⟨0,false,[],rfl,aa,rfl,rfl,ax ⟨rfl,λt _ h=>absurd h aa⟩,ax (g8.nil_ _ _),aC _ _⟩
 case round=>
  obtain⟨j,b,P,z,hj,rfl,rfl,Y,s,f⟩:=hrel;have U:=ax z;have V:=f.size;have hol:=Y.o.len;clear z;obtain⟨W,c5,rfl,_,_,_⟩:=s.o.form;by_cases X:j<ab0 l
  .obtain⟨g,Q,rfl,R,z,y⟩:=j' H.o X
   have i:=(f.C (p:=af7 g (Q+j * 2)) R).T z;have c1:=(f.C (p:=af7 g (Q+j * 2+1)) R).T y;have N:=ax (aB z y);clear z y;have hji:(j:Int)<(ab0 l:Int):=aa;have hbd:=I.o j X;have T:Hid (l[j]=(l[j].1,l[j].2)):=ax rfl;cases b
   .rcases gn l[j].1 k with z|z|z
    .have r:=ax (Y.o.pass X z)
     rw[T.o] at r;have L:¬k<=l[j].1:=aa;generalize l[j].1=x at *;generalize l[j].2=m at *;go_wp2_with (at_builtin;refine oM oB rfl (.tmp 52) (.tmp 57) rfl (s.o.alloc _) rfl _ [(x,m)] rfl (iQ.ig (E:=iF) _ (x,m) _ rfl _ rfl _ ad) ae ag ?_;intro O d u y _;have a:Hid (af3 w d):=ax ((f.alloc V _).grown y ae (λk z=>(s.o.lt k z).1));have q:=ax u;clear u y)
     go_roundg (ab0 l - (j+1))
     exact⟨j+1,false,_,rfl,aa,af,rfl,r,q,a.o⟩;have:=U.o;omega
    .have r:=ax (Y.o.same X z)
     have L:(l[j].1 == k)=true:=by simpa using z
     have D:k<=l[j].1:=aa;generalize l[j].1=x at *;generalize l[j].2=m at *;clear z T;go_wp2_with (at_builtin;refine oM oB rfl (.tmp 34) (.tmp 44) rfl (s.o.alloc _) rfl _ [(k,m+n)] rfl (iQ.ig (E:=iF) _ (k,m+n) _ rfl _ rfl _ ad) ae ag ?_;intro O d u y _;have a:Hid (af3 w d):=ax ((f.alloc V _).grown y ae (λk z=>(s.o.lt k z).1));have q:=ax u;clear u y)
     go_roundg (ab0 l - (j+1))
     exact⟨j+1,true,_,rfl,aa,af,rfl,r,q,a.o⟩;have:=U.o;omega
    .have r:=ax (Y.o.hit X z)
     rw[T.o] at r;have L:(l[j].1 == k)=false:=bV.2 aa;have D:k<=l[j].1:=aa;generalize l[j].1=x at *;generalize l[j].2=m at *;have C:ab0 (P++[(k,n)])+1<=1099511627776:=ae
     go_wp2_with (first
      | (at_builtin
         refine oM oB rfl (.tmp 46) (.tmp 50) rfl (s.o.alloc _) rfl _ [(k,n)] rfl (iQ.ig (E:=iF) _ (k,n) _ rfl _ rfl _ ad) ae ag ?_;intro O d u y _;have S:af3 w d:=(f.alloc V _).grown y ae (λk z=>(s.o.lt k z).1);have M:=(S.C (p:=af7 g (Q+j * 2)) R).T N.o.1;have K:=(S.C (p:=af7 g (Q+j * 2+1)) R).T N.o.2;have B:=S.size;have q:=ax u;clear u y)
      | (at_builtin
         refine oM oB rfl (.tmp 52) (.tmp 57) rfl (q.o.alloc _) rfl _ [(x,m)] rfl (iQ.ig (E:=iF) _ (x,m) _ rfl _ rfl _ ad) C ag ?_;intro v7 o K M _;have F:af3 w o:=(S.alloc B _).grown M ae (λk z=>(q.o.lt k z).1);have G:=ax K;clear K M))
     go_roundg (ab0 l - (j+1))
     exact⟨j+1,true,_,rfl,aa,af,rfl,r,G,F⟩;have:=U.o;omega
   .have r:=ax (Y.o.rest X)
    rw[T.o] at r;generalize l[j].1=x at *;generalize l[j].2=m at *;go_wp2_with (at_builtin;refine oM oB rfl (.tmp 52) (.tmp 57) rfl (s.o.alloc _) rfl _ [(x,m)] rfl (iQ.ig (E:=iF) _ (x,m) _ rfl _ rfl _ ad) ae ag ?_;intro O d u y _;have a:Hid (af3 w d):=ax ((f.alloc V _).grown y ae (λk z=>(s.o.lt k z).1));have q:=ax u;clear u y)
    go_roundg (ab0 l - (j+1))
    exact⟨j+1,true,_,rfl,aa,af,rfl,r,q,a.o⟩;have:=U.o;omega
  .obtain rfl:j=ab0 l:=aa
   cases b
   .have r:=ax Y.o.fin0
    go_wp2_with (at_builtin;refine oM oB rfl (.tmp 61) (.tmp 65) rfl (s.o.alloc _) rfl _ [(k,n)] rfl (iQ.ig (E:=iF) _ (k,n) _ rfl _ rfl _ ad) ae ag ?_;intro O d u y _;have a:Hid (af3 w d):=ax ((f.alloc V _).grown y ae (λk z=>(s.o.lt k z).1));have q:=ax u;clear u y)
    go_ret;exact⟨_,rfl,by rw[<-r.o];exact q.o,a.o⟩
   .have r:=ax Y.o.fin1
    go_wp2;go_ret;exact⟨_,rfl,by rw[<-r.o];exact s.o,f⟩
def U8(er:Int)(v:Value)(M:List Pr)(w:World)(e:Ending)(w':World):Prop:=∃v',e=.returned (.tuple #[v',af6 er])/\(er=0->g8 iF w.heap.size w' v' M)/\(er≠0->v'=v)/\af3 w w'
def GL(v:Value)(k n:Int)(l:List Pr)(w:World)(h:iQ iF w v l)(y:i' l)(a:0<=n)(U:n<18446744073709551616)(V:tot l<=4611686018427387904)(q:ab0 l<=1000000000):af4 af5 162 #[v,af6 k,.int .u64 n,af6 0] w (U8 (jH l k n) v (iu k n l) w):=by
 have z:Hid (jH l k n=if n=0 then 4 else if k < -1048576\/1048576<k then 5 else if 4611686018427387904<tot l+n then 6 else 0):=ax rfl;have u:=ax (mX v l w h y aa q);have T:=g_ y;obtain⟨A,c,rfl,_,_,_⟩:=h.form;have s:Hid (tot l+n<=4611686018427387904->_):=ax (λx=>qe (.slice A (ab0 l) c) k n l w h y a aa q);clear h y;generalize jH l k n=y at *;generalize tot l=t at *;by_cases x:n=0
 .obtain rfl:y=4:=by rw[z.o,aH x]
  go_in;go_wp2;go_ret2;exact⟨_,rfl,λh=>absurd h ab,λ_=>rfl,aC _ _⟩
 .by_cases g:k < -1048576
  .obtain rfl:y=5:=by rw[z.o,aF x,aH (.inl g)]
   go_in;go_wp2;go_ret2;exact⟨_,rfl,λh=>absurd h ab,λ_=>rfl,aC _ _⟩
  .by_cases f:1048576<k
   .obtain rfl:y=5:=by rw[z.o,aF x,aH (.inr f)]
    go_in;go_wp2;go_ret2;exact⟨_,rfl,λh=>absurd h ab,λ_=>rfl,aC _ _⟩
   .by_cases r:4611686018427387904<t+n
    .obtain rfl:y=6:=by rw[z.o,aF x,aF aa,aH r]
     have d:4611686018427387904 - t<n:=aa;go_in;go_wp21;refine Ix u.o ?_;go_wp2;go_ret2;exact⟨_,rfl,λh=>absurd h ab,λ_=>rfl,aC _ _⟩
    .obtain rfl:y=0:=by rw[z.o,aF x,aF aa,aF r]
     have d:¬4611686018427387904 - t<n:=aa;have p:=ax (s.o aa);clear s;go_in;go_wp21;refine Ix u.o ?_;go_wp21;refine WE p.o ?_;rintro S R ⟨Y,b⟩;go_wp2;go_ret2;exact⟨_,rfl,λ_=>Y,λh=>absurd rfl h,b⟩
def pw(y lo hi dg u m:Nat)(gr:Bool)(bk:Nat)(l:List Pr)(F:Ft)(w:World):Prop:=∃v,g7 w y 128 #[af6 lo,af6 hi,af6 dg,af6 u,af6 m,.bool gr,af6 bk,v]/\g8 iF 0 w v l/\F y/\(∀k,v.ownBlock=some k->F k)/\∀k,F k->k<w.heap.size
def nZ(y b d g u m:Nat)(f:Bool)(p:Nat)(l:List Pr):kK (pw y b d g u m f p l) where
 stay:=λ⟨v,t,s,z,x,r⟩ q c=>⟨v,(q y z).T t,s.stay λk e=>q k (x k e),z,x,λk h=>aG (r k h) c⟩
 more:=λ⟨v,t,s,z,x,_⟩ h q=>⟨v,t,s,h y z,λk e=>h k (x k e),q⟩
 low:=λ⟨_,_,_,_,_,r⟩=>r
def QB(d:Bool)(w:World)(ok:sk lo hi dg u m):af4 af5 47 #[.agg #[af6 lo,af6 hi,af6 dg],.bool d] w λe q=>∃y,e=.returned (aq y)/\pw y lo hi dg u m d (1+jg u m hi) [] (Gr (λ_=>False) w q) q/\af3 w q:=by
 have S:Hid (∀w,_):=ax (λw=>yu w ok);have R:Hid (∀w,_):=ax (λw=>oN u m hi w ok.um (aa2 ok.h1));have z:=lU (u:=u) (m:=m) (v:=hi) (aa2 ok.h1);have N:jg u m hi<=63:=by have:=ok.um;omega
 generalize jg u m hi=f at *;clear ok z;go_in;go_wp21;have⟨b,y⟩:=ar (w.heap.size);have⟨g,z⟩:=ar (w.alloc (.cells #[af6 lo,af6 hi,af6 dg] 31));have Y:=ao z;have T:=an z y;rw[z,y];clear z y;refine RX (S.o g) ?_;intro x V;have y:=ax (T.o.K V);have X:=Y.T (V.M Y.size);have U:=X.size;obtain⟨t,s,r⟩:=y.o.c3;go_wp21;clear t s r;refine jh (af3 x) (hQ 0 8 (ik 8 (hQ 9 2 (ik 11 (hQ 12 1 []))))) ((aC _ _).drew) ?_;iterate 8 refine ib (h:=λq z=>by have t:=(y.o.K z).C 0;have s:=(y.o.K z).k1;have r:=(y.o.K z).k2;simp only[az,ay,aA] at t;exact af8) ?_
 refine iz λK p=>?_;go_simp;refine Ix (R.o x.drew) ?_;refine p _ _ ((aC _ _).drew) ?_;iterate 2 refine ib (h:=λq z=>by have t:=(y.o.K z).C 0;have s:=(y.o.K z).k1;have r:=(y.o.K z).k2;simp only[az,ay,aA] at t;exact af8) ?_
 refine iz λK p=>?_;go_simp;refine p _ _ (((aC _ _).drew).alloc (aD _) _) ?_;refine ib (h:=λq z=>by have t:=(y.o.K z).C 0;have s:=(y.o.K z).k1;have r:=(y.o.K z).k2;simp only[az,ay,aA] at t;exact af8) ?_;refine g4 ?_;go_wp2;go_ret;have Q:ad0 .i64 (1+(f:Int))=((1+f:Nat):Int):=ah;rw[Q];have⟨z,c⟩:=ar ((x.alloc (.cells #[af6 lo,af6 hi,af6 dg,af6 u,af6 m,.bool d,af6 ((1+f:Nat):Int),.slice none 0 0] 128)).drew);have P:af3 x z:=by rw[<-c];exact((aC _ _).alloc (aD _) _).drew
 have a:g7 z x.heap.size 128 #[af6 lo,af6 hi,af6 dg,af6 u,af6 m,.bool d,af6 ((1+f:Nat):Int),.slice none 0 0]:=by rw[<-c];exact(g7.new _ _ _:g7 (x.alloc _) _ _ _).drew
 have O:=a.lt;rw[c];exact⟨_,rfl,⟨_,a,g8.nil_ _ _,.inr ⟨U,O⟩,(λk e=>by cases e),λk h=>h.elim False.elim And.right⟩,X.T (P.M U)⟩
def iv(u m hi bk:Nat):Nat:=if bk=1+jg u m hi then hi else oC u m bk
def KD{y bk:Nat}{gr:Bool}(w:World)(h:pw y lo hi dg u m gr bk l F w)(ok:sk lo hi dg u m)(X:1<=bk)(V:bk<=64):af4 af5 97 #[aq y] w (au w (af6 (iv u m hi bk))):=by
 have t:Hid (iv u m hi bk=if bk=1+jg u m hi then hi else oC u m bk):=ax rfl;rw[t.o];have c:Hid (∀w,_):=ax (λw=>oN u m hi w ok.um (aa2 ok.h1));have Y:Hid (∀w,_):=ax (λw=>Du u m bk w ok.um X V);have s:=lU (u:=u) (m:=m) (v:=hi) (aa2 ok.h1);have R:jg u m hi<=63:=by have:=ok.um;omega
 obtain⟨v,z,_⟩:=h;have x:=ax z;generalize jg u m hi=B at *;generalize oC u m bk=T at *;have f:Hid (ad0 .i64 (1+(B:Int))=((1+B:Nat):Int)):=ax ah;have S:=z.k1;clear ok s z t;have⟨N,z⟩:=ar (1+B);rw[z] at f |-;clear z
 by_cases b:bk=N
 .subst b
  rw[aH rfl];have U:((bk:Int) == (bk:Int))=true:=ad;go_in;go_wp21;refine jh (af3 w) (hQ 0 17 (ik 17 (hQ 18 2 []))) ((aC _ _).drew) ?_;iterate 17 refine ib (h:=λg z=>by have q:=(x.o.K z).C 1;have t:=(x.o.K z).k3;have s:=(x.o.K z).k4;have r:=(x.o.K z).k6;have d:=f.o;simp only[az,ay,aA] at q;exact af8) ?_
  refine iz λK p=>?_;go_simp;refine Ix (c.o w.drew) ?_;refine p _ _ ((aC _ _).drew) ?_;iterate 2 refine ib (h:=λg z=>by have q:=(x.o.K z).C 1;have t:=(x.o.K z).k3;have s:=(x.o.K z).k4;have r:=(x.o.K z).k6;have d:=f.o;simp only[az,ay,aA] at q;exact af8) ?_
  refine g4 ?_;have q:=(x.o.drew).k1;go_wp2;go_ret;exact⟨rfl,(aC _ _).drew⟩
 .rw[aF b]
  have U:((bk:Int) == (N:Int))=false:=ae;go_in;go_wp21;refine jh (af3 w) (hQ 0 17 (ik 17 (hQ 18 2 []))) ((aC _ _).drew) ?_;iterate 17 refine ib (h:=λg z=>by have q:=(x.o.K z).C 1;have t:=(x.o.K z).k3;have s:=(x.o.K z).k4;have r:=(x.o.K z).k6;have d:=f.o;simp only[az,ay,aA] at q;exact af8) ?_
  refine iz λK p=>?_;go_simp;refine Ix (c.o w.drew) ?_;refine p _ _ ((aC _ _).drew) ?_;iterate 2 refine ib (h:=λg z=>by have q:=(x.o.K z).C 1;have t:=(x.o.K z).k3;have s:=(x.o.K z).k4;have r:=(x.o.K z).k6;have d:=f.o;simp only[az,ay,aA] at q;exact af8) ?_
  refine g4 ?_;go_wp21;refine jh (af3 w) (hQ 0 12 (ik 12 (hQ 13 1 []))) ((aC _ _).drew.drew) ?_;iterate 12 refine ib (h:=λg z=>by have t:=(x.o.K z).C 3;have s:=(x.o.K z).k4;have r:=(x.o.K z).k6;simp only[az,ay,aA] at t;exact af8) ?_
  refine iz λK p=>?_;go_simp;refine Ix (Y.o w.drew.drew) ?_;refine p _ _ ((aC _ _).drew.drew) ?_;refine ib (h:=λg z=>by have t:=(x.o.K z).C 3;have s:=(x.o.K z).k4;have r:=(x.o.K z).k6;simp only[az,ay,aA] at t;exact af8) ?_;refine g4 ?_;go_wp2;go_ret;exact⟨rfl,(aC _ _).drew.drew⟩
def S6(er:Int)(v:Value)(m M:List Pr)(w:World)(e:Ending)(w':World):Prop:=∃v',e=.returned (.tuple #[v',af6 er])/\(er=0->m≠[]->g8 iF w.heap.size w' v' M)/\(er≠0\/m=[]->v'=v)/\af3 w w'
def xo:∀(b a:List Pr),ab0 (iC a b)<=ab0 a+ab0 b
 | [],a=>by simp[qa]
 | p::b,a=>by
  have z:=xo b (iu p.1 p.2 a);have y:=(p' p.1 p.2 a).2;rw[tE];simp only[aK];omega
def DD(v u:Value)(l m:List Pr)(w:World)(h:iQ iF w v l)(y:iQ iF w u m)(f:i' l)(z:i' m)(ht:tot l<=4611686018427387904)(htm:tot m<=4611686018427387904)(hl:ab0 l+ab0 m<=1000000000):af4 af5 113 #[v,u,af6 0] w (S6 (i4 l m) v m (iC l m) w):=by
 have X:=ax (mX v l w h f aa  aa);have V:=ax (mX u m w y z aa  aa);have t0:=g_ f;have t1:=g_ z;obtain⟨A,c,rfl,_,_,_⟩:=h.form;obtain⟨B,d,rfl,_,_,x⟩:=y.form;have E:=ax x;have o:=ax h;have Q:=ax f;have O:=ax z;clear h y x;by_cases b:m=[]
 .subst b
  have r:i4 l []=0:=by unfold i4;rw[aF (by rw[Qm];omega)]
  rw[r];go_in;go_wp2;go_ret2;exact⟨_,rfl,λ_ h=>absurd rfl h,λ_=>rfl,aC _ _⟩
 .have hm0:0<ab0 m:=eR.2 b
  have D:=ax b;have hmz:((ab0 m:Int) == 0)=false:=ae;by_cases Y:4611686018427387904<tot l+tot m
  .have r:i4 l m=6:=by unfold i4;rw[aH Y]
   rw[r];clear f z r b Q O;generalize tot l=t at *;generalize tot m=s at *;have i:4611686018427387904 - t<s:=aa;go_in;go_wp21;refine Ix V.o ?_;go_wp21;refine Ix X.o ?_;go_wp2;go_ret2;exact⟨_,rfl,λh=>absurd h ab,λ_=>rfl,aC _ _⟩
  .have r:i4 l m=0:=by unfold i4;rw[aF Y]
   rw[r];have F:Hid (∀(j:Nat) (h:j<ab0 m),0<=m[j].2/\tot (iC l (m.take j))+m[j].2<=4611686018427387904):=ax (λj h=>by
    have x:=z _ (aP h);have y:=(km z (j+1)).2;rw[ja h] at y;rw[lR];omega)
   clear f z r b;have⟨t,x⟩:=ar (tot l);have⟨s,y⟩:=ar (tot m);rw[x] at X t0 Y;rw[y] at V t1 Y;clear x y ht htm;have i:¬4611686018427387904 - t<s:=aa;go_in;go_wp21;refine Ix V.o ?_;go_wp21;refine Ix X.o ?_;go_wp2;go_loopg [10,11] (ab0 m) (λq y x wr=>∃j:Nat,q=ab0 m - j/\j<=ab0 m/\x=af6 j/\Hid (iQ iF wr y (iC l (m.take j)))/\Hid (0<j->g8 iF w.heap.size wr y (iC l (m.take j)))/\af3 w wr)
   exact⟨0,rfl,aa,rfl,o,ax (λh=>absurd h aa),aC _ _⟩
   case round=>
    obtain⟨j,z,hj,rfl,L,R,y⟩:=hrel;have C:=ax z;have H:=y.size;clear z;by_cases U:j<ab0 m
    .obtain⟨g,q,rfl,J,P,M⟩:=j' E.o U
     have T:=(y.C (p:=af7 g (q+j * 2)) J).T P;have N:=(y.C (p:=af7 g (q+j * 2+1)) J).T M;have S:=ax (aB T N);have I:g<wr.heap.size:=aa;clear P M T N;have hji:(j:Int)<(ab0 m:Int):=aa;have hjz:(0:Int)<=(j:Int):=aa;have k:=F.o j U;have hln:=xo (m.take j) l;have P:Hid (i' (iC l (m.take j))):=ax (lS Q.o (λp f=>O.o p (cm f)));have N:=ax (by rw[aM U,ym]:iu m[j].1 m[j].2 (iC l (m.take j))=iC l (m.take (j+1)));have T:Hid (∀W,af3 wr W->_):=ax (λW M=>qe _ m[j].1 m[j].2 (iC l (m.take j)) W (L.o.K M) P.o k.1 aa (by rw[aU] at hln;omega));rw[N.o] at T;have M:=L.o;obtain⟨A7,c7,rfl,_,_,_⟩:=M.form;clear M N P;generalize m[j].1=x at *;generalize m[j].2=n at *;go_upto_region 14 with fail;have Z:=ax (λ(a:World) (P:(af3 wr) a)=>(aB ((P.C (p:=af7 g (q+j * 2)) I).T S.o.1) ((P.C (p:=af7 g (q+j * 2+1)) I).T S.o.2)));refine jh (af3 wr) (hQ 0 11 (ik 11 (hQ 12 1 []))) ((aC _ _).drew) ?_;iterate 11 refine ib ?_
     refine iz λK N=>?_;go_simp;refine WE (T.o wr.drew (aC _ _).drew) ?_;rintro v3 W ⟨G,M⟩;have p:af3 wr W:=(aC _ _).drew.T M;have P:=ax G;clear G M;refine N _ _ (p) ?_;refine ib ?_;refine g4 ?_;go_wp2;go_roundg (ab0 m - (j+1))
     exact⟨j+1,rfl,aa,af,ax P.o.rd,ax (λ_=>P.o.more (by show w.heap.size<=wr.drew.heap.size;exact H)),y.T (p.M H)⟩;have:=C.o;omega
    .obtain rfl:j=ab0 m:=aa
     rw[bc (aD _)] at R;go_wp2;go_ret2;exact⟨_,rfl,λ_ _=>R.o hm0,λh=>absurd h (by have:=D.o;simp[this]),y⟩
def Ny(v:Value)(l:List Pr)(m:Nat)(w:World)(h:iQ iF w v l)(a:i' l)(ht:tot l<=4611686018427387904)(hm:0<m)(hm1:m<=1000000)(hl:ab0 l<=1000000000):af4 af5 159 #[v,af6 m] w λe C=>∃z,e=.returned (.tuple #[z,.int .u64 (hZ m l).2])/\iQ iF C z (hZ m l).1/\af3 w C:=by
 obtain⟨A,c,rfl,_,_,O⟩:=h.form;have J:=ax O;have i:=ax h;by_cases hle:ab0 l<=m
 .rw[lT hle]
  clear h O a;go_in;go_wp2;go_ret2;exact⟨_,rfl,i.o,aC _ _⟩
 .have T:Hid (∀j,0<=tot (l.take j)/\tot (l.take j)<=4611686018427387904):=ax (λj=>by have:=km a j;omega)
  obtain⟨z,g⟩:∃z,ab0 l=z+m:=⟨ab0 l - m,aa⟩;have q:hZ m l=(bump (tot (l.take z)) (l.drop z),tot (l.take z)):=by unfold hZ;rw[show ab0 l - m=z by omega]
  have W:Hid (∀(j:Nat) (h:j<ab0 l),0<l[j].2/\l[j].2<=4611686018427387904):=ax (λj h=>⟨a _ (aP h),by have:=mC a _ (aP h);omega⟩);rw[q];have⟨s,d⟩:=ar (tot (l.take z));have hb0:=T.o z;rw[d] at hb0 |-;have HSE:=ax d;have p:ab0 (l.drop z)=m:=by rw[aW];omega
  have⟨y,u⟩:=ar (bump s (l.drop z));have r:ab0 y=m:=by rw[<-u,bump_length,p]
  have K:=ax r;have B:Hid (∀h:z<ab0 l,y.take 1=[(l[z].1,l[z].2+s)]):=ax (λh=>by
   rw[<-u,b_ h];rfl)
  have o:Hid (∀k (h:z+k<ab0 l),0<k->y.take (k+1)=y.take k++[(l[z+k].1,l[z+k].2)]):=ax (λk h b=>by
   have f:k<ab0 y:=aa;rw[aM f]
   congr 2
   have G:z<ab0 l:=aa;have e:y[k]?=some l[z+k]:=by
    rw[<-u,b_ G];show((l[z].1,l[z].2+s)::l.drop (z+1))[k]?=_
    obtain⟨t,rfl⟩:∃t,k=t+1:=⟨k - 1,aa⟩;rw[aA,dz,show z+1+t=z+(t+1) by omega,aL h]
   exact(cV.1 e).2)
  rw[u];have hlz:(ab0 l:Int) - (m:Int)=(z:Int):=aa;have hzl:z+m<=ab0 l/\ab0 l<=z+m:=aa;clear h O a q u r p d g;go_in;go_wp2;go_loopg [6,7] z (λq s x wr=>(∃j:Nat,q=z - j/\j<=z/\x=af6 j/\s=.int .u64 (tot (l.take j)))/\w=wr)
  exact⟨⟨0,rfl,aa,rfl,rfl⟩,rfl⟩
  case round=>
   obtain⟨⟨j,Y,G,rfl,rfl⟩,rfl⟩:=hrel;have V:=ax Y;clear Y;by_cases hlt:j<z
   .have r:j<ab0 l:=aa
    obtain⟨g,M,rfl,N,I,H⟩:=j' J.o r;have u:=ax (ja r);have p:=T.o j;have t:=T.o (j+1);rw[u.o] at t;have F:(j:Int)<(ab0 l:Int):=aa;have b:(j:Int)<(z:Int):=aa;have⟨X,d⟩:=ar (tot (l.take j));rw[d] at u p t |-;clear d;generalize l[j].1=x at *;generalize l[j].2=n at *
    go_wp2;go_roundg (z - (j+1))
    exact⟨⟨j+1,rfl,aa,af,by rw[u.o]⟩,rfl⟩;have:=V.o;omega
   .obtain rfl:j=z:=aa
    rw[HSE.o];go_wp2;go_loopg [8,9] m (λq u x wr=>∃(k:Nat) (t:List Pr),q=m - k/\k<=m/\x=af6 ((j+k:Nat):Int)/\Hid (g8 iF w.heap.size wr u t)/\Hid (t=y.take k)/\af3 w wr)
    exact⟨0,[],rfl,aa,ad,ax (g8.nil_ _ _),ax ad,aC _ _⟩
    case round=>
     obtain⟨k,t,Y,f,rfl,u,R,q⟩:=hrel;have V:=ax Y;have D:=q.size;clear Y;obtain⟨A5,c5,rfl,_,_,_⟩:=u.o.form;by_cases hlt:k<m
     .have r:j+k<ab0 l:=aa
      obtain⟨g,M,rfl,N,b,X⟩:=j' J.o r;have I:=(q.C (p:=⟨g,M+(j+k) * 2,none⟩) N).T b;have H:=(q.C (p:=⟨g,M+(j+k) * 2+1,none⟩) N).T X;clear b X;have F:((j+k:Nat):Int)<(ab0 l:Int):=aa;have hpb:=W.o _ r;have U:ab0 t=k:=by rw[R.o,aU];have:=K.o;omega
      by_cases hk0:k=0
      .subst hk0
       obtain rfl:t=[]:=aV U;have Q:=ax (B.o r);simp only[cF] at I H F hpb;generalize l[j].1=x at *;generalize l[j].2=n at *;clear U;go_wp2_with (at_builtin;refine oM oB rfl (.tmp 55) (.tmp 57) rfl ((u.o.alloc _).alloc _) rfl _ [(x,n+s)] rfl (iQ.ig (E:=iF) _ (x,n+s) _ rfl _ rfl _ ad) ad ag ?_;intro v6 L X b _;have S:Hid (af3 w L):=ax (((q.alloc D _).alloc ae _).grown b ae (λk f=>(u.o.lt k f).1));have P:=ax X;clear X b)
       go_roundg (m - 1)
       exact⟨1,_,rfl,aa,af,P,ax (by rw[Q.o];rfl),S.o⟩;have:=V.o;omega
      .have Q:=ax (o.o k r aa)
       have hl0:((ab0 t:Int) == 0)=false:=by rw[U];simp;omega
       have ac0:ab0 t<=1000000:=aa;generalize l[j+k].1=x at *;generalize l[j+k].2=n at *;clear U;go_wp2_with (at_builtin;refine oM oB rfl (.tmp 55) (.tmp 57) rfl ((u.o.alloc _).alloc _) rfl _ [(x,n)] rfl (iQ.ig (E:=iF) _ (x,n) _ rfl _ rfl _ ad) ae ag ?_;intro v6 L X b _;have S:Hid (af3 w L):=ax (((q.alloc D _).alloc ae _).grown b ae (λk f=>(u.o.lt k f).1));have P:=ax X;clear X b)
       go_roundg (m - (k+1))
       exact⟨k+1,_,rfl,aa,af,P,ax (by rw[Q.o,R.o]),S.o⟩;have:=V.o;omega
     .obtain rfl:k=m:=aa
      have b:¬((j+k:Nat):Int)<(ab0 l:Int):=aa;have p:=ax (by rw[R.o,bc (aa2 K.o)]:t=y);go_wp2;go_ret2;exact⟨_,rfl,by rw[<-p.o];exact u.o.rd,q⟩
def KE(v:Value)(l:List Pr)(m:Nat)(w:World)(h:iQ iF w v l)(z:i' l)(r:tot l<=4611686018427387904)(t:0<m)(s:m<=1000000)(u:ab0 l<=1000000000):af4 af5 85 #[v,af6 m] w λe x=>∃y,e=.returned (.tuple #[y,.int .u64 (hZ m l).2])/\iQ iF x y (hZ m l).1/\af3 w x:=by
 have C:=ax (Ny v l m w h z r t s u);clear h z;go_in;go_wp21;refine WE C.o ?_;rintro q p ⟨y,z⟩;go_wp2;go_ret2;exact⟨_,rfl,y,z⟩
