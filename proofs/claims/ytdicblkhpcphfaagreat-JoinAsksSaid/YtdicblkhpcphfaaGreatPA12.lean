/- Parts. No condition. -/
import Derived.Test.YtdicblkhpcphfaaGreatPA11
set_option maxRecDepth 100000
set_option maxHeartbeats 0
set_option linter.all false
namespace Go.Proofs.YtdicblkhpcphfaaGreat
open Tryz Go.RowKit
open _root_.List renaming length→ao
open _root_.Go renaming Calls→ar
open Tryz renaming prog→Oe
namespace D
variable{f f2 k n:Int}{c g i m m2 o p q:Nat}{l l2 out:List Pr}{F G:Ft}
def uO(c m:Nat)(F:Ft)(er:Int)(s:List Pr × Int)(w:World)(e:Ending)(w':World):Prop:=
 e=.returned (.int .i64 er)/\(er=0->tj c m s.1 s.2 (Gr F w w') w'/\Touch F w w')/\(er≠0->aq w w')
def Re(g:Nat)(M:List Pr)(G:Ft)(er:Int)(W:World)(e:Ending)(W':World):Prop:=
 e=.returned (.int .i64 er)/\(er=0->ln g M (Gr G W W') W'/\Touch G W W')/\(er≠0->aq W W')
def Td(w:World)(op:Option Nat)(l:List Pr)(f:Int):Prop:=match op with
 | some o=>∃m,Mm w o m l f
 | none=>l=[]/\f=0
def Ah(z:0<=f)(y:f<=4611686018427387904)(l M:List Pr):0<=ij f l M/\ij f l M<=4611686018427387904:=by
 unfold ij;split<;>omega
def s5{M:List Pr}{er:Int}{op:Option Nat}(K:Nat)(cb:Array Value)(w:World)
 (y:gN w c 285 #[.int .i64 m,.pointer (some ⟨g,0,none⟩),.int .u64 f]) (t:ln g l G w) (hFc:F c) (U9:¬G c) (v:∀k,G k->F k) (x:∀k,F k->k<w.heap.size) (r:Td w op l2 f2)
 (f0:0<=f) (n:f<=4611686018427387904) (g0:0<=f2) (g1:f2<=4611686018427387904) (hl:ao l<=100000) (hl2:ao l2<=100000) (hm0:2<=m) (hm1:m<=4096) (u:er=0->pn M)
 (eg:∀z w,(callFunc K z).run prog w=.ok (.enter K z) w) (s:∀W,aq w W->Calls prog K cb W (Re g M G er W)) :
 ar Oe 256 #[.pointer (some ⟨c,0,none⟩),.func (.func K) #[] cb,.pointer (op.map λo=>⟨o,0,none⟩)] w (uO c m F er (kZ m (l,f) (l2,f2) M) w):=by
 have HB:=ay y;have HS:=ay t;have U_:=ay x;have Rf:=ay v;have HO:=ay r;have HC:=ay s;have HM:=ay u;have hcl:=y.lt;clear y t x v r s u;obtain⟨N,z⟩:∃v:Option Addr,(op.map λo=>(⟨o,0,none⟩:Addr))=v:=⟨_,rfl⟩
 rw[z];have U':=ay z;clear z
 go_in
 go_wp2_with fail;have x:=gN.new w 208 #[.pointer (some ⟨c,0,none⟩),.pointer N];have y:=gN.new (w.alloc (.cells #[.pointer (some ⟨c,0,none⟩),.pointer N] 208)) 418 #[.int .i64 0,.int .i64 0];have z:=gN.new ((w.alloc (.cells #[.pointer (some ⟨c,0,none⟩),.pointer N] 208)).alloc (.cells #[.int .i64 0,.int .i64 0] 418)) 419 #[.int .u64 0,.int .u64 0];have hbs:aq w (((w.alloc (.cells #[.pointer (some ⟨c,0,none⟩),.pointer N] 208)).alloc (.cells #[.int .i64 0,.int .i64 0] 418)).alloc (.cells #[.int .u64 0,.int .u64 0] 419)):=bw;simp only[aI] at y z;have Va:=ay ((x.alloc (.cells #[.int .i64 0,.int .i64 0] 418)).alloc (.cells #[.int .u64 0,.int .u64 0] 419));have Vb:=ay (y.alloc (.cells #[.int .u64 0,.int .u64 0] 419));have Vc:=ay z;clear x y z;generalize ((w.alloc (.cells #[.pointer (some ⟨c,0,none⟩),.pointer N] 208)).alloc (.cells #[.int .i64 0,.int .i64 0] 418)).alloc (.cells #[.int .u64 0,.int .u64 0] 419)=w0 at *
 go_loopg [23] 2 (λq x wr=>∃j:Nat,q=2 - j/\j<=2/\x=.int .i64 j/\Hid (gN wr w.heap.size 208 #[.pointer (some ⟨c,0,none⟩),.pointer N])/\Hid (gN wr (w.heap.size+1) 418 #[.int .i64 (if 1<=j then jY l else 0),.int .i64 (if 2<=j then jY l2 else 0)]) /\
  Hid (gN wr (w.heap.size+1+1) 419 #[.int .u64 (if 1<=j then f else 0),.int .u64 (if 2<=j then f2 else 0)])/\aq w wr)
 exact⟨0,rfl,aa,rfl,Va,Vb,Vc,hbs⟩
 case round=>
  obtain⟨j,H,hj,rfl,O,I,P,b⟩:=hrel;have d:=ay H;have hz:=b.size;have hz2:=P.o.lt;clear H hbs Va Vb Vc;have hjc:j=0\/j=1\/j=2:=aa
  rcases hjc with rfl|rfl|rfl
  ·have Q:=O.o.k0
   have L:=ay (first_any wr ((show Mm w c m l f from⟨g,G,HB.o,HS.o⟩).keep b) hl)
   go_wp2_with fail;refine(L.o).mono ?_
   rintro e C ⟨rfl,u⟩;have Y:=b.trans (u.mono hz);have p:=HB.o.keep Y;have J:=p.k2;have y:=I.o.keep u;have z:=P.o.keep u;have n:=y.frozen 0;have f2:=z.frozen 0;have T:=y.k0;have V:=z.k0;have R:=ay y;have S:=ay z;have X:=ay (O.o.keep u);clear y z p
   go_wp2
   go_roundg 1
   exact⟨1,rfl,aa,rfl,ay ((X.o.far ad _).far af _),ay ((R.o.gR 0 (.int .i64 (jY l))).far ad _),ay ((S.o.far ad _).gR 0 (.int .u64 f)),(Y.setCell ad _).setCell af _⟩
   have:=d.o;omega
  ·have Q:=O.o.k1
   cases op with
   | none=>
    have U:=U'.o;simp only[Option.map_none] at U;subst U;obtain⟨a,r⟩:=(show l2=[]/\f2=0 from HO.o)
    subst a;subst r
    go_wp2
    go_roundg 0
    exact⟨2,rfl,aa,rfl,O,I,P,b⟩
    have:=d.o;omega
   | some o=>
    have U:=U'.o;simp only[ee] at U;subst U;obtain⟨W,t⟩:=(show ∃m,Mm w o m l2 f2 from HO.o)
    have D:=t;obtain⟨A,B,s,_⟩:=D;have L:=ay (first_any wr (t.keep b) hl2);have E:=ay s;clear t s
    go_wp2_with fail;refine(L.o).mono ?_
    rintro e C ⟨rfl,u⟩;have Y:=b.trans (u.mono hz);have p:=E.o.keep Y;have J:=p.k2;have y:=I.o.keep u;have z:=P.o.keep u;have n:=y.frozen 1;have f2':=z.frozen 1;have T:=y.k1;have V:=z.k1;have R:=ay y;have S:=ay z;have X:=ay (O.o.keep u);clear y z p
    go_wp2
    go_roundg 0
    exact⟨2,rfl,aa,rfl,ay ((X.o.far ad _).far af _),ay ((R.o.gR 1 (.int .i64 (jY l2))).far ad _),ay ((S.o.far ad _).gR 1 (.int .u64 f2)),(Y.setCell ad _).setCell af _⟩
    have:=d.o;omega
  ·have WK:=ay (HC.o wr b)
   clear HC
   go_wp2_with fail;refine(WK.o).mono ?_
   rintro e t ⟨rfl,hy,hn⟩
   by_cases A:er=0
   ·subst A
    obtain⟨V,z⟩:=hy rfl;have X:=HM.o rfl;have WL:=z.size;have B:¬Gr G wr t c:=λh=>h.elim U9 (λh=>by omega)
    have y:∀k,G k->k<w.heap.size:=λk h=>U_.o k (Rf.o k h)
    have p:∀k,w.heap.size<=k->k<wr.heap.size->¬Gr G wr t k:=λk Y s h=>h.elim (λh=>by have:=y k h;omega) (λh=>by omega)
    have Bc:=ay ((z.block c aa U9).trans (HB.o.keep b))
    have Q:t.cell? ⟨c,0,none⟩=some (.int .i64 m):=gN.cell Bc.o 0;have u:t.cell? ⟨c,1,none⟩=some (.pointer (some ⟨g,0,none⟩)):=gN.cell Bc.o 1;have K0:=ay Q;have K1:=ay u;have hc2:c<t.heap.size:=aa
    have S2:=ay V;have T2:=ay z;have R:Hid (gN t (w.heap.size+1) 418 #[.int .i64 (jY l),.int .i64 (jY l2)]):=ay ((z.block _ aa (λh=>by have:=y _ h;omega)).trans I.o)
    have S:Hid (gN t (w.heap.size+1+1) 419 #[.int .u64 f,.int .u64 f2]):=ay ((z.block _ aa (λh=>by have:=y _ h;omega)).trans P.o)
    have L:=ay X;have Vd:=ay p;clear Q u V z hy hn O I P X p y
    go_upto_region 14 with fail;have Z:=ay (λ(y:World) (z:(Touch (Gr G wr t) t) y)=>(aF ((ik z 0 hc2 B).trans K0.o) ((ik z 1 hc2 B).trans K1.o)))
    refine i' (Touch (Gr G wr t) t) (gW 0 8 (ib 8 (gW 9 1 []))) ((Touch.refl _ _).drew) ?_
    iterate 8 refine hC ?_
    refine iy λK hK=>?_
    go_simp;refine(MN m t.drew ((jl _ _).keep S2.o (aC _ _).drew) L.o aa  aa).mono ?_
    rintro e C ⟨rfl,z,y⟩;have T3:Touch (Gr G wr t) t C:=yE (aC _ _).drew y;have i:=ay z;have Ve:=ay T3;clear z y;refine hK _ _ (T3) ?_
    clear hK K;refine hC ?_
    refine gM ?_
    have V:=pW (m:=m) aa L.o.iJ L.o.pos
    have hD1:(gV m M).2<=4611686018427387904:=by
     have e:tot M=tot (M.take (ao M - m))+tot (M.drop (ao M - m)):=by rw[<-gY,bK]
     have s:=gP (l:=M.drop (ao M - m)) (λp U=>L.o.pos p (cu U))
     have E:=L.o.tot;show tot (M.take (ao M - m))<=_
     omega
    have hD0:=V.2.2.2.2;have WM:=V.2.2.2.1;have W:Hid (kZ m (l,f) (l2,f2) M=((gV m M).1,(gV m M).2+ij f l (gV m M).1+ij f2 l2 (gV m M).1)):=ay rfl;obtain⟨z,X⟩:=au ((gV m M).1);obtain⟨D,u⟩:=au ((gV m M).2);rw[X] at W i WM;rw[u] at W hD0 hD1 |-;clear V X u;have y:=Ve.o;have hz3:=y.size;have Vf:=ay ((y.block c hc2 B).trans Bc.o);have WN:=ay ((y.block _ R.o.lt (Vd.o _ aa  aa)).trans R.o)
    have WO:=ay ((y.block _ S.o.lt (Vd.o _ aa  aa)).trans S.o)
    have C4:=ay (first_any C (show Mm C c m z f from⟨g,_,Vf.o,i.o⟩) aa)
    clear y
    go_wp2_with fail;refine(C4.o).mono ?_
    rintro e X ⟨rfl,V⟩;have I4:=V.size;have y:gN X c 285 #[.int .i64 m,.pointer (some ⟨g,0,none⟩),.int .u64 f]:=gN.keep Vf.o V;have T:gN X (w.heap.size+1) 418 #[.int .i64 (jY l),.int .i64 (jY l2)]:=gN.keep WN.o V;have u:gN X (w.heap.size+1+1) 419 #[.int .u64 f,.int .u64 f2]:=gN.keep WO.o V;have a0:=T.k0;have a1:=T.k1;have b0:=u.k0;have b1:=u.k1;have J:=y.k2;have f2':=y.frozen 2;have i0:∀w,(Instr.index 419 (.agg #[.int .u64 f,.int .u64 f2]) (.int .i64 0)).run prog w=.ok (.int .u64 f) w:=λ_=>by kernel_rfl
    have i1:∀w,(Instr.index 419 (.agg #[.int .u64 f,.int .u64 f2]) (.int .i64 1)).run prog w=.ok (.int .u64 f2) w:=λ_=>by kernel_rfl
    have S4:=ay ((jl _ _).keep i.o V);have WQ:=ay y;clear y T u
    go_wp2
    go_loopg [13,64] 2 (λq y x u=>(∃j:Nat,q=2 - j/\j<=2/\x=.int .i64 j/\y=.int .u64 (D+(if 1<=j then ij f l z else 0)+(if 2<=j then ij f2 l2 z else 0)))/\X=u)
    exact⟨⟨0,rfl,aa,rfl,ad⟩,rfl⟩
    case round=>
     obtain⟨⟨j,H,hj,rfl,rfl⟩,rfl⟩:=hrel;have d:=ay H;clear H;have hjc:j=0\/j=1\/j=2:=aa
     rcases hjc with rfl|rfl|rfl
     ·have y:(D+(if 1<=0 then ij f l z else 0)+(if 2<=0 then ij f2 l2 z else 0))=D:=ad
      have a:Hid ((D+(if 1<=1 then ij f l z else 0)+(if 2<=1 then ij f2 l2 z else 0))=D+ij f l z):=ay ad
      rw[y];clear y
      by_cases Y:0<f
      ·by_cases s:jY l=jY z
       ·have r:Hid (ij f l z=f):=ay (aH ⟨Y,s⟩)
        have E:(jY l == jY z)=true:=by simp[s]
        rw[s] at a0
        go_wp2
        go_roundg 1
        exact⟨⟨1,rfl,aa,rfl,by rw[a.o,r.o]⟩,rfl⟩
        have:=d.o;omega
       ·have r:Hid (ij f l z=0):=ay (aG (λh=>s h.2))
        have E:(jY l == jY z)=false:=b9.2 s
        go_wp2
        go_roundg 1
        exact⟨⟨1,rfl,aa,rfl,by rw[a.o,r.o,dJ]⟩,rfl⟩
        have:=d.o;omega
      ·have r:Hid (ij f l z=0):=ay (aG (λh=>Y h.1))
       go_wp2
       go_roundg 1
       exact⟨⟨1,rfl,aa,rfl,by rw[a.o,r.o,dJ]⟩,rfl⟩
       have:=d.o;omega
     ·have y:(D+(if 1<=1 then ij f l z else 0)+(if 2<=1 then ij f2 l2 z else 0))=(D+ij f l z):=ad
      have a:Hid ((D+(if 1<=2 then ij f l z else 0)+(if 2<=2 then ij f2 l2 z else 0))=(D+ij f l z)+ij f2 l2 z):=ay ad
      rw[y];clear y;have hf:=Ah f0 n l z;generalize ij f l z=u at *
      by_cases Y:0<f2
      ·by_cases s:jY l2=jY z
       ·have r:Hid (ij f2 l2 z=f2):=ay (aH ⟨Y,s⟩)
        have E:(jY l2 == jY z)=true:=by simp[s]
        rw[s] at a1
        go_wp2
        go_roundg 0
        exact⟨⟨2,rfl,aa,rfl,by rw[a.o,r.o]⟩,rfl⟩
        have:=d.o;omega
       ·have r:Hid (ij f2 l2 z=0):=ay (aG (λh=>s h.2))
        have E:(jY l2 == jY z)=false:=b9.2 s
        go_wp2
        go_roundg 0
        exact⟨⟨2,rfl,aa,rfl,by rw[a.o,r.o,dJ]⟩,rfl⟩
        have:=d.o;omega
      ·have r:Hid (ij f2 l2 z=0):=ay (aG (λh=>Y h.1))
       go_wp2
       go_roundg 0
       exact⟨⟨2,rfl,aa,rfl,by rw[a.o,r.o,dJ]⟩,rfl⟩
       have:=d.o;omega
     ·have y:(D+(if 1<=2 then ij f l z else 0)+(if 2<=2 then ij f2 l2 z else 0))=D+ij f l z+ij f2 l2 z:=ad
      rw[y];clear y;have hf:=Ah f0 n l z;have WR:Hid (uO c m F 0 (kZ m (l,f) (l2,f2) M) w=uO c m F 0 (z,D+ij f l z+ij f2 l2 z) w):=ay (by rw[W.o])
      generalize ij f l z=u at *;generalize ij f2 l2 z=v at *
      go_wp2
      go_ret;rw[WR.o];have T:Touch G w X:=(yE b (Wy T2.o Ve.o)).trans (Touch.of_below (F:=G) V (aD _)) (λ_ h=>.inl h)
      have q:=(T.mono (G:=F) Rf.o).setCell (p:=⟨c,2,none⟩) (.inl hFc) (.int .u64 (D+u+v));have x:¬Gr (Gr G wr t) t.drew C c:=λh=>h.elim B (λh=>by have:=h.1;simp at this;omega)
      refine⟨rfl,λ_=>⟨⟨g,_,WQ.o.gR 2 (.int .u64 (D+u+v)),(jl g z).stay S4.o (λk y=>bl _ _ _ k (λe=>x (by rw[<-show k=c from e];exact y))) ad,.inl hFc,x,λk y=>?_,ke U_.o q.size⟩,q⟩,λh=>absurd rfl h⟩
      have p:(X.setCell ⟨c,2,none⟩ (.int .u64 (D+u+v))).heap.size=X.heap.size:=ad
      rcases y with(y|y)|y
      ·exact .inl (Rf.o k y)
      ·exact .inr ⟨by omega,aa⟩
      ·have Y:=y.1
       simp at Y
       exact .inr ⟨by omega,by have:=y.2;omega⟩
   ·have z:=b.trans ((hn A).mono hz)
    have y:(er != 0)=true:=by simpa using A
    clear hy hn
    go_wp2
    go_ret;exact⟨rfl,λh=>absurd h A,λ_=>z⟩
def JQ{r:Nat}(W:World)(u:gN W c 285 #[.int .i64 m,.pointer (some ⟨g,0,none⟩),.int .u64 f])(Y:ln g l G W)(ok:pn l)(V:0<=n)(F:n<18446744073709551616)(N:ao l<100000)
 (t:W.cell? ⟨p,0,none⟩=some (.pointer (some ⟨c,0,none⟩))) (s:W.cell? ⟨q,0,none⟩=some (.int .i64 k)) (d:W.cell? ⟨r,0,none⟩=some (.int .u64 n)) (T:¬G p) (S:¬G q) (R:¬G r) (U:¬G c) :
 ar Oe 284 #[.pointer (some ⟨p,0,none⟩),.pointer (some ⟨q,0,none⟩),.pointer (some ⟨r,0,none⟩)] W (Re g (hO k n l) G (jm l k n) W):=by
 have b:=u.k1;have L:=bV _ _ t;have J:=bV _ _ s;have I:=bV _ _ d;have O:=u.lt;have X:=ay (aF t (aF s (aF d b)));have C:Hid (∀y,aq W y->ar Oe 285 #[.pointer (some ⟨g,0,none⟩),.int .i64 k,.int .u64 n] y (Re g (hO k n l) G (jm l k n) y)):=ay (λy P=>by
  have h:=(jl g l).keep Y P
  by_cases z:jm l k n=0
  ·rw[z]
   exact(JP k n y h ok V z N).mono λe a ⟨x,v,Q⟩=>⟨x,λ_=>⟨v,Q⟩,λh=>absurd rfl h⟩
  ·exact(MM k n y h ok V F z).mono λe a ⟨x,v⟩=>⟨x,λh=>absurd h z,λ_=>by subst v;exact aC _ _⟩)
 clear t s d b u Y ok;generalize hO k n l=M at *;generalize jm l k n=t at *
 go_in
 go_wp2_with fail;have Z:=ay (λ(a:World) (y:(Touch G W) a)=>(aF ((ik y 0 L T).trans X.o.1) (aF ((ik y 0 J S).trans X.o.2.1) (aF ((ik y 0 I R).trans X.o.2.2.1) ((ik y 1 O U).trans X.o.2.2.2)))))
 refine i' (Touch G W) (gW 0 6 (ib 6 (gW 7 1 []))) ((Touch.refl _ _).drew) ?_
 iterate 6 refine hC ?_
 refine iy λK v=>?_
 go_simp;refine(C.o W.drew (aC _ _).drew).mono ?_
 rintro e s ⟨rfl,x,y⟩;have H:=ay (aF x y);have u:Touch G W s:=(by by_cases z:t=0;exact yE (aC _ _).drew (x z).2;exact Touch.of_below ((aC _ _).drew.trans (y z)) (aD _))
 clear x y;refine v _ _ (u) ?_
 clear v K;refine hC ?_
 refine gM ?_
 go_wp2
 go_ret;exact⟨rfl,λh=>⟨(H.o.1 h).1,yE (aC _ _).drew (H.o.1 h).2⟩,λh=>(aC _ _).drew.trans (H.o.2 h)⟩
def MR(ok:pn l)(u:0<m):pn (gV m l).1:=by
 obtain⟨y,x,v,t,s⟩:=pW u ok.iJ ok.pos;refine⟨y,x,λp z=>?_,by rw[v];exact ok.tot,?_⟩
 ·unfold gV at z
  cases hd:l.drop (ao l - m) with
  | nil=>rw[hd] at z;simp[bump] at z
  | cons q r=>
   rw[hd] at z
   rcases aS.1 z with rfl|z
   ·exact ok.key q (cu (i:=ao l - m) (by rw[hd];exact aK ..))
   ·exact ok.key p (cu (i:=ao l - m) (by rw[hd];exact aP _ z))
 ·have:=ok.len
  unfold gV;rw[bump_length,aZ];omega
def JR(w:World)(h:tj c m l f F w)(ok:pn l)(J:ao l<=m)(M:2<=m)(L:m<=4096)(S:0<=f)(R:f<=4611686018427387904)(a:0<=n)(K:n<18446744073709551616) :
 ar Oe 211 #[.pointer (some ⟨c,0,none⟩),.int .i64 k,.int .u64 n] w (uO c m F (jm l k n) (kZ m (l,f) ([],0) (hO k n l)) w):=by
 have Q:=h;obtain⟨g,G,u,r,N,d,t,v⟩:=Q;have z:aq w (((w.alloc (.cells #[.pointer (some ⟨c,0,none⟩)] 208)).alloc (.cells #[.int .i64 k] 3)).alloc (.cells #[.int .u64 n] 36)):=bw;have Y:(((w.alloc (.cells #[.pointer (some ⟨c,0,none⟩)] 208)).alloc (.cells #[.int .i64 k] 3)).alloc (.cells #[.int .u64 n] 36)).cell? ⟨w.heap.size,0,none⟩=some (.pointer (some ⟨c,0,none⟩)):=(((gN.new w 208 #[.pointer (some ⟨c,0,none⟩)]).alloc _).alloc _).cell 0;have X:(((w.alloc (.cells #[.pointer (some ⟨c,0,none⟩)] 208)).alloc (.cells #[.int .i64 k] 3)).alloc (.cells #[.int .u64 n] 36)).cell? ⟨w.heap.size+1,0,none⟩=some (.int .i64 k):=by
  have:=((gN.new (w.alloc (.cells #[.pointer (some ⟨c,0,none⟩)] 208)) 3 #[.int .i64 k]).alloc (.cells #[.int .u64 n] 36)).cell 0
  rwa [aI] at this
 have V:(((w.alloc (.cells #[.pointer (some ⟨c,0,none⟩)] 208)).alloc (.cells #[.int .i64 k] 3)).alloc (.cells #[.int .u64 n] 36)).cell? ⟨w.heap.size+1+1,0,none⟩=some (.int .u64 n):=by
  have:=(gN.new ((w.alloc (.cells #[.pointer (some ⟨c,0,none⟩)] 208)).alloc (.cells #[.int .i64 k] 3)) 36 #[.int .u64 n]).cell 0
  rwa [aI,aI] at this
 have b:(((w.alloc (.cells #[.pointer (some ⟨c,0,none⟩)] 208)).alloc (.cells #[.int .i64 k] 3)).alloc (.cells #[.int .u64 n] 36)).heap.size=w.heap.size+1+1+1:=ad
 have U:Hid (∀e x,uO c m F (jm l k n) (kZ m (l,f) ([],0) (hO k n l)) (((w.alloc (.cells #[.pointer (some ⟨c,0,none⟩)] 208)).alloc (.cells #[.int .i64 k] 3)).alloc (.cells #[.int .u64 n] 36)) e x->uO c m F (jm l k n) (kZ m (l,f) ([],0) (hO k n l)) w e x):=ay (λe x ⟨p,T,P⟩=>⟨p,λy=>by
  obtain⟨O,s⟩:=T y;refine⟨(kp _ _ _ _).more O (λk q=>q.imp id (λh=>⟨by rw[b] at h;omega,h.2⟩)) (ke v (by have:=s.size;omega)),yE z s⟩,λy=>z.trans ((P y).mono z.size)⟩)
 have C:Hid (ar Oe 256 #[.pointer (some ⟨c,0,none⟩),.func (.func 284) #[] #[.pointer (some ⟨w.heap.size,0,none⟩),.pointer (some ⟨w.heap.size+1,0,none⟩),.pointer (some ⟨w.heap.size+1+1,0,none⟩)],.pointer none] (((w.alloc (.cells #[.pointer (some ⟨c,0,none⟩)] 208)).alloc (.cells #[.int .i64 k] 3)).alloc (.cells #[.int .u64 n] 36)) (uO c m F (jm l k n) (kZ m (l,f) ([],0) (hO k n l)) (((w.alloc (.cells #[.pointer (some ⟨c,0,none⟩)] 208)).alloc (.cells #[.int .i64 k] 3)).alloc (.cells #[.int .u64 n] 36)))):=by
  generalize ((w.alloc (.cells #[.pointer (some ⟨c,0,none⟩)] 208)).alloc (.cells #[.int .i64 k] 3)).alloc (.cells #[.int .u64 n] 36)=T at *;have s:∀k,G k->k<w.heap.size:=λk h=>v k (t k h)
  refine ay (s5 (op:=none) 284 _ T (u.keep z) ((jl g l).keep r z) N d t (λk q=>aR (v k q) z.size) ⟨rfl,rfl⟩ S R aa  aa  aa ad M L (λy=>JO ok y a aa) (λ_ _=>rfl) (λW y=>?_))
  have q:=z.trans (y.mono z.size);exact JQ W (u.keep q) ((jl g l).keep r q) ok a K aa ((y.cell (p:=⟨w.heap.size,0,none⟩) (by show w.heap.size<_;omega)).trans Y) ((y.cell (p:=⟨w.heap.size+1,0,none⟩) (by show w.heap.size+1<_;omega)).trans X) ((y.cell (p:=⟨w.heap.size+1+1,0,none⟩) (by show w.heap.size+1+1<_;omega)).trans V)
   (λh=>by have:=s _ h;omega) (λh=>by have:=s _ h;omega) (λh=>by have:=s _ h;omega) d
 clear h u r ok v t Y X V z b
 go_in
 go_wp2_with fail;refine(C.o).mono ?_
 intro e x h;have z:=U.o e x h;obtain⟨rfl,_⟩:=h;have y:=ay z;clear z
 go_wp2
 go_ret;exact y.o
def iN(l l2:List Pr):Int:=if 4611686018427387904<tot l+tot l2 then 6 else 0
def GK{h:Nat}{G2:Ft}(W:World)(u:gN W c 285 #[.int .i64 m,.pointer (some ⟨g,0,none⟩),.int .u64 f])(V:ln g l G W)(t:gN W o 285 #[.int .i64 m2,.pointer (some ⟨h,0,none⟩),.int .u64 f2])(U:ln h l2 G2 W)
 (ok:pn l) (a:pn l2) (L:ao l+ao l2<=100000) (s:W.cell? ⟨p,0,none⟩=some (.pointer (some ⟨c,0,none⟩))) (r:W.cell? ⟨q,0,none⟩=some (.pointer (some ⟨o,0,none⟩))) (Q:¬G p) (P:¬G q) (S:¬G c) (R:¬G o) :
 ar Oe 257 #[.pointer (some ⟨p,0,none⟩),.pointer (some ⟨q,0,none⟩)] W (Re g (hX l l2) G (iN l l2) W):=by
 have d:=u.k1;have b:=t.k1;have I:=bV _ _ s;have F:=bV _ _ r;have N:=u.lt;have J:=t.lt;have X:=ay (aF s (aF r (aF d b)));have C:Hid (∀z,aq W z->ar Oe 258 #[.pointer (some ⟨g,0,none⟩),.pointer (some ⟨h,0,none⟩)] z (Re g (hX l l2) G (iN l l2) z)):=ay (λz T=>by
  have y:=(jl g l).keep V T;have x:=(jl h l2).keep U T;unfold iN
  by_cases v:4611686018427387904<tot l+tot l2
  ·rw[aH v]
   exact(CQ z y x ok a v).mono λe Y ⟨y,n,x⟩=>⟨y,λh=>absurd h ab,λ_=>by subst x;exact below_drewN (aC _ _) _⟩
  ·rw[aG v]
   exact(GJ z y x ok a aa L).mono λe Y ⟨y,x,O⟩=>⟨y,λ_=>⟨x,O⟩,λh=>absurd rfl h⟩)
 clear s r d b u V t U ok a;generalize hX l l2=M at *;generalize iN l l2=t at *
 go_in
 go_wp2_with fail;have Z:=ay (λ(Y:World) (z:(Touch G W) Y)=>(aF ((ik z 0 I Q).trans X.o.1) (aF ((ik z 0 F P).trans X.o.2.1) (aF ((ik z 1 N S).trans X.o.2.2.1) ((ik z 1 J R).trans X.o.2.2.2)))))
 refine i' (Touch G W) (gW 0 8 (ib 8 (gW 9 1 []))) ((Touch.refl _ _).drew) ?_
 iterate 8 refine hC ?_
 refine iy λK x=>?_
 go_simp;refine(C.o W.drew (aC _ _).drew).mono ?_
 rintro e s ⟨rfl,y,z⟩;have H:=ay (aF y z);have u:Touch G W s:=(by by_cases v:t=0;exact yE (aC _ _).drew (y v).2;exact Touch.of_below ((aC _ _).drew.trans (z v)) (aD _))
 clear y z;refine x _ _ (u) ?_
 clear x K;refine hC ?_
 refine gM ?_
 go_wp2
 go_ret;exact⟨rfl,λh=>⟨(H.o.1 h).1,yE (aC _ _).drew (H.o.1 h).2⟩,λh=>(aC _ _).drew.trans (H.o.2 h)⟩
def GL(w:World)(h:tj c m l f F w)(x:Mm w o m2 l2 f2)(ok:pn l)(b:pn l2)(hl:ao l<=m)(hl2:ao l2<=4096)(j:2<=m)(i:m<=4096)(N:0<=f)(M:f<=4611686018427387904)(L:0<=f2)(K:f2<=4611686018427387904)(ho:¬F o\/o=c)(hm2:m2<=4096) :
 ar Oe 172 #[.pointer (some ⟨c,0,none⟩),.pointer (some ⟨o,0,none⟩)] w (uO c m F (if m2=m then iN l l2 else 3) (kZ m (l,f) (l2,f2) (hX l l2)) w):=by
 have I:=h;obtain⟨g,G,v,d,B,Y,r,s⟩:=I;have H:=x;obtain⟨J,G2,t,X⟩:=H;have A:¬G o:=λQ=>ho.elim (λh=>h (r o Q)) (λe=>Y (e▸Q))
 have z:aq w ((w.alloc (.cells #[.pointer (some ⟨c,0,none⟩)] 208)).alloc (.cells #[.pointer (some ⟨o,0,none⟩)] 208)):=bw;have T:((w.alloc (.cells #[.pointer (some ⟨c,0,none⟩)] 208)).alloc (.cells #[.pointer (some ⟨o,0,none⟩)] 208)).cell? ⟨w.heap.size,0,none⟩=some (.pointer (some ⟨c,0,none⟩)):=((gN.new w 208 #[.pointer (some ⟨c,0,none⟩)]).alloc _).cell 0;have S:((w.alloc (.cells #[.pointer (some ⟨c,0,none⟩)] 208)).alloc (.cells #[.pointer (some ⟨o,0,none⟩)] 208)).cell? ⟨w.heap.size+1,0,none⟩=some (.pointer (some ⟨o,0,none⟩)):=by
  have:=(gN.new (w.alloc (.cells #[.pointer (some ⟨c,0,none⟩)] 208)) 208 #[.pointer (some ⟨o,0,none⟩)]).cell 0
  rwa [aI] at this
 have U:((w.alloc (.cells #[.pointer (some ⟨c,0,none⟩)] 208)).alloc (.cells #[.pointer (some ⟨o,0,none⟩)] 208)).heap.size=w.heap.size+1+1:=ad
 have k0:=(z.cell (p:=⟨c,0,none⟩) v.lt).trans (v.cell 0);have k2:=(z.cell (p:=⟨o,0,none⟩) t.lt).trans (t.cell 0);simp only[aA,az] at k0 k2
 by_cases P:m2=m
 ·subst P
  rw[aH rfl];have O:Hid (∀n e q,uO c m2 F (iN l l2) (kZ m2 (l,f) (l2,f2) (hX l l2)) ((((w.alloc (.cells #[.pointer (some ⟨c,0,none⟩)] 208)).alloc (.cells #[.pointer (some ⟨o,0,none⟩)] 208))).drewN n) e q->uO c m2 F (iN l l2) (kZ m2 (l,f) (l2,f2) (hX l l2)) w e q):=ay (λn e q ⟨a,x,R⟩=>⟨a,λu=>by
   obtain⟨E,y⟩:=x u;have D:=y.size;simp only[hN] at D;refine⟨(kp _ _ _ _).more E (λk V=>V.imp id (λh=>⟨by simp only[hN,U] at h;omega,h.2⟩)) (ke s aa),yE z (yE (below_drewN (aC _ _) n) y)⟩,λu=>z.trans ((below_drewN (aC _ _) n).trans (R u) |>.mono z.size)⟩)
  have C:Hid (∀n,ar Oe 256 #[.pointer (some ⟨c,0,none⟩),.func (.func 257) #[] #[.pointer (some ⟨w.heap.size,0,none⟩),.pointer (some ⟨w.heap.size+1,0,none⟩)],.pointer (some ⟨o,0,none⟩)] (((w.alloc (.cells #[.pointer (some ⟨c,0,none⟩)] 208)).alloc (.cells #[.pointer (some ⟨o,0,none⟩)] 208)).drewN n) (uO c m2 F (iN l l2) (kZ m2 (l,f) (l2,f2) (hX l l2)) (((w.alloc (.cells #[.pointer (some ⟨c,0,none⟩)] 208)).alloc (.cells #[.pointer (some ⟨o,0,none⟩)] 208)).drewN n))):=by
   refine ay (λn=>?_)
   generalize (w.alloc (.cells #[.pointer (some ⟨c,0,none⟩)] 208)).alloc (.cells #[.pointer (some ⟨o,0,none⟩)] 208)=a at *;have y:=below_drewN z n;have R:∀k,G k->k<w.heap.size:=λk h=>s k (r k h)
   refine s5 (op:=some o) 257 _ (a.drewN n) (v.keep y) ((jl g l).keep d y) B Y r (λk V=>aR (s k V) y.size) ⟨m2,x.keep y⟩ N M L K aa  aa j i (λu=>?_) (λ_ _=>rfl) (λW V=>?_)
   ·unfold iN at u
    split at u
    ·omega
    ·exact MP ok b aa  aa
   ·have u:=y.trans (V.mono y.size)
    exact GK W (v.keep u) ((jl g l).keep d u) (t.keep u) ((jl J l2).keep X u) ok b aa ((V.cell (p:=⟨w.heap.size,0,none⟩) (by show w.heap.size<a.heap.size;omega)).trans T) ((V.cell (p:=⟨w.heap.size+1,0,none⟩) (by show w.heap.size+1<a.heap.size;omega)).trans S)
     (λh=>by have:=R _ h;omega) (λh=>by have:=R _ h;omega) Y A
  clear h x v d t X ok b s r T S z U;have a:((m2:Int) != (m2:Int))=false:=ad
  go_in
  go_wp2_with fail
  go_quiet (fail)
  go_wp2_with fail;refine(C.o _).mono ?_
  intro e q h;have y:=O.o _ e q h;obtain⟨rfl,_⟩:=h;have u:=ay y;clear y
  go_wp2
  go_ret;exact u.o
 ·rw[aG P]
  have a:((m2:Int) != (m:Int))=true:=af
  clear h x v d t X ok b s r T S U
  go_in
  go_wp2_with fail
  go_quiet (fail)
  go_wp2
  go_ret;exact⟨rfl,λh=>absurd h ab,λ_=>below_drewN z _⟩
def iV(z:iu l)(j:Nat):0<=tot (l.take j)/\tot (l.take j)<=tot l:=by
 have e:tot l=tot (l.take j)+tot (l.drop j):=by rw[<-gY,bK]
 have y:=gP (l:=l.take j) (λp h=>z p (cB h))
 have x:=gP (l:=l.drop j) (λp h=>z p (cu h))
 omega
def hQ{j:Nat}(z:j<ao l):tot (l.take (j+1))=tot (l.take j)+l[j].2:=by rw[aM z,gY];simp
def lN(v:Value)(l:List Pr)(w:World)(h:iA il w v l)(x:iu l)(T:tot l<=9223372036854775807)(U:ao l<=1000000000) :
 ar Oe 59 #[v] w λe d=>e=.returned (.int .u64 (tot l))/\w=d:=by
 obtain⟨A,c,rfl,_,_,z⟩:=h.form;have p:=ay z;have y:Hid (∀j,0<=tot (l.take j)/\tot (l.take j)<=9223372036854775807):=ay (λj=>by have:=iV x j;omega)
 clear h z x
 go_in
 go_wp2
 go_loopg [3,4] (ao l) (λq s x wr=>(∃j:Nat,q=ao l - j/\j<=ao l/\x=.int .i64 j/\s=.int .u64 (tot (l.take j)))/\w=wr)
 exact⟨⟨0,rfl,aa,rfl,rfl⟩,rfl⟩
 case round=>
  obtain⟨⟨j,z,X,rfl,rfl⟩,rfl⟩:=hrel;have q:=ay z;clear z
  by_cases t:j<ao l
  ·obtain⟨g,S,rfl,Y,b,a⟩:=j7 p.o t
   have z:=ay (hQ t);have f:=y.o j;have u:=y.o (j+1);rw[z.o] at u;have V:(j:Int)<(ao l:Int):=aa
   obtain⟨s,r⟩:=au (tot (l.take j));rw[r] at z f u |-;clear r;generalize l[j].1=x at *;generalize l[j].2=n at *
   go_wp2
   go_roundg (ao l - (j+1))
   exact⟨⟨j+1,rfl,aa,ag,by rw[z.o]⟩,rfl⟩
   have:=q.o;omega
  ·obtain rfl:j=ao l:=aa
   rw[bj (aD _)]
   go_wp2
   go_ret;exact⟨rfl,rfl⟩
def pX{k n:Int}:∀{l:List Pr} {i:Nat},(∀(t:Nat) (h:t<ao l),t<i->l[t].1<k)->hO k n l=l.take i++hO k n (l.drop i)
 | _,0,_=>by simp
 | [],i+1,_=>by simp
 | p::l,i+1,h=>by
  have z:p.1<k:=h 0 ad aa
  have y:=pX (k:=k) (n:=n) (l:=l) (i:=i) (λt x v=>h (t+1) af aa)
  rw[hO,aH z,y];simp
def kA(l:List Pr)(k n:Int)(i:Nat)(d:Bool)(out:List Pr):Prop:=if d then out++l.drop i=hO k n l else out=l.take i/\∀(t:Nat) (h:t<ao l),t<i->l[t].1<k
def kA.len{d:Bool}(h:kA l k n i d out):ao out<=ao l+1:=by
 unfold kA at h
 split at h
 ·have z:=bq List.length h
  have:=oj k n l;rw[aE] at z;omega
 ·rw[h.1,aU];omega
def kA.pass(h:kA l k n i false out)(x:i<ao l)(v:l[i].1<k):kA l k n (i+1) false (out++[l[i]]):=by
 obtain⟨z,y⟩:=h;refine⟨by rw[z,aM x],λt u s=>?_⟩
 rcases bg t i with h|h
 ·exact y t u h
 ·obtain rfl:t=i:=aa
  exact v
def kA.same(h:kA l k n i false out)(x:i<ao l)(v:l[i].1=k):kA l k n (i+1) true (out++[(k,l[i].2+n)]):=by
 obtain⟨z,y⟩:=h;show _++_=_
 rw[pX y,z,cr x,hO,aG aa,aH v];simp
def kA.hit(h:kA l k n i false out)(x:i<ao l)(v:k<l[i].1):kA l k n (i+1) true (out++[(k,n)]++[l[i]]):=by
 obtain⟨z,y⟩:=h;show _++_=_
 rw[pX y,z,cr x,hO,aG aa,aG aa];simp
def kA.rest(h:kA l k n i true out)(z:i<ao l):kA l k n (i+1) true (out++[l[i]]):=by
 have h:out++l.drop i=hO k n l:=h;rw[cr z] at h;show _++_=_
 rw[<-h];simp
def kA.fin1(h:kA l k n (ao l) true out):out=hO k n l:=by
 have h:out++l.drop (ao l)=hO k n l:=h
 simpa using h
def kA.fin0(h:kA l k n (ao l) false out):out++[(k,n)]=hO k n l:=by
 obtain⟨z,y⟩:=h;rw[pX y,z];simp[hO]
def oq(v:Value)(k n:Int)(l:List Pr)(w:World)(h:iA il w v l)(z:iu l)(n0:0<=n)(ht:tot l+n<=9223372036854775807)(hl:ao l<=1000000000) :
 ar Oe 112 #[v,.int .i64 k,.int .u64 n] w λe J=>∃y,e=.returned y/\gO il w.heap.size J y (hO k n l)/\aq w J:=by
 obtain⟨A,c,rfl,_,_,y⟩:=h.form;have H:=ay y;have I:Hid (∀(j:Nat) (h:j<ao l),0<=l[j].2/\l[j].2+n<=9223372036854775807):=ay (λj h=>by
  have x:=z _ (aX h);have u:=nm z _ (aX h);omega)
 clear h y z
 go_in
 go_wp2
 go_loopg [7,8,9] (ao l) (λq u d x wr=>∃(j:Nat) (b:Bool) (P:List Pr),q=ao l - j/\j<=ao l/\x=.int .i64 j/\d=.bool b/\Hid (kA l k n j b P)/\Hid (gO il w.heap.size wr u P)/\aq w wr)
 exact⟨0,false,[],rfl,aa,rfl,rfl,ay ⟨rfl,λt _ h=>absurd h aa⟩,ay (gO.nil_ _ _),aC _ _⟩
 case round=>
  obtain⟨j,b,P,z,hj,rfl,rfl,Y,s,f⟩:=hrel;have U:=ay z;have V:=f.size;have hol:=Y.o.len;clear z;obtain⟨W,c5,rfl,_,_,_⟩:=s.o.form
  by_cases X:j<ao l
  ·obtain⟨g,Q,rfl,R,z,y⟩:=j7 H.o X
   have i:=(f.cell (p:=⟨g,Q+j * 2,none⟩) R).trans z;have c1:=(f.cell (p:=⟨g,Q+j * 2+1,none⟩) R).trans y;have N:=ay (aF z y);clear z y;have hji:(j:Int)<(ao l:Int):=aa
   have hbd:=I.o j X;have T:Hid (l[j]=(l[j].1,l[j].2)):=ay rfl
   cases b
   ·rcases el l[j].1 k with z|z|z
    ·have r:=ay (Y.o.pass X z)
     rw[T.o] at r;have L:¬k<=l[j].1:=aa
     generalize l[j].1=x at *;generalize l[j].2=m at *
     go_wp2_with (at_builtin;refine nu pj rfl (.tmp 52) (.tmp 57) rfl (s.o.alloc _) rfl _ [(x,m)] rfl (iA.hJ (E:=il) _ (x,m) _ rfl _ rfl _ ad) af ah ?_;intro O d u y _;have a:Hid (aq w d):=ay ((f.alloc V _).grown y af (λk z=>(s.o.lt k z).1));have q:=ay u;clear u y)
     go_roundg (ao l - (j+1))
     exact⟨j+1,false,_,rfl,aa,ag,rfl,r,q,a.o⟩
     have:=U.o;omega
    ·have r:=ay (Y.o.same X z)
     have L:(l[j].1 == k)=true:=by simpa using z
     have D:k<=l[j].1:=aa
     generalize l[j].1=x at *;generalize l[j].2=m at *;clear z T
     go_wp2_with (at_builtin;refine nu pj rfl (.tmp 34) (.tmp 44) rfl (s.o.alloc _) rfl _ [(k,m+n)] rfl (iA.hJ (E:=il) _ (k,m+n) _ rfl _ rfl _ ad) af ah ?_;intro O d u y _;have a:Hid (aq w d):=ay ((f.alloc V _).grown y af (λk z=>(s.o.lt k z).1));have q:=ay u;clear u y)
     go_roundg (ao l - (j+1))
     exact⟨j+1,true,_,rfl,aa,ag,rfl,r,q,a.o⟩
     have:=U.o;omega
    ·have r:=ay (Y.o.hit X z)
     rw[T.o] at r;have L:(l[j].1 == k)=false:=b9.2 aa
     have D:k<=l[j].1:=aa
     generalize l[j].1=x at *;generalize l[j].2=m at *;have C:ao (P++[(k,n)])+1<=1099511627776:=af
     go_wp2_with (first
      | (at_builtin
         refine nu pj rfl (.tmp 46) (.tmp 50) rfl (s.o.alloc _) rfl _ [(k,n)] rfl (iA.hJ (E:=il) _ (k,n) _ rfl _ rfl _ ad) af ah ?_
         intro O d u y _;have S:aq w d:=(f.alloc V _).grown y af (λk z=>(s.o.lt k z).1)
         have M:=(S.cell (p:=⟨g,Q+j * 2,none⟩) R).trans N.o.1;have K:=(S.cell (p:=⟨g,Q+j * 2+1,none⟩) R).trans N.o.2;have B:=S.size;have q:=ay u;clear u y)
      | (at_builtin
         refine nu pj rfl (.tmp 52) (.tmp 57) rfl (q.o.alloc _) rfl _ [(x,m)] rfl (iA.hJ (E:=il) _ (x,m) _ rfl _ rfl _ ad) C ah ?_
         intro v7 o K M _;have F:aq w o:=(S.alloc B _).grown M af (λk z=>(q.o.lt k z).1)
         have G:=ay K;clear K M))
     go_roundg (ao l - (j+1))
     exact⟨j+1,true,_,rfl,aa,ag,rfl,r,G,F⟩
     have:=U.o;omega
   ·have r:=ay (Y.o.rest X)
    rw[T.o] at r;generalize l[j].1=x at *;generalize l[j].2=m at *
    go_wp2_with (at_builtin;refine nu pj rfl (.tmp 52) (.tmp 57) rfl (s.o.alloc _) rfl _ [(x,m)] rfl (iA.hJ (E:=il) _ (x,m) _ rfl _ rfl _ ad) af ah ?_;intro O d u y _;have a:Hid (aq w d):=ay ((f.alloc V _).grown y af (λk z=>(s.o.lt k z).1));have q:=ay u;clear u y)
    go_roundg (ao l - (j+1))
    exact⟨j+1,true,_,rfl,aa,ag,rfl,r,q,a.o⟩
    have:=U.o;omega
  ·obtain rfl:j=ao l:=aa
   cases b
   ·have r:=ay Y.o.fin0
    go_wp2_with (at_builtin;refine nu pj rfl (.tmp 61) (.tmp 65) rfl (s.o.alloc _) rfl _ [(k,n)] rfl (iA.hJ (E:=il) _ (k,n) _ rfl _ rfl _ ad) af ah ?_;intro O d u y _;have a:Hid (aq w d):=ay ((f.alloc V _).grown y af (λk z=>(s.o.lt k z).1));have q:=ay u;clear u y)
    go_ret;exact⟨_,rfl,by rw[<-r.o];exact q.o,a.o⟩
   ·have r:=ay Y.o.fin1
    go_wp2
    go_ret;exact⟨_,rfl,by rw[<-r.o];exact s.o,f⟩
def Rg(er:Int)(v:Value)(M:List Pr)(w:World)(e:Ending)(w':World):Prop:=∃v',e=.returned (.tuple #[v',.int .i64 er])/\(er=0->gO il w.heap.size w' v' M)/\(er≠0->v'=v)/\aq w w'
def CR(v:Value)(k n:Int)(l:List Pr)(w:World)(h:iA il w v l)(y:iu l)(a:0<=n)(U:n<18446744073709551616)(V:tot l<=4611686018427387904)(q:ao l<=1000000000) :
 ar Oe 162 #[v,.int .i64 k,.int .u64 n,.int .i64 0] w (Rg (jm l k n) v (hO k n l) w):=by
 have z:Hid (jm l k n=if n=0 then 4 else if k < -1048576\/1048576<k then 5 else if 4611686018427387904<tot l+n then 6 else 0):=ay rfl
 have u:=ay (lN v l w h y aa q)
 have T:=gP y;obtain⟨A,c,rfl,_,_,_⟩:=h.form;have s:Hid (tot l+n<=4611686018427387904->_):=ay (λx=>oq (.slice A (ao l) c) k n l w h y a aa q)
 clear h y;generalize jm l k n=y at *;generalize tot l=t at *
 by_cases x:n=0
 ·obtain rfl:y=4:=by rw[z.o,aH x]
  go_in
  go_wp2
  go_ret2
  exact⟨_,rfl,λh=>absurd h ab,λ_=>rfl,aC _ _⟩
 ·by_cases g:k < -1048576
  ·obtain rfl:y=5:=by rw[z.o,aG x,aH (.inl g)]
   go_in
   go_wp2
   go_ret2
   exact⟨_,rfl,λh=>absurd h ab,λ_=>rfl,aC _ _⟩
  ·by_cases f:1048576<k
   ·obtain rfl:y=5:=by rw[z.o,aG x,aH (.inr f)]
    go_in
    go_wp2
    go_ret2
    exact⟨_,rfl,λh=>absurd h ab,λ_=>rfl,aC _ _⟩
   ·by_cases r:4611686018427387904<t+n
    ·obtain rfl:y=6:=by rw[z.o,aG x,aG aa,aH r]
     have d:4611686018427387904 - t<n:=aa
     go_in
     go_wp2_with fail;refine(u.o).mono ?_
     rintro e X ⟨rfl,rfl⟩
     go_wp2
     go_ret2
     exact⟨_,rfl,λh=>absurd h ab,λ_=>rfl,aC _ _⟩
    ·obtain rfl:y=0:=by rw[z.o,aG x,aG aa,aG r]
     have d:¬4611686018427387904 - t<n:=aa
     have p:=ay (s.o aa)
     clear s
     go_in
     go_wp2_with fail;refine(u.o).mono ?_
     rintro e X ⟨rfl,rfl⟩
     go_wp2_with fail;refine(p.o).mono ?_
     rintro e R ⟨S,rfl,Y,b⟩
     go_wp2
     go_ret2
     exact⟨_,rfl,λ_=>Y,λh=>absurd rfl h,b⟩
def Ph(er:Int)(v:Value)(m M:List Pr)(w:World)(e:Ending)(w':World):Prop:=∃v',e=.returned (.tuple #[v',.int .i64 er])/\(er=0->m≠[]->gO il w.heap.size w' v' M)/\(er≠0\/m=[]->v'=v)/\aq w w'
def tC:∀(b a:List Pr),ao (hX a b)<=ao a+ao b
 | [],a=>by simp[om]
 | p::b,a=>by
  have z:=tC b (hO p.1 p.2 a);have y:=(oj p.1 p.2 a).2;rw[rp];simp only[aJ];omega
def Ai(v u:Value)(l m:List Pr)(w:World)(h:iA il w v l)(y:iA il w u m)(f:iu l)(z:iu m)(ht:tot l<=4611686018427387904)(WS:tot m<=4611686018427387904)(hl:ao l+ao m<=1000000000) :
 ar Oe 113 #[v,u,.int .i64 0] w (Ph (iN l m) v m (hX l m) w):=by
 have X:=ay (lN v l w h f aa  aa)
 have V:=ay (lN u m w y z aa  aa)
 have t0:=gP f;have t1:=gP z;obtain⟨A,c,rfl,_,_,_⟩:=h.form;obtain⟨B,d,rfl,_,_,x⟩:=y.form;have E:=ay x;have o:=ay h;have Q:=ay f;have O:=ay z;clear h y x
 by_cases b:m=[]
 ·subst b
  have r:iN l []=0:=by unfold iN;rw[aG (by rw[EK];omega)]
  rw[r]
  go_in
  go_wp2
  go_ret2
  exact⟨_,rfl,λ_ h=>absurd rfl h,λ_=>rfl,aC _ _⟩
 ·have hm0:0<ao m:=eL.2 b
  have D:=ay b;have hmz:((ao m:Int) == 0)=false:=af
  by_cases Y:4611686018427387904<tot l+tot m
  ·have r:iN l m=6:=by unfold iN;rw[aH Y]
   rw[r];clear f z r b Q O;generalize tot l=t at *;generalize tot m=s at *;have i:4611686018427387904 - t<s:=aa
   go_in
   go_wp2_with fail;refine(V.o).mono ?_
   rintro e a ⟨rfl,rfl⟩
   go_wp2_with fail;refine(X.o).mono ?_
   rintro e a ⟨rfl,rfl⟩
   go_wp2
   go_ret2
   exact⟨_,rfl,λh=>absurd h ab,λ_=>rfl,aC _ _⟩
  ·have r:iN l m=0:=by unfold iN;rw[aG Y]
   rw[r];have F:Hid (∀(j:Nat) (h:j<ao m),0<=m[j].2/\tot (hX l (m.take j))+m[j].2<=4611686018427387904):=ay (λj h=>by
    have x:=z _ (aX h);have y:=(iV z (j+1)).2;rw[hQ h] at y;rw[mj];omega)
   clear f z r b;obtain⟨t,x⟩:=au (tot l);obtain⟨s,y⟩:=au (tot m);rw[x] at X t0 Y;rw[y] at V t1 Y;clear x y ht WS;have i:¬4611686018427387904 - t<s:=aa
   go_in
   go_wp2_with fail;refine(V.o).mono ?_
   rintro e a ⟨rfl,rfl⟩
   go_wp2_with fail;refine(X.o).mono ?_
   rintro e a ⟨rfl,rfl⟩
   go_wp2
   go_loopg [10,11] (ao m) (λq y x wr=>∃j:Nat,q=ao m - j/\j<=ao m/\x=.int .i64 j/\Hid (iA il wr y (hX l (m.take j)))/\Hid (0<j->gO il w.heap.size wr y (hX l (m.take j)))/\aq w wr)
   exact⟨0,rfl,aa,rfl,o,ay (λh=>absurd h aa),aC _ _⟩
   case round=>
    obtain⟨j,z,hj,rfl,L,R,y⟩:=hrel;have C:=ay z;have H:=y.size;clear z
    by_cases U:j<ao m
    ·obtain⟨g,q,rfl,J,P,M⟩:=j7 E.o U
     have T:=(y.cell (p:=⟨g,q+j * 2,none⟩) J).trans P;have N:=(y.cell (p:=⟨g,q+j * 2+1,none⟩) J).trans M;have S:=ay (aF T N);have I:g<wr.heap.size:=aa
     clear P M T N;have hji:(j:Int)<(ao m:Int):=aa
     have hjz:(0:Int)<=(j:Int):=aa
     have k:=F.o j U;have hln:=tC (m.take j) l;have P:Hid (iu (hX l (m.take j))):=ay (kJ Q.o (λp f=>O.o p (cB f)))
     have N:Hid (hO m[j].1 m[j].2 (hX l (m.take j))=hX l (m.take (j+1))):=ay (by rw[aM U,uH])
     have T:Hid (∀W,aq wr W->_):=ay (λW M=>oq _ m[j].1 m[j].2 (hX l (m.take j)) W (L.o.keep M) P.o k.1 aa (by rw[aU] at hln;omega))
     rw[N.o] at T;have M:=L.o;obtain⟨A7,c7,rfl,_,_,_⟩:=M.form;clear M N P;generalize m[j].1=x at *;generalize m[j].2=n at *
     go_upto_region 14 with fail;have Z:=ay (λ(a:World) (P:(aq wr) a)=>(aF ((P.cell (p:=⟨g,q+j * 2,none⟩) I).trans S.o.1) ((P.cell (p:=⟨g,q+j * 2+1,none⟩) I).trans S.o.2)))
     refine i' (aq wr) (gW 0 11 (ib 11 (gW 12 1 []))) ((aC _ _).drew) ?_
     iterate 11 refine hC ?_
     refine iy λK N=>?_
     go_simp;refine(T.o wr.drew (aC _ _).drew).mono ?_
     rintro e W ⟨v3,rfl,G,M⟩;have p:aq wr W:=(aC _ _).drew.trans M;have P:=ay G;clear G M;refine N _ _ (p) ?_
     clear N K;refine hC ?_
     refine gM ?_
     go_wp2
     go_roundg (ao m - (j+1))
     exact⟨j+1,rfl,aa,ag,ay P.o.rd,ay (λ_=>P.o.more (by show w.heap.size<=wr.drew.heap.size;exact H)),y.trans (p.mono H)⟩
     have:=C.o;omega
    ·obtain rfl:j=ao m:=aa
     rw[bj (aD _)] at R
     go_wp2
     go_ret2
     exact⟨_,rfl,λ_ _=>R.o hm0,λh=>absurd h (by have:=D.o;simp[this]),y⟩
def JS(v:Value)(l:List Pr)(m:Nat)(w:World)(h:iA il w v l)(a:iu l)(ht:tot l<=4611686018427387904)(hm:0<m)(hm1:m<=1000000)(hl:ao l<=1000000000) :
 ar Oe 159 #[v,.int .i64 m] w λe C=>∃z,e=.returned (.tuple #[z,.int .u64 (gV m l).2])/\iA il C z (gV m l).1/\aq w C:=by
 obtain⟨A,c,rfl,_,_,O⟩:=h.form;have J:=ay O;have i:=ay h
 by_cases hle:ao l<=m
 ·rw[lF hle]
  clear h O a
  go_in
  go_wp2
  go_ret2
  exact⟨_,rfl,i.o,aC _ _⟩
 ·have T:Hid (∀j,0<=tot (l.take j)/\tot (l.take j)<=4611686018427387904):=ay (λj=>by have:=iV a j;omega)
  obtain⟨z,g⟩:∃z,ao l=z+m:=⟨ao l - m,aa⟩
  have q:gV m l=(bump (tot (l.take z)) (l.drop z),tot (l.take z)):=by unfold gV;rw[show ao l - m=z by omega]
  have W:Hid (∀(j:Nat) (h:j<ao l),0<l[j].2/\l[j].2<=4611686018427387904):=ay (λj h=>⟨a _ (aX h),by have:=nm a _ (aX h);omega⟩)
  rw[q];obtain⟨s,d⟩:=au (tot (l.take z));have hb0:=T.o z;rw[d] at hb0 |-;have WT:=ay d;have p:ao (l.drop z)=m:=by rw[aZ];omega
  obtain⟨y,u⟩:=au (bump s (l.drop z));have r:ao y=m:=by rw[<-u,bump_length,p]
  have K:=ay r;have B:Hid (∀h:z<ao l,y.take 1=[(l[z].1,l[z].2+s)]):=ay (λh=>by
   rw[<-u,cr h];rfl)
  have o:Hid (∀k (h:z+k<ao l),0<k->y.take (k+1)=y.take k++[(l[z+k].1,l[z+k].2)]):=ay (λk h b=>by
   have f:k<ao y:=aa
   rw[aM f]
   congr 2
   have G:z<ao l:=aa
   have e:y[k]?=some l[z+k]:=by
    rw[<-u,cr G];show((l[z].1,l[z].2+s)::l.drop (z+1))[k]?=_
    obtain⟨t,rfl⟩:∃t,k=t+1:=⟨k - 1,aa⟩
    rw[aB,dD,show z+1+t=z+(t+1) by omega,aQ h]
   exact(cN.1 e).2)
  rw[u];have hlz:(ao l:Int) - (m:Int)=(z:Int):=aa
  have hzl:z+m<=ao l/\ao l<=z+m:=aa
  clear h O a q u r p d g
  go_in
  go_wp2
  go_loopg [6,7] z (λq s x wr=>(∃j:Nat,q=z - j/\j<=z/\x=.int .i64 j/\s=.int .u64 (tot (l.take j)))/\w=wr)
  exact⟨⟨0,rfl,aa,rfl,rfl⟩,rfl⟩
  case round=>
   obtain⟨⟨j,Y,G,rfl,rfl⟩,rfl⟩:=hrel;have V:=ay Y;clear Y
   by_cases hlt:j<z
   ·have r:j<ao l:=aa
    obtain⟨g,M,rfl,N,I,H⟩:=j7 J.o r;have u:=ay (hQ r);have p:=T.o j;have t:=T.o (j+1);rw[u.o] at t;have F:(j:Int)<(ao l:Int):=aa
    have b:(j:Int)<(z:Int):=aa
    obtain⟨X,d⟩:=au (tot (l.take j));rw[d] at u p t |-;clear d;generalize l[j].1=x at *;generalize l[j].2=n at *
    go_wp2
    go_roundg (z - (j+1))
    exact⟨⟨j+1,rfl,aa,ag,by rw[u.o]⟩,rfl⟩
    have:=V.o;omega
   ·obtain rfl:j=z:=aa
    rw[WT.o]
    go_wp2
    go_loopg [8,9] m (λq u x wr=>∃(k:Nat) (t:List Pr),q=m - k/\k<=m/\x=.int .i64 ((j+k:Nat):Int)/\Hid (gO il w.heap.size wr u t)/\Hid (t=y.take k)/\aq w wr)
    exact⟨0,[],rfl,aa,ad,ay (gO.nil_ _ _),ay ad,aC _ _⟩
    case round=>
     obtain⟨k,t,Y,f,rfl,u,R,q⟩:=hrel;have V:=ay Y;have D:=q.size;clear Y;obtain⟨A5,c5,rfl,_,_,_⟩:=u.o.form
     by_cases hlt:k<m
     ·have r:j+k<ao l:=aa
      obtain⟨g,M,rfl,N,b,X⟩:=j7 J.o r;have I:=(q.cell (p:=⟨g,M+(j+k) * 2,none⟩) N).trans b;have H:=(q.cell (p:=⟨g,M+(j+k) * 2+1,none⟩) N).trans X;clear b X;have F:((j+k:Nat):Int)<(ao l:Int):=aa
      have hpb:=W.o _ r;have U:ao t=k:=by rw[R.o,aU];have:=K.o;omega
      by_cases hk0:k=0
      ·subst hk0
       obtain rfl:t=[]:=aN U;have Q:=ay (B.o r);simp only[bP] at I H F hpb;generalize l[j].1=x at *;generalize l[j].2=n at *;clear U
       go_wp2_with (at_builtin;refine nu pj rfl (.tmp 55) (.tmp 57) rfl ((u.o.alloc _).alloc _) rfl _ [(x,n+s)] rfl (iA.hJ (E:=il) _ (x,n+s) _ rfl _ rfl _ ad) ad ah ?_;intro v6 L X b _;have S:Hid (aq w L):=ay (((q.alloc D _).alloc af _).grown b af (λk f=>(u.o.lt k f).1));have P:=ay X;clear X b)
       go_roundg (m - 1)
       exact⟨1,_,rfl,aa,ag,P,ay (by rw[Q.o];rfl),S.o⟩
       have:=V.o;omega
      ·have Q:=ay (o.o k r aa)
       have hl0:((ao t:Int) == 0)=false:=by rw[U];simp;omega
       have WU:ao t<=1000000:=aa
       generalize l[j+k].1=x at *;generalize l[j+k].2=n at *;clear U
       go_wp2_with (at_builtin;refine nu pj rfl (.tmp 55) (.tmp 57) rfl ((u.o.alloc _).alloc _) rfl _ [(x,n)] rfl (iA.hJ (E:=il) _ (x,n) _ rfl _ rfl _ ad) af ah ?_;intro v6 L X b _;have S:Hid (aq w L):=ay (((q.alloc D _).alloc af _).grown b af (λk f=>(u.o.lt k f).1));have P:=ay X;clear X b)
       go_roundg (m - (k+1))
       exact⟨k+1,_,rfl,aa,ag,P,ay (by rw[Q.o,R.o]),S.o⟩
       have:=V.o;omega
     ·obtain rfl:k=m:=aa
      have b:¬((j+k:Nat):Int)<(ao l:Int):=aa
      have p:Hid (t=y):=ay (by rw[R.o,bj (by have:=K.o;omega)])
      go_wp2
      go_ret2
      exact⟨_,rfl,by rw[<-p.o];exact u.o.rd,q⟩
def sq(v:Value)(l:List Pr)(m:Nat)(w:World)(h:iA il w v l)(z:iu l)(r:tot l<=4611686018427387904)(t:0<m)(s:m<=1000000)(u:ao l<=1000000000) :
 ar Oe 85 #[v,.int .i64 m] w λe x=>∃y,e=.returned (.tuple #[y,.int .u64 (gV m l).2])/\iA il x y (gV m l).1/\aq w x:=by
 have C:=ay (JS v l m w h z r t s u);clear h z
 go_in
 go_wp2_with fail;refine(C.o).mono ?_
 rintro e p ⟨q,rfl,y,z⟩
 go_wp2
 go_ret2
 exact⟨_,rfl,y,z⟩
end D
end Go.Proofs.YtdicblkhpcphfaaGreat
