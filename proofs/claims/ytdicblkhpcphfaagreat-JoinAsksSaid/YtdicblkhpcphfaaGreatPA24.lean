/- Parts. No condition. -/
import Derived.Test.YtdicblkhpcphfaaGreatPA23
set_option maxRecDepth 100000
set_option maxHeartbeats 0
set_option linter.all false
namespace Go.Proofs.YtdicblkhpcphfaaGreat
open Tryz Go.RowKit Go.Lib
open _root_.List renaming length→ao
open _root_.Go renaming Calls→ar
open Tryz renaming prog→Oe
namespace K
variable{L:LL}{a g h hi i j k led lo n r:Nat}{B S l:List Int}{den num v y:Int}{w w':World}{F:Nat->Prop}{lv:Value}{vs:List Sv}{p:Int->Bool}{s:KS}{t:LL × Nat}
def cF(p:Int->Bool):Nat->LL->Nat
 | _,[]=>0
 | w,l::L=>l.countP p * w+cF p (2 * w) L
def KT(L:LL)(v:Int):Nat:=cF (λx=>decide (x<v)) 1 L
def i4(L:LL)(v:Int):Nat:=cF (λx=>decide (x<=v)) 1 L
def xF(p:Int->Bool):∀(w:Nat) (A B:LL),cF p w (A++B)=cF p w A+cF p (2 ^ ao A * w) B
 | w,[],B=>by simp[cF]
 | w,a::A,B=>by
  rw[b8,cF,xF p (2 * w) A B,cF,aJ,b_,dB,cX]
def Fu(p:Int->Bool):∀(w:Nat) (L:LL),cF p w L<=mR w L
 | w,[]=>by simp[cF,mR]
 | w,l::L=>by
  rw[cF,mR];have z:=Fu p (2 * w) L;have y:l.countP p * w<=ao l * w:=cd _ gf;omega
def mu(p:Int->Bool)(h:j<ao L):cF p 1 (L.take (j+1))=cF p 1 (L.take j)+(lvl L j).countP p * 2 ^ j:=by
 rw[aM h,xF,aU,dk aa,jX h]
 simp[cF]
def vn(p:Int->Bool)(L:LL)(j:Nat):cF p 1 (L.take j)<=wt L:=bf (Fu p 1 _) (py L j)
def cI(p:Int->Bool)(L:LL)(h i:Nat):Nat:=cF p 1 (L.take h)+((lvl L h).take i).countP p * 2 ^ h
def Fv(p:Int->Bool)(L:LL)(h:Nat):cI p L h 0=cF p 1 (L.take h):=by simp[cI]
def Fw(p:Int->Bool)(z:i<ao (lvl L h)):cI p L h (i+1)=cI p L h i+if p (lvl L h)[i] then 2 ^ h else 0:=by
 unfold cI;rw[aM z,List.countP_append,dS]
 cases hp:p (lvl L h)[i]<;>simp[hp]<;>omega
def KU(p:Int->Bool)(z:h<ao L):cI p L h (ao (lvl L h))=cF p 1 (L.take (h+1)):=by
 unfold cI;rw[bN,mu p z]
def RK(p:Int->Bool)(y:h<ao L):cI p L h i<=wt L:=by
 refine bf ?_ (vn p L (h+1))
 rw[mu p y];unfold cI;have z:((lvl L h).take i).countP p<=(lvl L h).countP p:=(List.take_sublist ..).countP_le;have:=cd (2 ^ h) z;omega
def sF{p:Int->Bool}(u:∀a b,a<=b->p b=true->p a=true):∀{l:List Int} (_:mQ l) {j:Nat} (hj:j<ao l),(p l[j]=true<->j<l.countP p)
 | y::l,hs,j,hj=>by
  have v:=aT.1 hs
  by_cases x:p y=true
  ·rw[List.countP_cons_of_pos x]
   cases j with
   | zero=>simp[x]
   | succ j=>
    have:=sF u v.2 (j:=j) (by simpa using hj)
    rw[bZ,this];omega
  ·have s:l.countP p=0:=List.countP_eq_zero.2 λz t r=>x (u y z (v.1 z t) r)
   rw[List.countP_cons_of_neg x,s];constructor
   ·intro h
    exfalso
    cases j with
    | zero=>exact x h
    | succ j=>
     have t:l[j]'(by simpa using hj)∈l:=aX _
     exact x (u y _ (v.1 _ t) h)
   ·intro h;omega
def Nw(v:Int):∀a b:Int,a<=b->decide (b<v)=true->decide (a<v)=true:=λa b z y=>by simp only[a_] at *;omega
def Nx(v:Int):∀a b:Int,a<=b->decide (b<=v)=true->decide (a<=v)=true:=λa b z y=>by simp only[a_] at *;omega
def count_le(l:List Int)(v:Int):l.countP (λx=>decide (x<v))<=l.countP (λx=>decide (x<=v)):=gq λx _ h=>by simp only[a_] at *;omega
def PY(y:mQ l)(z:j<ao l)(u:l.countP (λx=>decide (x<v))<=j):l[j]=v<->j<l.countP (λx=>decide (x<=v)):=by
 have a:=sF (Nw v) y z;have b:=sF (Nx v) y z;simp only[a_] at a b;rw[<-b];have x:¬l[j]<v:=λh=>by have:=a.1 h;omega
 omega
def _root_.Go.Proofs.YtdicblkhpcphfaaGreat.gO.bs{base:Nat}{v:Value}(h:iA ig w v l)(p:mQ l)(Y:ao l<=1000000000)(x:Int) :
 ar Oe 157 #[v,.int .i64 x] w λe f=>e=.returned (.tuple #[.int .i64 (l.countP (λy=>decide (y<x)):Nat),.bool (l.contains x)])/\∃q,f=w.drewN q:=by
 obtain⟨A,c,rfl,q,d,u⟩:=h.form;have _:=base
 cases A with
 | none=>
  have z:l=[]:=by
   rcases bh (ao l) with z|z
   ·exact aN z
   ·obtain⟨g,y,e,_⟩:=u z;cases e
  subst z;clear u h
  go_in
  go_wp2
  go_loopg [7,8,9] 0 (λ_ i j _ wr=>i=.int .i64 0/\j=.int .i64 0/\w=wr)
  exact⟨rfl,rfl,rfl⟩
  case round=>
   obtain⟨rfl,rfl,rfl⟩:=hrel
   go_wp2
   go_ret2
   exact⟨rfl,0,rfl⟩
 | some a=>
  by_cases z:0<ao l
  ·obtain⟨g,y,e,b,s⟩:=u z
   injection e with e;subst e;have r:∀j,j<ao l->w.cell? ⟨g,y+j,none⟩=some (.int .i64 (l.getD j 0)):=λj t=>by
    have:=s j t 0 ab
    rw[show y+j * ig.k+0=y+j by show y+j * 1+0=_;omega] at this
    rw[this,List.getD,aQ t];rfl
   have:=AnyG.slices_BinarySearch_int Tryz.searchN g y (ao l) c l x w (aD _) aa r (by rw[bN];exact p)
   rw[bN] at this;exact this
  ·have y:l=[]:=aN aa
   subst y;clear u h
   go_in
   go_wp2
   go_loopg [7,8,9] 0 (λ_ i j _ wr=>i=.int .i64 0/\j=.int .i64 0/\w=wr)
   exact⟨rfl,rfl,rfl⟩
   case round=>
    obtain⟨rfl,rfl,rfl⟩:=hrel
    go_wp2
    go_ret2
    exact⟨rfl,0,rfl⟩
def PZ{c:Nat}(x:c * 2 ^ h<=281474976710656):IntKind.u64.wrap ((c:Int) * 2 ^ h)=((c * 2 ^ h:Nat):Int):=by
 have y:(2:Int) ^ h=((2 ^ h:Nat):Int):=by rw[eM];rfl
 rw[y,<-fA,dt];generalize c * 2 ^ h=z at x;omega
def s_(v:Int)(w:World)(y:oy F w g k n led lv vs L)(z:jn (L,led,a)) :
 ar Oe 82 #[.pointer (some ⟨g,0,none⟩),.int .i64 v] w λe w'=>e=.returned (.tuple #[.int .u64 (KT L v:Nat),.int .u64 (i4 L v:Nat)])/\∃q,w'=w.drewN q:=by
 obtain⟨A,c,s,hc1,hc2,_⟩:=y.form;have C1:=ay y.cell1;have C:=ay y;have hlenL:=z.qj;have hcnt:=z.DD;have B:=ay z.iJ;have J:=ay (λp j=>bf (vn p L j) z.zp)
 have M:=ay (λp=>show cF p 1 (L.take (ao L))=cF p 1 L by rw[bN])
 have x:=y.cell1;clear y z;subst s
 go_in
 go_wp2_with fail;clear x
 go_loopg [6,7,8,9,10,11,12,18] (ao L) (λq z y _ _ _ _ _ i wr=>∃(j d:Nat),q=ao L - j/\j<=ao L/\z=.int .u64 ((cF (λx=>decide (x<v)) 1 (L.take j):Nat):Int)/\y=.int .u64 ((cF (λx=>decide (x<=v)) 1 (L.take j):Nat):Int)/\i=.int .i64 (j:Int)/\wr=w.drewN d)
 exact⟨0,0,aa,aa,rfl,rfl,rfl,rfl⟩
 case round=>
  obtain⟨j,d,Y,hj,rfl,rfl,rfl,rfl⟩:=hrel;have K:=ay Y;clear Y
  by_cases P:j<ao L
  ·obtain⟨gl,cc,sA,sc,s,hgl,_,_,_,S,_,y,_⟩:=C.o.at_ P
   injection s with s e2 e3;subst s;subst e3;have z:=ay (mu (λx=>decide (x<v)) P)
   have u:=ay (mu (λx=>decide (x<=v)) P)
   have f:=J.o (λx=>decide (x<v)) (j+1)
   have b:=J.o (λx=>decide (x<=v)) (j+1)
   rw[z.o] at f;rw[u.o] at b;have V:=ay (B.o j);have hlc:ao (lvl L j)<=1000000:=by have:=hD L j;omega
   obtain⟨l,I⟩:=au (lvl L j);rw[I] at S y z u f b V hlc;have N:=ay (gO.bs (base:=0) (y.rd.keep (below_drewN (aC _ _) d)) V.o aa v)
   have OL:=ay y;have Q:=count_le l v;have KM:l.countP (λx=>decide (x<=v))<=ao l:=gf
   have X:=ay (λ(i:Nat) (r:i<ao l) t=>PY (v:=v) V.o r t)
   obtain⟨p,E⟩:=au (l.countP (λx=>decide (x<v)))
   obtain⟨r,D⟩:=au (l.countP (λx=>decide (x<=v)))
   obtain⟨t1,R⟩:=au (cF (λx=>decide (x<v)) 1 (L.take j))
   obtain⟨t2,O⟩:=au (cF (λx=>decide (x<=v)) 1 (L.take j))
   rw[E] at N Q z f X;rw[D] at Q KM u b X;rw[R] at z f;rw[O] at u b;rw[R,O];have o:(w.drewN d).cell? ⟨gl,j,none⟩=_:=S;obtain⟨_,_,W,hl3,hl4,t⟩:=y.form;injection W with RL RM RN;subst RL;subst RN;have FL:=ay t;have U:=ay (PZ (c:=p) (h:=j) aa)
   have T:=ay (PZ (c:=r) (h:=j) aa)
   obtain⟨m1,H⟩:=au (p * 2 ^ j);obtain⟨m2,G⟩:=au (r * 2 ^ j);rw[H] at z f U;rw[G] at u b T;clear I y E D R O t RM S H G
   go_wp2_with fail;refine(N.o).mono ?_
   rintro e w1 ⟨rfl,q1,rfl⟩;clear o
   go_wp2
   go_loopg [12] (r - p) (λq i wr=>∃(x d:Nat),q=r - x/\p<=x/\x<=r/\i=.int .i64 (x:Int)/\wr=w.drewN d)
   exact⟨p,_,rfl,aD _,Q,rfl,by first|rfl|exact jT _ _ _⟩
   case round=>
    obtain⟨x,I,Y,H,hx2,rfl,rfl⟩:=hrel;have E:=ay Y;clear Y
    by_cases hxr:x<r
    ·have q:x<ao l:=aa
     obtain⟨R,O,S,D,t⟩:=FL.o.i64 q;subst S;have y:=(X.o x q H).2 hxr;rw[y] at t;have VC:(w.drewN I).cell? ⟨R,O+x,none⟩=_:=t;clear t y
     go_wp2
     go_roundg (r - (x+1))
     exact⟨x+1,_,rfl,aa,aa,ag,by first|rfl|exact jT _ _ _⟩
     have:=E.o;omega
    ·obtain rfl:x=r:=aa
     by_cases q:x<ao l
     ·obtain⟨R,O,S,D,t⟩:=FL.o.i64 q
      subst S;have m:¬l[x]=v:=λe=>by have:=(X.o x q H).1 e;omega
      obtain⟨y,G⟩:=au (l[x]);rw[G] at t m;have VC:(w.drewN I).cell? ⟨R,O+x,none⟩=_:=t;have o:=U.o;have i:=T.o;clear t G
      go_wp2
      go_roundg (ao L - (j+1))
      exact⟨j+1,_,rfl,aa,by rw[z.o];go_num,by rw[u.o];go_num,ag,by first|rfl|exact jT _ _ _⟩
      have:=K.o;omega
     ·have y:¬(x:Int)<(ao l:Int):=aa
      have o:=U.o;have i:=T.o
      go_wp2
      go_roundg (ao L - (j+1))
      exact⟨j+1,_,rfl,aa,by rw[z.o];go_num,by rw[u.o];go_num,ag,by first|rfl|exact jT _ _ _⟩
      have:=K.o;omega
  ·obtain rfl:j=ao L:=aa
   rw[M.o,M.o]
   go_wp2;refine an ?_
   exact⟨rfl,_,rfl⟩
def rN(v:Int)(w:World)(y:tn F w g k led lv vs L)(z:jn (L,led,a)) :
 ar Oe 88 #[.pointer (some ⟨g,0,none⟩),.int .i64 v] w λe w'=>e=.returned (.tuple #[.int .u64 (KT L v:Nat),.int .u64 (i4 L v:Nat)])/\w=w':=by
 obtain⟨A,c,b,hc1,hc2,_⟩:=y.form;have c1:=y.cell1;have o:=ay y;have hlenL:=z.qj;have hcnt:=z.DD;have M:=ay (λp h i (x:h<ao L)=>bf (RK p (i:=i) x) z.zp)
 have Q:=ay (λp=>show cF p 1 (L.take (ao L))=cF p 1 L by rw[bN])
 clear y z;subst b
 go_in
 go_wp2
 go_loopg [6,7,8,9,10] (ao L) (λq u s p i _ wr=>(∃j:Nat,q=ao L - j/\j<=ao L/\u=.int .u64 ((cF (λx=>decide (x<v)) 1 (L.take j):Nat):Int)/\s=.int .u64 ((cF (λx=>decide (x<=v)) 1 (L.take j):Nat):Int)/\p=.int .u64 ((2 ^ j:Nat):Int)/\i=.int .i64 (j:Int))/\w=wr)
 exact⟨⟨0,aa,aa,rfl,rfl,rfl,rfl⟩,rfl⟩
 case round=>
  obtain⟨⟨j,V,hj,rfl,rfl,rfl,rfl⟩,rfl⟩:=hrel;have m:=ay V;have hpb:=OD (j:=j) (by omega)
  have N:Hid (2 ^ (j+1)=2 * 2 ^ j):=ay (by rw[b_];omega)
  clear V
  by_cases X:j<ao L
  ·obtain⟨gl,cc,sA,sc,b,hgl,_,_,_,I,_,t,_⟩:=o.o.at_ X
   injection b with b e2 e3;subst b;subst e3;have G:ao (lvl L j)<=1000000:=by have:=hD L j;omega
   have n:=ay (Fv (λx=>decide (x<v)) L j)
   have W:=ay (Fv (λx=>decide (x<=v)) L j)
   have D:=ay (KU (λx=>decide (x<v)) X)
   have C:=ay (KU (λx=>decide (x<=v)) X)
   have B:=ay (λi=>M.o (λx=>decide (x<v)) j i X)
   have l:=ay (λi=>M.o (λx=>decide (x<=v)) j i X)
   have P:=ay (λ(i:Nat) (z:i<ao (lvl L j))=>Fw (λx=>decide (x<v)) z)
   have O:=ay (λ(i:Nat) (z:i<ao (lvl L j))=>Fw (λx=>decide (x<=v)) z)
   obtain⟨_,_,h,H,hl4,z⟩:=t.form;injection h with RL RM RN;subst RL;subst RN;have FL:=ay z;rw[<-n.o,<-W.o];obtain⟨p,y⟩:=au (2 ^ j);rw[y] at hpb N P O |-;clear z RM t y
   go_wp2
   go_loopg [6,7,10] (ao (lvl L j)) (λq u s i wr=>(∃t:Nat,q=ao (lvl L j) - t/\t<=ao (lvl L j)/\u=.int .u64 ((cI (λx=>decide (x<v)) L j t:Nat):Int)/\s=.int .u64 ((cI (λx=>decide (x<=v)) L j t:Nat):Int)/\i=.int .i64 (t:Int))/\w=wr)
   exact⟨⟨0,aa,aa,rfl,rfl,rfl⟩,rfl⟩
   case round=>
    obtain⟨⟨t,V,ht,rfl,rfl,rfl⟩,rfl⟩:=hrel;have U:=ay V;clear V
    by_cases S:t<ao (lvl L j)
    ·obtain⟨ga,oa,i,hga,ka⟩:=FL.o.i64 S
     subst i;have Y:=B.o (t+1);have f:=l.o (t+1);have u:=P.o t S;have s:=O.o t S;obtain⟨x,E⟩:=au ((lvl L j)[t]);rw[E] at ka u s;obtain⟨y,d⟩:=au (ao (lvl L j));rw[d] at I H S ht U G;have q:=ay d;rw[u] at Y;rw[s] at f;have r:=ay u;have z:=ay s;obtain⟨K,T⟩:=au (cI (λx=>decide (x<v)) L j t)
     obtain⟨J,R⟩:=au (cI (λx=>decide (x<=v)) L j t)
     rw[T] at Y r;rw[R] at f z;rw[T,R];clear E d u s T R
     by_cases R:x<v
     ·have T:x<=v:=aa
      rw[cz R,aH rfl] at r Y;rw[cz T,aH rfl] at z f
      go_wp2
      go_roundg (ao (lvl L j) - (t+1))
      exact⟨⟨t+1,rfl,by have:=q.o;omega,by rw[r.o];go_num,by rw[z.o];go_num,ag⟩,rfl⟩
      have:=U.o;have:=q.o;omega
     ·rw[cj R] at r Y
      simp only[dN,if_false,bP] at r Y
      by_cases T:x<=v
      ·rw[cz T,aH rfl] at z f
       go_wp2
       go_roundg (ao (lvl L j) - (t+1))
       exact⟨⟨t+1,rfl,by have:=q.o;omega,by rw[r.o],by rw[z.o];go_num,ag⟩,rfl⟩
       have:=U.o;have:=q.o;omega
      ·rw[cj T] at z f
       simp only[dN,if_false,bP] at z f
       go_wp2
       go_roundg (ao (lvl L j) - (t+1))
       exact⟨⟨t+1,rfl,by have:=q.o;omega,by rw[r.o],by rw[z.o],ag⟩,rfl⟩
       have:=U.o;have:=q.o;omega
    ·obtain rfl:t=ao (lvl L j):=aa
     rw[D.o,C.o];obtain⟨y,d⟩:=au (ao (lvl L j));rw[d] at I H G |-;clear d
     go_wp2
     go_roundg (ao L - (j+1))
     exact⟨⟨j+1,rfl,aa,rfl,rfl,by rw[N.o];go_num,ag⟩,rfl⟩
     have:=m.o;omega
  ·obtain rfl:j=ao L:=aa
   rw[Q.o,Q.o]
   go_wp2;refine an ?_
   exact⟨rfl,rfl⟩
def wD(o:Option Int)(x:Int):Option Int:=match o with|none=>some x|some y=>if x<y then some x else some y
def oM(p:Int->Bool)(o:Option Int)(x:Int):Option Int:=if p x then wD o x else o
def qk(p:Int->Bool)(l:List Int):Option Int:=l.foldl (oM p) none
def HJ(p:Int->Bool)(l:List Int)(x:Int):qk p (l++[x])=oM p (qk p l) x:=by unfold qk;rw[eo];rfl
def jJ(L:LL):List Int:=L.flatten
def P0(L:LL)(r:Nat):Int:=(qk (λx=>decide (r<=i4 L x)) (jJ L)).getD 0
def kN(L:LL)(h i:Nat):List Int:=(L.take h).flatten++(lvl L h).take i
def DF(z:i<ao (lvl L h)):kN L h (i+1)=kN L h i++[(lvl L h)[i]]:=by
 unfold kN;rw[aM z,aO]
def H4(z:h<ao L):kN L h (ao (lvl L h))=kN L (h+1) 0:=by
 unfold kN;rw[bN,aM z,jX z,dA,List.flatten_singleton,cY,bT]
def H5(L:LL):kN L (ao L) 0=jJ L:=by unfold kN jJ;simp
def Ny(r:Nat)(w:World)(Zo:r<18446744073709551616)(y:tn F w g k led lv vs L)(z:jn (L,led,a)) :
 ar Oe 77 #[.pointer (some ⟨g,0,none⟩),.int .u64 r] w λe n=>e=.returned (.int .i64 (P0 L r))/\w=n:=by
 obtain⟨A,c,Y,hc1,hc2,_⟩:=y.form;have W:=y.cell1;have J:=ay y;have hlenL:=z.qj;have hcnt:=z.DD;have N:=ay (λv=>rN v w y z)
 have G:=ay (λv=>bf (bf (Fu (λx=>decide (x<=v)) 1 L) (aD _)) z.zp)
 have M:=ay (H5 L);clear y z;subst Y
 go_in
 go_wp2
 go_loopg [5,6,7,8,9,10,11] (ao L) (λq b s i _ _ _ _ wr=>(∃j:Nat,q=ao L - j/\j<=ao L/\i=.int .i64 (j:Int)/\b=.int .i64 ((qk (λx=>decide (r<=i4 L x)) (kN L j 0)).getD 0)/\s=.bool (qk (λx=>decide (r<=i4 L x)) (kN L j 0)).isSome)/\w=wr)
 exact⟨⟨0,aa,aa,rfl,rfl,rfl⟩,rfl⟩
 case round=>
  obtain⟨⟨j,X,hj,rfl,rfl,rfl⟩,rfl⟩:=hrel;have K:=ay X;clear X
  by_cases R:j<ao L
  ·obtain⟨gl,h,sA,sc,Y,hgl,_,_,_,S,_,y,_⟩:=J.o.at_ R
   injection Y with Y e2 e3;subst Y;subst e3;have P:ao (lvl L j)<=1000000:=by have:=hD L j;omega
   obtain⟨_,_,D,Q,hl4,z⟩:=y.form;injection D with RL RM RN;subst RL;subst RN;have FL:=ay z;have I:=ay (H4 R);have H:=ay (λ(i:Nat) (v:i<ao (lvl L j))=>DF v)
   clear z RM y
   go_wp2
   go_loopg [5,6,8,9,10,11] (ao (lvl L j)) (λq b s i _ _ _ wr=>(∃t:Nat,q=ao (lvl L j) - t/\t<=ao (lvl L j)/\i=.int .i64 (t:Int)/\b=.int .i64 ((qk (λx=>decide (r<=i4 L x)) (kN L j t)).getD 0)/\s=.bool (qk (λx=>decide (r<=i4 L x)) (kN L j t)).isSome)/\w=wr)
   exact⟨⟨0,aa,aa,rfl,rfl,rfl⟩,rfl⟩
   case round=>
    obtain⟨⟨t,X,B,rfl,rfl,rfl⟩,rfl⟩:=hrel;have d:=ay X;clear X
    by_cases U:t<ao (lvl L j)
    ·obtain⟨i,oa,E,hga,m⟩:=FL.o.i64 U
     subst E;have v:=H.o t U;obtain⟨x,T⟩:=au ((lvl L j)[t]);rw[T] at m v;obtain⟨y,q⟩:=au (ao (lvl L j));rw[q] at S Q U B d P;have s:=ay q;have f:Hid (qk (λx=>decide (r<=i4 L x)) (kN L j (t+1))=oM (λx=>decide (r<=i4 L x)) (qk (λx=>decide (r<=i4 L x)) (kN L j t)) x):=ay (by rw[v,HJ])
     have p:=ay (N.o x);have l:i4 L x<=281474976710656:=G.o x;obtain⟨u,z⟩:=au (i4 L x);rw[z] at p l;obtain⟨o,V⟩:=au (qk (λx=>decide (r<=i4 L x)) (kN L j t))
     rw[V] at f |-;have b:Hid (oM (λx=>decide (r<=i4 L x)) o x=if r<=u then wD o x else o):=ay (by
      unfold oM;simp only[a_,z])
     clear T q v V z
     by_cases V:r<=u
     ·have C:(u:Int)>=(r:Int):=aa
      cases o with
      | none=>
       have v:Hid (qk (λx=>decide (r<=i4 L x)) (kN L j (t+1))=some x):=ay (by rw[f.o,b.o,aH V];rfl)
       go_wp2_with fail;refine(p.o).mono ?_
       rintro e T ⟨rfl,rfl⟩
       go_wp2
       go_roundg (ao (lvl L j) - (t+1))
       exact⟨⟨t+1,rfl,by have:=s.o;omega,ag,by rw[v.o];rfl,by rw[v.o];rfl⟩,rfl⟩
       have:=d.o;have:=s.o;omega
      | some z=>
       by_cases O:x<z
       ·have v:Hid (qk (λx=>decide (r<=i4 L x)) (kN L j (t+1))=some x):=ay (by rw[f.o,b.o,aH V];simp only[wD,aH O])
        go_wp2_with fail;refine(p.o).mono ?_
        rintro e T ⟨rfl,rfl⟩
        go_wp2
        go_roundg (ao (lvl L j) - (t+1))
        exact⟨⟨t+1,rfl,by have:=s.o;omega,ag,by rw[v.o];rfl,by rw[v.o];rfl⟩,rfl⟩
        have:=d.o;have:=s.o;omega
       ·have v:Hid (qk (λx=>decide (r<=i4 L x)) (kN L j (t+1))=some z):=ay (by rw[f.o,b.o,aH V];simp only[wD,aG O])
        go_wp2_with fail;refine(p.o).mono ?_
        rintro e T ⟨rfl,rfl⟩
        go_wp2
        go_roundg (ao (lvl L j) - (t+1))
        exact⟨⟨t+1,rfl,by have:=s.o;omega,ag,by rw[v.o];rfl,by rw[v.o];rfl⟩,rfl⟩
        have:=d.o;have:=s.o;omega
     ·have C:¬(u:Int)>=(r:Int):=aa
      have v:Hid (qk (λx=>decide (r<=i4 L x)) (kN L j (t+1))=o):=ay (by rw[f.o,b.o,aG V])
      go_wp2_with fail;refine(p.o).mono ?_
      rintro e T ⟨rfl,rfl⟩
      go_wp2
      go_roundg (ao (lvl L j) - (t+1))
      exact⟨⟨t+1,rfl,by have:=s.o;omega,ag,by rw[v.o],by rw[v.o]⟩,rfl⟩
      have:=d.o;have:=s.o;omega
    ·obtain rfl:t=ao (lvl L j):=aa
     rw[I.o];obtain⟨y,q⟩:=au (ao (lvl L j));rw[q] at S Q P |-;clear q
     go_wp2
     go_roundg (ao L - (j+1))
     exact⟨⟨j+1,rfl,aa,ag,rfl,rfl⟩,rfl⟩
     have:=K.o;omega
  ·obtain rfl:j=ao L:=aa
   rw[M.o]
   go_wp2;refine an ?_
   exact⟨rfl,rfl⟩
def Bf(a d:Int):Int:=a / d+(if a % d=0 then 0 else 1)
def g9(num den n:Int):Int × Int:=if den=0\/den<num then(0,7) else if n=0 then(0,8) else(max 1 (Bf (num * n) den),0)
def DG{n:Int}(y:0<=num)(h:num<=den)(x:0<den)(z:0<=n):0<=num * n / den/\num * n / den<=n/\0<=num * n % den/\(num * n % den≠0->num * n / den<n):=by
 have v:0<=num * n:=cG y z;have t:num * n<=den * n:=bF h z;have u:=di (num * n) (show den≠0 by omega)
 have s:=cC (num * n) den;refine⟨cP v aa,?_,u,λr=>?_⟩
 ·refine Int.le_of_mul_le_mul_left (a:=den) ?_ x
  omega
 ·refine Int.lt_of_mul_lt_mul_left (a:=den) ?_ aa
  omega
def Bg{n:Int}(v:0<=num)(s:0<=den)(u:0<=n)(h:(g9 num den n).2=0):1<=(g9 num den n).1/\(g9 num den n).1<=n:=by
 unfold g9 at h |-
 by_cases y:den=0\/den<num
 ·rw[aH y] at h;cases h
 ·rw[aG y] at h |-
  by_cases x:n=0
  ·rw[aH x] at h;cases h
  ·rw[aG x]
   obtain⟨r,q,p,t⟩:=DG (num:=num) (den:=den) (n:=n) v aa  aa u
   unfold Bf;simp only
   by_cases z:num * n % den=0
   ·rw[aH z];omega
   ·rw[aG z];have:=t z;omega
def KV(a b d:Int)(w:World)(t:0<=a)(p:a<=d)(s:0<=b)(U:b<18446744073709551615)(r:0<d)(g:d<18446744073709551616) :
 ar Oe 306 #[.int .u64 a,.int .u64 b,.int .u64 d] w (aw w (.tuple #[.int .u64 (Bf (a * b) d),.int .i64 0])):=by
 obtain⟨f,c,Y,v⟩:=DG (num:=a) (den:=d) (n:=b) t p r s;have z:=ay (nX a b d w t aa s aa r g aa)
 have u:Hid (Bf (a * b) d=a * b / d+(if a * b % d=0 then 0 else 1)):=ay rfl
 obtain⟨q,x⟩:=au (a * b / d);obtain⟨m,y⟩:=au (a * b % d);rw[x,y] at z u;rw[x] at f c v;rw[y] at Y v;rw[u.o];clear x y
 by_cases y:m=0
 ·subst y
  go_in
  go_wp2_with fail;refine(z.o).mono ?_
  rintro e V ⟨rfl,x⟩
  go_wp2
  go_ret2
  exact⟨by simp,x⟩
 ·rw[aG y]
  have T:q<b:=v y
  go_in
  go_wp2_with fail;refine(z.o).mono ?_
  rintro e V ⟨rfl,x⟩
  go_wp2
  go_ret2
  exact⟨rfl,x⟩
def vo(y z n:Int)(w:World)(s:0<=y)(V7:y<18446744073709551616)(g:0<=z)(r:z<18446744073709551616)(p:0<=n)(d:n<18446744073709551615) :
 ar Oe 219 #[.int .u64 y,.int .u64 z,.int .u64 n] w (aw w (.tuple #[.int .u64 (g9 y z n).1,.int .i64 (g9 y z n).2])):=by
 unfold g9;have x:=ay (tP y z w)
 by_cases h:z=0\/z<y
 ·rw[aH h] at x |-
  clear h
  go_in
  go_wp2_with (first|(go_at_call 305;refine(x.o).mono ?_;rintro e u ⟨rfl,rfl⟩))
  all_goals (go_ret2;exact⟨rfl,bw⟩)
 ·rw[aG h] at x |-
  by_cases v:n=0
  ·rw[aH v]
   subst v;clear h
   go_in
   go_wp2_with (first|(go_at_call 305;refine(x.o).mono ?_;rintro e u ⟨rfl,rfl⟩))
   all_goals (go_ret2;exact⟨rfl,bw⟩)
  ·rw[aG v]
   have f:(n == 0)=false:=af
   have t:=ay (KV y n z w s aa p aa  aa r)
   clear h v
   go_in
   go_wp2_with (first|(go_at_call 305;refine(x.o).mono ?_;rintro e u ⟨rfl,rfl⟩))
   refine(t.o).mono ?_
   rintro e c ⟨rfl,q⟩
   go_wp2
   go_ret2
   exact⟨rfl,q⟩
def H6(num den n:Int)(w:World)(g:0<=num)(V:num<18446744073709551616)(U:0<=den)(c:den<18446744073709551616)(f:0<=n)(R:n<18446744073709551615) :
 ar Oe 72 #[.int .u64 num,.int .u64 den,.int .u64 n] w (aw w (.tuple #[.int .u64 (g9 num den n).1,.int .i64 (g9 num den n).2])):=by
 unfold g9;have z:=ay (ri num den w)
 by_cases h:den=0\/den<num
 ·rw[aH h] at z |-
  clear h
  go_in
  go_wp2_with (first|(go_at_call 141;refine(z.o).mono ?_;rintro e y ⟨rfl,rfl⟩))
  all_goals (go_ret2;exact⟨rfl,bw⟩)
 ·rw[aG h] at z |-
  by_cases t:n=0
  ·rw[aH t]
   subst t;clear h
   go_in
   go_wp2_with (first|(go_at_call 141;refine(z.o).mono ?_;rintro e y ⟨rfl,rfl⟩))
   all_goals (go_ret2;exact⟨rfl,bw⟩)
  ·rw[aG t]
   have S:(n == 0)=false:=af
   obtain⟨a,Y,X,r⟩:=DG (num:=num) (den:=den) (n:=n) g aa  aa f
   have u:=ay (lJ num n den w g aa f aa  aa c aa)
   have p:Hid (Bf (num * n) den=num * n / den+(if num * n % den=0 then 0 else 1)):=ay rfl
   obtain⟨q,v⟩:=au (num * n / den);obtain⟨m,x⟩:=au (num * n % den);rw[v,x] at u p;rw[v] at a Y r;rw[x] at X r;rw[p.o];clear v x h t
   by_cases s:m=0
   ·subst s
    by_cases b:q=0
    ·subst b
     go_in
     go_wp2_with (first|(go_at_call 141;refine(z.o).mono ?_;rintro e y ⟨rfl,rfl⟩))
     refine(u.o).mono ?_
     rintro e d ⟨rfl,v⟩
     go_wp2
     go_ret2
     exact⟨rfl,v⟩
    ·have T:(q == 0)=false:=af
     have x:max 1 (q+if (0:Int)=0 then 0 else 1)=q:=by rw[aH rfl];omega
     rw[x];clear x
     go_in
     go_wp2_with (first|(go_at_call 141;refine(z.o).mono ?_;rintro e y ⟨rfl,rfl⟩))
     refine(u.o).mono ?_
     rintro e d ⟨rfl,v⟩
     go_wp2
     go_ret2
     exact⟨rfl,v⟩
   ·rw[aG s]
    have b:q<n:=r s;have T:m > 0:=aa
    have x:max 1 (q+1)=q+1:=aa
    rw[x];clear x
    go_in
    go_wp2_with (first|(go_at_call 141;refine(z.o).mono ?_;rintro e y ⟨rfl,rfl⟩))
    refine(u.o).mono ?_
    rintro e d ⟨rfl,v⟩
    go_wp2
    go_ret2
    exact⟨rfl,v⟩
def xG(p:Int->Bool):∀(l:List Int) (o:Option Int),(∀z,o=some z->p z=true) ->
 (∀y,l.foldl (oM p) o=some y->p y=true/\(y∈l\/o=some y)/\(∀x∈l,p x=true->y<=x)/\(∀z,o=some z->y<=z))/\(l.foldl (oM p) o=none->o=none/\∀x∈l,p x=false)
 | [],o,ho=>⟨λy g=>⟨ho y g,.inr g,λx s=>absurd s ad,λz v=>by
  have g:o=some y:=g;rw[v] at g;injection g with g;omega⟩,λh=>⟨h,λx s=>absurd s ad⟩⟩
 | x::l,o,ho=>by
  have Y:∀z,oM p o x=some z->p z=true:=λz v=>by
   unfold oM at v
   by_cases s:p x=true
   ·rw[aH s] at v
    cases o with
    | none=>simp only[wD] at v;injection v with v;rw[<-v];exact s
    | some y=>
     simp only[wD] at v
     split at v
     ·injection v with v;rw[<-v];exact s
     ·exact ho z v
   ·rw[aG s] at v;exact ho z v
  have a:=xG p l (oM p o x) Y;rw[List.foldl_cons];refine⟨λy g=>?_,λh=>?_⟩
  ·obtain⟨r,t,d,q⟩:=a.1 y g
   unfold oM at t q
   by_cases s:p x=true
   ·rw[aH s] at t q
    cases o with
    | none=>
     simp only[wD] at t q;have c:=q x rfl;refine⟨r,?_,λz v f=>?_,λz v=>by cases v⟩
     ·rcases t with t|t
      ·exact .inl (aP _ t)
      ·injection t with t;exact .inl (by rw[t];exact aK ..)
     ·rcases aS.1 v with rfl|v
      ·exact c
      ·exact d z v f
    | some u=>
     simp only[wD] at t q
     by_cases b:x<u
     ·rw[aH b] at t q
      have c:=q x rfl;refine⟨r,?_,λz v f=>?_,λz v=>?_⟩
      ·rcases t with t|t
       ·exact .inl (aP _ t)
       ·injection t with t;exact .inl (by rw[t];exact aK ..)
      ·rcases aS.1 v with rfl|v
       ·exact c
       ·exact d z v f
      ·injection v with v;omega
     ·rw[aG b] at t q
      have c:=q u rfl;refine⟨r,?_,λz v f=>?_,λz v=>?_⟩
      ·rcases t with t|t
       ·exact .inl (aP _ t)
       ·exact .inr t
      ·rcases aS.1 v with rfl|v
       ·omega
       ·exact d z v f
      ·injection v with v;omega
   ·rw[aG s] at t q
    refine⟨r,?_,λz v f=>?_,q⟩
    ·rcases t with t|t
     ·exact .inl (aP _ t)
     ·exact .inr t
    ·rcases aS.1 v with rfl|v
     ·exact absurd f s
     ·exact d z v f
  ·obtain⟨r,t⟩:=a.2 h
   unfold oM at r
   by_cases s:p x=true
   ·rw[aH s] at r
    cases o with
    | none=>simp only[wD] at r;cases r
    | some u=>simp only[wD] at r;split at r<;>cases r
   ·rw[aG s] at r
    refine⟨r,λz v=>?_⟩
    rcases aS.1 v with rfl|v
    ·simpa using s
    ·exact t z v
structure RO(L:LL)(r:Nat)(y:Int):Prop where
 mem:y∈jJ L
 up:r<=i4 L y
 least:∀x∈jJ L,r<=i4 L x->y<=x
def P1(h:RO L r y):P0 L r=y:=by
 have s:=xG (λx=>decide (r<=i4 L x)) (jJ L) none (λz p=>by cases p)
 unfold P0
 cases e:qk (λx=>decide (r<=i4 L x)) (jJ L) with
 | none=>
  have:=(s.2 e).2 y h.mem;simp only[cD] at this;exact absurd h.up this
 | some z=>
  obtain⟨u,v,t,_⟩:=s.1 z e;simp only[a_] at u t;have g:=t y h.mem h.up;have q:z∈jJ L:=by
   rcases v with v|v
   ·exact v
   ·cases v
  have:=h.least z q u;show z=y
  omega
def Fx{p q:Int->Bool}(h:∀x,p x=true->q x=true):∀(w:Nat) (L:LL),cF p w L<=cF q w L
 | w,[]=>aD _
 | w,l::L=>by
  rw[cF,cF];have v:=Fx h (2 * w) L;have z:l.countP p<=l.countP q:=gq λx _ y=>h x y
  have:=cd w z;omega
def DH(L:LL){x:Int}(h:x<=y):i4 L x<=i4 L y:=Fx (λz v=>by simp only[a_] at *;omega) 1 L
def KW{p:Int->Bool}:∀(w:Nat) (L:LL),(∀x∈jJ L,p x=true)->cF p w L=mR w L
 | w,[],_=>rfl
 | w,l::L,h=>by
  rw[cF,mR,KW (2 * w) L λx z=>h x (by unfold jJ at *;rw[fQ];exact dQ _ z)]
  have:l.countP p=ao l:=List.countP_eq_length.2 λx z=>h x (by unfold jJ;rw[fQ];exact dR _ z)
  rw[this]
def H7(h:∀x∈jJ L,x<=y):i4 L y=wt L:=KW 1 L λx z=>cz (h x z)
def nd(L:LL):ao (jJ L)=cnt L:=by unfold jJ cnt;rw[List.length_flatten]
def Fz:∀(w:Nat) (L:LL),jJ L=[]->mR w L=0
 | w,[],_=>rfl
 | w,l::L,h=>by
  unfold jJ at h;rw[fQ,f_] at h;rw[mR,h.1,Fz (2 * w) L h.2];simp
def KX(n:Nat)(w:World)(X:n<=1099511627776) :
 ar Oe 311 #[.slice none 0 0,.int .i64 n] w λe f=>∃v,e=.returned v/\gO ig w.heap.size f v []/\aq w f:=by
 obtain⟨u,q,g,Y,v⟩:=cx Dl
 by_cases b:n=0
 ·subst b
  go_in
  go_wp2
  go_ret;exact⟨_,rfl,gO.nil_ _ _,bw⟩
 ·have p:(Builtin.firstCells u.size 0 (.slice none 0 0)).run prog w.drew=.ok #[] w.drew:=run_firstCells_none w.drew u.size 0 0 0
  have x:∀t,(Builtin.append_ #[196,3] t #[.slice none 0 0,.int .i64 (n:Int)]).run prog w =
   .ok (.slice (some ⟨w.heap.size,0,none⟩) n (grownCap w n 0 2)) (w.drew.alloc (.cells (([]:List Value).toArray++Builtin.zeroCells (Value.int .i64 0).cells n++Builtin.zeroCells (Value.int .i64 0).cells (grownCap w n 0 2 - n)) 2)):=λt=>by
   have h:=Lib.run_append_grow_zeros w 196 3 t 2 u _ .i64 .i64 underlying196 underlying3 q g none 0 0 [] p n aa  aa  aa  aa (by rw[v];omega) (growslice_fits aa (by rw[v];omega))
   simpa using h
  have a:n<=grownCap w n 0 2:=grownCap_ge w _ _ _;have z:grownCap w n 0 2<=maxLen:=grownCap_le_maxLen w n 0 2 (by unfold maxLen;omega)
  obtain⟨G,s⟩:=au (grownCap w n 0 2);rw[s] at x a z;obtain⟨Z,y⟩:∃Z:Array Value,(([]:List Value).toArray++Builtin.zeroCells (Value.int .i64 0).cells n++Builtin.zeroCells (Value.int .i64 0).cells (G - n))=Z:=⟨_,rfl⟩;rw[y] at x;have r:Z.size=G * 1:=by
   rw[<-y,dy,dy,size_zeroCells,size_zeroCells];simp only[Value.cells,dx,aJ,aV];omega
  have c:=ay r;have d:=ay z;clear y r s p q g Y v z
  go_in
  go_wp2_with (at_builtin;refine Lib.wpList_append_run _ rfl _ _ _ _ rfl _ _ rfl rfl _ _ (x _) ?_)
  go_ret;refine⟨_,rfl,?_,bw⟩
  exact⟨by simp[cellsE],.inr ⟨w.heap.size,G,Z,rfl,aD _,cm _ _,bB _,d.o,c.o,by simp[cellsE]⟩⟩
def xH(h:i<ao L):(L.take (i+1)).flatten=(L.take i).flatten++lvl L i:=by
 rw[aM h,dA,jX h];simp
def yU(L:LL)(i:Nat):ao (L.take i).flatten<=cnt L:=by
 rw[<-nd];unfold jJ;have h:L.flatten=(L.take i).flatten++(L.drop i).flatten:=by rw[<-dA,bK]
 rw[h,aE];omega
def DI(v:Value)(L:LL)(w:World)(h:Ht w v L)(hL:ao L<=1000)(hlen:cnt L<=1000000000) :
 ar Oe 225 #[v] w λe Q=>∃v,e=.returned v/\gO ig w.heap.size Q v (jJ L)/\aq w Q:=by
 obtain⟨m,z,u,x,y⟩:=cx Dl;have K:=ay z;have I:=ay u;have J:=ay x;have M:=ay y;clear z u x y;obtain⟨A,c,rfl,hc1,hc2⟩:=h.form;have H:=ay h;clear h
 go_in
 go_wp2
 go_loopg [3,5,11] (ao L) (λq y _ i wr=>(∃j z:Nat,q=ao L - j/\j<=ao L/\i=.int .i64 (j:Int)/\y=.int .i64 (z:Int)/\Hid (ao (L.take j).flatten=z))/\w=wr)
 exact⟨⟨0,0,rfl,aa,rfl,rfl,rfl⟩,rfl⟩
 case round=>
  obtain⟨⟨j,z,s,h,rfl,rfl,Y⟩,rfl⟩:=hrel;have p:=ay s;clear s;have hz0:z<=1000000000:=by have:=yU L j;have:=Y.o;omega
  by_cases V:j<ao L
  ·obtain⟨C,n,S,R,a,B,b,d⟩:=H.o.at_ V
   subst a;have y:Hid (ao (L.take (j+1)).flatten=z+ao (lvl L j)):=ay (by rw[xH V,aE,Y.o])
   have g:z+ao (lvl L j)<=1000000000:=by have:=yU L (j+1);have:=y.o;omega
   obtain⟨x,f⟩:=au (ao (lvl L j));rw[f] at b y g;clear d f
   go_wp2
   go_roundg (ao L - (j+1))
   exact⟨⟨j+1,z+x,rfl,aa,ag,ag,y⟩,rfl⟩
   have:=p.o;omega
  ·have Zp:j=ao L:=aa
   clear p
   go_wp2_with fail;refine(KX z w aa).mono ?_
   rintro e w1 ⟨v1,rfl,t,u⟩;have G:=ay t;have O:=ay u;clear t u
   go_wp2
   go_loopg [6,8,27] (ao L) (λq t _ i u=>∃k:Nat,q=ao L - k/\k<=ao L/\i=.int .i64 (k:Int)/\Hid (gO ig w.heap.size u t (L.take k).flatten)/\Hid (aq w u))
   exact⟨0,rfl,aa,rfl,G,O⟩
   case round=>
    obtain⟨k,s,i,rfl,u,r⟩:=hrel;have p:=ay s;have hz2:=r.o.size;clear s
    by_cases U:k<ao L
    ·obtain⟨C,n,S,R,a,B,b,d⟩:=(H.o.keep r.o).at_ U
     subst a;have q:=ay d;have y:=ay (xH U);have g:ao (L.take k).flatten+ao (lvl L k)<=1000000000:=by
      have t:=yU L (k+1);rw[y.o,aE] at t;omega
     obtain⟨l,X⟩:=au (lvl L k);rw[X] at b q y g;obtain⟨o,t⟩:=au ((L.take k).flatten);rw[t] at u y g;clear d X t;obtain⟨P,D,rfl,_,_,_⟩:=u.o.form
     go_wp2_with (at_builtin;refine g8 ig (ts:=196) m _ 8 underlying196 K.o I.o J.o M.o rfl ab  ab rfl (.tmp 31) (.tmp 32) rfl w.heap.size (.slice P (ao o) D) o rfl u.o (.slice S (ao l) R) l rfl q.o aa  aa ?_;intro v8 W T X E)
     have N:Hid (aq w W):=ay (r.o.grown X aa (λx f=>(u.o.lt x f).1))
     have F:=ay T;clear T X E
     go_wp2
     go_roundg (ao L - (k+1))
     exact⟨k+1,rfl,aa,ag,ay (by rw[y.o];exact F.o),N⟩
     have:=p.o;omega
    ·obtain rfl:k=ao L:=aa
     have t:=u.o;rw[bN] at t;have q:=ay t;clear t u
     go_wp2
     go_ret;exact⟨_,rfl,q.o,r.o⟩
def atR(L:LL)(led:Nat)(num den:Int):Int × Int × Int:=if (g9 num den (wt L)).2=0 then(P0 L (g9 num den (wt L)).1.toNat,led,0) else(0,0,(g9 num den (wt L)).2)
structure ns(S:List Int)(p:Int->Bool)(lo hi:Nat):Prop where
 le:lo<=hi
 lt:hi<ao S
 no:∀i (h:i<ao S),i<lo->p S[i]=false
 yes:p S[hi]=true
def ns.up(h:ns S p lo hi)(u:∀a b,a<=b->p a=true->p b=true)(t:mQ S)(s:lo<hi)(z:p (S[(lo+hi) / 2]'(by have:=h.lt;omega))=false):ns S p ((lo+hi) / 2+1) hi:=by
 refine⟨by omega,h.lt,λi v y=>?_,h.yes⟩
 rcases bg i ((lo+hi) / 2) with y|y
 ·cases hb:p S[i] with
  | false=>rfl
  | true=>
   have x:=bO.1 t i ((lo+hi) / 2) v (by have:=h.lt;omega) y
   rw[u _ _ x hb] at z;cases z
 ·have e:i=(lo+hi) / 2:=aa
  subst e;exact z
def ns.down(h:ns S p lo hi)(y:lo<hi)(z:p (S[(lo+hi) / 2]'(by have:=h.lt;omega))=true):ns S p lo ((lo+hi) / 2):=
 ⟨by omega,by have:=h.lt;omega,h.no,z⟩
def ns.Uf(h:ns S (λx=>decide (r<=i4 L x)) lo lo)(v:S.Perm (jJ L))(u:mQ S):RO L r (S[lo]'h.lt):=by
 refine⟨v.mem_iff.1 (aX h.lt),by have:=h.yes;simpa using this,λx z y=>?_⟩
 obtain⟨i,x,rfl⟩:=cE (v.mem_iff.2 z)
 rcases bg i lo with z|z
 ·have:=h.no i x z
  simp only[cD] at this;exact absurd y this
 ·rcases dM z with y|y
  ·subst y;exact cR _
  ·exact bO.1 u lo i h.lt x y
def Cu(num den:Int)(w:World)(u:oy F w g k n led lv vs L)(v:jn (L,led,a))(y:n=wt L)
 (a0:0<=num) (a1:num<18446744073709551616) (d0:0<=den) (d1:den<18446744073709551616) :
 ar Oe 140 #[.pointer (some ⟨g,0,none⟩),.int .u64 num,.int .u64 den] w (aw w (.tuple #[.int .i64 (atR L led num den).1,.int .u64 (atR L led num den).2.1,.int .i64 (atR L led num den).2.2])):=by
 have hwt:=v.zp;have c2:=u.cell2;have Q:=ay u;have H:=ay v;have G:=ay (vo num den n w a0 a1 d0 d1 aa  aa)
 have W:=ay (λh=>Bg (num:=num) (den:=den) (n:=n) a0 d0 aa h)
 have z:Hid (atR L led num den=if (g9 num den n).2=0 then(P0 L (g9 num den n).1.toNat,(led:Int),0) else(0,0,(g9 num den n).2)):=ay (by rw[y];rfl)
 obtain⟨r,t⟩:=au ((g9 num den n).1);obtain⟨x,O⟩:=au ((g9 num den n).2);rw[t,O] at G W z;rw[z.o];have QN:=ay y;clear u v t O z y
 by_cases C:x=0
 ·subst C
  rw[aH rfl];obtain⟨r1,r2⟩:=W.o rfl;obtain⟨q,rfl⟩:∃q:Nat,r=q:=⟨r.toNat,aa⟩
  have hlenL:=H.o.qj;have hcnt:=H.o.DD;obtain⟨A,c,Mq,hc1,hc2,_⟩:=Q.o.form;subst Mq;rw[bM]
  go_in
  go_wp2_with fail;refine(G.o).mono ?_
  rintro e w1 ⟨rfl,f⟩;have p:=(Q.o.keep f).cell1;have K:=ay f;have v:=ay (DI _ L w1 (Q.o.keep f).PV aa  aa)
  clear f c2
  go_wp2_with fail;refine(v.o).mono ?_
  rintro e w2 ⟨va,rfl,s,t⟩;have l:=ay (K.o.trans (t.mono K.o.size));have u:=ay (AQ va _ _ w2 s (by rw[nd];omega))
  obtain⟨S,z⟩:=au (((jJ L).mergeSort λx y=>decide (x<=y)))
  have E:Hid (mQ S):=ay (by rw[<-z];exact AK _)
  have R:Hid (S.Perm (jJ L)):=ay (by rw[<-z];exact fE _ _)
  have VD:Hid (ao S=cnt L):=ay (by rw[R.o.length_eq,nd])
  have VE:=ay (λk e=>(s.lt k e).1)
  rw[z] at u;obtain⟨A5,c5,rfl,_,_,_⟩:=s.form;rw[nd] at u VE |-;clear t s z p v
  go_wp2_with fail;refine(u.o).mono ?_
  rintro e M ⟨rfl,U,T⟩;have o:Hid (aq w M):=ay (l.o.trans (T.below (λi z=>by have:=VE.o i z;have:=K.o.size;omega) l.o.size))
  have Y:=Q.o.keep o.o;obtain⟨_,_,e3,h31,h32,X⟩:=U.form;injection e3 with e31 e32 e33;subst e31;subst e33;have B:=ay X;have QO:=ay (λv d=>s_ v (M.drewN d) (Y.keep (below_drewN (aC _ _) d)) H.o)
  have K3:=ay Y.u';have XR:0<ao S:=by
   rcases bh (ao S) with b|b
   ·exfalso
    have p:jJ L=[]:=aN (by rw[<-R.o.length_eq];exact b)
    have t:wt L=0:=Fz 1 L p;have:=QN.o;omega
   ·exact b
  have V:ns S (λx=>decide (q<=i4 L x)) 0 (ao S - 1):=by
   refine⟨bB _,aa,λi _ z=>absurd z aa,?_⟩
   have p:i4 L (S[ao S - 1]' aa)=wt L:=H7 λx O=>by
    obtain⟨i,z,rfl⟩:=cE (R.o.mem_iff.2 O)
    rcases dM (show i<=ao S - 1 by omega) with t|t
    ·have e:i=ao S - 1:=t
     subst e;exact cR _
    ·exact bO.1 E.o i (ao S - 1) z aa t
   simp only[a_,p];have:=QN.o;omega
  have h:=ay V;have XS:=ay (λv=>(show i4 L v<=281474976710656 from bf (Fu (λx=>decide (x<=v)) 1 L) hwt))
  have XT:Hid (∀a b:Int,a<=b->decide (q<=i4 L a)=true->decide (q<=i4 L b)=true):=ay λa b p t=>by
   have:=DH L p;simp only[a_] at *;omega
  obtain⟨N,v⟩:=au (cnt L);rw[v] at VD hcnt |-;have XU:=VD.o;rw[XU] at h;clear V U T e32 X Y v u
  go_wp2
  go_loopg [12,13,14,15,16] (N - 1) (λm i j _ _ _ wr=>∃(v z d:Nat),m=z - v/\i=.int .i64 (v:Int)/\j=.int .i64 (z:Int)/\wr=M.drewN d/\Hid (ns S (λx=>decide (q<=i4 L x)) v z))
  exact⟨0,N - 1,0,aa,rfl,ag,rfl,h⟩
  case round=>
   obtain⟨v,z,d,V,rfl,rfl,rfl,X⟩:=hrel;have j:=ay V;have p:=X.o.le;have t:=X.o.lt;clear V
   by_cases hlt:v<z
   ·have hmid:(v+z) / 2<ao S:=aa
    obtain⟨ga,s,D,hga,Y⟩:=B.o.i64 hmid;subst D;have P:=ay (X.o.up XT.o E.o hlt);have T:=ay (X.o.down hlt);obtain⟨y,U⟩:=au (S[(v+z) / 2]);rw[U] at Y P T;have J:=ay (QO.o y d);have hub:=XS.o y;obtain⟨m,V⟩:=au ((v+z) / 2);rw[V] at Y P T hmid;have Xu:((v:Int)+(z:Int)) / 2=(m:Int):=aa
    have hm1:v<=m:=aa
    have hm2:m<z:=aa
    have VC:(M.drewN d).cell? ⟨ga,s+m,none⟩=_:=Y;obtain⟨u,I⟩:=au (i4 L y);rw[I] at J P T hub;clear U Y I V
    by_cases VF:q<=u
    ·have hqi:(u:Int)>=(q:Int):=aa
     have I:=ay (T.o (cz VF))
     go_wp2_with fail;refine(J.o).mono ?_
     rintro e w4 ⟨rfl,d4,rfl⟩
     go_wp2
     go_roundg (m - v)
     exact⟨v,m,_,rfl,rfl,rfl,by first|rfl|exact jT _ _ _,I⟩
     have:=j.o;omega
    ·have hqi:¬(u:Int)>=(q:Int):=aa
     have I:=ay (P.o (cj VF))
     go_wp2_with fail;refine(J.o).mono ?_
     rintro e w4 ⟨rfl,d4,rfl⟩
     go_wp2
     go_roundg (z - (m+1))
     exact⟨m+1,z,_,rfl,ag,rfl,by first|rfl|exact jT _ _ _,I⟩
     have:=j.o;omega
   ·obtain rfl:v=z:=aa
    have u:=ay (P1 (X.o.Uf R.o E.o));obtain⟨ga,s,D,hga,Y⟩:=B.o.i64 t;subst D;obtain⟨y,U⟩:=au (S[v]);rw[U] at Y u;have P:=K3.o;have T:(v:Int)<(N:Int):=aa
    clear U
    go_wp2_with fail
    go_quiet (fail)
    go_wp2;refine an ?_
    exact⟨by rw[u.o],by have:=o.o;exact bw⟩
 ·rw[aG C]
  have z:(x == 0)=false:=by simpa using C
  go_in
  go_wp2_with fail;refine(G.o).mono ?_
  rintro e w1 ⟨rfl,f⟩
  go_wp2;refine an ?_
  exact⟨rfl,f⟩
structure Fit(k:Nat)(L:LL)(led:Nat):Prop where
 ok:jn (L,led,0)
 none:iY k L=none
def jn.G9{b:Nat}(h:jn (L,led,a)):jn (L,led,b):=⟨h.iJ,h.top,h.wt,h.cnt,h.led⟩
def Fit.pk(h:Fit k L led):jn (L,led,a):=h.ok.G9
def sG:∀(L:LL) (k:Nat),(∀j,j<ao L->ao (lvl L j)<=k)->cnt L<=ao L * k
 | [],k,_=>by simp[cnt]
 | l::L,k,h=>by
  have z:=h 0 ad
  have x:=sG L k λj y=>by
   have:=h (j+1) (by simpa using y)
   simpa[lvl] using this
  rw[lP,aJ,dS];simp only[lvl,d_] at z;omega
def Fit.cnt(h:Fit k L led)(z:2<=k)(x:k<=4096):Go.Proofs.YtdicblkhpcphfaaGreat.K.cnt L<=200704:=by
 have v:=sG L k λj y=>bf (qS h.none j y) (room_le z)
 have y:ao L * k<=49 * 4096:=cT h.ok.qj x;omega
def Fit.nil_(k:Nat):Fit k [] 0:=⟨⟨λj=>by simp[lvl],λh=>absurd h ad,ab,ab,ab⟩,rfl⟩
def oT(L:LL)(n:Nat):Int:=if n=0 then 4 else if 281474976710656<wt L+n then 6 else 0
def nN(k:Nat)(B:List Int)(v:Int)(n:Nat)(s:KS):KS:=if oT s.1 n=0 then iK k B (iU s.1 v n,s.2.1,s.2.2) else s
def iS(L M:LL):Int:=if 281474976710656<wt L+wt M then 6 else 0
def kD(k:Nat)(B:List Int)(t:LL × Nat)(s:KS):KS:=if iS s.1 t.1=0 then iK k B (jS s.1 t.1,min (s.2.1+t.2) 4611686018427387904,s.2.2) else s
def xI(h:jn s):Fit k (iK k B s).1 (iK k B s).2.1:=by
 have z:=qU (k:=k) (B:=B) (P:=jn) (λs j z y=>z.step y) h
 exact⟨jn.G9 (a:=(iK k B s).2.2) z,Di k B s⟩
def vp(s:KS):wt (iK k B s).1=wt s.1:=by
 refine qU (k:=k) (B:=B) (P:=λt=>wt t.1=wt s.1) (λt h z y=>?_) rfl
 show wt (k_ t.1 h (iB B t.2.2))=_
 rw[AM (kx y).1];exact z
def sH(h:oT L n=0):0<n/\wt L+n<=281474976710656:=by
 unfold oT at h
 by_cases z:n=0
 ·rw[aH z] at h;cases h
 ·rw[aG z] at h
  by_cases y:281474976710656<wt L+n
  ·rw[aH y] at h;cases h
  ·omega
def KY(h:Fit k s.1 s.2.1)(y:2<=k)(x:k<=4096):Fit k (nN k B v n s).1 (nN k B v n s).2.1:=by
 unfold nN
 split
 ·rename_i z
  exact xI (px h.pk v n (sH z).2 (by have:=h.cnt y x;omega))
 ·exact h
def Nz:wt (nN k B v n s).1=if oT s.1 n=0 then wt s.1+n else wt s.1:=by
 unfold nN
 split
 ·rename_i z
  rw[vp];exact yP _ _ (by have:=sH z;omega)
 ·rfl
def DJ{M:LL}(h:iS L M=0):wt L+wt M<=281474976710656:=by
 unfold iS at h
 by_cases z:281474976710656<wt L+wt M
 ·rw[aH z] at h;cases h
 ·omega
def H8(h:Fit k s.1 s.2.1)(x:Fit k t.1 t.2)(z:2<=k)(y:k<=4096):Fit k (kD k B t s).1 (kD k B t s).2.1:=by
 unfold kD
 split
 ·rename_i v
  exact xI (qc h.pk (x.pk (a:=0)) (DJ v) (by have:=h.cnt z y;have:=x.cnt z y;omega))
 ·exact h
def KZ:wt (kD k B t s).1=if iS s.1 t.1=0 then wt s.1+wt t.1 else wt s.1:=by
 unfold kD
 split
 ·rw[vp];exact rK _ _
 ·rfl
def xJ(F:Nat->Prop)(w:World)(g k:Nat)(L:LL)(led:Nat):Prop:=∃lv vs,oy F w g k (wt L) led lv vs L
def K6(F:Nat->Prop)(w:World)(g k:Nat)(L:LL)(led:Nat):Prop:=∃lv vs,tn F w g k led lv vs L
def xJ.stay(h:xJ F w g k L led)(z:∀x,F x->w'.heap[x]?=w.heap[x]?)(y:w.heap.size<=w'.heap.size):xJ F w' g k L led:=by
 obtain⟨x,v,h⟩:=h;exact⟨x,v,h.stay z y⟩
def K6.stay(h:K6 F w g k L led)(z:∀x,F x->w'.heap[x]?=w.heap[x]?)(y:w.heap.size<=w'.heap.size):K6 F w' g k L led:=by
 obtain⟨x,v,h⟩:=h;exact⟨x,v,h.stay z y⟩
def xJ.keep(h:xJ F w g k L led)(z:aq w w'):xJ F w' g k L led:=by
 obtain⟨y,x,h⟩:=h;exact⟨y,x,h.keep z⟩
end K
end Go.Proofs.YtdicblkhpcphfaaGreat
