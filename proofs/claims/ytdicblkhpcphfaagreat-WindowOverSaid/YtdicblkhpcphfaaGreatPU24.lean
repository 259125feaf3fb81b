/- Parts. -/
import Derived.Test.YtdicblkhpcphfaaGreatPU23
set_option maxRecDepth 100000
set_option maxHeartbeats 0
set_option linter.all false
namespace Go.Proofs.YtdicblkhpcphfaaGreat
open Tryz Go.RowKit Go.Lib
open _root_.List renaming length→ab0
open Go.IntKind renaming wrap→ad0
open _root_.Go renaming Calls→af4
open Tryz renaming prog→af5
namespace K
section
variable{l:List Int}{j led:Nat}{L:LL}{k:Int}
def B9(p:Option Int)(v:Int):List Int:=match p with
 | none=>zg v
 | some q=>il (v - q)
def ry:Option Int->List Int->List Int
 | _,[]=>[]
 | p,v::l=>B9 p v++ry (some v) l
def OS(l:List Int):List Int:=il (ab0 l)++ry none l
def lF:LL->List Int
 | []=>[]
 | l::L=>OS l++lF L
def zE(k:Int)(L:LL)(led:Nat):List Int:=il k++(il led++(il (ab0 L)++lF L))
def AM:Option Int->List Int->Option Int
 | p,[]=>p
 | _,v::l=>AM (some v) l
def yW(v:Int):∀(p:Option Int) (l:List Int),AM p (l++[v])=some v
 | _,[]=>rfl
 | _,x::l=>yW v (some x) l
def yX(v:Int):∀(p:Option Int) (l:List Int),ry p (l++[v])=ry p l++B9 (AM p l) v
 | p,[]=>by simp[ry,AM]
 | p,x::l=>by simp only[bG,ry,yX v (some x) l,AM,aN]
def AN(h:0<ab0 l):ry none (l.take 1)=ry none (l.take 0)++zg l[0]:=by
 have:=yX l[0] none (l.take 0);rw[<-aM h] at this;rw[this];simp[AM,B9]
def Ev(h:j+1<ab0 l):ry none (l.take (j+1+1))=ry none (l.take (j+1))++il (l[j+1] - l[j]):=by
 have:=yX l[j+1] none (l.take (j+1));rw[<-aM h] at this;rw[this,aM (show j<ab0 l by omega),yW];rfl
def wj:∀(A B:LL),lF (A++B)=lF A++lF B
 | [],B=>rfl
 | a::A,B=>by rw[bG,lF,wj A B,lF,aN]
def AO(h:j<ab0 L):lF (L.take (j+1))=lF (L.take j)++OS (lvl L j):=by
 rw[aM h,wj,kZ h];simp[lF]
def OT(p:Option Int)(v:Int):1<=ab0 (B9 p v)/\ab0 (B9 p v)<=10:=by
 unfold B9;split
 .exact hM _
 .exact hM _
def xx:∀(p:Option Int) (l:List Int),ab0 (ry p l)<=10 * ab0 l
 | _,[]=>by simp[ry]
 | p,v::l=>by
  have z:=xx (some v) l;have y:=OT p v;simp only[ry,aE,aK];omega
def Rg(l:List Int):ab0 (OS l)<=10 * ab0 l+10:=by
 have z:=xx none l;have y:=hM (ab0 l:Int);unfold OS;rw[aE];omega
def yY:∀(L:LL),ab0 (lF L)<=10 * cnt L+10 * ab0 L
 | []=>by simp[lF]
 | l::L=>by
  have z:=yY L;have y:=Rg l;rw[lF,aE,mZ,aK];omega
def sy(L:LL)(j:Nat):ab0 (lF (L.take j))<=10 * cnt L+10 * ab0 L:=by
 have y:=yY (L.take j);have z:=oh (L.take j) (L.drop j);rw[bL] at z;have x:ab0 (L.take j)<=ab0 L:=by rw[aU];omega
 omega
def JD(k:Int)(L:LL)(z:Nat):ab0 (zE k L z)<=10 * cnt L+10 * ab0 L+30:=by
 have y:=yY L;have x:=hM k;have v:=hM (z:Int);have u:=hM (ab0 L:Int);unfold zE;simp only[aE];omega
def mm(l:List Int):Prop:=∀x∈l,-9223372036854775808<=x/\x<=9223372036854775807
def OV:∀(p:Option Int) (l:List Int),mm l->(∀q,p=some q->-9223372036854775808<=q/\∀m∈l,q<=m)->pz l->jE (ry p l)
 | _,[],_,_,_=>λb t=>by simp[ry] at t
 | p,v::l,hr,hp,hs=>by
  have z:=hr v (aJ ..);have u:=aR.1 hs;simp only[ry];refine jE.append ?_ (OV (some v) l (λx y=>hr x (aQ _ y)) (λq s=>by cases s;exact⟨z.1,λx y=>u.1 x y⟩) u.2);unfold B9;cases p with
  | none=>exact jl (j9 z.1 z.2).1 (j9 z.1 z.2).2
  | some q=>have:=hp q rfl;have y:=this.2 v (aJ ..);exact jl aa  aa
def JE:∀(L:LL),(∀l∈L,mm l/\pz l/\ab0 l<18446744073709551616)->jE (lF L)
 | [],_=>λb v=>by simp[lF] at v
 | l::L,h=>by
  obtain⟨z,y,s⟩:=h l (aJ ..);rw[lF,OS];exact jE.append (jE.append (jl aa  aa) (OV none l z (λq u=>by cases u) y)) (JE L λx t=>h x (aQ _ t))
def TY(z:0<=k)(y:k<18446744073709551616)(v:led<18446744073709551616)(x:ab0 L<18446744073709551616)(h:∀l∈L,mm l/\pz l/\ab0 l<18446744073709551616):jE (zE k L led):=by
 unfold zE;exact jE.append (jl z y) (jE.append (jl aa  aa) (jE.append (jl aa  aa) (JE L h)))
def zN(m:Int)(l:List Int):Option (Int × List Int):=match hU l with
 | none=>none
 | some p=>if p.1<=m then some p else none
def Rh(p:Option Int)(n:Int):Option Int:=match p with
 | none=>some (lH n)
 | some q=>if wrap64 ((ub q+n) % 18446744073709551616)<q then none else some (wrap64 ((ub q+n) % 18446744073709551616))
def oo:Nat->List Int->List Int->Option (List Int × List Int)
 | 0,acc,l=>some (acc,l)
 | k+1,acc,l=>match hU l with
  | none=>none
  | some x=>match Rh acc.getLast? x.1 with
   | none=>none
   | some v=>oo k (acc++[v]) x.2
def vp(l:List Int):Option (List Int × List Int):=match zN 4096 l with
 | none=>none
 | some x=>oo x.1.toNat [] x.2
def rz:Nat->LL->List Int->Option (LL × List Int)
 | 0,acc,l=>some (acc,l)
 | k+1,acc,l=>match vp l with
  | none=>none
  | some x=>rz k (acc++[x.1]) x.2
structure Rk where
 k:Int
 led:Int
 L:LL
def Ew(l:List Int):Option (Rk × List Int):=match zN 4096 l with
 | none=>none
 | some a=>match hU a.2 with
  | none=>none
  | some b=>match zN 49 b.2 with
   | none=>none
   | some c=>match rz c.1.toNat [] c.2 with
    | none=>none
    | some x=>some (⟨a.1,b.1,x.1⟩,x.2)
def B_{m n:Int}(z:0<=n)(y:n<18446744073709551616)(r:List Int):zN m (il n++r)=if n<=m then some (n,r) else none:=by
 unfold zN;rw[jr z y]
def Ex(r:List Int):∀(l acc:List Int),mm (acc++l)->pz (acc++l)->oo (ab0 l) acc (ry acc.getLast? l++r)=some (acc++l,r)
 | [],acc,_,_=>by simp[oo,ry]
 | v::l,acc,hr,hs=>by
  have y:=hr v ad;have z:=Ex r l (acc++[v]) (by simpa using hr) (by simpa using hs);rw[gR] at z;simp only[aK,oo,ry,aN] at z |-
  cases hl:acc.getLast? with
  | none=>
   have x:=j9 y.1 y.2;unfold B9 zg;simp only;rw[jr x.1 x.2];simp only[Rh,wZ];rw[z];simp
  | some q=>
   have x:q∈acc:=fQ hl;have t:=hr q (by simp[x]);have u:q<=v:=(fJ.1 hs).2.2 q x v ad;unfold B9;simp only;rw[jr aa  aa];simp only[Rh,zY t.1 u y.2];rw[aF aa];simp only;rw[z];simp
def OW(r:List Int)(z:mm l)(y:pz l)(x:ab0 l<=4096):vp (OS l++r)=some (l,r):=by
 unfold vp OS;rw[aN,B_ aa  aa,aH aa];simp only[bY];have:=Ex r l [] (by simpa using z) (by simpa using y);simpa using this
def AQ(r:List Int):∀(L acc:LL),(∀l∈L,mm l/\pz l/\ab0 l<=4096)->rz (ab0 L) acc (lF L++r)=some (acc++L,r)
 | [],acc,_=>by simp[rz,lF]
 | l::L,acc,h=>by
  obtain⟨z,y,v⟩:=h l (aJ ..);have t:=AQ r L (acc++[l]) λx u=>h x (aQ _ u);rw[aK,rz,lF,aN,OW _ z y v];simp only;rw[t];simp
def Ri(r:List Int)(z:0<=k)(y:k<=4096)(v:led<18446744073709551616)(x:ab0 L<=49)(h:∀l∈L,mm l/\pz l/\ab0 l<=4096):Ew (zE k L led++r)=some (⟨k,led,L⟩,r):=by
 unfold Ew zE;simp only[aN];rw[B_ z aa,aH y];simp only;rw[jr aa  aa];simp only;rw[B_ aa  aa,aH aa];simp only[bY];rw[AQ r L [] h];simp
end
section
variable{acc bs l:List Int}{b base g k:Nat}{w w':World}{u v:Value}{T:Option (List Int × List Int)}{x:Int × List Int}
def Ql(e:Ending):Prop:=∃s,e=.panicked [{v:=.iface 444 (.string s),recovered:=false}]
def iW{α:Type}(x:Option (α × List Int))(val:α->World->Value->Prop)(w:World)(g:Nat)(bs:List Int)(e:Ending)(w':World):Prop:=
 match x with
 | some p=>∃v,e=.returned v/\val p.1 w' v/\hT w' g bs (ab0 bs - ab0 p.2)/\Touch (λk=>k=g) w w'
 | none=>Ql e/\Touch (λk=>k=g) w w'
def tZ{m:Int}{p:Int × List Int}(h:zN m l=some p):hU l=some p/\p.1<=m:=by
 unfold zN at h;cases hu:hU l with
 | none=>rw[hu] at h;cases h
 | some q=>
  rw[hu] at h;simp only at h;split at h
  .rename_i z
   injection h with h;subst h;exact⟨rfl,z⟩
  .cases h
def yZ(c m:Int)(f:Int->Int)(X:Option (Int × List Int))(b g:Nat)(y:List Int)(a:Nat)(w:World)(h:hT w g y a)(q:w.cell? (af7 b 0)=some (aq g))
 (z:X=match hU (y.drop a) with|none=>none|some p=>if f p.1<=m then some p else none)
 (x:∀w,hT w g y a->af4 af5 330 #[aq g,.int .u8 c] w (mU w g y a f)) :
 af4 af5 399 #[aq b,.int .u8 c,.int .u64 m] w (iW X (λn _ v=>v=.int .u64 (f n)) w g y):=by
 have V:=ax (x w h);clear h x;go_in;go_wp21;refine(V.o).M ?_;intro e T t;unfold mU at t;cases hu:hU (y.drop a) with
 | none=>
  rw[hu] at z;simp only[hu] at t;have v:=ax z;obtain⟨d,rfl,r,u,x⟩:=t;have Y:(d != 0)=true:=by rcases r with rfl|rfl<;>rfl
  have s:=ax x;clear hu r u x z q;go_wp21;refine⟨rfl,?_⟩;unfold iW;rw[v.o];exact⟨⟨_,rfl⟩,s.o⟩
 | some p=>
  rw[hu] at z;simp only[hu] at t z;obtain⟨rfl,u,x⟩:=t;have s:=ax x;have d:=ax u;obtain⟨n,r⟩:=p;simp only at z d |-
  by_cases Y:f n<=m
  .rw[aH Y] at z
   have v:=ax z;have U:¬f n > m:=aa;clear hu u x z q;go_wp2;refine ak ?_;unfold iW;rw[v.o];exact⟨_,rfl,rfl,d.o,s.o⟩
  .rw[aF Y] at z
   have v:=ax z;have U:f n > m:=aa;clear hu u x z q;go_wp21;refine⟨rfl,?_⟩;unfold iW;rw[v.o];exact⟨⟨_,rfl⟩,s.o⟩
def vq(m:Int)(y g:Nat)(z:List Int)(a:Nat)(w:World)(h:hT w g z a)(u:w.cell? (af7 y 0)=some (aq g))(x:jE z)(t:ab0 z<=1000000000000):af4 af5 399 #[aq y,.int .u8 118,.int .u64 m] w (iW (zN m (z.drop a)) (λn _ v=>v=.int .u64 n) w g z):=
 yZ 118 m id _ y g z a w h u (by unfold zN;rfl) (λw h=>p9 g z a w h x t)
def wk(y g:Nat)(z:List Int)(a:Nat)(w:World)(h:hT w g z a)(u:w.cell? (af7 y 0)=some (aq g))(x:jE z)(t:ab0 z<=1000000000000):af4 af5 399 #[aq y,.int .u8 118,.int .u64 18446744073709551615] w (iW (hU (z.drop a)) (λn _ v=>v=.int .u64 n) w g z):=
 yZ 118 _ id _ y g z a w h u (by
  cases hu:hU (z.drop a) with
  | none=>rfl
  | some p=>have:=jm (x.drop a) hu;simp only[id];rw[aH aa]) (λw h=>p9 g z a w h x t)
def LJ(y g:Nat)(z:List Int)(a:Nat)(w:World)(h:hT w g z a)(u:w.cell? (af7 y 0)=some (aq g))(x:jE z)(t:ab0 z<=1000000000000):af4 af5 399 #[aq y,.int .u8 122,.int .u64 18446744073709551615] w (iW (hU (z.drop a)) (λn _ v=>v=.int .u64 (ub (lH n))) w g z):=
 yZ 122 _ (λn=>ub (lH n)) _ y g z a w h u (by
  cases hu:hU (z.drop a) with
  | none=>rfl
  | some p=>have:=IY (lH p.1);simp only;rw[aH aa]) (λw h=>sL g z a w h x t)
def Rj:hO 2 .i64 base w v l<->g8 iY base w v l:=by
 unfold g8 hO;rw[pH];rfl
def _root_.Go.Proofs.YtdicblkhpcphfaaGreat.OwnB.YT{b':Nat}(h:OwnB b w v bs)(q:hO 2 .i64 b' w u l)(z:v.ownBlock=some k):u.ownBlock≠some k:=by
 intro e;rcases h.2 with t|⟨Y,p,f,rfl,c,x,r⟩
 .rw[t.1] at z;cases z
 .rcases q.2 with s|⟨X,g,d,rfl,a,y,V⟩
  .rw[s.1] at e;cases e
  .cases z
   cases e
   rw[x] at y;cases y
def _root_.Go.Proofs.YtdicblkhpcphfaaGreat.g7.YU{t:Nat}{cs:Array Value}(h:g7 w g t cs)(x:hO 2 .i64 b w v l)(u:t≠2):v.ownBlock≠some g:=by
 intro e;rcases x.2 with y|⟨f,s,q,rfl,p,z,r⟩
 .rw[y.1] at e;cases e
 .cases e
  unfold g7 at h;rw[h] at z;cases z
  exact u rfl
def _root_.Go.Proofs.YtdicblkhpcphfaaGreat.hT.OX{a:Nat}(h:hT w g bs a)(s:hO 2 .i64 b w u l)(x:w.grownBy w' u.ownBlock):hT w' g bs a:=by
 obtain⟨v,z,y,r⟩:=h;exact⟨v,(x.block g z.lt (λe=>z.YU s ab e.Y)).T z,hO.stay y (λk t=>x.block k (hO.lt y k t).2 (λe=>y.YT s t e.Y)),r⟩
def _root_.Go.Proofs.YtdicblkhpcphfaaGreat.hO.away{t:TypeId}{k:IntKind}(h:hO t k base w v l)(z:Touch (λk=>k=g) w w')(x:g<base):hO t k base w' v l:=
 h.stay λk e=>z.block k (h.lt k e).2 (λy=>by have:=(h.lt k e).1;omega)
def AS(h:oo (k+1) acc l=T)(y:hU l=some x){v:Int}(z:Rh acc.getLast? x.1=some v):oo k (acc++[v]) x.2=T:=by
 rw[oo,y] at h;simp only[z] at h;exact h
def AU(h:oo (k+1) acc l=T)(z:hU l=none):T=none:=by
 rw[oo,z] at h;exact h.Y
def LK(h:oo (k+1) acc l=T)(y:hU l=some x)(z:Rh acc.getLast? x.1=none):T=none:=by
 rw[oo,y] at h;simp only[z] at h;exact h.Y
def mm.snoc{v:Int}(h:mm l)(y:-9223372036854775808<=v)(u:v<=9223372036854775807):mm (l++[v]):=λx z=>by
 rcases cz.1 z with z|z
 .exact h x z
 .simp only[bQ] at z;subst z;exact⟨y,u⟩
def H6(V g:Nat)(y:List Int)(a:Nat)(w:World)(h:hT w g y a)(z:w.cell? (af7 V 0)=some (aq g))(hne:V≠g)(u:jE y)(hlen:ab0 y<=1000000000000):af4 af5 398 #[aq V] w (iW (vp (y.drop a)) (λl x v=>hO 2 .i64 w.heap.size x v l/\mm l) w g y):=by
 have C0:=ax z;have hlt:=h.lt;have hgr:V<w.heap.size:=bH _ _ z;have C:=ax u;have VL:=ax (vq 4096 V g y a w h z u hlen);clear h u z;go_in;go_wp21;refine(VL.o).M ?_;intro e b t;unfold iW at t;cases hu:zN 4096 (y.drop a) with
 | none=>
  simp only[hu] at t;have N:=ax (by unfold vp;rw[hu]:vp (y.drop a)=none);obtain⟨⟨pv,rfl⟩,u⟩:=t;have H:=ax u;clear hu u;go_wp21;refine⟨rfl,?_⟩;unfold iW;rw[N.o];exact⟨⟨_,rfl⟩,H.o⟩
 | some p=>
  obtain⟨n0,r⟩:=p;simp only[hu] at t;obtain⟨v,rfl,rfl,c,u⟩:=t;obtain⟨R,hm⟩:=tZ hu;have x:=jm (C.o.drop a) R;have s:=i7 R;obtain⟨n,rfl⟩:∃n:Nat,n0=n:=⟨n0.toNat,by simp only at x;omega⟩;simp only at hm x;have H:=ax u;have Gp:=u.size;have⟨T,z⟩:=ar (vp (y.drop a));have HT:=ax z;have R0:=ax (by rw[s,<-z];unfold vp;rw[hu];simp:oo n [] (y.drop (ab0 y - ab0 r))=T);have H3:=ax c;have C2:Hid (b.cell? (af7 V 0)=some (aq g)):=ax ((u.C (o:=0) hgr hne).T C0.o);have hg2:g<b.heap.size:=aa;have OY:V<b.heap.size:=aa;have hwn:(n:Int)<=4096:=aa;clear hu z c u R s x;generalize ab0 y - ab0 r=a1 at *;go_wp2;go_loopg [3,4,5,6,10] n (λq v _ _ _ i wr=>∃(j d:Nat) (f:List Int),q=n - j/\j<=n/\i=af6 j/\ab0 f=j/\Hid (mm f)/\Hid (hO 2 .i64 b.heap.size wr v f)/\Hid (hT wr g y d)/\Hid (oo (n - j) f (y.drop d)=T)/\Hid (Touch (λk=>k=g) b wr))
  exact⟨0,a1,[],rfl,aa,rfl,rfl,ax (λx R=>by simp at R),ax (hO.nil_ _ _ _ _),H3,R0,ax (Touch.refl _ _)⟩
  case round=>
   obtain⟨j,d,f,hq,hj,rfl,i,W,D,HR,m,O⟩:=hrel;have HQ:=ax hq;have M9:=O.o.size;have l:=(O.o.C (o:=0) OY hne).T C2.o;have hal:ab0 f+1<=1099511627776:=aa;clear hq;by_cases hlt2:j<n
   .have Q:=m.o
    rw[show n - j=(n - (j+1))+1 by omega] at Q;have P:=ax Q;have hji:(j:Int)<(n:Int):=aa;clear Q m;rcases bo j with rfl|hj0
    .obtain rfl:f=[]:=aV i
     have M:=ax (LJ V g y d wr HR.o l C.o hlen);have z:((0:Nat):Int)=0:=rfl;rw[z] at hji |-;clear z l
     go_wp21;refine(M.o).M ?_
     intro e X t;unfold iW at t;cases hA:hU (y.drop d) with
     | none=>
      simp only[hA] at t;have N:Hid (T=none):=ax (AU P.o hA);obtain⟨⟨pv,rfl⟩,u⟩:=t;have Y:=ax u;clear hA u;go_wp21;refine⟨rfl,?_⟩;unfold iW;rw[HT.o,N.o];exact⟨⟨_,rfl⟩,tt (tt H.o O.o) Y.o⟩
     | some p=>
      obtain⟨z,F⟩:=p;simp only[hA] at t;obtain⟨v,rfl,rfl,c,u⟩:=t;have K:=jm (C.o.drop d) hA;have s:=uM K.1 K.2;have E:=oG s.1 s.2;have L:=i7 hA;have Lm:=ax (by rw[L];exact AS P.o hA rfl:oo (n - (0+1)) ([]++[lH z]) (y.drop (ab0 y - ab0 F))=T);have HI1:=ax (W.o.snoc s.1 s.2);have Y:=ax (tt O.o u);have R3:=ax c;have S:Hid (hO 2 .i64 b.heap.size X u3 []):=ax (D.o.away u hg2);have hz3:=u.size;clear hA c u K L;simp only;generalize ab0 y - ab0 F=G at *
      go_wp2_with (first
       | (at_builtin
          go_loud (refine CJ underlying196 R_ rfl (.tmp 15) (.tmp 19) rfl b.heap.size u3 [] rfl (S.o.alloc _) _ [lH z] rfl (jC.ig _ _ _ _ _ rfl) ad (by simp only[aI];omega) ?_)
          intro v6 I J U a6;have hb7:af3 X (X.alloc (.cells #[af6 (lH z)] 2)):=(aC _ _).alloc (aD _) _;have R6:Hid (hT I g y G):=ax ((R3.o.K hb7).OX (S.o.alloc _) U);have T6:Hid (Touch (λk=>k=g) b I):=ax (((Y.o.alloc _).grown U (λk e=>.inr (S.o.lt k e).1)));have O6:=ax J;clear J U a6))
      go_roundg (n - (0+1))
      exact⟨1,G,[]++[lH z],rfl,aa,af,rfl,HI1,O6,R6,Lm,T6⟩;have:=HQ.o;omega
    .obtain⟨s,rfl⟩:∃s,j=s+1:=⟨j - 1,aa⟩
     have hsl:s<ab0 f:=aa;obtain⟨A3,c3,hv3,m3,m4,A⟩:=D.o.rd.form;obtain⟨ga,oa,eA,hga,B⟩:=A.at_ hsl;have M:f.getLast?=some f[s]:=by
      rw[gz,i];simp[aL hsl]
     have hq:=W.o f[s] (aP hsl);have⟨q,E⟩:=ar (f[s]);rw[E] at B M hq;rw[i] at hv3 m3;subst eA;subst hv3;have HNV:=ax (wk V g y d wr HR.o l C.o hlen);have HLA:=ax M;have hst:(s:Int)<(s:Int)+1:=aa;have hws:ad0 .i64 (s:Int)=(s:Int):=cy _ aa;clear l A M E;go_wp21;clear B;refine(HNV.o).M ?_;intro e X t;unfold iW at t;cases hA:hU (y.drop d) with
     | none=>
      simp only[hA] at t;have N:Hid (T=none):=ax (AU P.o hA);obtain⟨⟨pv,rfl⟩,u⟩:=t;have Y:=ax u;clear hA u;go_wp21;refine⟨rfl,?_⟩;unfold iW;rw[HT.o,N.o];exact⟨⟨_,rfl⟩,tt (tt H.o O.o) Y.o⟩
     | some p=>
      obtain⟨z,F⟩:=p;simp only[hA] at t;obtain⟨v,rfl,rfl,c,u⟩:=t;have K:=jm (C.o.drop d) hA;have L:=i7 hA;have A:=ax (by rw[iy,iy];rfl:wrap64 (ad0 .u64 (ad0 .u64 q+z))=wrap64 ((ub q+z) % 18446744073709551616));have B:Hid (wrap64 ((ub q+z) % 18446744073709551616)<q->T=none):=ax λh=>LK P.o hA (by rw[HLA.o];unfold Rh;simp only;rw[aH h]);have E:Hid (¬wrap64 ((ub q+z) % 18446744073709551616)<q->oo (n - (s+1+1)) (f++[wrap64 ((ub q+z) % 18446744073709551616)]) (y.drop (ab0 y - ab0 F))=T):=ax λh=>by
       rw[L];exact AS P.o hA (by rw[HLA.o];unfold Rh;simp only;rw[aF h])
      have M:-9223372036854775808<=wrap64 ((ub q+z) % 18446744073709551616)/\wrap64 ((ub q+z) % 18446744073709551616)<=9223372036854775807:=by unfold wrap64;omega
      have⟨x,R⟩:=ar (wrap64 ((ub q+z) % 18446744073709551616));rw[R] at A B E M;have HI1:=ax (W.o.snoc M.1 M.2);have Y:=ax (tt O.o u);have R3:=ax c;have S:=ax (D.o.away u hg2);have hz3:=u.size;clear hA c u K L R;simp only;generalize ab0 y - ab0 F=G at *;have L:=A.o;by_cases hlt:x<q
      .have N:=ax (B.o hlt)
       go_wp21;refine⟨rfl,?_⟩
       unfold iW;rw[HT.o,N.o];exact⟨⟨_,rfl⟩,tt H.o Y.o⟩
      .have Lm:=ax (E.o hlt)
       go_wp2_with (first
        | (at_builtin
           refine CJ underlying196 R_ rfl (.tmp 36) (.tmp 38) rfl b.heap.size _ f rfl (S.o.alloc _) _ [x] rfl (jC.ig _ _ _ _ _ rfl) aa (by simp only[aI];omega) ?_;intro v6 I J U a6;have hb7:af3 X (X.alloc (.cells #[af6 x] 2)):=(aC _ _).alloc (aD _) _;have R6:Hid (hT I g y G):=ax ((R3.o.K hb7).OX (S.o.alloc _) U);have T6:Hid (Touch (λk=>k=g) b I):=ax (((Y.o.alloc _).grown U (λk e=>.inr (S.o.lt k e).1)));have O6:=ax J;clear J U a6))
       go_roundg (n - (s+1+1))
       exact⟨s+1+1,G,f++[x],rfl,aa,af,by simp[i],HI1,O6,R6,Lm,T6⟩;have:=HQ.o;omega
   .obtain rfl:j=n:=aa
    have Q:=m.o;rw[cZ,oo] at Q;have P:=ax Q;have z:=ax HR.o;clear Q m;go_wp2;refine ak ?_;unfold iW;rw[HT.o,<-P.o];have s:d<=ab0 y:=by obtain⟨_,_,_,c⟩:=z.o;exact c
    refine⟨_,rfl,⟨hO.lift D.o (λk e=>bf Gp (hO.lt D.o k e).1),W.o⟩,?_,tt H.o O.o⟩;simp only[aW];rw[show ab0 y - (ab0 y - d)=d by omega];exact z.o
end
section
def Ey(c n x:Int)(z:Nat)(u:Value)(y:List Int)(w:World)(b:z<=w.heap.size)(s:OwnB z w u y)(S:ab0 y<=1000000000000)(r:(c=118/\x=n/\0<=n/\n<18446744073709551616)\/(c=122/\n=ub x/\-9223372036854775808<=x/\x<=9223372036854775807)):af4 af5 169 #[u,.int .u8 c,.int .u64 n] w λe q=>∃v,e=.returned v/\OwnB z q v (y++(if c=118 then il x else zg x))/\Below z w q:=by
 have t:=ax s;have p:=ax (tB c n x w r);have R:ab0 (if c=118 then il x else zg x)<=10:=by split;exact(hM _).2;exact(hM _).2
 generalize (if c=118 then il x else zg x)=X at *;clear s r;go_in;go_wp21;refine WE p.o ?_;rintro V P ⟨s,v⟩;have g:=ax s;have Q:=v.size;clear s
 go_wp2_with (first
  | (at_builtin
     go_must (refine kv rfl (.tmp 15) (.tmp 16) rfl z u y rfl (hO.K t.o v) V X rfl (hO.rd g.o) aa  aa ?_)
     intro U T r s d;have a:Below z w T:=(v.M b).grown s aa (λk Y=>(hO.lt t.o k Y).1);have f:=ax r;clear r s d))
 go_ret;exact⟨U,rfl,f.o,a⟩
def pL(n:Int)(z:Nat)(x:Value)(y:List Int)(w:World)(s:z<=w.heap.size)(t:OwnB z w x y)(r:ab0 y<=1000000000000)(q:0<=n)(p:n<18446744073709551616):af4 af5 169 #[x,.int .u8 118,.int .u64 n] w λe u=>∃v,e=.returned v/\OwnB z u v (y++il n)/\Below z w u:=by
 have h:=Ey 118 n n z x y w s t r (.inl ⟨rfl,rfl,q,p⟩)
 rwa [aH rfl] at h
def LM(x n:Int)(z:Nat)(u:Value)(y:List Int)(w:World)(p:z<=w.heap.size)(q:OwnB z w u y)(g:ab0 y<=1000000000000)(f:n=ub x)(s:-9223372036854775808<=x)(r:x<=9223372036854775807):af4 af5 169 #[u,.int .u8 122,.int .u64 n] w λe t=>∃v,e=.returned v/\OwnB z t v (y++zg x)/\Below z w t:=by
 have h:=Ey 122 n x z u y w p q g (.inr ⟨rfl,f,s,r⟩)
 rwa [aF aa] at h
def Rl(k:Int)(v:Value)(L:LL)(u:Nat)(w:World)(h:Mr w v L)(k0:0<=k)(k1:k<=9223372036854775807)(BZ:u<18446744073709551616)(hlen:ab0 L<=1000)(hcnt:cnt L<=1000000000)(z:∀j,pz (lvl L j)/\mm (lvl L j)):af4 af5 100 #[af6 k,v,.int .u64 u] w λe g=>∃v,e=.returned v/\OwnB w.heap.size g v (zE k L u)/\af3 w g:=by
 obtain⟨A,c,rfl,hc1,hc2⟩:=h.form;have HL:=ax h;have HS:=ax z;have HTL:=ax (λj=>sy L j);have HLC:=ax (λj=>iD L j);have s:=hM k;have r:=hM (u:Int);have q:=hM (ab0 L:Int);have B:=ax (show zE k L u=[]++il k++il u++il (ab0 L)++lF (L.take (ab0 L)) by unfold zE;simp);clear h z;go_in;go_wp21;refine WE (pL k w.heap.size _ [] w (aD _) (hO.nil_ _ _ _ _) ad k0 aa) ?_;rintro v1 w1 ⟨z,y⟩;have O1:=ax z;have hz1:=y.size;clear z;go_wp21;refine WE (pL (u:Int) w.heap.size v1 ([]++il k) w1 hz1 O1.o ae aa  aa) ?_;rintro v2 w2 ⟨t,x⟩;have O2:=ax t;have z:=ax (y.T x);have hz2:=z.o.size;clear t y x;go_wp21;refine WE (pL (ab0 L:Int) w.heap.size v2 ([]++il k++il u) w2 hz2 O2.o ae aa  aa) ?_;rintro v3 w3 ⟨x,t⟩;have⟨H,y⟩:=ar ([]++il k++il u++il (ab0 L:Int));have hHl:ab0 H<=30:=by rw[<-y];simp;omega
 rw[y] at x B;have O3:=ax x;have HB3:=ax (z.o.T t);clear x t y s r q;go_wp2;go_loopg [7,8,9] (ab0 L) (λq v i _ wr=>∃j:Nat,q=ab0 L - j/\j<=ab0 L/\i=af6 (j:Int)/\Hid (OwnB w.heap.size wr v (H++lF (L.take j)))/\Hid (af3 w wr))
 exact⟨0,aa,aa,rfl,ax (by simpa[lF] using O3.o),HB3⟩
 case round=>
  obtain⟨j,y,hj,rfl,o,Y⟩:=hrel;have HQ:=ax y;clear y;have hz:=Y.o.size;have htl:=HTL.o j;by_cases h:j<ab0 L
  .obtain⟨O,I,sA,sc,r,M,y,a⟩:=HL.o.at_ h
   subst r;obtain⟨_,_,ea,WV,ha4,t⟩:=a.form;injection ea with YP YQ YR;subst YP;subst YR;have x:=ax (AO h);have hlc:=HLC.o j;obtain⟨f,s⟩:=HS.o j;have d:=hM (ab0 (lvl L j):Int);have⟨l,b⟩:=ar (lvl L j);rw[b] at y t x hlc f s d WV;have C:=ax t;have D:=ax y;have PW:=ax f;have m:=ax s;have Q:=(Y.o.C (p:=af7 O (I+j)) M).T y;have X:ab0 (H++lF (L.take j))<=20000000000:=by rw[aE];omega
   have hji:(j:Int)<(ab0 L:Int):=aa;clear b a YQ t y f s;go_wp21;refine WE (pL (ab0 l:Int) w.heap.size u7 (H++lF (L.take j)) wr hz o.o aa  aa  aa) ?_;rintro v4 w4 ⟨t,s⟩;have⟨G,y⟩:=ar (H++lF (L.take j)++il (ab0 l:Int));have hGl:ab0 G<=20000000010:=by rw[<-y,aE];omega
   have HGE:=ax (by rw[x.o,<-y,OS,cK];simp:H++lF (L.take (j+1))=G++ry none (l.take (ab0 l)));rw[y] at t;have O4:=ax t;have HB4:=ax (Y.o.T s);clear t s y d X Q x;go_wp2;go_loopg [7,9] (ab0 l) (λq v i wr=>∃t:Nat,q=ab0 l - t/\t<=ab0 l/\i=af6 (t:Int)/\Hid (OwnB w.heap.size wr v (G++ry none (l.take t)))/\Hid (af3 w wr))
   exact⟨0,aa,aa,rfl,ax (by simpa[ry] using O4.o),HB4⟩
   case round=>
    obtain⟨t,y,ht,rfl,S,z⟩:=hrel;have n:=ax y;clear y;have hzw:=z.o.size;have Q:=(z.o.C (p:=af7 O (I+j)) M).T D.o;by_cases d:t<ab0 l
    .obtain⟨P,J,r,N,U⟩:=C.o.i64 d
     subst r;have V:=m.o l[t] (aP d);have hgt:ab0 (G++ry none (l.take t))<=100000000000:=by
      have:=xx none (l.take t);have y:ab0 (l.take t)<=ab0 l:=by rw[aU];omega
      rw[aE];omega
     have W:=ax U;have hti:(t:Int)<(ab0 l:Int):=aa;rcases bo t with rfl|ht0
     .have q:=ax (AN d)
      have k1:=(z.o.C (p:=af7 P (J+0)) N).T U;have⟨x,b⟩:=ar (l[0]);simp only[b,cF] at k1 V q;have y:((0:Nat):Int)=0:=rfl;rw[y];clear b U y;go_wp21;refine WE (LM x _ w.heap.size u7 (G++ry none (l.take 0)) wr hzw S.o aa (by rw[iy];rfl) V.1 V.2) ?_;rintro F T ⟨a,f⟩;have R:=ax (by rw[q.o,<-aN];exact a:OwnB w.heap.size T F (G++ry none (l.take 1)));have X:=ax (z.o.T f);clear a f;go_wp2;go_roundg (ab0 l - (0+1))
      exact⟨1,rfl,aa,af,R,X⟩;have:=n.o;omega
     .obtain⟨s,rfl⟩:∃s,t=s+1:=⟨t - 1,aa⟩
      have hsl:s<ab0 l:=aa;have q:=ax (Ev d);obtain⟨ga',oa',r,_,kb⟩:=C.o.i64 hsl;injection r with r;injection r with OF OG;subst OF;subst OG;have hle:=yV PW.o d;have hy:=m.o l[s] (aP hsl);have i:=ax kb;have⟨x,b⟩:=ar (l[s+1]);have⟨y,K⟩:=ar (l[s]);simp only[b,K] at W i q V hy hle;have EW:=ax (show ad0 .u64 (ad0 .u64 x - ad0 .u64 y)=x - y by simp only[iy];omega);have hst:(s:Int)<(ab0 l:Int):=aa;have Ky:Hid (ad0 .i64 (s:Int)=(s:Int)):=ax (cy _ aa);obtain⟨E,rfl⟩:∃E:World,E=wr:=⟨_,rfl⟩;clear b K U kb;go_upto_region 13 with fail;clear Q;have Z:=ax (λ(g:World) (b:af3 w g)=>(aB ((b.C (p:=af7 O (I+j)) M).T D.o) (aB ((b.C (p:=⟨P,J+(s+1),none⟩) N).T W.o) (aB ((b.C (p:=af7 P (J+s)) N).T i.o) (aB (EW.o) (Ky.o))))));refine jh (λg=>af3 w g) (hQ 0 19 (ik 19 (hQ 20 1 []))) (z.o.drew) ?_;iterate 19 refine ib ?_
      refine iz λK b=>?_;go_simp;refine WE (pL (x - y) w.heap.size u7 (G++ry none (l.take (s+1))) E.drew hzw (hO.drew S.o) aa  aa  aa) ?_;rintro F T ⟨a,f⟩;have R:=ax (by rw[q.o,<-aN];exact a:OwnB w.heap.size T F (G++ry none (l.take (s+1+1))));have X:Hid (af3 w T):=ax (z.o.drew.T f);clear a f;refine b _ _ (X.o) ?_;refine ib ?_;refine g4 ?_;go_wp2;go_roundg (ab0 l - (s+1+1))
      exact⟨s+1+1,rfl,aa,af,R,X⟩;have:=n.o;omega
    .obtain rfl:t=ab0 l:=aa
     go_wp2;go_roundg (ab0 L - (j+1))
     exact⟨j+1,rfl,aa,af,by rw[HGE.o];exact S,z⟩;have:=HQ.o;omega
  .obtain rfl:j=ab0 L:=aa
   go_wp2;refine ak ?_;exact⟨_,rfl,by rw[B.o];exact o.o,Y.o⟩
end
section
variable{L:LL}{n:Nat}{vs:List Sv}
def Ez(w:World):af4 af5 275 #[.string ⟨#[118,118,118]⟩] w (au w (.bool true)):=by
 have y:=λw=>ax (my 7 118 w Qa);go_in;go_wp2;go_loopg [11] 3 (λq i wr=>∃j:Nat,q=3 - j/\j<=3/\i=af6 j/\af3 w wr)
 exact⟨0,rfl,aa,rfl,aC _ _⟩
 case round=>
  obtain⟨j,z,r,rfl,v⟩:=hrel;have x:=ax z;have q:=v.size;clear z;rcases(show j=0\/j=1\/j=2\/j=3 by omega) with rfl|rfl|rfl|rfl
  .go_wp2_with (go_at_call 276;refine RX (y _).o ?_;intro t z;have u:=z.size)
   go_roundg 2
   exact⟨1,rfl,aa,af,bw⟩;have:=x.o;omega
  .go_wp2_with (go_at_call 276;refine RX (y _).o ?_;intro t z;have u:=z.size)
   go_roundg 1
   exact⟨2,rfl,aa,af,bw⟩;have:=x.o;omega
  .go_wp2_with (go_at_call 276;refine RX (y _).o ?_;intro t z;have u:=z.size)
   go_roundg 0
   exact⟨3,rfl,aa,af,bw⟩;have:=x.o;omega
  .go_wp2
   go_ret;exact⟨rfl,v⟩
def outs(a b c:Int):Nat->List Int
 | 0=>[]
 | 1=>il a
 | 2=>il a++il b
 | _=>il a++il b++il c
def y_(a b c:Int)(j:Nat):ab0 (outs a b c j)<=30:=by
 have z:=hM a;have y:=hM b;have x:=hM c
 match j with
 | 0=>simp[outs]
 | 1=>simp only[outs];omega
 | 2=>simp only[outs,aE];omega
 | n+3=>simp only[outs,aE];omega
def LN(a b c:Int)(v:Value)(w:World)(q:jC .u64 w v [a,b,c])(E:0<=a)(D:a<18446744073709551616)(C:0<=b)(B:b<18446744073709551616)(V:0<=c)(l:c<18446744073709551616):af4 af5 195 #[.string ⟨#[118,118,118]⟩,v] w λe N=>∃v,e=.returned (.tuple #[v,af6 0])/\OwnB w.heap.size N v (outs a b c 3)/\af3 w N:=by
 obtain⟨A,cn,rfl,k,hc,z⟩:=q.form;obtain⟨U,S,rfl,T,y⟩:=z.at_ (j:=0) (by simp);obtain⟨m,o',u,_,x⟩:=z.at_ (j:=1) (by simp);simp only[bg,gf,and_true] at u;obtain⟨rfl,rfl⟩:=u;obtain⟨m,o',u,_,t⟩:=z.at_ (j:=2) (by simp);simp only[bg,gf,and_true] at u;obtain⟨rfl,rfl⟩:=u;simp only[aK,aY,bZ,dR,cF] at k y x t |-;have K:=ax y;have J:=ax x;have I:=ax t;have r:=λw=>ax (my 7 118 w Qa)
 have d:=ax (λ(g:Nat) (n:Int) (s:List Int) (W:World) h f Y p=>tv g w.heap.size n 0 s W h f Y p);have h:∀s w,(callFunc 405 s).run prog w=.ok (.enter 405 s) w:=λ_ _=>rfl;have H:Hid (outs a b c 0++il a=outs a b c 1):=ax rfl;have G:Hid (outs a b c 1++il b=outs a b c 2):=ax rfl;have F:Hid (outs a b c 2++il c=outs a b c 3):=ax rfl;have Y:=ax (y_ a b c);have s:pZ 7=405:=rfl;rw[s] at r;clear q z y x t s;go_in;go_wp21;refine RX (Ez w) ?_;intro f o;have W:=o.size;go_wp21;have⟨g,z⟩:=ar (f.heap.size);have R:=ax (Wr.new 373 f w.heap.size W);have n:af3 w (f.alloc (.cells #[.slice none 0 0] 373)):=bw;rw[z] at R |-;generalize f.alloc (.cells #[.slice none 0 0] 373)=w2 at *;clear z
 go_loopg [25] 3 (λq i wr=>∃j:Nat,q=3 - j/\j<=3/\i=af6 j/\Hid (Wr 373 w.heap.size wr g (outs a b c j))/\af3 w wr)
 exact⟨0,rfl,aa,rfl,R,n⟩
 case round=>
  obtain⟨j,z,i,rfl,q,t⟩:=hrel;have X:=ax z;have hz:=t.size;clear z;rcases(show j=0\/j=1\/j=2\/j=3 by omega) with rfl|rfl|rfl|rfl
  .have Q:=(t.C (p:=af7 U S) T).T K.o
   go_wp2_with (first
    | (go_at_call 276;refine RX (r _).o ?_;intro M y;have P:=y.size)
    | (go_at_fn 405;refine((d.o g a (outs a b c 0) _ ((q.o.K y).K ((aC _ _).alloc (aD _) _)) E D (aa2 (Y.o 0))).M ?_);rintro e L ⟨rfl,z,s⟩;have O:=s.size;rw[H.o] at z;have x:=ax z;clear z))
   go_roundg 2
   exact⟨1,rfl,aa,af,x,bw⟩;have:=X.o;omega
  .have Q:=(t.C (p:=af7 U (S+1)) T).T J.o
   go_wp2_with (first
    | (go_at_call 276;refine RX (r _).o ?_;intro M y;have P:=y.size)
    | (go_at_fn 405;refine((d.o g b (outs a b c 1) _ ((q.o.K y).K ((aC _ _).alloc (aD _) _)) C B (aa2 (Y.o 1))).M ?_);rintro e L ⟨rfl,z,s⟩;have O:=s.size;rw[G.o] at z;have x:=ax z;clear z))
   go_roundg 1
   exact⟨2,rfl,aa,af,x,bw⟩;have:=X.o;omega
  .have Q:=(t.C (p:=af7 U (S+2)) T).T I.o
   go_wp2_with (first
    | (go_at_call 276;refine RX (r _).o ?_;intro M y;have P:=y.size)
    | (go_at_fn 405;refine((d.o g c (outs a b c 2) _ ((q.o.K y).K ((aC _ _).alloc (aD _) _)) V l (aa2 (Y.o 2))).M ?_);rintro e L ⟨rfl,z,s⟩;have O:=s.size;rw[F.o] at z;have x:=ax z;clear z))
   go_roundg 0
   exact⟨3,rfl,aa,af,x,bw⟩;have:=X.o;omega
  .obtain⟨s,v,z,y⟩:=q.o
   have V:=z.k0;have x:=ax y;clear z y;go_wp2;go_ret2;exact⟨v,rfl,x.o,t⟩
def y'(p:Value)(u:List Int)(z:Nat)(t g:Value)(x:List Int)(w:World)(a:z<=w.heap.size)(r:OwnB z w t x)(S:ab0 x<=1000000000000)(R:ab0 u<=1000)
 (q:af4 af5 195 #[p,g] w λe y=>∃v,e=.returned (.tuple #[v,af6 0])/\OwnB w.heap.size y v u/\af3 w y) :
 af4 af5 205 #[t,p,g] w λe y=>∃v,e=.returned v/\OwnB z y v (x++u)/\Below z w y:=by
 have s:=ax r;have f:=ax q;clear r q;go_in;go_wp21;refine WE f.o ?_;rintro V P ⟨r,v⟩;have d:=ax r;have Q:=v.size;clear r
 go_wp2_with (first
  | (at_builtin
     go_must (refine kv rfl (.tmp 15) (.tmp 16) rfl z t x rfl (hO.K s.o v) V u rfl (hO.rd d.o) aa  aa ?_)
     intro U T q r b;have Y:Below z w T:=(v.M a).grown r aa (λk X=>(hO.lt s.o k X).1);have c:=ax q;clear q r b))
 go_ret;exact⟨U,rfl,c.o,Y⟩
def AV(n:Int)(z:Nat)(u x:Value)(y:List Int)(w:World)(r:z<=w.heap.size)(s:OwnB z w u y)(q:ab0 y<=1000000000000)(p:jC .u64 w x [n])(g:0<=n)(f:n<18446744073709551616):af4 af5 205 #[u,.string ⟨#[118]⟩,x] w λe t=>∃v,e=.returned v/\OwnB z t v (y++il n)/\Below z w t:=
 y' _ (il n) z u x y w r s q (aa2 (hM n)) (yf n x w p g f)
def LO(x:Int)(z:Nat)(t u:Value)(y:List Int)(w:World)(g:z<=w.heap.size)(p:OwnB z w t y)(f:ab0 y<=1000000000000)(d:jC .u64 w u [ub x])(r:-9223372036854775808<=x)(q:x<=9223372036854775807):af4 af5 205 #[t,.string ⟨#[122]⟩,u] w λe s=>∃v,e=.returned v/\OwnB z s v (y++zg x)/\Below z w s:=
 y' _ (zg x) z t u y w g p f (by have:=hM (oF x);unfold zg;omega) (yg x u w d r q)
def LP(a b c:Int)(z:Nat)(u x:Value)(y:List Int)(w:World)(Y:z<=w.heap.size)(d:OwnB z w u y)(X:ab0 y<=1000000000000)(V:jC .u64 w x [a,b,c])(s:0<=a)(r:a<18446744073709551616)(q:0<=b)(p:b<18446744073709551616)(g:0<=c)(f:c<18446744073709551616):af4 af5 205 #[u,.string ⟨#[118,118,118]⟩,x] w λe t=>∃v,e=.returned v/\OwnB z t v (y++outs a b c 3)/\Below z w t:=
 y' _ (outs a b c 3) z u x y w Y d X (aa2 (y_ a b c 3)) (LN a b c x w V s r q p g f)
def _root_.Go.Proofs.YtdicblkhpcphfaaGreat.jC.OZ(t:TypeId)(k:IntKind)(w:World)(a b c:Int)(H:Nat)(h:w.heap.size=H):jC k (w.alloc (.cells #[.int k a,.int k b,.int k c] t)) (.slice (some (af7 H 0)) 3 3) [a,b,c]:=by
 subst h;have h:hO t k w.heap.size (w.alloc (.cells #[.int k a,.int k b,.int k c] t)) (.slice (some (af7 (w.heap.size) 0)) 3 3) [a,b,c]:=
  ⟨rfl,.inr ⟨w.heap.size,3,_,rfl,aD _,cH _ _,ad,by unfold maxLen;omega,rfl,ad⟩⟩
 exact h.rd
def mm.lvl(h:∀x∈rp L,-9223372036854775808<=x/\x<=9223372036854775807)(j:Nat):mm (lvl L j):=λx y=>by
 rcases bm j (ab0 L) with z|z
 .rw[kZ z] at y
  exact h x (List.mem_flatten.2 ⟨_,aP z,y⟩)
 .rw[pF z] at y;simp at y
def H7(Q v:Value)(r l:List Int)(z w:World)(y:af3 z w)(s:iQ iY z v l)(q:pz l)(t:mm l)(hn:ab0 l<=1000000000)(u:OwnB z.heap.size w Q r)(hbs:ab0 r<=100000000000):af4 af5 207 #[Q,v] w λe E=>∃x,e=.returned x/\OwnB z.heap.size E x (r++OS l)/\af3 z E:=by
 obtain⟨A,c,rfl,hc1,hc2,x⟩:=s.form;have P:=ax x;have o:=ax q;have O:=ax t;have m:=ax u;have C:=ax y;have hz:=y.size;have p:=hM (ab0 l:Int);clear s q t u x y;go_in;go_wp21;refine WE (AV (ab0 l:Int) z.heap.size Q _ r _ (by simp only[aI];omega) (hO.alloc m.o _) aa (jC.ig _ _ _ _ _ rfl) aa  aa) ?_;rintro v4 w4 ⟨x,u⟩;have⟨G,y⟩:=ar (r++il (ab0 l:Int));have hGl:ab0 G<=100000000010:=by rw[<-y,aE];omega
 have j:=ax (by rw[<-y,OS,cK];simp:r++OS l=G++ry none (l.take (ab0 l)));rw[y] at x;have n:=ax x;have B:Hid (af3 z w4):=ax ((C.o.alloc aa _).T u);clear x u y p;go_wp2;go_loopg [0,5,6,15] (ab0 l) (λq v _ _ i wr=>∃t:Nat,q=ab0 l - t/\t<=ab0 l/\i=af6 (t:Int)/\Hid (OwnB z.heap.size wr v (G++ry none (l.take t)))/\Hid (af3 z wr))
 exact⟨0,aa,aa,rfl,ax (by simpa[ry] using n.o),B⟩
 case round=>
  obtain⟨t,y,ht,rfl,U,u⟩:=hrel;have N:=ax y;clear y;have hzw:=u.o.size;by_cases d:t<ab0 l
  .obtain⟨M,F,g,L,S⟩:=P.o.i64 d
   subst g;have X:=O.o l[t] (aP d);have hgt:ab0 (G++ry none (l.take t))<=1000000000000:=by
    have:=xx none (l.take t);have y:ab0 (l.take t)<=ab0 l:=by rw[aU];omega
    rw[aE];omega
   have hti:(t:Int)<(ab0 l:Int):=aa;have I:=(u.o.C (p:=af7 M (F+t)) L).T S;rcases bo t with rfl|ht0
   .have q:=ax (AN d)
    have⟨x,b⟩:=ar (l[0]);simp only[b,cF] at I X q;have y:((0:Nat):Int)=0:=rfl;rw[y];clear b S y;go_wp21;refine WE (LO x z.heap.size u0 _ (G++ry none (l.take 0)) _ (by simp only[aI];omega) (hO.alloc U.o _) aa (by rw[<-show ad0 .u64 x=ub x from iy x];exact jC.ig _ _ _ _ _ rfl) X.1 X.2) ?_;rintro R Y ⟨a,f⟩;have T:=ax (by rw[q.o,<-aN];exact a:OwnB z.heap.size Y R (G++ry none (l.take 1)));have V:Hid (af3 z Y):=ax ((u.o.alloc aa _).T f);clear a f;go_wp2;go_roundg (ab0 l - (0+1))
    exact⟨1,rfl,aa,af,T,V⟩;have:=N.o;omega
   .obtain⟨s,rfl⟩:∃s,t=s+1:=⟨t - 1,aa⟩
    have K:s<ab0 l:=aa;have q:=ax (Ev d);obtain⟨ga',oa',g,_,H⟩:=P.o.i64 K;injection g with g;injection g with OF OG;subst OF;subst OG;have W:=yV o.o d;have k:=O.o l[s] (aP K);have h:=(u.o.C (p:=af7 M (F+s)) L).T H;have⟨x,b⟩:=ar (l[s+1]);have⟨y,J⟩:=ar (l[s]);simp only[b,J] at I h q X k W;have D:=ax (show ad0 .u64 (ad0 .u64 x - ad0 .u64 y)=x - y by simp only[iy];omega);have hst:(s:Int)<(ab0 l:Int):=aa;have i:ad0 .i64 (s:Int)=(s:Int):=cy _ aa;clear b J S H;go_wp21;rw[D.o];refine WE (AV (x - y) z.heap.size u0 _ (G++ry none (l.take (s+1))) _ (by simp only[aI];omega) (hO.alloc U.o _) aa (jC.ig _ _ _ _ _ rfl) aa  aa) ?_;rintro R Y ⟨a,f⟩;have T:=ax (by rw[q.o,<-aN];exact a:OwnB z.heap.size Y R (G++ry none (l.take (s+1+1))));have V:Hid (af3 z Y):=ax ((u.o.alloc aa _).T f);clear a f i;go_wp2;go_roundg (ab0 l - (s+1+1))
    exact⟨s+1+1,rfl,aa,af,T,V⟩;have:=N.o;omega
  .obtain rfl:t=ab0 l:=aa
   go_wp2;refine ak ?_;exact⟨_,rfl,by rw[j.o];exact U.o,u.o⟩
def O0(k:Int)(L:LL)(z:Nat):zE k L z=outs k z (ab0 L) 3++lF (L.take (ab0 L)):=by
 unfold zE outs;rw[cK];simp
def zD.YV{base:Nat}{w:World}{A:Option Addr}{c:Nat}(h:zD base w (.slice A n c) vs L){j:Nat}(u:j<ab0 L):∃z y x v,A=some (af7 z y)/\z<w.heap.size/\w.cell? (af7 z (y+j))=some (.slice x (ab0 (lvl L j)) v)/\iQ iY w (.slice x (ab0 (lvl L j)) v) (lvl L j):=h.TU.at_ u
def zc{F:Nat->Prop}{g k led a:Nat}{lv:Value}(w:World)(y:rl F w g k n led lv vs L)(z:ku (L,led,a))(x:∀j,mm (lvl L j))(h:k<=1000000):af4 af5 127 #[aq g] w λe c=>∃v,e=.returned (.tuple #[v,af6 0])/\OwnB w.heap.size c v (zE k L led)/\af3 w c:=by
 have hlenL:=z.s5;have o:=z.TX;have BZ:led<=4611686018427387904:=z.led;have u:=ax (s4 w y aa  aa);have s:=ax (λW (t:af3 w W)=>y.K t);have R:=ax (λj=>(z.jk j:pz (lvl L j)));have V:=ax x;have P:=ax (λj=>sy L j);have U:=ax (λj=>iD L j);have t:=ax (O0 k L led);have G:=y_ k led (ab0 L) 3;clear y z x;go_in;go_wp21;refine(u.o).M ?_;rintro e z ⟨v1,vs1,rfl,x,y⟩;obtain⟨B,A,K,l,m⟩:=x.TU.form;subst K;have T:=ax x;have b:=ax y;have r:=ax (s.o z y);have f:=y.size;clear x y u s;go_wp21;refine RX (size_any z r.o) ?_;intro D u;subst u;go_wp21;refine RX (Hy z r.o) ?_;intro D u;subst u;go_wp21;refine WE (LP k led (ab0 L) z.heap.size _ _ [] _ ad (hO.nil_ _ _ _ _) ad (jC.OZ _ _ _ _ _ _ _ rfl) aa  aa  aa  aa  aa  aa) ?_;rintro v3 C ⟨x,s⟩;have⟨H,y⟩:=ar (outs (k:Int) led (ab0 L) 3);rw[bB,y] at x;rw[y] at t G;have O:=ax x;have Y:Hid (af3 z C):=ax (((aC _ _).alloc aa _).T s);clear x s y;go_wp2;go_loopg [5,7,24] (ab0 L) (λq v _ i wr=>∃j:Nat,q=ab0 L - j/\j<=ab0 L/\i=af6 (j:Int)/\Hid (OwnB z.heap.size wr v (H++lF (L.take j)))/\Hid (af3 z wr))
 exact⟨0,aa,aa,rfl,ax (by simpa[lF] using O.o),Y⟩
 case round=>
  obtain⟨j,v,W,rfl,x,y⟩:=hrel;have S:=ax v;clear v;have htl:=P.o j;by_cases q:j<ab0 L
  .obtain⟨J,E,sA,sc,M,I,s,d⟩:=T.o.YV q
   subst M;have Q:=ax (AO q);have hlc:=U.o j;have k1:=(y.o.C (p:=af7 J (E+j)) I).T s;have v:=ax (H7 u5 _ (H++lF (L.take j)) (lvl L j) z wr y.o d (R.o j) (V.o j) aa x.o (by rw[aE];omega));rw[aN,<-Q.o] at v;have i:(j:Int)<(ab0 L:Int):=aa;clear d s;go_wp21;refine WE v.o ?_;rintro v4 w4 ⟨d,s⟩;have N:=ax d;have X:=ax s;clear d s;go_wp2;go_roundg (ab0 L - (j+1))
   exact⟨j+1,rfl,aa,af,N,X⟩;have:=S.o;omega
  .obtain rfl:j=ab0 L:=aa
   go_wp2;refine ak ?_;exact⟨_,rfl,by rw[t.o];exact hO.lift x.o (λk e=>bf f (hO.lt x.o k e).1),b.o.T (y.o.M f)⟩
end
