/- Parts. -/
import Derived.Test.YtdicblkhpcphfaaGreatPU08
set_option maxRecDepth 100000
set_option maxHeartbeats 0
set_option linter.all false
namespace Go.Proofs.YtdicblkhpcphfaaGreat
open Tryz Go.RowKit Go.Lib
open _root_.List renaming length→ab0
open Go.IntKind renaming wrap→ad0
open _root_.Go renaming Calls→af4
open Tryz renaming prog→af5
namespace D
variable{a k low m u v x:Nat}
def Ni:(2:Nat) ^ 64=18446744073709551616:=ab
def re(y:x<18446744073709551616):Lib.bitLen x<=k<->x<2 ^ k:=by
 constructor
 .intro h
  by_cases z:x<2 ^ k
  .exact z
  .have t:=Lib.bitLen_shift k x aa (by rw[Ni];exact y)
   have u:0<2 ^ k:=cB k;have s:1<=x / 2 ^ k:=(dI u).2 aa;have v:x / 2 ^ k<2 ^ 64:=by rw[Ni];exact eY (el ..) y
   have r:=Lib.bitLen_half (x / 2 ^ k) aa v;omega
 .intro h
  by_cases z:k<=64
  .exact Lib.bitLen_le x k z h
  .exact bf (Lib.bitLen_le x 64 (aD _) (by rw[Ni];exact y)) aa
def By(z:x<18446744073709551616):k<Lib.bitLen x<->2 ^ k<=x:=by
 have:=re (k:=k) z;omega
def jg(u m v:Nat):Nat:=Lib.bitLen v - (u+m)
def Sg(z:v<18446744073709551616):v<2 ^ (u+m+jg u m v):=(re z).1 (by unfold jg;omega)
def UY(z:v<18446744073709551616)(h:0<jg u m v):2 ^ (u+m+jg u m v - 1)<=v:=(By z).1 (by unfold jg at *;omega)
def yn{b:Nat}(z:v<18446744073709551616):jg u m v<=b<->v<2 ^ (u+m+b):=by
 rw[<-re z];unfold jg;omega
def lU(z:v<9223372036854775808):u+m+jg u m v<=63\/jg u m v=0:=by
 have h:Lib.bitLen v<=63:=(re aa).2 (by rw[show(2:Nat) ^ 63=9223372036854775808 by decide];exact z);unfold jg;omega
def xm(u m v:Nat):Nat:=v / 2 ^ (jg u m v+u)
def Aq(z:v<18446744073709551616):xm u m v<2 ^ m:=by
 unfold xm;rw[eF (cB _),<-eP];rw[show m+(jg u m v+u)=u+m+jg u m v by omega];exact Sg z
def Sh(y:0<m)(z:v<18446744073709551616)(h:0<jg u m v):2 ^ (m - 1)<=xm u m v:=by
 unfold xm;rw[dI (cB _),<-eP];rw[show m - 1+(jg u m v+u)=u+m+jg u m v - 1 by omega];exact UY z h
def oJ(u m v:Nat):Nat:=jg u m v * 2 ^ (m - 1)+xm u m v
def Dn(z:0<m):2 ^ m=2 * 2 ^ (m - 1):=by
 rw[show m=m - 1+1 by omega,cC];simp[cJ]
def XH(m i:Nat):Nat × Nat:=if i / 2 ^ (m - 1)=0 then(0,i) else(i / 2 ^ (m - 1) - 1,i % 2 ^ (m - 1)+2 ^ (m - 1))
def Nj(s:0<m)(q:v<18446744073709551616):XH m (oJ u m v)=(jg u m v,xm u m v):=by
 have x:=Aq (u:=u) (m:=m) q;have f:=Sh (u:=u) s q;have r:0<2 ^ (m - 1):=cB _;rw[Dn s] at x;unfold XH oJ;obtain⟨H,z⟩:∃H,H=2 ^ (m - 1):=⟨_,rfl⟩;obtain⟨b,t⟩:∃b,b=jg u m v:=⟨_,rfl⟩;obtain⟨c,y⟩:∃c,c=xm u m v:=⟨_,rfl⟩;rw[<-z,<-y] at x;rw[<-z,<-t,<-y] at f;rw[<-z] at r;rw[<-z,<-t,<-y];by_cases d:c<H
 .have p:b=0:=aa
  rw[p,dj,cG,fw d];simp
 .have e:b * H+c=(b+1) * H+(c - H):=by rw[ec];omega
  have p:(b * H+c) / H=b+1:=by
   rw[e,cJ,Nat.mul_add_div r,fw aa]
  have g:(b * H+c) % H=c - H:=by rw[e,cJ,Nat.mul_add_mod,fA aa]
  rw[p,g,aF aa];exact Prod.ext ad (by show c - H+H=c;omega)
def Mo(u m v:Nat):Nat:=xm u m v * 2 ^ (jg u m v+u)
def Nk(u m v:Nat):Mo u m v<=v:=Nat.div_mul_le_self ..
def UZ(p:0<m)(y:v<18446744073709551616):jg u m (Mo u m v)=jg u m v:=by
 have q:=Nk u m v;have z:Mo u m v<18446744073709551616:=aa;refine Nat.le_antisymm ?_ ?_
 .rw[yn z]
  exact eY q (Sg y)
 .by_cases g:jg u m v=0
  .omega
  .by_cases r:jg u m v<=jg u m (Mo u m v)
   .exact r
   .have x:jg u m (Mo u m v)<=jg u m v - 1:=aa
    rw[yn z] at x;have t:=Sh (u:=u) p y aa;have s:2 ^ (m - 1) * 2 ^ (jg u m v+u)<=Mo u m v:=cN _ t;rw[<-eP,show m - 1+(jg u m v+u)=u+m+(jg u m v - 1) by omega] at s;omega
def hiN(a low:Nat):Nat:=min 9223372036854775807 (min 9223372036854775807 (low+low * a / 10000) * 10000 / (10000 - a))
def qK(a:Nat):Nat->Nat->Nat
 | 0,low=>low
 | n+1,low=>qK a n (hiN a low+1)
def Bz(a m:Nat):∀n low,qK a (n+m) low=qK a m (qK a n low)
 | 0,low=>by rw[cG];rfl
 | n+1,low=>by rw[Nat.succ_add];exact Bz a m n _
def SX:qK 100 2100 1=9223372036854775808:=by
 have s:∀{x y z:Nat} (n:Nat),qK 100 100 x=y->qK 100 n y=z->qK 100 (100+n) x=z:=λn h k=>by rw[Bz,h,k]
 exact s (y:=104) 2000 ai (s (x:=104) (y:=796) 1900 ai (s (x:=796) (y:=5881) 1800 ai (s (x:=5881) (y:=43437) 1700 ai (s (x:=43437) (y:=321021) 1600 ai (s (x:=321021) (y:=2372209) 1500 ai (s (x:=2372209) (y:=17529544) 1400 ai (s (x:=17529544) (y:=129535419) 1300 ai (s (x:=129535419) (y:=957208293) 1200 ai (s (x:=957208293) (y:=7073337340) 1100 ai (s (x:=7073337340) (y:=52268771102) 1000 ai (s (x:=52268771102) (y:=386242632093) 900 ai (s (x:=386242632093) (y:=2854158758609) 800 ai (s (x:=2854158758609) (y:=21090945283128) 700 ai (s (x:=21090945283128) (y:=155852568324805) 600 ai (s (x:=155852568324805) (y:=1151680151238675) 500 ai (s (x:=1151680151238675) (y:=8510396620432366) 400 ai (s (x:=8510396620432366) (y:=62887990697042869) 300 ai (s (x:=62887990697042869) (y:=464713872960532417) 200 ai (s (x:=464713872960532417) (y:=3434025818416436332) 100 ai (s (x:=3434025818416436332) (y:=9223372036854775808) 0 ai (rfl)))))))))))))))))))))
def Dp(a z:Nat):hiN a z<=9223372036854775807:=Nat.min_le_left ..
def Qr{Dq:Nat}(x:100<=a)(t:a<=5000)(h:Dq<=low):hiN 100 Dq<=hiN a low:=by
 unfold hiN;have z:Dq * 100<=low * a:=cL h x;have v:Dq * 100 / 10000<=low * a / 10000:=gO z;have y:min 9223372036854775807 (Dq+Dq * 100 / 10000)<=min 9223372036854775807 (low+low * a / 10000):=aa;have u:min 9223372036854775807 (Dq+Dq * 100 / 10000) * 10000 / (10000 - 100)<=min 9223372036854775807 (low+low * a / 10000) * 10000 / (10000 - a):=
  bf (gO (cN _ y)) (Nat.div_le_div_left aa  aa)
 omega
def Dr{a:Nat}(z:100<=a)(y:a<=5000):∀(n:Nat) {x v:Nat},v<=x->qK 100 n v<=qK a n x
 | 0,_,_,h=>h
 | n+1,_,_,h=>Dr z y n (Nat.succ_le_succ (Qr z y h))
def Qs(z:100<=a)(y:a<=5000):9223372036854775808<=qK a 2100 1:=by
 have:=Dr z y 2100 (aD 1);rw[SX] at this;exact this
structure Sp where
 low:Int
 mid:Int
 high:Int
def oZ(a low:Nat):Sp:=⟨low,(min 9223372036854775807 (low+low * a / 10000):Nat),hiN a low⟩
def nk(a:Nat):Nat->Nat->List Sp
 | 0,_=>[]
 | n+1,low=>oZ a low::if hiN a low=9223372036854775807 then [] else nk a n (hiN a low+1)
def spans(a:Nat):List Sp:=nk a 2100 1
def tI(a:Nat):∀n low,ab0 (nk a n low)<=n
 | 0,_=>by simp[nk]
 | n+1,low=>by
  unfold nk;have:=tI a n (hiN a low+1);split<;>simp only[aK,aY]<;>omega
def U0(x:a<=5000)(h:low<=9223372036854775807):low<=hiN a low:=by
 unfold hiN;have z:low<=min 9223372036854775807 (low+low * a / 10000):=aa;have y:low<=min 9223372036854775807 (low+low * a / 10000) * 10000 / (10000 - a):=by
  rw[dI aa];exact cL z aa
 omega
def yo{a:Nat}(v:a<=5000):∀(n low:Nat),1<=low->low<=9223372036854775807->(∃k,k<n/\hiN a (qK a k low)=9223372036854775807) ->
 (∀s∈nk a n low,1<=s.low/\(low:Int)<=s.low/\s.low<=s.mid/\s.mid<=s.high/\s.high<=9223372036854775807)/\(nk a n low).Pairwise (λx y=>x.high<y.low) /\
  ∃s,(nk a n low).getLast?=some s/\s.high=9223372036854775807
 | 0,_,_,_,⟨k,hk,_⟩=>absurd hk aa
 | n+1,low,h1,h2,⟨k,hk,he⟩=>by
  have p:=U0 v h2;have f:=Dp a low;have d:min 9223372036854775807 (low+low * a / 10000)<=hiN a low:=by
   unfold hiN;have:min 9223372036854775807 (low+low * a / 10000)<=min 9223372036854775807 (low+low * a / 10000) * 10000 / (10000 - a):=by
    rw[dI aa];exact Nat.mul_le_mul_left _ aa
   omega
  have u:1<=(oZ a low).low/\(low:Int)<=(oZ a low).low/\(oZ a low).low<=(oZ a low).mid/\(oZ a low).mid<=(oZ a low).high/\(oZ a low).high<=9223372036854775807:=by
   unfold oZ;refine⟨?_,?_,?_,?_,?_⟩<;>simp only<;>omega
  unfold nk;by_cases x:hiN a low=9223372036854775807
  .rw[aH x]
   refine⟨λs h=>?_,ad,oZ a low,rfl,?_⟩
   .simp only[bQ] at h
    subst h;exact u
   .show((hiN a low:Nat):Int)=_
    omega
  .rw[aF x]
   have g:0<k:=by
    cases k with
    | zero=>exact absurd he x
    | succ k=>omega
   obtain⟨t,r,s,y,q⟩:=yo v n (hiN a low+1) aa  aa ⟨k - 1,aa,by
    have:k=k - 1+1:=aa;rw[this] at he;exact he⟩
   refine⟨λs h=>?_,aR.2 ⟨λs h=>?_,r⟩,s,?_,q⟩
   .rcases aS.1 h with rfl|h
    .exact u
    .have:=t s h
     omega
   .have:=t s h
    show((hiN a low:Nat):Int)<s.low
    omega
   .cases hz:nk a n (hiN a low+1) with
    | nil=>rw[hz] at y;simp at y
    | cons z l=>rw[hz] at y;rw[List.getLast?_cons_cons,y]
def Nl(z:100<=a)(y:a<=5000):∃k,k<2100/\hiN a (qK a k 1)=9223372036854775807:=by
 have h:=Qs z y;rw[show(2100:Nat)=2099+1 from rfl,Bz] at h;have e:qK a 1 (qK a 2099 1)=hiN a (qK a 2099 1)+1:=rfl;rw[e] at h;have:=Dp a (qK a 2099 1);exact⟨2099,aa,aa⟩
def rf(p:100<=a)(z:a<=5000):(∀s∈spans a,1<=s.low/\s.low<=s.mid/\s.mid<=s.high/\s.high<=9223372036854775807)/\(spans a).Pairwise (λx y=>x.high<y.low) /\
 ab0 (spans a)<=2100/\∃s,(spans a).getLast?=some s/\s.high=9223372036854775807:=by
 obtain⟨t,r,q⟩:=yo z 2100 1 (aD _) aa (Nl p z);refine⟨λs h=>?_,r,tI ..,q⟩;obtain⟨y,_,x,v,u⟩:=t s h;exact⟨y,x,v,u⟩
end D
structure vT(α:Type) where
 k:Nat
 t:TypeId
 enc:α->List Value
 len:∀x,ab0 (enc x)=k
 one:∀x,∀u∈enc x,u.oneCell'=true
section
variable {α : Type} (E : vT α)
def cellsE(l:List α):List Value:=l.flatMap E.enc
@[simp] theorem SY:cellsE E []=[]:=rfl
def i9(x:α)(l:List α):cellsE E (x::l)=E.enc x++cellsE E l:=rfl
def jW(a b:List α):cellsE E (a++b)=cellsE E a++cellsE E b:=List.flatMap_append
def iA:∀l:List α,ab0 (cellsE E l)=ab0 l * E.k
 | []=>by simp
 | x::l=>by rw[i9,aE,E.len,iA l,aK,ec,fN]
def mD:∀(l:List α) (j:Nat) (hj:j<ab0 l) (i:Nat),i<E.k->(cellsE E l)[j * E.k+i]?=(E.enc l[j])[i]?
 | x::l,0,_,i,hi=>by
  rw[i9,cD (by rw[E.len];omega)];simp
 | x::l,j+1,hj,i,hi=>by
  have z:j<ab0 l:=by simpa using hj
  rw[i9,cI (by rw[E.len,ec];omega),E.len];rw[show(j+1) * E.k+i - E.k=j * E.k+i by rw[ec];omega];exact mD l j z i hi
def vU(l:List α)(n:Nat):(cellsE E l).take (n * E.k)=cellsE E (l.take n):=by
 rcases fI (ab0 l) n with h|h
 .rw[bc h,bc (by rw[iA];exact cN _ h)]
 .conv=>lhs;rw[<-bL n l,jW]
  have z:ab0 (cellsE E (l.take n))=n * E.k:=by rw[iA,aU,dM h]
  rw[<-z,List.take_left]
def vV(l:List α)(n:Nat):(cellsE E l).drop (n * E.k)=cellsE E (l.drop n):=by
 rcases fI (ab0 l) n with h|h
 .rw[eu h,eu (by rw[iA];exact cN _ h)];rfl
 .conv=>lhs;rw[<-bL n l,jW]
  have z:ab0 (cellsE E (l.take n))=n * E.k:=by rw[iA,aU,dM h]
  rw[<-z,dA]
def nX(l:List α):∀u∈cellsE E l,u.oneCell'=true:=λu z=>by
 obtain⟨x,_,h⟩:=gC.1 z;exact E.one x u h
def Gz:List Value->Nat->List Value->List Value
 | xs,_,[]=>xs
 | xs,p,u::us=>Gz (xs.set p u) (p+1) us
def BA:∀(us xs:List Value) (p:Nat),p+ab0 us<=ab0 xs->Gz xs p us=xs.take p++us++xs.drop (p+ab0 us)
 | [],xs,p,_=>by simp[Gz]
 | u::us,xs,p,h=>by
  rw[aK] at h;rw[Gz,BA us (xs.set p u) (p+1) (by rw[aZ];omega)];rw[List.drop_set,aH aa,aK,show p+1+ab0 us=p+(ab0 us+1) by omega]
  congr 1
  have z:p<ab0 (xs.set p u):=by rw[aZ];omega
  rw[aM z,eH,List.take_set,List.set_eq_of_length_le (by rw[aU];omega)];simp
def yp(l:List α)(j:Nat)(y:j<ab0 l)(x:α):Gz (cellsE E l) (j * E.k) (E.enc x)=cellsE E (l.set j x):=by
 have z:(j+1) * E.k<=ab0 l * E.k:=cN _ y;rw[ec] at z;rw[BA _ _ _ (by rw[E.len,iA];exact z),E.len,vU,show j * E.k+E.k=(j+1) * E.k by rw[ec],vV,List.set_eq_take_append_cons_drop,aH y,jW,i9,aN]
def stores(w:World)(g:Nat):Nat->List Value->World
 | _,[]=>w
 | p,u::us=>stores (w.setCell (af7 g p) u) g (p+1) us
def iQ(w:World)(v:Value)(l:List α):Prop:=Rd E.k w v (ab0 l) (cellsE E l)
def ky(w:World)(A:Option Addr)(l:List α):Prop:=0<ab0 l->∃g off,A=some (af7 g off)/\g<w.heap.size/\∀j (h:j<ab0 l) i,i<E.k->w.cell? (af7 g (off+j * E.k+i))=(E.enc l[j])[i]?
def g8(base:Nat)(w:World)(v:Value)(l:List α):Prop:=w.ownsRow base E.t E.k v (ab0 l) (cellsE E l)
end
section
variable {α : Type} {E : vT α} {w w' : World} {v : Value} {l : List α} {base : Nat}
variable{A:Option Addr}{c g:Nat}
def iQ.K(h:iQ E w v l)(z:af3 w w'):iQ E w' v l:=Rd.K h z
def iQ.form(h:iQ E w v l):∃A c,v=.slice A (ab0 l) c/\ab0 l<=c/\c<=9223372036854775807/\ky E w A l:=by
 obtain⟨_,A,c,p,y,x,u⟩:=h;refine⟨A,c,p,y,by unfold maxLen at x;omega,λz=>?_⟩;obtain⟨g,f,t,s,q⟩:=u z;refine⟨g,f,t,s,λj h i r=>?_⟩;have z:(j+1) * E.k<=ab0 l * E.k:=cN _ h;rw[ec] at z;rw[de,q (j * E.k+i) aa,mD E l j h i r]
def iQ.kn(v:ab0 l<=c)(q:c<=9223372036854775807)(h:ky E w A l):iQ E w (.slice A (ab0 l) c) l:=by
 refine⟨iA E l,A,c,rfl,v,by unfold maxLen;omega,λz=>?_⟩;obtain⟨g,r,u,t,s⟩:=h z;refine⟨g,r,u,t,λj y=>?_⟩;have x:0<E.k:=Nat.pos_of_ne_zero λe=>by rw[e] at y;omega
 have e:=Nat.div_add_mod j E.k;rw[cJ] at e;have z:j / E.k<ab0 l:=(eF x).2 y;have y:=ek j x;rw[<-e,<-de,s _ z _ y,mD E l _ z _ y]
def ky.K(h:ky E w A l)(z:af3 w w'):ky E w' A l:=λv=>by
 obtain⟨g,x,u,y,s⟩:=h v;exact⟨g,x,u,aG y z.size,λj r i t=>(z.C (p:=af7 g (x+j * E.k+i)) y).T (s j r i t)⟩
def ky.drop(h:ky E w A l){off:Nat}(x:A=some (af7 g off))(k:Nat):ky E w (some (af7 g (off+k * E.k))) (l.drop k):=λy=>by
 rw[aW] at y;obtain⟨r,q,z,u,v⟩:=h aa;rw[x] at z;injection z with z;injection z with e1 e2;subst e1;subst e2;refine⟨g,_,rfl,u,λj s i t=>?_⟩;rw[aW] at s;rw[de off,<-eD,v (k+j) aa i t,gh]
def ky.take(h:ky E w A l)(k:Nat):ky E w A (l.take k):=λt=>by
 have s:=gP k l;obtain⟨g,u,z,x,y⟩:=h aa;refine⟨g,u,z,x,λj v i v=>?_⟩;rw[y j aa i v,gw]
def ky.nil:ky E w A []:=λh=>absurd h ad
def iQ.nil_(w:World):iQ E w (.slice none 0 0) []:=Rd.nil_ w E.k
def g8.rd(h:g8 E base w v l):iQ E w v l:=Rd.oX h
def g8.nil_(base:Nat)(w:World):g8 E base w (.slice none 0 0) []:=World.ownsRow_nil w base _ _
def g8.more{base':Nat}(h:g8 E base w v l)(q:base'<=base):g8 E base' w v l:=by
 obtain⟨t,z⟩:=h;refine⟨t,?_⟩;rcases z with z|⟨g,y,x,u,s,r⟩
 .exact .inl z
 .exact .inr ⟨g,y,x,u,aa,r⟩
def g8.stay(h:g8 E base w v l)(q:∀g,v.ownBlock=some g->w'.heap[g]?=w.heap[g]?):g8 E base w' v l:=by
 obtain⟨s,z⟩:=h;refine⟨s,?_⟩;rcases z with z|⟨g,y,x,rfl,u,t,r⟩
 .exact .inl z
 .exact .inr ⟨g,y,x,rfl,u,by rw[q g rfl];exact t,r⟩
def g8.lt(h:g8 E base w v l):∀g,v.ownBlock=some g->base<=g/\g<w.heap.size:=gE h
def g8.K(h:g8 E base w v l)(z:af3 w w'):g8 E base w' v l:=h.stay λg y=>z.block g (h.lt g y).2
def g8.drewN(h:g8 E base w v l)(n:Nat):g8 E base (w.drewN n) v l:=h
def g8.drew(h:g8 E base w v l):g8 E base w.drew v l:=h
def g8.alloc(h:g8 E base w v l)(o:Obj):g8 E base (w.alloc o) v l:=fT h o
def g8.far(h:g8 E base w v l){p:Addr}(y:v.ownBlock≠some p.block)(u:Value):g8 E base (w.setCell p u) v l:=
 h.stay λg z=>a_ w p u g (λe=>y (by rw[z,e]))
def g8.grown{row:Option Nat}(h:g8 E base w v l)(z:w.grownBy w' row)(y:v.ownBlock=none\/v.ownBlock≠row):g8 E base w' v l:=World.ownsRow.kept h z y
def g8.form(h:g8 E base w v l):∃A c,v=.slice A (ab0 l) c/\ab0 l<=c/\c<=9223372036854775807/\ky E w A l:=h.rd.form
def g8.pos(h:g8 E base w v l)(r:0<ab0 l):∃g c,v=.slice (some (af7 g 0)) (ab0 l) c/\base<=g/\g<w.heap.size/\ab0 l<=c/\c<=9223372036854775807:=by
 rcases h.2 with⟨_,q⟩|⟨g,z,t,rfl,y,s,x,u,_⟩
 .omega
 .exact⟨g,z,rfl,y,(h.lt g rfl).2,x,by unfold maxLen at u;omega⟩
def g8.cellAt{g c n:Nat}(h:g8 E base w (.slice (some (af7 g 0)) n c) l){j:Nat}(z:j<ab0 l)(i:Nat)(x:i<E.k):w.cell? (af7 g (j * E.k+i))=(E.enc l[j])[i]?:=by
 have v:n=ab0 l:=by
  obtain⟨A,u,y,_⟩:=h.form;injection y
 subst v;have y:(j+1) * E.k<=ab0 l * E.k:=cN _ z;rw[ec] at y;rw[fH h _ aa,mD E l j z i x]
def g8.frozenAt{g c n:Nat}(h:g8 E base w (.slice (some (af7 g 0)) n c) l)(j:Nat):w.frozen? (af7 g j)=false:=by
 have z:n=ab0 l:=by
  obtain⟨A,x,y,_⟩:=h.form;injection y
 subst z;exact fo h _
def vX{t:TypeId}{k g c n:Nat}:∀(us z:List Value) (w:World) (p:Nat),w.ownsRow base t k (.slice (some (af7 g 0)) n c) n z->(stores w g p us).ownsRow base t k (.slice (some (af7 g 0)) n c) n (Gz z p us)
 | [],_,_,_,h=>h
 | u::us,_xs,_w,p,h=>vX us _ _ _ (eL h p u).1
def g8.hJ{n:Nat}(h:g8 E base w (.slice (some (af7 g 0)) n c) l)(j:Nat)(z:j<ab0 l)(x:α):g8 E base (stores w g (j * E.k) (E.enc x)) (.slice (some (af7 g 0)) n c) (l.set j x):=by
 have y:n=ab0 l:=by
  obtain⟨A,u,v,_⟩:=h.form;injection v
 subst y;have:=vX (E.enc x) (cellsE E l) w (j * E.k) h;rw[yp E l j z x] at this;unfold g8;rw[aZ];exact this
def g8.one(w:World)(x:α)(T:TypeId)(y:T=E.t)(z:Array Value)(v:z=(E.enc x).toArray):g8 E w.heap.size (w.alloc (.cells z T)) (.slice (some (af7 (w.heap.size) 0)) 1 1) [x]:=by
 subst y;subst v;have h:=World.ownsRow_lit (e:=E.t) (size:=E.k) w (E.enc x).toArray 1 (aD w.heap.size) (by unfold maxLen;omega) (by simp[E.len]);unfold g8;rw[show cellsE E [x]=(E.enc x) by rw[i9];simp];exact h
def iQ.ig(w:World)(x:α)(T:TypeId)(y:T=E.t)(z:Array Value)(v:z=(E.enc x).toArray)(H:Nat)(h:w.heap.size=H):iQ E (w.alloc (.cells z T)) (.slice (some (af7 H 0)) 1 1) [x]:=by
 subst h;exact(g8.one w x T y z v).rd
def g8.lit(w:World)(l:List α)(T:TypeId)(y:T=E.t)(z:Array Value)(x:z=(cellsE E l).toArray)(v:ab0 l<=1099511627776):g8 E w.heap.size (w.alloc (.cells z T)) (.slice (some (af7 (w.heap.size) 0)) (ab0 l) (ab0 l)) l:=by
 subst y;subst x;have h:=World.ownsRow_lit (e:=E.t) (size:=E.k) w (cellsE E l).toArray (ab0 l) (aD w.heap.size) (by unfold maxLen;omega) (by simp[iA]);unfold g8;exact h
end
section
variable {P : Program} {α : Type} (E : vT α)
def ij{ts:TypeId}(r:TypeInfo)(z:Value)(q:Nat)(L:P.underlying ts=some (.slice E.t))(U:P.info? E.t=some r)(J:r.zero=some z)(M:r.size=E.k)(X:r.bytes=q)(I:z.cells.size=E.k)(T:0<E.k)(b:q<=128)
 {w:World} {ops:Array Oper} {rest:List Oper} {o:Oper} {a:Act} {Q:Exit->Act->World->Prop} (V:o.guard=none) (s x:Operand)
 (R:o.op=.call {callee:=.builtin .append,args:=#[s,x],argTypes:=#[ts,ts]})
 (base:Nat) (v:Value) (xs:List α) (N:a.eval s=v) (O:g8 E base w v xs) (u:Value) (y:List α) (K:a.eval x=u) (p:iQ E w u y) (S:ab0 xs+ab0 y<=1099511627776) (Y:base<=w.heap.size)
 (h:∀t w',g8 E base w' t (xs++y)->w.grownBy w' v.ownBlock->(t.ownBlock=v.ownBlock\/t.ownBlock=some w.heap.size)->wpList P ops Q rest (a.put o.dst t) w'):wpList P ops Q (o::rest) a w:=by
 obtain⟨A,c,rfl,_,_,_⟩:=p.form;have H:(ab0 xs+ab0 y) * q<=1099511627776 * 128:=cL S b;refine kQ w V s x ts R base E.t r z E.k q L U J M X I T v (ab0 xs) (cellsE E xs) N O A (ab0 y) c (cellsE E y) K p (nX E y) (by unfold maxLen;omega) aa Y λt w' g f d=>h t w' ?_ f d;unfold g8;rw[aE,jW];exact g
end
section
variable {P : Program} {ops : Array Oper} {md : Region.Mode} {S : World -> Prop} {Q : Exit -> Act -> World -> Prop} {t : Nat}
variable{i id:Nat}{v:Value}{a a':Act}{w:World}{d:Bool}{r:List (Nat × Nat)}{o:Oper}
def wpAnyS(P:Program)(md:Region.Mode)(ops:Array Oper)(Q:Exit->Act->World->Prop)(S:World->Prop)(t:Nat):Nat->Array Bool->Act->World->Prop
 | 0,listed,a,w=>Region.ready md ops listed=[]/\Q .normal a w
 | f+1,listed,a,w=>
  (Region.ready md ops listed=[]->Q .normal a w) /\
  ∀i∈Region.ready md ops listed,wpOp P ops Q i (λa' w'=>((listed.setIfInBounds i true).getD t true=false->S w')/\wpAnyS P md ops Q S t f (listed.setIfInBounds i true) a' w') a w
def sP:∀(f:Nat) (z:Array Bool) (a:Act) (w:World),wpAnyS P md ops Q S t f z a w->wpAny P md ops Q f z a w
 | 0,_,_,_,h=>h
 | f+1,_,_,_,h=>⟨h.1,λi x=>wpOp_mono (λz v y=>sP f _ z v y.2) (h.2 i x)⟩
def Si(md:Region.Mode)(ops:Array Oper)(t i:Nat):Prop:=∃o,ops[t]?=some o/\∃e∈o.after,Region.binds md e=true/\e.on=i
def wpAnyS_first{oi:Oper}{S0:World->Prop}(T:i≠t)(U:ops[i]?=some oi)(N:∀(j:Nat) (o:Oper) p b,ops[j]?=some o->o.op≠.select p b)
 (J:∀c a w,Q (.panic c) (a.put oi.dst v) w->Q (.panic c) a w) :
 ∀(fuel:Nat) (z:Array Bool) (a:Act) (w:World),
  (∀j r,ops[j]?=some r->j≠i->z.getD j true=false->(∀e∈r.after,Region.binds md e=true->e.on≠i)->oi.apart ops r=true) ->
  i∈Region.ready md ops z->YieldsIf P ops S0 oi v a->(z.getD t true=false->S w) ->
  ((∀w,S0 w)\/((∀w,S w->S0 w)/\z.getD t true=false/\Si md ops t i)) ->
  wpAnyS P md ops Q S t fuel (z.setIfInBounds i true) (a.put oi.dst v) w->wpAnyS P md ops Q S t (fuel+1) z a w:=by
 intro fuel
 induction fuel with
 | zero=>
  intro z a w _ s Y f y H;have q:S0 w:=by
   rcases y with y|⟨x,g,_⟩
   .exact y w
   .exact x w (f g)
  refine⟨λh=>(by rw[h] at s;cases s),λj d=>?_⟩;by_cases u:j=i
  .subst u;exact Y.wpOp U q ⟨λh=>f (by rwa [getD_set_ne true T] at h),H⟩
  .have:=ready_mono d u
   rw[H.1] at this;cases this
 | succ fuel ih=>
  intro z a w R s Y f y H;have q:S0 w:=by
   rcases y with y|⟨x,g,_⟩
   .exact y w
   .exact x w (f g)
  refine⟨λh=>(by rw[h] at s;cases s),λj d=>?_⟩;by_cases u:j=i
  .subst u;exact Y.wpOp U q ⟨λh=>f (by rwa [getD_set_ne true T] at h),H⟩
  .have x:=H.2 j (ready_mono d u)
   obtain⟨P,r,c,I⟩:=mem_ready.1 d;have O:∀e∈r.after,Region.binds md e=true->e.on≠i:=λe V X G=>by
    have x:=I e V X;have q:=(mem_ready.1 s).1;rw[G] at x;rcases bm i z.size with d|d
    .simp[d] at q x;rw[q] at x;cases x
    .simp[dc d] at x
   have g:=wpOp_putIf c (R j r c u P O) (λp b=>N i oi p b U) (λp b=>N j r p b c) J Y x
   have F:∀k p,ops[k]?=some p->k≠i->(z.setIfInBounds j true).getD k true=false ->
    (∀e∈p.after,Region.binds md e=true->e.on≠i)->oi.apart ops p=true:=λk p y D M C=>by
    refine R k p y D ?_ C;by_cases d:j=k
    .subst d;exact P
    .rw[getD_set_ne true d] at M;exact M
   have E:(∀w,S0 w)\/((∀w,S w->S0 w)/\(z.setIfInBounds j true).getD t true=false/\Si md ops t i):=by
    rcases y with y|⟨B,A,b⟩
    .exact .inl y
    .refine .inr ⟨B,?_,b⟩
     have L:j≠t:=by
      rintro rfl;obtain⟨o,d,e,V,X,K⟩:=b;rw[c] at d;injection d with d;subst d;exact O e V X K
     rw[getD_set_ne true L];exact A
   refine wpOp_mono (λK L d=>?_) g;have b:(z.setIfInBounds j true).getD t true=false->S L:=λh=>d.2.1 (by rw[dZ _ _ (Ne.Y u),getD_set_ne true T];exact h);refine⟨b,ih (z.setIfInBounds j true) K L F (ready_mono s (Ne.Y u)) d.1 b E ?_⟩;rw[dZ _ _ u];exact d.2.2
def o5(md:Region.Mode)(ops:Array Oper)(t:Nat):List (Nat × Nat)->Array Bool->Bool
 | [],listed=>(Region.ready md ops listed).isEmpty
 | (i,0)::r,listed=>decide (Region.ready md ops listed=[i]) && o5 md ops t r (listed.setIfInBounds i true)
 | (i,1)::r,listed=>(Region.ready md ops listed).contains i && Region.free md ops listed i && decide (i≠t) && (listed.getD t true == false) && Region.waitsFor md ops t i && o5 md ops t r (listed.setIfInBounds i true)
 | (i,_+2)::r,listed=>(Region.ready md ops listed).contains i && Region.free md ops listed i && decide (i≠t) && o5 md ops t r (listed.setIfInBounds i true)
def iX(P:Program)(ops:Array Oper)(Q:Exit->Act->World->Prop)(S:World->Prop)(t:Nat):Bool->List (Nat × Nat)->Act->World->Prop
 | _,[],a,w=>Q .normal a w
 | d,(i,0)::r,a,w=>wpOp P ops Q i (λa' w'=>((d || i == t)=false->S w')/\iX P ops Q S t (d || i == t) r a' w') a w
 | d,(i,1)::r,a,w=>∃o v,ops[i]?=some o/\YieldsIf P ops S o v a/\iX P ops Q S t d r (a.put o.dst v) w
 | d,(i,_+2)::r,a,w=>∃o v,ops[i]?=some o/\YieldsIf P ops (λ_=>True) o v a/\iX P ops Q S t d r (a.put o.dst v) w
def oK(u:Region.noSelect ops=true)(y:∀c a w,¬Q (.panic c) a w):∀(l:List (Nat × Nat)) (d:Bool) (listed:Array Bool) (a:Act) (w:World),o5 md ops t l listed=true->listed.getD t true=d->(d=false->S w) ->
 iX P ops Q S t d l a w->wpAnyS P md ops Q S t (ab0 l) listed a w
 | [],d,listed,a,w,hB,_,_,h=>⟨by simpa[o5] using hB,h⟩
 | (i,1)::r,d,listed,a,w,hB,hd,hS,h=>by
  simp only[o5,bC,bD,beq_iff_eq] at hB;obtain⟨⟨⟨⟨⟨s,q⟩,z⟩,Y⟩,X⟩,p⟩:=hB;obtain⟨o,v,x,b,g⟩:=h;exact wpAnyS_first z x (dK u) (λc a w f=>absurd f (y c _ w)) _ listed a w (d_ x q) (by simpa using s) b (λh=>hS (by rw[<-hd];exact h))
   (.inr ⟨λ_ h=>h,Y,Region.waitsFor_spec X⟩) (oK u y r d _ _ w p (by rw[getD_set_ne true z];exact hd) hS g)
 | (i,_+2)::r,d,listed,a,w,hB,hd,hS,h=>by
  simp only[o5,bC,bD] at hB;obtain⟨⟨⟨s,q⟩,z⟩,p⟩:=hB;obtain⟨o,v,x,b,g⟩:=h;exact wpAnyS_first z x (dK u) (λc a w f=>absurd f (y c _ w)) _ listed a w (d_ x q) (by simpa using s) b (λh=>hS (by rw[<-hd];exact h))
   (.inl λ_=>trivial) (oK u y r d _ _ w p (by rw[getD_set_ne true z];exact hd) hS g)
 | (i,0)::r,d,listed,a,w,hB,hd,hS,h=>by
  simp only[o5,bC,bD] at hB;refine⟨λx=>(by rw[hB.1] at x;cases x),λj z=>?_⟩;have q:=mem_ready.1 z;rw[hB.1] at z;have p:j=i:=by simpa using z
  subst p;have s:(listed.setIfInBounds j true).getD t true=(d || j == t):=by
   by_cases v:j=t
   .subst v
    have g:j<listed.size:=by
     rcases bm j listed.size with z|z
     .exact z
     .have:=q.1;simp[dc z] at this
    simp[g]
   .rw[getD_set_ne true v,hd];simp[v]
  exact wpOp_mono (λv g z=>⟨λx=>z.1 (by rw[<-s];exact x),oK u y r _ _ v g hB.2 s z.1 z.2⟩) h
def wL(S:World->Prop)(t:Nat)(l:List (Nat × Nat))(r:P.follows .mixedOrders=true)
 (z:(Region.noSelect ops && decide (ab0 l=ops.size) && decide (t<ops.size) && o5 .any ops t l (Array.replicate ops.size false))=true)
 (s:S w.drew) (h:iX P ops (Calm Q) S t false l a w.drew):(Code.region id ops true).wp P Q a w:=by
 simp only[bC,bD] at z;obtain⟨⟨⟨y,x⟩,v⟩,u⟩:=z;have H:=oK (Q:=Calm Q) y (λ_ _ _ h=>h) l false _ a _ u (by simp[v]) (λ_=>s) h;rw[x] at H;exact eZ Calm.imp (wp_region_any r (sP _ _ _ _ H))
def BB(q:ops[i]?=some o)(p:Region.wanted o (yielded ops a.tmps)=true)
 (h:∀R:Act->Prop,(∀z,iX P ops Q S t d r z w->R z)->∃v,(∀z,S z->po v z ((execOp a.eval o).run P z))/\R (a.put o.dst v)):iX P ops Q S t d ((i,1)::r) a w:=by
 obtain⟨v,u,s⟩:=h _ (λ_ h=>h);refine⟨o,v,q,.inl ⟨p,λz x=>?_⟩,s⟩;have y:=u z x;generalize (execOp a.eval o).run P z=x at *;cases x with
 | ok n w''=>obtain⟨rfl,rfl⟩:=y;rfl
 | halt x w''=>exact y.elim
def BC(q:ops[i]?=some o)(p:Region.wanted o (yielded ops a.tmps)=true)
 (h:∀R:Act->Prop,(∀z,iX P ops Q S t d r z w->R z)->∃v,(∀z,po v z ((execOp a.eval o).run P z))/\R (a.put o.dst v)):iX P ops Q S t d ((i,2)::r) a w:=by
 obtain⟨v,u,s⟩:=h _ (λ_ h=>h);refine⟨o,v,q,.inl ⟨p,λz _=>?_⟩,s⟩;have y:=u z;generalize (execOp a.eval o).run P z=x at *;cases x with
 | ok n w''=>obtain⟨rfl,rfl⟩:=y;rfl
 | halt x w''=>exact y.elim
def GA(x:(i == t)=false)(v:ops[i]?=some o)(u:Region.wanted o (yielded ops a.tmps)=true)
 (h:∀K:Act->World->Prop,(∀y z,S z->iX P ops Q S t d r y z->K y z)->o.wp P a w K Q):iX P ops Q S t d ((i,0)::r) a w:=by
 unfold iX wpOp;simp only[v,u,if_true,x,Bool.or_false];exact .inl (h _ λ_ _ z y=>⟨λ_=>z,y⟩)
def Ds(x:(d || i == t)=true)(v:ops[i]?=some o)(u:Region.wanted o (yielded ops a.tmps)=true)
 (h:∀K:Act->World->Prop,(∀z y,iX P ops Q S t true r z y->K z y)->o.wp P a w K Q):iX P ops Q S t d ((i,0)::r) a w:=by
 unfold iX wpOp;simp only[v,u,if_true,x];exact .inl (h _ λ_ _ z=>⟨λh=>(by cases h),z⟩)
def iq(h:Q .normal a w):iX P ops (Calm Q) S t d [] a w:=h
def pW:Nat->Nat->List (Nat × Nat)->List (Nat × Nat)
 | _,0,r=>r
 | i,n+1,r=>(i,1)::pW (i+1) n r
def FH:Nat->Nat->List (Nat × Nat)->List (Nat × Nat)
 | _,0,r=>r
 | i,n+1,r=>(i,2)::FH (i+1) n r
def o_(i:Nat)(r:List (Nat × Nat)):List (Nat × Nat):=(i,0)::r
def kz(k:iX P ops Q S t d r a' w)(u:ops[i]?=some o:=by rfl)(s:Region.wanted o (yielded ops a.tmps)=true:=by rfl)
 (h:∀z,S z->po v z ((execOp a.eval o).run P z):=by
  intro z y
  first
  | (have q:=Z.o z y;(repeat ((with_reducible have p:=And.left q);(with_reducible replace q:=And.right q)));exact af8)
  | (exact af8))
 (x:∀R:Act->Prop,R a'->R (a.put o.dst v):=by intro R y;go_simp;exact y):iX P ops Q S t d ((i,1)::r) a w:=
 BB u s λR y=>⟨v,h,x R (y _ k)⟩
def sQ(k:iX P ops Q S t d r a' w)(u:ops[i]?=some o:=by rfl)(s:Region.wanted o (yielded ops a.tmps)=true:=by rfl)
 (h:∀y,po v y ((execOp a.eval o).run P y):=by intro y;exact af8)
 (x:∀R:Act->Prop,R a'->R (a.put o.dst v):=by intro R z;go_simp;exact z):iX P ops Q S t d ((i,2)::r) a w:=
 BC u s λR z=>⟨v,h,x R (z _ k)⟩
def nC(h:∀K:Act->World->Prop,(∀y z,S z->iX P ops Q S t d r y z->K y z)->o.wp P a w K Q)(x:(i == t)=false:=by rfl)(v:ops[i]?=some o:=by rfl)(u:Region.wanted o (yielded ops a.tmps)=true:=by rfl):iX P ops Q S t d ((i,0)::r) a w:=GA x v u h
def qc(h:∀K:Act->World->Prop,(∀z y,iX P ops Q S t true r z y->K z y)->o.wp P a w K Q)(x:(d || i == t)=true:=by rfl)(v:ops[i]?=some o:=by rfl)(u:Region.wanted o (yielded ops a.tmps)=true:=by rfl):iX P ops Q S t d ((i,0)::r) a w:=Ds x v u h
def qd(S:World->Prop)(t:Nat)(l:List (Nat × Nat))(y:S w.drew)(h:iX P ops (Calm Q) S t false l a w.drew)(x:P.follows .mixedOrders=true:=by kernel_rfl)
 (z:(Region.noSelect ops && decide (ab0 l=ops.size) && decide (t<ops.size) && o5 .any ops t l (Array.replicate ops.size false))=true:=by kernel_rfl):(Code.region id ops true).wp P Q a w:=wL S t l x z y h
end
namespace D
structure Ty(P:Program){α:Type}(E:vT α)(ts:TypeId):Prop where
 sl:P.underlying ts=some (.slice E.t)
 inf:∃i z b,P.info? E.t=some i/\i.zero=some z/\i.size=E.k/\i.bytes=b/\z.cells.size=E.k/\0<E.k/\b<=128
def rg{P:Program}{α:Type}{E:vT α}{ts:TypeId}{z:Value}{b:Nat}(h:(P.info? E.t).map (λi=>(i.zero,i.size,i.bytes))=some (some z,E.k,b))(sl:P.underlying ts=some (.slice E.t))(r:z.cells.size=E.k)(s:0<E.k)(y:b<=128):Ty P E ts:=by
 obtain⟨q,x,t,u,v⟩:=cR h;exact⟨sl,q,z,b,x,t,u,v,r,s,y⟩
section
variable {P : Program} {α : Type} {E : vT α} {ts : TypeId} {w : World} {base : Nat} {v : Value} {xs : List α}
variable{o:Oper}{a:Act}{Q:Exit->Act->World->Prop}{g:Nat}{T:TypeId}{cs:Array Value}{w':World}
def oM(T:Ty P E ts){ops:Array Oper}{rest:List Oper}(Y:o.guard=none)(s x:Operand)
 (V:o.op=.call {callee:=.builtin .append,args:=#[s,x],argTypes:=#[ts,ts]}) (U:g8 E base w v xs) (R:a.eval s=v) (u:Value) (y:List α) (O:a.eval x=u) (S:iQ E w u y) (X:ab0 xs+ab0 y<=1099511627776) (c:base<=w.heap.size)
 (h:∀z t,g8 E base t z (xs++y)->w.grownBy t v.ownBlock->(z.ownBlock=v.ownBlock\/z.ownBlock=some w.heap.size)->wpList P ops Q rest (a.put o.dst z) t):wpList P ops Q (o::rest) a w:=by
 obtain⟨sl,i,z,b,t,r,q,p,g,f,d⟩:=T;exact ij E i z b sl t r q p g f d Y s x V base v xs R U u y O S X c h
def yq(T:Ty P E ts){K:Act->World->Prop}(s x:Operand)
 (R:o.op=.call {callee:=.builtin .append,args:=#[s,x],argTypes:=#[ts,ts]}) (O:g8 E base w v xs) (N:a.eval s=v) (u:Value) (y:List α) (M:a.eval x=u) (f:iQ E w u y) (S:ab0 xs+ab0 y<=1099511627776) (U:base<=w.heap.size)
 (h:∀t r,g8 E base r t (xs++y)->w.grownBy r v.ownBlock->(t.ownBlock=v.ownBlock\/t.ownBlock=some w.heap.size)->K (a.put o.dst t) r):o.wp P a w K Q:=by
 obtain⟨sl,i,z,b,d,q,p,g,Y,X,V⟩:=T;obtain⟨A,c,rfl,_,_,_⟩:=f.form;have L:(ab0 xs+ab0 y) * b<=1099511627776 * 128:=cL S V;refine nt w s x ts R base E.t i z E.k b sl d q p g Y X v (ab0 xs) (cellsE E xs) N O A (ab0 y) c (cellsE E y) M f (nX E y) (by unfold maxLen;omega) aa U λt r q p g=>h t r ?_ p g;unfold g8;rw[aE,jW];exact q
def own_ne(y:g7 w g T cs)(u:g8 E base w v xs)(t:T≠E.t):v.ownBlock≠some g:=by
 intro e;rcases u.2 with x|⟨f,s,q,rfl,p,z,r⟩
 .rw[x.1] at e;cases e
 .cases e
  unfold g7 at y;rw[y] at z;cases z
  exact t rfl
def iG(z:g7 w g T cs)(y:g8 E base w v xs)(u:T≠E.t)(x:w.grownBy w' v.ownBlock):g7 w' g T cs:=
 (x.block g z.lt (λe=>own_ne z y u e.Y)).T z
def lV{i:Nat}{v':Value}{ys:List α}(u:g7 w g T cs)(t:g8 E base w v xs)(x:T≠E.t)(s:w.grownBy w' v.ownBlock)(y:g8 E base w' v' ys):g7 (w'.setCell (af7 g i) v') g T (cs.setIfInBounds i v')/\g8 E base (w'.setCell (af7 g i) v') v' ys:=
 have z:=iG u t x s
 ⟨z.hJ i v',y.far (own_ne z y x) _⟩
end
variable{v:Value}{F:Nat->Prop}{w w':World}{a k low n:Nat}{acc:List Sp}
def ni{v':Value}{z:Nat}(h:v'.ownBlock=v.ownBlock\/v'.ownBlock=some z)(k:Nat)(e:v'.ownBlock=some k):v.ownBlock=some k\/z<=k:=by
 rcases h with h|h
 .exact .inl (h▸e)
 .rw[h] at e;injection e with e;exact .inr aa
def g9(h:Touch F w w')(o:Nat)(y:k<w.heap.size)(z:¬F k):w'.cell? (af7 k o)=w.cell? (af7 k o):=bn (a:=af7 k o) (h.block k y z)
def kU(h:Touch F w w')(o:Nat)(y:k<w.heap.size)(z:¬F k):w'.frozen? (af7 k o)=w.frozen? (af7 k o):=dr (a:=af7 k o) (h.block k y z)
def BE{α:Type}{E:vT α}{base g:Nat}{xs:List α}(h:g8 E base w v xs)(z:w.heap.size<=g):v.ownBlock≠some g:=λe=>by have:=(h.lt g e).2;omega
def iF:vT Pr where
 k:=2
 t:=192
 enc x:=[af6 x.1,.int .u64 x.2]
 len _:=rfl
 one x u hu:=by
  simp only[aS,cx,or_false] at hu;rcases hu with rfl|rfl<;>rfl
def I9(t:TypeId):vT Sp where
 k:=3
 t:=t
 enc x:=[af6 x.low,af6 x.mid,af6 x.high]
 len _:=rfl
 one x u hu:=by
  simp only[aS,cx,or_false] at hu;rcases hu with rfl|rfl|rfl<;>rfl
def PR(s:Sp):Value:=.agg #[af6 s.low,af6 s.mid,af6 s.high]
def spI:(prog.info? 324).map (λi=>(i.zero,i.size,i.bytes))=some (some (.agg #[af6 0,af6 0,af6 0]),3,24):=by kernel_rfl
def prI:(prog.info? 192).map (λi=>(i.zero,i.size,i.bytes))=some (some (.agg #[af6 0,.int .u64 0]),2,16):=by kernel_rfl
def XI:(prog.info? 154).map (λi=>(i.zero,i.size,i.bytes))=some (some (.agg #[af6 0,af6 0,af6 0]),3,24):=by kernel_rfl
def Dt(n:Int)(w:World)(y:0<=n)(x:n<18446744073709551616):af4 af5 438 #[.int .u64 n,af6 0] w λe z=>e=.returned (af6 (min 9223372036854775807 n))/\w=z:=by
 by_cases h:n > 9223372036854775807
 .rw[show min 9223372036854775807 n=9223372036854775807 by omega]
  go_in;go_wp2;go_ret;exact⟨rfl,rfl⟩
 .rw[show min 9223372036854775807 n=n by omega]
  go_in;go_wp2;go_ret;exact⟨rfl,rfl⟩
def yr(n:Int)(w:World)(y:0<=n)(x:n<18446744073709551616):af4 af5 274 #[.int .u64 n,.bool true] w λe z=>e=.returned (af6 (min 9223372036854775807 n))/\w=z:=by
 by_cases h:n > 9223372036854775807
 .rw[show min 9223372036854775807 n=9223372036854775807 by omega]
  go_in;go_wp2;go_ret;exact⟨rfl,rfl⟩
 .rw[show min 9223372036854775807 n=n by omega]
  go_in;go_wp2;go_ret;exact⟨rfl,rfl⟩
structure XJ(a low:Nat)(x m y:Int):Prop where
 x0:0<=x
 x1:x<=9223372036854775807
 xe:x=(low:Int) * (a:Int) / 10000
 m0:0<=m
 m1:m<=9223372036854775807
 me:m=min 9223372036854775807 ((low:Int)+x)
 y0:0<=y
 y1:y<18446744073709551616
 ye:y=m * 10000 / (10000 - (a:Int))
 sp:oZ a low=⟨low,m,min 9223372036854775807 y⟩
def Sj(s:a<=5000)(h:low<=9223372036854775807):∃x m y,XJ a low x m y:=by
 have z:(low:Int) * (a:Int) / 10000=((low * a / 10000:Nat):Int):=by rw[<-fE];omega
 have r:low * a / 10000<=9223372036854775807:=by
  have:low * a<=9223372036854775807 * 5000:=cL h s;omega
 obtain⟨q,v⟩:∃q,q=low * a / 10000:=⟨_,rfl⟩;obtain⟨M,t⟩:∃M,M=min 9223372036854775807 (low+q):=⟨_,rfl⟩;rw[<-v] at r z;have g:M<=9223372036854775807:=aa;have x:(M:Int) * 10000 / (10000 - (a:Int))=((M * 10000 / (10000 - a):Nat):Int):=by
  rw[show(10000:Int) - (a:Int)=((10000 - a:Nat):Int) by omega,show(M:Int) * 10000=((M * 10000:Nat):Int) by omega];rfl
 have p:M * 10000 / (10000 - a)<18446744073709551616:=by
  rw[eF aa];have:18446744073709551616 * 5000<=18446744073709551616 * (10000 - a):=Nat.mul_le_mul_left _ aa;omega
 obtain⟨y,u⟩:∃y,y=M * 10000 / (10000 - a):=⟨_,rfl⟩;rw[<-u] at p x;refine⟨(q:Int),(M:Int),(y:Int),aa,aa,z.Y,aa,aa,aa,aa,aa,x.Y,?_⟩;unfold oZ hiN;rw[<-v,<-t,<-u]
 congr 1
 omega
def Nm(b a low:Nat)(v:Value)(w:World)(s:g7 w b 322 #[af6 a,v])(S:a<=5000)(R:low<=9223372036854775807):af4 af5 395 #[aq b,af6 low] w (au w (PR (oZ a low))):=by
 obtain⟨x,m,y,K,J,p,P,L,d,N,Y,g,c⟩:=Sj (low:=low) S R;rw[c];have r:=s.k0;have Q:=s.lt;have M:(low:Int)+x<18446744073709551616:=aa;have z:=λw:World=>sC (low:Int) (a:Int) 10000 w aa  aa  aa  aa  aa  aa (by rw[<-p];omega);have u:=λw:World=>sC m 10000 (10000 - (a:Int)) w P aa  aa  aa  aa  aa (by rw[<-g];exact Y);have t:=λw:World=>Dt ((low:Int)+x) w aa  aa;have f:=λw:World=>Dt y w N Y;rw[<-p] at z;rw[<-g] at u;rw[<-d] at t;have X:=ax z;have V:=ax u;have U:=ax t;have T:=ax f;clear z u t f p g d c s;go_in;go_wp21;have s:=ax (g7.new w 324 #[af6 0,af6 0,af6 0]);have u:af3 w (w.alloc (.cells #[af6 0,af6 0,af6 0] 324)):=bw;generalize w.alloc (.cells #[af6 0,af6 0,af6 0] 324)=f at *;refine RX (X.o f) ?_;intro O t;have z:af3 w O:=u.T (t.M u.size);have g:=ax (s.o.K t);have c:=(z.C (p:=af7 b 0) Q).T r;have d:=z.size;clear s u t r;go_wp21;refine Ix (U.o _) ?_;go_wp21;refine RX (V.o _) ?_;intro r u;have s:af3 w r:=z.T (u.M d);have t:=ax (g.o.K u);clear g z u c;go_wp21;refine Ix (T.o _) ?_;have z:(prog.info? 324).map (·.size)=some 3:=by kernel_rfl
 go_wp2_with (refine wpList_store_row rfl 324 (.tmp 4) (.tmp 47) rfl w.heap.size #[af6 low,af6 m,af6 (min 9223372036854775807 y)] rfl rfl 324 _ t.o z rfl (by simp[Value.oneCell']) ?_)
 refine bodyPost_ret (v:=PR ⟨low,m,min 9223372036854775807 y⟩) (results_cell_row (p:=4) (ty:=324) (by kernel_rfl) _ _ w.heap.size 324 _ (0,0) _ rfl (setRow_heap _ _ _ _ _ _ t.o) underlying324 rfl (by kernel_rfl)) rfl ?_;exact⟨rfl,below_setRow s (aD _) _⟩
def Kq(a low:Nat)(w:World)(X:a<=5000)(V:low<=9223372036854775807):af4 af5 188 #[af6 a,af6 low] w (au w (PR (oZ a low))):=by
 obtain⟨x,m,y,N,M,s,T,O,p,Q,f,r,g⟩:=Sj (low:=low) X V;rw[g];have P:(low:Int)+x<18446744073709551616:=aa;have z:=λw:World=>qY (low:Int) (a:Int) 10000 w aa  aa  aa  aa  aa  aa (by rw[<-s];omega);have v:=λw:World=>qY m 10000 (10000 - (a:Int)) w T aa  aa  aa  aa  aa (by rw[<-r];exact f);have u:=λw:World=>yr ((low:Int)+x) w aa  aa;have q:=λw:World=>yr y w Q f;rw[<-s] at z;rw[<-r] at v;rw[<-p] at u;have d:=ax z;have c:=ax v;have b:=ax u;have Y:=ax q;clear z v u q s r p g;go_in;go_wp21;have s:=ax (g7.new w 154 #[af6 0,af6 0,af6 0]);have z:af3 w (w.alloc (.cells #[af6 0,af6 0,af6 0] 154)):=bw;generalize w.alloc (.cells #[af6 0,af6 0,af6 0] 154)=q at *;refine RX (d.o q) ?_;intro S v;have u:af3 w S:=z.T (v.M z.size);have r:=ax (s.o.K v);have U:=u.size;clear s z v;go_wp21;refine Ix (b.o _) ?_;go_wp21;refine RX (c.o _) ?_;intro R z;have g:af3 w R:=u.T (z.M U);have s:=ax (r.o.K z);clear r u z;go_wp21;refine Ix (Y.o _) ?_;have z:(prog.info? 154).map (·.size)=some 3:=by kernel_rfl
 go_wp2_with (refine wpList_store_row rfl 154 (.tmp 4) (.tmp 41) rfl w.heap.size #[af6 low,af6 m,af6 (min 9223372036854775807 y)] rfl rfl 154 _ s.o z rfl (by simp[Value.oneCell']) ?_)
 refine bodyPost_ret (v:=PR ⟨low,m,min 9223372036854775807 y⟩) (results_cell_row (p:=4) (ty:=154) (by kernel_rfl) _ _ w.heap.size 154 _ (0,0) _ rfl (setRow_heap _ _ _ _ _ _ s.o) underlying154 rfl (by kernel_rfl)) rfl ?_;exact⟨rfl,below_setRow g (aD _) _⟩
def GB(h:¬hiN a low=9223372036854775807):nk a (n+1) low=oZ a low::nk a n (hiN a low+1):=by rw[nk,aF h]
def GC(h:hiN a low=9223372036854775807):nk a (n+1) low=[oZ a low]:=by rw[nk,aH h]
structure Rest(a q low:Nat)(acc:List Sp):Prop where
 all:acc++nk a q low=spans a
 lo:low<=9223372036854775807
 len:ab0 acc+q=2100
 end_:∃k,k<q/\hiN a (qK a k low)=9223372036854775807
def rest_start(z:100<=a)(y:a<=5000):Rest a 2100 1 []:=⟨rfl,aa,rfl,Nl z y⟩
def Rest.pos{q:Nat}(h:Rest a q low acc):∃n,q=n+1:=by
 obtain⟨k,z,_⟩:=h.end_;exact⟨q - 1,aa⟩
def Rest.more(h:Rest a (n+1) low acc)(x:¬hiN a low=9223372036854775807):Rest a n (hiN a low+1) (acc++[oZ a low]):=by
 obtain⟨z,v,u,k,t,y⟩:=h;rw[GB x] at z;have:=Dp a low;refine⟨by rw[aN];exact z,aa,by rw[aE];simp;omega,?_⟩;cases k with
 | zero=>exact absurd y x
 | succ k=>exact⟨k,aa,y⟩
def Rest.done(h:Rest a (n+1) low acc)(z:hiN a low=9223372036854775807):acc++[oZ a low]=spans a:=by
 have:=h.all
 rwa [GC z] at this
def yt(base:Nat)(w:World)(b a:Nat):Prop:=base<=b/\∃v,g7 w b 322 #[af6 a,v]/\g8 (I9 324) base w v (spans a)
def XK:Ty prog (I9 324) 320:=rg spI underlying320 rfl ab  ab
def U3:Ty prog (I9 154) 129:=rg XI underlying129 rfl ab  ab
def oB:Ty prog iF 126:=rg prI underlying126 rfl ab  ab
def Kr(a:Nat)(w:World)(ha:100<=a)(H:a<=5000):af4 af5 337 #[af6 a] w λe T=>∃b,e=.returned (.tuple #[aq b,af6 0])/\yt w.heap.size T b a/\af3 w T:=by
 have l:=ax (rest_start ha H);go_in;go_wp2;go_loopg [5] 2100 (λq v wr=>∃(z:Nat) (y:List Sp),v=af6 z/\Hid (Rest a q z y)/\Hid (∃U,g7 wr w.heap.size 322 #[af6 a,U]/\g8 (I9 324) w.heap.size wr U y)/\af3 w wr)
 exact⟨1,[],rfl,l,ax ⟨_,g7.new _ _ _,g8.nil_ _ _⟩,bw⟩
 case round=>
  obtain⟨z,y,rfl,f,v,I⟩:=hrel;obtain⟨n,rfl⟩:=f.o.pos;obtain⟨U,x,t⟩:=v.o;have hlo:=f.o.lo;have hlen:=f.o.len;have hz:=I.size;have j:=ax (Nm w.heap.size a z U wr x H hlo);have b:=ax x;have u:=ax t;clear x t v;go_wp21;refine RX j.o ?_;intro t s;unfold PR;go_wp21;have Y:af3 t (t.alloc (.cells #[af6 (oZ a z).low,af6 (oZ a z).mid,af6 (oZ a z).high] 324)):=bw;have c:=g7.new t 324 #[af6 (oZ a z).low,af6 (oZ a z).mid,af6 (oZ a z).high];generalize t.alloc (.cells #[af6 (oZ a z).low,af6 (oZ a z).mid,af6 (oZ a z).high] 324)=r at *;have⟨C,P⟩:=ar (t.heap.size);rw[P] at c |-;have N:af3 wr r:=s.T (Y.M s.size);have R:af3 w r:=I.T (N.M hz);have q:=ax (b.o.K N);have X:=ax (u.o.K N);obtain⟨B,m,rfl,_,_,_⟩:=u.o.form;have Q:=own_ne q.o X.o ab
  have M:=BE u.o (g:=C) (aa2 s.size);have hol:=λk e=>(X.o.lt k e).1;have V:=q.o.k1;have x:=c.k0;have p:=c.k1;have d:=c.k2;have O:=q.o.lt;have S:=c.lt;have f1:=q.o.F 1;have hlen':ab0 y+1<=1099511627776:=aa;have hwz:=R.size;have v:=ax (aB x (aB V (aB p d)));have J:=ax (by show _<->((hiN a z:Nat):Int)=_;omega:hiN a z=9223372036854775807<->(oZ a z).high=9223372036854775807);clear x V p d s Y P b u;obtain⟨F,x⟩:∃F:Nat->Prop,F=λk=>(Value.slice B (ab0 y) m).ownBlock=some k:=⟨_,rfl⟩;have P:¬F w.heap.size:=by rw[x];exact Q
  have Y:¬F C:=by rw[x];exact M
  have L:=ax x;clear Q M x;have Z:=ax (λ(T:World) (x:(Touch F r) T)=>(aB ((g9 x 1 O P).T v.o.2.1) (aB ((g9 x 0 S Y).T v.o.1) (aB ((g9 x 1 S Y).T v.o.2.2.1) ((g9 x 2 S Y).T v.o.2.2.2)))));refine qd (Touch F r) 10 (pW 0 6 (o_ 6 (o_ 7 (FH 8 1 (pW 9 1 (o_ 10 [])))))) ((Touch.refl _ _).drew) ?_;iterate 6 refine kz ?_
  refine nC λK x=>?_;go_simp;refine x _ _ (((Touch.refl _ _).drew).alloc _) ?_;refine nC λK x=>?_;refine yq XK (.tmp 23) (.tmp 25) rfl ((X.o.drew).alloc _) rfl _ [oZ a z] rfl (g8.one (E:=I9 324) r.drew (oZ a z) _ rfl _ rfl).rd hlen' ag ?_;intro v7 D p s _;have d:Touch F r D:=(((Touch.refl _ _).drew).alloc _).grown s (λk e=>.inl (by rw[L.o];exact e));have u:=ax (lV (i:=1) ((q.o.drew).alloc _) ((X.o.drew).alloc _) ab s p);obtain⟨A,o,rfl,_,_,_⟩:=p.form;clear p s;refine x _ _ (d) ?_;refine sQ ?_;refine kz ?_;refine qc λK x=>?_;have V:=(g9 d 1 O P).T v.o.2.1;have k9:=(kU d 1 O P).T f1;go_simp;refine x _ _ ?_;refine iq ?_;have h3:=(g9 d 2 S Y).T v.o.2.2.2;have W:ab0 (y++[oZ a z])=ab0 y+1:=ad;rw[W] at u;obtain⟨s,Q⟩:=u.o;have b:=ax (aB s Q);have M:Hid (af3 w (D.setCell (af7 (w.heap.size) 1) (.slice A (ab0 y+1) o))):=ax (R.T (((d.M (G:=λk=>w.heap.size<=k) (λk e=>by rw[L.o] at e;exact hol k e)).setCell (p:=af7 (w.heap.size) 1) (.inl (aD _)) _).below (λ_ e=>e) hwz));clear s Q u R;by_cases u:hiN a z=9223372036854775807
  .have hh':=J.o.1 u
   have R:=ax (f.o.done u);clear u;generalize oZ a z=s at *;go_wp2;go_ret2;exact⟨_,rfl,⟨aD _,_,b.o.1,by rw[<-R.o];exact b.o.2⟩,M.o⟩
  .have hh':¬(oZ a z).high=9223372036854775807:=λh=>u (J.o.2 h)
   have R:=ax (f.o.more u);have hle:=Dp a z;have Q:Hid ((oZ a z).high=((hiN a z:Nat):Int)):=ax rfl;clear u;generalize oZ a z=s at *;have hs0:0<=s.high:=by have:=Q.o;omega
   have hs1:s.high<=9223372036854775806:=by have:=Q.o;omega
   go_wp2;go_roundg n
   exact⟨_,_,by rw[Q.o];go_num,R,ax ⟨_,b.o.1,b.o.2⟩,M.o⟩;omega
def kN(a:Nat)(w:World)(U:100<=a)(b:a<=5000):af4 af5 111 #[af6 a] w λe Y=>∃v,e=.returned v/\g8 (I9 154) w.heap.size Y v (spans a)/\af3 w Y:=by
 have V:=ax (rest_start U b);go_in;go_wp2;go_loopg [3,4] 2100 (λq v x wr=>∃(z:Nat) (u:List Sp),x=af6 z/\Hid (Rest a q z u)/\Hid (g8 (I9 154) w.heap.size wr v u)/\af3 w wr)
 exact⟨1,[],rfl,V,ax (g8.nil_ _ _),bw⟩
 case round=>
  obtain⟨z,u,rfl,x,v,c⟩:=hrel;obtain⟨n,rfl⟩:=x.o.pos;have S:=x.o.lo;have L:=x.o.len;have R:=c.size;have X:=ax (Kq a z wr b S);obtain⟨P,O,rfl,_,_,_⟩:=v.o.form;have N:(ab0 u:Int)<5000:=aa;go_wp21;refine RX X.o ?_;intro p q;unfold PR;have Q:=q.size;have f:=ax (by show _<->((hiN a z:Nat):Int)=_;omega:hiN a z=9223372036854775807<->(oZ a z).high=9223372036854775807)
  go_upto_region 6 with(first
   | (at_builtin
      refine oM U3 rfl (.tmp 12) (.tmp 14) rfl (((v.o.K q).alloc _).alloc _) rfl _ [oZ a z] rfl (iQ.ig (E:=I9 154) _ (oZ a z) _ rfl _ rfl _ ad) ae ag ?_;intro r s t y _;have T:s.cell? (af7 (p.heap.size) 2)=some (af6 (oZ a z).high):=(bn (a:=af7 (p.heap.size) 2) (y.block p.heap.size ae (λe=>BE v.o Q e.Y))).T (by simp[bW]);have g:Hid (af3 w s):=ax ((((c.T (q.M R)).alloc aa _).alloc ae _).grown y ae (λk e=>(v.o.lt k e).1));have d:=ax t;clear t y))
  by_cases y:hiN a z=9223372036854775807
  .have T:=f.o.1 y
   have t:=ax (x.o.done y);clear y;generalize oZ a z=s at *;go_wp2;go_ret;exact⟨_,rfl,by rw[<-t.o];exact d.o,g.o⟩
  .have T:¬(oZ a z).high=9223372036854775807:=λh=>y (f.o.2 h)
   have t:=ax (x.o.more y);have M:=Dp a z;have r:Hid ((oZ a z).high=((hiN a z:Nat):Int)):=ax rfl;clear y;generalize oZ a z=s at *;have K:0<=s.high:=by have:=r.o;omega
   have J:s.high<=9223372036854775806:=by have:=r.o;omega
   go_wp2;go_roundg n
   exact⟨_,_,by rw[r.o];go_num,t,d,g.o⟩;omega
abbrev Ft:=Nat->Prop
def Gr(F:Ft)(w w':World):Ft:=λk=>F k\/(w.heap.size<=k/\k<w'.heap.size)
section
variable {F G : Ft} {w w1 w2 : World}
def jt(z:∀k,F k->k<w.heap.size)(y:w.heap.size<=w1.heap.size):∀k,Gr F w w1 k->k<w1.heap.size:=λk h=>by
 rcases h with h|h
 .have:=z k h;omega
 .exact h.2
def tgr(z:Touch F w w1)(y:Touch (Gr F w w1) w1 w2):Touch F w w2:=z.T y (λ_ h=>h.imp id And.left)
def tbl(t:Touch F w w1)(z:af3 w1 w2):Touch F w w2:=t.T (Touch.of_below (F:=F) z (aD _)) (λ_ h=>.inl h)
def BF(z:af3 w w1)(t:Touch F w1 w2):Touch F w w2:=(Touch.of_below (F:=F) z (aD _)).T t (λ_ h=>.inl h)
def tnew(z:af3 w w1)(t:Touch G w1 w2)(y:∀k,G k->w.heap.size<=k):af3 w w2:=z.T (t.below y z.size)
end
variable{P:Ft->World->Prop}{F:Ft}{w w':World}
structure kK(P:Ft->World->Prop):Prop where
 stay:∀{F:Ft} {w w':World},P F w->(∀k,F k->w'.heap[k]?=w.heap[k]?)->w.heap.size<=w'.heap.size->P F w'
 more:∀{F G:Ft} {w:World},P F w->(∀k,F k->G k)->(∀k,G k->k<w.heap.size)->P G w
 low:∀{F:Ft} {w:World},P F w->∀k,F k->k<w.heap.size
def kK.K(S:kK P)(h:P F w)(z:af3 w w'):P F w':=S.stay h (λk y=>z.block k (S.low h k y)) z.size
def kK.far(S:kK P){G:Ft}(h:P F w)(y:Touch G w w')(x:∀k,F k->¬G k):P F w':=S.stay h (λk z=>y.block k (S.low h k z) (x k z)) y.size
def kK.gr(S:kK P){F':Ft}(z:P F' w')(v:∀k,F' k->F k\/w.heap.size<=k)(x:∀k,F k->k<w.heap.size)(u:w.heap.size<=w'.heap.size):P (Gr F w w') w':=
 S.more z (λk y=>(v k y).imp id λh=>⟨h,S.low z k y⟩) (jt x u)
