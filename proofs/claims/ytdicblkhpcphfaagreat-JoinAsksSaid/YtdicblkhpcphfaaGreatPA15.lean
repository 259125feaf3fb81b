/- Parts. No condition. -/
import Derived.Test.YtdicblkhpcphfaaGreatPA14
import Derived.Maps.RangeWalk
import Derived.Maps.OwnSet
import Derived.Maps.OwnOps
import Derived.Shelf.SortM.Plain
import Derived.Shelf.SortM.SortNone
import Derived.Shelf.SlicesG.SearchI
import Derived.Shelf.SlicesG.Clone
import Derived.Shelf.SlSortCmp.WholeK
set_option maxRecDepth 100000
set_option maxHeartbeats 0
set_option linter.all false
namespace Go.Proofs.YtdicblkhpcphfaaGreat.D
open Tryz
open _root_.List renaming length→ao
open _root_.Go renaming Calls→ar
open Tryz renaming prog→Oe
open Go.RowKit Go.Lib Go.Shelf
section
variable {x y : Nat} {p1 p2 p3 p4 q1 q2 q3 q4 c : Value} {w : World} {n : Int} {Q : Value -> World -> Prop}
def C9(p:gN w y 124 #[.int .u8 3,p1,p2,p3,p4])(q:gN w x 124 #[.int .u8 3,q1,q2,q3,q4])
 (h:∀z,aq w z->ar Oe 122 #[p3] z λe t=>e=.returned (.int .i64 n)/\z=t)
 (g:∀z,aq w z->ar Oe 122 #[q3] z λe t=>e=.returned (.int .i64 n)/\z=t)
 (b:∀z,aq w z->ar Oe 105 #[p3,q3] z λe t=>∃v,e=.returned v/\Q v t) :
 ar Oe 45 #[.pointer (some ⟨y,0,none⟩),.pointer (some ⟨x,0,none⟩),c] w λe t=>∃v,e=.returned v/\Q v t:=by
 have f:Hid (∀z,aq w z->_):=ay (λz u=>qK (q.keep u) (λs r=>g s (u.trans (r.mono u.size))))
 have d:Hid (∀z,aq w z->_):=ay (λz u=>qK (p.keep u) (λs r=>h s (u.trans (r.mono u.size))))
 have X:=ay b;have a:=ay p;have U:=ay q;clear h g b p q;unfold iv at f d
 go_in
 go_wp2_with fail;refine(f.o w (aC _ _)).mono ?_
 rintro e z ⟨rfl,g⟩
 go_wp2_with fail;refine(d.o z g).mono ?_
 rintro e s ⟨rfl,r⟩;have u:=g.trans (r.mono g.size);have T:=(a.o.keep u).k0;have q:=(a.o.keep u).k3;have p:=(U.o.keep u).k3;have b:=ay (aF q p);have S:aq w s.drew:=u.drew
 go_upto_region 11 with fail;clear q p;refine ki (λt=>t=s.drew) 8 (gW 0 8 []) (rfl) ?_
 iterate 8 refine jw (h:=λt Y=>by have q:s.drew.cell? ⟨y,3,none⟩=some p3:=b.o.1;have p:s.drew.cell? ⟨x,3,none⟩=some q3:=b.o.2;subst Y;exact Qv) ?_
 refine gU ?_
 simp only[bc,bp]
 go_wp2_with fail;refine(X.o s.drew S).mono ?_
 rintro e R ⟨v,rfl,Y⟩;have V:=ay Y;clear Y
 go_wp2_with fail;try refine gQ ?_
 go_wp2
 go_ret;exact⟨_,rfl,V.o⟩
end
open Tryz
open _root_.List renaming length→ao
open _root_.Go renaming Calls→ar
open Tryz renaming prog→Oe
open Go.RowKit Go.Lib Go.Shelf
section
variable {x y : Nat} {p1 p2 p3 p4 q1 q2 q3 q4 c : Value} {w : World} {n : Int} {Q : Value -> World -> Prop}
def C_(p:gN w y 124 #[.int .u8 4,p1,p2,p3,p4])(q:gN w x 124 #[.int .u8 4,q1,q2,q3,q4])
 (h:∀z,aq w z->ar Oe 123 #[p4] z λe t=>e=.returned (.int .i64 n)/\z=t)
 (g:∀z,aq w z->ar Oe 123 #[q4] z λe t=>e=.returned (.int .i64 n)/\z=t)
 (b:∀z,aq w z->ar Oe 106 #[p4,q4,c] z λe t=>∃v,e=.returned v/\Q v t) :
 ar Oe 45 #[.pointer (some ⟨y,0,none⟩),.pointer (some ⟨x,0,none⟩),c] w λe t=>∃v,e=.returned v/\Q v t:=by
 have f:Hid (∀z,aq w z->_):=ay (λz u=>qL (q.keep u) (λs r=>g s (u.trans (r.mono u.size))))
 have d:Hid (∀z,aq w z->_):=ay (λz u=>qL (p.keep u) (λs r=>h s (u.trans (r.mono u.size))))
 have X:=ay b;have a:=ay p;have U:=ay q;clear h g b p q;unfold iv at f d
 go_in
 go_wp2_with fail;refine(f.o w (aC _ _)).mono ?_
 rintro e z ⟨rfl,g⟩
 go_wp2_with fail;refine(d.o z g).mono ?_
 rintro e s ⟨rfl,r⟩;have u:=g.trans (r.mono g.size);have T:=(a.o.keep u).k0;have q:=(a.o.keep u).k4;have p:=(U.o.keep u).k4;have b:=ay (aF q p);have S:aq w s.drew:=u.drew
 go_upto_region 12 with fail;clear q p;refine ki (λt=>t=s.drew) 9 (gW 0 9 []) (rfl) ?_
 iterate 9 refine jw (h:=λt Y=>by have q:s.drew.cell? ⟨y,4,none⟩=some p4:=b.o.1;have p:s.drew.cell? ⟨x,4,none⟩=some q4:=b.o.2;subst Y;exact Qv) ?_
 refine gU ?_
 simp only[bc,bp]
 go_wp2_with fail;refine(X.o s.drew S).mono ?_
 rintro e R ⟨v,rfl,Y⟩;have V:=ay Y;clear Y
 go_wp2_with fail;try refine gQ ?_
 go_wp2
 go_ret;exact⟨_,rfl,V.o⟩
end
open Tryz
open _root_.List renaming length→ao
open _root_.Go renaming Calls→ar
open Tryz renaming prog→Oe
open Go.RowKit Go.Lib Go.Shelf
section
variable {x y : Nat} {p1 p2 p3 p4 q1 q2 q3 q4 c : Value} {w : World} {a n lo hi dg : Int} {gr : Bool} {Q : Value -> World -> Prop}
def C'(p:gN w y 124 #[.int .u8 1,p1,p2,p3,p4])(q:gN w x 124 #[.int .u8 1,q1,q2,q3,q4])
 (h:∀z,aq w z->ar Oe 118 #[p1] z λe t=>e=.returned (.agg #[.int .i64 lo,.int .i64 hi,.int .i64 dg])/\aq z t)
 (b:∀z,aq w z->ar Oe 119 #[p1] z λe t=>e=.returned (.bool gr)/\z=t)
 (g:∀z,aq w z->ar Oe 118 #[q1] z λe t=>e=.returned (.agg #[.int .i64 lo,.int .i64 hi,.int .i64 dg])/\aq z t)
 (Y:∀z,aq w z->ar Oe 119 #[q1] z λe t=>e=.returned (.bool gr)/\z=t)
 (X:∀z,aq w z->ar Oe 103 #[p1,q1] z λe t=>∃v,e=.returned v/\Q v t) :
 ar Oe 45 #[.pointer (some ⟨y,0,none⟩),.pointer (some ⟨x,0,none⟩),c] w λe t=>∃v,e=.returned v/\Q v t:=by
 have f:Hid (∀z,aq w z->_):=ay (λz u=>qN (q.keep u) (λs r=>g s (u.trans (r.mono u.size))) (λs r=>Y s (u.trans (r.mono u.size))))
 have d:Hid (∀z,aq w z->_):=ay (λz u=>qN (p.keep u) (λs r=>h s (u.trans (r.mono u.size))) (λs r=>b s (u.trans (r.mono u.size))))
 have V:=ay X;have a:=ay p;have U:=ay q;clear h b g Y X p q;unfold iv at f d
 go_in
 go_wp2_with fail;refine(f.o w (aC _ _)).mono ?_
 rintro e z ⟨rfl,g⟩
 go_wp2_with fail;refine(d.o z g).mono ?_
 rintro e s ⟨rfl,r⟩;have u:=g.trans (r.mono g.size);have T:=(a.o.keep u).k0;have q:=(a.o.keep u).k1;have p:=(U.o.keep u).k1;have b:=ay (aF q p);have S:aq w s.drew:=u.drew
 go_upto_region 7 with fail;clear q p;refine ki (λt=>t=s.drew) 8 (gW 0 8 []) (rfl) ?_
 iterate 8 refine jw (h:=λt Y=>by have q:s.drew.cell? ⟨y,1,none⟩=some p1:=b.o.1;have p:s.drew.cell? ⟨x,1,none⟩=some q1:=b.o.2;subst Y;exact Qv) ?_
 refine gU ?_
 simp only[bc,bp]
 go_wp2_with fail;refine(V.o s.drew S).mono ?_
 rintro e R ⟨v,rfl,Y⟩;have X:=ay Y;clear Y
 go_wp2_with fail;try refine gQ ?_
 go_wp2
 go_ret;exact⟨_,rfl,X.o⟩
def Da(p:gN w y 124 #[.int .u8 2,p1,p2,p3,p4])(q:gN w x 124 #[.int .u8 2,q1,q2,q3,q4])
 (h:∀z,aq w z->ar Oe 120 #[p2] z λe t=>e=.returned (.int .i64 a)/\z=t)
 (b:∀z,aq w z->ar Oe 121 #[p2] z λe t=>e=.returned (.int .i64 n)/\z=t)
 (g:∀z,aq w z->ar Oe 120 #[q2] z λe t=>e=.returned (.int .i64 a)/\z=t)
 (X:∀z,aq w z->ar Oe 121 #[q2] z λe t=>e=.returned (.int .i64 n)/\z=t)
 (V:∀z,aq w z->ar Oe 104 #[p2,q2] z λe t=>∃v,e=.returned v/\Q v t) :
 ar Oe 45 #[.pointer (some ⟨y,0,none⟩),.pointer (some ⟨x,0,none⟩),c] w λe t=>∃v,e=.returned v/\Q v t:=by
 have f:Hid (∀z,aq w z->_):=ay (λz u=>qM (q.keep u) (λs r=>g s (u.trans (r.mono u.size))) (λs r=>X s (u.trans (r.mono u.size))))
 have d:Hid (∀z,aq w z->_):=ay (λz u=>qM (p.keep u) (λs r=>h s (u.trans (r.mono u.size))) (λs r=>b s (u.trans (r.mono u.size))))
 have U:=ay V;have Y:=ay p;have T:=ay q;clear h b g X V p q;unfold iv at f d
 go_in
 go_wp2_with fail;refine(f.o w (aC _ _)).mono ?_
 rintro e z ⟨rfl,g⟩
 go_wp2_with fail;refine(d.o z g).mono ?_
 rintro e s ⟨rfl,r⟩;have u:=g.trans (r.mono g.size);have S:=(Y.o.keep u).k0;have q:=(Y.o.keep u).k2;have p:=(T.o.keep u).k2;have b:=ay (aF q p);have R:aq w s.drew:=u.drew
 go_upto_region 9 with fail;clear q p;refine ki (λt=>t=s.drew) 8 (gW 0 8 []) (rfl) ?_
 iterate 8 refine jw (h:=λt X=>by have q:s.drew.cell? ⟨y,2,none⟩=some p2:=b.o.1;have p:s.drew.cell? ⟨x,2,none⟩=some q2:=b.o.2;subst X;exact Qv) ?_
 refine gU ?_
 simp only[bc,bp]
 go_wp2_with fail;refine(U.o s.drew R).mono ?_
 rintro e P ⟨v,rfl,X⟩;have V:=ay X;clear X
 go_wp2_with fail;try refine gQ ?_
 go_wp2
 go_ret;exact⟨_,rfl,V.o⟩
end
open Tryz
open _root_.List renaming length→ao
open _root_.Go renaming Calls→ar
open Tryz renaming prog→Oe
open Go.Maps
variable{b k m u v:Nat}{D:DataW Unit}{l out:List Pr}{c x:Int}{left:Lit->Bool}
abbrev iL(k:Int):Lit:=.int .i64 k
def Su(k:Int):WideAt.IsKeyLit (iL k):=trivial
abbrev uD(n:Int):DataW Unit:=.lit (.int .u64 n)
def E_{a b:Int}(h:a≠b):iL a≠iL b:=λe=>h (by cases e;rfl)
def MY(a b:Int):(iL a).sameKey (iL b)=decide (a=b):=by
 by_cases h:a=b
 ·subst h;rw[WideAt.sameKey_self (Su _)];simp
 ·rw[sameKey_ne (E_ h)];simp[h]
structure Mo(D:DataW Unit)(l:List Pr):Prop where
 tidy:Tidy D
 J1:∀k:Int,Maps.has D (iL k)=decide (∃p∈l,p.1=k)
 at_:∀(k:Int) (z:DataW Unit),Maps.has D (iL k)=true->D.atKey (iL k) z=uD (kn l k)
 sz:Maps.size D=ao l
def Ps:Mo (.map []) []:=⟨tidy_empty,λk=>by simp[Maps.has],λk z h=>by simp[Maps.has] at h,rfl⟩
def Mo.get(h:Mo D l)(k:Int):D.atKey (iL k) (uD 0)=uD (kn l k):=by
 by_cases x:Maps.has D (iL k)=true
 ·exact h.at_ k _ x
 ·have z:=h.J1 k
  have y:Maps.has D (iL k)=false:=by simpa using x
  rw[y] at z;rw[atKey_of_not_has y,ml];intro p v e;exact absurd z.symm (by simp;exact⟨p.2,by rw[<-e];exact v⟩)
def E'{k n:Int}:∀{l:List Pr},iE l->ao (hO k n l)=if (∃p∈l,p.1=k) then ao l else ao l+1
 | [],_=>by simp[hO]
 | p::l,s=>by
  have v:=aT.1 s;have u:=E' (k:=k) (n:=n) v.2;unfold hO
  by_cases x:p.1<k
  ·have e:(∃q∈p::l,q.1=k)<->(∃q∈l,q.1=k):=⟨λ⟨q,z,e⟩=>by
    rcases aS.1 z with rfl|z
    ·omega
    ·exact⟨q,z,e⟩,λ⟨q,z,e⟩=>⟨q,aP _ z,e⟩⟩
   rw[aH x,aJ,u]
   by_cases y:∃q∈l,q.1=k
   ·rw[aH y,aH (e.2 y)];simp
   ·rw[aG y,aG (λh=>y (e.1 h))];simp
  ·rw[aG x]
   by_cases y:p.1=k
   ·rw[aH y,aH ⟨p,aK ..,y⟩];simp
   ·rw[aG y,aG]
    ·simp
    ·rintro ⟨q,z,e⟩
     rcases aS.1 z with rfl|z
     ·exact y e
     ·have:=v.1 q z;omega
def Mo.put(h:Mo D l)(s:iE l)(x:iu l)(k n:Int)(t:0<n):Mo (D.put (iL k) (uD (kn l k+n))) (hO k n l):=by
 have r:=put_pos t x (k:=k);refine⟨h.tidy.put (Su _) _,λj=>?_,λj z v=>?_,?_⟩
 ·have e:=lV r j
  rw[sm] at e
  by_cases y:j=k
  ·subst y
   rw[has_put_same h.tidy.isMap (Su _)];have:=jy (k:=j) x;simp only[aH] at e;exact(cz (e.2 aa)).symm
  ·rw[has_put_other (E_ y),h.J1 j]
   rw[aG (λh=>y h.symm),dJ] at e
   have u:=lV x j
   congr 1
   exact propext (u.trans e.symm)
 ·rw[sm]
  by_cases y:j=k
  ·subst y
   rw[atKey_put_same h.tidy.isMap (Su _),aH rfl]
  ·rw[has_put_other (E_ y)] at v
   rw[atKey_put_other (E_ y),h.at_ j z v,aG (λh=>y h.symm),dJ]
 ·rw[size_put h.tidy,h.sz,h.J1 k,E' s]
  by_cases z:∃p∈l,p.1=k<;>simp[z]
def J2(s:iE l){p:Pr}(h:p∈l):kn l p.1=p.2:=by
 induction l with
 | nil=>cases h
 | cons q l ih=>
  have z:=aT.1 s
  rcases aS.1 h with rfl|h
  ·exact yw s
  ·have y:=z.1 p h
   have:=ih z.2 h;have e:kn (q::l) p.1=(if q.1=p.1 then q.2 else 0)+kn l p.1:=by simp[kn]
   rw[e,this,aG aa];omega
def Ou(l out:List Pr)(left:Lit->Bool):Prop:=(out++l.filter (λp=>left (iL p.1))).Perm l
def J5(h:Mo D l):Ou l [] (Maps.has D):=by
 show(l.filter (λp=>Maps.has D (iL p.1))).Perm l
 rw[List.filter_eq_self.2 (λp z=>by rw[h.J1];exact cz ⟨p,z,rfl⟩)]
def s6{f:Int->Bool}{p:Pr}:∀{l:List Pr},iE l->p∈l->f p.1=true->(p::l.filter (λq=>f q.1 && !decide (q.1=p.1))).Perm (l.filter (λq=>f q.1))
 | [],_,h,_=>by cases h
 | q::l,s,h,hf=>by
  have x:=aT.1 s
  rcases aS.1 h with rfl|h
  ·have e:l.filter (λq=>f q.1 && !decide (q.1=p.1))=l.filter (λq=>f q.1):=List.filter_congr λq y=>by
    have:=x.1 q y;have z:¬q.1=p.1:=aa
    simp[z]
   simp[hf,e]
  ·have u:=x.1 p h
   have z:¬q.1=p.1:=aa
   have v:=s6 x.2 h hf
   cases y:f q.1
   ·simpa[y,z] using v
   ·simp only[List.filter_cons,y,z,decide_false,Bool.not_false,Bool.and_self,if_true]
    exact(List.Perm.swap q p _).trans (v.cons q)
def Rj(h:Mo D l)(s:iE l)(u:∀z,D.atKey (iL x) z=uD c):(x,c)∈l:=by
 have y:=has_true_of_atKey u;have z:=h.at_ x (uD 0) y;rw[u] at z;have v:=h.J1 x;rw[y] at v;obtain⟨p,t,rfl⟩:=of_decide_eq_true v.symm;rw[J2 s t] at z
 cases z
 exact t
def MZ(s:iE l)(h:Ou l out left)(v:left (iL x)=true)(y:(x,c)∈l):Ou l (out++[(x,c)]) (λz=>left z && !z.sameKey (iL x)):=by
 unfold Ou;have e:l.filter (λp=>left (iL p.1) && !(iL p.1).sameKey (iL x))=l.filter (λp=>left (iL p.1) && !decide (p.1=x)):=List.filter_congr λp _=>by rw[MY]
 rw[e,aO];refine List.Perm.trans ?_ h
 exact List.Perm.append_left out (s6 (f:=λk=>left (iL k)) (p:=(x,c)) s y v)
def Pu(h:Ou l out left)(z:∀y,left y=false):out.Perm l:=by
 unfold Ou at h;rw[List.filter_eq_nil_iff.2 (λp _=>by rw[z];simp),bT] at h
 exact h
def Pv(h:Ou l out left):ao out<=ao l:=by
 have:=h.length_eq;rw[aE] at this;omega
def M3{a b:List Pr}(h:a.Perm b)(k:Int):kn a k=kn b k:=by
 induction h with
 | nil=>rfl
 | cons x _ ih=>simp only[kn,e9,List.sum_cons] at ih |-;omega
 | swap x y l=>simp only[kn,e9,List.sum_cons];omega
 | trans _ _ i1 i2=>exact i1.trans i2
def GZ{r:List Pr}(s:iE l)(z:iu l)(h:r.Perm l)(v:r.Pairwise (λa b=>a.1<=b.1)):r=l:=by
 have y:r.Pairwise (λa b=>a.1≠b.1):=(h.pairwise_iff (λ{a b} (h:a.1≠b.1)=>h.symm)).2 (s.imp (λh=>by omega))
 have u:iE r:=(v.and y).imp (λh=>by omega)
 exact EL u s (λp x=>z p (h.mem_iff.1 x)) z (λk=>M3 h k)
open Tryz
open _root_.List renaming length→ao
open _root_.Go renaming Calls→ar
open Tryz renaming prog→Oe
open Go.Lib
def J6:(2:Nat) ^ 64=18446744073709551616:=ab
def pq{x:Nat}(y:x<18446744073709551616):Lib.bitLen x<=k<->x<2 ^ k:=by
 constructor
 ·intro h
  by_cases z:x<2 ^ k
  ·exact z
  ·have t:=Lib.bitLen_shift k x aa (by rw[J6];exact y)
   have u:0<2 ^ k:=bR k;have s:1<=x / 2 ^ k:=(dC u).2 aa
   have v:x / 2 ^ k<2 ^ 64:=by rw[J6];exact eP (dz ..) y
   have r:=Lib.bitLen_half (x / 2 ^ k) aa v
   omega
 ·intro h
  by_cases z:k<=64
  ·exact Lib.bitLen_le x k z h
  ·exact bf (Lib.bitLen_le x 64 (aD _) (by rw[J6];exact y)) aa
def yJ{x:Nat}(z:x<18446744073709551616):k<Lib.bitLen x<->2 ^ k<=x:=by
 have:=pq (k:=k) z;omega
def im(u m v:Nat):Nat:=Lib.bitLen v - (u+m)
def Ov(z:v<18446744073709551616):v<2 ^ (u+m+im u m v):=(pq z).1 (by unfold im;omega)
def Rl(z:v<18446744073709551616)(h:0<im u m v):2 ^ (u+m+im u m v - 1)<=v:=(yJ z).1 (by unfold im at *;omega)
def Fa(z:v<18446744073709551616):im u m v<=b<->v<2 ^ (u+m+b):=by
 rw[<-pq z];unfold im;omega
def ku(z:v<9223372036854775808):u+m+im u m v<=63\/im u m v=0:=by
 have h:Lib.bitLen v<=63:=(pq aa).2 (by rw[show(2:Nat) ^ 63=9223372036854775808 by decide];exact z)
 unfold im;omega
def p8(u m v:Nat):Nat:=v / 2 ^ (im u m v+u)
def xr(z:v<18446744073709551616):p8 u m v<2 ^ m:=by
 unfold p8;rw[dO (bR _),<-ej];rw[show m+(im u m v+u)=u+m+im u m v by omega]
 exact Ov z
def Ox(y:0<m)(z:v<18446744073709551616)(h:0<im u m v):2 ^ (m - 1)<=p8 u m v:=by
 unfold p8;rw[dC (bR _),<-ej];rw[show m - 1+(im u m v+u)=u+m+im u m v - 1 by omega]
 exact Rl z h
def kh(u m v:Nat):Nat:=im u m v * 2 ^ (m - 1)+p8 u m v
def Az(z:0<m):2 ^ m=2 * 2 ^ (m - 1):=by
 rw[show m=m - 1+1 by omega,b_];simp[cL]
def Pw(m i:Nat):Nat × Nat:=if i / 2 ^ (m - 1)=0 then(0,i) else(i / 2 ^ (m - 1) - 1,i % 2 ^ (m - 1)+2 ^ (m - 1))
def AD(s:0<m)(q:v<18446744073709551616):Pw m (kh u m v)=(im u m v,p8 u m v):=by
 have x:=xr (u:=u) (m:=m) q;have f:=Ox (u:=u) s q;have r:0<2 ^ (m - 1):=bR _;rw[Az s] at x;unfold Pw kh;obtain⟨H,z⟩:∃H,H=2 ^ (m - 1):=⟨_,rfl⟩;obtain⟨b,t⟩:∃b,b=im u m v:=⟨_,rfl⟩;obtain⟨c,y⟩:∃c,c=p8 u m v:=⟨_,rfl⟩;rw[<-z,<-y] at x;rw[<-z,<-t,<-y] at f;rw[<-z] at r;rw[<-z,<-t,<-y]
 by_cases d:c<H
 ·have p:b=0:=aa
  rw[p,db,cJ,eD d];simp
 ·have e:b * H+c=(b+1) * H+(c - H):=by rw[dZ];omega
  have p:(b * H+c) / H=b+1:=by
   rw[e,cL,Nat.mul_add_div r,eD aa]
  have g:(b * H+c) % H=c - H:=by rw[e,cL,Nat.mul_add_mod,Nat.mod_eq_of_lt aa]
  rw[p,g,aG aa]
  exact Prod.ext ad (by show c - H+H=c;omega)
def oJ(u m v:Nat):Nat:=p8 u m v * 2 ^ (im u m v+u)
def xt(u m v:Nat):oJ u m v<=v:=Nat.div_mul_le_self ..
def Oy(p:0<m)(y:v<18446744073709551616):im u m (oJ u m v)=im u m v:=by
 have q:=xt u m v;have z:oJ u m v<18446744073709551616:=aa
 refine Nat.le_antisymm ?_ ?_
 ·rw[Fa z]
  exact eP q (Ov y)
 ·by_cases g:im u m v=0
  ·omega
  ·by_cases r:im u m v<=im u m (oJ u m v)
   ·exact r
   ·have x:im u m (oJ u m v)<=im u m v - 1:=aa
    rw[Fa z] at x;have t:=Ox (u:=u) p y aa
    have s:2 ^ (m - 1) * 2 ^ (im u m v+u)<=oJ u m v:=cd _ t;rw[<-ej,show m - 1+(im u m v+u)=u+m+(im u m v - 1) by omega] at s
    omega
open Tryz
open _root_.List renaming length→ao
open _root_.Go renaming Calls→ar
open Tryz renaming prog→Oe
open Go.RowKit Go.Lib
def jW{a:Nat}(h:a<=b):2 ^ a<=2 ^ b:=bJ aa h
def Px{n:Nat}(h:n<=63):0<2 ^ n/\2 ^ n<=9223372036854775808:=⟨bR n,jW h⟩
def kv(n:Nat)(w:World)(h:n<=63):ar Oe 158 #[.int .i64 n] w λe u=>e=.returned (.int .u64 ((2 ^ n:Nat):Int))/\w=u:=by
 obtain⟨R,z⟩:=au (2 ^ n);have v:=ay z;rw[z];clear z
 go_in
 go_wp2
 go_loopg [3,4] n (λq p x wr=>(∃j:Nat,q=n - j/\j<=n/\x=.int .i64 j/\p=.int .u64 ((2 ^ j:Nat):Int))/\w=wr)
 exact⟨⟨0,rfl,aa,rfl,rfl⟩,rfl⟩
 case round=>
  obtain⟨⟨j,z,t,rfl,rfl⟩,rfl⟩:=hrel;have x:=ay z;clear z
  by_cases r:j<n
  ·have s:(j:Int)<(n:Int):=aa
   have z:=ay (Px (n:=j+1) aa)
   have y:Hid (2 ^ (j+1)=2 * 2 ^ j):=ay (by rw[b_];omega)
   rw[y.o] at z;generalize 2 ^ j=p at *;have q:=z.o
   go_wp2
   go_roundg (n - (j+1))
   exact⟨⟨j+1,rfl,aa,ag,by rw[y.o];go_num⟩,rfl⟩
   have:=x.o;omega
  ·obtain rfl:j=n:=aa
   rw[v.o]
   go_wp2
   go_ret;exact⟨rfl,rfl⟩
def lO(u m v:Nat)(w:World)(O:u+m<=62)(X:v<9223372036854775808):ar Oe 110 #[.int .i64 u,.int .i64 m,.int .i64 v] w λe d=>e=.returned (.int .i64 (im u m v))/\w=d:=by
 have p:=ay (ku (u:=u) (m:=m) X);have r:Hid (∀j,im u m v<=j<->v<2 ^ (u+m+j)):=ay (λj=>Fa aa)
 have g:=p.o;generalize im u m v=B at *
 go_in
 go_wp2
 go_loopg [7] B (λq x wr=>(∃j:Nat,q=B - j/\j<=B/\x=.int .i64 j)/\w=wr)
 exact⟨⟨0,rfl,aa,rfl⟩,rfl⟩
 case round=>
  obtain⟨⟨j,z,S,rfl⟩,rfl⟩:=hrel;have b:=ay z;clear z;obtain⟨t,f⟩:=au (u+m);obtain⟨s,q⟩:=au (u+m+j);have V:IntKind.i64.wrap ((u:Int)+(m:Int))=(t:Int):=ai
  have U:IntKind.i64.wrap ((t:Int)+(j:Int))=(s:Int):=ai
  have T:IntKind.u64.wrap (v:Int)=(v:Int):=by rw[g_];omega
  have z:=r.o j;rw[q] at z
  by_cases Q:j<B
  ·have a:(s:Int)<63:=aa
   have y:=ay (kv s w aa)
   have c:2 ^ s<=v:=by
    rcases bg v (2 ^ s) with h|h
    ·have:=z.2 h;omega
    ·exact h
   obtain⟨P,x⟩:=au (2 ^ s);rw[x] at y c;have Y:(P:Int)<=(v:Int):=aa
   have R:j<63:=aa
   clear x q f z g c r p
   go_wp2_with (go_at_call 158;refine(y.o).mono ?_;rintro e d ⟨rfl,rfl⟩)
   go_roundg (B - (j+1))
   exact⟨⟨j+1,rfl,aa,ag⟩,rfl⟩
   have:=b.o;omega
  ·obtain rfl:j=B:=aa
   by_cases a:(s:Int)<63
   ·have y:=ay (kv s w aa)
    have c:=z.1 (aD _);obtain⟨P,x⟩:=au (2 ^ s);rw[x] at y c;have Y:¬(P:Int)<=(v:Int):=aa
    clear x q f z g c r p
    go_wp2_with (go_at_call 158;refine(y.o).mono ?_;rintro e d ⟨rfl,rfl⟩)
    go_ret;exact⟨rfl,rfl⟩
   ·clear q f z g r p
    go_wp2
    go_ret;exact⟨rfl,rfl⟩
def uW(u m v:Nat)(w:World)(R:u+m<=62)(A:1<=m)(Q:m<=18)(f:v<9223372036854775808):ar Oe 83 #[.int .i64 u,.int .i64 m,.int .i64 v] w λe x=>e=.returned (.int .i64 (kh u m v))/\w=x:=by
 have d:=ay (lO u m v w R f);have Y:=ku (u:=u) (m:=m) f;have a:=xr (u:=u) (m:=m) (v:=v) aa
 have X:2 ^ m<=2 ^ 18:=jW Q;have V:2 ^ (m - 1)<=2 ^ 17:=jW aa
 have t:=ay (kv (m - 1) w aa)
 have T:im u m v<=63:=aa
 have r:=ay (kv (u+im u m v) w aa)
 have p:Hid (kh u m v=im u m v * 2 ^ (m - 1)+p8 u m v):=ay rfl;have q:Hid (p8 u m v=v / 2 ^ (im u m v+u)):=ay rfl;rw[p.o];have S:=bR (u+im u m v);have z:Hid ((v:Int).tdiv ((2 ^ (u+im u m v):Nat):Int)=(p8 u m v:Int)):=ay (by rw[q.o,fD u,cK aa];rfl)
 generalize p8 u m v=k at *;generalize im u m v=b at *;generalize 2 ^ (m - 1)=H at *;obtain⟨s,g⟩:=au (u+b);rw[g] at r S z;have B:s<=63:=aa
 have J:IntKind.i64.wrap ((u:Int)+(b:Int))=(s:Int):=ai
 generalize 2 ^ s=P at *;have D:k<262144:=aa
 have U:H<=131072:=aa
 obtain⟨M,rfl⟩:∃M,m=M+1:=⟨m - 1,aa⟩
 simp only[da] at t;obtain⟨c,y⟩:=au (b * H);have I:c<=8257536:=by rw[<-y];exact cT T U
 have C:((b:Int)+1) * (H:Int)=(c:Int)+(H:Int):=by rw[<-y,dc,ek];simp
 have G:=z.o;have F:(v:Int) / (P:Int)=(k:Int):=by rw[<-z.o,cK aa]
 have N:IntKind.u64.wrap (v:Int)=(v:Int):=by rw[g_];omega
 have O:IntKind.u64.wrap (k:Int)=(k:Int):=by rw[g_];omega
 have E:(c:Int)+(H:Int)+(k:Int) - (H:Int)=(c:Int)+(k:Int):=aa
 rw[y];have K:IntKind.i64.wrap (M:Int)=(M:Int):=ai
 have L:IntKind.i64.wrap (H:Int)=(H:Int):=ai
 clear p q a X V Y g y z
 go_in
 go_wp2_with fail;refine(d.o).mono ?_
 rintro e x ⟨rfl,rfl⟩
 go_wp2_with fail;refine(t.o).mono ?_
 rintro e x ⟨rfl,rfl⟩
 go_wp2_with fail;refine(r.o).mono ?_
 rintro e x ⟨rfl,rfl⟩
 go_wp2
 go_ret;exact⟨by simp,rfl⟩
def nJ(u m n:Nat):Nat:=if 63<=n - 1+u+m then 9223372036854775807 else 2 ^ (n - 1+u+m) - 1
def AE(u m n:Nat)(w:World)(T:u+m<=62)(S:1<=n)(R:n<=64):ar Oe 166 #[.int .i64 u,.int .i64 m,.int .i64 n] w λe q=>e=.returned (.int .i64 (nJ u m n))/\w=q:=by
 have z:Hid (nJ u m n=if 63<=n - 1+u+m then 9223372036854775807 else 2 ^ (n - 1+u+m) - 1):=ay rfl
 rw[z.o];obtain⟨k,rfl⟩:∃k,n=k+1:=⟨n - 1,aa⟩
 simp only[da] at z |-;obtain⟨t,r⟩:=au (k+u);obtain⟨s,y⟩:=au (k+u+m);have d:IntKind.i64.wrap ((k:Int)+(u:Int))=(t:Int):=ai
 have c:IntKind.i64.wrap ((t:Int)+(m:Int))=(s:Int):=ai
 have Y:IntKind.i64.wrap (k:Int)=(k:Int):=ai
 have X:max ((k:Int)+1) 1=(k:Int)+1:=aa
 have V:min ((k:Int)+1) 64=(k:Int)+1:=aa
 rw[y]
 by_cases v:63<=s
 ·have g:(63:Int)<=(s:Int):=aa
  rw[aH v];clear z r y
  go_in
  go_wp2
  go_ret;exact⟨by simp,rfl⟩
 ·have g:¬(63:Int)<=(s:Int):=aa
  rw[aG v];have p:=ay (kv s w aa)
  have f:2 ^ s<=2 ^ 62:=jW aa
  have U:=bR s;generalize 2 ^ s=P at *;have b:IntKind.i64.wrap (P:Int)=(P:Int):=ai
  have a:IntKind.i64.wrap ((P:Int) - 1)=(P:Int) - 1:=ai
  have x:(((P - 1:Nat)):Int)=(P:Int) - 1:=aa
  rw[x];clear z r y f x
  go_in
  go_wp2_with fail;refine(p.o).mono ?_
  rintro e q ⟨rfl,rfl⟩
  go_wp2
  go_ret;exact⟨rfl,rfl⟩
end Go.Proofs.YtdicblkhpcphfaaGreat.D
namespace Go.Proofs
open Go.Shelf
def Tryz.Db:Go.Shelf.Ren:=⟨λ|129=>302|n=>n,λ|53=>36|3=>3|4=>4|46=>330|5=>5|9=>9|n=>n,λ|n=>n⟩
def Tryz.len64L:Go.Proofs.Lays.n129 Tryz.prog Tryz.Db:={
 mixed:=by kernel_rfl
 f129:=Tryz.func302.trans (congrArg some (by kernel_rfl))
 t3:=Tryz.underlying3
 a3:=Tryz.isAgg3
 z3:=Tryz.sizeOf3
 v3:=Tryz.zeroValue3
 t4:=Tryz.underlying4
 a4:=Tryz.isAgg4
 z4:=Tryz.sizeOf4
 v4:=Tryz.zeroValue4
 t5:=Tryz.underlying5
 a5:=Tryz.isAgg5
 z5:=Tryz.sizeOf5
 v5:=Tryz.zeroValue5
 t9:=Tryz.underlying9
 a9:=Tryz.isAgg9
 z9:=Tryz.sizeOf9
 v9:=Tryz.zeroValue9
 t46:=Tryz.underlying330
 a46:=Tryz.isAgg330
 z46:=Tryz.sizeOf330
 v46:=Tryz.zeroValue330
 t53:=Tryz.underlying36
 a53:=Tryz.isAgg36
 z53:=Tryz.sizeOf36
 v53:=Tryz.zeroValue36}
def Tryz.G0:Go.Shelf.Ren:=⟨λ|5=>226|8=>313|7=>312|19=>378|20=>302|10=>370|11=>371|12=>372|13=>373|14=>374|15=>375|16=>248|17=>376|18=>377|30=>430|31=>431|32=>432|33=>433|34=>434|35=>324|40=>461|n=>n,λ|23=>196|25=>2|3=>3|32=>330|22=>196|0=>0|44=>349|46=>36|4=>4|36=>468|35=>467|41=>151|5=>5|9=>9|53=>523|57=>526|63=>553|64=>312|n=>n,λ|n=>n⟩
def Tryz.sortM:Go.Proofs.SlLaysM.n5 Tryz.prog Tryz.G0:={
 mixed:=by kernel_rfl
 f5:=⟨Tryz.f226.name,by decide,Tryz.func226.trans (congrArg some (by kernel_rfl))⟩
 f7:=⟨Tryz.f312.name,by decide,Tryz.func312.trans (congrArg some (by kernel_rfl))⟩
 f8:=Tryz.func313.trans (congrArg some (by kernel_rfl))
 f10:=⟨Tryz.f370.name,by decide,Tryz.func370.trans (congrArg some (by kernel_rfl))⟩
 f11:=⟨Tryz.f371.name,by decide,Tryz.func371.trans (congrArg some (by kernel_rfl))⟩
 f12:=⟨Tryz.f372.name,by decide,Tryz.func372.trans (congrArg some (by kernel_rfl))⟩
 f13:=⟨Tryz.f373.name,by decide,Tryz.func373.trans (congrArg some (by kernel_rfl))⟩
 f14:=⟨Tryz.f374.name,by decide,Tryz.func374.trans (congrArg some (by kernel_rfl))⟩
 f15:=⟨Tryz.f375.name,by decide,Tryz.func375.trans (congrArg some (by kernel_rfl))⟩
 f16:=⟨Tryz.f248.name,by decide,Tryz.func248.trans (congrArg some (by kernel_rfl))⟩
 f17:=⟨Tryz.f376.name,by decide,Tryz.func376.trans (congrArg some (by kernel_rfl))⟩
 f18:=⟨Tryz.f377.name,by decide,Tryz.func377.trans (congrArg some (by kernel_rfl))⟩
 f19:=Tryz.func378.trans (congrArg some (by kernel_rfl))
 f20:=Tryz.func302.trans (congrArg some (by kernel_rfl))
 f30:=⟨Tryz.f430.name,by decide,Tryz.func430.trans (congrArg some (by kernel_rfl))⟩
 f31:=Tryz.func431.trans (congrArg some (by kernel_rfl))
 f32:=Tryz.func432.trans (congrArg some (by kernel_rfl))
 f33:=⟨Tryz.f433.name,by decide,Tryz.func433.trans (congrArg some (by kernel_rfl))⟩
 f34:=⟨Tryz.f434.name,by decide,Tryz.func434.trans (congrArg some (by kernel_rfl))⟩
 f35:=⟨Tryz.f324.name,by decide,Tryz.func324.trans (congrArg some (by kernel_rfl))⟩
 f40:=⟨Tryz.f461.name,by decide,Tryz.func461.trans (congrArg some (by kernel_rfl))⟩
 t0:=Tryz.underlying0
 a0:=Tryz.isAgg0
 z0:=Tryz.sizeOf0
 v0:=Tryz.zeroValue0
 t3:=Tryz.underlying3
 a3:=Tryz.isAgg3
 z3:=Tryz.sizeOf3
 v3:=Tryz.zeroValue3
 t4:=Tryz.underlying4
 a4:=Tryz.isAgg4
 z4:=Tryz.sizeOf4
 v4:=Tryz.zeroValue4
 t5:=Tryz.underlying5
 a5:=Tryz.isAgg5
 z5:=Tryz.sizeOf5
 v5:=Tryz.zeroValue5
 t9:=Tryz.underlying9
 a9:=Tryz.isAgg9
 z9:=Tryz.sizeOf9
 v9:=Tryz.zeroValue9
 t22:=Tryz.underlying196
 a22:=Tryz.isAgg196
 z22:=Tryz.sizeOf196
 v22:=Tryz.zeroValue196
 t23:=Tryz.underlying196
 a23:=Tryz.isAgg196
 z23:=Tryz.sizeOf196
 v23:=Tryz.zeroValue196
 t25:=Tryz.underlying2
 a25:=Tryz.isAgg2
 z25:=Tryz.sizeOf2
 v25:=Tryz.zeroValue2
 t32:=Tryz.underlying330
 a32:=Tryz.isAgg330
 z32:=Tryz.sizeOf330
 v32:=Tryz.zeroValue330
 t35:=Tryz.underlying467
 a35:=Tryz.isAgg467
 z35:=Tryz.sizeOf467
 v35:=Tryz.zeroValue467
 t36:=Tryz.underlying468
 a36:=Tryz.isAgg468
 z36:=Tryz.sizeOf468
 v36:=Tryz.zeroValue468
 t41:=Tryz.underlying151
 a41:=Tryz.isAgg151
 z41:=Tryz.sizeOf151
 v41:=Tryz.zeroValue151
 t44:=Tryz.underlying349
 a44:=Tryz.isAgg349
 z44:=Tryz.sizeOf349
 v44:=Tryz.zeroValue349
 t46:=Tryz.underlying36
 a46:=Tryz.isAgg36
 z46:=Tryz.sizeOf36
 v46:=Tryz.zeroValue36
 t53:=Tryz.underlying523
 a53:=Tryz.isAgg523
 z53:=Tryz.sizeOf523
 v53:=Tryz.zeroValue523
 t57:=Tryz.underlying526
 a57:=Tryz.isAgg526
 z57:=Tryz.sizeOf526
 v57:=Tryz.zeroValue526
 t63:=Tryz.underlying553
 a63:=Tryz.isAgg553
 z63:=Tryz.sizeOf553
 v63:=Tryz.zeroValue553
 t64:=Tryz.underlying312
 a64:=Tryz.isAgg312
 z64:=Tryz.sizeOf312
 v64:=Tryz.zeroValue312}
def Tryz.AF:Go.Shelf.Ren:=⟨λ|49=>157|59=>248|60=>249|68=>324|n=>n,λ|22=>196|23=>2|3=>3|4=>4|51=>330|0=>0|n=>n,λ|n=>n⟩
def Tryz.searchN:Go.Proofs.SlLaysN.n49 Tryz.prog Tryz.AF:={
 mixed:=by kernel_rfl
 f49:=⟨Tryz.f157.name,by decide,Tryz.func157.trans (congrArg some (by kernel_rfl))⟩
 f59:=⟨Tryz.f248.name,by decide,Tryz.func248.trans (congrArg some (by kernel_rfl))⟩
 f60:=⟨Tryz.f249.name,by decide,Tryz.func249.trans (congrArg some (by kernel_rfl))⟩
 f68:=⟨Tryz.f324.name,by decide,Tryz.func324.trans (congrArg some (by kernel_rfl))⟩
 t0:=Tryz.underlying0
 a0:=Tryz.isAgg0
 z0:=Tryz.sizeOf0
 v0:=Tryz.zeroValue0
 t3:=Tryz.underlying3
 a3:=Tryz.isAgg3
 z3:=Tryz.sizeOf3
 v3:=Tryz.zeroValue3
 t4:=Tryz.underlying4
 a4:=Tryz.isAgg4
 z4:=Tryz.sizeOf4
 v4:=Tryz.zeroValue4
 t22:=Tryz.underlying196
 a22:=Tryz.isAgg196
 z22:=Tryz.sizeOf196
 v22:=Tryz.zeroValue196
 t23:=Tryz.underlying2
 a23:=Tryz.isAgg2
 z23:=Tryz.sizeOf2
 v23:=Tryz.zeroValue2
 t51:=Tryz.underlying330
 a51:=Tryz.isAgg330
 z51:=Tryz.sizeOf330
 v51:=Tryz.zeroValue330}
def Tryz.G1:Go.Shelf.Ren:=⟨λ|6=>254|15=>313|14=>325|28=>378|29=>302|20=>384|21=>385|22=>386|23=>387|24=>388|25=>389|26=>390|27=>391|46=>435|47=>431|48=>432|49=>436|50=>437|57=>462|n=>n,λ|22=>126|24=>192|25=>342|3=>3|39=>330|0=>0|53=>349|55=>36|4=>4|46=>468|45=>467|50=>151|5=>5|9=>9|66=>523|70=>526|76=>553|77=>312|n=>n,λ|n=>n⟩
def Tryz.sortF:Go.Proofs.SlLaysF0.n6 Tryz.prog Tryz.G1:={
 mixed:=by kernel_rfl
 f6:=⟨Tryz.f254.name,by decide,Tryz.func254.trans (congrArg some (by kernel_rfl))⟩
 f14:=⟨Tryz.f325.name,by decide,Tryz.func325.trans (congrArg some (by kernel_rfl))⟩
 f15:=Tryz.func313.trans (congrArg some (by kernel_rfl))
 f20:=⟨Tryz.f384.name,by decide,Tryz.func384.trans (congrArg some (by kernel_rfl))⟩
 f21:=⟨Tryz.f385.name,by decide,Tryz.func385.trans (congrArg some (by kernel_rfl))⟩
 f22:=⟨Tryz.f386.name,by decide,Tryz.func386.trans (congrArg some (by kernel_rfl))⟩
 f23:=⟨Tryz.f387.name,by decide,Tryz.func387.trans (congrArg some (by kernel_rfl))⟩
 f24:=⟨Tryz.f388.name,by decide,Tryz.func388.trans (congrArg some (by kernel_rfl))⟩
 f25:=⟨Tryz.f389.name,by decide,Tryz.func389.trans (congrArg some (by kernel_rfl))⟩
 f26:=⟨Tryz.f390.name,by decide,Tryz.func390.trans (congrArg some (by kernel_rfl))⟩
 f27:=⟨Tryz.f391.name,by decide,Tryz.func391.trans (congrArg some (by kernel_rfl))⟩
 f28:=Tryz.func378.trans (congrArg some (by kernel_rfl))
 f29:=Tryz.func302.trans (congrArg some (by kernel_rfl))
 f46:=⟨Tryz.f435.name,by decide,Tryz.func435.trans (congrArg some (by kernel_rfl))⟩
 f47:=Tryz.func431.trans (congrArg some (by kernel_rfl))
 f48:=Tryz.func432.trans (congrArg some (by kernel_rfl))
 f49:=⟨Tryz.f436.name,by decide,Tryz.func436.trans (congrArg some (by kernel_rfl))⟩
 f50:=⟨Tryz.f437.name,by decide,Tryz.func437.trans (congrArg some (by kernel_rfl))⟩
 f57:=⟨Tryz.f462.name,by decide,Tryz.func462.trans (congrArg some (by kernel_rfl))⟩
 t0:=Tryz.underlying0
 a0:=Tryz.isAgg0
 z0:=Tryz.sizeOf0
 v0:=Tryz.zeroValue0
 t3:=Tryz.underlying3
 a3:=Tryz.isAgg3
 z3:=Tryz.sizeOf3
 v3:=Tryz.zeroValue3
 t4:=Tryz.underlying4
 a4:=Tryz.isAgg4
 z4:=Tryz.sizeOf4
 v4:=Tryz.zeroValue4
 t5:=Tryz.underlying5
 a5:=Tryz.isAgg5
 z5:=Tryz.sizeOf5
 v5:=Tryz.zeroValue5
 t9:=Tryz.underlying9
 a9:=Tryz.isAgg9
 z9:=Tryz.sizeOf9
 v9:=Tryz.zeroValue9
 t22:=Tryz.underlying126
 a22:=Tryz.isAgg126
 z22:=Tryz.sizeOf126
 v22:=Tryz.zeroValue126
 t25:=Tryz.underlying342
 a25:=Tryz.isAgg342
 z25:=Tryz.sizeOf342
 v25:=Tryz.zeroValue342
 t39:=Tryz.underlying330
 a39:=Tryz.isAgg330
 z39:=Tryz.sizeOf330
 v39:=Tryz.zeroValue330
 t45:=Tryz.underlying467
 a45:=Tryz.isAgg467
 z45:=Tryz.sizeOf467
 v45:=Tryz.zeroValue467
 t46:=Tryz.underlying468
 a46:=Tryz.isAgg468
 z46:=Tryz.sizeOf468
 v46:=Tryz.zeroValue468
 t50:=Tryz.underlying151
 a50:=Tryz.isAgg151
 z50:=Tryz.sizeOf151
 v50:=Tryz.zeroValue151
 t53:=Tryz.underlying349
 a53:=Tryz.isAgg349
 z53:=Tryz.sizeOf349
 v53:=Tryz.zeroValue349
 t55:=Tryz.underlying36
 a55:=Tryz.isAgg36
 z55:=Tryz.sizeOf36
 v55:=Tryz.zeroValue36
 t66:=Tryz.underlying523
 a66:=Tryz.isAgg523
 z66:=Tryz.sizeOf523
 v66:=Tryz.zeroValue523
 t70:=Tryz.underlying526
 a70:=Tryz.isAgg526
 z70:=Tryz.sizeOf526
 v70:=Tryz.zeroValue526
 t76:=Tryz.underlying553
 a76:=Tryz.isAgg553
 z76:=Tryz.sizeOf553
 v76:=Tryz.zeroValue553
 t77:=Tryz.underlying312
 a77:=Tryz.isAgg312
 z77:=Tryz.sizeOf312
 v77:=Tryz.zeroValue312}
end Go.Proofs
namespace Go.Proofs.YtdicblkhpcphfaaGreat.D
open Tryz
open _root_.List renaming length→ao
open _root_.Go renaming Calls→ar
open Tryz renaming prog→Oe
open Go.RowKit Go.Lib Go.Shelf
def mM(w:World)(g:Nat)(lo hi dg:Int)(u m:Nat):Prop:=gN w g 369 #[.int .i64 lo,.int .i64 hi,.int .i64 dg,.int .i64 u,.int .i64 m]
section
variable {g u m : Nat} {lo hi dg : Int} {w : World}
def mv(x:Nat)(w:World)(h:x<18446744073709551616):ar Oe 302 #[.int .u64 x] w λe z=>e=.returned (.int .i64 (Lib.bitLen x))/\w=z:=by
 refine(Any.bits_Len64 Tryz.len64L (x:Int) w aa  aa).mono ?_
 rintro e z ⟨rfl,rfl⟩;exact⟨by simp,rfl⟩
def s7(v:Nat)(h:mM w g lo hi dg u m)(V:u+m<=62)(Y:v<9223372036854775808):ar Oe 316 #[.pointer (some ⟨g,0,none⟩),.int .i64 v] w (aw w (.int .i64 (im u m v))):=by
 have d:Hid (∀w,_):=ay (λw=>mv v w aa)
 have X:Lib.bitLen v<=63:=(pq aa).2 (by simpa using Y)
 have z:Hid (im u m v=Lib.bitLen v - (u+m)):=ay rfl;rw[z.o];generalize Lib.bitLen v=B at *;have y:=ay h;have p:Hid (IntKind.u64.wrap (v:Int)=(v:Int)):=ay (by rw[g_];omega)
 have r:Hid (IntKind.i64.wrap ((B:Int) - (u:Int))=(B:Int) - (u:Int)):=ay ai
 have q:Hid (IntKind.i64.wrap ((B:Int) - (u:Int) - (m:Int))=(B:Int) - (u:Int) - (m:Int)):=ay ai
 clear h z
 go_in
 go_wp2_with fail;refine i' (aq w) (gW 0 2 (gW 3 4 (gW 8 4 (ib 2 (gW 7 1 (gW 12 3 [])))))) ((aC _ _).drew) ?_
 iterate 10 refine hC (h:=λs z=>by have x:=(gN.keep y.o z).cell 3;have t:=(gN.keep y.o z).k4;have a:=p.o;have c:=r.o;have b:=q.o;simp only[aA,az,aB] at x;exact Qv) ?_
 refine iy λK f=>?_
 go_simp;refine(d.o w.drew).mono ?_
 rintro e U ⟨rfl,rfl⟩;refine f _ _ ((aC _ _).drew) ?_
 clear f K
 iterate 4 refine hC (h:=λs z=>by have x:=(gN.keep y.o z).cell 3;have t:=(gN.keep y.o z).k4;have a:=p.o;have c:=r.o;have b:=q.o;simp only[aA,az,aB] at x;exact Qv) ?_
 refine gM ?_
 go_wp2
 go_ret;refine⟨?_,(aC _ _).drew⟩
 show Ending.returned (Value.int .i64 (max 0 ((B:Int) - (u:Int) - (m:Int))))=Ending.returned (Value.int .i64 (((B - (u+m):Nat)):Int))
 congr 2
 omega
def xu(h:mM w g lo hi dg u m)(s:1<=m)(r:m<=18):ar Oe 234 #[.pointer (some ⟨g,0,none⟩)] w λe x=>e=.returned (.int .i64 ((2 ^ (m - 1):Nat):Int))/\w=x:=by
 have y:=gN.cell h 4;simp only[aA,az,aB] at y;clear h;obtain⟨M,rfl⟩:∃M,m=M+1:=⟨m - 1,aa⟩
 have t:IntKind.i64.wrap (M:Int)=(M:Int):=ai
 simp only[da]
 go_in
 go_wp2
 go_ret;refine⟨?_,rfl⟩
 have z:2 ^ M<=2 ^ 17:=jW aa
 show Ending.returned (Value.int .i64 (wrap64 (2 ^ M)))=Ending.returned (Value.int .i64 ((2 ^ M:Nat):Int))
 have e:((2:Int) ^ M)=((2 ^ M:Nat):Int):=ad
 rw[e];generalize 2 ^ M=P at *;have:wrap64 (P:Int)=(P:Int):=by have v:P<=131072:=z;unfold wrap64;omega
 rw[this]
def xv(v:Nat)(h:mM w g lo hi dg u m)(q:u+m<=62)(x:v<9223372036854775808):ar Oe 233 #[.pointer (some ⟨g,0,none⟩),.int .i64 v] w (aw w (.tuple #[.int .i64 (im u m v),.int .i64 (p8 u m v)])):=by
 have t:=ay (s7 v h q x);have r:=ku (u:=u) (m:=m) x;have z:Hid (p8 u m v=v / 2 ^ (im u m v+u)):=ay rfl;have f:im u m v<=63:=aa
 have H:=ay h;rw[z.o];generalize im u m v=b at *;obtain⟨s,y⟩:=au (b+u);have d:IntKind.i64.wrap ((b:Int)+(u:Int))=(s:Int):=ai
 have c:s<=63:=aa
 rw[y];clear h y z r
 go_in
 go_wp2_with fail;refine(t.o).mono ?_
 rintro e r ⟨rfl,z⟩;have y:=(gN.keep H.o z).k3
 go_wp2_with fail
 go_quiet (fail)
 go_wp2
 go_ret2
 refine⟨?_,below_drewN z _⟩
 show Ending.returned (.tuple #[.int .i64 b,.int .i64 ((v:Int) / 2 ^ s)])=Ending.returned (.tuple #[.int .i64 b,.int .i64 ((v / 2 ^ s:Nat):Int)])
 simp
def qO(v:Nat)(h:mM w g lo hi dg u m)(U:u+m<=62)(T:1<=m)(d:m<=18)(f:v<9223372036854775808):ar Oe 146 #[.pointer (some ⟨g,0,none⟩),.int .i64 v] w (aw w (.tuple #[.int .i64 (kh u m v),.int .i64 0])):=by
 have a:=ay (xv v h U f);have s:Hid (∀z,aq w z->_):=ay (λz x=>xu (gN.keep h x) T d)
 have X:=ku (u:=u) (m:=m) f;have Y:=xr (u:=u) (m:=m) (v:=v) aa
 have q:2 ^ m<=2 ^ 18:=jW d;have p:2 ^ (m - 1)<=2 ^ 17:=jW aa
 have x:im u m v<=63:=aa
 have r:Hid (kh u m v=im u m v * 2 ^ (m - 1)+p8 u m v):=ay rfl;have P:p8 u m v<262144:=by have S:2 ^ m<=262144:=q;omega
 have V:2 ^ (m - 1)<=131072:=p;rw[r.o];generalize p8 u m v=k at *;generalize im u m v=b at *;generalize 2 ^ (m - 1)=H at *;obtain⟨c,y⟩:=au (b * H);have R:c<=8257536:=by rw[<-y];exact cT x V
 have O:((b:Int)+1) * (H:Int)=(c:Int)+(H:Int):=by rw[<-y,dc,ek];simp
 have Q:(c:Int)+(H:Int)+(k:Int) - (H:Int)=(c:Int)+(k:Int):=aa
 rw[y];clear r Y q p X y h
 go_in
 go_wp2_with fail;refine(a.o).mono ?_
 rintro e z ⟨rfl,y⟩
 go_wp2_with fail;refine(s.o z y).mono ?_
 rintro e t ⟨rfl,rfl⟩
 go_wp2_with fail;refine(s.o z y).mono ?_
 rintro e t ⟨rfl,rfl⟩
 go_wp2
 go_ret2
 exact⟨by simp,y⟩
def ot(v:Nat)(h:mM w g lo hi dg u m)(t:u+m<=62)(z:v<9223372036854775808):ar Oe 283 #[.pointer (some ⟨g,0,none⟩),.int .i64 v] w (aw w (.int .i64 ((1+im u m v:Nat):Int))):=by
 have y:=ay (s7 v h t z);have x:=ku (u:=u) (m:=m) z;have r:im u m v<=63:=aa
 have q:max (v:Int) 0=(v:Int):=aa
 generalize im u m v=b at *;clear h x
 go_in
 go_wp2_with fail;refine(y.o).mono ?_
 rintro e p ⟨rfl,x⟩
 go_wp2
 go_ret;exact⟨by simp,x⟩
end
open Tryz
open _root_.List renaming length→ao
open _root_.Go renaming Calls→ar
open Tryz renaming prog→Oe
open Go.RowKit Go.Lib Go.Shelf
variable{dg hi j lo m u:Nat}
def G3(n:Nat)(w:World)(h:n<=5):ar Oe 394 #[.int .i64 n] w λe u=>e=.returned (.tuple #[.int .u64 ((10 ^ n:Nat):Int),.int .i64 0])/\w=u:=by
 obtain⟨R,z⟩:=au (10 ^ n);have v:=ay z;rw[z];clear z;have y:Hid (∀j,j<=5->0<10 ^ j/\10 ^ j<=100000):=ay (λj h=>⟨gL aa,(bJ aa h:10 ^ j<=10 ^ 5)⟩)
 go_in
 go_wp2
 go_loopg [4,12] n (λq p x wr=>(∃j:Nat,q=n - j/\j<=n/\x=.int .i64 j/\p=.int .u64 ((10 ^ j:Nat):Int))/\w=wr)
 exact⟨⟨0,rfl,aa,rfl,rfl⟩,rfl⟩
 case round=>
  obtain⟨⟨j,z,t,rfl,rfl⟩,rfl⟩:=hrel;have x:=ay z;clear z
  by_cases r:j<n
  ·have s:(j:Int)<(n:Int):=aa
   have q:=y.o j aa
   have z:Hid (10 ^ (j+1)=10 * 10 ^ j):=ay (by rw[b_];omega)
   generalize 10 ^ j=p at *
   go_wp2
   go_roundg (n - (j+1))
   exact⟨⟨j+1,rfl,aa,ag,by rw[z.o];go_num⟩,rfl⟩
   have:=x.o;omega
  ·obtain rfl:j=n:=aa
   rw[v.o]
   go_wp2
   go_ret2
   exact⟨rfl,rfl⟩
structure qP(lo hi dg u m:Nat):Prop where
 d0:1<=dg
 d1:dg<=5
 l0:1<=lo
 h0:2 * lo<=hi
 h1:hi<=9223372036854775807
 ue:u=Lib.bitLen lo - 1
 me:m=Lib.bitLen (2 * 10 ^ dg - 1)
 um:u+m<=62
def yK(z:dg<=5):1<=Lib.bitLen (2 * 10 ^ dg - 1)/\Lib.bitLen (2 * 10 ^ dg - 1)<=18:=by
 have h:∀d:Fin 6,1<=Lib.bitLen (2 * 10 ^ d.val - 1)/\Lib.bitLen (2 * 10 ^ d.val - 1)<=18:=aj
 exact h ⟨dg,aa⟩
def J7(w:World)(ok:qP lo hi dg u m):ar Oe 329 #[.agg #[.int .i64 lo,.int .i64 hi,.int .i64 dg]] w λe p=>∃g,e=.returned (.tuple #[.pointer (some ⟨g,0,none⟩),.int .i64 0])/\w.heap.size<=g/\mM p g lo hi dg u m/\aq w p:=by
 obtain⟨Q,z,q,s,P,M,t,E⟩:=ok;have v:=yK z;have b:1<=Lib.bitLen lo:=(yJ (x:=lo) (k:=0) aa).2 (by simpa using q)
 have O:Lib.bitLen lo<=63:=(pq aa).2 aa
 have K:10 ^ dg<=100000:=(bJ aa z:10 ^ dg<=10 ^ 5)
 have F:0<10 ^ dg:=gL aa
 have r:=λw=>ay (G3 dg w z)
 have J:=λw=>ay (mv lo w aa)
 have X:=λw=>ay (mv (2 * 10 ^ dg - 1) w aa)
 rw[<-t] at X v;generalize 10 ^ dg=T at *;generalize Lib.bitLen lo=B at *;obtain⟨N,y⟩:=au (2 * T - 1);rw[y] at X;obtain rfl:B=u+1:=aa
 have L:(hi:Int).tdiv 2=(hi:Int) / 2:=cK aa
 have Y:¬(hi:Int) / 2<(lo:Int):=aa
 have U:¬(dg:Int)<1:=aa
 have S:¬(5:Int)<(dg:Int):=aa
 have R:¬(lo:Int)<1:=aa
 have a:Hid (IntKind.u64.wrap (lo:Int)=(lo:Int)):=ay (by rw[g_];omega)
 have c:Hid (IntKind.i64.wrap (u:Int)=(u:Int)):=ay ai
 have d:Hid (IntKind.u64.wrap (2 * (T:Int))=2 * (T:Int)):=ay (by rw[g_];omega)
 have g:Hid (2 * (T:Int) - 1=(N:Int)):=ay aa
 have V:¬(62:Int)<(u:Int)+(m:Int):=aa
 have I:Hid (IntKind.i64.wrap ((u:Int)+(m:Int))=(u:Int)+(m:Int)):=ay ai
 have f:Hid (IntKind.u64.wrap (N:Int)=(N:Int)):=ay (by rw[g_];omega)
 clear y M t v b O s
 go_in
 go_wp2_with fail;refine((r _).o).mono ?_
 rintro e p ⟨rfl,rfl⟩;obtain⟨b,s⟩:=au (w.heap.size);obtain⟨y,t⟩:=au (w.alloc (.cells #[.int .i64 lo,.int .i64 hi,.int .i64 dg] 31));have M:aq w y:=by rw[<-t];exact bw
 have v:Hid (gN y b 31 #[.int .i64 lo,.int .i64 hi,.int .i64 dg]):=by rw[<-t,<-s];exact ay (gN.new _ _ _)
 have H:=ay s;clear s;rw[H.o,t];clear t
 go_upto_region 4 with fail;have G:=ay V;clear Y U S R V L Q z q P E K F r;refine i' (aq y) (gW 0 4 (gW 6 3 (ib 4 (gW 5 1 (ib 9 (gW 10 1 (ib 11 (gW 12 1 [])))))))) ((aC _ _).drew) ?_
 iterate 7 refine hC (h:=λp z=>by have s:=(v.o.keep z).cell 0;have r:=(v.o.keep z).k1;have q:=(v.o.keep z).k2;have P:=a.o;have Q:=c.o;have R:=d.o;have U:=g.o;have S:=f.o;simp only[aA,az,aB] at s;exact Qv) ?_
 refine iy λK t=>?_
 go_simp;refine((J y.drew).o).mono ?_
 rintro e C ⟨rfl,rfl⟩;refine t _ _ ((aC _ _).drew) ?_
 clear t K;refine hC (h:=λp z=>by have s:=(v.o.keep z).cell 0;have r:=(v.o.keep z).k1;have q:=(v.o.keep z).k2;have P:=a.o;have Q:=c.o;have R:=d.o;have U:=g.o;have S:=f.o;simp only[aA,az,aB] at s;exact Qv) ?_
 refine iy λK t=>?_
 go_simp;refine((X y.drew).o).mono ?_
 rintro e C ⟨rfl,rfl⟩;refine t _ _ ((aC _ _).drew) ?_
 clear t K;refine hC (h:=λp z=>by have s:=(v.o.keep z).cell 0;have r:=(v.o.keep z).k1;have q:=(v.o.keep z).k2;have P:=a.o;have Q:=c.o;have R:=d.o;have U:=g.o;have S:=f.o;simp only[aA,az,aB] at s;exact Qv) ?_
 refine iy λK t=>?_
 go_simp;refine t _ _ (((aC _ _).drew).alloc (aD _) _) ?_
 clear t K;refine hC (h:=λp z=>by have s:=(v.o.keep z).cell 0;have r:=(v.o.keep z).k1;have q:=(v.o.keep z).k2;have P:=a.o;have Q:=c.o;have R:=d.o;have U:=g.o;have S:=f.o;simp only[aA,az,aB] at s;exact Qv) ?_
 refine gM ?_
 have L:=M.size;obtain⟨z,O⟩:=au ((y.alloc (.cells #[.int .i64 lo,.int .i64 hi,.int .i64 dg,.int .i64 u,.int .i64 m] 369)).drew);have F:aq y z:=by rw[<-O];exact((aC _ _).alloc (aD _) _).drew
 have Y:mM z y.heap.size lo hi dg u m:=by unfold mM;rw[<-O];exact(gN.new _ _ _:gN (y.alloc _) _ _ _).drew
 go_upto_region 5 with fail;have E:=gN.cell Y 3;have D:=gN.cell Y 4;simp only[aA,az,aB] at E D;have V:=G.o;have A:=I.o
 go_quiet (fail)
 go_wp2
 go_ret2
 subst O;exact⟨_,rfl,L,gN.drewN Y _,below_drewN (M.trans (F.mono L)) _⟩
open Tryz
open _root_.List renaming length→ao
open _root_.Go renaming Calls→ar
open Tryz renaming prog→Oe
open Go.RowKit Go.Lib Go.Shelf
def G4{B:Nat}(v:1<=lo)(y:lo<9223372036854775808)(x:B=Lib.bitLen lo - 1)(h:j<=B):(1<lo / 2 ^ j<->j<B):=by
 have z:=bR j;have e:1<lo / 2 ^ j<->2 ^ (j+1)<=lo:=by
  rw[Nat.lt_iff_add_one_le,dC z,b_,cL (2 ^ j)]
 rw[e,<-yJ aa]
 omega
def J8{N M:Nat}(h:N<18446744073709551616)(z:M=Lib.bitLen N)(y:j<=M):(2 ^ j<N+1<->j<M):=by
 rw[z,yJ h];omega
def Dc(w:World)(ok:qP lo hi dg u m):ar Oe 109 #[.agg #[.int .i64 lo,.int .i64 hi,.int .i64 dg]] w (aw w (.tuple #[.int .i64 u,.int .i64 m,.bool true])):=by
 obtain⟨I,d,K,G,F,x,y,A⟩:=ok;have R:=yK d;rw[<-y] at R;have z:∀j,j<=5->0<10 ^ j/\10 ^ j<=100000:=λj h=>⟨gL aa,(bJ aa h:10 ^ j<=10 ^ 5)⟩
 have V:=ay z;have c:=z dg d;have f:Hid (∀j,j<=u->(1<lo / 2 ^ j<->j<u)):=ay (λj h=>G4 K aa x h)
 have p:Hid (∀j,j<=m->(2 ^ j<2 * 10 ^ dg<->j<m)):=ay (λj h=>by
  have:=J8 (N:=2 * 10 ^ dg - 1) (j:=j) (by omega) y h
  rw[show 2 * 10 ^ dg - 1+1=2 * 10 ^ dg by omega] at this
  exact this)
 have t:¬(hi:Int)<(lo:Int):=aa
 have g:IntKind.i64.wrap ((hi:Int) - (lo:Int))=(hi:Int) - (lo:Int):=ai
 have Y:¬(hi:Int) - (lo:Int)<(lo:Int):=aa
 have s:¬(dg:Int)<1:=aa
 have r:¬(5:Int)<(dg:Int):=aa
 have q:¬(lo:Int)<1:=aa
 clear z x y
 go_in
 go_wp2_with fail;obtain⟨b,y⟩:=au (w.heap.size);obtain⟨v,z⟩:=au (w.alloc (.cells #[.int .i64 lo,.int .i64 hi,.int .i64 dg] 31));have U:aq w v:=by rw[<-z];exact bw
 have a:Hid (gN v b 31 #[.int .i64 lo,.int .i64 hi,.int .i64 dg]):=by rw[<-z,<-y];exact ay (gN.new _ _ _)
 rw[y,z];have L:=a.o.k2;clear z y t s r q g Y
 go_loopg [5,6] u (λq x y wr=>(∃j:Nat,q=u - j/\j<=u/\x=.int .i64 j/\y=.int .i64 ((lo / 2 ^ j:Nat):Int))/\v=wr)
 exact⟨⟨0,aa,aa,rfl,ad⟩,rfl⟩
 case round=>
  obtain⟨⟨j,z,T,rfl,rfl⟩,rfl⟩:=hrel;have Y:=ay z;clear z;have s:=f.o j T;have g:Hid (lo / 2 ^ j / 2=lo / 2 ^ (j+1)):=ay (by rw[ei,b_])
  have O:lo / 2 ^ j<=lo:=dz ..;generalize lo / 2 ^ j=n at *
  by_cases S:j<u
  ·have Q:(1:Int)<(n:Int):=by have:=s.2 S;omega
   have t:(n:Int).tdiv 2=(n:Int) / 2:=cK aa
   have r:n<9223372036854775808:=aa
   go_wp2
   go_roundg (u - (j+1))
   exact⟨⟨j+1,rfl,aa,ag,by rw[<-g.o];simp⟩,rfl⟩
   have:=Y.o;omega
  ·obtain rfl:j=u:=aa
   have Q:¬(1:Int)<(n:Int):=λh=>by have:=s.1 aa ;omega
   clear s g f O
   go_wp2
   go_loopg [7,8] dg (λq x y wr=>(∃i:Nat,q=dg - i/\i<=dg/\y=.int .i64 i/\x=.int .u64 ((2 * 10 ^ i:Nat):Int))/\v=wr)
   exact⟨⟨0,aa,aa,rfl,rfl⟩,rfl⟩
   case round=>
    obtain⟨⟨i,z,D,rfl,rfl⟩,rfl⟩:=hrel;have X:=ay z;clear z
    by_cases C:i<dg
    ·have E:(i:Int)<(dg:Int):=aa
     have M:=V.o i aa
     have r:Hid (2 * 10 ^ (i+1)=10 * (2 * 10 ^ i)):=ay (by rw[b_];omega)
     obtain⟨P,t⟩:=au (2 * 10 ^ i);have H:0<P/\P<=200000:=aa
     rw[t] at r |-;clear M t c
     go_wp2
     go_roundg (dg - (i+1))
     exact⟨⟨i+1,rfl,aa,ag,by rw[r.o];go_num⟩,rfl⟩
     have:=X.o;omega
    ·obtain rfl:i=dg:=aa
     obtain⟨N,t⟩:=au (2 * 10 ^ i);rw[t] at p |-;clear t c
     go_wp2
     go_loopg [9,10] m (λq x y wr=>(∃t:Nat,q=m - t/\t<=m/\x=.int .i64 t/\y=.int .u64 ((2 ^ t:Nat):Int))/\v=wr)
     exact⟨⟨0,aa,aa,rfl,rfl⟩,rfl⟩
     case round=>
      obtain⟨⟨t,z,M,rfl,rfl⟩,rfl⟩:=hrel;have y:=ay z;clear z;have s:=p.o t M;have E:2 ^ t<=262144:=(jW aa :2 ^ t<=2 ^ 18)
      have r:Hid (2 ^ (t+1)=2 * 2 ^ t):=ay (by rw[b_];omega)
      generalize 2 ^ t=P at *
      by_cases q:t<m
      ·have x:(P:Int)<(N:Int):=by have:=s.2 q;omega
       go_wp2
       go_roundg (m - (t+1))
       exact⟨⟨t+1,rfl,aa,ag,by rw[r.o];go_num⟩,rfl⟩
       have:=y.o;omega
      ·obtain rfl:t=m:=aa
       have x:¬(P:Int)<(N:Int):=λh=>by have:=s.1 aa ;omega
       have B:(j:Int)+(t:Int)<=62:=aa
       have H:IntKind.i64.wrap ((j:Int)+(t:Int))=(j:Int)+(t:Int):=ai
       go_wp2;refine an ?_
       exact⟨rfl,U⟩
end Go.Proofs.YtdicblkhpcphfaaGreat.D
