/- Parts. -/
import Derived.Test.YtdicblkhpcphfaaGreatPU02
import Derived.Laws.EntriesVeiled
import Derived.Laws.Tables
set_option maxRecDepth 100000
set_option maxHeartbeats 0
set_option linter.all false
namespace Go.Proofs.YtdicblkhpcphfaaGreat
open Tryz Go.RowKit Go.Lib
open _root_.List renaming length→ab0
open Go.IntKind renaming wrap→ad0
open _root_.Go renaming Calls→af4
open Tryz renaming prog→af5
def PO(w:World)(v:Value)(k:Nat)(X:Int):Prop:=∃g,v=.slice (some (af7 g 0)) k k/\ns w g 36 .u64 (nz k X)
def PO.K{w w':World}{v:Value}{k:Nat}{X:Int}(h:PO w v k X)(z:af3 w w'):PO w' v k X:=let ⟨g,x,y⟩:=h;⟨g,x,y.K z⟩
def xN(n:Int)(w:World)(y:0<=n)(x:n<18446744073709551616):af4 af5 314 #[.int .u64 n] w λe z=>∃v,e=.returned v/\PO z v 4 n/\af3 w z:=by
 go_in;go_wp2;go_ret;refine⟨_,rfl,⟨w.heap.size,rfl,?_⟩,bw⟩;have:nz 4 n=[n % 65536,n / 65536 % 65536,n / 4294967296 % 65536,n / 281474976710656]:=by simp only[nz,List.cons.injEq,and_true,true_and];omega
 rw[ns,this];exact g7.new w _ _
def ML(u v:Value)(X Y:Int)(w:World)(y:PO w u 8 X)(x:PO w v 8 Y)(a:0<=X)(R:X<340282366920938463463374607431768211456)(V:0<=Y)(Q:Y<340282366920938463463374607431768211456):af4 af5 315 #[u,v] w (au w (af6 (Bh X Y))):=by
 obtain⟨U,rfl,y⟩:=y;obtain⟨T,rfl,x⟩:=x;have z:=ax (show X / 65536 ^ 8=Y / 65536 ^ 8 by rw[fi a aa,fi V aa]);have r:=ax y;have q:=ax x;clear y x;go_in;go_wp2;go_loopg [5] 8 (λk i wr=>(k<=8/\i=af6 ((k:Int) - 1)/\Hid (X / 65536 ^ k=Y / 65536 ^ k)/\af3 w wr))
 exact⟨aa,rfl,z,aC _ _⟩
 case round=>
  obtain⟨S,rfl,z,y⟩:=hrel;rcases bo gk with x|x
  .subst x
   go_wp2;go_ret;have:=z.o;simp at this;exact⟨jz (by unfold Bh;rw[aH this]),y⟩
  .obtain⟨j,rfl⟩:∃j,gk=j+1:=⟨gk - 1,aa⟩
   have f:(((j+1:Nat):Int) - 1)=(j:Int):=aa;rw[f];have p:=(r.o.K y).C (j:=j) (by rw[kj];omega);have g:=(q.o.K y).C (j:=j) (by rw[kj];omega);rw[nK _ _ _ aa] at p g;by_cases d:m' X j<m' Y j
   .go_wp2
    go_quiet (fail)
    go_wp2;go_ret;have t:=CK z.o d;exact⟨jz (by unfold Bh;rw[aF aa,aH t]),bw⟩
   .by_cases c:m' Y j<m' X j
    .go_wp2
     go_quiet (fail)
     go_wp2;go_quiet (fail)
     go_wp2;go_ret;have t:=CK z.o.Y c;exact⟨jz (by unfold Bh;rw[aF aa,aF aa]),bw⟩
    .have s:=ax (MI z.o (show m' X j=m' Y j by omega))
     go_wp2;go_quiet (fail)
     go_wp2;go_quiet (fail)
     go_wp2;go_roundg j
     exact⟨aa,rfl,s,bw⟩;omega
def xO(a b:Int)(w:World)(f:0<=a)(d:a<18446744073709551616)(Y:0<=b)(X:b<18446744073709551616):af4 af5 228 #[.int .u64 a,.int .u64 b] w λe U=>∃v,e=.returned v/\PO U v 8 (a * b)/\af3 w U:=by
 have D:∀W:World,(Instr.makeSlice 270 (af6 8) (af6 8)).run prog W=.ok (.slice (some (af7 (W.heap.size) 0)) 8 8) (W.alloc (.cells ((List.replicate 8 (0:Int)).map (Value.int .u64)).toArray 36)):=λ_=>by kernel_rfl
 have⟨N,y⟩:=ar (List.replicate 8 (0:Int));have z:=pY.start a b;rw[y] at z D;have M:=ax z;clear z y;go_in;go_upto_region 2 with(first|(go_at_call_of 314 (Value.int .u64 a);refine WE (xN a _ f d) ?_;rintro v1 w1 ⟨z,v⟩;have t:=ax z;clear z)|(refine WE (xN b _ Y X) ?_;rintro v2 x ⟨z,u⟩;have s:=ax z;clear z));obtain⟨W,rfl,z⟩:=t.o.K u;obtain⟨h,rfl,y⟩:=s.o;have A:=z.lt;have o:=y.lt;have S:=ax z;have R:=ax y;have E:=ti u (aa2 v.size) v;have hz0:=E.size;clear z y t s v u;go_wp2;go_loopg [8] 4 (λk i wr=>∃(m:Nat) (l:List Int),k=4 - m/\m<=4/\i=af6 m/\pY a b m l/\ns wr x.heap.size 36 .u64 l/\af3 x wr)
 exact⟨0,N,rfl,aa,rfl,M.o,g7.new _ _ _,bw⟩
 case round=>
  obtain⟨m,l,v,hm,rfl,s,z,t⟩:=hrel;obtain⟨T,rfl⟩:∃T:World,T=wr:=⟨_,rfl⟩;have Q:=ax v;have g:=ax z;clear z v;by_cases V:m<4
  .have O:=ax s.into
   clear s;go_wp2;go_loopg [9,10] 4 (λk c i wr=>∃(q:Nat) (p:Int) (l:List Int),k=4 - q/\q<=4/\c=.int .u64 p/\i=af6 q/\xM a b m q p l/\ns wr x.heap.size 36 .u64 l/\af3 x wr)
   exact⟨0,0,l,rfl,aa,rfl,rfl,O.o,g.o,t⟩
   case round=>
    obtain⟨q,p,l,v,i,rfl,rfl,y,z,t⟩:=hrel;have P:=ax v;clear v;have c:=y.len;by_cases B:q<4
    .have I:=z.C (j:=m+q) (by omega)
     have F:=z.F (m+q);have H:=(S.o.below t A).C (j:=m) (by rw[kj];omega);have G:=(R.o.below t o).C (j:=q) (by rw[kj];omega);rw[nK _ _ _ aa] at H G;have J:=xL y.ok (m+q);have n:=zX (mv a m).1 (mv a m).2 (mv b q).1 (mv b q).2;have L:=y.c0;have K:=y.c1;have u:=ax (y.next B V);have r:=ax z;have k:=u.o.c0;clear y z c;have C:((m:Int)+(q:Int))<8:=aa;go_wp21
     go_quiet (fail)
     go_wp2;go_roundg (4 - (q+1))
     exact⟨q+1,_,_,rfl,aa,rfl,af,u.o,(r.o.drewN _).hJ _ _,bw⟩;have:=P.o;omega
    .have H:q=4:=aa
     subst H;have u:=ax (y.o V Y X);have I:=z.C (j:=m+4) (by omega);have F:=z.F (m+4);have J:=xL y.ok (m+4);have L:=y.c0;have K:=y.c1;have r:=ax z;clear y z c;have C:((m:Int)+4)<8:=aa;go_wp2;go_roundg (4 - (m+1))
     exact⟨m+1,_,rfl,aa,af,u.o,r.o.hJ _ _,bw⟩;have:=Q.o;omega
  .have u:m=4:=aa
   subst u;have y:=ax (s.fin f d);clear s;go_wp2;go_ret;exact⟨_,rfl,⟨x.heap.size,rfl,by rw[<-y.o];exact g.o⟩,bw⟩
def MM(v:Value)(X d:Int)(w:World)(F:PO w v 8 X)(c:0<=X)(b:X<340282366920938463463374607431768211456)(r:0<d)(l:d<18446744073709551616):af4 af5 227 #[v,.int .u64 d] w λe P=>∃v,e=.returned (.tuple #[v,.int .u64 (X % d)])/\PO P v 8 (X / d)/\af3 w P:=by
 have G:∀W:World,(Instr.makeSlice 270 (af6 8) (af6 8)).run prog W=.ok (.slice (some (af7 (W.heap.size) 0)) 8 8) (W.alloc (.cells ((nz 8 0).map (Value.int .u64)).toArray 36)):=λ_=>by kernel_rfl
 have⟨C,z⟩:=ar (nz 8 0);rw[z] at G;have M:=ax z;clear z;obtain⟨o,rfl,z⟩:=F;have E:=z.lt;have O:=ax z;clear z;go_in;go_wp2;go_loopg [7,8] 128 (λk z i wr=>∃(q y:Int),k<=128/\z=.int .u64 y/\i=af6 ((k:Int) - 1)/\nj X d k q y/\ns wr w.heap.size 36 .u64 (nz 8 (q * 2 ^ k))/\af3 w wr)
 exact⟨0,0,aa,rfl,rfl,nj.start X d c b r,by rw[Int.zero_mul,M.o];exact g7.new _ _ _,bw⟩
 case round=>
  obtain⟨q,y,n,rfl,rfl,z,x,R⟩:=hrel;have W:=z.l0;have i:=z.l1;rcases bo gk with S|S
  .subst S
   have u:=ax x;have t:=ax z.fin;clear x z;go_wp2;go_ret2;refine⟨_,by rw[<-t.o.2];rfl,⟨w.heap.size,rfl,?_⟩,R⟩;rw[<-t.o.1];simpa using u.o
  .obtain⟨j,rfl⟩:∃j,gk=j+1:=⟨gk - 1,aa⟩
   have I:(((j+1:Nat):Int) - 1)=(j:Int):=aa;rw[I];have J:=(O.o.below R E).C (j:=j / 16) (by rw[kj];omega);rw[nK _ _ _ aa] at J;have L:=mv X (j / 16);have p:=nT (j % 16);have s:=Bk X j;have B:0<=X / 2 ^ j % 2/\X / 2 ^ j % 2<=1:=aa;have h:0<=m' X (j / 16) / 2 ^ (j % 16):=dh L.1 aa;obtain⟨sm1,sm2⟩:=z.small c b r;have D:=z.q0;have K:=x.C (j:=j / 16) (by rw[kj];omega);rw[nK _ _ _ aa] at K;have m:=x.F (j / 16);have A:=mv (q * 2 ^ (j+1)) (j / 16);have u:=ax x;have a:=ax z;have V:Hid (2 * q * 2 ^ j=q * 2 ^ (j+1)):=by show _=_;rw[ch,cd 2 q,bF,cd 2]
   have t:Hid ((2 * q+1) * 2 ^ j=q * 2 ^ (j+1)+2 ^ j):=by show _=_;rw[dk,ez,V.o]
   clear x z;by_cases H:d<=2 * y+X / 2 ^ j % 2
   .have f:=a.o.yes H
    have g:=f.small c b r;obtain⟨Q,k⟩:=MJ q j aa D (by rw[t.o] at g;exact g.2);have U:=ax f;have Y:=ax Q;have T:ad0 .u64 (ad0 .u64 (ad0 .u64 (2 * y)+X / 2 ^ j % 2) - d)=2 * y+X / 2 ^ j % 2 - d:=by simp only[iy];omega
    have N:=ax T;clear T f g Q s;by_cases g:9223372036854775808<=y
    .have s:=Bk X j
     go_wp2;go_roundg j
     exact⟨2 * q+1,_,aa,bu (Value.int IntKind.u64) N.o,rfl,U.o,by rw[t.o,<-Y.o];exact u.o.hJ _ _,bw⟩;omega
    .have s:=Bk X j
     go_wp2;go_roundg j
     exact⟨2 * q+1,_,aa,rfl,rfl,U.o,by rw[t.o,<-Y.o];exact u.o.hJ _ _,bw⟩;omega
   .have g:=a.o.no aa
    have f:=ax g;clear g;go_wp2;go_roundg j
    exact⟨2 * q,_,aa,rfl,rfl,f.o,by rw[V.o];exact u.o,bw⟩;omega
def xP(v:Value)(X:Int)(y:Nat)(f:Int)(w:World)(b:PO w v 8 X)(c:f=(y:Int))(R:y<=4):af4 af5 229 #[v,af6 f] w (au w (.int .u64 (X / 65536 ^ y % 18446744073709551616))):=by
 subst c;obtain⟨S,rfl,z⟩:=b;have a:=z.lt;have t:=ax z;clear z;go_in;go_wp2;go_loopg [5,6] 4 (λk n i wr=>k<=4/\n=.int .u64 (X / 65536 ^ (y+k) % 65536 ^ (4 - k))/\i=af6 ((y:Int)+(k:Int) - 1)/\af3 w wr)
 exact⟨aa,by simp[gU],by congr 1;omega,aC _ _⟩
 case round=>
  obtain⟨O,rfl,rfl,d⟩:=hrel;rcases bo gk with u|u
  .subst u
   go_wp2;go_ret;exact⟨rfl,bw⟩
  .obtain⟨j,rfl⟩:∃j,gk=j+1:=⟨gk - 1,aa⟩
   have g:((y:Int)+((j+1:Nat):Int) - 1)=((y+j:Nat):Int):=aa;rw[g];have q:=(t.o.below d a).C (j:=y+j) (by rw[kj];omega);rw[nK _ _ _ aa] at q;have T:=mv X (y+j);have s:=ax (MK X (y+j) (3 - j));have p:=nS (4 - (j+1));have Y:0<=X / 65536 ^ (y+(j+1)) % 65536 ^ (4 - (j+1)):=dB _ aa;have V:X / 65536 ^ (y+(j+1)) % 65536 ^ (4 - (j+1))<281474976710656:=by
    have z:=cO (X / 65536 ^ (y+(j+1))) p;have x:(65536:Int) ^ (4 - (j+1))<=281474976710656:=by
     have:j=0\/j=1\/j=2\/j=3:=aa;rcases this with rfl|rfl|rfl|rfl<;>decide
    omega
   have⟨z,x⟩:=ar (X / 65536 ^ (y+(j+1)) % 65536 ^ (4 - (j+1)));rw[x] at Y V |-;have r:=ax x;have Q:(((y+j:Nat):Int))<8:=aa
   have P:(((y+j:Nat):Int))=(y:Int)+(j:Int):=aa;clear x p;go_wp2;go_roundg j
   exact⟨aa,bu (Value.int IntKind.u64) (by rw[show 4 - j=3 - j+1 by omega,s.o,<-r.o,show 4 - (j+1)=3 - j by omega,de]),by congr 1;try omega,bw⟩;omega
def qY(a b d:Int)(w:World)(y:0<=a)(x:a<18446744073709551616)(v:0<=b)(u:b<18446744073709551616)(p:0<d)(g:d<18446744073709551616)(S:a * b / d<18446744073709551616):af4 af5 142 #[.int .u64 a,.int .u64 b,.int .u64 d] w (au w (.tuple #[.int .u64 (a * b / d),.int .u64 (a * b % d),.bool true])):=by
 obtain⟨s,Y⟩:=rL y x v u;have T:(d == 0)=false:=ae;have O:0<=a * b / d:=dh s aa;go_in;go_wp21;refine WE (xO a b _ y x v u) ?_;rintro X N ⟨z,f⟩;have q:=ax z;have R:=f.size;clear z;go_wp21;refine WE (MM X (a * b) d _ q.o s Y p g) ?_;rintro r M ⟨t,c⟩;have z:=ax t;have Q:=c.size;clear t;go_wp21;refine(xP r (a * b / d) 4 4 _ z.o rfl aa).M ?_;rw[show a * b / d / 65536 ^ 4 % 18446744073709551616=0 by omega];rintro e L ⟨rfl,t⟩;have P:=t.size;go_wp21;refine(xP r (a * b / d) 0 0 _ (z.o.K t) rfl aa).M ?_;rw[show a * b / d / 65536 ^ 0 % 18446744073709551616=a * b / d by rw[Int.pow_zero,Int.ediv_one];omega];rintro e K ⟨rfl,U⟩;go_wp2;go_ret3
 exact⟨rfl,bw⟩
def F_(a b d:Int)(w:World)(z:0<=a)(x:a<18446744073709551616)(v:0<=b)(u:b<=d)(y:0<d)(t:d<18446744073709551616):af4 af5 142 #[.int .u64 a,.int .u64 b,.int .u64 d] w (au w (.tuple #[.int .u64 (a * b / d),.int .u64 (a * b % d),.bool true])):=
 qY a b d w z x v aa y t (cj y (by have:a * b<=a * d:=bX u z;have:a * d<=18446744073709551615 * d:=bU aa  aa ;omega))
section
variable{n v:Int}{a b l:List Int}{p:Int × List Int}
def ko:Nat->Int->List Int
 | 0,n=>[n]
 | k+1,n=>if 127<n then(n % 128+128)::ko k (n / 128) else [n]
def il(n:Int):List Int:=ko 9 n
def oF(v:Int):Int:=if 0<=v then 2 * v else -2 * v - 1
def lH(n:Int):Int:=if n % 2=0 then n / 2 else -(n / 2) - 1
def zg(v:Int):List Int:=il (oF v)
def j9(z:-9223372036854775808<=v)(y:v<=9223372036854775807):0<=oF v/\oF v<18446744073709551616:=by
 unfold oF;split<;>omega
def wZ(v:Int):lH (oF v)=v:=by
 unfold lH oF;(repeat' split)<;>omega
def uM(z:0<=n)(y:n<18446744073709551616):-9223372036854775808<=lH n/\lH n<=9223372036854775807:=by
 unfold lH;split<;>omega
def xQ:∀(k:Nat) (n:Int),1<=ab0 (ko k n)/\ab0 (ko k n)<=k+1
 | 0,n=>by simp[ko]
 | k+1,n=>by
  unfold ko;split
  .have:=xQ k (n / 128);simp only[aK];omega
  .simp
def hM(n:Int):1<=ab0 (il n)/\ab0 (il n)<=10:=xQ 9 n
def jE(l:List Int):Prop:=∀b∈l,0<=b/\b<=255
def jE.append(h:jE a)(k:jE b):jE (a++b):=λx z=>(cz.1 z).elim (h x) (k x)
def jE.drop(h:jE a)(k:Nat):jE (a.drop k):=λx z=>h x (cp z)
def IK:∀(k:Nat) (n:Int),0<=n->n<2 * 128 ^ k->jE (ko k n)
 | 0,n,h0,h1=>λb z=>by simp only[ko,bQ] at z;subst z;simp at h1;omega
 | k+1,n,h0,h1=>by
  unfold ko;split
  .intro b z
   rcases aS.1 z with rfl|z
   .omega
   .refine IK k (n / 128) aa ?_ b z
    exact cj aa (by rw[bF,<-ch];exact h1)
  .intro b z;simp only[bQ] at z;subst z;omega
def jl(z:0<=n)(y:n<18446744073709551616):jE (il n):=IK 9 n z aa
def w_:Nat->List Int->Option (Int × List Int)
 | 0,_=>none
 | _+1,[]=>none
 | k+1,x::r=>
  if k=0/\1<x then none
  else if 127<x then(w_ k r).map (λp=>(x - 128+128 * p.1,p.2))
  else if x=0/\k<9 then none else some (x,r)
def hU(l:List Int):Option (Int × List Int):=w_ 10 l
def IL(r:List Int):∀(k:Nat) (n:Int),0<=n->n<2 * 128 ^ k->(n=0->9<=k)->w_ (k+1) (ko k n++r)=some (n,r)
 | 0,n,h0,h1,h2=>by
  have z:n=1:=by simp at h1;omega
  subst z;simp[ko,w_]
 | k+1,n,h0,h1,h2=>by
  unfold ko;split
  .rename_i h
   have z:n / 128<2 * 128 ^ k:=cj aa (by rw[bF,<-ch];exact h1);have y:=IL r k (n / 128) aa z aa;rw[bG,w_,aF aa,aH aa,y];simp only[df,bg,fs,and_true];omega
  .rename_i h
   rw[bG,w_,aF aa,aF aa,aF aa];rfl
def jr(z:0<=n)(y:n<18446744073709551616)(r:List Int):hU (il n++r)=some (n,r):=IL r 9 n z aa (λ_=>aD _)
def IM:∀(k:Nat) (l:List Int) (p:Int × List Int),w_ k l=some p->ab0 p.2<ab0 l/\∃j,p.2=l.drop j
 | 0,_,_,h=>by simp[w_] at h
 | k+1,[],_,h=>by simp[w_] at h
 | k+1,x::r,p,h=>by
  unfold w_ at h;split at h
  .cases h
  .split at h
   .cases hu:w_ k r with
    | none=>rw[hu] at h;simp at h
    | some q=>
     rw[hu] at h;simp only[df,bg] at h;obtain⟨y,j,z⟩:=IM k r q hu;subst h;exact⟨by simp only[aK];omega,j+1,by simpa using z⟩
   .split at h
    .cases h
    .simp only[bg] at h
     subst h;exact⟨ad,1,ad⟩
def MN:∀(k:Nat) (l:List Int) (p:Int × List Int),jE l->w_ (k+1) l=some p->0<=p.1/\p.1<2 * 128 ^ k
 | _,[],_,_,h=>by simp[w_] at h
 | 0,x::r,p,hb,h=>by
  have z:=hb x (aJ ..);rw[w_] at h;split at h
  .cases h
  .split at h
   .simp[w_] at h
   .split at h
    .cases h
    .simp only[bg] at h
     subst h;simp;omega
 | k+1,x::r,p,hb,h=>by
  have z:=hb x (aJ ..);have u:(0:Int)<128 ^ k:=dp aa;rw[w_] at h;split at h
  .cases h
  .split at h
   .cases hu:w_ (k+1) r with
    | none=>rw[hu] at h;simp at h
    | some q=>
     rw[hu] at h;simp only[df,bg] at h;have:=MN k r q (λy v=>hb y (aQ _ v)) hu;subst h;rw[ch];simp only;omega
   .split at h
    .cases h
    .simp only[bg] at h
     subst h;rw[ch];simp only;omega
def jm(z:jE l)(h:hU l=some p):0<=p.1/\p.1<18446744073709551616:=by
 have:=MN 9 l p z h;omega
def lI(h:hU l=some p):ab0 p.2<ab0 l/\∃j,p.2=l.drop j:=IM 10 l p h
def ub(v:Int):Int:=v % 18446744073709551616
def zY{q:Int}(z:-9223372036854775808<=q)(y:q<=v)(x:v<=9223372036854775807):wrap64 ((ub q+(v - q)) % 18446744073709551616)=v:=by
 unfold ub wrap64;omega
def xR(z:jE l)(h:hU l=some p):jE p.2:=by
 obtain⟨_,j,y⟩:=lI h;rw[y];exact z.drop j
def mw(z:∃j,a=l.drop j)(y:∃j,b=a.drop j):∃j,b=l.drop j:=by
 obtain⟨i,rfl⟩:=z;obtain⟨j,rfl⟩:=y;exact⟨i+j,by rw[cQ]⟩
end
section
section
variable{t:TypeId}{base g:Nat}{w w':World}{v:Value}{bs l:List Int}
def R'(x:Int)(z:0<=x)(y:x<=255):bits .or .u8 x 128=x % 128+128:=by
 have h:∀n:Fin 256,bits .or .u8 ((n.val:Nat):Int) 128=((n.val:Nat):Int) % 128+128:=ai;obtain⟨n,rfl⟩:=bO z;exact h ⟨n,aa⟩
def MO(x:Int)(z:0<=x)(y:x<=255):bits .and .u8 x 127=x % 128:=by
 have h:∀n:Fin 256,bits .and .u8 ((n.val:Nat):Int) 127=((n.val:Nat):Int) % 128:=ai;obtain⟨n,rfl⟩:=bO z;exact h ⟨n,aa⟩
def UO:(prog.info? 5).map (λi=>(i.zero,i.size,i.bytes))=some (some (.int .u8 0),1,1):=by kernel_rfl
def hO.lift{k:IntKind}{base':Nat}(h:hO t k base w v l)(s:∀g,v.ownBlock=some g->base'<=g):hO t k base' w v l:=by
 obtain⟨u,z⟩:=h;refine⟨u,?_⟩;rcases z with z|⟨g,y,x,rfl,q,r⟩
 .exact .inl z
 .exact .inr ⟨g,y,x,rfl,s g rfl,r⟩
def OwnB(base:Nat)(w:World)(v:Value)(l:List Int):Prop:=hO 5 .u8 base w v l
def kv{ops:Array Oper}{rest:List Oper}{o:Oper}{a:Act}{Q:Exit->Act->World->Prop}(b:o.guard=none)(s x:Operand)
 (X:o.op=.call {callee:=.builtin .append,args:=#[s,x],argTypes:=#[37,37]})
 (r:Nat) (v:Value) (xs:List Int) (U:a.eval s=v) (V:OwnB r w v xs)
 (u:Value) (y:List Int) (T:a.eval x=u) (q:jC .u8 w u y)
 (N:ab0 xs+ab0 y<=1099511627776) (d:r<=w.heap.size)
 (h:∀z t,OwnB r t z (xs++y)->w.grownBy t v.ownBlock->(z.ownBlock=v.ownBlock\/z.ownBlock=some w.heap.size)->wpList prog ops Q rest (a.put o.dst z) t):wpList prog ops Q (o::rest) a w:=by
 obtain⟨O,Y,S,R,P⟩:=cR UO;obtain⟨A,c,rfl,_,_,_⟩:=q.form;refine kQ w b s x 37 X r 5 O _ 1 1 underlying37 Y S R P rfl aa v (ab0 xs) (xs.map (Value.int .u8)) U V A (ab0 y) c (y.map (Value.int .u8)) T q (IJ _ _)
  (by unfold maxLen;omega) aa d λz t p g f=>h z t ?_ g f
 unfold OwnB hO;rw[aE,dU];exact p
def Wr(t:TypeId)(base:Nat)(w:World)(g:Nat)(bs:List Int):Prop:=base<=g/\∃v,g7 w g t #[v]/\OwnB base w v bs
def g7.Bl{t b:Nat}{cs:Array Value}(h:g7 w g t cs)(x:OwnB b w v l)(u:t≠5):v.ownBlock≠some g:=by
 intro e;rcases x.2 with y|⟨f,s,q,rfl,p,z,r⟩
 .rw[y.1] at e;cases e
 .cases e
  unfold g7 at h;rw[h] at z;cases z
  exact u rfl
def OwnB.far(h:OwnB base w v l){p:Addr}(y:v.ownBlock≠some p.block)(u:Value):OwnB base (w.setCell p u) v l:=
 hO.stay h λg z=>a_ w p u g (λe=>y (by rw[z,e]))
def Wr.put{v':Value}(x:t≠5)(u:base<=g)(h:g7 w g t #[v])(r:OwnB base w v bs){bs':List Int}(y:OwnB base w' v' bs')(s:w.grownBy w' v.ownBlock):Wr t base (w'.setCell (af7 g 0) v') g bs':=by
 have z:g7 w' g t #[v]:=(s.block g h.lt (λe=>h.Bl r x e.Y)).T h;exact⟨u,v',z.hJ 0 v',y.far (λe=>z.Bl y x e) _⟩
def Wr.lt{t:TypeId}{base:Nat}{w:World}{g:Nat}{bs:List Int}(h:Wr t base w g bs):base<=g/\g<w.heap.size:=by
 obtain⟨z,v,y,_⟩:=h;exact⟨z,y.lt⟩
def Wr.K(h:Wr t base w g bs)(z:af3 w w'):Wr t base w' g bs:=by
 obtain⟨y,v,x,u⟩:=h;exact⟨y,v,x.K z,hO.K u z⟩
def nL(k:Nat)(n:Int)(h:127<n):ko (k+1) n=(n % 128+128)::ko k (n / 128):=by rw[ko,aH h]
def nM(k:Nat)(n:Int)(h:¬127<n):ko k n=[n]:=by
 cases k with
 | zero=>rfl
 | succ k=>rw[ko,aF h]
def tv(g y:Nat)(n s:Int)(x:List Int)(w:World)(h:Wr 373 y w g x)(E:0<=n)(W:n<18446744073709551616)(B:ab0 x<=1000000000000):af4 af5 405 #[aq g,.int .u64 n,af6 s] w λe M=>e=.returned (.tuple #[])/\Wr 373 y M g (x++il n)/\Below y w M:=by
 have H:=ax h;have j:=h.lt;clear h;go_in;go_wp2;go_loopg [1] 9 (λk v wr=>∃(m:Int) (z:List Int),k<=9/\v=.int .u64 m/\0<=m/\m<2 * 128 ^ k/\ab0 z<=9 - k/\Hid (z++ko k m=il n)/\Hid (Wr 373 y wr g (x++z))/\Below y w wr)
 exact⟨n,[],aa,rfl,E,aa,ad,ax rfl,by rw[bP];exact H,aC _ _⟩
 case round=>
  obtain⟨m,z,b,rfl,o,O,C,R,G,T⟩:=hrel;obtain⟨S,v,u,q⟩:=G.o;have t:=ax u;have r:=ax q;have K:=u.k0;have A:=u.lt;have Q:ab0 (x++z)+1<=1099511627776:=by rw[aE];omega
  clear u q;by_cases P:127<m
  .obtain⟨q,rfl⟩:∃q,gk=q+1:=by
    rcases bo gk with u|u
    .subst u;simp at O;omega
    .exact⟨gk - 1,aa⟩
   have l:m<18446744073709551616:=by
    have p:(2:Int) * 128 ^ (q+1)<=2 * 128 ^ 9:=by
     have:(128:Int) ^ (q+1)<=128 ^ 9:=by
      have u:(128:Nat) ^ (q+1)<=128 ^ 9:=bM aa  aa
      exact_mod_cast u
     omega
    omega
   have V:=ax (nL q m P);have I:m / 128<2 * 128 ^ q:=cj aa (by rw[bF,<-ch];exact O);have i:=R' (m % 256) aa  aa
   go_wp2_with (first
    | (at_builtin
       go_must (refine kv rfl (.tmp 12) (.tmp 16) rfl y v (x++z) rfl (hO.alloc r.o _) _ [m % 128+128] rfl (jC.ig _ _ _ _ _ rfl) Q (by simp only[aI];omega) ?_)
       intro D c f u Y;obtain⟨L,F,d,_,_,_⟩:=(hO.rd f).form;generalize ab0 (x++z++[m % 128+128])=N at d;subst d;have U:Below y w c:=(T.alloc aa _).grown u (by simp only[aI];omega) (λk b=>(hO.lt r.o k b).1);have a:=ax (Wr.put ab S (t.o.alloc _) (hO.alloc r.o _) f u);have p:g7 c g 373 #[v]:=(u.block g (t.o.alloc _).lt (λe=>t.o.Bl r.o ab e.Y)).T (t.o.alloc _);have X:=p.k0;have J:=p.F 0;clear f u Y p))
   go_roundg q
   exact⟨m / 128,z++[m % 128+128],aa,rfl,aa,I,ae,by show _=_;rw[aN,<-R.o,V.o];rfl,by rw[<-aN];exact a,U.setCell aa _⟩;omega
  .have V:=ax (nM gk m P)
   go_wp2_with (first
    | (at_builtin
       go_must (refine kv rfl (.tmp 26) (.tmp 29) rfl y v (x++z) rfl (hO.alloc r.o _) _ [m] rfl (jC.ig _ _ _ _ _ rfl) Q (by simp only[aI];omega) ?_)
       intro D c f u Y;obtain⟨L,F,d,_,_,_⟩:=(hO.rd f).form;generalize ab0 (x++z++[m])=N at d;subst d;have U:Below y w c:=(T.alloc aa _).grown u (by simp only[aI];omega) (λk b=>(hO.lt r.o k b).1);have a:=ax (Wr.put ab S (t.o.alloc _) (hO.alloc r.o _) f u);have p:g7 c g 373 #[v]:=(u.block g (t.o.alloc _).lt (λe=>t.o.Bl r.o ab e.Y)).T (t.o.alloc _);have X:=p.k0;have J:=p.F 0;clear f u Y p))
   refine ct (v:=.tuple #[]) (by simp[results,Tryz.results405,go_sem, *];try rfl) rfl ?_;exact⟨rfl,by rw[<-R.o,V.o,<-aN];exact a.o,U.setCell aa _⟩
end
section
def pl:Nat->Int
 | 0=>98|1=>104|2=>72|3=>119|4=>87|5=>113|6=>81|7=>118|8=>122|_=>110
def Ga:Nat->Int
 | 0=>1|1=>2|2=>2|3=>4|4=>4|5=>8|6=>8|_=>0
def pZ:Nat->Nat
 | 0=>401|1=>401|2=>403|3=>401|4=>403|5=>401|6=>403|7=>405|8=>407|_=>409
def sG:Nat->Nat
 | 0=>402|1=>402|2=>404|3=>402|4=>404|5=>402|6=>404|7=>406|8=>408|_=>410
def SI(k:Nat):Value:=.func (.func k) #[] #[]
def UP(j:Nat):List Value:=[.int .u8 (pl j),af6 (Ga j),SI (pZ j),SI (sG j)]
def kp:Array Value:=([0,1,2,3,4,5,6,7,8,9].flatMap UP).toArray
def uN(j:Nat)(h:j<10):kp[j * 4]?=some (.int .u8 (pl j))/\kp[j * 4+1]?=some (af6 (Ga j))/\kp[j * 4+2]?=some (SI (pZ j))/\kp[j * 4+3]?=some (SI (sG j)):=by
 have:j=0\/j=1\/j=2\/j=3\/j=4\/j=5\/j=6\/j=7\/j=8\/j=9:=aa;rcases this with rfl|rfl|rfl|rfl|rfl|rfl|rfl|rfl|rfl|rfl<;>exact⟨rfl,rfl,rfl,rfl⟩
def zZ(w:World):af4 af5 352 #[] w (au w (.agg kp)):=by
 have y:(#[.int .u8 98,af6 1,.func (.func 401) #[] #[],.func (.func 402) #[] #[],.int .u8 104,af6 2,.func (.func 401) #[] #[],.func (.func 402) #[] #[],.int .u8 72,af6 2,.func (.func 403) #[] #[],.func (.func 404) #[] #[],.int .u8 119,af6 4,.func (.func 401) #[] #[],.func (.func 402) #[] #[],.int .u8 87,af6 4,.func (.func 403) #[] #[],.func (.func 404) #[] #[],.int .u8 113,af6 8,.func (.func 401) #[] #[],.func (.func 402) #[] #[],.int .u8 81,af6 8,.func (.func 403) #[] #[],.func (.func 404) #[] #[],.int .u8 118,af6 0,.func (.func 405) #[] #[],.func (.func 406) #[] #[],.int .u8 122,af6 0,.func (.func 407) #[] #[],.func (.func 408) #[] #[],.int .u8 110,af6 0,.func (.func 409) #[] #[],.func (.func 410) #[] #[]]:Array Value)=kp:=by kernel_rfl
 go_in;go_wp2_with (refine wpList_store_row rfl 447 (.tmp 0) (.tmp 11) rfl w.heap.size _ rfl rfl 447 _ (cH _ _) (by as_aux_lemma=>kernel_rfl) (by as_aux_lemma=>kernel_rfl) (by as_aux_lemma=>kernel_rfl) ?_)
 refine bodyPost_ret (v:=.agg kp) (results_cell_row (p:=0) (ty:=447) (by kernel_rfl) _ _ w.heap.size 447 kp (0,0) _ rfl (setRow_heap _ _ _ _ _ _ (cH _ _)) underlying447 rfl (by kernel_rfl)) rfl ?_;exact⟨rfl,below_setRow ((aC _ _).alloc (aD _) _) (aD _) _⟩
end
section
def CO(a b c:Int)(f g:Nat)(r:Bool)(h:Nat)(w:World)(x:w.cell? (af7 h 0)=some (.int .u8 c))(z:(a == c)=r):af4 af5 354 #[.agg #[.int .u8 a,af6 b,.func (.func f) #[] #[],.func (.func g) #[] #[]],aq h] w (au w (.bool r)):=by
 have u:h<w.heap.size:=bH _ _ x;have y:=ax z;clear z;go_in;go_wp2;go_ret;exact⟨ph y.o,bw⟩
def xS(k:Nat)(c:Int)(G h:Nat)(w:World)(H:k<10)(z:g7 w G 447 kp)(y:w.cell? (af7 h 0)=some (.int .u8 c))(t:∀j,j<k->(pl j == c)=false)(u:(pl k == c)=true):af4 af5 353 #[.slice (some (af7 G 0)) 10 10,.func (.func 354) #[] #[aq h]] w (au w (af6 k)):=by
 have K:∀x w,(callFunc 354 x).run prog w=.ok (.enter 354 x) w:=λ_ _=>rfl;have O:h<w.heap.size:=bH _ _ y;have V:=ax z;have Y:=ax y;have U:=ax t;have X:=ax u;have P:=z.lt;clear z y t u;go_in;go_wp2;go_loopg [8] (10) (λq i wr=>∃j:Nat,q=10 - j/\j<=k/\i=af6 j/\af3 w wr)
 exact⟨0,rfl,bl _,rfl,aC _ _⟩
 case round=>
  obtain⟨j,y,J,rfl,z⟩:=hrel;have T:=ax y;have q:=z.size;clear y;obtain⟨u,g,f,d⟩:=uN j aa;have B:=V.o.below z P;have M:=(B.C (j * 4)).T u;have L:=(B.C (j * 4+1)).T g;have S:=(B.C (j * 4+2)).T f;have R:=(B.C (j * 4+3)).T d;have y:=(z.C (p:=af7 h 0) O).T Y.o;have t:=ax y;unfold SI at S R;have I:(j:Int)<10:=aa;have N:∀r,(pl j == c)=r->Hid ((pl j == c)=r):=λr h=>ax h;have s:=λv b r (x:v.cell? (af7 h 0)=some (.int .u8 c)) (Q:(pl j == c)=r)=>ax (CO (pl j) b c (pZ j) (sG j) r h v x Q);clear u g f d B y;rcases bm j k with x|x
  .have u:=ax (U.o j x)
   generalize pl j=a at *;generalize Ga j=b at *;generalize pZ j=p at *;generalize sG j=g at *;go_wp2_with (go_at_fn 354;refine RX (s _ _ _ t.o u.o).o ?_;intro d y;have f:=y.size)
   go_roundg (10 - (j+1))
   exact⟨j+1,rfl,aa,af,z.T (y.M q)⟩;have:=T.o;omega
  .obtain rfl:k=j:=aa
   have u:=X;generalize pl k=a at *;generalize Ga k=b at *;generalize pZ k=p at *;generalize sG k=g at *;go_wp2_with (go_at_fn 354;refine RX (s _ _ _ t.o u.o).o ?_;intro d y;have f:=y.size)
   go_ret;exact⟨rfl,z.T (y.M q)⟩
end
section
structure VZ(k:Nat)(c:Int):Prop where
 e:c=pl k
 lt:k<10
 no:∀j,j<k->(pl j == c)=false
 yes:(pl k == c)=true
 WG:Ga k=0
def MP(j:Nat)(h:j<7):(pl j == 118)=false:=by
 have:j=0\/j=1\/j=2\/j=3\/j=4\/j=5\/j=6:=aa;rcases this with rfl|rfl|rfl|rfl|rfl|rfl|rfl<;>decide
def MQ(j:Nat)(h:j<8):(pl j == 122)=false:=by
 have:j=0\/j=1\/j=2\/j=3\/j=4\/j=5\/j=6\/j=7:=aa;rcases this with rfl|rfl|rfl|rfl|rfl|rfl|rfl|rfl<;>decide
def Qa:VZ 7 118:=⟨rfl,aa,MP,ab,rfl⟩
def UQ:VZ 8 122:=⟨rfl,aa,MQ,ab,rfl⟩
def my(k:Nat)(c:Int)(w:World)(h:VZ k c):af4 af5 276 #[.int .u8 c] w (au w (.tuple #[.agg #[.int .u8 c,af6 0,.func (.func (pZ k)) #[] #[],.func (.func (sG k)) #[] #[]],.bool true])):=by
 have H:=ax h;have X:=h.lt;have N:(k:Int)<10:=aa;clear h;go_in;go_wp21;refine RX (zZ _) ?_;intro z v;have P:=v.size;simp only[aI] at P;have f:Hid (z.cell? (af7 (w.heap.size) 0)=some (.int .u8 c)):=by
  refine(v.C (p:=af7 (w.heap.size) 0) (by show w.heap.size<_;simp only[aI];omega)).T ?_;refine(((aC (w.alloc (.cells #[.int .u8 c] 5)).heap.size (w.alloc (.cells #[.int .u8 c] 5))).alloc (aD _) _).C (p:=af7 (w.heap.size) 0) (by show w.heap.size<_;simp only[aI];omega)).T ?_;simp[bW]
 have Q:w.heap.size<z.heap.size:=aa;have d:Hid (g7 z (w.heap.size+1) 377 #[.int .u8 0,af6 0,Value.nilFunc,Value.nilFunc]):=by
  have h:=(g7.new (w.alloc (.cells #[.int .u8 c] 5)) 377 #[.int .u8 0,af6 0,Value.nilFunc,Value.nilFunc]).K v
  rwa [aI] at h
 go_wp2_with (refine wpList_store_row rfl 447 (.tmp 4) (.tmp 6) rfl z.heap.size kp rfl rfl 447 _ (cH _ _) (by as_aux_lemma=>kernel_rfl) (by as_aux_lemma=>kernel_rfl) (by as_aux_lemma=>kernel_rfl) ?_)
 have g:=setRow_heap _ _ _ kp _ _ (cH z (Obj.cells
  #[Value.int IntKind.u8 0,Value.int IntKind.i64 0,Value.nilFunc,Value.nilFunc,Value.int IntKind.u8 0,
   Value.int IntKind.i64 0,Value.nilFunc,Value.nilFunc,Value.int IntKind.u8 0,Value.int IntKind.i64 0,
   Value.nilFunc,Value.nilFunc,Value.int IntKind.u8 0,Value.int IntKind.i64 0,Value.nilFunc,
   Value.nilFunc,Value.int IntKind.u8 0,Value.int IntKind.i64 0,Value.nilFunc,Value.nilFunc,
   Value.int IntKind.u8 0,Value.int IntKind.i64 0,Value.nilFunc,Value.nilFunc,Value.int IntKind.u8 0,
   Value.int IntKind.i64 0,Value.nilFunc,Value.nilFunc,Value.int IntKind.u8 0,Value.int IntKind.i64 0,
   Value.nilFunc,Value.nilFunc,Value.int IntKind.u8 0,Value.int IntKind.i64 0,Value.nilFunc,
   Value.nilFunc,Value.int IntKind.u8 0,Value.int IntKind.i64 0,Value.nilFunc,Value.nilFunc]
  447))
 have r:=below_setRow ((aC z.heap.size z).alloc (aD _) (Obj.cells
  #[Value.int IntKind.u8 0,Value.int IntKind.i64 0,Value.nilFunc,Value.nilFunc,Value.int IntKind.u8 0,
   Value.int IntKind.i64 0,Value.nilFunc,Value.nilFunc,Value.int IntKind.u8 0,Value.int IntKind.i64 0,
   Value.nilFunc,Value.nilFunc,Value.int IntKind.u8 0,Value.int IntKind.i64 0,Value.nilFunc,
   Value.nilFunc,Value.int IntKind.u8 0,Value.int IntKind.i64 0,Value.nilFunc,Value.nilFunc,
   Value.int IntKind.u8 0,Value.int IntKind.i64 0,Value.nilFunc,Value.nilFunc,Value.int IntKind.u8 0,
   Value.int IntKind.i64 0,Value.nilFunc,Value.nilFunc,Value.int IntKind.u8 0,Value.int IntKind.i64 0,
   Value.nilFunc,Value.nilFunc,Value.int IntKind.u8 0,Value.int IntKind.i64 0,Value.nilFunc,
   Value.nilFunc,Value.int IntKind.u8 0,Value.int IntKind.i64 0,Value.nilFunc,Value.nilFunc]
  447)) (aD z.heap.size) kp
 generalize (z.alloc (Obj.cells
  #[Value.int IntKind.u8 0,Value.int IntKind.i64 0,Value.nilFunc,Value.nilFunc,Value.int IntKind.u8 0,
   Value.int IntKind.i64 0,Value.nilFunc,Value.nilFunc,Value.int IntKind.u8 0,Value.int IntKind.i64 0,
   Value.nilFunc,Value.nilFunc,Value.int IntKind.u8 0,Value.int IntKind.i64 0,Value.nilFunc,
   Value.nilFunc,Value.int IntKind.u8 0,Value.int IntKind.i64 0,Value.nilFunc,Value.nilFunc,
   Value.int IntKind.u8 0,Value.int IntKind.i64 0,Value.nilFunc,Value.nilFunc,Value.int IntKind.u8 0,
   Value.int IntKind.i64 0,Value.nilFunc,Value.nilFunc,Value.int IntKind.u8 0,Value.int IntKind.i64 0,
   Value.nilFunc,Value.nilFunc,Value.int IntKind.u8 0,Value.int IntKind.i64 0,Value.nilFunc,
   Value.nilFunc,Value.int IntKind.u8 0,Value.int IntKind.i64 0,Value.nilFunc,Value.nilFunc]
  447)).setRow z.heap.size kp=V at *
 have x:Hid (g7 V z.heap.size 447 kp):=ax g;have L:=x.o.lt;refine RX (xS k c z.heap.size w.heap.size V X x.o ((r.C (p:=af7 (w.heap.size) 0) Q).T f.o) H.o.no H.o.yes) ?_;intro u q;have y:=x.o.K q;obtain⟨U,T,S,R⟩:=uN k X;have a:=(y.C (k * 4)).T U;have Y:=(y.C (k * 4+1)).T T;have t:=(y.C (k * 4+2)).T S;have s:=(y.C (k * 4+3)).T R;unfold SI at t s;rw[<-H.o.e] at a;rw[H.o.WG] at Y;have b:Hid (g7 u (w.heap.size+1) 377 #[.int .u8 0,af6 0,Value.nilFunc,Value.nilFunc]):=(d.o.below r aa).below q aa;have M:decide ((k:Int)<0)=false:=bq aa;clear g y U T S R f d x;have T:(prog.info? 377).map (·.size)=some 4:=by kernel_rfl
 have⟨x,f⟩:=ar (pZ k);have⟨y,g⟩:=ar (sG k);rw[f] at t;rw[g] at s;have U:=ax f;have d:=ax g;clear f g;go_wp2_with ((refine wpList_store_row rfl 377 (.tmp 2) (.tmp 15) rfl (w.heap.size+1) #[.int .u8 c,af6 0,.func (.func x) #[] #[],.func (.func y) #[] #[]] rfl rfl 377 _ b.o T rfl (by simp[Value.oneCell']) ?_))
 have g:g7 (u.setRow (w.heap.size+1) #[.int .u8 c,af6 0,.func (.func x) #[] #[],.func (.func y) #[] #[]]) (w.heap.size+1) 377 #[.int .u8 c,af6 0,.func (.func x) #[] #[],.func (.func y) #[] #[]]:=setRow_heap _ _ _ _ _ _ b.o;have f:af3 w (u.setRow (w.heap.size+1) #[.int .u8 c,af6 0,.func (.func x) #[] #[],.func (.func y) #[] #[]]):=by
  refine below_setRow ?_ aa _;exact((((((aC _ _).alloc (aD _) _).alloc ad _).T (v.M (by simp only[aI];omega))).T (r.M aa)).T (q.M aa))
 generalize u.setRow (w.heap.size+1) #[.int .u8 c,af6 0,.func (.func x) #[] #[],.func (.func y) #[] #[]]=I at *;obtain⟨S,R,K,J⟩:=g.c4;clear a Y t s g;go_wp2;refine ak ?_;exact⟨by rw[U.o,d.o],f⟩
def Gb(k:Nat)(c:UInt8)(w:World)(h:VZ k (c.toNat:Int)):af4 af5 275 #[.string ⟨#[c]⟩] w (au w (.bool true)):=by
 have H:=ax h;clear h;go_in;go_wp2;go_loopg [11] 1 (λq i wr=>∃j:Nat,q=1 - j/\j<=1/\i=af6 j/\af3 w wr)
 exact⟨0,rfl,aa,rfl,aC _ _⟩
 case round=>
  obtain⟨j,y,u,rfl,z⟩:=hrel;have x:=ax y;have s:=z.size;clear y;by_cases t:j<1
  .obtain rfl:j=0:=aa
   go_wp2_with (go_at_call 276;refine RX (my k (c.toNat:Int) _ H.o) ?_;intro q y;have r:=y.size)
   go_roundg 0
   exact⟨1,rfl,aa,af,bw⟩;have:=x.o;omega
  .go_wp2
   go_ret;exact⟨rfl,z⟩
end
end
section
def wJ(p:Option Int)(v:Int):List Int:=match p with
 | none=>zg v
 | some q=>il (v - q)
def qI:Option Int->List Mn->List Int
 | _,[]=>[]
 | p,m::l=>wJ p m.1++(il m.2++qI (some m.1) l)
def sH:List Mn->List Int
 | []=>[]
 | m::l=>zg m.1++(il m.2++sH l)
def z_(d:Int)(L W:List Mn)(lo hi:Int):List Int:=il d++(zg lo++(zg hi++(il (ab0 L)++(qI none L++(il (ab0 W)++sH W)))))
def z':Option Int->List Mn->Option Int
 | p,[]=>p
 | _,m::l=>z' (some m.1) l
def xT(m:Mn):∀(p:Option Int) (l:List Mn),z' p (l++[m])=some m.1
 | _,[]=>rfl
 | _,x::l=>xT m (some x.1) l
def xU(m:Mn):∀(p:Option Int) (l:List Mn),qI p (l++[m])=qI p l++(wJ (z' p l) m.1++il m.2)
 | p,[]=>by simp[qI,z']
 | p,x::l=>by simp only[bG,qI,xU m (some x.1) l,z',aN]
def CU(m:Mn):∀(l:List Mn),sH (l++[m])=sH l++(zg m.1++il m.2)
 | []=>by simp[sH]
 | x::l=>by simp only[bG,sH,CU m l,aN]
def Ad(l:List Mn)(h:0<ab0 l):qI none (l.take 1)=qI none (l.take 0)++(zg l[0].1++il l[0].2):=by
 have:=xU l[0] none (l.take 0);rw[<-aM h] at this;rw[this];simp[z',wJ]
def CZ(l:List Mn)(j:Nat)(h:j+1<ab0 l):qI none (l.take (j+1+1))=qI none (l.take (j+1))++(il (l[j+1].1 - l[j].1)++il l[j+1].2):=by
 have:=xU l[j+1] none (l.take (j+1));rw[<-aM h] at this;rw[this,aM (show j<ab0 l by omega),xT];rfl
def C5(l:List Mn)(j:Nat)(h:j<ab0 l):sH (l.take (j+1))=sH (l.take j)++(zg l[j].1++il l[j].2):=by
 rw[aM h,CU]
def MR(p:Option Int)(v:Int):1<=ab0 (wJ p v)/\ab0 (wJ p v)<=10:=by
 unfold wJ;split
 .exact hM _
 .exact hM _
def p7:∀(p:Option Int) (l:List Mn),2 * ab0 l<=ab0 (qI p l)/\ab0 (qI p l)<=20 * ab0 l
 | _,[]=>by simp[qI]
 | p,m::l=>by
  have z:=p7 (some m.1) l;have y:=MR p m.1;have x:=hM m.2;simp only[qI,aE,aK];omega
def tw:∀(l:List Mn),2 * ab0 l<=ab0 (sH l)/\ab0 (sH l)<=20 * ab0 l
 | []=>by simp[sH]
 | m::l=>by
  have z:=tw l;have y:=hM (oF m.1);have x:=hM m.2;simp only[sH,zg,aE,aK];omega
def tz(l:List Mn)(j:Nat):ab0 (qI none (l.take j))<=20 * ab0 l:=by
 have z:=(p7 none (l.take j)).2;have y:ab0 (l.take j)<=ab0 l:=by rw[aU];omega
 omega
def tA(l:List Mn)(j:Nat):ab0 (sH (l.take j))<=20 * ab0 l:=by
 have z:=(tw (l.take j)).2;have y:ab0 (l.take j)<=ab0 l:=by rw[aU];omega
 omega
end
section
def jv(l:List Int):Option (Nat × List Int):=match hU l with
 | some p=>if p.1<=65536/\p.1<=ab0 p.2 then some (p.1.toNat,p.2) else none
 | none=>none
def Kd(p:Option Int)(n:Int):Option Int:=match p with
 | none=>some (lH n)
 | some q=>if wrap64 ((ub q+n) % 18446744073709551616)<q then none else some (wrap64 ((ub q+n) % 18446744073709551616))
def jY(p:Option Int)(l:List Int):Option (Mn × List Int):=match hU l with
 | none=>none
 | some x=>match Kd p x.1 with
  | none=>none
  | some v=>match hU x.2 with
   | none=>none
   | some y=>some ((v,y.1),y.2)
def Cr:Nat->List Mn->List Int->Option (List Mn × List Int)
 | 0,acc,l=>some (acc,l)
 | k+1,acc,l=>match jY (acc.getLast?.map (·.1)) l with
  | none=>none
  | some x=>Cr k (acc++[x.1]) x.2
def Cs:Nat->List Mn->List Int->Option (List Mn × List Int)
 | 0,acc,l=>some (acc,l)
 | k+1,acc,l=>match jY none l with
  | none=>none
  | some x=>Cs k (acc++[x.1]) x.2
def kM(l:List Int):Option (List Mn × List Int):=match jv l with
 | none=>none
 | some x=>Cr x.1 [] x.2
def lu(l:List Int):Option (List Mn × List Int):=match jv l with
 | none=>none
 | some x=>Cs x.1 [] x.2
structure WI where
 d:Int
 lo:Int
 hi:Int
 L:List Mn
 W:List Mn
def Qb(l:List Int):Option (WI × List Int):=match hU l with
 | none=>none
 | some a=>match hU a.2 with
  | none=>none
  | some b=>match hU b.2 with
   | none=>none
   | some c=>match kM c.2 with
    | none=>none
    | some x=>match lu x.2 with
     | none=>none
     | some y=>some (⟨a.1,lH b.1,lH c.1,x.1,y.1⟩,y.2)
def xV(m:Mn)(r:List Int)(y:-9223372036854775808<=m.1)(x:m.1<=9223372036854775807)(v:0<=m.2)(u:m.2<18446744073709551616):jY none (wJ none m.1++(il m.2++r))=some (m,r):=by
 have z:=j9 y x;unfold jY wJ zg;rw[jr z.1 z.2];simp only[Kd,wZ];rw[jr v u]
def Gc(q:Int)(m:Mn)(r:List Int)(v:-9223372036854775808<=q)(u:q<=m.1)(z:m.1<=9223372036854775807)(y:0<=m.2)(x:m.2<18446744073709551616):jY (some q) (wJ (some q) m.1++(il m.2++r))=some (m,r):=by
 unfold jY wJ;rw[jr aa  aa];simp only[Kd,zY v u z];rw[aF aa];simp only;rw[jr y x]
def IN(r:List Int):∀(l acc:List Mn),oY (acc++l)->jF (acc++l)->Cr (ab0 l) acc (qI (acc.getLast?.map (·.1)) l++r)=some (acc++l,r)
 | [],acc,_,_=>by simp[Cr,qI]
 | m::l,acc,hr,hs=>by
  have z:=hr m ad;have y:=IN r l (acc++[m]) (by simpa using hr) (by simpa using hs);rw[gR] at y;simp only[aK,Cr,qI,aN,df] at y |-
  cases hl:acc.getLast? with
  | none=>
   simp only[eT];rw[xV m _ z.1 z.2.1 z.2.2.1 aa];simp only;rw[y];simp
  | some q=>
   have x:q∈acc:=fQ hl;have u:=hr q (by simp[x]);have v:q.1<=m.1:=(fJ.1 hs).2.2 q x m ad;simp only[df];rw[Gc q.1 m _ u.1 v z.2.1 z.2.2.1 aa];simp only;rw[y];simp
def IP(r:List Int):∀(l acc:List Mn),oY l->Cs (ab0 l) acc (sH l++r)=some (acc++l,r)
 | [],acc,_=>by simp[Cs,sH]
 | m::l,acc,hr=>by
  have z:=hr m ad;have v:=IP r l (acc++[m]) (λx y=>hr x (aQ _ y));have y:=xV m (sH l++r) z.1 z.2.1 z.2.2.1 aa;simp only[wJ] at y;simp only[aK,Cs,sH,aN];rw[y];simp only;rw[v];simp
def xW(n:Nat)(r:List Int)(h:n<=65536)(z:n<=ab0 r):jv (il n++r)=some (n,r):=by
 unfold jv;rw[jr aa  aa];simp only;rw[aH ⟨aa,aa⟩];simp
def Qc{d lo hi:Int}{L W:List Mn}(r:List Int)(y:0<=d)(x:d<18446744073709551616)(f:-9223372036854775808<=lo)(c:lo<=9223372036854775807)(t:-9223372036854775808<=hi)(s:hi<=9223372036854775807)
 (q:oY L) (g:jF L) (p:oY W) (b:ab0 L<=65536) (a:ab0 W<=65536):Qb (z_ d L W lo hi++r)=some (⟨d,lo,hi,L,W⟩,r):=by
 have sl:=j9 f c;have z:=j9 t s;have Y:=(p7 none L).1;have X:=(tw W).1;unfold Qb z_ zg;simp only[aN];rw[jr y x];simp only;rw[jr sl.1 sl.2];simp only;rw[jr z.1 z.2];simp only;have v:kM (il (ab0 L)++(qI none L++(il (ab0 W)++(sH W++r))))=some (L,il (ab0 W)++(sH W++r)):=by
  unfold kM;rw[xW _ _ b (by rw[aE];omega)];simp only;have:=IN (il (ab0 W)++(sH W++r)) L [] (by simpa using q) (by simpa using g);simpa using this
 rw[v];simp only;have u:lu (il (ab0 W)++(sH W++r))=some (W,r):=by
  unfold lu;rw[xW _ _ a (by rw[aE];omega)];simp only;have:=IP r W [] p;simpa using this
 rw[u];simp only[wZ]
end
section
variable{p:Nat × List Int}{bs l r1 r2 r3 r4:List Int}{x:List Mn × List Int}{d h:Int}{L W:List Mn}
def Ae{p:Option Int}{x:Mn × List Int}(t:jE l)(h:jY p l=some x):(-9223372036854775808<=x.1.1/\x.1.1<=9223372036854775807/\0<=x.1.2/\x.1.2<=18446744073709551615)/\jE x.2:=by
 unfold jY at h;cases h1:hU l with
 | none=>rw[h1] at h;cases h
 | some a=>
  rw[h1] at h;simp only at h;have z:=jm t h1;have u:=xR t h1;cases h2:Kd p a.1 with
  | none=>rw[h2] at h;cases h
  | some v=>
   rw[h2] at h;simp only at h;cases h3:hU a.2 with
   | none=>rw[h3] at h;cases h
   | some y=>
    rw[h3] at h;simp only[bg] at h;subst h;have r:=jm u h3;refine⟨?_,xR u h3⟩;have s:-9223372036854775808<=v/\v<=9223372036854775807:=by
     unfold Kd at h2;cases p with
     | none=>simp only[bg] at h2;rw[<-h2];exact uM z.1 z.2
     | some q=>
      simp only at h2;split at h2
      .cases h2
      .simp only[bg] at h2;rw[<-h2];unfold wrap64;omega
    simp only;omega
def IQ:∀(k:Nat) (acc:List Mn) (l:List Int) (x:List Mn × List Int),jE l->oY acc->Cr k acc l=some x->oY x.1/\ab0 x.1=ab0 acc+k/\jE x.2
 | 0,acc,l,x,hb,hr,h=>by simp only[Cr,bg] at h;subst h;exact⟨hr,rfl,hb⟩
 | k+1,acc,l,x,hb,hr,h=>by
  rw[Cr] at h;cases h1:jY (acc.getLast?.map (·.1)) l with
  | none=>rw[h1] at h;cases h
  | some y=>
   rw[h1] at h;obtain⟨a,b⟩:=Ae hb h1;have:=IQ k (acc++[y.1]) y.2 x b (λm z=>by
    rcases cz.1 z with z|z
    .exact hr m z
    .simp only[bQ] at z;subst z;exact a) h
   refine⟨this.1,?_,this.2.2⟩;rw[this.2.1];simp;omega
def IS:∀(k:Nat) (acc:List Mn) (l:List Int) (x:List Mn × List Int),jE l->oY acc->Cs k acc l=some x->oY x.1/\ab0 x.1=ab0 acc+k/\jE x.2
 | 0,acc,l,x,hb,hr,h=>by simp only[Cs,bg] at h;subst h;exact⟨hr,rfl,hb⟩
 | k+1,acc,l,x,hb,hr,h=>by
  rw[Cs] at h;cases h1:jY none l with
  | none=>rw[h1] at h;cases h
  | some y=>
   rw[h1] at h;obtain⟨a,b⟩:=Ae hb h1;have:=IS k (acc++[y.1]) y.2 x b (λm z=>by
    rcases cz.1 z with z|z
    .exact hr m z
    .simp only[bQ] at z;subst z;exact a) h
   refine⟨this.1,?_,this.2.2⟩;rw[this.2.1];simp;omega
def Af(z:jE l)(h:jv l=some p):p.1<=65536/\jE p.2:=by
 unfold jv at h;cases h1:hU l with
 | none=>rw[h1] at h;cases h
 | some a=>
  rw[h1] at h;simp only at h;split at h
  .rename_i y
   simp only[bg] at h;subst h;exact⟨by simp only;omega,xR z h1⟩
  .cases h
def Gd(u:jE l)(h:kM l=some x):oY x.1/\ab0 x.1<=65536/\jE x.2:=by
 unfold kM at h;cases h1:jv l with
 | none=>rw[h1] at h;cases h
 | some a=>
  rw[h1] at h;obtain⟨s,r⟩:=Af u h1;obtain⟨z,y,v⟩:=IQ a.1 [] a.2 x r (λm t=>by cases t) h;exact⟨z,by rw[y];simpa using s,v⟩
def Ge(u:jE l)(h:lu l=some x):oY x.1/\ab0 x.1<=65536/\jE x.2:=by
 unfold lu at h;cases h1:jv l with
 | none=>rw[h1] at h;cases h
 | some a=>
  rw[h1] at h;obtain⟨s,r⟩:=Af u h1;obtain⟨z,y,v⟩:=IS a.1 [] a.2 x r (λm t=>by cases t) h;exact⟨z,by rw[y];simpa using s,v⟩
def Ag{p:Option Int}{x:Mn × List Int}(h:jY p l=some x):∃j,x.2=l.drop j:=by
 unfold jY at h;cases h1:hU l with
 | none=>rw[h1] at h;cases h
 | some a=>
  rw[h1] at h;simp only at h;cases h2:Kd p a.1 with
  | none=>rw[h2] at h;cases h
  | some v=>
   rw[h2] at h;simp only at h;cases h3:hU a.2 with
   | none=>rw[h3] at h;cases h
   | some y=>
    rw[h3] at h;simp only[bg] at h;subst h;exact mw (lI h1).2 (lI h3).2
def IT:∀(k:Nat) (acc:List Mn) (l:List Int) (x:List Mn × List Int),Cr k acc l=some x->∃j,x.2=l.drop j
 | 0,acc,l,x,h=>by simp only[Cr,bg] at h;subst h;exact⟨0,ad⟩
 | k+1,acc,l,x,h=>by
  rw[Cr] at h;cases h1:jY (acc.getLast?.map (·.1)) l with
  | none=>rw[h1] at h;cases h
  | some y=>rw[h1] at h;exact mw (Ag h1) (IT k _ _ x h)
def IU:∀(k:Nat) (acc:List Mn) (l:List Int) (x:List Mn × List Int),Cs k acc l=some x->∃j,x.2=l.drop j
 | 0,acc,l,x,h=>by simp only[Cs,bg] at h;subst h;exact⟨0,ad⟩
 | k+1,acc,l,x,h=>by
  rw[Cs] at h;cases h1:jY none l with
  | none=>rw[h1] at h;cases h
  | some y=>rw[h1] at h;exact mw (Ag h1) (IU k _ _ x h)
def xX(h:jv l=some p):∃j,p.2=l.drop j:=by
 unfold jv at h;cases h1:hU l with
 | none=>rw[h1] at h;cases h
 | some a=>
  rw[h1] at h;simp only at h;split at h
  .simp only[bg] at h;subst h;exact(lI h1).2
  .cases h
def Gf(h:kM l=some x):∃j,x.2=l.drop j:=by
 unfold kM at h;cases h1:jv l with
 | none=>rw[h1] at h;cases h
 | some a=>rw[h1] at h;exact mw (xX h1) (IT _ _ _ _ h)
def Gg(h:lu l=some x):∃j,x.2=l.drop j:=by
 unfold lu at h;cases h1:jv l with
 | none=>rw[h1] at h;cases h
 | some a=>rw[h1] at h;exact mw (xX h1) (IU _ _ _ _ h)
def kk(bs:List Int):Option WI:=match Qb bs with
 | some (x,[])=>if x.d<=1000/\jA x.d x.lo x.hi x.L x.W=true/\z_ x.d x.L x.W x.lo x.hi=bs then some x else none
 | _=>none
def rM(bs:List Int)(x:WI):List Int->Option WI
 | []=>if x.d<=1000/\jA x.d x.lo x.hi x.L x.W=true/\z_ x.d x.L x.W x.lo x.hi=bs then some x else none
 | _::_=>none
def MS{r5:List Int}{l:Int}(z:hU bs=some (d,r1))(y:hU r1=some (l,r2))(x:hU r2=some (h,r3))(v:kM r3=some (L,r4))(u:lu r4=some (W,r5)):kk bs=rM bs ⟨d,lH l,lH h,L,W⟩ r5:=by
 unfold kk Qb;rw[z];simp only;rw[y];simp only;rw[x];simp only;rw[v];simp only;rw[u];cases r5<;>rfl
def Qd{l:Int}(z:hU bs=some (d,r1))(y:hU r1=some (l,r2))(x:hU r2=some (h,r3))(v:kM r3=none):kk bs=none:=by
 unfold kk Qb;rw[z];simp only;rw[y];simp only;rw[x];simp only;rw[v]
def Qe{l:Int}(z:hU bs=some (d,r1))(y:hU r1=some (l,r2))(x:hU r2=some (h,r3))(v:kM r3=some (L,r4))(u:lu r4=none):kk bs=none:=by
 unfold kk Qb;rw[z];simp only;rw[y];simp only;rw[x];simp only;rw[v];simp only;rw[u]
def Ke{lo hi:Int}(y:0<=d)(b:d<=9223372036854775807)(p:-9223372036854775808<=lo)(g:lo<=9223372036854775807)(x:-9223372036854775808<=hi)(v:hi<=9223372036854775807)
 (u:oY L) (q:jF L) (t:oY W) (f:ab0 L<=65536) (c:ab0 W<=65536):kk (z_ d L W lo hi)=if jA d lo hi L W=true then some ⟨d,lo,hi,L,W⟩ else none:=by
 have h:=Qc (r:=[]) y aa p g x v u q t f c;rw[bP] at h;unfold kk;rw[h];simp only;by_cases z:jA d lo hi L W=true
 .have s:d<=1000:=by
   have:=z;unfold jA at this;simp only[bC,bD] at this;omega
  rw[aH z,aH ⟨s,z,trivial⟩]
 .rw[aF z,aF (λh=>z h.2.1)]
end
section
structure FL(k:Nat)(c sz:Int):Prop where
 e:c=pl k
 lt:k<10
 no:∀j,j<k->(pl j == c)=false
 yes:(pl k == c)=true
 WG:Ga k=sz
def xY(k:Nat)(c y:Int)(h:(decide (k<10) && decide (c=pl k) && decide (Ga k=y) && (List.range k).all (λj=>!(pl j == c)))=true):FL k c y:=by
 simp only[bC,bD,gB,eG] at h;obtain⟨⟨⟨x,z⟩,v⟩,u⟩:=h;exact⟨z,x,λj t=>by have:=u j t;simpa using this,by rw[z];simp,v⟩
abbrev fz0:Array Value:=#[.int .u8 0,af6 0,.nilFunc,.nilFunc,.int .u8 0,af6 0,.nilFunc,.nilFunc,.int .u8 0,af6 0,.nilFunc,.nilFunc,.int .u8 0,af6 0,.nilFunc,.nilFunc,.int .u8 0,af6 0,.nilFunc,.nilFunc,.int .u8 0,af6 0,.nilFunc,.nilFunc,.int .u8 0,af6 0,.nilFunc,.nilFunc,.int .u8 0,af6 0,.nilFunc,.nilFunc,.int .u8 0,af6 0,.nilFunc,.nilFunc,.int .u8 0,af6 0,.nilFunc,.nilFunc]
def vM(k:Nat)(c v:Int)(w:World)(h:FL k c v):af4 af5 276 #[.int .u8 c] w (au w (.tuple #[.agg #[.int .u8 c,af6 v,.func (.func (pZ k)) #[] #[],.func (.func (sG k)) #[] #[]],.bool true])):=by
 have H:=ax h;have V:=h.lt;have M:(k:Int)<10:=aa;clear h;go_in;go_wp21;refine RX (zZ _) ?_;intro z u;have O:=u.size;simp only[aI] at O;have d:Hid (z.cell? (af7 (w.heap.size) 0)=some (.int .u8 c)):=by
  refine(u.C (p:=af7 (w.heap.size) 0) (by show w.heap.size<_;simp only[aI];omega)).T ?_;refine(((aC (w.alloc (.cells #[.int .u8 c] 5)).heap.size (w.alloc (.cells #[.int .u8 c] 5))).alloc (aD _) _).C (p:=af7 (w.heap.size) 0) (by show w.heap.size<_;simp only[aI];omega)).T ?_;simp[bW]
 have P:w.heap.size<z.heap.size:=aa;have b:Hid (g7 z (w.heap.size+1) 377 #[.int .u8 0,af6 0,Value.nilFunc,Value.nilFunc]):=by
  have h:=(g7.new (w.alloc (.cells #[.int .u8 c] 5)) 377 #[.int .u8 0,af6 0,Value.nilFunc,Value.nilFunc]).K u
  rwa [aI] at h
 go_wp2_with (refine wpList_store_row rfl 447 (.tmp 4) (.tmp 6) rfl z.heap.size kp rfl rfl 447 _ (cH _ _) (by as_aux_lemma=>kernel_rfl) (by as_aux_lemma=>kernel_rfl) (by as_aux_lemma=>kernel_rfl) ?_)
 have f:=setRow_heap _ _ _ kp _ _ (cH z (Obj.cells fz0 447));have t:=below_setRow ((aC z.heap.size z).alloc (aD _) (Obj.cells fz0 447)) (aD z.heap.size) kp;generalize (z.alloc (Obj.cells fz0 447)).setRow z.heap.size kp=U at *;have x:Hid (g7 U z.heap.size 447 kp):=ax f;have K:=x.o.lt;have J:=t.size;refine RX (xS k c z.heap.size w.heap.size U V x.o ((t.C (p:=af7 (w.heap.size) 0) P).T d.o) H.o.no H.o.yes) ?_;intro r s;have I:=s.size;have y:=x.o.K s;obtain⟨T,S,R,Q⟩:=uN k V;have Y:=(y.C (k * 4)).T T;have X:=(y.C (k * 4+1)).T S;have q:=(y.C (k * 4+2)).T R;have g:=(y.C (k * 4+3)).T Q;unfold SI at q g;rw[<-H.o.e] at Y;rw[H.o.WG] at X;have a:Hid (g7 r (w.heap.size+1) 377 #[.int .u8 0,af6 0,Value.nilFunc,Value.nilFunc]):=(b.o.below t aa).below s aa;have L:decide ((k:Int)<0)=false:=bq aa;clear f y T S R Q d b x;have S:(prog.info? 377).map (·.size)=some 4:=by kernel_rfl
 have⟨x,d⟩:=ar (pZ k);have⟨y,f⟩:=ar (sG k);rw[d] at q;rw[f] at g;have T:=ax d;have b:=ax f;clear d f;go_wp2_with ((refine wpList_store_row rfl 377 (.tmp 2) (.tmp 15) rfl (w.heap.size+1) #[.int .u8 c,af6 v,.func (.func x) #[] #[],.func (.func y) #[] #[]] rfl rfl 377 _ a.o S rfl (by simp[Value.oneCell']) ?_))
 have f:g7 (r.setRow (w.heap.size+1) #[.int .u8 c,af6 v,.func (.func x) #[] #[],.func (.func y) #[] #[]]) (w.heap.size+1) 377 #[.int .u8 c,af6 v,.func (.func x) #[] #[],.func (.func y) #[] #[]]:=setRow_heap _ _ _ _ _ _ a.o;have d:af3 w (r.setRow (w.heap.size+1) #[.int .u8 c,af6 v,.func (.func x) #[] #[],.func (.func y) #[] #[]]):=by
  refine below_setRow ?_ aa _;exact((((((aC _ _).alloc (aD _) _).alloc ad _).T (u.M (by simp only[aI];omega))).T (t.M aa)).T (s.M aa))
 generalize r.setRow (w.heap.size+1) #[.int .u8 c,af6 v,.func (.func x) #[] #[],.func (.func y) #[] #[]]=E at *;obtain⟨R,Q,G,F⟩:=f.c4;clear Y X q g f;go_wp2;refine ak ?_;exact⟨by rw[T.o,b.o],d⟩
def C6(p:ByteArray)(K G:Nat->Nat)(S:Nat->Int)(w:World)(s:p.size<=64)
 (y:∀(j:Nat) (h:j<p.size) (w:World),af4 af5 276 #[.int .u8 ((p[j]'h).toNat:Int)] w λe z=>e=.returned (.tuple #[.agg #[.int .u8 ((p[j]'h).toNat:Int),af6 (S j),.func (.func (K j)) #[] #[],.func (.func (G j)) #[] #[]],.bool true])/\af3 w z) :
 af4 af5 275 #[.string p] w (au w (.bool true)):=by
 have v:=ax y;have r:(p.size:Int)<=64:=aa;clear y;go_in;go_wp2;go_loopg [11] p.size (λq i wr=>∃j:Nat,q=p.size - j/\j<=p.size/\i=af6 j/\af3 w wr)
 exact⟨0,rfl,aa,rfl,aC _ _⟩
 case round=>
  obtain⟨j,x,q,rfl,y⟩:=hrel;have u:=ax x;have f:=y.size;clear x;by_cases t:j<p.size
  .have g:(j:Int)<(p.size:Int):=aa
   have F:=ax (v.o j t);go_wp2_with (go_at_call 276;refine RX (F.o _) ?_;intro c x;have d:=x.size)
   go_roundg (p.size - (j+1))
   exact⟨j+1,rfl,aa,af,bw⟩;have:=u.o;omega
  .obtain rfl:j=p.size:=aa
   go_wp2;go_ret;exact⟨rfl,y⟩
end
