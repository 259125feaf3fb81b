/- Parts. No condition. -/
import Derived.Test.YtdicblkhpcphfaaGreatPA15
set_option maxRecDepth 100000
set_option maxHeartbeats 0
set_option linter.all false
namespace Go.Proofs.YtdicblkhpcphfaaGreat
open Tryz Go.RowKit Go.Lib Go.Shelf
open _root_.List renaming length→ao
open _root_.Go renaming Calls→ar
open Tryz renaming prog→Oe
namespace D
variable{dg hi lo m u:Nat}
def nc(y lo hi dg u m:Nat)(gr:Bool)(bk:Nat)(l:List Pr)(F:Ft)(w:World):Prop:=∃v,gN w y 128 #[.int .i64 lo,.int .i64 hi,.int .i64 dg,.int .i64 u,.int .i64 m,.bool gr,.int .i64 bk,v]/\gO il 0 w v l/\F y/\(∀k,v.ownBlock=some k->F k)/\∀k,F k->k<w.heap.size
def mN(y b d g u m:Nat)(f:Bool)(p:Nat)(l:List Pr):lY (nc y b d g u m f p l) where
 stay:=λ⟨v,t,s,z,x,r⟩ q c=>⟨v,(q y z).trans t,s.stay λk e=>q k (x k e),z,x,λk h=>aR (r k h) c⟩
 more:=λ⟨v,t,s,z,x,_⟩ h q=>⟨v,t,s,h y z,λk e=>h k (x k e),q⟩
 low:=λ⟨_,_,_,_,_,r⟩=>r
def M7(d:Bool)(w:World)(ok:qP lo hi dg u m):ar Oe 47 #[.agg #[.int .i64 lo,.int .i64 hi,.int .i64 dg],.bool d] w λe q=>∃y,e=.returned (.pointer (some ⟨y,0,none⟩))/\nc y lo hi dg u m d (1+im u m hi) [] (Gr (λ_=>False) w q) q/\aq w q:=by
 have S:Hid (∀w,_):=ay (λw=>Dc w ok)
 have R:Hid (∀w,_):=ay (λw=>lO u m hi w ok.um (by have:=ok.h1;omega))
 have z:=ku (u:=u) (m:=m) (v:=hi) (by have:=ok.h1;omega)
 have N:im u m hi<=63:=by have:=ok.um;omega
 generalize im u m hi=f at *;clear ok z
 go_in
 go_wp2_with fail;obtain⟨b,y⟩:=au (w.heap.size);obtain⟨g,z⟩:=au (w.alloc (.cells #[.int .i64 lo,.int .i64 hi,.int .i64 dg] 31));have Y:aq w g:=by rw[<-z];exact bw
 have T:Hid (gN g b 31 #[.int .i64 lo,.int .i64 hi,.int .i64 dg]):=by rw[<-z,<-y];exact ay (gN.new _ _ _)
 rw[z,y];clear z y;refine(S.o g).mono ?_
 rintro e x ⟨rfl,V⟩;have y:=ay (T.o.keep V);have X:=Y.trans (V.mono Y.size);have U:=X.size;obtain⟨t,s,r⟩:=y.o.c3
 go_wp2_with fail;clear t s r;refine i' (aq x) (gW 0 8 (ib 8 (gW 9 2 (ib 11 (gW 12 1 []))))) ((aC _ _).drew) ?_
 iterate 8 refine hC (h:=λq z=>by have t:=(y.o.keep z).cell 0;have s:=(y.o.keep z).k1;have r:=(y.o.keep z).k2;simp only[aA,az,aB] at t;exact Qv) ?_
 refine iy λK p=>?_
 go_simp;refine((R.o x.drew)).mono ?_
 rintro e M ⟨rfl,rfl⟩;refine p _ _ ((aC _ _).drew) ?_
 clear p K
 iterate 2 refine hC (h:=λq z=>by have t:=(y.o.keep z).cell 0;have s:=(y.o.keep z).k1;have r:=(y.o.keep z).k2;simp only[aA,az,aB] at t;exact Qv) ?_
 refine iy λK p=>?_
 go_simp;refine p _ _ (((aC _ _).drew).alloc (aD _) _) ?_
 clear p K;refine hC (h:=λq z=>by have t:=(y.o.keep z).cell 0;have s:=(y.o.keep z).k1;have r:=(y.o.keep z).k2;simp only[aA,az,aB] at t;exact Qv) ?_
 refine gM ?_
 go_wp2
 go_ret;have Q:IntKind.i64.wrap (1+(f:Int))=((1+f:Nat):Int):=ai
 rw[Q];obtain⟨z,c⟩:=au ((x.alloc (.cells #[.int .i64 lo,.int .i64 hi,.int .i64 dg,.int .i64 u,.int .i64 m,.bool d,.int .i64 ((1+f:Nat):Int),.slice none 0 0] 128)).drew);have P:aq x z:=by rw[<-c];exact((aC _ _).alloc (aD _) _).drew
 have a:gN z x.heap.size 128 #[.int .i64 lo,.int .i64 hi,.int .i64 dg,.int .i64 u,.int .i64 m,.bool d,.int .i64 ((1+f:Nat):Int),.slice none 0 0]:=by rw[<-c];exact(gN.new _ _ _:gN (x.alloc _) _ _ _).drew
 have O:=a.lt;rw[c];exact⟨_,rfl,⟨_,a,gO.nil_ _ _,.inr ⟨U,O⟩,(λk e=>by cases e),λk h=>h.elim False.elim And.right⟩,X.trans (P.mono U)⟩
def i6(u m hi bk:Nat):Nat:=if bk=1+im u m hi then hi else nJ u m bk
def G5{y bk:Nat}{gr:Bool}{l:List Pr}{F:Ft}(w:World)(h:nc y lo hi dg u m gr bk l F w)(ok:qP lo hi dg u m)(X:1<=bk)(V:bk<=64):ar Oe 97 #[.pointer (some ⟨y,0,none⟩)] w (aw w (.int .i64 (i6 u m hi bk))):=by
 have t:Hid (i6 u m hi bk=if bk=1+im u m hi then hi else nJ u m bk):=ay rfl
 rw[t.o];have c:Hid (∀w,_):=ay (λw=>lO u m hi w ok.um (by have:=ok.h1;omega))
 have Y:Hid (∀w,_):=ay (λw=>AE u m bk w ok.um X V)
 have s:=ku (u:=u) (m:=m) (v:=hi) (by have:=ok.h1;omega)
 have R:im u m hi<=63:=by have:=ok.um;omega
 obtain⟨v,z,_⟩:=h;have x:=ay z;generalize im u m hi=B at *;generalize nJ u m bk=T at *;have f:Hid (IntKind.i64.wrap (1+(B:Int))=((1+B:Nat):Int)):=ay ai
 have S:=z.k1;clear ok s z t;obtain⟨N,z⟩:=au (1+B);rw[z] at f |-;clear z
 by_cases b:bk=N
 ·subst b
  rw[aH rfl];have U:((bk:Int) == (bk:Int))=true:=ad
  go_in
  go_wp2_with fail;refine i' (aq w) (gW 0 17 (ib 17 (gW 18 2 []))) ((aC _ _).drew) ?_
  iterate 17 refine hC (h:=λg z=>by have q:=(x.o.keep z).cell 1;have t:=(x.o.keep z).k3;have s:=(x.o.keep z).k4;have r:=(x.o.keep z).k6;have d:=f.o;simp only[aA,az,aB] at q;exact Qv) ?_
  refine iy λK p=>?_
  go_simp;refine((c.o w.drew)).mono ?_
  rintro e a ⟨rfl,rfl⟩;refine p _ _ ((aC _ _).drew) ?_
  clear p K
  iterate 2 refine hC (h:=λg z=>by have q:=(x.o.keep z).cell 1;have t:=(x.o.keep z).k3;have s:=(x.o.keep z).k4;have r:=(x.o.keep z).k6;have d:=f.o;simp only[aA,az,aB] at q;exact Qv) ?_
  refine gM ?_
  have q:=(x.o.drew).k1
  go_wp2
  go_ret;exact⟨rfl,(aC _ _).drew⟩
 ·rw[aG b]
  have U:((bk:Int) == (N:Int))=false:=af
  go_in
  go_wp2_with fail;refine i' (aq w) (gW 0 17 (ib 17 (gW 18 2 []))) ((aC _ _).drew) ?_
  iterate 17 refine hC (h:=λg z=>by have q:=(x.o.keep z).cell 1;have t:=(x.o.keep z).k3;have s:=(x.o.keep z).k4;have r:=(x.o.keep z).k6;have d:=f.o;simp only[aA,az,aB] at q;exact Qv) ?_
  refine iy λK p=>?_
  go_simp;refine((c.o w.drew)).mono ?_
  rintro e a ⟨rfl,rfl⟩;refine p _ _ ((aC _ _).drew) ?_
  clear p K
  iterate 2 refine hC (h:=λg z=>by have q:=(x.o.keep z).cell 1;have t:=(x.o.keep z).k3;have s:=(x.o.keep z).k4;have r:=(x.o.keep z).k6;have d:=f.o;simp only[aA,az,aB] at q;exact Qv) ?_
  refine gM ?_
  go_wp2_with fail;refine i' (aq w) (gW 0 12 (ib 12 (gW 13 1 []))) ((aC _ _).drew.drew) ?_
  iterate 12 refine hC (h:=λg z=>by have t:=(x.o.keep z).cell 3;have s:=(x.o.keep z).k4;have r:=(x.o.keep z).k6;simp only[aA,az,aB] at t;exact Qv) ?_
  refine iy λK p=>?_
  go_simp;refine((Y.o w.drew.drew)).mono ?_
  rintro e a ⟨rfl,rfl⟩;refine p _ _ ((aC _ _).drew.drew) ?_
  clear p K;refine hC (h:=λg z=>by have t:=(x.o.keep z).cell 3;have s:=(x.o.keep z).k4;have r:=(x.o.keep z).k6;simp only[aA,az,aB] at t;exact Qv) ?_
  refine gM ?_
  go_wp2
  go_ret;exact⟨rfl,(aC _ _).drew.drew⟩
structure iG(lo hi dg u m:Nat)(gr:Bool)(bk:Nat)(l:List Pr):Prop where
 sh:qP lo hi dg u m
 iJ:iE l
 pos:iu l
 sum:tot l<=4611686018427387904
 key:∀p∈l,∃v:Nat,v<9223372036854775808/\p.1=kh u m v/\1+im u m v<=bk
 fst:1+im u m hi<=bk
 mx:bk=1+im u m hi\/∃p∈l,∃v:Nat,v<9223372036854775808/\p.1=kh u m v/\bk=1+im u m v
 Tn:gr=false->bk=1+im u m hi
section
variable {lo hi dg u m bk : Nat} {gr : Bool} {l : List Pr}
variable{v:Nat}
def qP.mb(h:qP lo hi dg u m):1<=m/\m<=18:=by rw[h.me];exact yK h.d1
def AG(h:qP lo hi dg u m)(x:v<9223372036854775808):kh u m v<=16777216:=by
 have t:=xr (u:=u) (m:=m) (v:=v) aa
 have q:=ku (u:=u) (m:=m) x;have y:=h.mb;have s:2 ^ m<=262144:=(bJ aa y.2:2 ^ m<=2 ^ 18)
 have z:2 ^ (m - 1)<=131072:=(bJ aa  aa :2 ^ (m - 1)<=2 ^ 17)
 have r:im u m v * 2 ^ (m - 1)<=63 * 131072:=cT aa z
 unfold kh;omega
def iG.b0(h:iG lo hi dg u m gr bk l):1<=bk:=by have:=h.fst;omega
def iG.b1(h:iG lo hi dg u m gr bk l):bk<=64:=by
 have y:=h.sh.um;have t:=ku (u:=u) (m:=m) (v:=hi) (by have:=h.sh.h1;omega)
 rcases h.mx with e|⟨p,_,v,z,_,e⟩
 ·omega
 ·have x:=ku (u:=u) (m:=m) z;omega
def iG.kb(h:iG lo hi dg u m gr bk l):∀p∈l,0<=p.1/\p.1<=16777216:=λp z=>by
 obtain⟨v,y,e,_⟩:=h.key p z;have:=AG h.sh y;omega
def iG.len(h:iG lo hi dg u m gr bk l):ao l<=16777217:=by
 have:=yG h.iJ h.kb aa
 omega
def hsE(u m:Nat)(gr:Bool)(bk:Nat)(l:List Pr)(v n:Int):Int:=if n=0 then 4 else if v<0 then 5 else if gr=false/\(nJ u m bk:Int)<v then 5 else if 4611686018427387904<tot l+n then 6 else 0
def hsL(u m:Nat)(gr:Bool)(bk:Nat)(l:List Pr)(v n:Int):List Pr:=if hsE u m gr bk l v n=0 then hO (kh u m v.toNat) n l else l
def hsB(u m:Nat)(gr:Bool)(bk:Nat)(l:List Pr)(v n:Int):Nat:=if hsE u m gr bk l v n=0 then max bk (1+im u m v.toNat) else bk
def Py(h:qP lo hi dg u m):iG lo hi dg u m gr (1+im u m hi) []:=⟨h,List.Pairwise.nil,ad,by simp[tot],ad,aD _,.inl rfl,λ_=>rfl⟩
def Pz{n:Nat}(z:v<9223372036854775808)(y:1<=n)(h:v<=nJ u m n):1+im u m v<=n:=by
 have x:=ku (u:=u) (m:=m) z;unfold nJ at h
 split at h
 ·omega
 ·have:im u m v<=n - 1:=(Fa aa).2 (by
   rw[show u+m+(n - 1)=n - 1+u+m by omega]
   have:=bR (n - 1+u+m);omega)
  omega
def PA{v n:Int}(h:iG lo hi dg u m gr bk l)(O:v<=9223372036854775807)(P:0<=n):iG lo hi dg u m gr (hsB u m gr bk l v n) (hsL u m gr bk l v n):=by
 unfold hsB hsL
 by_cases z:hsE u m gr bk l v n=0
 ·rw[aH z,aH z]
  unfold hsE at z
  by_cases s:n=0
  ·rw[aH s] at z;omega
  by_cases r:v<0
  ·rw[aG s,aH r] at z;omega
  by_cases g:gr=false/\(nJ u m bk:Int)<v
  ·rw[aG s,aG r,aH g] at z;omega
  by_cases U:4611686018427387904<tot l+n
  ·rw[aG s,aG r,aG g,aH U] at z;omega
  obtain⟨x,rfl⟩:=bL (a:=v) aa
  have b:x<9223372036854775808:=aa
  simp only[bM];refine⟨h.sh,tz h.iJ,put_pos aa h.pos,by rw[pT];omega,λp t=>?_,by have:=h.fst;omega,?_,λX=>?_⟩
  ·rcases put_mem t with e|t
   ·exact⟨x,b,e,aa⟩
   ·obtain⟨y,Y,e,R⟩:=h.key p t
    exact⟨y,Y,e,aa⟩
  ·have V:=lV (put_pos (k:=(kh u m x:Int)) (n:=n) aa h.pos)
   rcases fs (1+im u m x) bk with d|d
   ·rw[Nat.max_eq_left d]
    rcases h.mx with e|⟨p,t,y,Y,T,S⟩
    ·exact .inl e
    ·refine .inr ?_
     have Q:=qG h.pos t;obtain⟨q,c,f⟩:=(V p.1).2 (by rw[sm];split<;>omega)
     exact⟨q,c,y,Y,f.trans T,S⟩
   ·rw[Nat.max_eq_right d]
    refine .inr ?_
    have Q:=jy (k:=(kh u m x:Int)) h.pos;obtain⟨q,c,f⟩:=(V (kh u m x:Int)).2 (by rw[sm,aH rfl];omega)
    exact⟨q,c,x,b,f,rfl⟩
  ·have R:=h.Tn X
   have q:x<=nJ u m bk:=by
    rcases bg (nJ u m bk) x with y|y
    ·exact absurd ⟨X,aa⟩ g
    ·exact y
   have:=Pz b h.b0 q;omega
 ·rw[aG z,aG z];exact h
def Dd(l t:List Pr):Int:=if 4611686018427387904<tot l+tot t then 6 else 0
def M9(l t:List Pr):List Pr:=if Dd l t=0 then hX l t else l
def M_(l t:List Pr)(bk bt:Nat):Nat:=if Dd l t=0 then max bk bt else bk
def Na{bt:Nat}{t:List Pr}(h:iG lo hi dg u m gr bk l)(k:iG lo hi dg u m gr bt t):iG lo hi dg u m gr (M_ l t bk bt) (M9 l t):=by
 unfold M_ M9
 by_cases s:Dd l t=0
 ·rw[aH s,aH s]
  have a:¬4611686018427387904<tot l+tot t:=λb=>by unfold Dd at s;rw[aH b] at s;omega
  have f:=tA h.pos k.pos;refine⟨h.sh,lD h.iJ,kJ h.pos k.pos,by rw[mj];omega,λp r=>?_,by have:=h.fst;omega,?_,λc=>?_⟩
  ·rcases(f p.1).1 ⟨p,r,rfl⟩ with⟨q,x,e⟩|⟨q,x,e⟩
   ·obtain⟨y,v,z,g⟩:=h.key q x
    exact⟨y,v,e.symm.trans z,aa⟩
   ·obtain⟨y,v,z,g⟩:=k.key q x
    exact⟨y,v,e.symm.trans z,aa⟩
  ·rcases fs bt bk with d|d
   ·rw[Nat.max_eq_left d]
    rcases h.mx with e|⟨p,r,y,v,z,g⟩
    ·exact .inl e
    ·obtain⟨q,x,e⟩:=(f p.1).2 (.inl ⟨p,r,rfl⟩)
     exact .inr ⟨q,x,y,v,e.trans z,g⟩
   ·rw[Nat.max_eq_right d]
    rcases k.mx with e|⟨p,r,y,v,z,g⟩
    ·exact .inl e
    ·obtain⟨q,x,e⟩:=(f p.1).2 (.inr ⟨p,r,rfl⟩)
     exact .inr ⟨q,x,y,v,e.trans z,g⟩
  ·have:=h.Tn c
   have:=k.Tn c;omega
 ·rw[aG s,aG s];exact h
end
def nn(v:Int):List Int:=lj 8 (qs v)
def uX(v:Int):1<=ao (nn v)/\ao (nn v)<=9:=tZ 8 _
def nK(g:Int):List Int:=if g=1 then [0] else if 1<g then [-g] else []
def wy:Int->List Pr->List Int
 | _,[]=>[]
 | a,p::l=>nK (p.1 - a)++p.2::wy (p.1+1) l
def Nb(l:List Pr):List Int:=if l=[] then [0] else wy 0 l
def qh(l:List Int):List Int:=l.flatMap nn
def oS(l:List Pr):List Int:=qh (Nb l)
def jA:Nat->Int->List Int
 | 0,_=>[]
 | k+1,n=>jA k (n / 256)++[n % 256]
def iQ:∀(k:Nat) (n:Int),ao (jA k n)=k
 | 0,_=>rfl
 | k+1,n=>by rw[jA,aE,iQ k];rfl
def J9(lo reach dg c:Int):List Int:=jA 4 478450451++jA 4 c++jA 4 0++jA 4 dg++jA 8 lo++jA 8 reach++jA 8 4607182418800017408
def hwB(lo reach dg:Int)(l:List Pr):List Int:=J9 lo reach dg (ao (oS l))++oS l
def qi(a:Int):List Pr->Int
 | []=>a
 | p::l=>qi (p.1+1) l
def AH(g:Int):ao (nK g)<=1:=by unfold nK;(repeat' split)<;>simp
def tD:∀(l:List Pr) (a:Int),ao (wy a l)<=2 * ao l
 | [],_=>by simp[wy]
 | p::l,a=>by
  have z:=AH (p.1 - a);have y:=tD l (p.1+1);rw[wy,aE,aJ,aJ];omega
def Nc(l:List Pr):ao (Nb l)<=2 * ao l+1:=by
 unfold Nb;split
 ·simp
 ·have:=tD l 0;omega
def rD:∀(l:List Int),ao l<=ao (qh l)/\ao (qh l)<=9 * ao l
 | []=>by simp[qh]
 | n::l=>by
  have z:=uX n;have y:=rD l;have e:qh (n::l)=nn n++qh l:=rfl;rw[e,aE,aJ];omega
def ou(a b:List Int):qh (a++b)=qh a++qh b:=List.flatMap_append
def rE(l:List Pr):1<=ao (oS l)/\ao (oS l)<=18 * ao l+9:=by
 have z:=Nc l;have y:=rD (Nb l);have x:1<=ao (Nb l):=by
  unfold Nb;split
  ·simp
  ·rename_i h
   cases l with
   | nil=>exact absurd rfl h
   | cons p l=>rw[wy,aE,aJ];omega
 unfold oS;omega
def Fb(lo z dg:Int)(l:List Pr):ao (hwB lo z dg l)=40+ao (oS l):=by unfold hwB J9;simp only[aE,iQ]
section
variable {lo hi dg u m bk : Nat} {gr : Bool} {l : List Pr}
def iG.pb(h:iG lo hi dg u m gr bk l):∀p∈l,0<=p.1/\p.1<=16777216/\0<p.2/\p.2<=4611686018427387904:=λp z=>by
 have y:=h.kb p z;have x:=h.pos p z;have v:=nm h.pos p z;have:=h.sum;omega
end
variable{bs r:List Int}{a:Nat}
structure FL(k:Nat)(c sz:Int):Prop where
 e:c=nC k
 lt:k<10
 no:∀j,j<k->(nC j == c)=false
 yes:(nC k == c)=true
 Sn:Cp k=sz
def xw(k:Nat)(c y:Int)(h:(decide (k<10) && decide (c=nC k) && decide (Cp k=y) && (List.range k).all (λj=>!(nC j == c)))=true):FL k c y:=by
 simp only[bQ,a_,e_,ep] at h;obtain⟨⟨⟨x,z⟩,v⟩,u⟩:=h;exact⟨z,x,λj t=>by have:=u j t;simpa using this,by rw[z];simp,v⟩
def J_:FL 0 98 1:=xw 0 98 1 ab
def Rm:FL 4 87 4:=xw 4 87 4 ab
def Rn:FL 6 81 8:=xw 6 81 8 ab
def Nd:FL 7 118 0:=xw 7 118 0 ab
def To:VZ 9 110:=by
 have h:=xw 9 110 0 ab
 exact⟨h.e,h.lt,h.no,h.yes,h.Sn⟩
def ic(k:Nat)(c v:Int)(w:World)(h:FL k c v) :
 ar Oe 276 #[.int .u8 c] w (aw w (.tuple #[.agg #[.int .u8 c,.int .i64 v,.func (.func (mY k)) #[] #[],.func (.func (se k)) #[] #[]],.bool true])):=by
 have H:=ay h;have V:=h.lt;have M:(k:Int)<10:=aa
 clear h
 go_in
 go_wp2_with fail;refine(wQ _).mono ?_
 rintro e z ⟨rfl,u⟩;have O:=u.size;simp only[aI] at O;have d:Hid (z.cell? ⟨w.heap.size,0,none⟩=some (.int .u8 c)):=by
  refine(u.cell (p:=⟨w.heap.size,0,none⟩) (by show w.heap.size<_;simp only[aI];omega)).trans ?_
  refine(((aC (w.alloc (.cells #[.int .u8 c] 5)).heap.size (w.alloc (.cells #[.int .u8 c] 5))).alloc (aD _) _).cell (p:=⟨w.heap.size,0,none⟩) (by show w.heap.size<_;simp only[aI];omega)).trans ?_
  simp[bU]
 have P:w.heap.size<z.heap.size:=aa
 have b:Hid (gN z (w.heap.size+1) 377 #[.int .u8 0,.int .i64 0,Value.nilFunc,Value.nilFunc]):=by
  have h:=(gN.new (w.alloc (.cells #[.int .u8 c] 5)) 377 #[.int .u8 0,.int .i64 0,Value.nilFunc,Value.nilFunc]).keep u
  rwa [aI] at h
 go_wp2_with (refine wpList_store_row rfl 447 (.tmp 4) (.tmp 6) rfl z.heap.size jF rfl rfl 447 _ (cm _ _) (by as_aux_lemma=>kernel_rfl) (by as_aux_lemma=>kernel_rfl) (by as_aux_lemma=>kernel_rfl) ?_)
 have f:=setRow_heap _ _ _ jF _ _ (cm z (Obj.cells
  #[Value.int IntKind.u8 0,Value.int IntKind.i64 0,Value.nilFunc,Value.nilFunc,Value.int IntKind.u8 0,
   Value.int IntKind.i64 0,Value.nilFunc,Value.nilFunc,Value.int IntKind.u8 0,Value.int IntKind.i64 0,
   Value.nilFunc,Value.nilFunc,Value.int IntKind.u8 0,Value.int IntKind.i64 0,Value.nilFunc,
   Value.nilFunc,Value.int IntKind.u8 0,Value.int IntKind.i64 0,Value.nilFunc,Value.nilFunc,
   Value.int IntKind.u8 0,Value.int IntKind.i64 0,Value.nilFunc,Value.nilFunc,Value.int IntKind.u8 0,
   Value.int IntKind.i64 0,Value.nilFunc,Value.nilFunc,Value.int IntKind.u8 0,Value.int IntKind.i64 0,
   Value.nilFunc,Value.nilFunc,Value.int IntKind.u8 0,Value.int IntKind.i64 0,Value.nilFunc,
   Value.nilFunc,Value.int IntKind.u8 0,Value.int IntKind.i64 0,Value.nilFunc,Value.nilFunc]
  447))
 have q:=below_setRow ((aC z.heap.size z).alloc (aD _) (Obj.cells
  #[Value.int IntKind.u8 0,Value.int IntKind.i64 0,Value.nilFunc,Value.nilFunc,Value.int IntKind.u8 0,
   Value.int IntKind.i64 0,Value.nilFunc,Value.nilFunc,Value.int IntKind.u8 0,Value.int IntKind.i64 0,
   Value.nilFunc,Value.nilFunc,Value.int IntKind.u8 0,Value.int IntKind.i64 0,Value.nilFunc,
   Value.nilFunc,Value.int IntKind.u8 0,Value.int IntKind.i64 0,Value.nilFunc,Value.nilFunc,
   Value.int IntKind.u8 0,Value.int IntKind.i64 0,Value.nilFunc,Value.nilFunc,Value.int IntKind.u8 0,
   Value.int IntKind.i64 0,Value.nilFunc,Value.nilFunc,Value.int IntKind.u8 0,Value.int IntKind.i64 0,
   Value.nilFunc,Value.nilFunc,Value.int IntKind.u8 0,Value.int IntKind.i64 0,Value.nilFunc,
   Value.nilFunc,Value.int IntKind.u8 0,Value.int IntKind.i64 0,Value.nilFunc,Value.nilFunc]
  447)) (aD z.heap.size) jF
 generalize (z.alloc (Obj.cells
  #[Value.int IntKind.u8 0,Value.int IntKind.i64 0,Value.nilFunc,Value.nilFunc,Value.int IntKind.u8 0,
   Value.int IntKind.i64 0,Value.nilFunc,Value.nilFunc,Value.int IntKind.u8 0,Value.int IntKind.i64 0,
   Value.nilFunc,Value.nilFunc,Value.int IntKind.u8 0,Value.int IntKind.i64 0,Value.nilFunc,
   Value.nilFunc,Value.int IntKind.u8 0,Value.int IntKind.i64 0,Value.nilFunc,Value.nilFunc,
   Value.int IntKind.u8 0,Value.int IntKind.i64 0,Value.nilFunc,Value.nilFunc,Value.int IntKind.u8 0,
   Value.int IntKind.i64 0,Value.nilFunc,Value.nilFunc,Value.int IntKind.u8 0,Value.int IntKind.i64 0,
   Value.nilFunc,Value.nilFunc,Value.int IntKind.u8 0,Value.int IntKind.i64 0,Value.nilFunc,
   Value.nilFunc,Value.int IntKind.u8 0,Value.int IntKind.i64 0,Value.nilFunc,Value.nilFunc]
  447)).setRow z.heap.size jF=U at *
 have x:Hid (gN U z.heap.size 447 jF):=ay f;have K:=x.o.lt;refine(ua k c z.heap.size w.heap.size U V x.o ((q.cell (p:=⟨w.heap.size,0,none⟩) P).trans d.o) H.o.no H.o.yes).mono ?_
 rintro e t ⟨rfl,g⟩;have y:=x.o.keep g;obtain⟨T,S,R,Q⟩:=sf k V;have Y:=(y.cell (k * 4)).trans T;have X:=(y.cell (k * 4+1)).trans S;have s:=(y.cell (k * 4+2)).trans R;have r:=(y.cell (k * 4+3)).trans Q;unfold OV at s r;rw[<-H.o.e] at Y;rw[H.o.Sn] at X;have a:Hid (gN t (w.heap.size+1) 377 #[.int .u8 0,.int .i64 0,Value.nilFunc,Value.nilFunc]):=(b.o.below q aa).below g aa
 have L:decide ((k:Int)<0)=false:=cj aa
 clear f y T S R Q d b x;have S:(prog.info? 377).map (·.size)=some 4:=by kernel_rfl
 obtain⟨x,d⟩:=au (mY k);obtain⟨y,f⟩:=au (se k);rw[d] at s;rw[f] at r;have T:=ay d;have b:=ay f;clear d f
 go_wp2_with ((refine wpList_store_row rfl 377 (.tmp 2) (.tmp 15) rfl (w.heap.size+1) #[.int .u8 c,.int .i64 v,.func (.func x) #[] #[],.func (.func y) #[] #[]] rfl rfl 377 _ a.o S rfl (by simp[Value.oneCell']) ?_))
 have f:gN (t.setRow (w.heap.size+1) #[.int .u8 c,.int .i64 v,.func (.func x) #[] #[],.func (.func y) #[] #[]]) (w.heap.size+1) 377 #[.int .u8 c,.int .i64 v,.func (.func x) #[] #[],.func (.func y) #[] #[]]:=setRow_heap _ _ _ _ _ _ a.o;have d:aq w (t.setRow (w.heap.size+1) #[.int .u8 c,.int .i64 v,.func (.func x) #[] #[],.func (.func y) #[] #[]]):=by
  refine below_setRow ?_ aa _
  exact((((((aC _ _).alloc (aD _) _).alloc ad _).trans (u.mono (by simp only[aI];omega))).trans (q.mono aa)).trans (g.mono aa))
 generalize t.setRow (w.heap.size+1) #[.int .u8 c,.int .i64 v,.func (.func x) #[] #[],.func (.func y) #[] #[]]=G at *;obtain⟨R,Q,J,I⟩:=f.c4;clear Y X s r f
 go_wp2;refine an ?_
 exact⟨by rw[T.o,b.o],d⟩
def bE:uJ Int where
 k:=1
 t:=5
 enc x:=[.int .u8 x]
 len _:=rfl
 one x u hu:=by
  simp only[aS,cQ,or_false] at hu;subst hu;rfl
def bI:(prog.info? 5).map (λi=>(i.zero,i.size,i.bytes))=some (some (.int .u8 0),1,1):=by kernel_rfl
def qQ:Ty prog bE 37:=xm bI underlying37 rfl ab  ab
def yL:∀l:List Int,cellsE bE l=l.map (Value.int .u8)
 | []=>rfl
 | x::l=>by rw[ja,yL l];rfl
def gX{base:Nat}{w:World}{v:Value}{l:List Int}:OwnB base w v l<->gO bE base w v l:=by
 unfold OwnB gT gO;rw[yL];rfl
def J':∀(K:Nat) (n:Int) (j:Nat),j<K->(jA K n)[j]?=some (n / 2 ^ (8 * (K - 1 - j)) % 256)
 | K+1,n,j,h=>by
  rw[jA]
  rcases bg j K with z|z
  ·rw[cO (by rw[iQ];exact z),J' K _ j z,cS aa]
   have e:(256:Int) * 2 ^ (8 * (K - 1 - j))=2 ^ (8 * (K+1 - 1 - j)):=by
    rw[show K+1 - 1 - j=K - 1 - j+1 by omega,fH,dT,bS];rfl
   rw[e]
  ·obtain rfl:j=K:=aa
   rw[cU (by rw[iQ];exact aD _),iQ]
   simp
def lq(g z K:Nat)(n:Int)(bs:List Int)(w:World)(h:Wr 373 z w g bs)(n0:0<=n)(n1:n<18446744073709551616)(x:K<=8)(hl:ao bs<=1000000000000) :
 ar Oe 403 #[.pointer (some ⟨g,0,none⟩),.int .u64 n,.int .i64 K] w λe u=>e=.returned (.tuple #[])/\Wr 373 z u g (bs++jA K n)/\Below z w u:=by
 have H:=ay h;have hlt:=h.lt;clear h;have J:Hid (IntKind.i64.wrap ((K:Int) - 1)=(K:Int) - 1):=ay ai
 have C:=J.o
 go_in
 go_wp2
 go_loopg [6] K (λq i wr=>∃j:Nat,q=K - j/\j<=K/\i=.int .i64 ((K:Int) - 1 - j)/\Hid (Wr 373 z wr g (bs++(jA K n).take j))/\Below z w wr)
 exact⟨0,rfl,aa,ad,by rw[cY,bT];exact H,aC _ _⟩
 case round=>
  obtain⟨j,y,hj,rfl,M,c⟩:=hrel;have F:=ay y;have hz:=c.size;clear y C
  by_cases o:j<K
  ·obtain⟨i,p⟩:=au (K - 1 - j)
   have l:(K:Int) - 1 - j=(i:Int):=aa
   rw[l];have hi0:(0:Int)<=(i:Int):=aa
   obtain⟨s,f⟩:=au (8 * i);have Tp:s<64:=aa
   have I:Hid (IntKind.i64.wrap (8 * (i:Int))=(s:Int)):=ay ai
   have L:Hid (IntKind.i64.wrap ((i:Int) - 1)=(i:Int) - 1):=ay ai
   have t:(jA K n)[j]?=some (n / 2 ^ s % 256):=by rw[J' K n j o,p,f]
   have D:IntKind.u8.wrap (n / 2 ^ s)=n / 2 ^ s % 256:=rfl;obtain⟨y,v⟩:=au (n / 2 ^ s % 256);rw[v] at t D;have G:Hid ((jA K n).take (j+1)=(jA K n).take j++[y]):=ay (by rw[List.take_add_one,t];rfl)
   clear v;obtain⟨A,v,r,q⟩:=M.o;have X:=ay r;have U:=ay q;have m:ao (bs++(jA K n).take j)+1<=1099511627776:=by
    have d:=iQ K n;rw[aE,aU];omega
   clear r q f p t;have Y:gN wr.drew g 373 #[v]:=X.o.drew;generalize (jA K n).take j=T at *;obtain⟨q,b,O,_,_,_⟩:=(gT.rd U.o).form;obtain⟨f,t⟩:=au (ao (bs++T));rw[t] at O;subst O;clear t;have V:Hid (gN (wr.alloc (.cells #[.int .u8 y] 5)).drew g 373 #[.slice q f b]):=ay (X.o.alloc _).drew;have t:Hid (gO bE z (wr.alloc (.cells #[.int .u8 y] 5)).drew (.slice q f b) (bs++T)):=ay (gO.alloc (gX.1 U.o) _).drew;have P:Below z w (wr.alloc (.cells #[.int .u8 y] 5)).drew:=(c.alloc aa _).drew
   go_upto_region 3 with fail;refine ki (λu=>gN u g 373 #[.slice q f b]) 12 (gW 0 10 (ib 10 (ib 11 []))) (Y) ?_
   iterate 10 refine jw (h:=λu r=>by have d:=gN.cell r 0;simp only[aA,az] at d;have es:=I.o;exact Qv) ?_
   refine mg λK x=>?_
   go_simp;refine x _ _ (Y.alloc _) ?_
   clear x K;refine mg λK x=>?_
   refine EX qQ (.tmp 17) (.tmp 23) rfl t.o rfl _ [y] rfl (gO.one (E:=bE) wr.drew y _ rfl _ rfl).rd m ah ?_
   intro v1 W a r _;have p:=ia V.o t.o ab r
   have B:Below z w W:=P.grown r (by have:=P.size;omega) (λk S=>(gO.lt t.o k S).1)
   have S:=ay (nG (i:=0) V.o t.o ab r a)
   obtain⟨k,c1,R,_,_,_⟩:=a.form;obtain⟨N1,Q⟩:=au (ao (bs++T++[y]));rw[Q] at R;subst R;clear Q a r;refine x _ _ (p) ?_
   clear x K;refine gU ?_
   simp only[bc,bp];have d:=p.k0;have a:=p.frozen 0
   go_wp2_with fail;refine gQ ?_
   have r:=L.o
   go_wp2
   go_roundg (K - (j+1))
   case measure=>have:=F.o;omega
   case rel=>
    refine⟨j+1,rfl,aa,?_,?_,B.setCell aa _⟩
    ·congr 1;omega
    ·rw[G.o,<-aO]
     exact ay ⟨A,_,S.o.1,gX.2 S.o.2⟩
  ·obtain rfl:j=K:=aa
   have t:((j:Int) - 1 - j)=-1:=aa
   rw[t];have y:=M;rw[bj (by rw[iQ];exact aD _)] at y
   go_wp2_with fail;refine cp (v:=.tuple #[]) (by simp[results,Tryz.results403,go_sem, *];try rfl) rfl ?_
   exact⟨rfl,y.o,c⟩
def PD(p y:Int)(s:Nat)(r:0<=p)(q:p<2 ^ s)(g:0<=y)(h:p+2 ^ s * y<18446744073709551616):bits .or .u64 p (IntKind.u64.wrap (y * 2 ^ s))=p+2 ^ s * y:=by
 obtain⟨a,rfl⟩:=bL r;obtain⟨b,rfl⟩:=bL g;have z:((b:Int) * 2 ^ s)=((b * 2 ^ s:Nat):Int):=ad
 have x:(a:Int)+2 ^ s * (b:Int)=((a+2 ^ s * b:Nat):Int):=ad
 have u:a<2 ^ s:=by
  have:(a:Int)<((2 ^ s:Nat):Int):=by simpa using q
  omega
 rw[x] at h |-;have t:b * 2 ^ s<18446744073709551616:=by rw[cL];omega
 rw[z,show IntKind.u64.wrap ((b * 2 ^ s:Nat):Int)=((b * 2 ^ s:Nat):Int) from by rw[g_];omega,bits_or_u64_nat a _ aa t]
 have v:=ez u b;rw[Nat.or_comm,cL b,<-v,fD]
def Ka{x:List Int}{j:Nat}(z:bs.drop a=x++r)(y:j<ao x):∃h:a+j<ao bs,bs[a+j]=x[j]:=by
 have v:=bq List.length z;rw[aZ,aE] at v;have h:a+j<ao bs:=aa
 refine⟨h,?_⟩
 have e:=bq (λl=>l[j]?) z
 simp only[dD,cO y] at e;rw[aQ h,aQ y] at e;exact bC e
def G6{g:Nat}{n:Int}(w:World)(h:hM w g bs a)(P:ao bs<=1000000000000)(y:bs.drop a=n::r)(N:0<=n)(m:n<256) :
 ar Oe 402 #[.pointer (some ⟨g,0,none⟩),.int .i64 1] w (uT w g bs (a+1) (.tuple #[.int .u64 n,.int .i64 0])):=by
 have H:=ay h;have Y:=ay (pP g bs a w h P);obtain⟨v,z,q,D⟩:=h;obtain⟨L,O,rfl,_,l,x⟩:=(gT.rd q).form;have s:=z.k0;have f:=z.k1;have E:=z.frozen 1;have U:=ay x;have S:a+1<=ao bs:=by
  have u:=bq List.length y;rw[aZ,aJ] at u;omega
 have T:=ay y;have V:Hid (IntKind.i64.wrap ((a:Int)+1)=((a+1:Nat):Int)):=ay ai
 have t:Hid (bits .or .u64 0 n=n):=ay (by
  have:=PD 0 n 0 aa ad N af
  simpa[show IntKind.u64.wrap n=n by rw[g_];omega] using this)
 have u:Hid (IntKind.u64.wrap n=n):=ay (by rw[g_];omega)
 clear z q x y
 go_in
 go_wp2_with fail;refine(Y.o).mono ?_
 rintro e z ⟨rfl,M,rfl⟩
 go_wp2
 go_loopg [6,13] 1 (λq p i wr=>∃(j nq:Nat),q=1 - j/\j<=1/\i=.int .i64 j/\p=.int .u64 (if j=0 then 0 else n)/\wr=w.drewN nq)
 exact⟨0,M,rfl,aa,rfl,rfl,rfl⟩
 case round=>
  obtain⟨j,nq,y,B,rfl,rfl,rfl⟩:=hrel;have R:=ay y;clear y
  by_cases A:j<1
  ·obtain rfl:j=0:=aa
   rw[aH rfl];obtain⟨Q,d⟩:=Ka (x:=[n]) (j:=0) (r:=r) T.o ad
   obtain⟨q,c,rfl,C,y⟩:=U.o.at_ Q;have p:bs[a+0]=n:=by rw[d];rfl
   rw[p] at y;simp only[bP] at y;have I:((a:Int)).toNat=a:=aa
   have K:(0:Int)<=(a:Int):=aa
   have J:(a:Int)<(ao bs:Int):=aa
   have X:=ay (cy (a:Int) aa)
   have b:=ay (aF s (aF f y));clear p d
   go_upto_region 7 with fail;refine i' (λz=>z.cell? ⟨g,0,none⟩=some (.slice (some ⟨q,c,none⟩) (ao bs) O)/\z.cell? ⟨g,1,none⟩=some (.int .i64 a)/\z.cell? ⟨q,c+a,none⟩=some (.int .u8 n)) (gW 0 19 []) (b.o) ?_
   iterate 19 refine hC (h:=λz p=>by obtain⟨W,i,k⟩:=p;have o:=t.o;have G:=X.o;have F:=u.o;have d:IntKind.i64.wrap 0=0:=rfl;exact Qv) ?_
   refine gM ?_
   go_wp2
   go_roundg 0
   exact⟨1,nq+1,rfl,aa,ag,by have:=t.o;have:=u.o;simp_all,rfl⟩
   have:=R.o;omega
  ·obtain rfl:j=1:=aa
   rw[aG aa]
   have y:=V.o
   go_wp2
   go_ret2
   exact⟨rfl,(H.o.drewN nq).put (a+1) S,pf w nq g 1 _⟩
open Go.RowKit Go.Maps
def PE:prog.underlying 204=some (.map 3 36):=by kernel_rfl
def PF:prog.underlying 3=some (.int .i64):=by kernel_rfl
def PG:prog.underlying 36=some (.int .u64):=by kernel_rfl
def Nf:Keyed prog 3:=int_keyed PF
def Ro(w:World):(zeroValue 36).run prog w=.ok (.int .u64 0) w:=by kernel_rfl
def kU(w:World)(b:Nat)(l:List Pr):Prop:=∃D,w.ownsMap prog 3 (plainElem (H:=Unit) prog 36) b (ao l) D/\Mo D l
section
variable {w w' : World} {b : Nat} {l : List Pr}
variable{k:Int}
def kU.stay(h:kU w b l)(u:w'.heap[b]?=w.heap[b]?):kU w' b l:=by
 obtain⟨D,⟨y,z,v,r⟩,x⟩:=h;exact⟨D,⟨y,z,u.trans v,r⟩,x⟩
def kU.lt(h:kU w b l):b<w.heap.size:=by
 obtain⟨D,h,_⟩:=h;exact h.lt
def kU.keep(h:kU w b l)(z:aq w w'):kU w' b l:=h.stay (z.block b h.lt)
def PH(w:World):kU (w.alloc (.map #[] 0)) w.heap.size []:=⟨_,World.ownsMap_made w _ _ _,Ps⟩
def kU.ne(h:kU w b l){g:Nat}{T:TypeId}{cs:Array Value}(z:gN w g T cs):b≠g:=by
 rintro rfl;obtain⟨D,⟨v,x,y,_⟩,_⟩:=h;unfold gN at z;rw[y] at z;cases z
def Kb{n:Nat}{D:DataW Unit}(h:w.ownsMap prog 3 (plainElem (H:=Unit) prog 36) b n D)(x:Mo D l):kU w b l:=by
 obtain⟨z,v,u,F,_,e⟩:=h;refine⟨D,⟨z,v,u,F,?_,e⟩,x⟩
 have y:=x.sz;rw[e] at y;rw[<-y];show z.size<=List.length _
 rw[length_read];exact aD _
def Kc(z:-9223372036854775808<=k)(y:k<=9223372036854775807):keyOf prog 3 (.int .i64 k)=some (iL k):=keyOf_int_mk PF (WalkArith.wf_i64 ⟨z,y⟩)
def kU.look(h:kU w b l)(v:-9223372036854775808<=k)(u:k<=9223372036854775807):(Instr.lookup 204 (.map (some b)) (.int .i64 k) false).run prog w=.ok (.int .u64 (kn l k)) w:=by
 obtain⟨D,h,y⟩:=h;obtain⟨c,x,z,_⟩:=h.lookup_int Nf PE PG (Ro w) (Kc v u);rw[y.get k] at z
 cases z
 exact x
def kU.upd(h:kU w b l)(s:iE l)(z:iu l)(f:ao l<=1000000000){n:Int}(t:-9223372036854775808<=k)(r:k<=9223372036854775807)(q:0<n)(p:kn l k+n<=18446744073709551615) :
 ∃w',(Instr.mapUpdate 204 (.map (some b)) (.int .i64 k) (.int .u64 (kn l k+n))).run prog w=.ok () w'/\kU w' b (hO k n l)/\w.grownBy w' (some b):=by
 obtain⟨D,h,u⟩:=h;have g:=jy (k:=k) z;obtain⟨w',y,x,v⟩:=h.update Nf PE (by unfold maxLen;omega) (Kc t r) (plainElem_int PG (WalkArith.wf_u64 ⟨by omega,p⟩))
 exact⟨w',y,Kb x (u.put s z k n q),v⟩
def xx{F:Ft}(y:F b)(z:w.grownBy w' (some b)):Touch F w w':=⟨z.os,z.tape,z.output,z.size,λk x v=>z.block k x (λe=>by cases e;exact v y)⟩
def Vh{ops:Array Oper}{rest:List Oper}{o:Oper}{a:Act}{Q:Exit->Act->World->Prop}(u:o.guard=none)(m x v:Operand)(q:o.op=Op.mapUpdate 204 m x v)
 (h:kU w b l) (s:iE l) (p:iu l) (t:ao l<=1000000000) {n:Int} (c:-9223372036854775808<=k) (Y:k<=9223372036854775807) (X:0<n) (V:kn l k+n<=18446744073709551615)
 (r:a.eval m=.map (some b)) (d:a.eval x=.int .i64 k) (f:a.eval v=.int .u64 (kn l k+n))
 (z:∀w',kU w' b (hO k n l)->w.grownBy w' (some b)->wpList prog ops Q rest (a.put o.dst undef) w'):wpList prog ops Q (o::rest) a w:=by
 refine wpList_plain u λy y=>?_
 obtain⟨w',g,U,T⟩:=h.upd s p t c Y X V;unfold Oper.wp;simp[execOp,q,r,d,f,g,Result.andThen]
 exact y _ _ (z w' U T)
end
section
variable {g u m : Nat} {lo hi dg : Int} {w : World}
def AI(n:Nat)(h:mM w g lo hi dg u m)(K:u+m<=62)(H:1<=n)(G:n<=64):ar Oe 282 #[.pointer (some ⟨g,0,none⟩),.int .i64 n] w (aw w (.int .i64 (nJ u m n))):=by
 have q:Hid (nJ u m n=if 63<=n - 1+u+m then 9223372036854775807 else 2 ^ (n - 1+u+m) - 1):=ay rfl
 rw[q.o];obtain⟨k,rfl⟩:∃k,n=k+1:=⟨n - 1,aa⟩
 simp only[da] at q |-;obtain⟨t,X⟩:=au (k+u);obtain⟨s,f⟩:=au (k+u+m);have S:IntKind.i64.wrap ((k:Int)+(u:Int))=(t:Int):=ai
 have R:IntKind.i64.wrap ((t:Int)+(m:Int))=(s:Int):=ai
 have Q:IntKind.i64.wrap (k:Int)=(k:Int):=ai
 have O:max ((k:Int)+1) 1=(k:Int)+1:=aa
 have N:min ((k:Int)+1) 64=(k:Int)+1:=aa
 rw[f];have z:=gN.cell h 3;have y:=gN.cell h 4;simp only[aA,az,aB] at z y
 by_cases c:63<=s
 ·have Y:(63:Int)<=(s:Int):=aa
  rw[aH c];clear q X f h
  go_in
  go_upto_region 2 with fail
  go_quiet (fail)
  go_wp2
  go_ret;exact⟨by simp,below_drewN (aC _ _) _⟩
 ·have Y:¬(63:Int)<=(s:Int):=aa
  rw[aG c];have r:2 ^ s<=4611686018427387904:=(jW aa :2 ^ s<=2 ^ 62)
  have M:=bR s;have L:=r;obtain⟨P,v⟩:=au (2 ^ s);have b:((2:Int) ^ s)=(P:Int):=by rw[<-v];simp
  rw[v] at M L |-;have p:IntKind.i64.wrap ((P:Int) - 1)=(P:Int) - 1:=ai
  have x:(((P - 1:Nat)):Int)=(P:Int) - 1:=aa
  have d:wrap64 (P:Int)=(P:Int):=by clear S R Q O N p x Y;unfold wrap64;omega
  rw[x];clear q X f r x v
  go_in
  go_upto_region 2 with fail
  go_quiet (fail)
  obtain⟨v,r⟩:=au (w.drewN nq);have x:aq w v:=by rw[<-r];exact below_drewN (aC _ _) _
  have V:v.cell? ⟨g,3,none⟩=some (.int .i64 u):=by rw[<-r];exact z
  have U:v.cell? ⟨g,4,none⟩=some (.int .i64 m):=by rw[<-r];exact y
  rw[r];clear r z y;have z:=V;have y:=U;have a:g<v.heap.size:=by have:=gN.lt h;have:=x.size;omega
  clear z y;have r:=ay (aF b (aF d p));clear b d p
  go_upto_region 4 with fail;refine i' (aq v) (gW 0 15 []) ((aC _ _).drew) ?_
  iterate 15 refine hC (h:=λT d=>by have z:=(d.cell (p:=⟨g,3,none⟩) a).trans V;have y:=(d.cell (p:=⟨g,4,none⟩) a).trans U;obtain⟨b,J,I⟩:=r.o;exact Qv) ?_
  refine gM ?_
  go_wp2
  go_ret;have d:IntKind.i64.wrap (P:Int)=(P:Int):=(aL _).trans aa
  refine⟨?_,x.drew⟩
  show Ending.returned (Value.int .i64 (IntKind.i64.wrap (IntKind.i64.wrap (P:Int) - 1)))=Ending.returned (Value.int .i64 ((P:Int) - 1))
  rw[d,r.o.2.2]
end
section
variable {g u m : Nat} {lo hi dg : Int} {w : World}
def De(v:Nat)(h:mM w g lo hi dg u m)(hu:u+m<=62)(l:1<=m)(o:m<=18)(X:v<9223372036854775808):ar Oe 217 #[.pointer (some ⟨g,0,none⟩),.int .i64 (kh u m v)] w (aw w (.tuple #[.int .i64 (oJ u m v),.int .i64 0])):=by
 have V:Hid (∀z,aq w z->_):=ay (λz C=>xu (gN.keep h C) l o)
 have R:=ku (u:=u) (m:=m) X;have c:=AD (u:=u) (m:=m) (v:=v) l aa
 have S:=xr (u:=u) (m:=m) (v:=v) aa
 have Q:2 ^ m<=262144:=(jW o:2 ^ m<=2 ^ 18);have WZ:p8 u m v<262144:=aa
 have C:im u m v<=63:=aa
 have n:=ay h;have F:=ay (λw=>mv (p8 u m v) w aa)
 have z:Hid (oJ u m v=p8 u m v * 2 ^ (im u m v+u)):=ay rfl;have y:oJ u m v<9223372036854775808:=eP (xt u m v) X;have U:=bR (im u m v+u);have t:Lib.bitLen (p8 u m v)+(im u m v+u)<=63:=by
  have x:im u m v+u<=63:=aa
  have:Lib.bitLen (p8 u m v)<=63 - (im u m v+u):=(pq aa).2 (by
   have e:2 ^ (63 - (im u m v+u)) * 2 ^ (im u m v+u)=9223372036854775808:=by rw[<-ej,show 63 - (im u m v+u)+(im u m v+u)=63 by omega]
   have P:p8 u m v * 2 ^ (im u m v+u)<9223372036854775808:=y;rw[<-e] at P;exact Nat.lt_of_mul_lt_mul_right P)
  omega
 have W:2 ^ (m - 1)<=131072:=(jW aa :2 ^ (m - 1)<=2 ^ 17)
 have hH0:=bR (m - 1);unfold Pw at c;have hix:kh u m v<=16777216:=by
  have x:im u m v * 2 ^ (m - 1)<=63 * 131072:=cT aa W
  unfold kh;omega
 generalize kh u m v=I at *;rw[z.o] at y |-;clear z;generalize p8 u m v=k at *;generalize im u m v=b at *;generalize 2 ^ (m - 1)=H at *;generalize Lib.bitLen k=B at *;have O:(I:Int).tdiv (H:Int)=((I / H:Nat):Int):=by rw[cK aa];simp
 have N:(I:Int).tmod (H:Int)=((I % H:Nat):Int):=by rw[eF aa];simp
 have hq:I / H<=16777216:=bf (dz ..) hix;generalize I / H=q at *;generalize I % H=r at *;have hH1:H≠0:=aa
 obtain⟨s,T⟩:=au (b+u);rw[T] at y U t |-;have j:(b:Int)+(u:Int)=(s:Int):=aa
 have p:IntKind.i64.wrap ((b:Int)+(u:Int))=(s:Int):=ai
 have a:IntKind.i64.wrap ((B:Int)+(b:Int))=(B:Int)+(b:Int):=ai
 have Y:IntKind.i64.wrap ((B:Int)+(b:Int)+(u:Int))=(B:Int)+(b:Int)+(u:Int):=ai
 have D:¬(64:Int)<(b:Int):=aa
 have L:¬(63:Int)<(B:Int)+(b:Int)+(u:Int):=aa
 have x:IntKind.u64.wrap (k:Int)=(k:Int):=by rw[g_];omega
 have d:=ay (aF p (aF a (aF Y (aF x (aF L D)))));have E:Hid (wrap64 ((k:Int) * (2:Int) ^ s)=((k * 2 ^ s:Nat):Int)):=ay (by rw[show(k:Int) * (2:Int) ^ s=((k * 2 ^ s:Nat):Int) by simp];clear p a Y x;generalize k * 2 ^ s=z at *;unfold wrap64;omega)
 have W7:B+s<=63:=t;clear y U p a Y x Q S R T h X t;have U:Hid (∀y,aq w y->((y.cell? ⟨g,3,none⟩=some (.int .i64 u)))):=ay (λy x=>by
  have Y:=(gN.keep n.o x).cell 3
  simpa only[aA,az,aB] using Y)
 by_cases A:q=0
 ·subst A
  rw[aH rfl] at c;obtain⟨rfl,rfl⟩:b=0/\k=I:=by simpa[Prod.ext_iff,eq_comm] using c
  have i:¬(k:Int)<0:=aa
  have T:s=u:=aa
  subst T;have a:Hid (IntKind.i64.wrap (B:Int)=(B:Int)/\IntKind.i64.wrap ((B:Int)+(s:Int))=(B:Int)+(s:Int)/\(¬(63:Int)<(B:Int)+(s:Int))/\IntKind.i64.wrap (s:Int)=(s:Int)/\IntKind.u64.wrap (k:Int)=(k:Int)):=ay ⟨by rw[aL];omega,ai,aa,ai,d.o.2.2.2.1⟩
  clear c d j D L
  go_in
  go_upto_region 3 with fail;refine i' (aq w) (gW 0 2 (gW 5 2 (gW 9 1 (ib 2 (gW 3 2 (ib 7 (gW 8 1 (ib 10 (gW 11 3 []))))))))) ((aC _ _).drew) ?_
  iterate 5 refine hC ?_
  refine iy λK y=>?_
  go_simp;refine(V.o w.drew (aC _ _).drew).mono ?_
  rintro e X ⟨rfl,rfl⟩;refine y _ _ ((aC _ _).drew) ?_
  clear y K
  iterate 2 refine hC ?_
  refine iy λK y=>?_
  go_simp;refine(V.o w.drew (aC _ _).drew).mono ?_
  rintro e X ⟨rfl,rfl⟩;refine y _ _ ((aC _ _).drew) ?_
  clear y K;refine hC ?_
  refine iy λK y=>?_
  go_simp;refine(V.o w.drew (aC _ _).drew).mono ?_
  rintro e X ⟨rfl,rfl⟩;refine y _ _ ((aC _ _).drew) ?_
  clear y K
  iterate 3 refine hC ?_
  refine gM ?_
  go_upto_region 6 with fail;refine i' (aq w) (gW 0 5 (gW 6 1 (gW 8 4 (ib 5 (gW 7 1 (gW 12 3 [])))))) ((aC _ _).drew.drew) ?_
  iterate 10 refine hC (h:=λf x=>by have Y:=U.o _ x;obtain⟨t,p,S,R,Q⟩:=a.o;exact Qv) ?_
  refine iy λK y=>?_
  go_simp;refine(F.o w.drew.drew).mono ?_
  rintro e X ⟨rfl,rfl⟩;refine y _ _ ((aC _ _).drew.drew) ?_
  clear y K
  iterate 4 refine hC (h:=λf x=>by have Y:=U.o _ x;obtain⟨t,p,S,R,Q⟩:=a.o;exact Qv) ?_
  refine gM ?_
  obtain⟨t,p,S,R,Q⟩:=a.o;have Y:=U.o w.drew.drew (aC _ _).drew.drew
  go_wp2
  go_ret2
  refine⟨?_,(aC _ _).drew.drew⟩
  show Ending.returned (.tuple #[.int .i64 (wrap64 ((k:Int) * (2:Int) ^ _)),.int .i64 0])=_
  rw[E.o];simp
 ·rw[aG A] at c
  obtain⟨M,P⟩:q - 1=b/\r+H=k:=by simpa[Prod.ext_iff] using c
  obtain rfl:q=b+1:=aa
  have i:¬(b:Int)<0:=aa
  have a:Hid (IntKind.i64.wrap ((B:Int)+(b:Int))=(B:Int)+(b:Int)/\IntKind.i64.wrap ((B:Int)+(b:Int)+(u:Int))=(B:Int)+(b:Int)+(u:Int)/\(¬(63:Int)<(B:Int)+(b:Int)+(u:Int))/\IntKind.i64.wrap ((b:Int)+(u:Int))=(s:Int)/\IntKind.u64.wrap (k:Int)=(k:Int)):=ay ⟨d.o.2.1,d.o.2.2.1,d.o.2.2.2.2.1,d.o.1,d.o.2.2.2.1⟩;have T:Hid (IntKind.i64.wrap ((r:Int)+(H:Int))=(k:Int)/\IntKind.i64.wrap (b:Int)=(b:Int)/\IntKind.i64.wrap ((b:Int)+1)=(b:Int)+1/\(b:Int)+1 - 1=(b:Int)):=ay ⟨by rw[aL];omega,ai,ai,aa⟩
  clear c d j L M P
  go_in
  go_upto_region 3 with fail;refine i' (aq w) (gW 0 2 (gW 5 2 (gW 9 1 (ib 2 (gW 3 2 (ib 7 (gW 8 1 (ib 10 (gW 11 3 []))))))))) ((aC _ _).drew) ?_
  iterate 5 refine hC (h:=λf x=>by have J:=O;have G:=N;obtain⟨t,p,P,M⟩:=T.o;exact Qv) ?_
  refine iy λK y=>?_
  go_simp;refine(V.o w.drew (aC _ _).drew).mono ?_
  rintro e X ⟨rfl,rfl⟩;refine y _ _ ((aC _ _).drew) ?_
  clear y K
  iterate 2 refine hC (h:=λf x=>by have J:=O;have G:=N;obtain⟨t,p,P,M⟩:=T.o;exact Qv) ?_
  refine iy λK y=>?_
  go_simp;refine(V.o w.drew (aC _ _).drew).mono ?_
  rintro e X ⟨rfl,rfl⟩;refine y _ _ ((aC _ _).drew) ?_
  clear y K;refine hC (h:=λf x=>by have J:=O;have G:=N;obtain⟨t,p,P,M⟩:=T.o;exact Qv) ?_
  refine iy λK y=>?_
  go_simp;refine(V.o w.drew (aC _ _).drew).mono ?_
  rintro e X ⟨rfl,rfl⟩;refine y _ _ ((aC _ _).drew) ?_
  clear y K
  iterate 3 refine hC (h:=λf x=>by have J:=O;have G:=N;obtain⟨t,p,P,M⟩:=T.o;exact Qv) ?_
  refine gM ?_
  obtain⟨t,p,P,M⟩:=T.o
  go_upto_region 6 with fail;refine i' (aq w) (gW 0 5 (gW 6 1 (gW 8 4 (ib 5 (gW 7 1 (gW 12 3 [])))))) ((aC _ _).drew.drew) ?_
  iterate 10 refine hC (h:=λf x=>by have Y:=U.o _ x;obtain⟨t,p,S,R,Q⟩:=a.o;exact Qv) ?_
  refine iy λK y=>?_
  go_simp;refine(F.o w.drew.drew).mono ?_
  rintro e X ⟨rfl,rfl⟩;refine y _ _ ((aC _ _).drew.drew) ?_
  clear y K
  iterate 4 refine hC (h:=λf x=>by have Y:=U.o _ x;obtain⟨t,p,S,R,Q⟩:=a.o;exact Qv) ?_
  refine gM ?_
  obtain⟨t,p,S,R,Q⟩:=a.o;have Y:=U.o w.drew.drew (aC _ _).drew.drew
  go_wp2
  go_ret2
  refine⟨?_,(aC _ _).drew.drew⟩
  show Ending.returned (.tuple #[.int .i64 (wrap64 ((k:Int) * (2:Int) ^ _)),.int .i64 0])=_
  rw[E.o];simp
def qR(h:mM w g lo hi dg u m):ar Oe 192 #[.pointer (some ⟨g,0,none⟩)] w (aw w (.agg #[.int .i64 lo,.int .i64 hi,.int .i64 dg])):=by
 obtain⟨b,x⟩:=au (w.heap.size);obtain⟨v,s⟩:=au (w.alloc (.cells #[.int .i64 0,.int .i64 0,.int .i64 0] 31));have t:aq w v:=by rw[<-s];exact bw
 have z:gN v b 31 #[.int .i64 0,.int .i64 0,.int .i64 0]:=by rw[<-s,<-x];exact gN.new _ _ _
 have y:=gN.keep h t;have d:=gN.cell y 0;have c:=gN.cell y 1;have a:=gN.cell y 2;have V:=z.frozen 0;have U:=z.frozen 1;have T:=z.frozen 2;have r:=z.k0;have q:=z.k1;have f:=z.k2;simp only[aA,az,aB] at d c a;have X:=ay (aF t (aF z x));clear h y z t
 go_in
 go_upto_region 1 with fail;clear s x
 go_wp2_with fail;have z:=(((X.o.2.1.gR 0 (.int .i64 lo)).gR 1 (.int .i64 hi)).gR 2 (.int .i64 dg)).cell 0;have y:=(((X.o.2.1.gR 0 (.int .i64 lo)).gR 1 (.int .i64 hi)).gR 2 (.int .i64 dg)).cell 1;have t:=(((X.o.2.1.gR 0 (.int .i64 lo)).gR 1 (.int .i64 hi)).gR 2 (.int .i64 dg)).cell 2;simp only[aY,bo,bm,aA,az,aB] at z y t;refine an ?_
 have x:=X.o.2.2;exact⟨rfl,((X.o.1.setCell (p:=⟨b,0,none⟩) (by show _<=b;omega) _).setCell (p:=⟨b,1,none⟩) (by show _<=b;omega) _).setCell (p:=⟨b,2,none⟩) (by show _<=b;omega) _⟩
end
end D
end Go.Proofs.YtdicblkhpcphfaaGreat
