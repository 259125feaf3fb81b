/- Parts. No condition. -/
import Derived.Test.YtdicblkhpcphfaaGreatPA35
import Derived.Test.YtdicblkhpcphfaaGreatPA34
set_option maxRecDepth 100000
set_option maxHeartbeats 0
set_option linter.all false
namespace Go.Proofs.YtdicblkhpcphfaaGreat
open Tryz Go.RowKit Go.Lib Go.Shelf
open _root_.List renaming length→ao
open _root_.Go renaming Calls→ar
open Tryz renaming prog→Oe
namespace D
def hgN(u m v:Nat):Nat:=oJ u m v+(2 ^ (im u m v+u) - 1)
section
variable {g u m : Nat} {lo hi dg : Int} {w : World}
def FU{u m v:Nat}(p:u+m<=62)(g:1<=m)(y:v<9223372036854775808):hgN u m v<9223372036854775808/\im u m v+u<=62:=by
 have q:=ku (u:=u) (m:=m) y;have z:im u m v+u<=62:=aa
 refine⟨?_,z⟩
 unfold hgN oJ p8;generalize im u m v+u=s at z |-;have r:=bR s;have e:2 ^ (63 - s) * 2 ^ s=9223372036854775808:=by rw[<-ej,show 63 - s+s=63 by omega]
 have x:v / 2 ^ s<2 ^ (63 - s):=(dO r).2 (by rw[e];exact y)
 have t:(v / 2 ^ s+1) * 2 ^ s<=2 ^ (63 - s) * 2 ^ s:=cd _ x;rw[e,dS,f'] at t;omega
def I1(v:Nat)(h:mM w g lo hi dg u m)(z:u+m<=62)(Q:1<=m)(x:v<9223372036854775808) :
 ar Oe 369 #[.pointer (some ⟨g,0,none⟩),.int .i64 v] w (aw w (.tuple #[.int .i64 (oJ u m v),.int .i64 (hgN u m v)])):=by
 have Y:=ay (xv v h z x);obtain⟨y,a⟩:=FU (v:=v) z Q x;have r:Hid (oJ u m v=p8 u m v * 2 ^ (im u m v+u)):=ay rfl;have s:Hid (hgN u m v=oJ u m v+(2 ^ (im u m v+u) - 1)):=ay rfl;have V:Hid (∀t,aq w t->((t.cell? ⟨g,3,none⟩=some (.int .i64 u)))):=ay (λt p=>by
  have q:=(gN.keep h p).cell 3
  simpa only[aA,az,aB] using q)
 have S:=h.lt;have t:=bR (im u m v+u);rw[s.o,r.o] at y |-;clear r s h z x;generalize p8 u m v=k at *;generalize im u m v=b at *;obtain⟨s,T⟩:=au (b+u);rw[T] at y a t |-;have r:IntKind.i64.wrap ((b:Int)+(u:Int))=(s:Int):=ai
 obtain⟨P,z⟩:=au (2 ^ s);obtain⟨K,x⟩:=au (k * 2 ^ s);rw[x,z] at y |-;rw[z] at t;have U:P<=4611686018427387904:=by rw[<-z];exact(jW a:2 ^ s<=2 ^ 62)
 have p:Hid (wrap64 ((k:Int) * (P:Int))=(K:Int)):=ay (by
  rw[show(k:Int) * (P:Int)=(K:Int) by rw[<-x,<-z];simp]
  clear z x r;unfold wrap64;omega)
 have d:Hid ((2:Int) ^ s=(P:Int)):=ay (by rw[<-z];simp)
 have c:=ay r;clear z x r;have z:Hid (IntKind.i64.wrap (P:Int)=(P:Int)):=ay ai
 have x:Hid (IntKind.i64.wrap ((P:Int) - 1)=(P:Int) - 1):=ay ai
 have r:Hid (IntKind.i64.wrap ((K:Int)+((P:Int) - 1))=(K:Int)+((P:Int) - 1)):=ay ai
 have W:=ay (aF c.o (aF p.o (aF d.o (aF z.o (aF x.o r.o)))));have X:=ay (aF y (aF t U));clear c p d z x r
 go_in
 go_upto_region 2 with fail
 go_wp2_with fail;refine(Y.o).mono ?_
 rintro e z ⟨rfl,x⟩;have r:=ay x;have q:=V.o z x;have R:g<z.heap.size:=aR S x.size;obtain⟨p,d,c,O,N,M⟩:=W.o;clear x
 go_upto_region 3 with fail;have x:aq z z.drew:=(aC _ _).drew;clear p d c O N M;have Z:=ay (λ(f:World) (p:(aq z) f)=>(aF ((p.cell (p:=⟨g,3,none⟩) R).trans q) (W.o)))
 refine i' (aq z) (gW 0 13 []) (x) ?_
 iterate 13 refine hC ?_
 refine gM ?_
 try refine gQ ?_
 have d:=ay (r.o.trans (x.mono r.o.size))
 go_wp2
 go_ret2
 have c:(K:Int)+((P:Int) - 1)=((K+(P - 1):Nat):Int):=by have:=X.o;omega
 exact⟨by rw[<-c];rfl,d.o⟩
def Eg(a b:Int)(w:World):ar Oe 304 #[.int .i64 a,.int .i64 b] w λe z=>e=.returned (.int .i64 b)/\w=z:=by
 go_in
 go_wp2
 go_ret;exact⟨rfl,rfl⟩
def I2(v:Nat)(h:mM w g lo hi dg u m)(x:u+m<=62)(s:1<=m)(t:v<9223372036854775808) :
 ar Oe 218 #[.pointer (some ⟨g,0,none⟩),.int .i64 v] w (aw w (.tuple #[.int .i64 (hgN u m v),.int .i64 0])):=by
 have q:=ay (I1 v h x s t);have f:Hid (ar Oe 303 #[.pointer (some ⟨g,0,none⟩),.int .i64 v,.func (.func 304) #[] #[]] w λe r=>e=.returned (.tuple #[.int .i64 (hgN u m v),.int .i64 0])/\aq w r):=by
  refine ay ?_
  clear h x s t;have c:¬(v:Int)<0:=aa
  have d:=enters_of func304 (by kernel_rfl) rfl
  go_in
  go_wp2_with fail;refine(q.o).mono ?_
  rintro e p ⟨rfl,z⟩;have y:=ay z;clear z
  go_wp2_with fail;refine(Eg _ _ p).mono ?_
  rintro e b ⟨rfl,rfl⟩
  go_wp2;refine an ?_
  exact⟨rfl,y.o⟩
 clear h x s t q
 go_in
 go_wp2_with fail;refine(f.o).mono ?_
 rintro e p ⟨rfl,z⟩;have y:=ay z;clear z
 go_wp2;refine an ?_
 exact⟨rfl,y.o⟩
def Eh(v:Int)(g:Nat)(w:World)(y:v<0):ar Oe 146 #[.pointer (some ⟨g,0,none⟩),.int .i64 v] w λe z=>e=.returned (.tuple #[.int .i64 0,.int .i64 5])/\w=z:=by
 go_in
 go_wp2;refine an ?_
 exact⟨rfl,rfl⟩
end
section
variable {x lo hi dg u m bk : Nat} {gr : Bool} {l : List Pr} {F : Ft} {w : World}
def vR(w:World)(h:mO x lo hi dg u m gr bk l F w)(ok:iG lo hi dg u m gr bk l) :
 ar Oe 147 #[.pointer (some ⟨x,0,none⟩)] w λe p=>∃g,e=.returned (.pointer (some ⟨g,0,none⟩))/\mr w.heap.size p g l/\aq w p:=by
 have d:=ay (AS w h ok);have t:Hid (∀v z,gO il w.heap.size z v l->_):=ay (λv z y=>Kq v l z y.rd ok.iJ ok.pos ok.sum (by have:=ok.len;omega))
 clear h ok
 go_in
 go_wp2_with fail;refine(d.o).mono ?_
 rintro e z ⟨v,rfl,y,r⟩;have f:=ay (t.o v z y);have s:=ay r;clear y r t
 go_wp2_with fail;refine(f.o).mono ?_
 rintro e V ⟨g,rfl,q,t⟩;have r:=ay (aF q t);clear q t
 go_wp2
 go_ret;obtain⟨X,a,Y,q,c,b⟩:=r.o.1;have t:=s.o.size;exact⟨g,rfl,⟨by omega,a,Y,q,c.more t,b.more t⟩,s.o.trans (r.o.2.mono t)⟩
def Ei(u m:Nat)(l:List Pr)(v:Int):Int:=if v<0 then 0 else kn l (kh u m v.toNat)
def Ca(u m:Nat)(l:List Pr)(v w:Int):Int:=if w<v then 0 else jt l ((kh u m (max w 0).toNat:Nat)+1) - jt l (kh u m (max v 0).toNat:Nat)
def Ej(v:Int)(w:World)(h:mO x lo hi dg u m gr bk l F w)(ok:iG lo hi dg u m gr bk l)(J:v<=9223372036854775807) :
 ar Oe 79 #[.pointer (some ⟨x,0,none⟩),.int .i64 v] w (aw w (.int .u64 (Ei u m l v))):=by
 obtain⟨g,b,y,d,f,_⟩:=h;obtain⟨U,T,S,c,R⟩:=y.c5;obtain⟨P,O⟩:=ok.sh.mb;have V:=ok.sh.um;have Q:=y.lt
 by_cases s:v<0
 ·have q:Hid (Ei u m l v=0):=ay (by unfold Ei;rw[aH s])
  have r:=ay (Eh v g w s);clear y d f ok
  go_in
  go_wp2_with fail;refine(r.o).mono ?_
  rintro e z ⟨rfl,rfl⟩
  go_wp2
  go_ret;exact⟨by rw[q.o];rfl,aC _ _⟩
 ·obtain⟨n,rfl⟩:=bL (a:=v) aa
  have q:Hid (Ei u m l n=kn l (kh u m n)):=ay (by unfold Ei;rw[aG s];rfl)
  have r:=ay (qO n d V P O aa)
  have L:kh u m n<=16777216:=AG ok.sh aa
  have X:Hid (∀z,aq w z->_):=ay (λz t=>(f.keep t).look (k:=(kh u m n:Nat)) aa  aa)
  clear y d f ok s;generalize kh u m n=I at *
  go_in
  go_wp2_with fail;refine(r.o).mono ?_
  rintro e z ⟨rfl,t⟩;have M:=(t.cell (p:=⟨x,3,none⟩) Q).trans c;have K:=X.o z t;have Y:=ay t;clear t U T S c R
  go_wp2
  go_ret;exact⟨by rw[q.o];rfl,Y.o⟩
end
section
variable {x lo hi dg u m bk : Nat} {gr : Bool} {l : List Pr} {F : Ft} {w : World}
def lo_le{l:List Pr}(z:iu l){a b:Int}(h:a<=b):0<=jt l a/\jt l a<=jt l b/\jt l b<=tot l:=by
 induction l with
 | nil=>simp[D.tot]
 | cons p l ih=>
  have x:=z p (aK ..);obtain⟨v,u,t⟩:=ih (λq y=>z q (aP _ y))
  have e:tot (p::l)=p.2+tot l:=by simp[D.tot]
  rw[kI,kI,e]
  split<;>split<;>omega
def zi(v z:Int)(w:World)(h:mO x lo hi dg u m gr bk l F w)(ok:iG lo hi dg u m gr bk l)(o:v<=9223372036854775807)(i:z<=9223372036854775807)(V:0<=z->kh u m (max v 0).toNat<=kh u m (max z 0).toNat+1) :
 ar Oe 78 #[.pointer (some ⟨x,0,none⟩),.int .i64 v,.int .i64 z] w (aw w (.int .u64 (Ca u m l v z))):=by
 by_cases L:z<v
 ·have r:Hid (Ca u m l v z=0):=ay (by unfold Ca;rw[aH L])
  clear h ok V
  go_in
  go_wp2
  go_ret;exact⟨by rw[r.o];rfl,aC _ _⟩
 ·have r:Hid (Ca u m l v z=jt l ((kh u m (max z 0).toNat:Nat)+1) - jt l (kh u m (max v 0).toNat:Nat)):=ay (by unfold Ca;rw[aG L])
  have R:Hid (∀W,aq w W->_):=ay (λW s=>vR W ((kq x lo hi dg u m gr bk l).keep h s) ok)
  obtain⟨g,b,p,P,J,_⟩:=id h;have H:=p.k0;obtain⟨D,C⟩:=ok.sh.mb;have K:=ok.sh.um;have E:=p.lt;obtain⟨a,O⟩:∃a:Nat,max v 0=a:=⟨(max v 0).toNat,aa⟩
  obtain⟨c,N⟩:∃c:Nat,max z 0=c:=⟨(max z 0).toNat,aa⟩
  have S:Hid (∀W,aq w W->mM W g lo hi dg u m):=ay (λW s=>P.keep s)
  have q:Hid (∀(n:Nat) W,n<9223372036854775808->aq w W->_):=ay (λn W y s=>qO n (S.o W s) K D C y)
  have d:a<9223372036854775808:=aa
  have Y:c<9223372036854775808:=aa
  have A:kh u m a<=16777216:=AG ok.sh d;have j:kh u m c<=16777216:=AG ok.sh Y;have M:=lo_le ok.pos (a:=(kh u m a:Nat)) (b:=(kh u m c:Nat)+1) (by
   by_cases X:0<=z
   ·have:=V X;rw[O,N] at this;simp at this;omega
   ·have y:a=0:=aa
    have t:c=0:=aa
    rw[y,t];omega)
  have G:=ok.sum;rw[O,N] at r;simp only[bM] at r;have Q:Hid (∀k W B y,mr B W y l->_):=ay (λk W B y t=>IU (B:=B) (g:=y) k W t ok.iJ (by have:=ok.len;omega))
  have T:Hid (∀k W B y,mr B W y l->_):=ay (λk W B y t=>Ef (B:=B) (g:=y) k W t ok.iJ (by have:=ok.len;omega))
  have X:=ay (q.o a w d (aC _ _));have U:Hid (∀W,aq w W->_):=ay (λW s=>q.o c W Y s)
  clear p P J ok h V S K q d Y;generalize kh u m a=I at *;generalize kh u m c=J at *;obtain⟨p,s⟩:=au (jt l ((J:Int)+1));obtain⟨q,d⟩:=au (jt l (I:Int));rw[s,d] at M r;have K:Hid (IntKind.u64.wrap (p - q)=p - q):=ay (by rw[g_];omega)
  have P:Hid (∀W B y,mr B W y l->ar Oe 148 #[.pointer (some ⟨y,0,none⟩),.int .i64 J] W λe f=>e=.returned (.int .u64 p)/\aq W f):=ay (λW B y t=>s▸Q.o J W B y t)
  have S:Hid (∀W B y,mr B W y l->ar Oe 149 #[.pointer (some ⟨y,0,none⟩),.int .i64 I] W λe f=>e=.returned (.int .u64 q)/\aq W f):=ay (λW B y t=>d▸T.o I W B y t)
  clear Q T s d M G
  go_in
  go_wp2_with fail;refine(X.o).mono ?_
  rintro e Q ⟨rfl,d⟩;have T:=(d.cell (p:=⟨x,0,none⟩) E).trans H;have s:=ay d;clear d X
  go_wp2_with fail;refine(U.o Q s.o).mono ?_
  rintro e M ⟨rfl,Y⟩;have d:=ay (s.o.trans (Y.mono s.o.size));clear Y U T s
  go_wp2_with fail;refine(R.o M d.o).mono ?_
  rintro e T ⟨y,rfl,t,X⟩;have Y:=ay t;have s:=ay (d.o.trans (X.mono d.o.size));clear t X R d
  go_wp2_with fail;refine(P.o T _ y Y.o).mono ?_
  rintro e R ⟨rfl,X⟩;have U:=ay (Y.o.keep X);have d:=ay (s.o.trans (X.mono s.o.size));clear X P Y s
  go_wp2_with fail;refine(S.o R _ y U.o).mono ?_
  rintro e X ⟨rfl,s⟩;have Y:=ay (d.o.trans (s.mono d.o.size));clear s S U d;have s:=K.o
  go_wp2
  go_ret;exact⟨by rw[r.o];rfl,Y.o⟩
def US(u m I:Nat):Nat:=(Pw m I).2 * 2 ^ ((Pw m I).1+u)+(2 ^ ((Pw m I).1+u) - 1)
def Mc{u m v:Nat}(z:1<=m)(y:v<9223372036854775808):US u m (kh u m v)=hgN u m v:=by
 unfold US hgN oJ;rw[AD z aa]
def rX(u m:Nat)(l:List Pr)(num den:Int):Int × Int:=if (l8 l num den).2=0 then((US u m (l8 l num den).1.toNat:Nat),0) else(0,(l8 l num den).2)
def zj:∀(l:List Pr) (r:Int),r<=tot l->l≠[]->∃p∈l,ky l r=p.1
 | [p],r,h,_=>⟨p,aK ..,by rw[ky,aH (by simpa[D.tot] using h)]⟩
 | p::q::l,r,h,_=>by
  by_cases z:r<=p.2
  ·exact⟨p,aK ..,by rw[ky,aH z]⟩
  ·obtain⟨s,y,e⟩:=zj (q::l) (r - p.2) (by have:tot (p::q::l)=p.2+tot (q::l):=(by simp[D.tot]);omega) ad
   exact⟨s,aP _ y,by rw[ky,aG z,e]⟩
def Md{l:List Pr}{num den:Int}(h:(l8 l num den).2=0):∃p∈l,(l8 l num den).1=p.1:=by
 unfold l8 at h |-
 split at h
 ·rename_i z
  rw[aH z];unfold nW at h |-
  split at h
  ·cases h
  ·rename_i y
   split at h
   ·cases h
   ·rename_i x
    rw[aG y,aG x];exact zj l _ aa (λe=>y (by rw[e];rfl))
 ·rename_i z
  exact absurd h z
def N_(num den:Int)(w:World)(h:mO x lo hi dg u m gr bk l F w)(ok:iG lo hi dg u m gr bk l)(c:0<=num)(Y:num<18446744073709551616)(T:0<=den)(P:den<18446744073709551616) :
 ar Oe 137 #[.pointer (some ⟨x,0,none⟩),.int .u64 num,.int .u64 den] w (aw w (.tuple #[.int .i64 (rX u m l num den).1,.int .i64 (rX u m l num den).2])):=by
 have q:=ay (vR w h ok);obtain⟨g,b,r,O,L,_⟩:=id h;have X:=r.k0;have M:=r.lt;obtain⟨t,J⟩:=ok.sh.mb;have N:=ok.sh.um;have s:Hid (∀W B y,mr B W y l->_):=ay (λW B y f=>I0 (B:=B) (g:=y) num den W f ok.pos (by have:=ok.len;omega) ok.sum c Y T P)
 have d:Hid (∀W,aq w W->mM W g lo hi dg u m):=ay (λW a=>O.keep a)
 obtain⟨V,z,v⟩:∃V z,l8 l num den=(V,z):=⟨_,_,rfl⟩;have S:=ay v;have Q:Hid (z=0->∃p∈l,V=p.1):=ay (λe=>by
  have:=Md (l:=l) (num:=num) (den:=den) (by rw[v];exact e)
  rwa [v] at this)
 have R:=ay ok.key;rw[v] at s;clear r O L h ok v c Y T P
 go_in
 go_wp2_with fail;refine(q.o).mono ?_
 rintro e H ⟨y,rfl,f,c⟩;have r:=ay (s.o H _ y f);have v:=ay c;clear f c q s
 go_wp2_with fail;refine(r.o).mono ?_
 rintro e G ⟨rfl,q⟩;have s:=ay (v.o.trans (q.mono v.o.size));clear q r v
 by_cases r:z=0
 ·obtain⟨p,O,rfl⟩:=Q.o r
  obtain⟨n,q,Y,_⟩:=R.o p O;subst r;have c:Hid (rX u m l num den=(((hgN u m n:Nat):Int),0)):=ay (by
   unfold rX;rw[S.o,aH rfl];simp only[Y,bM];rw[Mc t q])
  have P:oJ u m n<9223372036854775808:=eP (xt u m n) q;have L:=ay (De n (d.o G s.o) N t J q);have T:Hid (∀W,aq w W->ar Oe 218 #[.pointer (some ⟨g,0,none⟩),.int .i64 (oJ u m n:Nat)] W λe U=>e=.returned (.tuple #[.int .i64 (hgN u m n:Nat),.int .i64 0])/\aq W U):=ay (λW a=>by
   have:=I2 (oJ u m n) (d.o W a) N t P
   rwa [show hgN u m (oJ u m n)=hgN u m n by
    have I:=AD (u:=u) (m:=m) (v:=n) t aa
    have E:=AD (u:=u) (m:=m) (v:=oJ u m n) t aa
    have K:im u m (oJ u m n)=im u m n:=Oy t aa
    unfold hgN oJ p8;rw[show im u m (n / 2 ^ (im u m n+u) * 2 ^ (im u m n+u))=im u m n from K,Nat.mul_div_cancel _ (bR _)]] at this)
  rw[Y];have K:=(s.o.cell (p:=⟨x,0,none⟩) M).trans X;clear Y q O R Q d P;generalize kh u m n=I at *;generalize oJ u m n=E at *
  go_wp2_with fail;refine(L.o).mono ?_
  rintro e P ⟨rfl,q⟩;have v:=ay (s.o.trans (q.mono s.o.size));have O:=(v.o.cell (p:=⟨x,0,none⟩) M).trans X;have a:=ay (T.o P v.o);clear q T K
  go_wp2_with fail;refine(a.o).mono ?_
  rintro e T ⟨rfl,q⟩;have Y:=ay (v.o.trans (q.mono v.o.size));clear q
  go_wp2;refine an ?_
  exact⟨by rw[c.o],Y.o⟩
 ·have c:Hid (rX u m l num den=(0,z)):=ay (by unfold rX;rw[S.o,aG r])
  have v:¬z=0:=r
  go_wp2;refine an ?_
  exact⟨by rw[c.o],s.o⟩
end
def nh{w wx:World}{z:Nat}{T:TypeId}{c0 c1 c2:Value}(y x v:Value)(r:w.heap.size=z)(t:gN wx z T #[c0,c1,c2])(s:aq w wx) :
 gN (((wx.setCell ⟨z,0,none⟩ y).setCell ⟨z,1,none⟩ x).setCell ⟨z,2,none⟩ v) z T #[y,x,v]/\aq w (((wx.setCell ⟨z,0,none⟩ y).setCell ⟨z,1,none⟩ x).setCell ⟨z,2,none⟩ v):=by
 have u:w.heap.size<=z:=aa
 exact⟨((t.gR 0 y).gR 1 x).gR 2 v,((s.setCell (p:=⟨z,0,none⟩) u y).setCell (p:=⟨z,1,none⟩) u x).setCell (p:=⟨z,2,none⟩) u v⟩
def tq(v:Int)(vg:Bool)(led er:Int):Value:=if er=0 then .tuple #[.agg #[.int .i64 v,.bool vg,.int .u64 led],.int .i64 er] else .tuple #[.agg #[.int .i64 0,.bool false,.int .u64 0],.int .i64 er]
def N'(v:Int)(y:Bool)(z:Int):tq v y z 0=.tuple #[.agg #[.int .i64 v,.bool y,.int .u64 z],.int .i64 0]:=rfl
def ni{v:Int}{vg:Bool}{led er:Int}(h:er≠0):tq v vg led er=.tuple #[.agg #[.int .i64 0,.bool false,.int .u64 0],.int .i64 er]:=aG h
section
variable {y p : Nat} {p1 p2 p3 p4 : Value} {lo hi dg ac sz num den n r er k v lw : Int} {gr : Bool} {vl : Value}
def x_(w:World)(d:gN w y 106 #[.int .u8 1,.int .i64 lo,.int .i64 hi,.int .i64 dg,.bool gr,.int .i64 ac,.int .i64 sz,.pointer (some ⟨p,0,none⟩),p2,p3,p4])(T:w.cell? ⟨p,7,none⟩=some vl)(S:p<w.heap.size)
 (U:∀x,aq w x->ar Oe 19 #[.pointer (some ⟨y,0,none⟩)] x λe u=>e=.returned (.int .u64 n)/\aq x u)
 (V:∀x,ar Oe 72 #[.int .u64 num,.int .u64 den,.int .u64 n] x λe u=>e=.returned (.tuple #[.int .u64 r,.int .i64 er])/\aq x u)
 (t:er=0->∀x,aq w x->ar Oe 74 #[vl,.int .u64 r] x λe u=>e=.returned (.int .i64 k)/\x=u)
 (X:er=0->∀x,aq w x->ar Oe 73 #[.pointer (some ⟨p,0,none⟩),.int .i64 k] x λe u=>e=.returned (.tuple #[.int .i64 lw,.int .i64 v])/\aq x u) :
 ar Oe 27 #[.pointer (some ⟨y,0,none⟩),.int .u64 num,.int .u64 den] w (aw w (tq v false 0 er)):=by
 obtain⟨z,f⟩:=au (w.heap.size);obtain⟨P,g⟩:=au (w.alloc (.cells #[.int .i64 0,.bool false,.int .u64 0] 72));have s:aq w P:=by rw[<-g];exact bw
 have b:Hid (gN P z 72 #[.int .i64 0,.bool false,.int .u64 0]):=by rw[<-g,<-f];exact ay (gN.new _ _ _)
 have J:=ay d;have L:=ay (aF T S);have Y:=ay (U P s);have a:=ay V;have N:=ay t;have O:=ay X;have q:=ay s;have c:=(d.keep s).k0;clear d T S U V t X s
 go_in
 go_upto_region 1 with fail;have I:=ay f;try rw[g]
 try rw[f]
 clear g f
 go_wp2_with fail;refine(Y.o).mono ?_
 rintro e x ⟨rfl,s⟩;have g:=ay (q.o.trans (s.mono q.o.size));have f:=ay (b.o.keep s);clear s c Y b q
 go_wp2_with fail;refine(a.o x).mono ?_
 rintro e Q ⟨rfl,q⟩;have b:=ay (g.o.trans (q.mono g.o.size));have s:=ay (f.o.keep q);clear q a f g
 by_cases U:er=0
 ·subst U
  have G:=ay (N.o rfl);have H:=ay (O.o rfl);clear N O;have c:=(J.o.keep b.o).k0
  go_upto_region 11 with fail;clear c;have q:aq w Q.drew:=b.o.drew;have Z:=ay (λ(u:World) (g:(aq w) u)=>(aF ((J.o.keep g).k7) ((g.cell (p:=⟨p,7,none⟩) L.o.2).trans L.o.1)))
  refine i' (aq w) (gW 0 12 (ib 12 (ib 13 (gW 14 5 [])))) (q) ?_
  iterate 12 refine hC ?_
  refine iy λK t=>?_
  go_simp;refine(G.o Q.drew q).mono ?_
  rintro e C ⟨rfl,rfl⟩;refine t _ _ (q) ?_
  clear t K;refine iy λK t=>?_
  go_simp;refine(H.o Q.drew q).mono ?_
  rintro e C ⟨rfl,f⟩;have M:=ay (q.trans (f.mono q.size));have g:=ay ((s.o.drew).keep f);clear f;refine t _ _ (M.o) ?_
  clear t K
  iterate 5 refine hC ?_
  refine gM ?_
  obtain⟨T,S,R⟩:=g.o.c3;have Y:=g.o.frozen 0;have X:=g.o.frozen 1;have V:=g.o.frozen 2
  go_wp2_with fail;obtain⟨f,d⟩:=nh (.int .i64 v) (.bool false) (.int .u64 0) I.o g.o M.o;obtain⟨F,E,D⟩:=f.c3;have a:=ay d;clear f d T S R Y X V;refine an ?_
  exact⟨rfl,a.o⟩
 ·have q:=ay (ni (v:=v) (vg:=false) (led:=0) U)
  have g:(er == 0)=false:=by simpa using U
  obtain⟨T,S,R⟩:=s.o.c3;have Y:=s.o.frozen 0;have X:=s.o.frozen 1;have V:=s.o.frozen 2
  go_wp2_with fail;obtain⟨f,d⟩:=nh (.int .i64 0) (.bool false) (.int .u64 0) I.o s.o b.o;obtain⟨F,E,D⟩:=f.c3;have a:=ay d;clear f d T S R Y X V;refine an ?_
  exact⟨by rw[q.o],a.o⟩
def x'(w:World)(d:gN w y 106 #[.int .u8 2,.int .i64 lo,.int .i64 hi,.int .i64 dg,.bool gr,.int .i64 ac,.int .i64 sz,p1,.pointer (some ⟨p,0,none⟩),p3,p4]){rv:Value}{m:Int}{vg:Bool}(P:w.cell? ⟨p,0,none⟩=some rv)(O:w.cell? ⟨p,2,none⟩=some (.int .i64 m))(N:w.cell? ⟨p,3,none⟩=some vl)(M:p<w.heap.size)
 (Q:∀x,aq w x->ar Oe 19 #[.pointer (some ⟨y,0,none⟩)] x λe u=>e=.returned (.int .u64 n)/\aq x u)
 (R:∀x,ar Oe 72 #[.int .u64 num,.int .u64 den,.int .u64 n] x λe u=>e=.returned (.tuple #[.int .u64 r,.int .i64 er])/\aq x u)
 (Y:er=0->∀x,aq w x->ar Oe 75 #[vl,.int .i64 m,.int .u64 r] x λe u=>e=.returned (.tuple #[.int .i64 k,.bool vg])/\aq x u)
 (S:er=0->∀x,aq w x->ar Oe 76 #[rv,.int .i64 k] x λe u=>∃a b,e=.returned (.agg #[a,.int .i64 v,b])/\aq x u) :
 ar Oe 27 #[.pointer (some ⟨y,0,none⟩),.int .u64 num,.int .u64 den] w (aw w (tq v vg 0 er)):=by
 obtain⟨z,g⟩:=au (w.heap.size);obtain⟨L,s⟩:=au (w.alloc (.cells #[.int .i64 0,.bool false,.int .u64 0] 72));have t:aq w L:=by rw[<-s];exact bw
 have X:Hid (gN L z 72 #[.int .i64 0,.bool false,.int .u64 0]):=by rw[<-s,<-g];exact ay (gN.new _ _ _)
 have T:=ay d;have q:=ay (aF P (aF O (aF N M)));have V:=ay (Q L t);have U:=ay R;have I:=ay Y;have J:=ay S;have f:=ay t;have c:=(d.keep t).k0;clear d Q R t P O N M Y S
 go_in
 go_upto_region 1 with fail;have H:=ay g;try rw[s]
 try rw[g]
 clear s g
 go_wp2_with fail;refine(V.o).mono ?_
 rintro e x ⟨rfl,t⟩;have s:=ay (f.o.trans (t.mono f.o.size));have d:=ay (X.o.keep t);clear t c V X f
 go_wp2_with fail;refine(U.o x).mono ?_
 rintro e G ⟨rfl,g⟩;have V:=ay (s.o.trans (g.mono s.o.size));have t:=ay (d.o.keep g);clear g U d s
 by_cases P:er=0
 ·subst P
  have C:=ay (I.o rfl);have D:=ay (J.o rfl);clear I J;have c:=(T.o.keep V.o).k0
  go_upto_region 14 with fail;clear c;have X:aq w G.drew:=V.o.drew;have Z:=ay (λ(u:World) (s:(aq w) u)=>(aF ((T.o.keep s).k8) (aF ((s.cell (p:=⟨p,2,none⟩) q.o.2.2.2).trans q.o.2.1) ((s.cell (p:=⟨p,3,none⟩) q.o.2.2.2).trans q.o.2.2.1))))
  refine i' (aq w) (gW 0 15 (ib 15 (gW 16 5 []))) (X) ?_
  iterate 15 refine hC ?_
  refine iy λK Y=>?_
  go_simp;refine(C.o G.drew X).mono ?_
  rintro e o ⟨rfl,g⟩;have s:=ay (X.trans (g.mono X.size));have E:=ay ((t.o.drew).keep g);clear g;refine Y _ _ (s.o) ?_
  clear Y K
  iterate 5 refine hC ?_
  refine gM ?_
  have d:=(T.o.keep s.o).k8;have U:=(s.o.cell (p:=⟨p,0,none⟩) q.o.2.2.2).trans q.o.1
  go_wp2_with fail;refine(D.o o s.o).mono ?_
  rintro e F ⟨a,b,rfl,f⟩;have B:=ay (s.o.trans (f.mono s.o.size));have g:=ay (E.o.keep f);clear f d U;obtain⟨O,N,M⟩:=g.o.c3;have S:=g.o.frozen 0;have R:=g.o.frozen 1;have Q:=g.o.frozen 2;have W:(Instr.field 154 (.agg #[a,.int .i64 v,b]) 1).run prog F=.ok (.int .i64 v) F:=by kernel_rfl
  go_wp2_with fail;obtain⟨f,d⟩:=nh (.int .i64 v) (.bool vg) (.int .u64 0) H.o g.o B.o;obtain⟨A,j,l⟩:=f.c3;have U:=ay d;clear f d O N M S R Q;refine an ?_
  exact⟨rfl,U.o⟩
 ·have s:=ay (ni (v:=v) (vg:=vg) (led:=0) P)
  have g:(er == 0)=false:=by simpa using P
  obtain⟨O,N,M⟩:=t.o.c3;have S:=t.o.frozen 0;have R:=t.o.frozen 1;have Q:=t.o.frozen 2
  go_wp2_with fail;obtain⟨f,d⟩:=nh (.int .i64 0) (.bool false) (.int .u64 0) H.o t.o V.o;obtain⟨A,j,l⟩:=f.c3;have U:=ay d;clear f d O N M S R Q;refine an ?_
  exact⟨by rw[s.o],U.o⟩
def yb(w:World)(f:gN w y 106 #[.int .u8 3,.int .i64 lo,.int .i64 hi,.int .i64 dg,.bool gr,.int .i64 ac,.int .i64 sz,p1,p2,.pointer (some ⟨p,0,none⟩),p4])
 (V:∀x,aq w x->ar Oe 19 #[.pointer (some ⟨y,0,none⟩)] x λe u=>e=.returned (.int .u64 n)/\aq x u)
 (X:∀x,ar Oe 70 #[.int .u64 num,.int .u64 den,.int .u64 n] x λe u=>e=.returned (.tuple #[.int .u64 r,.int .i64 er])/\aq x u)
 (Y:er=0->∀x,aq w x->ar Oe 71 #[.pointer (some ⟨p,0,none⟩),.int .u64 r] x λe u=>e=.returned (.int .i64 v)/\aq x u) :
 ar Oe 27 #[.pointer (some ⟨y,0,none⟩),.int .u64 num,.int .u64 den] w (aw w (tq v false 0 er)):=by
 obtain⟨z,g⟩:=au (w.heap.size);obtain⟨T,s⟩:=au (w.alloc (.cells #[.int .i64 0,.bool false,.int .u64 0] 72));have t:aq w T:=by rw[<-s];exact bw
 have d:Hid (gN T z 72 #[.int .i64 0,.bool false,.int .u64 0]):=by rw[<-s,<-g];exact ay (gN.new _ _ _)
 have O:=ay f;have b:=ay (V T t);have c:=ay X;have S:=ay Y;have q:=ay t;have a:=(f.keep t).k0;clear f V X t Y
 go_in
 go_upto_region 1 with fail;have R:=ay g;try rw[s]
 try rw[g]
 clear s g
 go_wp2_with fail;refine(b.o).mono ?_
 rintro e x ⟨rfl,t⟩;have s:=ay (q.o.trans (t.mono q.o.size));have f:=ay (d.o.keep t);clear t a b d q
 go_wp2_with fail;refine(c.o x).mono ?_
 rintro e K ⟨rfl,q⟩;have g:=ay (s.o.trans (q.mono s.o.size));have t:=ay (f.o.keep q);clear q c f s
 by_cases Y:er=0
 ·subst Y
  have Q:=ay (S.o rfl);clear S;have f:=(O.o.keep g.o).k9
  go_wp2_with fail;refine(Q.o K g.o).mono ?_
  rintro e J ⟨rfl,q⟩;have P:=ay (g.o.trans (q.mono g.o.size));have s:=ay (t.o.keep q);clear q f;obtain⟨X,V,U⟩:=s.o.c3;have c:=s.o.frozen 0;have b:=s.o.frozen 1;have a:=s.o.frozen 2
  go_wp2_with fail;obtain⟨q,f⟩:=nh (.int .i64 v) (.bool false) (.int .u64 0) R.o s.o P.o;obtain⟨N,M,L⟩:=q.c3;have d:=ay f;clear q f X V U c b a;refine an ?_
  exact⟨rfl,d.o⟩
 ·have s:=ay (ni (v:=v) (vg:=false) (led:=0) Y)
  have Q:(er == 0)=false:=by simpa using Y
  obtain⟨X,V,U⟩:=t.o.c3;have c:=t.o.frozen 0;have b:=t.o.frozen 1;have a:=t.o.frozen 2
  go_wp2_with fail;obtain⟨q,f⟩:=nh (.int .i64 0) (.bool false) (.int .u64 0) R.o t.o g.o;obtain⟨N,M,L⟩:=q.c3;have d:=ay f;clear q f X V U c b a;refine an ?_
  exact⟨by rw[s.o],d.o⟩
def yc(w:World)(d:gN w y 106 #[.int .u8 4,.int .i64 lo,.int .i64 hi,.int .i64 dg,.bool gr,.int .i64 ac,.int .i64 sz,p1,p2,p3,.pointer (some ⟨p,0,none⟩)]){led:Int}(U:w.cell? ⟨p,2,none⟩=some (.int .u64 led))(T:p<w.heap.size)
 (V:∀x,aq w x->ar Oe 19 #[.pointer (some ⟨y,0,none⟩)] x λe u=>e=.returned (.int .u64 n)/\aq x u)
 (X:∀x,ar Oe 72 #[.int .u64 num,.int .u64 den,.int .u64 n] x λe u=>e=.returned (.tuple #[.int .u64 r,.int .i64 er])/\aq x u)
 (Y:er=0->∀x,aq w x->ar Oe 77 #[.pointer (some ⟨p,0,none⟩),.int .u64 r] x λe u=>e=.returned (.int .i64 v)/\aq x u) :
 ar Oe 27 #[.pointer (some ⟨y,0,none⟩),.int .u64 num,.int .u64 den] w (aw w (tq v false led er)):=by
 obtain⟨z,g⟩:=au (w.heap.size);obtain⟨R,s⟩:=au (w.alloc (.cells #[.int .i64 0,.bool false,.int .u64 0] 72));have t:aq w R:=by rw[<-s];exact bw
 have c:Hid (gN R z 72 #[.int .i64 0,.bool false,.int .u64 0]):=by rw[<-s,<-g];exact ay (gN.new _ _ _)
 have N:=ay d;have O:=ay (aF U T);have a:=ay (V R t);have b:=ay X;have Q:=ay Y;have q:=ay t;have f:=(d.keep t).k0;clear d V X t U T Y
 go_in
 go_upto_region 1 with fail;have M:=ay g;try rw[s]
 try rw[g]
 clear s g
 go_wp2_with fail;refine(a.o).mono ?_
 rintro e x ⟨rfl,t⟩;have s:=ay (q.o.trans (t.mono q.o.size));have g:=ay (c.o.keep t);clear t f a c q
 go_wp2_with fail;refine(b.o x).mono ?_
 rintro e J ⟨rfl,q⟩;have c:=ay (s.o.trans (q.mono s.o.size));have t:=ay (g.o.keep q);clear q b g s
 by_cases V:er=0
 ·subst V
  have I:=ay (Q.o rfl);clear Q;have f:=(N.o.keep c.o).k0
  go_upto_region 16 with fail;clear f;have d:aq w J.drew:=c.o.drew;have Z:=ay (λ(u:World) (s:(aq w) u)=>(aF ((N.o.keep s).k10) ((s.cell (p:=⟨p,2,none⟩) O.o.2).trans O.o.1)))
  refine ki (aq w) 14 (gW 0 5 (gW 6 7 (ib 5 (gW 13 1 [])))) (d) ?_
  iterate 12 refine jw ?_
  refine mg λK L=>?_
  go_simp;refine(I.o J.drew d).mono ?_
  rintro e E ⟨rfl,q⟩;have P:=ay (d.trans (q.mono d.size));have s:=ay ((t.o.drew).keep q);clear q;refine L _ _ (P.o) ?_
  clear L K;refine jw ?_
  refine gU ?_
  simp only[bc,bp];obtain⟨U,T,S⟩:=s.o.c3;have a:=s.o.frozen 0;have Y:=s.o.frozen 1;have X:=s.o.frozen 2
  go_wp2_with fail;try refine gQ ?_
  go_wp2_with fail;obtain⟨q,g⟩:=nh (.int .i64 v) (.bool false) (.int .u64 led) M.o s.o P.o;obtain⟨H,G,F⟩:=q.c3;have b:=ay g;clear q g U T S a Y X;refine an ?_
  exact⟨rfl,b.o⟩
 ·have s:=ay (ni (v:=v) (vg:=false) (led:=led) V)
  have d:(er == 0)=false:=by simpa using V
  obtain⟨U,T,S⟩:=t.o.c3;have a:=t.o.frozen 0;have Y:=t.o.frozen 1;have X:=t.o.frozen 2
  go_wp2_with fail;obtain⟨q,g⟩:=nh (.int .i64 0) (.bool false) (.int .u64 0) M.o t.o c.o;obtain⟨H,G,F⟩:=q.c3;have b:=ay g;clear q g U T S a Y X;refine an ?_
  exact⟨by rw[s.o],b.o⟩
end
section
variable {y p : Nat} {p1 p2 p3 p4 : Value} {lo hi dg ac sz v a c : Int} {gr : Bool} {vl : Value}
variable{m:Int}
def Ek(w:World)(z:gN w y 106 #[.int .u8 1,.int .i64 lo,.int .i64 hi,.int .i64 dg,.bool gr,.int .i64 ac,.int .i64 sz,p1,p2,p3,p4])(t:v<0) :
 ar Oe 29 #[.pointer (some ⟨y,0,none⟩),.int .i64 v] w (aw w (.tuple #[.int .u64 0,.int .u64 0,.int .i64 0])):=by
 have u:=z.k0;clear z
 go_in
 go_wp2;refine an ?_
 exact⟨rfl,aC _ _⟩
def El{u i:Int}(w:World)(t:gN w y 106 #[.int .u8 1,.int .i64 lo,.int .i64 hi,.int .i64 dg,.bool gr,.int .i64 ac,.int .i64 sz,.pointer (some ⟨p,0,none⟩),p2,p3,p4])(S:¬v<0)
 (d:w.cell? ⟨p,3,none⟩=some (.int .i64 u)) (b:w.cell? ⟨p,4,none⟩=some (.int .i64 m)) (Y:w.cell? ⟨p,7,none⟩=some vl) (X:p<w.heap.size)
 (f:∀x,ar Oe 83 #[.int .i64 u,.int .i64 m,.int .i64 v] x λe z=>e=.returned (.int .i64 i)/\x=z)
 (r:∀x,aq w x->ar Oe 84 #[vl,.int .i64 i,.bool false] x λe z=>e=.returned (.int .u64 a)/\x=z)
 (q:∀x,aq w x->ar Oe 84 #[vl,.int .i64 i,.bool true] x λe z=>e=.returned (.int .u64 c)/\x=z) :
 ar Oe 29 #[.pointer (some ⟨y,0,none⟩),.int .i64 v] w (aw w (.tuple #[.int .u64 a,.int .u64 c,.int .i64 0])):=by
 have x:=t.k0;have g:=ay t;have s:=ay (aF d (aF b (aF Y X)));have T:=ay f;have V:=ay r;have U:=ay q;clear t d b Y X f r q;have q:aq w w.drew:=(aC _ _).drew;have t:aq w w.drew.drew:=q.drew
 go_in
 go_upto_region 5 with fail;clear x;have Z:=ay (λ(z:World) (r:(aq w) z)=>(aF ((g.o.keep r).k7) (aF ((r.cell (p:=⟨p,3,none⟩) s.o.2.2.2).trans s.o.1) ((r.cell (p:=⟨p,4,none⟩) s.o.2.2.2).trans s.o.2.1))))
 refine i' (aq w) (gW 0 15 (ib 15 (gW 16 1 []))) (q) ?_
 iterate 15 refine hC ?_
 refine iy λK x=>?_
 go_simp;refine(T.o w.drew).mono ?_
 rintro e f ⟨rfl,rfl⟩;refine x _ _ (q) ?_
 clear x K;refine hC ?_
 refine gM ?_
 go_upto_region 6 with fail;have Z:=ay (λ(z:World) (r:(aq w) z)=>(aF ((g.o.keep r).k7) ((r.cell (p:=⟨p,7,none⟩) s.o.2.2.2).trans s.o.2.2.1)))
 refine i' (aq w) (gW 0 8 (gW 9 8 (ib 8 (ib 17 (gW 18 3 []))))) (t) ?_
 iterate 16 refine hC ?_
 refine iy λK x=>?_
 go_simp;refine(V.o w.drew.drew t).mono ?_
 rintro e f ⟨rfl,rfl⟩;refine x _ _ (t) ?_
 clear x K;refine iy λK x=>?_
 go_simp;refine(U.o w.drew.drew t).mono ?_
 rintro e f ⟨rfl,rfl⟩;refine x _ _ (t) ?_
 clear x K
 iterate 3 refine hC ?_
 refine gM ?_
 go_wp2;refine an ?_
 exact⟨rfl,t⟩
def Em(w:World)(z:gN w y 106 #[.int .u8 2,.int .i64 lo,.int .i64 hi,.int .i64 dg,.bool gr,.int .i64 ac,.int .i64 sz,p1,p2,p3,p4])(t:v < -9223372036854775807) :
 ar Oe 29 #[.pointer (some ⟨y,0,none⟩),.int .i64 v] w (aw w (.tuple #[.int .u64 0,.int .u64 0,.int .i64 5])):=by
 have u:=z.k0;clear z
 go_in
 go_wp2;refine an ?_
 exact⟨rfl,aC _ _⟩
def En{f k:Int}{rv:Value}{R:Value->World->Prop}(w:World)(s:gN w y 106 #[.int .u8 2,.int .i64 lo,.int .i64 hi,.int .i64 dg,.bool gr,.int .i64 ac,.int .i64 sz,p1,.pointer (some ⟨p,0,none⟩),p3,p4])(P:¬v < -9223372036854775807)
 (b:w.cell? ⟨p,0,none⟩=some rv) (Y:w.cell? ⟨p,2,none⟩=some (.int .i64 m)) (X:w.cell? ⟨p,3,none⟩=some vl) (V:p<w.heap.size)
 (t:∀z,aq w z->ar Oe 85 #[vl,.int .i64 m] z λe x=>∃u,e=.returned (.tuple #[u,.int .u64 f])/\R u x/\aq z x)
 (d:∀z,aq w z->ar Oe 86 #[rv,.int .i64 v] z λe x=>e=.returned (.int .i64 k)/\z=x)
 (r:∀u z,R u z->ar Oe 84 #[u,.int .i64 k,.bool false] z λe x=>e=.returned (.int .u64 a)/\z=x)
 (g:∀u z,R u z->ar Oe 84 #[u,.int .i64 k,.bool true] z λe x=>e=.returned (.int .u64 c)/\z=x) :
 ar Oe 29 #[.pointer (some ⟨y,0,none⟩),.int .i64 v] w (aw w (.tuple #[.int .u64 a,.int .u64 c,.int .i64 0])):=by
 have u:=s.k0;have q:=ay s;have z:=ay (aF b (aF Y (aF X V)));have Q:=ay t;have S:=ay d;have U:=ay r;have T:=ay g;clear s b Y X V t d r g;have s:aq w w.drew:=(aC _ _).drew
 go_in
 go_upto_region 10 with fail;clear u;have Z:=ay (λ(x:World) (u:(aq w) x)=>(aF ((q.o.keep u).k8) (aF ((u.cell (p:=⟨p,2,none⟩) z.o.2.2.2).trans z.o.2.1) ((u.cell (p:=⟨p,3,none⟩) z.o.2.2.2).trans z.o.2.2.1))))
 refine i' (aq w) (gW 0 14 (ib 14 (gW 15 5 []))) (s) ?_
 iterate 14 refine hC ?_
 refine iy λK t=>?_
 go_simp;refine(Q.o w.drew s).mono ?_
 rintro e r ⟨Y,rfl,b,d⟩;have u:=ay (s.trans (d.mono s.size));have g:=ay b;clear b d;refine t _ _ (u.o) ?_
 clear t K
 iterate 5 refine hC ?_
 refine gM ?_
 have b:=(q.o.keep u.o).k8;have X:=(u.o.cell (p:=⟨p,0,none⟩) z.o.2.2.2).trans z.o.1
 go_wp2_with fail;refine(S.o r u.o).mono ?_
 rintro e d ⟨rfl,rfl⟩;clear b X
 go_wp2_with fail;refine(U.o Y r g.o).mono ?_
 rintro e d ⟨rfl,rfl⟩
 go_wp2_with fail;refine(T.o Y r g.o).mono ?_
 rintro e d ⟨rfl,rfl⟩
 go_wp2;refine an ?_
 exact⟨rfl,u.o⟩
def Eo(w:World)(z:gN w y 106 #[.int .u8 4,.int .i64 lo,.int .i64 hi,.int .i64 dg,.bool gr,.int .i64 ac,.int .i64 sz,p1,p2,p3,p4])
 (u:ar Oe 88 #[p4,.int .i64 v] w λe x=>e=.returned (.tuple #[.int .u64 a,.int .u64 c])/\aq w x) :
 ar Oe 29 #[.pointer (some ⟨y,0,none⟩),.int .i64 v] w (aw w (.tuple #[.int .u64 a,.int .u64 c,.int .i64 0])):=by
 have s:=z.k0;have r:=z.k10;have t:=ay u;clear z u
 go_in
 go_wp2_with fail;refine(t.o).mono ?_
 rintro e u ⟨rfl,z⟩
 go_wp2;refine an ?_
 exact⟨rfl,z⟩
def Ep(w:World)(x:gN w y 106 #[.int .u8 3,.int .i64 lo,.int .i64 hi,.int .i64 dg,.bool gr,.int .i64 ac,.int .i64 sz,p1,p2,p3,p4])(U:-9223372036854775808<v)(T:v<=9223372036854775807)
 (u:∀z,aq w z->ar Oe 87 #[p3,.int .i64 (v - 1)] z λe s=>e=.returned (.int .u64 a)/\aq z s)
 (t:∀z,aq w z->ar Oe 87 #[p3,.int .i64 v] z λe s=>e=.returned (.int .u64 c)/\aq z s) :
 ar Oe 29 #[.pointer (some ⟨y,0,none⟩),.int .i64 v] w (aw w (.tuple #[.int .u64 a,.int .u64 c,.int .i64 0])):=by
 have X:=x.k0;have d:=x.k9;have f:=ay x;have r:=ay u;have g:=ay t;clear x u t
 by_cases b:v=-9223372036854775807
 ·subst b
  have q:=ay (r.o w (aC _ _));rw[show(-9223372036854775807:Int) - 1=-9223372036854775808 by decide] at q
  clear r
  go_in
  go_wp2_with fail;refine(q.o).mono ?_
  rintro e z ⟨rfl,u⟩;have x:=ay u;have d:=(f.o.keep u).k9;clear u
  go_wp2_with fail;refine(g.o z x.o).mono ?_
  rintro e Y ⟨rfl,t⟩;have p:=ay (x.o.trans (t.mono x.o.size));clear t
  go_wp2;refine an ?_
  exact⟨rfl,p.o⟩
 ·have V:v > -9223372036854775807:=aa
  have S:IntKind.i64.wrap (v - 1)=v - 1:=ai
  have q:=ay (r.o w (aC _ _));clear r b
  go_in
  go_wp2_with fail;refine(q.o).mono ?_
  rintro e z ⟨rfl,u⟩;have x:=ay u;have d:=(f.o.keep u).k9;clear u
  go_wp2_with fail;refine(g.o z x.o).mono ?_
  rintro e Y ⟨rfl,t⟩;have p:=ay (x.o.trans (t.mono x.o.size));clear t
  go_wp2;refine an ?_
  exact⟨rfl,p.o⟩
def Er(w:World)(z:gN w y 106 #[.int .u8 3,.int .i64 lo,.int .i64 hi,.int .i64 dg,.bool gr,.int .i64 ac,.int .i64 sz,p1,p2,p3,p4])
 (v:ar Oe 87 #[p3,.int .i64 (-9223372036854775808)] w λe x=>e=.returned (.int .u64 c)/\aq w x) :
 ar Oe 29 #[.pointer (some ⟨y,0,none⟩),.int .i64 (-9223372036854775808)] w (aw w (.tuple #[.int .u64 0,.int .u64 c,.int .i64 0])):=by
 have t:=z.k0;have s:=z.k9;have u:=ay v;clear z v
 go_in
 go_wp2_with fail;refine(u.o).mono ?_
 rintro e r ⟨rfl,z⟩;have v:=ay z;clear z
 go_wp2;refine an ?_
 exact⟨rfl,v.o⟩
end
section
variable {y : Nat} {p1 p2 p3 p4 : Value} {num den v led er : Int} {vg : Bool}
def Me(w:World)(s:gN w y 124 #[.int .u8 4,p1,p2,p3,p4])(h:∀t,aq w t->ar Oe 140 #[p4,.int .u64 num,.int .u64 den] t λe d=>e=.returned (.tuple #[.int .i64 v,.int .u64 led,.int .i64 er])/\aq t d) :
 ar Oe 69 #[.pointer (some ⟨y,0,none⟩),.int .u64 num,.int .u64 den] w (aw w (.tuple #[.agg #[.int .i64 v,.bool false,.int .u64 led],.int .i64 er])):=by
 have C:=ay h;clear h;have P:=s.lt;obtain⟨z,p⟩:=au (w.heap.size);obtain⟨c,u⟩:=au (w.alloc (.cells #[.int .i64 0,.bool false,.int .u64 0] 72));have x:aq w c:=by rw[<-u];exact bw
 have g:gN c z 72 #[.int .i64 0,.bool false,.int .u64 0]:=by rw[<-u,<-p];exact gN.new _ _ _
 have r:=s.keep x;have X:=r.k0;have V:=r.k4;have b:=ay (C.o c x);have a:=ay x;have R:=ay g;clear s r C x g
 go_in
 go_upto_region 1 with fail;have s:=ay p;clear u p
 go_wp2_with fail;refine(b.o).mono ?_
 rintro e t ⟨rfl,x⟩;have u:=ay (R.o.keep x);have r:=u.o.k0;have g:=u.o.k1;have f:=u.o.k2;have U:=u.o.frozen 0;have T:=u.o.frozen 1;have S:=u.o.frozen 2;have Y:Hid (aq w t):=ay (a.o.trans (x.mono a.o.size));clear x b X V
 go_upto_region 9 with fail;have x:=(u.o.gR 0 (.int .i64 v)).gR 2 (.int .u64 led);have b:=ay (((Y.o.setCell (p:=⟨z,0,none⟩) (by rw[s.o];exact aD _) (.int .i64 v)).setCell (p:=⟨z,2,none⟩) (by rw[s.o];exact aD _) (.int .u64 led)))
 obtain⟨Q,X⟩:=au ((t.setCell ⟨z,0,none⟩ (.int .i64 v)).setCell ⟨z,2,none⟩ (.int .u64 led));rw[X] at x b |-;simp only[aY,bo,bm] at x;have r:=x.k0;have g:=x.k1;have f:=x.k2;have U:=x.frozen 0;have T:=x.frozen 1;have S:=x.frozen 2;have V:=ay x;clear X u Y x
 go_wp2_with fail;have u:=ay (((V.o.gR 0 (.int .i64 v)).gR 1 (.bool false)).gR 2 (.int .u64 led));have Y:=ay (((b.o.setCell (p:=⟨z,0,none⟩) (by rw[s.o];exact aD _) (.int .i64 v)).setCell (p:=⟨z,1,none⟩) (by rw[s.o];exact aD _) (.bool false)).setCell (p:=⟨z,2,none⟩) (by rw[s.o];exact aD _) (.int .u64 led))
 obtain⟨M,X⟩:=au (((Q.setCell ⟨z,0,none⟩ (.int .i64 v)).setCell ⟨z,1,none⟩ (.bool false)).setCell ⟨z,2,none⟩ (.int .u64 led));rw[X] at u Y |-;have x:=u.o;simp only[aY,bo,bm] at x;obtain⟨q,O,N⟩:=x.c3;clear X r g f U T S x;refine an ?_
 have x:=Y.o;exact⟨rfl,x⟩
def Oa(w:World)(h:∀z,aq w z->ar Oe 69 #[.pointer (some ⟨y,0,none⟩),.int .u64 num,.int .u64 den] z λe x=>e=.returned (.tuple #[.agg #[.int .i64 v,.bool vg,.int .u64 led],.int .i64 er])/\aq z x) :
 ar Oe 26 #[.pointer (some ⟨y,0,none⟩),.int .u64 num,.int .u64 den] w (aw w (tq v vg led er)):=by
 by_cases z:er=0
 ·subst z
  exact N6 w h
 ·rw[ni z]
  exact N7 w z h
end
def qo(sp:i9)(c:Js)(num den:Int):Int × Bool × Int × Int:=match sp with
 | .h _ _ _ u m _=>((rX u m c.l num den).1,false,0,(rX u m c.l num den).2)
 | .d a m=>((kQ a m c.l num den).1,(kQ a m c.l num den).2.1,0,(kQ a m c.l num den).2.2)
 | .t d=>((th d c.s num den).1,false,0,(th d c.s num den).2)
 | .k _=>((K.atR c.L c.led num den).1,false,(K.atR c.L c.led num den).2.1,(K.atR c.L c.led num den).2.2)
def iT(sp:i9)(c:Js)(v:Int):Int × Int × Int:=match sp with
 | .h _ _ _ u m _=>if v<0 then(0,0,0) else(jt c.l (kh u m v.toNat:Nat),jt c.l ((kh u m v.toNat:Nat)+1),0)
 | .d a m=>if v < -9223372036854775807 then(0,0,5) else(jt (gV m c.l).1 (nI a v),jt (gV m c.l).1 (nI a v+1),0)
 | .t d=>(if v=-9223372036854775808 then 0 else jb d c.s (v - 1),jb d c.s v,0)
 | .k _=>((K.KT c.L v:Nat),(K.i4 c.L v:Nat),0)
def Sj(l:List Pr)(i:Int):jt l (i+1)=jt l i+kn l i:=by
 induction l with
 | nil=>rfl
 | cons p l ih=>
  simp only[kI,iP,ih]
  rcases el p.1 i with h|h|h
  ·rw[aH (show p.1<i+1 by omega),aH h,aG (show ¬p.1=i by omega)];omega
  ·rw[aH (show p.1<i+1 by omega),aG (show ¬p.1<i by omega),aH h];omega
  ·rw[aG (show ¬p.1<i+1 by omega),aG (show ¬p.1<i by omega),aG (show ¬p.1=i by omega)];omega
def FV(u m:Nat):kh u m 0=0:=by
 have h:im u m 0=0:=by unfold im;rw[show Lib.bitLen 0=0 from rfl];omega
 unfold kh p8;rw[h];simp
def Es{lo hi dg u m bk:Nat}{gr:Bool}{l:List Pr}(ok:iG lo hi dg u m gr bk l):∀p∈l,(0:Int)<=p.1:=λp z=>by
 obtain⟨v,_,e,_⟩:=ok.key p z;rw[e];omega
def Sk{a:Nat}(z:100<=a)(y:a<=5000):∀s∈spans a,0<=s.mid/\s.mid<=9223372036854775807:=λs x=>by
 have:=(ph z y).1 s x;omega
section
variable {sp : i9} {c : Js} {x : Nat} {F : Ft}
def Sl(num den:Int)(w:World)(h:iX sp c x F w)(ok:je sp c)(s:0<=num)(r:num<18446744073709551616)(g:0<=den)(f:den<18446744073709551616) :
 ar Oe 26 #[.pointer (some ⟨x,0,none⟩),.int .u64 num,.int .u64 den] w (aw w (tq (qo sp c num den).1 (qo sp c num den).2.1 (qo sp c num den).2.2.1 (qo sp c num den).2.2.2)):=by
 obtain⟨p,G,X,V,_⟩:=h;refine Oa w λv u=>?_
 have b:=X.keep u;have Y:=λz (y:aq v z)=>(iR sp c p).keep ((iR sp c p).keep V u) y
 cases sp with
 | h lo hi dg u m gr=>exact LV v b λz y=>N_ num den z (Y z y) ok s r g f
 | d a m=>exact LW v b λz y=>Ma num den z (Y z y) ok (Sk (iO.a0 ok) (iO.a1 ok)) s r g f
 | t d=>exact LX v b λz y=>Cu num den z (Y z y) (tK.fit ok) s r g f
 | k q=>
  refine Me v b λz y=>?_
  obtain⟨T,S,v⟩:=Y z y;exact K.Cu num den z v (nt.fit ok).ok rfl s r g f
def Et(v:Int)(w:World)(h:iX sp c x F w)(ok:je sp c)(T:-9223372036854775808<=v)(g:v<=9223372036854775807) :
 ar Oe 28 #[.pointer (some ⟨x,0,none⟩),.int .i64 v] w (aw w (.tuple #[.int .u64 (iT sp c v).1,.int .u64 (iT sp c v).2.1,.int .i64 (iT sp c v).2.2])):=by
 obtain⟨p,G,y,s,_⟩:=h;have f:=λS (V:aq w S)=>(iR sp c p).keep s V
 cases sp with
 | h lo hi dg u m gr=>
  have q:=iG.pos ok;have d:Ca u m c.l 0 v=(iT (.h lo hi dg u m gr) c v).2.1:=by
   unfold Ca iT
   by_cases z:v<0
   ·rw[aH z];simp only;rw[aH z]
   ·rw[aG z];simp only;rw[aG z]
    rw[show(max v 0).toNat=v.toNat by omega,show(max (0:Int) 0).toNat=0 by decide,FV]
    rw[pV (t:=((0:Nat):Int)) (λp q=>by have:=Es ok p q;omega)];simp
  have b:Ca u m c.l 0 v - Ei u m c.l v=(iT (.h lo hi dg u m gr) c v).1:=by
   rw[d];unfold Ei iT
   by_cases z:v<0
   ·rw[aH z];simp only;rw[aH z];simp
   ·rw[aG z];simp only;rw[aG z]
    rw[Sj];simp
  have a:(iT (.h lo hi dg u m gr) c v).2.2=0:=by
   unfold iT;simp only;split<;>rfl
  have U:0<=(iT (.h lo hi dg u m gr) c v).1/\(iT (.h lo hi dg u m gr) c v).1<=tot c.l:=by
   unfold iT;simp only
   split
   ·exact⟨cR _,gP q⟩
   ·have:=lo_le q (cR ((kh u m v.toNat:Nat):Int));exact⟨this.1,this.2.2⟩
  have Y:=iG.sum ok;rw[a,<-b,<-d];rw[<-b] at U;exact IN (w:=w) y (by rw[g_];omega) (λW r=>zi 0 v W (f W r) ok ab g (λ_=>by rw[show(max (0:Int) 0).toNat=0 by decide,FV];omega)) (λW r=>Ej v W (f W r) ok g)
 | d a m=>
  by_cases z:v < -9223372036854775807
  ·obtain rfl:v=-9223372036854775808:=aa
   have e:iT (.d a m) c (-9223372036854775808)=(0,0,5):=by unfold iT;simp only;rw[aH ab]
   rw[e];exact x9 y (zh w s)
  ·have e:iT (.d a m) c v=(jt (gV m c.l).1 (nI a v),jt (gV m c.l).1 (nI a v+1),0):=by unfold iT;simp only;rw[aG z]
   rw[e];exact x9 y (wH v w s ok aa g)
 | t d=>
  have q:=tK.fit ok
  by_cases z:v=-9223372036854775808
  ·subst z
   have e:iT (.t d) c (-9223372036854775808)=(0,jb d c.s (-9223372036854775808),0):=rfl;rw[e];exact IS y (uw _ w s q ab  ab)
  ·have e:iT (.t d) c v=(jb d c.s (v - 1),jb d c.s v,0):=by unfold iT;simp only;rw[aG z]
   rw[e];exact IQ y aa g (uw (v - 1) w s q aa  aa) (λW r=>uw v W (f W r) q T g)
 | k q=>
  obtain⟨z,r,Y⟩:=s;refine IP y ((K.s_ v w Y (nt.fit ok).ok).mono ?_)
  rintro e X ⟨rfl,n,rfl⟩;exact⟨rfl,below_drewN (aC _ _) _⟩
end
end D
end Go.Proofs.YtdicblkhpcphfaaGreat
