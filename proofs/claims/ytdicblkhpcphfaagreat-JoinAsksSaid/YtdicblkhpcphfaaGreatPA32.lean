/- Parts. No condition. -/
import Derived.Test.YtdicblkhpcphfaaGreatPA31
set_option maxRecDepth 100000
set_option maxHeartbeats 0
set_option linter.all false
namespace Go.Proofs.YtdicblkhpcphfaaGreat
open Tryz Go.RowKit Go.Lib
open _root_.List renaming length→ao
open _root_.Go renaming Calls→ar
open Tryz renaming prog→Oe
namespace D
variable{a g i j k n r x:Nat}{w w':World}{bs l:List Int}{v:Value}{L:List (List Int)}{zc:Int}{pk:Bool}
def IA(c:Int)(w:World):ar Oe 427 #[.int .u32 c] w λe z=>e=.returned (.int .u32 (UN c))/\w=z:=by
 unfold UN
 by_cases h:bits .and .u32 c 1=1
 ·rw[aH h]
  go_in
  go_wp2
  go_ret;exact⟨rfl,rfl⟩
 ·rw[aG h]
  go_in
  go_wp2
  go_ret;exact⟨rfl,rfl⟩
def Ci(k:Nat)(w:World)(g:Nat):Prop:=gN w g 459 ((nT k).map (Value.int .u32)).toArray
def Ci.next(h:Ci k w g)(y:k<256):Ci (k+1) (w.setCell ⟨g,k,none⟩ (.int .u32 (Mt k))) g:=by
 have z:=gN.gR h k (.int .u32 (Mt k));unfold Ci;rw[<-Iz y,List.map_set]
 rwa [aY] at z
def Ci.at_(h:Ci k w g)(y:i<256)(x:k<=256):∃v,w.cell? ⟨g,i,none⟩=some v:=by
 have z:=gN.cell h i;rw[aA,eR,aQ (by rw[xZ x];exact y)] at z
 exact⟨_,z⟩
def Ci.tab(h:Ci 256 w g)(x:i<256):w.cell? ⟨g,i,none⟩=some (.int .u32 (Mt i)):=by
 have y:=gN.cell h i;have v:i<ao (nT 256):=by rw[xZ aa];exact x
 have z:=LA x;rw[aQ v] at z;rw[aA,eR,aQ v] at y;rw[y];simp only[eB] at z;rw[z];rfl
def IB(g:Nat)(w:World)(h:Ci 0 w g):ar Oe 364 #[.pointer (some ⟨g,0,none⟩)] w λe t=>e=.returned (.tuple #[])/\Ci 256 t g/\Touch (λk=>k=g) w t:=by
 have H:=ay h;clear h
 go_in
 go_wp2
 go_loopg [2,3,4,9] 256 (λq _ _ z _ wr=>∃i:Nat,q=256 - i/\i<=256/\z=.int .i64 (i:Int)/\Hid (Ci i wr g)/\Hid (Touch (λk=>k=g) w wr))
 exact⟨0,rfl,aa,rfl,H,ay (Touch.refl _ _)⟩
 case round=>
  obtain⟨i,z,d,rfl,x,s⟩:=hrel;have p:=ay z;clear z
  by_cases r:i<256
  ·have X:(i:Int)<256:=aa
   have b:IntKind.u32.wrap (i:Int)=i:=by show(i:Int) % 4294967296=i;omega
   go_wp2
   go_loopg [3,9] 8 (λq c y v=>(∃j:Nat,q=8 - j/\j<=8/\y=.int .i64 (j:Int)/\c=.int .u32 (Sd j i))/\wr=v)
   exact⟨⟨0,rfl,aa,rfl,rfl⟩,rfl⟩
   case round=>
    obtain⟨⟨j,z,a,rfl,rfl⟩,rfl⟩:=hrel;have f:=ay z;clear z
    by_cases Y:j<8
    ·have y:(j:Int)<8:=aa
     have C:=ay (IA (Sd j i) wr)
     go_wp2_with fail;refine(C.o).mono ?_
     rintro e t ⟨rfl,rfl⟩
     go_wp2
     go_roundg (8 - (j+1))
     exact⟨⟨j+1,rfl,aa,ag,rfl⟩,rfl⟩
     have:=f.o;omega
    ·obtain rfl:j=8:=aa
     obtain⟨v,V⟩:=x.o.at_ r d;have c:=gN.frozen x.o i;obtain⟨y,q⟩:=au (Sd 8 i);have u:=ay (x.o.next r);unfold Mt at u;rw[q] at u |-;clear q
     go_wp2
     go_roundg (256 - (i+1))
     exact⟨i+1,rfl,aa,ag,u,ay (s.o.setCell (.inl rfl) _)⟩
     have:=p.o;omega
  ·obtain rfl:i=256:=aa
   go_wp2_with fail;refine cp (v:=.tuple #[]) (by simp[results,Tryz.results364,go_sem, *];try rfl) rfl ?_
   exact⟨rfl,x.o,s.o⟩
def LB(h:j<ao l)(c:Int):FN c (l.take (j+1))=bits .xor .u32 (FN c (l.take j) / 256) (Mt (bits .xor .u8 (FN c (l.take j) % 256) l[j])):=by
 rw[aM h,BM]
def IC(g:Nat)(c:Int)(v:Value)(bs:List Int)(w:World)(h:Ci 256 w g)(y:jf .u8 w v bs)(R:ao bs<=1000000000000)(p:0<=c)(f:c<4294967296) :
 ar Oe 446 #[.pointer (some ⟨g,0,none⟩),.int .u32 c,v] w λe Y=>e=.returned (.int .u32 (FN c bs))/\w=Y:=by
 have H:=ay h;obtain⟨A,k,rfl,_,_,z⟩:=y.form;have r:=ay z;clear h y z
 go_in
 go_wp2
 go_loopg [1,8,11] (ao bs) (λq z _ y wr=>(∃j:Nat,q=ao bs - j/\j<=ao bs/\y=.int .i64 (j:Int)/\z=.int .u32 (FN c (bs.take j)))/\w=wr)
 exact⟨⟨0,rfl,aa,rfl,rfl⟩,rfl⟩
 case round=>
  obtain⟨⟨j,z,S,rfl,rfl⟩,rfl⟩:=hrel;have q:=ay z;clear z
  by_cases s:j<ao bs
  ·have Q:(j:Int)<(ao bs:Int):=aa
   obtain⟨U,O,rfl,T,d⟩:=r.o.at_ s;have z:=ay (LB s c);have b:=Lz (bs.take j) p f;obtain⟨x,u⟩:=au (FN c (bs.take j));obtain⟨y,t⟩:=au (bs[j]);rw[u,t] at z;rw[u] at b |-;rw[t] at d;clear u t;have t:=DZ .xor (x % 256) y;obtain⟨i,u⟩:∃i:Nat,bits .xor .u8 (x % 256) y=(i:Int):=⟨(bits .xor .u8 (x % 256) y).toNat,aa⟩
   have a:i<256:=aa
   have X:=ay u;rw[u] at z;have P:=H.o.tab a;have V:IntKind.u8.wrap x=x % 256:=rfl;clear t;have t:(i:Int)<256:=aa
   go_wp2
   go_roundg (ao bs - (j+1))
   exact⟨⟨j+1,rfl,aa,ag,by rw[z.o]⟩,rfl⟩
   have:=q.o;omega
  ·obtain rfl:j=ao bs:=aa
   rw[bN]
   go_wp2
   go_ret;exact⟨rfl,rfl⟩
def ID(g:Nat)(c:Int)(v:Value)(bs:List Int)(w:World)(h:Ci 256 w g)(z:jf .u8 w v bs)(x:ao bs<=1000000000000) :
 ar Oe 413 #[.pointer (some ⟨g,0,none⟩),.int .u32 c,v] w λe y=>e=.returned (.int .u32 (bits .xor .u32 4294967295 (FN (bits .xor .u32 4294967295 c) bs)))/\w=y:=by
 have t:IntKind.u32.signed=false:=rfl;have u:IntKind.u32.max=4294967295:=rfl;have F:=ay (IC g _ v bs w h z x (lS .xor 4294967295 c).1 (lS .xor 4294967295 c).2);clear h z
 go_in
 go_wp2_with fail;refine(F.o).mono ?_
 rintro e y ⟨rfl,rfl⟩
 go_wp2
 go_ret;exact⟨rfl,rfl⟩
def BN(g:Nat)(v:Value)(bs:List Int)(w:World)(h:Ci 256 w g)(z:jf .u8 w v bs)(x:ao bs<=1000000000000) :
 ar Oe 359 #[.pointer (some ⟨g,0,none⟩),v] w λe y=>e=.returned (.int .u32 (Iy bs))/\w=y:=by
 have F:=ay (ID g 0 v bs w h z x);clear h z
 go_in
 go_upto_region 1 with fail
 go_wp2_with (go_at_call 413;refine(F.o).mono ?_;rintro e y ⟨rfl,rfl⟩)
 go_ret;exact⟨rfl,rfl⟩
def UO:Tryz.zeroCells459=((nT 0).map (Value.int .u32)).toArray:=by kernel_rfl
def BO(w:World):ar Oe 293 #[] w λe v=>∃g,e=.returned (.pointer (some ⟨g,0,none⟩))/\Ci 256 v g/\w.heap.size<=g/\aq w v:=by
 go_in
 go_upto_region 3 with fail;rw[UO];have x:aq w (w.alloc (.cells ((nT 0).map (Value.int .u32)).toArray 459)):=bw;have C:=ay (IB w.heap.size (w.alloc (.cells ((nT 0).map (Value.int .u32)).toArray 459)) (gN.new _ _ _));generalize w.alloc (.cells ((nT 0).map (Value.int .u32)).toArray 459)=r at *
 go_wp2_with fail;refine(C.o).mono ?_
 rintro e s ⟨rfl,z,y⟩;have t:aq w s:=x.trans (y.below (λk u=>by rw[show k=_ from u];exact aD _) x.size)
 have u:=ay z;clear z y
 go_wp2
 go_ret;exact⟨_,rfl,u.o,aD _,t⟩
def wG(K:Nat)(n:Int):List Int:=(List.range K).map (λi:Nat=>n / 2 ^ (8 * i) % 256)
def qe(K:Nat)(n:Int):ao (wG K n)=K:=by simp[wG]
def LC{K:Nat}(n:Int)(h:j<K):(wG K n)[j]?=some (n / 2 ^ (8 * j) % 256):=by simp[wG,h]
def Se:FL 3 119 4:=xw 3 119 4 ab
def IE(g z K:Nat)(n:Int)(bs:List Int)(w:World)(h:Wr 373 z w g bs)(n0:0<=n)(n1:n<18446744073709551616)(x:K<=8)(hl:ao bs<=1000000000000) :
 ar Oe 401 #[.pointer (some ⟨g,0,none⟩),.int .u64 n,.int .i64 K] w λe u=>e=.returned (.tuple #[])/\Wr 373 z u g (bs++wG K n)/\Below z w u:=by
 have H:=ay h;have hlt:=h.lt;clear h
 go_in
 go_wp2
 go_loopg [6,8] K (λq _ i wr=>∃j:Nat,q=K - j/\j<=K/\i=.int .i64 (j:Int)/\Hid (Wr 373 z wr g (bs++(wG K n).take j))/\Below z w wr)
 exact⟨0,rfl,aa,rfl,by rw[cY,bT];exact H,aC _ _⟩
 case round=>
  obtain⟨j,y,hj,rfl,M,c⟩:=hrel;have I:=ay y;have hz:=c.size;clear y
  by_cases B:j<K
  ·have hji:(j:Int)<(K:Int):=aa
   obtain⟨s,p⟩:=au (8 * j);have Tp:s<64:=aa
   have L:Hid (IntKind.i64.wrap (8 * (j:Int))=(s:Int)):=ay ai
   have t:(wG K n)[j]?=some (n / 2 ^ s % 256):=by rw[LC n B,p]
   have G:IntKind.u8.wrap (n / 2 ^ s)=n / 2 ^ s % 256:=rfl;obtain⟨y,v⟩:=au (n / 2 ^ s % 256);rw[v] at t G;have J:Hid ((wG K n).take (j+1)=(wG K n).take j++[y]):=ay (by rw[List.take_add_one,t];rfl)
   clear v;obtain⟨D,v,r,q⟩:=M.o;have X:=ay r;have U:=ay q;have C:ao (bs++(wG K n).take j)+1<=1099511627776:=by
    have f:=qe K n;rw[aE,aU];omega
   clear r q p t;have hsI:(s:Int)<64:=aa
   have Y:gN wr.drew g 373 #[v]:=X.o.drew;generalize (wG K n).take j=T at *;obtain⟨q,b,O,_,_,_⟩:=(gT.rd U.o).form;obtain⟨f,t⟩:=au (ao (bs++T));rw[t] at O;subst O;have m:=ay t;clear t;have V:Hid (gN (wr.alloc (.cells #[.int .u8 y] 5)).drew g 373 #[.slice q f b]):=ay (X.o.alloc _).drew;have t:Hid (gO bE z (wr.alloc (.cells #[.int .u8 y] 5)).drew (.slice q f b) (bs++T)):=ay (gO.alloc (gX.1 U.o) _).drew;have P:Below z w (wr.alloc (.cells #[.int .u8 y] 5)).drew:=(c.alloc aa _).drew
   go_upto_region 3 with fail;refine ki (λu=>gN u g 373 #[.slice q f b]) 12 (gW 0 10 (ib 10 (ib 11 []))) (Y) ?_
   iterate 10 refine jw (h:=λu r=>by have d:=gN.cell r 0;simp only[aA,az] at d;have es:=L.o;exact Qv) ?_
   refine mg λK x=>?_
   go_simp;refine x _ _ (Y.alloc _) ?_
   clear x K;refine mg λK x=>?_
   refine EX qQ (.tmp 15) (.tmp 21) rfl t.o rfl _ [y] rfl (gO.one (E:=bE) wr.drew y _ rfl _ rfl).rd C ah ?_
   intro v1 A a r _;have p:=ia V.o t.o ab r
   have F:Below z w A:=P.grown r (by have:=P.size;omega) (λk S=>(gO.lt t.o k S).1)
   have S:=ay (nG (i:=0) V.o t.o ab r a)
   obtain⟨l,W,R,_,_,_⟩:=a.form;obtain⟨o,Q⟩:=au (ao (bs++T++[y]));rw[Q] at R;subst R;clear Q a r;refine x _ _ (p) ?_
   clear x K;refine gU ?_
   simp only[bc,bp];have d:=p.k0;have r:=p.frozen 0
   go_wp2_with fail;refine gQ ?_
   go_wp2
   go_roundg (K - (j+1))
   case measure=>have:=I.o;omega
   case rel=>
    refine⟨j+1,rfl,aa,ag,?_,F.setCell aa _⟩
    rw[J.o,<-aO];exact ay ⟨D,_,S.o.1,gX.2 S.o.2⟩
  ·obtain rfl:j=K:=aa
   have y:=M;rw[bj (by rw[qe];exact aD _)] at y
   go_wp2_with fail;refine cp (v:=.tuple #[]) (by simp[results,Tryz.results401,go_sem, *];try rfl) rfl ?_
   exact⟨rfl,y.o,c⟩
def BP(w:World):ar Oe 275 #[.string ⟨#[119]⟩] w (aw w (.bool true)):=by
 have x:=λw=>ay (ic 3 119 4 w Se)
 go_in
 go_wp2
 go_loopg [11] 1 (λq i wr=>∃j:Nat,q=1 - j/\j<=1/\i=.int .i64 j/\aq w wr)
 exact⟨0,rfl,aa,rfl,aC _ _⟩
 case round=>
  obtain⟨j,y,t,rfl,z⟩:=hrel;have v:=ay y;have s:=z.size;clear y
  rcases(show j=0\/j=1 by omega) with rfl|rfl
  ·go_wp2_with (go_at_call 276;refine((x _).o).mono ?_;rintro e q ⟨rfl,y⟩;have r:=y.size)
   go_roundg 0
   exact⟨1,rfl,aa,ag,bw⟩
   have:=v.o;omega
  ·go_wp2
   go_ret;exact⟨rfl,z⟩
def tf(xa:Int):Nat->List Int
 | 0=>[]
 | _=>wG 4 xa
def IF(z:Int)(j:Nat):ao (tf z j)<=10:=by
 have y:=qe 4 z
 match j with
 | 0=>simp[tf]
 | n+1=>simp only[tf,aE,aJ,aV];omega
def IG(z:Int)(v:Value)(w:World)(r:jf .u64 w v [z])(N:0<=z)(m:z<4294967296) :
 ar Oe 195 #[.string ⟨#[119]⟩,v] w λe f=>∃v,e=.returned (.tuple #[v,.int .i64 0])/\OwnB w.heap.size f v (tf z 1)/\aq w f:=by
 obtain⟨M,L,rfl,R,G,s⟩:=r.form;obtain⟨V,O,rfl,S,y⟩:=s.at_ (j:=0) (by simp)
 simp only[aJ,aV,bn,bZ,bP] at R y |-;have d:=ay y;have t:=λw=>ay (ic 3 119 4 w Se)
 have u:mY 3=401:=rfl;rw[u] at t;have H:∀x w,(callFunc 401 x).run prog w=.ok (.enter 401 x) w:=λ_ _=>rfl
 have b:Hid (tf z 0++(wG 4 z)=tf z 1):=ay rfl;have a:=ay (IF z);have c:Hid (z / 4294967296=0):=ay aa
 clear r s u y
 go_in
 go_wp2_with fail;refine(BP w).mono ?_
 rintro e y ⟨rfl,U⟩;have Q:=U.size
 go_wp2_with fail;obtain⟨g,x⟩:=au (y.heap.size);have s:=ay (Wr.new 373 y w.heap.size Q);have T:aq w (y.alloc (.cells #[.slice none 0 0] 373)):=bw;rw[x] at s |-;generalize y.alloc (.cells #[.slice none 0 0] 373)=B at *;clear x
 go_loopg [25] 1 (λq i wr=>∃j:Nat,q=1 - j/\j<=1/\i=.int .i64 j/\Hid (Wr 373 w.heap.size wr g (tf z j))/\aq w wr)
 exact⟨0,rfl,aa,rfl,s,T⟩
 case round=>
  obtain⟨j,u,F,rfl,q,x⟩:=hrel;have Y:=ay u;have E:=x.size;clear u
  rcases(show j=0\/j=1 by omega) with rfl|rfl
  ·have K:=(x.cell (p:=⟨V,O,none⟩) S).trans d.o
   have J:=c.o;have I:IntKind.i64.wrap 32=32:=rfl
   go_wp2_with (first
    | (go_at_call 276;refine((t _).o).mono ?_;rintro e A ⟨rfl,r⟩;have D:=r.size)
    | (go_at_fn 401;refine((IE g w.heap.size 4 z (tf z 0) _ ((q.o.keep r).keep ((aC _ _).alloc (aD _) _)) N aa  aa (by have:=a.o 0;omega)).mono ?_);rintro e l ⟨rfl,u,P⟩;have C:=P.size;rw[b.o] at u;have X:=ay u;clear u))
   go_roundg 0
   exact⟨1,rfl,aa,ag,X,bw⟩
   have:=Y.o;omega
  ·obtain⟨P,v,u,r⟩:=q.o
   have X:=u.k0;have p:=ay r;clear u r
   go_wp2
   go_ret2
   exact⟨v,rfl,p.o,x⟩
def BQ(w:World):ar Oe 275 #[.string ⟨#[98,98,118]⟩] w (aw w (.bool true)):=by
 have x:=λw=>ay (ic 0 98 1 w J_)
 have s:=λw=>ay (ic 7 118 0 w Nd)
 go_in
 go_wp2
 go_loopg [11] 3 (λq i wr=>∃j:Nat,q=3 - j/\j<=3/\i=.int .i64 j/\aq w wr)
 exact⟨0,rfl,aa,rfl,aC _ _⟩
 case round=>
  obtain⟨j,z,q,rfl,v⟩:=hrel;have y:=ay z;have p:=v.size;clear z
  rcases(show j=0\/j=1\/j=2\/j=3 by omega) with rfl|rfl|rfl|rfl
  ·go_wp2_with (go_at_call 276;refine((x _).o).mono ?_;rintro e t ⟨rfl,z⟩;have u:=z.size)
   go_roundg 2
   exact⟨1,rfl,aa,ag,bw⟩
   have:=y.o;omega
  ·go_wp2_with (go_at_call 276;refine((x _).o).mono ?_;rintro e t ⟨rfl,z⟩;have u:=z.size)
   go_roundg 1
   exact⟨2,rfl,aa,ag,bw⟩
   have:=y.o;omega
  ·go_wp2_with (go_at_call 276;refine((s _).o).mono ?_;rintro e t ⟨rfl,z⟩;have u:=z.size)
   go_roundg 0
   exact⟨3,rfl,aa,ag,bw⟩
   have:=y.o;omega
  ·go_wp2
   go_ret;exact⟨rfl,v⟩
def ld(xa xb xc:Int):Nat->List Int
 | 0=>[]
 | 1=>[xa]
 | 2=>[xa]++[xb]
 | _=>[xa]++[xb]++hZ xc
def x7(y x z:Int)(j:Nat):ao (ld y x z j)<=30:=by
 have v:=gS z
 match j with
 | 0=>simp[ld]
 | 1=>simp only[ld,aE,aJ,aV];omega
 | 2=>simp only[ld,aE,aJ,aV];omega
 | n+3=>simp only[ld,aE,aJ,aV];omega
def II(z y x:Int)(v:Value)(w:World)(d:jf .u64 w v [z,y,x])(W:0<=z)(k:z<256)(h:0<=y)(Vi:y<256)(Tu:0<=x)(Vj:x<18446744073709551616) :
 ar Oe 195 #[.string ⟨#[98,98,118]⟩,v] w λe O=>∃v,e=.returned (.tuple #[v,.int .i64 0])/\OwnB w.heap.size O v (ld z y x 3)/\aq w O:=by
 obtain⟨AA,cn,rfl,m,hc,t⟩:=d.form;obtain⟨X,U,rfl,V,s⟩:=t.at_ (j:=0) (by simp)
 obtain⟨B,n,r,_,q⟩:=t.at_ (j:=1) (by simp)
 simp only[aW,bY,and_true] at r;obtain⟨rfl,rfl⟩:=r;obtain⟨B,n,r,_,p⟩:=t.at_ (j:=2) (by simp)
 simp only[aW,bY,and_true] at r;obtain⟨rfl,rfl⟩:=r;simp only[aJ,aV,bn,bZ,bP] at m s q p |-;have L:=ay s;have K:=ay q;have J:=ay p;have b:=λw=>ay (ic 0 98 1 w J_)
 have g:mY 0=401:=rfl;rw[g] at b;have T:=λw=>ay (ic 7 118 0 w Nd)
 have f:mY 7=405:=rfl;rw[f] at T;have Rt:∀u w,(callFunc 405 u).run prog w=.ok (.enter 405 u) w:=λ_ _=>rfl
 have Ru:∀u w,(callFunc 401 u).run prog w=.ok (.enter 401 u) w:=λ_ _=>rfl
 have G:Hid (ld z y x 0++[z]=ld z y x 1):=ay rfl;have F:Hid (ld z y x 1++[y]=ld z y x 2):=ay rfl;have E:Hid (ld z y x 2++(hZ x)=ld z y x 3):=ay rfl;have a:=ay (x7 z y x);have I:Hid (z / 256=0):=ay aa
 have H:Hid (y / 256=0):=ay aa
 clear d t g f s q p
 go_in
 go_wp2_with fail;refine(BQ w).mono ?_
 rintro e c ⟨rfl,A⟩;have o:=A.size
 go_wp2_with fail;obtain⟨g,u⟩:=au (c.heap.size);have S:=ay (Wr.new 373 c w.heap.size o);have l:aq w (c.alloc (.cells #[.slice none 0 0] 373)):=bw;rw[u] at S |-;generalize c.alloc (.cells #[.slice none 0 0] 373)=w2 at *;clear u
 go_loopg [25] 3 (λq i wr=>∃j:Nat,q=3 - j/\j<=3/\i=.int .i64 j/\Hid (Wr 373 w.heap.size wr g (ld z y x j))/\aq w wr)
 exact⟨0,rfl,aa,rfl,S,l⟩
 case round=>
  obtain⟨j,u,i,rfl,d,q⟩:=hrel;have Y:=ay u;have hz:=q.size;clear u
  rcases(show j=0\/j=1\/j=2\/j=3 by omega) with rfl|rfl|rfl|rfl
  ·have R:=(q.cell (p:=⟨X,U,none⟩) V).trans L.o
   have D:=I.o;have C:IntKind.i64.wrap 8=8:=rfl
   go_wp2_with (first
    | (go_at_call 276;refine((b _).o).mono ?_;rintro e N ⟨rfl,t⟩;have Q:=t.size)
    | (go_at_fn 401;refine((sy g w.heap.size z (ld z y x 0) _ ((d.o.keep t).keep ((aC _ _).alloc (aD _) _)) W k (by have:=a.o 0;omega)).mono ?_);rintro e M ⟨rfl,u,f⟩;have P:=f.size;rw[G.o] at u;have s:=ay u;clear u))
   go_roundg 2
   exact⟨1,rfl,aa,ag,s,bw⟩
   have:=Y.o;omega
  ·have R:=(q.cell (p:=⟨X,U+1,none⟩) V).trans K.o
   have D:=H.o;have C:IntKind.i64.wrap 8=8:=rfl
   go_wp2_with (first
    | (go_at_call 276;refine((b _).o).mono ?_;rintro e N ⟨rfl,t⟩;have Q:=t.size)
    | (go_at_fn 401;refine((sy g w.heap.size y (ld z y x 1) _ ((d.o.keep t).keep ((aC _ _).alloc (aD _) _)) h Vi (by have:=a.o 1;omega)).mono ?_);rintro e M ⟨rfl,u,f⟩;have P:=f.size;rw[F.o] at u;have s:=ay u;clear u))
   go_roundg 1
   exact⟨2,rfl,aa,ag,s,bw⟩
   have:=Y.o;omega
  ·have R:=(q.cell (p:=⟨X,U+2,none⟩) V).trans J.o
   go_wp2_with (first
    | (go_at_call 276;refine((T _).o).mono ?_;rintro e N ⟨rfl,t⟩;have Q:=t.size)
    | (go_at_fn 405;refine((lL g w.heap.size x 0 (ld z y x 2) _ ((d.o.keep t).keep ((aC _ _).alloc (aD _) _)) Tu Vj (by have:=a.o 2;omega)).mono ?_);rintro e M ⟨rfl,u,f⟩;have P:=f.size;rw[E.o] at u;have s:=ay u;clear u))
   go_roundg 0
   exact⟨3,rfl,aa,ag,s,bw⟩
   have:=Y.o;omega
  ·obtain⟨f,v,u,t⟩:=d.o
   have p:=u.k0;have s:=ay t;clear u t
   go_wp2
   go_ret2
   exact⟨v,rfl,s.o,q⟩
def oN:jf .u8 w v l<->iA bE w v l:=by
 unfold jf iA;rw[yL];rfl
def Sf(w:World)(g:Nat)(L:List (List Int)):Prop:=g<w.heap.size/\∀j (h:j<ao L),∃A c,w.cell? ⟨g,j,none⟩=some (.slice A (ao (L[j])) c)/\iA bE w (.slice A (ao (L[j])) c) L[j]
def Sf.keep(h:Sf w g L)(z:aq w w'):Sf w' g L:=
 ⟨aR h.1 z.size,λj v=>by
  obtain⟨A,c,y,x⟩:=h.2 j v;exact⟨A,c,(z.cell (p:=⟨g,j,none⟩) h.1).trans y,x.keep z⟩⟩
def Qh(n:Nat)(w:World)(V:n<=1099511627776) :
 ar Oe 360 #[.slice none 0 0,.int .i64 n] w λe f=>∃v,e=.returned v/\gO bE w.heap.size f v []/\aq w f:=by
 obtain⟨u,q,g,Y,v⟩:=cx bI
 by_cases b:n=0
 ·subst b
  go_in
  go_wp2
  go_ret;exact⟨_,rfl,gO.nil_ _ _,bw⟩
 ·have p:(Builtin.firstCells u.size 0 (.slice none 0 0)).run prog w.drew=.ok #[] w.drew:=run_firstCells_none w.drew u.size 0 0 0
  have x:∀t,(Builtin.append_ #[37,3] t #[.slice none 0 0,.int .i64 (n:Int)]).run prog w =
   .ok (.slice (some ⟨w.heap.size,0,none⟩) n (grownCap w n 0 5)) (w.drew.alloc (.cells (([]:List Value).toArray++Builtin.zeroCells (Value.int .u8 0).cells n++Builtin.zeroCells (Value.int .u8 0).cells (grownCap w n 0 5 - n)) 5)):=λt=>by
   have h:=Lib.run_append_grow_zeros w 37 3 t 5 u _ .i64 .i64 underlying37 underlying3 q g none 0 0 [] p n aa  aa  aa  aa (by rw[v];omega) (growslice_fits aa (by rw[v];omega))
   simpa using h
  have a:n<=grownCap w n 0 5:=grownCap_ge w _ _ _;have z:grownCap w n 0 5<=maxLen:=grownCap_le_maxLen w n 0 5 (by unfold maxLen;omega)
  obtain⟨G,s⟩:=au (grownCap w n 0 5);rw[s] at x a z;obtain⟨Z,y⟩:∃Z:Array Value,(([]:List Value).toArray++Builtin.zeroCells (Value.int .u8 0).cells n++Builtin.zeroCells (Value.int .u8 0).cells (G - n))=Z:=⟨_,rfl⟩;rw[y] at x;have r:Z.size=G * 1:=by
   rw[<-y,dy,dy,size_zeroCells,size_zeroCells];simp only[Value.cells,dx,aJ,aV];omega
  have c:=ay r;have d:=ay z;have X:G<=9223372036854775807:=by unfold maxLen at z;omega
  clear y r s p q g Y v z
  go_in
  go_wp2_with (at_builtin;refine Lib.wpList_append_run _ rfl _ _ _ _ rfl _ _ rfl rfl _ _ (x _) ?_)
  go_ret;refine⟨_,rfl,?_,bw⟩
  exact⟨by simp[cellsE],.inr ⟨w.heap.size,G,Z,rfl,aD _,cm _ _,bB _,d.o,c.o,by simp[cellsE]⟩⟩
def vM(h:i<ao L):(L.take (i+1)).flatten=(L.take i).flatten++L[i]:=by
 rw[aM h,dA];simp
def vN(L:List (List Int))(i:Nat):ao (L.take i).flatten<=ao L.flatten:=by
 have h:L.flatten=(L.take i).flatten++(L.drop i).flatten:=by rw[<-dA,bK]
 rw[h,aE];omega
def LD(g:Nat)(L:List (List Int))(w:World)(h:Sf w g L)(D:ao L<=1000)(m:ao L.flatten<=1000000000) :
 ar Oe 287 #[.slice (some ⟨g,0,none⟩) (ao L) (ao L)] w λe U=>∃v,e=.returned v/\gO bE w.heap.size U v L.flatten/\aq w U:=by
 obtain⟨i0,z,v,x,y⟩:=cx bI;have I:=ay z;have F:=ay v;have G:=ay x;have J:=ay y;clear z v x y;have H:=ay h;clear h
 go_in
 go_wp2
 go_loopg [3,5,11] (ao L) (λq y _ i wr=>(∃j z:Nat,q=ao L - j/\j<=ao L/\i=.int .i64 (j:Int)/\y=.int .i64 (z:Int)/\Hid (ao (L.take j).flatten=z))/\w=wr)
 exact⟨⟨0,0,rfl,aa,rfl,rfl,rfl⟩,rfl⟩
 case round=>
  obtain⟨⟨j,z,t,C,rfl,rfl,b⟩,rfl⟩:=hrel;have r:=ay t;clear t;have n:z<=1000000000:=by have:=vN L j;have:=b.o;omega
  by_cases Y:j<ao L
  ·obtain⟨O,N,c,d⟩:=H.o.2 j Y
   have y:Hid (ao (L.take (j+1)).flatten=z+ao (L[j])):=ay (by rw[vM Y,aE,b.o])
   have p:z+ao (L[j])<=1000000000:=by have:=vN L (j+1);have:=y.o;omega
   obtain⟨x,f⟩:=au (ao (L[j]));rw[f] at c y p;clear d f
   go_wp2
   go_roundg (ao L - (j+1))
   exact⟨⟨j+1,z+x,rfl,aa,ag,ag,y⟩,rfl⟩
   have:=r.o;omega
  ·have B:j=ao L:=aa
   clear r
   go_wp2_with fail;refine(Qh z w aa).mono ?_
   rintro e w1 ⟨h,rfl,u,v⟩;have R:=ay u;have T:=ay v;clear u v
   go_wp2
   go_loopg [6,8,27] (ao L) (λq u _ i v=>∃k:Nat,q=ao L - k/\k<=ao L/\i=.int .i64 (k:Int)/\Hid (gO bE w.heap.size v u (L.take k).flatten)/\Hid (aq w v))
   exact⟨0,rfl,aa,rfl,R,T⟩
   case round=>
    obtain⟨k,t,A,rfl,v,s⟩:=hrel;have r:=ay t;have W:=s.o.size;clear t
    by_cases X:k<ao L
    ·obtain⟨O,N,c,d⟩:=(H.o.keep s.o).2 k X
     have q:=ay d;have y:=ay (vM X);have p:ao (L.take k).flatten+ao (L[k])<=1000000000:=by
      have u:=vN L (k+1);rw[y.o,aE] at u;omega
     obtain⟨l,a⟩:=au (L[k]);rw[a] at c q y p;obtain⟨o,u⟩:=au ((L.take k).flatten);rw[u] at v y p;clear d a u;obtain⟨K,E,rfl,_,_,_⟩:=v.o.form
     go_wp2_with (at_builtin;refine nu qQ rfl (.tmp 31) (.tmp 32) rfl v.o rfl _ l rfl q.o aa  aa ?_;intro i M V a P)
     have S:Hid (aq w M):=ay (s.o.grown a aa (λx f=>(v.o.lt x f).1))
     have Q:=ay V;clear V a P
     go_wp2
     go_roundg (ao L - (k+1))
     exact⟨k+1,rfl,aa,ag,ay (by rw[y.o];exact Q.o),S⟩
     have:=r.o;omega
    ·obtain rfl:k=ao L:=aa
     have u:=v.o;rw[bN] at u;have q:=ay u;clear u v
     go_wp2
     go_ret;exact⟨_,rfl,q.o,s.o⟩
def Qi(l:List Int):0<=Iy l/\Iy l<4294967296:=lS _ _ _
def nU(b:List Int):List Int:=b++wG 4 (Iy b)
def D5(y:Nat)(v:Value)(b:List Int)(w:World)(h:gO bE y w v b)(Q:y<=w.heap.size)(K:ao b<=1000000000) :
 ar Oe 286 #[v] w λe r=>∃u,e=.returned u/\gO bE y r u (nU b)/\Below y w r:=by
 obtain⟨A,k,rfl,_,_,_⟩:=h.form;have H:=ay h;clear h
 go_in
 go_upto_region 1 with fail
 go_wp2_with fail;refine(BO w).mono ?_
 rintro e q ⟨g,rfl,z,_,u⟩;have U:=ay z;have O:=u.size;have T:=ay (H.o.keep u);clear z;have S:=ay (BN g _ b q U.o (oN.2 T.o.rd) aa)
 go_wp2_with fail;refine(S.o).mono ?_
 rintro e r ⟨rfl,rfl⟩;obtain⟨d,a⟩:=Qi b;have p:Hid (nU b=b++wG 4 (Iy b)):=ay rfl;obtain⟨c,z⟩:=au (Iy b);rw[z] at d a p;rw[z];have M:IntKind.u64.wrap c=c:=by rw[g_];omega
 clear z S
 go_upto_region 2 with(fail);have z:aq w (q.alloc (.cells #[.int .u64 c] 36)):=u.alloc O _;refine(IG c _ _ (jf.hJ _ _ q c _ rfl) d a).mono ?_
 rintro e X ⟨s,rfl,Y,x⟩;have t:aq w X:=z.trans (x.mono z.size);have S:Hid (gO bE w.heap.size X s (wG 4 c)):=ay (gO.more (gX.1 Y) z.size);have f:=ay (H.o.keep t);have J:=t.size;have L:=qe 4 c;clear Y x z
 go_wp2_with (at_builtin;refine nu qQ rfl (.tmp 14) (.tmp 15) rfl f.o rfl _ (wG 4 c) rfl S.o.rd aa  aa ?_;intro I N Y z R)
 have V:Hid (Below y w N):=ay ((t.mono Q).grown z aa (λx P=>(f.o.lt x P).1))
 have x:=ay Y;clear Y z R
 go_wp2
 go_ret;exact⟨_,rfl,by rw[p.o];exact x.o,V.o⟩
def vO(k:Int)(t:List Int):List Int:=[81,83,2]++([k]++[0]++hZ (ao t))++t
def lA(k:Int)(t:List Int):List Int:=nU (vO k t)
def BS(k:Int)(l u:Value)(t:List Int)(w:World)(z:jf .u64 w l [k,0,(ao t:Int)])(y:jf .u8 w u t)(K:0<=k)(J:k<256)(D:ao t<=100000000) :
 ar Oe 213 #[.int .u8 2,.string ⟨#[98,98,118]⟩,l,u] w λe T=>∃v,e=.returned (.tuple #[v,.int .i64 0])/\gO bE w.heap.size T v (lA k t)/\aq w T:=by
 obtain⟨A,c,rfl,_,_,_⟩:=z.form;obtain⟨p,f,rfl,_,_,_⟩:=y.form;have P:=ay (II k 0 (ao t) _ w z K J aa  aa  aa  aa)
 have O:=ay y;clear z y
 go_in
 go_wp2_with fail;refine(P.o).mono ?_
 rintro e x ⟨h,rfl,z,v⟩;obtain⟨r,g,rfl,_,_,_⟩:=(gX.1 z).form;have X:=ay (gX.1 z);have B:=v.size;clear z P
 go_upto_region 4 with fail;obtain⟨z,y⟩:=au (ld k 0 (ao t) 3);have Q:=ay y;have F:ao z<=30:=by rw[<-y];exact x7 _ _ _ _
 rw[y] at X |-;clear y;obtain⟨b,Y⟩:=au (x.heap.size);obtain⟨y,s⟩:=au ((x.alloc (.cells #[.int .u8 81,.int .u8 83,.int .u8 2] 5)).alloc (.cells #[.slice (some ⟨b,0,none⟩) 3 3,.slice r (ao z) g,.slice p (ao t) f] 37));have q:aq x y:=by rw[<-s];exact bw
 have m:y.heap.size=b+2:=by rw[<-s,<-Y];simp
 have V:gO bE b y (.slice (some ⟨b,0,none⟩) 3 3) [81,83,2]:=by
  have h:=(gO.lit (E:=bE) x [81,83,2] 5 rfl #[.int .u8 81,.int .u8 83,.int .u8 2] rfl ad).alloc (.cells #[.slice (some ⟨b,0,none⟩) 3 3,.slice r (ao z) g,.slice p (ao t) f] 37)
  rw[s,Y] at h;exact h
 have U:gN y (b+1) 37 #[.slice (some ⟨b,0,none⟩) 3 3,.slice r (ao z) g,.slice p (ao t) f]:=by
  have h:=gN.new (x.alloc (.cells #[.int .u8 81,.int .u8 83,.int .u8 2] 5)) 37 #[.slice (some ⟨b,0,none⟩) 3 3,.slice r (ao z) g,.slice p (ao t) f];rw[s,aI,Y] at h;exact h
 have P:Hid (Sf y (b+1) [[81,83,2],z,t]):=ay ⟨by omega,λj L=>by
  have d:=U.cell j
  rcases(by simp only[aJ,aV] at L;omega:j=0\/j=1\/j=2) with rfl|rfl|rfl
  ·exact⟨_,_,d,V.rd⟩
  ·exact⟨_,_,d,(X.o.keep q).rd⟩
  ·exact⟨_,_,d,oN.1 (O.o.keep (v.trans (q.mono v.size)))⟩⟩
 have R:Hid (vO k t=[[81,83,2],z,t].flatten):=ay (by rw[<-Q.o];simp[vO,ld])
 have a:ao ([[81,83,2],z,t]:List (List Int)).flatten<=1000000000:=af
 have C:=ay (LD (b+1) [[81,83,2],z,t] y P.o ad a)
 have d:aq w y:=v.trans (q.mono v.size);rw[<-R.o] at C a;clear V U q
 go_wp2_with fail;refine(C.o).mono ?_
 rintro e U ⟨I,rfl,V,q⟩;have N:aq w U:=d.trans (q.mono d.size);have S:=ay (D5 y.heap.size I (vO k t) U V q.size a);have G:=ay q;clear V s q
 go_wp2_with fail;refine(S.o).mono ?_
 rintro e H ⟨E,rfl,s,V⟩;have M:aq w H:=N.trans (V.mono d.size);have q:=ay s;clear s
 go_wp2
 go_ret2
 exact⟨_,rfl,gO.more q.o d.size,M⟩
def LF(w:World)(a b c:Int):jf .u64 (w.alloc (.cells #[.int .u64 a,.int .u64 b,.int .u64 c] 36)) (.slice (some ⟨w.heap.size,0,none⟩) 3 3) [a,b,c]:=by
 have h:gT 36 .u64 w.heap.size (w.alloc (.cells #[.int .u64 a,.int .u64 b,.int .u64 c] 36)) (.slice (some ⟨w.heap.size,0,none⟩) 3 3) [a,b,c]:=
  ⟨rfl,.inr ⟨w.heap.size,3,_,rfl,aD _,cm _ _,ad,by unfold maxLen;omega,rfl,ad⟩⟩
 exact h.rd
def yn(k:Int)(u:Value)(t:List Int)(w:World)(z:jf .u8 w u t)(y:1<=k)(r:k<=4)(s:ao t<=1048576) :
 ar Oe 212 #[.int .u8 k,u] w λe x=>e=.returned (.bool true)/\w=x:=by
 obtain⟨A,c,rfl,_,_,_⟩:=z.form;clear z;have z:(ao t:Int)<=1048576:=aa
 have v:k>=1:=y
 go_in
 go_wp2
 go_ret;exact⟨rfl,rfl⟩
def BT(k:Int)(u:Value)(t:List Int)(w:World)(z:jf .u8 w u t)(g:1<=k)(f:k<=4)(p:ao t<=1048576) :
 ar Oe 135 #[.int .u8 k,u,.bool false] w λe y=>∃v,e=.returned (.tuple #[v,.int .i64 0])/\gO bE w.heap.size y v (lA k t)/\aq w y:=by
 have M:=ay (yn k u t w z g f p);obtain⟨A,c,rfl,_,_,_⟩:=z.form;have s:=ay z;have b:IntKind.u64.wrap k=k:=by rw[g_];omega
 have a:IntKind.u64.wrap (ao t:Int)=ao t:=by rw[g_];omega
 clear z
 go_in
 go_wp2_with fail;refine(M.o).mono ?_
 rintro e y ⟨rfl,rfl⟩
 go_wp2_with fail;have z:aq w (w.alloc (.cells #[.int .u64 k,.int .u64 0,.int .u64 (ao t)] 36)):=bw;have L:=LF w k 0 (ao t);refine(BS k _ _ t _ L (s.o.keep z) aa  aa  aa).mono ?_
 rintro e d ⟨Y,rfl,v,x⟩;have q:aq w d:=z.trans (x.mono z.size);have r:=ay v;clear v L x
 go_wp2
 go_ret2
 exact⟨_,rfl,gO.more r.o z.size,q⟩
def jf.sub{off c:Nat}(h:jf .u8 w (.slice (some ⟨g,off,none⟩) (ao l) c) l)(p:a+n<=ao l):jf .u8 w (.slice (some ⟨g,off+a,none⟩) n (c - a)) ((l.drop a).take n):=by
 obtain⟨t,s,e,r,q,u⟩:=(oN.1 h).form;injection e with e1 e2 e3;subst e1;subst e3;have z:ao ((l.drop a).take n)=n:=by rw[aU,aZ];omega
 have y:=(u.drop rfl a).take n;have v:off+a * bE.k=off+a:=by show off+a * 1=_;omega
 rw[v] at y;have x:=iA.jj (c:=c - a) (by rw[z];omega) aa y
 rw[z] at x;exact oN.2 x
def x8(w:World)(h:hM w g bs a)(hlen:ao bs<=1000000000)(T:a+n<=ao bs)(l:0<n) :
 ar Oe 298 #[.pointer (some ⟨g,0,none⟩),.int .i64 n] w λe x=>∃v,e=.returned (.tuple #[v,.int .i64 0])/\gO bE w.heap.size x v ((bs.drop a).take n)/\hM x g bs (a+n)/\Touch (λk=>k=g) w x:=by
 have H:=ay h;have Q:=ay (pP g bs a w h aa)
 have hg:=h.lt;obtain⟨v,z,y,m⟩:=h;obtain⟨E,r,rfl,hk1,hk2,u⟩:=(gT.rd y).form;obtain⟨V,F,rfl,hgb,_⟩:=u.at_ (j:=a) (by omega)
 have D:=ay (gT.rd y);have L:=ay y;have f:=ay z;have I:V≠g:=λe=>by have:=z.t_ y ab ;exact this (by rw[e];rfl)
 have t:=z.k0;have s:=z.k1;have S:=z.frozen 1;have hg1:¬((ao bs:Int) - (a:Int)<(n:Int)):=aa
 have hg2:¬((n:Int)<0):=aa
 have O:Hid (IntKind.i64.wrap ((a:Int)+(n:Int))=((a+n:Nat):Int)):=ay ai
 clear z y u
 go_in
 go_wp2_with fail;refine(Q.o).mono ?_
 rintro e x ⟨rfl,z,rfl⟩;have U:=O.o
 go_upto_region 4 with fail;have d:Hid (hM ((w.drewN z).setCell ⟨g,1,none⟩ (.int .i64 ((a:Int)+(n:Int)))) g bs (a+n)):=ay (by
  have h:=(H.o.drewN z).put (a+n) T
  rwa [dI] at h)
 have u:Hid (Touch (λk=>k=g) w ((w.drewN z).setCell ⟨g,1,none⟩ (.int .i64 ((a:Int)+(n:Int))))):=ay (pf w z g 1 _)
 have c:=ay (jf.sub (a:=a) (n:=n) (gT.rd (OwnB.far (gT.drewN L.o z) (p:=⟨g,1,none⟩) (λe=>I (by injection e)) (.int .i64 ((a:Int)+(n:Int))))) T)
 have Y:Hid (((w.drewN z).setCell ⟨g,1,none⟩ (.int .i64 ((a:Int)+(n:Int)))).cell? ⟨g,0,none⟩=some (.slice (some ⟨V,F,none⟩) (ao bs) r)):=ay (((f.o.drewN z).gR 1 _).cell 0);have X:Hid (((w.drewN z).setCell ⟨g,1,none⟩ (.int .i64 ((a:Int)+(n:Int)))).cell? ⟨g,1,none⟩=some (.int .i64 ((a:Int)+(n:Int)))):=ay (((f.o.drewN z).gR 1 _).cell 1);obtain⟨y,b⟩:=au ((w.drewN z).setCell ⟨g,1,none⟩ (.int .i64 ((a:Int)+(n:Int))));rw[b] at d u c Y X |-;have P:Hid (IntKind.i64.wrap (a:Int)=(a:Int)):=ay ai
 have C:((a:Int)+(n:Int)).toNat=a+n:=aa
 have hc1:¬(r=a):=aa
 have o:(a:Int)+(n:Int)<=(r:Int):=aa
 have W:(a:Int)<=(a:Int)+(n:Int):=aa
 have i:(0:Int)<=(a:Int)+(n:Int):=aa
 have B:a+n - a=n:=aa
 clear b t s S U;refine ki (λx=>x=y.drew) 15 (gW 0 15 []) (rfl) ?_
 iterate 15 refine jw (h:=λx q=>by subst q;have t:y.drew.cell? ⟨g,0,none⟩=_:=Y.o;have s:y.drew.cell? ⟨g,1,none⟩=_:=X.o;have A:=P.o;exact Qv) ?_
 refine gU ?_
 simp only[bc,bp]
 go_wp2_with fail;have q:aq y y.drew:=(aC _ _).drew;have hl4:ao ((bs.drop a).take n)=n:=by rw[aU,aZ];omega
 have b:=jf.keep c.o q;refine(yr _ _ _ b aa).mono ?_
 rintro e R ⟨v5,rfl,S,J⟩;have U:aq y R:=q.trans J;have K:=ay S;have N:=ay (d.o.keep U);have M:Hid (Touch (λk=>k=g) w R):=ay (u.o.trans (Touch.of_below U (aD _)) (λ_ h=>.inl h))
 have G:=u.o.size;clear S b
 go_wp2_with fail;refine gQ ?_
 go_wp2
 go_ret2
 exact⟨_,rfl,gO.more (gX.1 K.o) G,N.o,M.o⟩
def lB(w:World):ar Oe 292 #[.bool true] w λe z=>e=.returned (.tuple #[])/\w=z:=by
 go_in
 go_wp2_with fail;refine cp (v:=.tuple #[]) (by simp[results,Tryz.results292,go_sem, *];try rfl) rfl ?_
 exact⟨rfl,rfl⟩
def kX(w:World)(x r:Nat)(zc k:Int)(pk:Bool)(v:Value):Prop:=gN w x 294 #[.pointer (some ⟨r,0,none⟩),.int .i64 zc,.int .u8 k,.bool pk,v]
def vP{b:Nat}{k c n:Int}(w:World)(z:kX w x r zc k pk v)(y:ar Oe 330 #[.pointer (some ⟨r,0,none⟩),.int .u8 c] w (uT w r bs b (.tuple #[.int .u64 n,.int .i64 0]))) :
 ar Oe 365 #[.pointer (some ⟨x,0,none⟩),.int .u8 c] w (uT w r bs b (.int .u64 n)):=by
 have s:=ay y;have q:=gN.cell z 0;simp only[aA,aB,az] at q;clear z y
 go_in
 go_wp2_with fail;refine(s.o).mono ?_
 rintro e p ⟨rfl,z,y⟩;have u:=ay z;have t:=ay y;clear z y
 go_wp2_with fail;refine(lB _).mono ?_
 rintro e z ⟨rfl,rfl⟩
 go_wp2
 go_ret;exact⟨rfl,u.o,t.o⟩
def kX.touch{k:Int}(h:kX w x r zc k pk v)(z:Touch (λj=>j=r) w w')(y:x≠r):kX w' x r zc k pk v:=(z.block x (gN.lt h) y).trans h
def LG{k:Int}(w:World)(s:kX w x r zc k pk v)(t:hM w r bs a)(U:ao bs<=1000000000)(O:a+n+4=ao bs)(V:0<n)(N:x≠r) :
 ar Oe 366 #[.pointer (some ⟨x,0,none⟩),.int .u64 n] w λe z=>∃u,e=.returned u/\gO bE w.heap.size z u ((bs.drop a).take n)/\hM z r bs (a+n)/\Touch (λk=>k=r) w z:=by
 have y:=λq=>ay (pP r bs a (w.drewN q) (t.drewN q) aa)
 have d:=λq=>ay (x8 (n:=n) (w.drewN q) (t.drewN q) U aa V)
 have X:=gN.cell s 0;simp only[aA,aB,az] at X;have p:((ao bs:Int) - (a:Int))=(n:Int)+4:=aa
 rw[p] at y;have S:IntKind.i64.wrap ((n:Int)+4 - 4)=n:=ai
 have R:IntKind.u64.wrap (n:Int)=n:=by rw[g_];omega
 have Q:IntKind.i64.wrap (n:Int)=n:=ai
 have P:(4:Int)<=(n:Int)+4:=aa
 clear s t p
 go_in
 go_wp2_with fail;refine((y 0).o).mono ?_
 rintro e T ⟨rfl,q,rfl⟩
 go_wp2_with fail;refine((y q).o).mono ?_
 rintro e T ⟨rfl,p,rfl⟩
 go_wp2_with fail;refine(lB _).mono ?_
 rintro e z ⟨rfl,rfl⟩
 go_wp2_with fail;refine((d (q+p)).o).mono ?_
 rintro e f ⟨u,rfl,s,t,g⟩;have b:Hid (gO bE w.heap.size f u ((bs.drop a).take n)):=ay s;have c:=ay t;have Y:Hid (Touch (λk=>k=r) w f):=ay (((Touch.refl _ w).drewN (q+p)).trans g (λ_ h=>.inl h))
 clear s t g
 go_wp2_with fail;refine(lB _).mono ?_
 rintro e z ⟨rfl,rfl⟩
 go_wp2
 go_ret;exact⟨_,rfl,b.o,c.o,Y.o⟩
def kX.put{k k':Int}(h:kX w x r zc k pk v):kX (w.setCell ⟨x,2,none⟩ (.int .u8 k')) x r zc k' pk v:=by
 have z:=gN.gR h 2 (.int .u8 k')
 simpa[kX] using z
def kX.text{k:Int}{u:Value}(h:kX w x r zc k pk v):kX (w.setCell ⟨x,4,none⟩ u) x r zc k pk u:=by
 have z:=gN.gR h 4 u
 simpa[kX] using z
def kX.UP{Qj k:Int}(h:kX w x r zc k pk v):kX (w.setCell ⟨x,1,none⟩ (.int .i64 Qj)) x r Qj k pk v:=by
 have z:=gN.gR h 1 (.int .i64 Qj)
 simpa[kX] using z
section
variable {k : Int} {t : List Int}
def pG(k:Int)(t:List Int):lA k t=81::83::2::k::0::(hZ (ao t)++(t++wG 4 (Iy (vO k t)))):=by simp[lA,nU,vO]
def FO(k:Int)(t:List Int):ao (lA k t)=5+ao (hZ (ao t))+ao t+4:=by
 rw[pG];simp only[aJ,aE,qe];omega
def Qk:(lA k t).drop 3=k::0::(hZ (ao t)++(t++wG 4 (Iy (vO k t)))):=by rw[pG];rfl
def Ql:(lA k t).drop (3+1)=0::(hZ (ao t)++(t++wG 4 (Iy (vO k t)))):=by rw[pG];rfl
def LH:(lA k t).drop (3+1+1)=hZ (ao t)++(t++wG 4 (Iy (vO k t))):=by rw[pG];rfl
def Qm:((lA k t).drop (3+1+1+ao (hZ (ao t)))).take (ao t)=t:=by
 rw[<-dU,LH,List.drop_left,gn]
end
def LI{x r:Nat}{zc k0 k lim:Int}{v0:Value}{t:List Int}(w:World)(y:kX w x r zc k0 false v0)(u:hM w r (lA k t) 3)(q:oc (lA k t))(z:x≠r)(J:0<=k)(I:k<256)(G:0<ao t)(W:ao t<=1000000)(H:(ao t:Int)<=lim)(m:lim<=1048576) :
 ar Oe 297 #[.pointer (some ⟨x,0,none⟩),.int .i64 lim] w λe p=>e=.returned (.tuple #[])/\∃v,kX p x r zc k false v/\gO bE w.heap.size p v t/\Touch (λj=>j=x\/j=r) w p:=by
 have g:=FO k t;have o:=gS (ao t:Int);have Q:=ay (vP w y (xA w u aa Qk J I))
 have P:=ay y;have i:=gN.lt y;have O:=ay q;have D:IntKind.u8.wrap k=k:=by show k % 256=k;omega
 have C:IntKind.u64.wrap lim=lim:=by rw[g_];omega
 have s:=ay g;clear y u q g
 go_in
 go_wp2_with fail;refine(Q.o).mono ?_
 rintro e b ⟨rfl,d,u⟩;have y:=P.o.touch u z;have g:=ay (y.put (k':=k));have Y:=gN.frozen y 2;have f:=gN.cell y 2;simp only[aA,aB,az] at f;have V:Hid (hM (b.setCell ⟨x,2,none⟩ (.int .u8 k)) r (lA k t) (3+1)):=ay (by
  obtain⟨v,c,q,a⟩:=d;exact⟨v,c.far (λe=>z e.symm) _,q.far (λe=>(gN.t_ y q ab) e) _,a⟩)
 have U:Hid (Touch (λj=>j=x\/j=r) w (b.setCell ⟨x,2,none⟩ (.int .u8 k))):=ay ((u.mono (λ_ h=>.inr h)).setCell (.inl (.inl rfl)) _)
 clear d u y
 go_upto_region 1 with fail;obtain⟨R,y⟩:=au (b.setCell ⟨x,2,none⟩ (.int .u8 k));rw[y] at g V U |-;clear y Y f;have u:=ay (vP R g.o (xA R V.o (by have:=s.o;omega) Ql aa  aa))
 go_wp2_with fail;refine(u.o).mono ?_
 rintro e a ⟨rfl,q,y⟩;have X:=ay (g.o.touch y z);have d:=ay (vP a X.o (GV a q O.o (by have:=s.o;omega) LH aa  aa))
 have M:Hid (Touch (λj=>j=x\/j=r) w a):=ay (U.o.trans y (λ_ h=>.inl (.inr h)))
 clear q y u
 go_wp2_with fail;refine(d.o).mono ?_
 rintro e q ⟨rfl,u,y⟩;have f:=ay (X.o.touch y z);have T:Hid (Touch (λj=>j=x\/j=r) w q):=ay (M.o.trans y (λ_ h=>.inl (.inr h)))
 have Y:=ay (LG (n:=ao t) q f.o u (by have:=s.o;omega) (by have:=s.o;omega) G z)
 rw[Qm] at Y;clear u y d;have l:decide ((ao t:Int)<=lim)=true:=cz H
 go_wp2_with fail;refine(lB _).mono ?_
 rintro e p ⟨rfl,rfl⟩
 go_wp2_with fail;refine(Y.o).mono ?_
 rintro e E ⟨u,rfl,S,_,c⟩;have y:=f.o.touch c z;have N:=ay y;have d:=ay S;have L:Hid (Touch (λj=>j=x\/j=r) w E):=ay (T.o.trans c (λ_ h=>.inl (.inr h)))
 have B:=gN.frozen y 4;have K:=gN.cell y 4;simp only[aA,aB,az] at K;have F:=T.o.size;clear S c y;obtain⟨A,c,rfl,_,_,_⟩:=d.o.form
 go_wp2;refine bodyPost_ret (results_none rfl _ _ _) rfl ?_
 refine⟨rfl,_,N.o.text,gO.more (d.o.far (λe=>?_) _) F,L.o.setCell (.inl (.inl rfl)) _⟩
 have:=(d.o.lt _ e).1;have S:x<q.heap.size:=gN.lt f.o;have y:q.heap.size<=x:=this;omega
end D
end Go.Proofs.YtdicblkhpcphfaaGreat
