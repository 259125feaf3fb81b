/- Parts. No condition. -/
import Derived.Test.YtdicblkhpcphfaaGreatPA36
set_option maxRecDepth 100000
set_option maxHeartbeats 0
set_option linter.all false
namespace Go.Proofs.YtdicblkhpcphfaaGreat
open Tryz Go.RowKit Go.Lib Go.Shelf
open _root_.List renaming length→ao
open _root_.Go renaming Calls→ar
open Tryz renaming prog→Oe
namespace D
variable{l:List Pr}{j:Nat}{r:Int}
def Cb(u m v:Nat)(w:World)(g:u+m<=62)(X:1<=m)(f:v<9223372036854775808) :
 ar Oe 145 #[.int .i64 u,.int .i64 m,.int .i64 v] w λe x=>e=.returned (.tuple #[.int .i64 (oJ u m v),.int .i64 ((2 ^ (im u m v+u):Nat):Int)])/\w=x:=by
 have d:=ay (lO u m v w g f);have t:Hid (oJ u m v=v / 2 ^ (im u m v+u) * 2 ^ (im u m v+u)):=ay rfl;have z:=xt u m v;have y:=(FU (v:=v) g X f).2;rw[t.o] at z |-;generalize im u m v=b at *;obtain⟨s,p⟩:=au (b+u);rw[p] at z y |-;have c:=ay (kv s w aa)
 have V:IntKind.i64.wrap ((u:Int)+(b:Int))=(s:Int):=ai
 have q:2 ^ s<=2 ^ 62:=jW y;have Q:=bR s;generalize 2 ^ s=P at *;have L:P<=4611686018427387904:=q;have a:(v:Int).tdiv (P:Int)=((v / P:Nat):Int):=by rw[cK aa];rfl
 have Y:((v / P:Nat):Int) * (P:Int)=((v / P * P:Nat):Int):=ad
 have M:v / P<=v:=dz ..;generalize v / P=k at *;obtain⟨K,r⟩:=au (k * P);rw[r] at z Y |-;have O:((P:Int) == 0)=false:=af
 have S:IntKind.i64.wrap (P:Int)=(P:Int):=ai
 have U:IntKind.i64.wrap (K:Int)=(K:Int):=ai
 have T:wrap64 (K:Int)=(K:Int):=by unfold wrap64;omega
 have R:IntKind.i64.wrap (k:Int)=(k:Int):=ai
 have N:(v:Int) / (P:Int)=(k:Int):=by rw[<-a,cK aa]
 clear t y p q r
 go_in
 go_wp2_with fail;refine(d.o).mono ?_
 rintro e x ⟨rfl,rfl⟩
 go_wp2_with fail;refine(c.o).mono ?_
 rintro e x ⟨rfl,rfl⟩
 go_wp2
 go_ret2
 exact⟨rfl,rfl⟩
def zk(u m v:Nat)(w:World)(hu:u+m<=62)(m0:1<=m)(m1:m<=18)(N:v<9223372036854775808) :
 ar Oe 144 #[.int .i64 u,.int .i64 m,.int .i64 (kh u m v)] w λe L=>e=.returned (.tuple #[.int .i64 (oJ u m v),.bool true])/\w=L:=by
 have s:=ku (u:=u) (m:=m) N;have y:=xr (u:=u) (m:=m) (v:=v) aa
 have V:2 ^ (m - 1)<=2 ^ 17:=jW aa
 have Y:=ay (kv (m - 1) w aa)
 have t:im u m v<=63:=aa
 have f:Hid (kh u m v=im u m v * 2 ^ (m - 1)+p8 u m v):=ay rfl;have x:Hid (oJ u m v=p8 u m v * 2 ^ (im u m v+u)):=ay rfl;have z:=AD (u:=u) (m:=m) (v:=v) aa  aa
 have r:=xt u m v;have hs:=(FU (v:=v) hu m0 N).2;unfold Pw at z;rw[Az aa] at y
 have a:=bR (m - 1);have X:kh u m v<66 * 2 ^ (m - 1):=by
  rw[f.o];have:im u m v * 2 ^ (m - 1)<=63 * 2 ^ (m - 1):=cd _ t;omega
 have P:kh u m v<8650752:=aa
 rw[x.o] at r |-;clear f x s y t;generalize kh u m v=I at *;generalize p8 u m v=c at *;obtain⟨s,y⟩:=au (im u m v+u);rw[y] at r hs |-;have T:Hid (im u m v+u=s):=ay y;clear y;generalize im u m v=b at *;obtain⟨M,rfl⟩:∃M,m=M+1:=⟨m - 1,aa⟩
 simp only[da] at Y z a X V;generalize 2 ^ M=H at *;have F:H<=131072:=V;have g:Hid (∀j,j<=s->c * 2 ^ j<=v/\(j<s->2 * (c * 2 ^ j)<=v)):=ay (λj U=>by
  have d:c * 2 ^ j<=c * 2 ^ s:=eJ _ (jW U);refine⟨by omega,λt=>?_⟩
  have y:c * 2 ^ (j+1)<=c * 2 ^ s:=eJ _ (jW t);rw[b_,<-dB] at y;omega)
 have Q:Hid (∀j,c * 2 ^ (j+1)=2 * (c * 2 ^ j)):=ay (λj=>by rw[b_,<-dB];omega)
 have p:Hid ((I / H=0/\b=0/\c=I % H)\/(I / H=b+1/\c=I % H+H)):=ay (by
  split at z
  ·rename_i x
   injection z with e1 e2;have t:I<H:=(Nat.div_eq_zero_iff_lt a).1 x;exact .inl ⟨x,e1.symm,by rw[Nat.mod_eq_of_lt t];exact e2.symm⟩
  ·rename_i x
   injection z with e1 e2;have:=Nat.pos_of_ne_zero x;exact .inr ⟨by rw[<-e1];exact(Nat.sub_add_cancel this).symm,e2.symm⟩)
 have A:IntKind.i64.wrap (M:Int)=(M:Int):=ai
 have C:IntKind.i64.wrap (H:Int)=(H:Int):=ai
 have B:¬(I:Int)<0:=aa
 have G:¬((66:Int) * (H:Int)<=(I:Int)):=aa
 have E:((H:Int) == 0)=false:=af
 have l:(I:Int).tdiv (H:Int)=((I / H:Nat):Int):=by rw[cK aa];rfl
 have W:(I:Int).tmod (H:Int)=((I % H:Nat):Int):=by rw[eF aa];rfl
 have n:I / H<=I:=dz ..;have h:I % H<H:=fw _ a;have O:=g.o 0 aa
 simp only[gE,c_] at O;clear z r;have K:Hid (∃R,c * 2 ^ s=R/\R<=v):=ay ⟨_,rfl,(g.o s (aD _)).1⟩;generalize I / H=q at *;generalize I % H=r at *;have S:=ay (aF X (aF P p.o));have o:IntKind.i64.wrap ((q:Int) - 1)=(q:Int) - 1:=ai
 have hrw:IntKind.u64.wrap (r:Int)=(r:Int):=by rw[g_];omega
 have D:IntKind.u64.wrap (H:Int)=(H:Int):=by rw[g_];omega
 have k:IntKind.u64.wrap ((r:Int)+(H:Int))=(r:Int)+(H:Int):=by rw[g_];omega
 have z:(I:Int)=((I:Nat):Int):=rfl;clear X p z
 go_in
 go_wp2_with fail;refine(Y.o).mono ?_
 rintro e L ⟨rfl,rfl⟩;clear Y;have hs62:(s:Int)<=62:=aa
 rcases S.o.2.2 with⟨d,y,J⟩|⟨d,y⟩
 subst d;subst y;subst J;have R:IntKind.i64.wrap (u:Int)=(s:Int):=by have:=T.o;rw[aL];omega
 go_wp2_with fail
 rotate_left
 subst d;have R:IntKind.i64.wrap ((b:Int)+(u:Int))=(s:Int):=by have:=T.o;rw[aL];omega
 have hrc:(r:Int)+(H:Int)=(c:Int):=aa
 have hb0:¬((b:Int)<0):=aa
 have hbw:IntKind.i64.wrap (b:Int)=(b:Int):=ai
 clear y
 go_wp2_with fail
 all_goals
  clear S l W D k o A C E B G n h hrw a F V P O
  go_loopg [11,12] s (λq x i wr=>(∃j:Nat,q=s - j/\j<=s/\i=.int .i64 j/\x=.int .u64 ((c * 2 ^ j:Nat):Int))/\w=wr)
  exact⟨⟨0,rfl,aa,rfl,ad⟩,rfl⟩
  case round=>
   obtain⟨⟨j,z,U,rfl,rfl⟩,rfl⟩:=hrel;have p:=ay z;clear z;obtain⟨i,y⟩:=g.o j U;have x:=Q.o j
   by_cases t:j<s
   ·have hji:(j:Int)<(s:Int):=aa
    have t4:=y t;have Y:=ay x;clear y x;generalize c * 2 ^ j=X at *;have z:¬(4611686018427387904<=(X:Int)):=aa
    have hX2:IntKind.u64.wrap (2 * (X:Int))=2 * (X:Int):=by rw[g_];omega
    go_wp2
    go_roundg (s - (j+1))
    exact⟨⟨j+1,rfl,aa,ag,by rw[Y.o];go_num⟩,rfl⟩
    have:=p.o;omega
   ·obtain rfl:j=s:=aa
    clear y x g Q;obtain⟨X,z⟩:=au (c * 2 ^ j);rw[z] at i |-;have f:=ay z;clear z K;have z:IntKind.i64.wrap (X:Int)=(X:Int):=ai
    go_wp2
    go_ret2
    exact⟨by rw[f.o];rfl,rfl⟩
def Cc{y lo hi dg u m bk:Nat}{gr:Bool}{F:Ft}(v:Nat)(w:World)(h:nc y lo hi dg u m gr bk l F w)(ok:iG lo hi dg u m gr bk l)(q:v<9223372036854775808) :
 ar Oe 73 #[.pointer (some ⟨y,0,none⟩),.int .i64 (kh u m v)] w (aw w (.tuple #[.int .i64 (oJ u m v),.int .i64 (hgN u m v)])):=by
 obtain⟨z,f,_⟩:=h;have s:=ok.sh.um;obtain⟨r,Y⟩:=ok.sh.mb;have T:=xt u m v;have X:Hid (∀x,_):=ay (λx=>zk u m v x s r Y q)
 have d:Hid (∀x,_):=ay (λx=>Cb u m (oJ u m v) x s r aa)
 have x:=Oy (u:=u) (m:=m) (v:=v) aa  aa
 have c:oJ u m (oJ u m v)=oJ u m v:=by
  show oJ u m v / 2 ^ (im u m (oJ u m v)+u) * 2 ^ (im u m (oJ u m v)+u)=_
  rw[x];show p8 u m v * 2 ^ (im u m v+u) / 2 ^ (im u m v+u) * 2 ^ (im u m v+u)=p8 u m v * 2 ^ (im u m v+u)
  rw[Nat.mul_div_cancel _ (bR _)]
 rw[c,x] at d;obtain⟨V,a⟩:=FU (v:=v) s r q;have g:Hid (hgN u m v=oJ u m v+(2 ^ (im u m v+u) - 1)):=ay rfl;have b:2 ^ (im u m v+u)<=2 ^ 62:=jW a;have U:=bR (im u m v+u);rw[g.o] at V |-;generalize 2 ^ (im u m v+u)=P at *;have S:P<=4611686018427387904:=b;have t:=ay f;clear f ok s r Y q c x a g b;generalize oJ u m v=L at *;have b:IntKind.i64.wrap ((P:Int) - 1)=(P:Int) - 1:=ai
 have a:IntKind.i64.wrap ((L:Int)+((P:Int) - 1))=(L:Int)+((P:Int) - 1):=ai
 have x:((L+(P - 1):Nat):Int)=(L:Int)+((P:Int) - 1):=aa
 rw[x];have g:aq w w.drew:=(aC _ _).drew;have f:aq w w.drew.drew:=g.drew;clear x
 go_in
 go_wp2_with fail;refine i' (aq w) (gW 0 9 (ib 9 (gW 10 5 []))) (g) ?_
 iterate 9 refine hC (h:=λp x=>by have s:=(t.o.keep x).cell 3;have r:=(t.o.keep x).k4;simp only[aA,az,aB] at s;exact Qv) ?_
 refine iy λK q=>?_
 go_simp;refine(X.o w.drew).mono ?_
 rintro e c ⟨rfl,rfl⟩;refine q _ _ (g) ?_
 clear q K
 iterate 5 refine hC (h:=λp x=>by have s:=(t.o.keep x).cell 3;have r:=(t.o.keep x).k4;simp only[aA,az,aB] at s;exact Qv) ?_
 refine gM ?_
 go_wp2_with fail;refine i' (aq w) (gW 0 9 (ib 9 (gW 10 5 []))) (f) ?_
 iterate 9 refine hC (h:=λp x=>by have s:=(t.o.keep x).cell 3;have r:=(t.o.keep x).k4;simp only[aA,az,aB] at s;exact Qv) ?_
 refine iy λK q=>?_
 go_simp;refine(d.o w.drew.drew).mono ?_
 rintro e c ⟨rfl,rfl⟩;refine q _ _ (f) ?_
 clear q K
 iterate 5 refine hC (h:=λp x=>by have s:=(t.o.keep x).cell 3;have r:=(t.o.keep x).k4;simp only[aA,az,aB] at s;exact Qv) ?_
 refine gM ?_
 go_wp2
 go_ret2
 exact⟨rfl,f⟩
def zl(z:j<ao l)(t:Int):jt (l.take (j+1)) t=jt (l.take j) t+(if l[j].1<t then l[j].2 else 0):=by
 rw[aM z];unfold jt;rw[eh,List.sum_append];simp
def Eu(z:iu l)(j:Nat)(t:Int):0<=jt (l.take j) t/\jt (l.take j) t<=tot l:=by
 have h:=lo_le (l:=l.take j) (λp h=>z p (cB h)) (cR t)
 have:=(iV z j).2;omega
def oG(v:Value)(k:Int)(p:Bool)(l:List Pr)(w:World)(h:iA il w v l)(x:iu l)(N:tot l<=9223372036854775807)(O:ao l<=1000000000) :
 ar Oe 84 #[v,.int .i64 k,.bool p] w λe U=>e=.returned (.int .u64 (jt l (if p=true then k+1 else k)))/\w=U:=by
 obtain⟨A,c,rfl,_,_,y⟩:=h.form;have a:=ay y;obtain⟨t,z⟩:∃t,(if p=true then k+1 else k)=t:=⟨_,rfl⟩
 have f:=ay z;rw[z];have d:Hid (∀j,0<=jt (l.take j) t/\jt (l.take j) t<=9223372036854775807):=ay (λj=>by have:=Eu x j t;omega)
 clear h y x z
 go_in
 go_wp2
 go_loopg [7,8] (ao l) (λq s x wr=>(∃j:Nat,q=ao l - j/\j<=ao l/\x=.int .i64 j/\s=.int .u64 (jt (l.take j) t))/\w=wr)
 exact⟨⟨0,rfl,aa,rfl,rfl⟩,rfl⟩
 case round=>
  obtain⟨⟨j,z,Q,rfl,rfl⟩,rfl⟩:=hrel;have r:=ay z;clear z
  by_cases b:j<ao l
  ·obtain⟨g,M,rfl,R,T,S⟩:=j7 a.o b
   have z:=ay (zl b t);have Y:=d.o j;have u:=d.o (j+1);rw[z.o] at u;have P:(j:Int)<(ao l:Int):=aa
   obtain⟨s,y⟩:=au (jt (l.take j) t);rw[y] at z Y u |-;clear y;generalize l[j].1=x at *;generalize l[j].2=n at *
   rcases el x k with q|q|q
   ·have y:x<t:=by have:=f.o;split at this<;>omega
    rw[aH y] at z u
    go_wp2
    go_roundg (ao l - (j+1))
    exact⟨⟨j+1,rfl,aa,ag,by rw[z.o]⟩,rfl⟩
    have:=r.o;omega
   ·have X:(x == k)=true:=by simpa using q
    have V:¬x<k:=aa
    cases p
    ·have y:¬x<t:=by have:=f.o;simp at this;omega
     rw[aG y] at z u;clear q
     go_wp2
     go_roundg (ao l - (j+1))
     exact⟨⟨j+1,rfl,aa,ag,by rw[z.o,dJ]⟩,rfl⟩
     have:=r.o;omega
    ·have y:x<t:=by have:=f.o;simp at this;omega
     rw[aH y] at z u;clear q
     go_wp2
     go_roundg (ao l - (j+1))
     exact⟨⟨j+1,rfl,aa,ag,by rw[z.o]⟩,rfl⟩
     have:=r.o;omega
   ·have X:(x == k)=false:=b9.2 aa
    have V:¬x<k:=aa
    have y:¬x<t:=by have:=f.o;split at this<;>omega
    rw[aG y] at z u
    cases p
    ·go_wp2
     go_roundg (ao l - (j+1))
     exact⟨⟨j+1,rfl,aa,ag,by rw[z.o,dJ]⟩,rfl⟩
     have:=r.o;omega
    ·go_wp2
     go_roundg (ao l - (j+1))
     exact⟨⟨j+1,rfl,aa,ag,by rw[z.o,dJ]⟩,rfl⟩
     have:=r.o;omega
  ·obtain rfl:j=ao l:=aa
   rw[bj (aD _)]
   go_wp2
   go_ret;exact⟨rfl,rfl⟩
def Mf(l:List Pr)(r:Int):Int:=((l.find? λp=>decide (r<=jt l (p.1+1))).map Prod.fst).getD 0
def Mg(v:j<ao l)(y:∀t (z:t<ao l),t<j->¬r<=jt l (l[t].1+1))(x:r<=jt l (l[j].1+1)):Mf l r=l[j].1:=by
 have h:l.find? (λp=>decide (r<=jt l (p.1+1)))=some l[j]:=by
  rw[List.find?_eq_some_iff_getElem];exact⟨by simpa using x,j,v,rfl,λt z=>by simpa using y t aa z⟩
 unfold Mf;rw[h];rfl
def Mh(y:∀t (z:t<ao l),¬r<=jt l (l[t].1+1)):Mf l r=0:=by
 have h:l.find? (λp=>decide (r<=jt l (p.1+1)))=none:=by
  rw[List.find?_eq_none];intro p x;obtain⟨t,z,rfl⟩:=cE x
  simpa using y t z
 unfold Mf;rw[h];rfl
def vS(v:Value)(r:Int)(l:List Pr)(w:World)(h:iA il w v l)(x:iu l)(z:tot l<=9223372036854775807)(X:ao l<=1000000000) :
 ar Oe 74 #[v,.int .u64 r] w λe V=>e=.returned (.int .i64 (Mf l r))/\w=V:=by
 have f:Hid (∀k,_):=ay (λk=>oG v k true l w h x z X)
 obtain⟨A,c,rfl,_,_,y⟩:=h.form;have a:=ay y;clear h y x
 go_in
 go_wp2
 go_loopg [5] (ao l) (λq x wr=>(∃j:Nat,q=ao l - j/\j<=ao l/\x=.int .i64 j/\Hid (∀t (z:t<ao l),t<j->¬r<=jt l (l[t].1+1)))/\w=wr)
 exact⟨⟨0,rfl,aa,rfl,ay (λt _ h=>absurd h aa)⟩,rfl⟩
 case round=>
  obtain⟨⟨j,u,R,rfl,y⟩,rfl⟩:=hrel;have Y:=ay u;clear u
  by_cases d:j<ao l
  ·obtain⟨g,P,rfl,S,U,T⟩:=j7 a.o d
   have Q:(j:Int)<(ao l:Int):=aa
   have q:=ay (λ(p:r<=jt l (l[j].1+1))=>Mg d y.o p)
   have u:=ay (λ(s:jt l (l[j].1+1)<r) t (z:t<ao l) (b:t<j+1)=>show ¬r<=jt l (l[t].1+1) by
    rcases bg t j with h|h
    ·exact y.o t z h
    ·obtain rfl:t=j:=aa
     omega)
   have C:=ay (f.o l[j].1);simp only[if_true] at C;generalize l[j].1=x at *;clear y f
   go_wp2_with fail;refine(C.o).mono ?_
   rintro e O ⟨rfl,rfl⟩;obtain⟨s,b⟩:=au (jt l (x+1));rw[b] at q u |-;clear b
   by_cases p:r<=s
   ·have E:=ay (q.o p)
    clear q u C
    go_wp2
    go_ret;exact⟨by rw[E.o];rfl,rfl⟩
   ·have y:=ay (u.o aa)
    clear q u C
    go_wp2
    go_roundg (ao l - (j+1))
    exact⟨⟨j+1,rfl,aa,ag,y⟩,rfl⟩
    have:=Y.o;omega
  ·obtain rfl:j=ao l:=aa
   have E:=ay (Mh (λt z=>y.o t z z))
   go_wp2
   go_ret;exact⟨by rw[E.o];rfl,rfl⟩
def Qr(q:iE l)(h:r<=tot l):Mf l r=(if ao l=0 then 0 else ky l r):=by
 by_cases x:ao l=0
 ·rw[aH x,Mh (λt z=>by omega)]
 rw[aG x];have hcut:∀(t:Nat) (z:t<ao l),jt l (l[t].1+1)=tot (l.take (t+1)):=λt z=>
  (sO (i:=t+1) (k:=l[t].1+1) aa (λs y v=>by have:=Ec q (show s<=t by omega) z;omega) (λs y v=>by have:=bO.1 q t s z y aa ;omega)).symm
 obtain⟨j,y,v,u⟩:∃j,j<ao l/\r<=tot (l.take (j+1))/\∀t,t<j->¬r<=tot (l.take (t+1)):=by
  have p:∃n,n<ao l/\r<=tot (l.take (n+1)):=⟨ao l - 1,aa,by rw[bj aa];exact h⟩
  obtain⟨n,g,f⟩:=p
  induction n using Nat.strongRecOn with
  | _ n ih=>
   by_cases s:∃t,t<n/\r<=tot (l.take (t+1))
   ·obtain⟨t,z,d⟩:=s
    exact ih t z aa d
   ·exact⟨n,g,f,λt z d=>s ⟨t,z,d⟩⟩
 rw[Mg y (λt z s=>by rw[hcut t z];exact u t s) (by rw[hcut j y];exact v),FQ l r j y u v]
def Ev(v:Value)(m:Nat)(r:Int)(l:List Pr)(w:World)(h:iA il w v l)(d:iE l)(x:iu l)(c:tot l<=4611686018427387904)(R:0<m)(M:m<=1000000)(N:ao l<=1000000000) :
 ar Oe 75 #[v,.int .i64 m,.int .u64 r] w λe y=>e=.returned (.tuple #[.int .i64 (Mf (gV m l).1 r),.bool (decide (0<(gV m l).2) && decide (Mf (gV m l).1 r=jY (gV m l).1))])/\aq w y:=by
 have C:=ay (sq v l m w h x c R M N);obtain⟨Y,f,t,X,H⟩:=pW R d x;have g:Hid (∀z u,iA il u z (gV m l).1->_):=ay (λz u s=>vS z r (gV m l).1 u s f aa  aa)
 have U:Hid (0<(gV m l).2->0<ao (gV m l).1):=ay (λs=>by
  rcases bh (ao (gV m l).1) with z|z
  ·have b:=aN z
   rw[b] at t;have a:ao l=0:=by
    rcases l with _|⟨p,l⟩
    ·rfl
    ·have:=x p (aK ..)
     have:=gP (l:=l) (λq V=>x q (aP _ V))
     simp[tot] at t this;omega
   have q:=aN a;subst q;simp[gV,tot] at s
  ·exact z)
 clear h d x c Y f t X;generalize (gV m l).1=L at *;generalize (gV m l).2=f at *
 go_in
 go_wp2_with fail;refine(C.o).mono ?_
 rintro e u ⟨I,rfl,x,q⟩;have t:=ay (g.o I u x);obtain⟨A,c,rfl,G,F,s⟩:=x.form;have X:=ay s;have O:=ay q;clear C g x s q
 go_wp2_with fail;refine(t.o).mono ?_
 rintro e B ⟨rfl,rfl⟩;clear t;obtain⟨K,x⟩:=au (Mf L r);rw[x];have V:=ay x;clear x;have Y:aq w u.drew:=O.o.drew
 by_cases z:0<f
 ·have Q:=U.o z
  obtain⟨g,D,rfl,E,b,_⟩:=j7 X.o Q;have a:jY L=L[0].1:=by
   rcases L with _|⟨p,L⟩
   ·simp at Q
   ·rfl
  obtain⟨x,P⟩:=au (L[0].1);rw[P] at b a;simp only[db,bP] at b;have q:=cz z;have T:=ay (aF a b);have J:(0:Int)<(ao L:Int):=aa
  obtain⟨d,t⟩:∃d,decide (K=x)=d:=⟨_,rfl⟩;have S:(K == x)=d:=by rw[<-t];by_cases h:K=x<;>simp[h]
  have p:=ay (aF t S);clear P a X U t S
  go_upto_region 3 with fail;refine i' (λy=>y=u.drew) (gW 0 13 []) (rfl) ?_
  iterate 13 refine hC (h:=λy t=>by subst t;have a:=q;have P:=J;have S:=T.o.2;have C:=p.o.2;exact Qv) ?_
  refine gM ?_
  go_wp2;refine an ?_
  refine⟨?_,Y⟩
  rw[V.o,T.o.1,p.o.1,cz z];rfl
 ·have q:=cj z
  go_upto_region 3 with fail;refine i' (λy=>y=u.drew) (gW 0 13 []) (rfl) ?_
  iterate 4 refine hC (h:=λy t=>by subst t;have a:=q;exact Qv) ?_
  iterate 6 (refine jI ?_;try go_simp)
  iterate 3 refine hC (h:=λy t=>by subst t;have a:=q;exact Qv) ?_
  refine gM ?_
  go_wp2;refine an ?_
  refine⟨?_,Y⟩
  rw[V.o,cj (show ¬0<f by omega)];rfl
def zm{l:List Sp}(m:Value)(k:Int)(w:World)(h:iA (z_ 154) w m l)(i:-(ao l:Int)<=k)(h1:k<=(ao l:Int))(h2:ao l<=2100)(t:∀s∈l,0<=s.mid/\s.mid<=9223372036854775807) :
 ar Oe 76 #[m,.int .i64 k] w λe w'=>∃a b,e=.returned (.agg #[a,.int .i64 (B_ l k),b])/\aq w w':=by
 obtain⟨A,c,rfl,_,_,u⟩:=h.form;obtain⟨z,f⟩:=au (w.heap.size);obtain⟨Y,a⟩:=au (w.alloc (.cells #[.int .i64 0,.int .i64 0,.int .i64 0] 154));have v:aq w Y:=by rw[<-a];exact bw
 have y:gN Y z 154 #[.int .i64 0,.int .i64 0,.int .i64 0]:=by rw[<-a,<-f];exact gN.new _ _ _
 have E:=ay u;have W:=ay t;have x:=ay v;have K:=ay y;obtain⟨Q,P,O⟩:=y.c3;have T:=y.frozen 0;have S:=y.frozen 1;have R:=y.frozen 2;clear h u t v y;have L:Hid (∀(d:World) (v u t y r g:Value),gN d z 154 #[v,u,t]->aq w d->gN (((d.setCell ⟨z,0,none⟩ y).setCell ⟨z,1,none⟩ r).setCell ⟨z,2,none⟩ g) z 154 #[y,r,g]/\aq w (((d.setCell ⟨z,0,none⟩ y).setCell ⟨z,1,none⟩ r).setCell ⟨z,2,none⟩ g)):=ay (λd v u t y r g X V=>by
  have b:w.heap.size<=z:=aa
  exact⟨((X.gR 0 y).gR 1 r).gR 2 g,((V.setCell (p:=⟨z,0,none⟩) b y).setCell (p:=⟨z,1,none⟩) b r).setCell (p:=⟨z,2,none⟩) b g⟩)
 by_cases N:k=0
 ·subst N
  have V:Hid (B_ l 0=0):=ay rfl
  go_in
  go_upto_region 1 with fail;have D:=ay f;try rw[a]
  try rw[f]
  clear a f
  go_wp2_with fail;obtain⟨d,b⟩:=L.o Y _ _ _ (.int .i64 0) (.int .i64 0) (.int .i64 0) K.o x.o;obtain⟨C,B,j⟩:=d.c3;clear Q P O T S R;have U:=ay b;clear d b;refine an ?_
  exact⟨_,_,by rw[V.o],U.o⟩
 ·by_cases I:0<k
  ·obtain⟨n,rfl⟩:∃n:Nat,k=(n:Int)+1:=⟨(k - 1).toNat,aa⟩
   have r:n<ao l:=aa
   obtain⟨g,off,rfl,X,y⟩:=E.o aa
   have v:=(x.o.cell (p:=⟨g,_,none⟩) X).trans (y n r 0 ab)
   have u:=(x.o.cell (p:=⟨g,_,none⟩) X).trans (y n r 1 ab)
   have t:=(x.o.cell (p:=⟨g,_,none⟩) X).trans (y n r 2 ab)
   have h:(n:Int)<(ao l:Int):=aa
   have M:IntKind.i64.wrap ((n:Int)+1 - 1)=(n:Int):=ai
   have V:Hid (B_ l ((n:Int)+1)=l[n].mid):=ay (by
    unfold B_;rw[aG N,aH I,show((n:Int)+1 - 1).toNat=n by omega,aQ r];rfl)
   clear y;generalize l[n]=s at *;simp only[z_,az,aB,bP] at v u t
   go_in
   go_upto_region 1 with fail;have D:=ay f;try rw[a]
   try rw[f]
   clear a f
   go_wp2_with fail;obtain⟨d,b⟩:=L.o Y _ _ _ (.int .i64 s.low) (.int .i64 s.mid) (.int .i64 s.high) K.o x.o;obtain⟨C,B,j⟩:=d.c3;clear Q P O T S R v u t;have U:=ay b;clear d b;refine an ?_
   exact⟨_,_,by rw[V.o],U.o⟩
  ·obtain⟨n,rfl⟩:∃n:Nat,k=-((n:Int)+1):=⟨(-k - 1).toNat,aa⟩
   have r:n<ao l:=aa
   obtain⟨g,off,rfl,X,y⟩:=E.o aa
   have v:=(x.o.cell (p:=⟨g,_,none⟩) X).trans (y n r 0 ab)
   have u:=(x.o.cell (p:=⟨g,_,none⟩) X).trans (y n r 1 ab)
   have t:=(x.o.cell (p:=⟨g,_,none⟩) X).trans (y n r 2 ab)
   have h:(n:Int)<(ao l:Int):=aa
   have hsm:=W.o _ (aX r);have V:Hid (B_ l (-((n:Int)+1))=-(l[n].mid)):=ay (by
    unfold B_;rw[aG N,aG I,show(-(-((n:Int)+1)) - 1).toNat=n by omega,aQ r];rfl)
   clear y;generalize l[n]=s at *;simp only[z_,az,aB,bP] at v u t;obtain⟨k,y⟩:=au (-((n:Int)+1));rw[y] at V i h1 N I |-;have e1:IntKind.i64.wrap (-k)=(n:Int)+1:=ai
   have e2:IntKind.i64.wrap ((n:Int)+1 - 1)=(n:Int):=ai
   have e3:-k=(n:Int)+1:=aa
   have e4:IntKind.i64.wrap (-s.mid)=-s.mid:=ai
   have HKK:=ay y;clear y
   go_in
   go_upto_region 1 with fail;have D:=ay f;try rw[a]
   try rw[f]
   clear a f
   go_upto_region 6 with fail;obtain⟨y,H⟩:=au (Y.heap.size);obtain⟨G,M⟩:=au (Y.alloc (.cells #[.int .i64 s.low,.int .i64 s.mid,.int .i64 s.high] 154));have J:aq Y G:=by rw[<-M];exact bw
   have o:=ay (x.o.trans (J.mono x.o.size));have F:gN G y 154 #[.int .i64 s.low,.int .i64 s.mid,.int .i64 s.high]:=by rw[<-M,<-H];exact gN.new _ _ _
   have q:=ay (K.o.keep J);rw[M,H];clear Q P O T S R v u t M H J;obtain⟨Q,P,O⟩:=q.o.c3;have T:=q.o.frozen 0;have S:=q.o.frozen 1;have R:=q.o.frozen 2;obtain⟨v,u,t⟩:=F.c3;clear F
   go_wp2_with fail;obtain⟨d,b⟩:=L.o G _ _ _ (.int .i64 (wrap64 (-s.high))) (.int .i64 (-s.mid)) (.int .i64 (wrap64 (-s.low))) q.o o.o;obtain⟨C,B,j⟩:=d.c3;have U:=ay b;clear d b Q P O T S R v u t;refine an ?_
   exact⟨⟨_,_,by rw[V.o]⟩,U.o⟩
end D
variable{g j k:Nat}{ans d hi n p sp v x:Int}{P:List Mn}{F:Nat->Prop}{s:St}
def oH{l:List Mn}(h:j<ao l):l.drop j=l[j]::l.drop (j+1):=cr h
structure Ob(hi n sp:Int)(P:List Mn)(ans:Int)(j:Nat)(v p:Int):Prop where
 e:ans=mE hi sp (v,p) (kE hi n (P.drop j) (tot (P.take j)))
 r:lI (v,p) (kE hi n (P.drop j) (tot (P.take j)))
 b:p<=sp
 h:-9223372036854775808<=v
 u:(rg (v,p) (kE hi n (P.drop j) (tot (P.take j)))).1=hi
 p0:0<=p
def Ob.hit(h:Ob hi n sp P ans j v p)(z:j<ao P)(y:sp<2 * tot (P.take j)+P[j].2) :
 v<=P[j].1/\p<2 * tot (P.take j)+P[j].2/\ans=jN v P[j].1 (sp - p) (2 * tot (P.take j)+P[j].2 - p):=by
 obtain⟨e,r,b,_⟩:=h;rw[oH z] at e r;simp only[kE,mE,lI] at e r;rw[aH y] at e;exact⟨r.1,r.2.1,e⟩
def Ob.next(h:Ob hi n sp P ans j v p)(y:j<ao P)(x:¬sp<2 * tot (P.take j)+P[j].2):Ob hi n sp P ans (j+1) P[j].1 (2 * tot (P.take j)+P[j].2):=by
 obtain⟨e,r,b,u,z,t⟩:=h;rw[oH y] at e r z;simp only[kE,mE,lI,rg] at e r z;rw[aG x] at e;rw[<-hQ P j y] at e r z;refine⟨e,r.2.2,aa,aa,z,aa⟩
def Ob.last(h:Ob hi n sp P ans (ao P) v p):v<=hi/\p<2 * n/\(sp<2 * n->ans=jN v hi (sp - p) (2 * n - p))/\(¬sp<2 * n->ans=hi):=by
 obtain⟨e,r,b,_⟩:=h;rw[fe] at e r;simp only[kE,mE,lI] at e r;refine⟨r.1,r.2.1,λz=>?_,λz=>?_⟩
 ·rw[aH z] at e;exact e
 ·rw[aG z] at e;exact e
structure Oc(hi n x:Int)(P:List Mn)(ans:Int)(j:Nat)(v p:Int):Prop where
 e:ans=oI n x (v,p) (kE hi n (P.drop j) (tot (P.take j)))
 r:lI (v,p) (kE hi n (P.drop j) (tot (P.take j)))
 b:v<=x
 p0:0<=p
def Oc.hit(h:Oc hi n x P ans j v p)(z:j<ao P)(y:x<P[j].1) :
 p<2 * tot (P.take j)+P[j].2/\ans=(p+(2 * tot (P.take j)+P[j].2 - p) * (x - v) / (P[j].1 - v)) / 2:=by
 obtain⟨e,r,b,_⟩:=h;rw[oH z] at e r;simp only[kE,oI,lI] at e r;rw[aH y] at e;exact⟨r.2.1,e⟩
def Oc.next(h:Oc hi n x P ans j v p)(z:j<ao P)(y:¬x<P[j].1):Oc hi n x P ans (j+1) P[j].1 (2 * tot (P.take j)+P[j].2):=by
 obtain⟨e,r,b,u⟩:=h;rw[oH z] at e r;simp only[kE,oI,lI] at e r;rw[aG y] at e;rw[<-hQ P j z] at e r;refine⟨e,r.2.2,aa,aa⟩
def Oc.last(h:Oc hi n x P ans (ao P) v p)(z:x<hi):p<2 * n/\ans=(p+(2 * n - p) * (x - v) / (hi - v)) / 2:=by
 obtain⟨e,r,b,_⟩:=h;rw[fe] at e r;simp only[kE,oI,lI] at e r;rw[aH z] at e;exact⟨r.2.1,e⟩
def Mi(u:Int)(w:World)(h:qE w g F d s)(z:Fit d s k)(nn:0<tot (s.L++s.W))(s0:0<=u)(s1:u<=2 * tot (s.L++s.W)) :
 ar Oe 71 #[.pointer (some ⟨g,0,none⟩),.int .u64 u] w λe R=>e=.returned (.int .i64 (Mx s.lo s.hi (jM d (s.L++s.W)) u))/\aq w R:=by
 have H:=ay h;have n1:=z.t;have YK:ao s.L+ao s.W<=100000000:=by have:=z.ok.len;have:=z.k1;omega
 have Qs:ao (s.L++s.W)<=1000000000:=by rw[aE];omega
 have HO:=ay z.ok.ok;have d0:=z.d0;have d1:=z.d1;have wk:=z.ok.wk;have lo1:=z.ok.lo1;have hi0:=z.ok.hi0;have hi1:=z.ok.hi1;obtain⟨v,c,t⟩:=z.VS;obtain⟨b,Y⟩:=tS v c t (z.ne nn);have a:=lf d (s.L++s.W);have r:Ob s.hi (tot (jM d (s.L++s.W))) u (jM d (s.L++s.W)) (Mx s.lo s.hi (jM d (s.L++s.W)) u) 0 s.lo 0:=⟨rfl,b,s0,wk,by rw[bp,cY];exact bq Prod.fst Y,cR _⟩
 have x:=j' d (s.L++s.W);rw[x] at r;generalize Mx s.lo s.hi (jM d (s.L++s.W)) u=Q at *;obtain⟨lv,wv,y,_⟩:=h;have l:=y.lt;have q:=y.k0;have p:=y.k3;have f:=y.k4;have C0:=ay q;have C3:=ay p;have C4:=ay f;have W:=ay r;clear y q p f b Y z r
 go_in
 go_wp2_with fail;have Z:=ay (λ(R:World) (z:aq w R)=>((z.cell (p:=⟨g,0,none⟩) l).trans C0.o))
 refine i' (λR=>aq w R) (gW 0 5 (ib 5 (ib 6 (gW 7 1 [])))) ((aC _ _).drew) ?_
 iterate 5 refine hC ?_
 refine iy λK T=>?_
 go_simp;refine(jx g F d s.lo s.hi s.L s.W _ (oO.keep H.o (aC _ _).drew) aa).mono ?_
 rintro e w1 ⟨v1,rfl,z,hb1⟩;have B:aq w w1:=(aC _ _).drew.trans hb1;have hz1:=B.size;have O1:=ay z;clear z;refine T _ _ (B) ?_
 clear T K;refine iy λK T=>?_
 go_simp;refine(od d v1 (s.L++s.W) w1 O1.o.rd HO.o Qs n1 aa d1).mono ?_
 rintro e o ⟨v2,rfl,z,hb2⟩;have b:aq w o:=B.trans (hb2.mono hz1);have N:=b.size;have O2:=ay z;clear z;refine T _ _ (b) ?_
 clear T K;refine hC ?_
 refine gM ?_
 obtain⟨P,z⟩:=au (jM d (s.L++s.W));rw[z] at O2 W v t a x;clear z c;have I:=ay v;have P3:=ay t;have HT:=ay x;obtain⟨A,c,rfl,na,ma,z⟩:=O2.o.form;have FA:=ay z;have hPl:ao P<=1000000000:=aa
 generalize tot (s.L++s.W)=n at *;have k3:=(b.cell (p:=⟨g,3,none⟩) l).trans C3.o;clear v t x z a
 go_wp2
 go_loopg [6,7,8,9] (ao P+1) (λq t x y i wr=>∃(j:Nat) (v p z:Int),q=ao P+1 - j/\j<=ao P+1/\t=.int .i64 v/\x=.int .u64 p/\y=.int .u64 z/\i=.int .i64 j/\aq o wr /\
  ((j<=ao P/\Hid (Ob s.hi n u P Q j v p)/\Hid (z=tot (P.take j)))\/(j=ao P+1/\Hid (Q=s.hi))))
 exact⟨0,s.lo,0,0,rfl,bB _,rfl,rfl,rfl,rfl,aC _ _,.inl ⟨bB _,W,rfl⟩⟩
 case round=>
  obtain⟨j,v,p,z,y,hj,rfl,rfl,rfl,rfl,r,hcase⟩:=hrel;have i:=ay y;have hz3:=r.size;have k4:=((b.trans (r.mono N)).cell (p:=⟨g,4,none⟩) l).trans C4.o;clear y
  rcases hcase with⟨V2,Y,t⟩|⟨V2,HE⟩
  ·have a1:=Y.o.b
   have a2:=Y.o.h;have a3:=Y.o.p0
   by_cases q:j<ao P
   ·obtain⟨g5,q5,rfl,hg5,e0,e1⟩:=(FA.o.keep r).at_ q
    have S:=I.o P[j] (aX q);have hm1:=S.1;have hm2:=S.2.1;have YL:=S.2.2;have htk:=I.o.pL q;have Qt:=(I.o.mC j).1;rw[HT.o,<-t.o] at htk;rw[<-t.o] at Qt;have zM:Hid (tot (P.take (j+1))=z+P[j].2):=by show _=_;rw[hQ P j q,t.o]
    by_cases a:u<2 * z+P[j].2
    ·have O:=Y.o.hit q (by rw[<-t.o];exact a)
     rw[<-t.o] at O;obtain⟨E,h2,V⟩:=O;have X:=ay V;have L:=nz E (x:=u - p) (y:=2 * z+P[j].2 - p) aa  aa  aa
     have J:=λw=>ay (mH (P[j].1 - v) (u - p) (2 * z+P[j].2 - p) w aa  aa  aa  aa  aa  aa)
     clear V S;generalize P[j]=m at *;have U:wrap64 (IntKind.u64.wrap (IntKind.u64.wrap v+(m.1 - v) * (u - p) / (2 * z+m.2 - p)))=Q:=by
      rw[X.o];unfold jN at *;generalize (m.1 - v) * (u - p) / (2 * z+m.2 - p)=f at *;simp only[g_,wrap64];omega
     have M:=ay U;clear U L;generalize (m.1 - v) * (u - p) / (2 * z+m.2 - p)=f at *;generalize (m.1 - v) * (u - p) % (2 * z+m.2 - p)=f2 at *;have G:IntKind.u64.wrap (IntKind.u64.wrap m.1 - IntKind.u64.wrap v)=m.1 - v:=by simp only[g_];omega
     go_wp2_with fail;refine((J _).o).mono ?_
     rintro e w5 ⟨rfl,C⟩;clear G
     go_wp2
     go_ret;exact⟨ie M.o,(b.trans (r.mono N)).trans (C.mono aa)⟩
    ·have D:=ay (Y.o.next q (by rw[<-t.o];exact a))
     rw[<-t.o] at D;clear S;generalize P[j]=m at *
     go_wp2
     go_roundg (ao P+1 - (j+1))
     exact⟨j+1,m.1,2 * z+m.2,z+m.2,rfl,aa,rfl,rfl,rfl,ag,r,.inl ⟨by omega,D,zM.o.symm⟩⟩
     have:=i.o;omega
   ·have m:j=ao P:=aa
    subst m;have O:=Y.o.last;obtain⟨E,h2,V,D⟩:=O;have S:Hid (z=n):=by show _=_;rw[t.o,bN,HT.o]
    have YM:0<=z/\z<=n:=by rw[S.o];omega
    have YN:n<=z:=by rw[S.o];omega
    by_cases a:u<2 * n
    ·have X:=ay (V a)
     rw[<-S.o] at X h2 a;have L:=nz E (x:=u - p) (y:=2 * z - p) aa  aa  aa
     have J:=λw=>ay (mH (s.hi - v) (u - p) (2 * z - p) w aa  aa  aa  aa  aa  aa)
     clear V D;have U:wrap64 (IntKind.u64.wrap (IntKind.u64.wrap v+(s.hi - v) * (u - p) / (2 * z - p)))=Q:=by
      rw[X.o];unfold jN at *;generalize (s.hi - v) * (u - p) / (2 * z - p)=f at *;simp only[g_,wrap64];omega
     have M:=ay U;clear U L;generalize (s.hi - v) * (u - p) / (2 * z - p)=f at *;generalize (s.hi - v) * (u - p) % (2 * z - p)=f2 at *;have G:IntKind.u64.wrap (IntKind.u64.wrap s.hi - IntKind.u64.wrap v)=s.hi - v:=by simp only[g_];omega
     go_wp2_with fail;refine((J _).o).mono ?_
     rintro e w5 ⟨rfl,C⟩;clear G
     go_wp2
     go_ret;exact⟨ie M.o,(b.trans (r.mono N)).trans (C.mono aa)⟩
    ·have X:=ay (D a)
     rw[<-S.o] at a;clear V D
     go_wp2
     go_roundg (ao P+1 - (ao P+1))
     exact⟨ao P+1,s.hi,2 * z,z,rfl,aa,rfl,rfl,rfl,ag,r,.inr ⟨rfl,X⟩⟩
     have:=i.o;omega
  ·have q:¬j<=ao P:=aa
   clear V2
   go_wp2
   go_ret;exact⟨ie HE.o.symm,b.trans (r.mono N)⟩
def sQ(x:Int)(w:World)(h:qE w g F d s)(z:Fit d s k)(x0:-9223372036854775808<=x)(x1:x<=9223372036854775807) :
 ar Oe 87 #[.pointer (some ⟨g,0,none⟩),.int .i64 x] w (aw w (.int .u64 (jb d s x))):=by
 have H:=ay h;have n0:=z.ok.i7;have n1:=z.t;have YK:ao s.L+ao s.W<=100000000:=by have:=z.ok.len;have:=z.k1;omega
 have Qs:ao (s.L++s.W)<=1000000000:=by rw[aE];omega
 have HO:=ay z.ok.ok;have d0:=z.d0;have d1:=z.d1;have wk:=z.ok.wk;have lo1:=z.ok.lo1;have hi0:=z.ok.hi0;have hi1:=z.ok.hi1;obtain⟨u,Y,t⟩:=z.VS;have a:=lf d (s.L++s.W);have y:=j' d (s.L++s.W);have f:0<tot (s.L++s.W)->s.lo<=x->x<s.hi->Oc s.hi (tot (s.L++s.W)) x (jM d (s.L++s.W)) (jb d s x) 0 s.lo 0:=λnn hl l=>by
  obtain⟨v,r⟩:=tS u Y t (z.ne nn);rw[y] at v;refine⟨?_,v,hl,cR _⟩
  unfold jb sS;rw[y,aG aa,aG aa]
  rfl
 have c:tot (s.L++s.W)=0\/x<s.lo->jb d s x=0:=λh=>Iu aa
 have b:¬(tot (s.L++s.W)=0\/x<s.lo)->s.hi<=x->jb d s x=tot (s.L++s.W):=λh I=>by unfold jb sS;rw[y,aG h,aH I]
 generalize jb d s x=ans at *;obtain⟨lv,wv,v,_⟩:=h;have B:=v.lt;have r:=v.k0;have q:=v.k3;have p:=v.k4;have C0:=ay r;have C3:=ay q;have C4:=ay p;have S:=ay f;have M:=ay c;have W:=ay b;clear v r q p z f c b
 go_in
 go_wp2_with fail;have Z:=ay (λ(U:World) (z:aq w U)=>((z.cell (p:=⟨g,0,none⟩) B).trans C0.o))
 refine i' (λU=>aq w U) (gW 0 5 (ib 5 (ib 6 (gW 7 1 [])))) ((aC _ _).drew) ?_
 iterate 5 refine hC ?_
 refine iy λK X=>?_
 go_simp;refine(jx g F d s.lo s.hi s.L s.W _ (oO.keep H.o (aC _ _).drew) aa).mono ?_
 rintro e w1 ⟨v1,rfl,z,hb1⟩;have D:aq w w1:=(aC _ _).drew.trans hb1;have hz1:=D.size;have O1:=ay z;clear z;refine X _ _ (D) ?_
 clear X K;refine iy λK X=>?_
 go_simp;refine(od d v1 (s.L++s.W) w1 O1.o.rd HO.o Qs n1 aa d1).mono ?_
 rintro e w2 ⟨v2,rfl,z,hb2⟩;have C:aq w w2:=D.trans (hb2.mono hz1);have hz2:=C.size;have N:=ay z;clear z;refine X _ _ (C) ?_
 clear X K;refine hC ?_
 refine gM ?_
 obtain⟨P,z⟩:=au (jM d (s.L++s.W));rw[z] at N S u t a y;clear z Y;have T:=ay u;have P3:=ay t;have Q:=ay y;obtain⟨A,c,rfl,na,ma,z⟩:=N.o.form;have FA:=ay z;have hPl:ao P<=1000000000:=aa
 clear u t y z a
 go_wp2_with fail;have z:=hY _ P w2 N.o.rd T.o (by rw[Q.o];omega)
 rw[Q.o] at z;refine z.mono ?_
 rintro e w3 ⟨rfl,G⟩;clear z;have hz3:=G.size;have u:aq w w3:=C.trans (G.mono hz2);have F3:=ay (FA.o.keep G);have k3:=(u.cell (p:=⟨g,3,none⟩) B).trans C3.o;have k4:=(u.cell (p:=⟨g,4,none⟩) B).trans C4.o;generalize tot (s.L++s.W)=n at *
 by_cases t:n=0
 ·have Y:=ay (M.o (.inl t))
  have hnb:(n == 0)=true:=beq_iff_eq.2 t;clear t
  go_wp2
  go_ret;exact⟨ie Y.o.symm,u⟩
 ·have hnb:(n == 0)=false:=b9.2 t
  by_cases hxl:x<s.lo
  ·have Y:=ay (M.o (.inr hxl))
   clear t
   go_wp2
   go_ret;exact⟨ie Y.o.symm,u⟩
  ·by_cases hxh:s.hi<=x
   ·have Y:=ay (W.o aa hxh)
    clear t
    go_wp2
    go_ret;exact⟨ie Y.o.symm,u⟩
   ·have W0:=ay (S.o aa  aa  aa)
    have nn:0<n:=aa
    clear t M W S
    go_wp2
    go_loopg [7,8,9,10] (ao P+1) (λq f r y i wr=>∃(j:Nat) (v p z:Int),q=ao P+1 - j/\j<=ao P/\f=.int .i64 v/\r=.int .u64 p/\y=.int .u64 z/\i=.int .i64 j/\wr=w3 /\
     Hid (Oc s.hi n x P ans j v p)/\Hid (z=tot (P.take j))/\(-9223372036854775808<=v))
    exact⟨0,s.lo,0,0,rfl,bB _,rfl,rfl,rfl,rfl,rfl,W0,rfl,wk⟩
    case round=>
     obtain⟨j,v,p,z,y,hj,rfl,rfl,rfl,rfl,rfl,q,b,a2⟩:=hrel;have HK:=ay y;clear y;have a1:=q.o.b;have a3:=q.o.p0
     by_cases r:j<ao P
     ·obtain⟨g5,q5,rfl,hg5,e0,e1⟩:=F3.o.at_ r
      have V:=T.o P[j] (aX r);have hm1:=V.1;have hm2:=V.2.1;have YL:=V.2.2;have htk:=T.o.pL r;have Qt:=(T.o.mC j).1;rw[Q.o,<-b.o] at htk;rw[<-b.o] at Qt;have zM:Hid (tot (P.take (j+1))=z+P[j].2):=by show _=_;rw[hQ P j r,b.o]
      by_cases i:x<P[j].1
      ·have l:=q.o.hit r i
       rw[<-b.o] at l;obtain⟨I,a⟩:=l;have R:=ay a;have PB:=yh (p:=2 * z+P[j].2 - p) (x:=x - v) (y:=P[j].1 - v) aa  aa  aa  aa rfl
       have O:=λw=>ay (mH (2 * z+P[j].2 - p) (x - v) (P[j].1 - v) w aa  aa  aa  aa  aa  aa)
       clear a V;generalize P[j]=m at *;generalize (2 * z+m.2 - p) * (x - v) / (m.1 - v)=f at *;generalize (2 * z+m.2 - p) * (x - v) % (m.1 - v)=f2 at *;have L:IntKind.u64.wrap (IntKind.u64.wrap x - IntKind.u64.wrap v)=x - v:=by simp only[g_];omega
       have J:IntKind.u64.wrap (IntKind.u64.wrap m.1 - IntKind.u64.wrap v)=m.1 - v:=by simp only[g_];omega
       go_wp2_with fail;refine((O _).o).mono ?_
       rintro e w5 ⟨rfl,E⟩;clear L J
       go_wp2
       go_ret;exact⟨ie R.o.symm,u.trans (E.mono aa)⟩
      ·have o:=ay (q.o.next r i)
       rw[<-b.o] at o;clear V;generalize P[j]=m at *
       go_wp2
       go_roundg (ao P+1 - (j+1))
       exact⟨j+1,m.1,2 * z+m.2,z+m.2,rfl,aa,rfl,rfl,rfl,ag,rfl,o,zM.o.symm,hm1⟩
       have:=HK.o;omega
     ·have V:j=ao P:=aa
      subst V;obtain⟨I,a⟩:=q.o.last aa
      have R:=ay a;have PB:=yh (p:=2 * n - p) (x:=x - v) (y:=s.hi - v) aa  aa  aa  aa rfl
      have O:=λw=>ay (mH (2 * n - p) (x - v) (s.hi - v) w aa  aa  aa  aa  aa  aa)
      clear a;generalize (2 * n - p) * (x - v) / (s.hi - v)=f at *;generalize (2 * n - p) * (x - v) % (s.hi - v)=f2 at *;have L:IntKind.u64.wrap (IntKind.u64.wrap x - IntKind.u64.wrap v)=x - v:=by simp only[g_];omega
      have J:IntKind.u64.wrap (IntKind.u64.wrap s.hi - IntKind.u64.wrap v)=s.hi - v:=by simp only[g_];omega
      go_wp2_with fail;refine((O _).o).mono ?_
      rintro e w5 ⟨rfl,E⟩;clear L J
      go_wp2
      go_ret;exact⟨ie R.o.symm,u.trans (E.mono aa)⟩
namespace D
variable{l:List Pr}{r:Int}
def vT(x:1<=r)(y:r<=tot l):nW l r=(ky l r,0)/\l≠[]:=by
 have z:l≠[]:=λe=>by subst e;simp[tot] at y;omega
 unfold nW;rw[aG (λe=>z (aN e)),aG aa]
 exact⟨rfl,z⟩
def Cd(x:iE l)(y:1<=r)(z:r<=tot l):Mf l r=ky l r:=by
 rw[Qr x z,aG (λe=>(vT y z).2 (aN e))]
def Od{v v':Int}{vg YO:Bool}{led led' er:Int}(h:er≠0):tq v vg led er=tq v' YO led' er:=by rw[ni h,ni h]
section
variable {sp : i9} {c : Js} {x : Nat} {F : Ft}
def Qu(num den:Int)(w:World)(h:iz sp c x F w)(ok:je sp c)(O:0<=num)(A:num<18446744073709551616)(N:0<=den)(j:den<18446744073709551616) :
 ar Oe 27 #[.pointer (some ⟨x,0,none⟩),.int .u64 num,.int .u64 den] w (aw w (tq (qo sp c num den).1 (qo sp c num den).2.1 (qo sp c num den).2.2.1 (qo sp c num den).2.2.2)):=by
 have X:=λg (s:aq w g)=>xY g ((iw sp c x).keep h s) ok
 obtain⟨p,G,Y,L,_⟩:=h;have l:=NW ok;have T:=λg=>K.H6 num den (rQ sp c) g O A N j l.1 aa
 have S:=K.Bg (num:=num) (den:=den) (n:=rQ sp c) O N l.1;have B:=λw2 (H:aq w w2)=>(jo sp c p).keep L H
 cases sp with
 | h lo hi dg u m gr=>
  obtain⟨v,t,I,C,W,i⟩:=id L;have hl:=iG.len ok;have hsum:=iG.sum ok
  change (K.g9 num den (tot c.l)).2=0->1<=(K.g9 num den (tot c.l)).1/\(K.g9 num den (tot c.l)).1<=tot c.l at S
  have V:qo (.h lo hi dg u m gr) c num den=((rX u m c.l num den).1,false,0,(rX u m c.l num den).2):=rfl;rw[V]
  by_cases y:(K.g9 num den (tot c.l)).2=0
  ·obtain⟨R,P⟩:=S y
   have U:(K.g9 num den (tot c.l)).1<=tot c.l:=P;obtain⟨J,E⟩:=vT R U;have M:=Cd (iG.iJ ok) R U;obtain⟨q,D,Q⟩:=zj c.l _ U E;obtain⟨z,a,d,_⟩:=iG.key ok q D;have o:l8 c.l num den=(((kh u m z:Nat):Int),0):=by unfold l8;rw[aH y,J,Q,d]
   have f:rX u m c.l num den=(((hgN u m z:Nat):Int),0):=by
    unfold rX;rw[o];simp only[if_true];rw[bM,Mc (iG.sh ok).mb.1 a]
   rw[f];refine(x_ (r:=(K.g9 num den (tot c.l)).1) (er:=(K.g9 num den (tot c.l)).2) (k:=(kh u m z:Nat)) (lw:=(oJ u m z:Nat)) (v:=(hgN u m z:Nat)) w Y t.k7 t.lt X T (λ_ g s=>?_) (λ_ g s=>Cc z g (B g s) ok a)).mono ?_
   ·refine(vS v _ c.l g ((I.keep s).rd) (iG.pos ok) aa  aa).mono ?_
    rintro e b ⟨rfl,rfl⟩;exact⟨by rw[M,Q,d],rfl⟩
   ·rintro e b ⟨rfl,s⟩
    exact⟨by rw[y],s⟩
  ·have f:rX u m c.l num den=(0,(K.g9 num den (tot c.l)).2):=by
    unfold rX l8;rw[aG y];simp only[aG y]
   rw[f];exact x_ (r:=(K.g9 num den (tot c.l)).1) (er:=(K.g9 num den (tot c.l)).2) (k:=0) (lw:=0) (v:=0) w Y t.k7 t.lt X T (λe=>absurd e y) (λe=>absurd e y)
 | d a m=>
  obtain⟨rv,v,t,I,C,_⟩:=id L;obtain⟨Z5,ht,hlm,f0,f1⟩:=iO.cut ok;have hm0:=iO.m0 ok;have hm1:=iO.m1 ok;obtain⟨o,cs2,_,_,_⟩:=pW (m:=m) aa (iO.iJ ok) (iO.pos ok)
  change (K.g9 num den (tot c.l)).2=0->1<=(K.g9 num den (tot c.l)).1/\(K.g9 num den (tot c.l)).1<=tot c.l at S
  have V:qo (.d a m) c num den=((kQ a m c.l num den).1,(kQ a m c.l num den).2.1,0,(kQ a m c.l num den).2.2):=rfl;rw[V]
  by_cases y:(K.g9 num den (tot c.l)).2=0
  ·obtain⟨R,P⟩:=S y
   have U:(K.g9 num den (tot c.l)).1<=tot (gV m c.l).1:=by rw[ht];exact P
   obtain⟨J,E⟩:=vT R U;have M:=Cd o R U;obtain⟨q,D,Q⟩:=zj (gV m c.l).1 _ U E;have z:=iO.JW ok q D;have W:sP (gV m c.l).1 (gV m c.l).2 (K.g9 num den (tot c.l)).1=(decide (0<(gV m c.l).2) && decide (Mf (gV m c.l).1 (K.g9 num den (tot c.l)).1=jY (gV m c.l).1)):=by
    unfold sP;rw[J,M];simp
   have f:kQ a m c.l num den=(B_ (spans a) q.1,sP (gV m c.l).1 (gV m c.l).2 (K.g9 num den (tot c.l)).1,0):=by
    unfold kQ;rw[aH y,J,aH rfl,Q]
   have i:=(po (iO.a0 ok) (iO.a1 ok) (v:=0) aa).2
   rw[f];refine(x' (r:=(K.g9 num den (tot c.l)).1) (er:=(K.g9 num den (tot c.l)).2) (k:=q.1) (v:=B_ (spans a) q.1) (vg:=sP (gV m c.l).1 (gV m c.l).2 (K.g9 num den (tot c.l)).1) w Y t.k0 t.k2 t.k3 t.lt X T (λ_ g s=>?_) (λ_ g s=>zm rv q.1 g ((I.keep s).rd) z.1 z.2 i (Sk (iO.a0 ok) (iO.a1 ok)))).mono ?_
   ·refine(Ev v m _ c.l g ((C.keep s).rd) (iO.iJ ok) (iO.pos ok) (iO.sum ok) aa  aa (by have:=iO.len ok;omega)).mono ?_
    rintro e b ⟨rfl,H⟩;exact⟨by rw[<-W,M,Q],H⟩
   ·rintro e b ⟨rfl,s⟩
    exact⟨by rw[y],s⟩
  ·have f:kQ a m c.l num den=(0,false,(K.g9 num den (tot c.l)).2):=by
    unfold kQ;rw[aG y]
   rw[f];exact x' (r:=(K.g9 num den (tot c.l)).1) (er:=(K.g9 num den (tot c.l)).2) (k:=0) (v:=0) (vg:=false) w Y t.k0 t.k2 t.k3 t.lt X T (λe=>absurd e y) (λe=>absurd e y)
 | t d=>
  have z:=tK.fit ok;have Q:=z.ok.i7;have E:=z.t;have U:=λg=>zD num den (Go.Proofs.YtdicblkhpcphfaaGreat.tot (c.s.L++c.s.W)) g O A N j Q aa
  have V:qo (.t d) c num den=((th d c.s num den).1,false,0,(th d c.s num den).2):=rfl;rw[V]
  by_cases y:(jD num den (Go.Proofs.YtdicblkhpcphfaaGreat.tot (c.s.L++c.s.W))).2=0
  ·obtain⟨M,J,I,_⟩:=zP O N Q y
   have f:th d c.s num den=(Mx c.s.lo c.s.hi (jM d (c.s.L++c.s.W)) (jD num den (Go.Proofs.YtdicblkhpcphfaaGreat.tot (c.s.L++c.s.W))).1,0):=by unfold th;rw[aH y]
   rw[f];refine(yb (r:=(jD num den (Go.Proofs.YtdicblkhpcphfaaGreat.tot (c.s.L++c.s.W))).1) (er:=(jD num den (Go.Proofs.YtdicblkhpcphfaaGreat.tot (c.s.L++c.s.W))).2) (v:=Mx c.s.lo c.s.hi (jM d (c.s.L++c.s.W)) (jD num den (Go.Proofs.YtdicblkhpcphfaaGreat.tot (c.s.L++c.s.W))).1) w Y X U (λ_ g s=>Mi _ g (B g s) z M J I)).mono ?_
   rintro e b ⟨rfl,s⟩;exact⟨by rw[y],s⟩
  ·have f:th d c.s num den=(0,(jD num den (Go.Proofs.YtdicblkhpcphfaaGreat.tot (c.s.L++c.s.W))).2):=by unfold th;rw[aG y]
   rw[f];exact yb (r:=(jD num den (Go.Proofs.YtdicblkhpcphfaaGreat.tot (c.s.L++c.s.W))).1) (er:=(jD num den (Go.Proofs.YtdicblkhpcphfaaGreat.tot (c.s.L++c.s.W))).2) (v:=0) w Y X U (λe=>absurd e y)
 | k q=>
  obtain⟨J,D,z⟩:=id L;have V:qo (.k q) c num den=((K.atR c.L c.led num den).1,false,(K.atR c.L c.led num den).2.1,(K.atR c.L c.led num den).2.2):=rfl;rw[V]
  change (K.g9 num den (K.wt c.L:Nat)).2=0->1<=(K.g9 num den (K.wt c.L:Nat)).1/\(K.g9 num den (K.wt c.L:Nat)).1<=(K.wt c.L:Nat) at S
  by_cases y:(K.g9 num den (K.wt c.L:Nat)).2=0
  ·obtain⟨R,P⟩:=S y
   have f:K.atR c.L c.led num den=(K.P0 c.L (K.g9 num den (K.wt c.L:Nat)).1.toNat,(c.led:Int),0):=by unfold K.atR;rw[aH y]
   rw[f];have U:(((K.g9 num den (K.wt c.L:Nat)).1.toNat:Nat):Int)=(K.g9 num den (K.wt c.L:Nat)).1:=Int.toNat_of_nonneg aa
   have M:=(nt.fit ok).ok.zp;have E:(K.g9 num den (K.wt c.L:Nat)).1<=(K.wt c.L:Nat):=P;refine(yc (r:=(K.g9 num den (K.wt c.L:Nat)).1) (er:=(K.g9 num den (K.wt c.L:Nat)).2) (v:=K.P0 c.L (K.g9 num den (K.wt c.L:Nat)).1.toNat) (led:=c.led) w Y z.cell2 (bV _ _ z.cell2) X T (λ_ g s=>?_)).mono ?_
   ·obtain⟨I,o,Q⟩:=B g s
    have C:=K.Ny (K.g9 num den (K.wt c.L:Nat)).1.toNat g aa Q (nt.fit ok).ok
    rw[U] at C;refine C.mono ?_
    rintro e b ⟨rfl,rfl⟩;exact⟨rfl,aC _ _⟩
   ·rintro e b ⟨rfl,s⟩
    exact⟨by rw[y],s⟩
  ·have f:K.atR c.L c.led num den=(0,0,(K.g9 num den (K.wt c.L:Nat)).2):=by unfold K.atR;rw[aG y]
   rw[f];refine(yc (r:=(K.g9 num den (K.wt c.L:Nat)).1) (er:=(K.g9 num den (K.wt c.L:Nat)).2) (v:=0) (led:=c.led) w Y z.cell2 (bV _ _ z.cell2) X T (λe=>absurd e y)).mono ?_
   rintro e b ⟨rfl,s⟩;exact⟨by rw[Od y],s⟩
def Ce(v:Int)(w:World)(h:iz sp c x F w)(ok:je sp c)(L:-9223372036854775808<=v)(V:v<=9223372036854775807) :
 ar Oe 29 #[.pointer (some ⟨x,0,none⟩),.int .i64 v] w (aw w (.tuple #[.int .u64 (iT sp c v).1,.int .u64 (iT sp c v).2.1,.int .i64 (iT sp c v).2.2])):=by
 obtain⟨p,G,g,f,_⟩:=h;have Q:=λJ (N:aq w J)=>(jo sp c p).keep f N
 cases sp with
 | h lo hi dg u m gr=>
  by_cases s:v<0
  ·have e:iT (.h lo hi dg u m gr) c v=(0,0,0):=by unfold iT;simp only;rw[aH s]
   rw[e];exact Ek w g s
  ·have e:iT (.h lo hi dg u m gr) c v=(jt c.l (kh u m v.toNat:Nat),jt c.l ((kh u m v.toNat:Nat)+1),0):=by unfold iT;simp only;rw[aG s]
   rw[e];obtain⟨U,t,Y,T,d,b⟩:=id f;have S:=iG.sum ok;have a:=iG.len ok;have r:((v.toNat:Nat):Int)=v:=aa
   have q:=λ(X:Bool) z (y:aq w z)=>oG U (kh u m v.toNat:Nat) X c.l z ((Y.keep y).rd) (iG.pos ok) aa  aa
   refine El (i:=(kh u m v.toNat:Nat)) w g s t.k3 t.k4 t.k7 t.lt (λz=>?_) (λz y=>q false z y) (λz y=>q true z y)
   have C:=uW u m v.toNat z (iG.sh ok).um (iG.sh ok).mb.1 (iG.sh ok).mb.2 aa
   rw[r] at C;exact C
 | d a m=>
  by_cases s:v < -9223372036854775807
  ·have e:iT (.d a m) c v=(0,0,5):=by unfold iT;simp only;rw[aH s]
   rw[e];exact Em w g s
  ·have e:iT (.d a m) c v=(jt (gV m c.l).1 (nI a v),jt (gV m c.l).1 (nI a v+1),0):=by unfold iT;simp only;rw[aG s]
   rw[e];obtain⟨M,U,t,Y,T,_⟩:=id f;have E:=iO.m0 ok;have D:=iO.m1 ok;have S:=iO.sum ok;obtain⟨K,O,I,H,_⟩:=pW (m:=m) aa (iO.iJ ok) (iO.pos ok)
   have q:=λ(X:Bool) r z (b:iA il z r (gV m c.l).1)=>oG r (nI a v) X (gV m c.l).1 z b O aa  aa
   exact En (R:=λr z=>iA il z r (gV m c.l).1) w g s t.k0 t.k2 t.k3 t.lt (λz y=>sq U c.l m z ((T.keep y).rd) (iO.pos ok) S aa  aa (by have:=iO.len ok;omega))
    (λz y=>Ak M v z ((Y.keep y).rd) (iO.a0 ok) (iO.a1 ok) aa V) (λr z b=>q false r z b) (λr z b=>q true r z b)
 | t d=>
  have q:=tK.fit ok
  by_cases s:v=-9223372036854775808
  ·subst s
   have e:iT (.t d) c (-9223372036854775808)=(0,jb d c.s (-9223372036854775808),0):=rfl;rw[e];exact Er w g (sQ _ w f q ab  ab)
  ·have e:iT (.t d) c v=(jb d c.s (v - 1),jb d c.s v,0):=by unfold iT;simp only;rw[aG s]
   rw[e];exact Ep w g aa V (λz y=>sQ (v - 1) z (Q z y) q aa  aa) (λz y=>sQ v z (Q z y) q L V)
 | k q=>
  obtain⟨Y,U,s⟩:=f;refine Eo w g ((K.rN v w s (nt.fit ok).ok).mono ?_)
  rintro e P ⟨rfl,rfl⟩;exact⟨rfl,aC _ _⟩
end
end D
end Go.Proofs.YtdicblkhpcphfaaGreat
