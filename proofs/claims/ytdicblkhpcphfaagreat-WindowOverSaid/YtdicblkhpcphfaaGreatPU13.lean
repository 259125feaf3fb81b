/- Parts. -/
import Derived.Test.YtdicblkhpcphfaaGreatPU12
set_option maxRecDepth 100000
set_option maxHeartbeats 0
set_option linter.all false
namespace Go.Proofs.YtdicblkhpcphfaaGreat
open Tryz Go.RowKit Go.Lib
open _root_.List renaming length→ab0
open Go.IntKind renaming wrap→ad0
open _root_.Go renaming Calls→af4
open Tryz renaming prog→af5
namespace D
variable{a b base m:Nat}{v:Int}{l:List Pr}{w w':World}
def XQ{k j:IntKind}{a b c d:Int}(h:a=b)(g:c=d):Ending.returned (.tuple #[.int k a,.int j c])=.returned (.tuple #[.int k b,.int j d]):=by rw[h,g]
def KF(l:List Sp)(v:Int):Nat:=l.findIdx λs=>decide (v<=s.high)
def tL(a:Nat)(v:Int):Int:=if v=0 then 0 else if 0<v then 1+(KF (spans a) v:Nat) else -(1+(KF (spans a) (-v):Nat))
def hiP(l:List Sp)(v:Int)(i:Nat):Bool:=match l[i]? with
 | some s=>decide (v<=s.high)
 | none=>true
def sv(x:100<=a)(u:a<=5000)(r:v<=9223372036854775807):KF (spans a) v<ab0 (spans a)/\ab0 (spans a)<=2100:=by
 obtain⟨_,_,z,s,y,t⟩:=rf x u;refine⟨List.findIdx_lt_length_of_exists ⟨s,fQ y,?_⟩,z⟩;simp only[bD];omega
def aa4(z:100<=a)(y:a<=5000)(s:-9223372036854775808<v)(x:v<=9223372036854775807):-2100<=tL a v/\tL a v<=2100:=by
 have u:=sv z y x;have t:=sv z y (v:=-v) aa;unfold tL;split
 .omega
 .split<;>omega
def yz{l:List Sp}{i:Nat}(r:i<=ab0 l)(y:∀t,t<i->hiP l v t=false)(x:∀t,i<=t->t<ab0 l->hiP l v t=true):i=KF l v:=by
 unfold KF;rcases bm i (ab0 l) with h|h
 .refine((List.findIdx_eq h).2 ⟨?_,λj z=>?_⟩).Y
  .have:=x i (aD _) h
   unfold hiP at this
   rwa [aL h] at this
  .have:=y j z
   unfold hiP at this
   rwa [aL aa] at this
 .obtain rfl:i=ab0 l:=aa
  refine(List.findIdx_eq_length_of_false λs u=>?_).Y;obtain⟨j,z,rfl⟩:=gQ.1 u;have:=y j z;unfold hiP at this
  rwa [aL z] at this
def DE(t:100<=a)(s:a<=5000)(v:Int)(i j:Nat)(r:i<=j)(z:j<ab0 (spans a))(h:hiP (spans a) v i=true):hiP (spans a) v j=true:=by
 obtain⟨y,x,_⟩:=rf t s;unfold hiP at *;rw[aL z];rw[aL aa] at h;simp only[bD] at *;rcases fY r with u|rfl
 .have q:=ck.1 x i j aa z u
  have p:=y _ (aP z);omega
 .exact h
def yt.K(h:yt base w b a)(z:af3 w w'):yt base w' b a:=by
 obtain⟨y,v,x,u⟩:=h;exact⟨y,v,x.K z,u.K z⟩
def QC(w:World)(h:yt base w b a):af4 af5 193 #[aq b] w λe x=>e=.returned (af6 a)/\w=x:=by
 obtain⟨_,v,y,_⟩:=h;have z:=y.k0;go_in;go_wp2;go_ret;exact⟨rfl,rfl⟩
def Nz(p q b g z c:Nat)(l:List Sp)(x v:Int)(i:Nat)(W:World)(s:i<ab0 l)(d:ab0 l<=2100)
 (a:W.cell? (af7 p 0)=some (aq b)) (Y:W.cell? (af7 q 0)=some (af6 v)) (u:W.cell? (af7 b 1)=some (.slice (some (af7 g z)) (ab0 l) c)) (t:W.cell? (af7 g (z+i * 3+2))=some (af6 x)) :
 af4 af5 240 (#[af6 i]++#[aq p,aq q]) W λe y=>e=.returned (.bool (decide (v<=x)))/\∃q,y=W.drewN q:=by
 have f:(i:Int)<(ab0 l:Int):=aa;have r:(0:Int)<=(i:Int):=aa;go_in;go_wp21
 go_quiet (fail)
 go_wp2;go_ret;exact⟨rfl,_,rfl⟩
def Jc(v:Int)(w:World)(h:yt base w b a)(z:100<=a)(x:a<=5000)(Q:0<v)(X:v<=9223372036854775807):af4 af5 150 #[aq b,af6 v] w λe d=>e=.returned (.tuple #[af6 (1+(KF (spans a) v:Nat)),af6 0])/\af3 w d:=by
 have s:=DE z x v;have R:=sv z x X;obtain⟨f,O,t,y⟩:=h;have⟨l,u⟩:=ar (spans a);rw[u] at s R y |-;clear u z x;obtain⟨g,c,rfl,_,T,_,_⟩:=y.pos aa
 have x:=t.k1;have V:=t.lt;have p:∀i (z:i<ab0 l),w.cell? (af7 g (0+i * 3+2))=some (af6 (l[i]).high):=λi z=>by
  rw[cG];exact y.cellAt z 2 ab
 have r:=ax p;have u:=ax x;have q:=ax s;clear p t y f s x;have P:¬v<0:=aa;have f:∀y w,(callFunc 240 y).run prog w=.ok (.enter 240 y) w:=λ_ _=>rfl;have y:Hid (af3 w ((w.alloc (.cells #[aq b] 207)).alloc (.cells #[af6 v] 2))):=ax (bw);have t:=ax (by simp[bW]:((w.alloc (.cells #[aq b] 207)).alloc (.cells #[af6 v] 2)).cell? (af7 (w.heap.size) 0)=some (aq b));have s:=ax (by simp[bW]:((w.alloc (.cells #[aq b] 207)).alloc (.cells #[af6 v] 2)).cell? (af7 (w.heap.size+1) 0)=some (af6 v));have Y:Hid (af4 af5 154 #[af6 (ab0 l),.func (.func 240) #[] #[.pointer (some (af7 (w.heap.size) 0)),.pointer (some (af7 (w.heap.size+1) 0))]] ((w.alloc (.cells #[aq b] 207)).alloc (.cells #[af6 v] 2)) (Found (ab0 l) (hiP l v) ((w.alloc (.cells #[aq b] 207)).alloc (.cells #[af6 v] 2)))):=by
  generalize (w.alloc (.cells #[aq b] 207)).alloc (.cells #[af6 v] 2)=W at *;refine ax (Gm 240 _ (ab0 l) (hiP l v) W f aa (λm i z=>?_) q.o);have U:=(y.o.C (p:=af7 g (0+i * 3+2)) T).T (r.o i z);have S:=(y.o.C (p:=af7 b 1) V).T u.o;have:=Nz w.heap.size (w.heap.size+1) b g 0 c l (l[i]).high v i (W.drewN m) z aa t.o s.o S U;unfold hiP;rw[aL z];exact this
 have x:=u.o;clear q f r u t s;go_in;go_wp21;refine(Y.o).M ?_;rintro e d ⟨i,q,rfl,z,u,t,rfl⟩;obtain rfl:=yz z u t;clear u t;go_wp2;go_ret2;exact⟨rfl,below_drewN y.o _⟩
def QD(v:Int)(w:World)(h:yt base w b a)(z:100<=a)(y:a<=5000)(p:-9223372036854775808<v)(r:v<=9223372036854775807):af4 af5 150 #[aq b,af6 v] w (au w (.tuple #[af6 (tL a v),af6 0])):=by
 by_cases u:0<v
 .have e:tL a v=1+(KF (spans a) v:Nat):=by unfold tL;rw[aF aa,aH u]
  rw[e];exact Jc v w h z y u r
 .have d:¬v=-9223372036854775808:=aa
  by_cases t:v=0
  .subst t
   have e:tL a 0=0:=rfl;rw[e];go_in;go_wp2;go_ret2;exact⟨rfl,bw⟩
  .have f:v<0:=aa
   have e:tL a v=-(1+(KF (spans a) (-v):Nat)):=by unfold tL;rw[aF t,aF u]
   rw[e];have x:af3 w ((w.alloc (.cells #[aq b] 207)).alloc (.cells #[af6 v] 2)):=bw;have s:=ax (Jc (-v) _ (h.K x) z y aa  aa);have g:=sv z y (v:=-v) aa;generalize KF (spans a) (-v)=k at *;clear x e;go_in;go_wp21;refine RX s.o ?_;intro c x;go_wp2;go_ret2;exact⟨XQ aa rfl,bw⟩
def QE(w:World)(_h:yt base w b a):af4 af5 150 #[aq b,af6 (-9223372036854775808)] w (au w (.tuple #[af6 0,af6 5])):=by
 go_in;go_wp2;go_ret2;exact⟨rfl,bw⟩
def NA(T:Value)(v:Int)(w:World)(h:iQ (I9 154) w T (spans a))(s:100<=a)(r:a<=5000)(K:-9223372036854775808<v)(J:v<=9223372036854775807):af4 af5 86 #[T,af6 v] w λe L=>e=.returned (af6 (tL a v))/\w=L:=by
 by_cases U:v=0
 .subst U
  have e:tL a 0=0:=rfl;rw[e];go_in;go_wp2;go_ret;exact⟨rfl,rfl⟩
 .have⟨m,z⟩:=ar ((if v<0 then -v else v))
  have O:0<m/\m<=9223372036854775807:=by rw[<-z];split<;>omega
  have P:=sv s r O.2;have y:=DE s r m;have X:Hid (tL a v=if v<0 then -((KF (spans a) m:Nat):Int) - 1 else((KF (spans a) m:Nat):Int)+1):=by
   show _=_
   unfold tL;rw[aF U];by_cases u:v<0
   .rw[aH u] at z |-
    rw[aF aa,z];omega
   .rw[aF u] at z |-
    rw[aH aa,z];omega
  have N:(v<0/\v=-m)\/(¬v<0/\m=v):=by split at z<;>omega
  clear z;have⟨l,z⟩:=ar (spans a);rw[z] at y P h X;clear z s r;obtain⟨A,c,rfl,_,_,z⟩:=h.form;obtain⟨g,M,rfl,I,p⟩:=z aa;have S:Hid (∀j (x:j<ab0 l),w.cell? (af7 g (M+j * 3+2))=some (af6 (l[j]).high)):=ax (λj x=>p j x 2 ab);have R:=ax y;clear p y h z;rcases N with⟨u,rfl⟩|⟨u,rfl⟩
  all_goals
   go_in;go_wp2;go_loopg [6] (ab0 l) (λq x wr=>(∃k:Nat,q=ab0 l - k/\k<=ab0 l/\x=af6 k/\Hid (∀t,t<k->hiP l m t=false))/\w=wr)
   exact⟨⟨0,rfl,aa,rfl,ax (λt V=>absurd V aa)⟩,rfl⟩
   case round=>
    obtain⟨⟨k,z,b,rfl,x⟩,rfl⟩:=hrel;have Q:=ax z;clear z;by_cases Y:k<ab0 l
    .have p:=S.o k Y
     have H:(k:Int)<(ab0 l:Int):=aa;have q:=ax (by unfold hiP;rw[aL Y]:hiP l m k=decide (m<=(l[k]).high));generalize (l[k]).high=y at *;by_cases G:y<m
     .go_wp2
      go_roundg (ab0 l - (k+1))
      case measure=>have:=Q.o;omega
      case rel=>exact⟨⟨k+1,rfl,aa,af,ax (λt V=>by
       rcases bm t k with h|h
       .exact x.o t h
       .obtain rfl:t=k:=aa
        rw[q.o];exact bq aa)⟩,rfl⟩
     .have z:Hid (k=KF l m):=ax (yz b x.o (λt f d=>R.o k t f d (by rw[q.o];exact bN aa)))
      go_wp2;go_ret;refine⟨jz ?_,rfl⟩;rw[X.o,<-z.o]
      first|rw[aH u]|rw[aF aa]
    .obtain rfl:k=ab0 l:=aa
     have z:Hid (ab0 l=KF l m):=ax (yz b x.o (λt f d=>by omega));have:=z.o;omega
def QF(k:Int)(w:World)(h:yt base w b a)(T:-(ab0 (spans a):Int)<=k)(S:k<=(ab0 (spans a):Int))(R:ab0 (spans a)<=2100)(t:∀s∈spans a,0<=s.mid/\s.mid<=9223372036854775807):af4 af5 221 #[aq b,af6 k] w λe r=>(∃x,e=.returned (.tuple #[af6 x,af6 0]))/\af3 w r:=by
 obtain⟨K,I,y,z⟩:=h;have N:=y.k1;have⟨l,v⟩:=ar (spans a);rw[v] at T S R t z;clear v;obtain⟨A,c,rfl,_,_,v⟩:=z.form;have d:∀(s:Sp) (W:World),Hid (af4 af5 310 #[PR s] W λe r=>e=.returned (af6 s.mid)/\af3 W r):=λs W=>by
  unfold PR;refine ax ?_;go_in;go_wp2;go_ret;exact⟨rfl,bw⟩
 have X:Hid (∀s∈l,0<=s.mid/\s.mid<=9223372036854775807):=ax t;have Y:=ax v;clear z v y t;have L:∀z w,(callFunc 310 z).run prog w=.ok (.enter 310 z) w:=λ_ _=>rfl;have U:Hid (af4 af5 309 #[aq b,af6 k,.func (.func 310) #[] #[],.func (.func 310) #[] #[]] w λe r=>(∃x,e=.returned (.tuple #[af6 x,af6 0]))/\af3 w r):=by
  refine ax ?_;by_cases P:k=0
  .subst P
   have z:¬((0:Int) > ab0 l):=aa;go_in;go_wp2;go_ret2;exact⟨⟨_,rfl⟩,bw⟩
  .by_cases J:0<k
   .obtain⟨n,rfl⟩:∃n:Nat,k=(n:Int)+1:=⟨(k - 1).toNat,aa⟩
    have y:n<ab0 l:=aa;obtain⟨g,M,rfl,Q,z⟩:=Y.o aa;have q:=z n y 0 ab;have p:=z n y 1 ab;have f:=z n y 2 ab;have O:(n:Int)<(ab0 l:Int):=aa;have v:=d (l[n]) w;unfold PR at v;have t:=X.o _ (aP y);clear z;generalize l[n]=s at *;simp only[I9,ay,aA,cF] at q p f;go_in;go_wp2_with (go_at_fn 310;refine RX v.o ?_;intro V u)
    go_ret2;exact⟨⟨_,rfl⟩,u⟩
   .obtain⟨n,rfl⟩:∃n:Nat,k=-((n:Int)+1):=⟨(-k - 1).toNat,aa⟩
    have y:n<ab0 l:=aa;obtain⟨g,M,rfl,Q,z⟩:=Y.o aa;have q:=z n y 0 ab;have p:=z n y 1 ab;have f:=z n y 2 ab;have O:(n:Int)<(ab0 l:Int):=aa;have v:=d (l[n]) w;unfold PR at v;have t:=X.o _ (aP y);clear z;generalize l[n]=s at *;simp only[I9,ay,aA,cF] at q p f;go_in;go_wp2_with (go_at_fn 310;refine RX v.o ?_;intro V u)
    go_ret2;exact⟨⟨_,rfl⟩,u⟩
 go_in;go_wp2_with (go_at_call 309;refine(U.o).M ?_;rintro e V ⟨⟨x,rfl⟩,u⟩)
 go_ret2;exact⟨⟨_,rfl⟩,u⟩
structure kG(a m:Nat)(l:List Pr):Prop where
 a0:100<=a
 a1:a<=5000
 m0:2<=m
 m1:m<=4096
 jk:ji l
 pos:i' l
 key:∀p∈l,-(ab0 (spans a):Int)<=p.1/\p.1<=(ab0 (spans a):Int)
 sum:tot l<=4611686018427387904
def BH{lo hi:Int}:∀{l:List Pr},ji l->(∀p∈l,lo<=p.1/\p.1<=hi)->lo<=hi+1->(ab0 l:Int)<=hi - lo+1
 | [],_,_,h=>by simp;omega
 | p::l,s,k,_=>by
  have y:=aR.1 s;have x:=k p (aJ ..);have:=BH (lo:=p.1+1) (hi:=hi) y.2 (λq z=>⟨by have:=y.1 q z;omega,(k q (aQ _ z)).2⟩) aa;simp only[aK];omega
def kG.len(h:kG a m l):ab0 l<=4201:=by
 have z:=(sv h.a0 h.a1 (v:=0) aa).2;have:=BH h.jk h.key aa;omega
def kG.ok(h:kG a m l):qP l:=⟨h.jk,h.pos,(λp z=>by have:=h.key p z;have y:=(sv h.a0 h.a1 (v:=0) aa).2;omega),h.sum,by have:=h.len;omega⟩
def kG.cut(h:kG a m l):qP (hZ m l).1/\tot (hZ m l).1=tot l/\ab0 (hZ m l).1<=m/\0<=(hZ m l).2/\(hZ m l).2<=4611686018427387904:=by
 have v:=h.m0;obtain⟨_,_,z,y,x⟩:=Bx (m:=m) aa h.jk h.pos;refine⟨Qz h.ok aa,z,y,x,?_⟩;have:=(km h.pos (ab0 l - m)).2;have:=h.sum;show D.tot (l.take (ab0 l - m))<=_
 omega
def S7(z:100<=a)(y:a<=5000)(s:-9223372036854775808<v)(x:v<=9223372036854775807):-(ab0 (spans a):Int)<=tL a v/\tL a v<=(ab0 (spans a):Int):=by
 have u:=sv z y x;have t:=sv z y (v:=-v) aa;unfold tL;split
 .omega
 .split<;>omega
def GM(a:Nat)(l:List Pr)(v n:Int):Int:=if n=0 then 4 else if v=-9223372036854775808 then 5 else jH l (tL a v) n
def DH(a:Nat)(l:List Pr)(v n:Int):List Pr:=if GM a l v n=0 then iu (tL a v) n l else l
def BI(l t:List Pr):List Pr:=if i4 l t=0 then iC l t else l
def S8{n:Int}(h:kG a m l)(s:-9223372036854775808<=v)(t:v<=9223372036854775807)(u:0<=n):kG a m (DH a l v n):=by
 unfold DH;split
 .rename_i z
  unfold GM at z;split at z
  .omega
  .split at z
   .omega
   .have x:=S7 h.a0 h.a1 (v:=v) aa t
    have y:=Nt h.ok z u (aa2 h.len);exact⟨h.a0,h.a1,h.m0,h.m1,y.jk,y.pos,Ap h.key x,y.tot⟩
 .exact h
def QG{t:List Pr}(h:kG a m l)(z:kG a m t):kG a m (BI l t):=by
 unfold BI;split
 .rename_i y
  unfold i4 at y;split at y
  .omega
  .have e:=Bw h.jk z.jk h.pos z.pos
   have k:=tK (B:=(ab0 (spans a):Int)) _ l t (aD _) h.key z.key;rw[e] at k;exact⟨h.a0,h.a1,h.m0,h.m1,mL h.jk,lS h.pos z.pos,k.2,by rw[lR];omega⟩
 .exact h
def S9(b a:Nat)(H:Ft)(w:World):Prop:=∃v,g7 w b 322 #[af6 a,v]/\g8 (I9 324) 0 w v (spans a)/\H b/\(∀k,v.ownBlock=some k->H k)/\∀k,H k->k<w.heap.size
def mP(b a:Nat):kK (S9 b a) where
 stay:=λ⟨v,x,u,z,y,t⟩ s r=>⟨v,(s b z).T x,u.stay λk e=>s k (y k e),z,y,λk h=>aG (t k h) r⟩
 more:=λ⟨v,x,u,z,y,_⟩ h s=>⟨v,x,u,h b z,λk e=>h k (y k e),s⟩
 low:=λ⟨_,_,_,_,_,t⟩=>t
def S9.at_{H:Ft}(h:S9 b a H w):yt 0 w b a:=by
 obtain⟨v,z,y,_⟩:=h;exact⟨bl _,v,z,y⟩
def S_(h:yt w.heap.size w' b a):S9 b a (Gr (λ_=>False) w w') w':=by
 obtain⟨x,v,z,y⟩:=h;exact⟨v,z,y.more (bl _),.inr ⟨x,z.lt⟩,λk e=>.inr (y.lt k e),λk h=>h.elim False.elim And.right⟩
def px(d a m:Nat)(l:List Pr)(F:Ft)(w:World):Prop:=∃b c H G,g7 w d 210 #[aq b,aq c]/\S9 b a H w/\uX c m (hZ m l).1 (hZ m l).2 G w/\F d/\(∀k,H k->F k)/\(∀k,G k->F k)/\¬G d/\(∀k,H k->¬G k)/\∀k,F k->k<w.heap.size
def ks(d a m:Nat)(l:List Pr):kK (px d a m l) where
 stay:=λ⟨b,c,H,G,v,u,t,z,y,x,s,r,q⟩ p g=>⟨b,c,H,G,(p d z).T v,(mP b a).stay u (λk e=>p k (y k e)) g,(nD _ _ _ _).stay t (λk e=>p k (x k e)) g,z,y,x,s,r,λk h=>aG (q k h) g⟩
 more:=λ⟨b,c,H,G,v,u,t,z,y,x,s,r,_⟩ h p=>⟨b,c,H,G,v,u,t,h d z,λk e=>h k (y k e),λk e=>h k (x k e),s,r,p⟩
 low:=λ⟨_,_,_,_,_,_,_,_,_,_,_,_,q⟩=>q
def wM(P:Ft->World->Prop)(F:Ft)(er:Int)(w:World)(e:Ending)(w':World):Prop:=e=.returned (af6 er)/\P (Gr F w w') w'/\Touch F w w'
def lh{P:Ft->World->Prop}(S:kK P){F:Ft}{er:Int}{e:Ending}(h:P F w)(y:e=.returned (af6 er))(z:af3 w w'):wM P F er w e w':=
 ⟨y,S.more (S.K h z) (λ_ h=>.inl h) (jt (S.low h) z.size),Touch.of_below z (aD _)⟩
def NB(a m:Nat)(w:World)(g:100<=a)(t:a<=5000)(s:2<=m)(f:m<=4096):af4 af5 268 #[af6 a,af6 m] w λe v=>∃d,e=.returned (.tuple #[aq d,af6 0])/\px d a m [] (Gr (λ_=>False) w v) v/\af3 w v:=by
 go_in;go_wp21;refine WE (Kr a w g t) ?_;rintro b u ⟨z,d⟩;have X:=d.size;have y:=ax (S_ z);clear z;go_wp21;refine WE (Nv m u s f) ?_;rintro c z ⟨q,r⟩;have Y:=r.size;have x:=ax q;clear q;go_wp2;go_ret2;have q:af3 z (z.alloc (.cells #[aq b,aq c] 210)):=bw;refine⟨_,rfl,⟨b,c,Gr (λ_=>False) w u,Gr (λ_=>False) u z,g7.new _ _ _,(mP b a).K y.o (r.T (q.M Y)),?_,.inr ⟨aa,ad⟩,λk h=>.inr ⟨(h.elim False.elim And.left),?_⟩,λk h=>.inr ⟨?_,?_⟩,?_,λk h p=>?_,λk h=>h.elim False.elim And.right⟩,bw⟩
 .have:hZ m []=([],0):=lT ad
  rw[this];exact(nD _ _ _ _).K x.o q
 .have:=(mP b a).low y.o k h;simp;omega
 .have:=(h.elim False.elim And.left);omega
 .have:=(nD _ _ _ _).low x.o k h;simp;omega
 .intro h;have:=(nD _ _ _ _).low x.o _ h;omega
 .have t:=(mP b a).low y.o k h
  have s:=(p.elim False.elim And.left);omega
section
variable {d a m : Nat} {l : List Pr} {F : Ft}
def uY(w:World)(h:px d a m l F w):af4 af5 120 #[aq d] w λe x=>e=.returned (af6 a)/\w=x:=by
 obtain⟨b,c,H,G,z,y,_⟩:=h;have C:=ax (QC w y.at_);have v:=z.k0;clear z y;go_in;go_wp21;refine Ix C.o ?_;go_wp2;go_ret;exact⟨rfl,rfl⟩
def rR(w:World)(h:px d a m l F w):af4 af5 121 #[aq d] w λe y=>e=.returned (af6 m)/\w=y:=by
 obtain⟨b,c,H,G,x,_,v,_⟩:=h;obtain⟨g,z⟩:=v.r;obtain⟨t,z,_⟩:=z;have C:Hid (af4 af5 194 #[aq c] w λe y=>e=.returned (af6 m)/\w=y):=by
  have u:=z.k0;clear z v x;refine ax ?_;go_in;go_wp2;go_ret;exact⟨rfl,rfl⟩
 have u:=x.k1;clear x z v;go_in;go_wp21;refine Ix C.o ?_;go_wp2;go_ret;exact⟨rfl,rfl⟩
def KG(w:World)(h:px d a m l F w):af4 af5 198 #[aq d] w λe y=>e=.returned (.int .u64 (hZ m l).2)/\w=y:=by
 obtain⟨b,c,H,G,x,_,v,_⟩:=h;obtain⟨g,z⟩:=v.r;obtain⟨t,z,_⟩:=z;have C:Hid (af4 af5 280 #[aq c] w λe y=>e=.returned (.int .u64 (hZ m l).2)/\w=y):=by
  have u:=z.k2;clear z v x;refine ax ?_;go_in;go_wp2;go_ret;exact⟨rfl,rfl⟩
 have u:=x.k1;clear x z v;go_in;go_wp21;refine Ix C.o ?_;go_wp2;go_ret;exact⟨rfl,rfl⟩
def NC(w:World)(h:px d a m l F w)(ok:kG a m l):af4 af5 56 #[aq d] w λe z=>e=.returned (.int .u64 (tot l))/\w=z:=by
 obtain⟨b,c,H,G,y,_,x,_⟩:=h;obtain⟨g,r,v,u⟩:=x.r;have t:=ax (GJ w u);rw[ok.cut.2.1] at t;have C:Hid (af4 af5 128 #[aq c] w λe z=>e=.returned (.int .u64 (tot l))/\w=z):=by
  have s:=v.k1;clear v x y u;refine ax ?_;go_in;go_wp21;refine Ix t.o ?_;go_wp2;go_ret;exact⟨rfl,rfl⟩
 have s:=y.k1;clear y v x u;go_in;go_wp21;refine Ix C.o ?_;go_wp2;go_ret;exact⟨rfl,rfl⟩
def ND(w:World)(h:px d a m l F w)(ok:kG a m l):af4 af5 197 #[aq d] w λe z=>∃v,e=.returned v/\g8 iF w.heap.size z v (hZ m l).1/\af3 w z:=by
 obtain⟨b,c,H,G,y,_,x,_⟩:=h;obtain⟨g,Y,u,t⟩:=x.r;have r:=ax (Ar w t ok.cut.1.len);have C:Hid (af4 af5 279 #[aq c] w λe z=>∃v,e=.returned v/\g8 iF w.heap.size z v (hZ m l).1/\af3 w z):=by
  have q:=u.k1;clear u x y t;refine ax ?_;go_in;go_wp21;refine WE r.o ?_;rintro p f ⟨s,v⟩;go_wp2;go_ret;exact⟨_,rfl,s,v⟩
 have q:=y.k1;clear y u x t;go_in;go_wp21;refine WE C.o ?_;rintro p f ⟨s,v⟩;go_wp2;go_ret;exact⟨_,rfl,s,v⟩
end
structure jn(lo hi dg u m:Nat)(gr:Bool)(bk:Nat)(l:List Pr):Prop where
 sh:sk lo hi dg u m
 jk:ji l
 pos:i' l
 sum:tot l<=4611686018427387904
 key:∀p∈l,∃v:Nat,v<9223372036854775808/\p.1=oJ u m v/\1+jg u m v<=bk
 fst:1+jg u m hi<=bk
 mx:bk=1+jg u m hi\/∃p∈l,∃v:Nat,v<9223372036854775808/\p.1=oJ u m v/\bk=1+jg u m v
 U9:gr=false->bk=1+jg u m hi
section
variable {lo hi dg u m bk : Nat} {gr : Bool} {l : List Pr}
variable{v:Nat}
def sk.mb(h:sk lo hi dg u m):1<=m/\m<=18:=by rw[h.me];exact BG h.d1
def NG(h:sk lo hi dg u m)(x:v<9223372036854775808):oJ u m v<=16777216:=by
 have t:=Aq (u:=u) (m:=m) (v:=v) aa;have q:=lU (u:=u) (m:=m) x;have y:=h.mb;have s:2 ^ m<=262144:=(bM aa y.2:2 ^ m<=2 ^ 18);have z:2 ^ (m - 1)<=131072:=(bM aa  aa :2 ^ (m - 1)<=2 ^ 17);have r:jg u m v * 2 ^ (m - 1)<=63 * 131072:=cL aa z;unfold oJ;omega
def jn.b0(h:jn lo hi dg u m gr bk l):1<=bk:=by have:=h.fst;omega
def jn.b1(h:jn lo hi dg u m gr bk l):bk<=64:=by
 have y:=h.sh.um;have t:=lU (u:=u) (m:=m) (v:=hi) (aa2 h.sh.h1);rcases h.mx with e|⟨p,_,v,z,_,e⟩
 .omega
 .have x:=lU (u:=u) (m:=m) z;omega
def jn.kb(h:jn lo hi dg u m gr bk l):∀p∈l,0<=p.1/\p.1<=16777216:=λp z=>by
 obtain⟨v,y,e,_⟩:=h.key p z;have:=NG h.sh y;omega
def jn.len(h:jn lo hi dg u m gr bk l):ab0 l<=16777217:=by
 have:=BH h.jk h.kb aa;omega
def hsE(u m:Nat)(gr:Bool)(bk:Nat)(l:List Pr)(v n:Int):Int:=if n=0 then 4 else if v<0 then 5 else if gr=false/\(oC u m bk:Int)<v then 5 else if 4611686018427387904<tot l+n then 6 else 0
def hsL(u m:Nat)(gr:Bool)(bk:Nat)(l:List Pr)(v n:Int):List Pr:=if hsE u m gr bk l v n=0 then iu (oJ u m v.toNat) n l else l
def hsB(u m:Nat)(gr:Bool)(bk:Nat)(l:List Pr)(v n:Int):Nat:=if hsE u m gr bk l v n=0 then max bk (1+jg u m v.toNat) else bk
def S'(h:sk lo hi dg u m):jn lo hi dg u m gr (1+jg u m hi) []:=⟨h,List.Pairwise.nil,ad,by simp[tot],ad,aD _,.inl rfl,λ_=>rfl⟩
def Ta{n:Nat}(z:v<9223372036854775808)(y:1<=n)(h:v<=oC u m n):1+jg u m v<=n:=by
 have x:=lU (u:=u) (m:=m) z;unfold oC at h;split at h
 .omega
 .have:jg u m v<=n - 1:=(yn aa).2 (by
   rw[show u+m+(n - 1)=n - 1+u+m by omega];have:=cB (n - 1+u+m);omega)
  omega
def Tb{v n:Int}(h:jn lo hi dg u m gr bk l)(O:v<=9223372036854775807)(P:0<=n):jn lo hi dg u m gr (hsB u m gr bk l v n) (hsL u m gr bk l v n):=by
 unfold hsB hsL;by_cases z:hsE u m gr bk l v n=0
 .rw[aH z,aH z]
  unfold hsE at z;by_cases s:n=0
  .rw[aH s] at z;omega
  by_cases r:v<0
  .rw[aF s,aH r] at z;omega
  by_cases g:gr=false/\(oC u m bk:Int)<v
  .rw[aF s,aF r,aH g] at z;omega
  by_cases U:4611686018427387904<tot l+n
  .rw[aF s,aF r,aF g,aH U] at z;omega
  obtain⟨x,rfl⟩:=bO (a:=v) aa;have b:x<9223372036854775808:=aa;simp only[bY];refine⟨h.sh,xi h.jk,put_pos aa h.pos,by rw[p_];omega,λp t=>?_,by have:=h.fst;omega,?_,λX=>?_⟩
  .rcases put_mem t with e|t
   .exact⟨x,b,e,aa⟩
   .obtain⟨y,Y,e,R⟩:=h.key p t
    exact⟨y,Y,e,aa⟩
  .have V:=nd (put_pos (k:=(oJ u m x:Int)) (n:=n) aa h.pos)
   rcases fI (1+jg u m x) bk with d|d
   .rw[Nat.max_eq_left d]
    rcases h.mx with e|⟨p,t,y,Y,T,S⟩
    .exact .inl e
    .refine .inr ?_
     have Q:=sO h.pos t;obtain⟨q,c,f⟩:=(V p.1).2 (by rw[uV];split<;>omega);exact⟨q,c,y,Y,f.T T,S⟩
   .rw[Nat.max_eq_right d]
    refine .inr ?_;have Q:=j_ (k:=(oJ u m x:Int)) h.pos;obtain⟨q,c,f⟩:=(V (oJ u m x:Int)).2 (by rw[uV,aH rfl];omega);exact⟨q,c,x,b,f,rfl⟩
  .have R:=h.U9 X
   have q:x<=oC u m bk:=by
    rcases bm (oC u m bk) x with y|y
    .exact absurd ⟨X,aa⟩ g
    .exact y
   have:=Ta b h.b0 q;omega
 .rw[aF z,aF z];exact h
def Ct(l t:List Pr):Int:=if 4611686018427387904<tot l+tot t then 6 else 0
def NH(l t:List Pr):List Pr:=if Ct l t=0 then iC l t else l
def QH(l t:List Pr)(bk bt:Nat):Nat:=if Ct l t=0 then max bk bt else bk
def QI{bt:Nat}{t:List Pr}(h:jn lo hi dg u m gr bk l)(k:jn lo hi dg u m gr bt t):jn lo hi dg u m gr (QH l t bk bt) (NH l t):=by
 unfold QH NH;by_cases s:Ct l t=0
 .rw[aH s,aH s]
  have a:¬4611686018427387904<tot l+tot t:=λb=>by unfold Ct at s;rw[aH b] at s;omega
  have f:=xk h.pos k.pos;refine⟨h.sh,mL h.jk,lS h.pos k.pos,by rw[lR];omega,λp r=>?_,by have:=h.fst;omega,?_,λc=>?_⟩
  .rcases(f p.1).1 ⟨p,r,rfl⟩ with⟨q,x,e⟩|⟨q,x,e⟩
   .obtain⟨y,v,z,g⟩:=h.key q x
    exact⟨y,v,e.Y.T z,aa⟩
   .obtain⟨y,v,z,g⟩:=k.key q x
    exact⟨y,v,e.Y.T z,aa⟩
  .rcases fI bt bk with d|d
   .rw[Nat.max_eq_left d]
    rcases h.mx with e|⟨p,r,y,v,z,g⟩
    .exact .inl e
    .obtain⟨q,x,e⟩:=(f p.1).2 (.inl ⟨p,r,rfl⟩)
     exact .inr ⟨q,x,y,v,e.T z,g⟩
   .rw[Nat.max_eq_right d]
    rcases k.mx with e|⟨p,r,y,v,z,g⟩
    .exact .inl e
    .obtain⟨q,x,e⟩:=(f p.1).2 (.inr ⟨p,r,rfl⟩)
     exact .inr ⟨q,x,y,v,e.T z,g⟩
  .have:=h.U9 c
   have:=k.U9 c;omega
 .rw[aF s,aF s];exact h
end
variable{l:List Int}
def nn(v:Int):List Int:=ko 8 (oF v)
def sS(v:Int):1<=ab0 (nn v)/\ab0 (nn v)<=9:=xQ 8 _
def nE(g:Int):List Int:=if g=1 then [0] else if 1<g then [-g] else []
def v_:Int->List Pr->List Int
 | _,[]=>[]
 | a,p::l=>nE (p.1 - a)++p.2::v_ (p.1+1) l
def As(l:List Pr):List Int:=if l=[] then [0] else v_ 0 l
def lj(l:List Int):List Int:=l.flatMap nn
def lB(l:List Pr):List Int:=lj (As l)
def jS:Nat->Int->List Int
 | 0,_=>[]
 | k+1,n=>jS k (n / 256)++[n % 256]
def ix:∀(k:Nat) (n:Int),ab0 (jS k n)=k
 | 0,_=>rfl
 | k+1,n=>by rw[jS,aE,ix k];rfl
def ri:∀(k:Nat) (n:Int),jE (jS k n)
 | 0,_=>λb h=>by cases h
 | k+1,n=>(ri k _).append λb h=>by
  have:b=n % 256:=by simpa using h
  omega
def uZ(lo reach dg c:Int):List Int:=jS 4 478450451++jS 4 c++jS 4 0++jS 4 dg++jS 8 lo++jS 8 reach++jS 8 4607182418800017408
def hwB(lo reach dg:Int)(l:List Pr):List Int:=uZ lo reach dg (ab0 (lB l))++lB l
def rS(s:Int × List Pr)(n:Int):Int × List Pr:=if n<0 then(s.1 - n,s.2) else if 0<n then(s.1+1,s.2++[(s.1,n)]) else(s.1+1,s.2)
def U_(s:Int × List Pr)(n:Int):s.1<(rS s n).1:=by unfold rS;(repeat' split)<;>simp<;>omega
def BJ:∀(l:List Int) (s:Int × List Pr),s.1<=(l.foldl rS s).1
 | [],_=>eB _
 | n::l,s=>by
  have z:=U_ s n;have y:=BJ l (rS s n);simp only[fM];omega
def py(a:Int):List Pr->Int
 | []=>a
 | p::l=>py (p.1+1) l
def Tc(a g:Int)(z:List Pr)(h:0<=g):(nE g).foldl rS (a,z)=(a+g,z):=by
 unfold nE;split
 .rename_i e;subst e;simp[rS]
 .split
  .have y:-g<0:=aa
   simp only[fM,List.foldl_nil,rS,aH y,fs,and_true];omega
  .have:g=0:=aa
   subst this;simp
def Sk:∀(l:List Pr) (a:Int) (acc:List Pr),ji l->i' l->(∀p∈l,a<=p.1)->(v_ a l).foldl rS (a,acc)=(py a l,acc++l)
 | [],a,acc,_,_,_=>by simp[v_,py]
 | p::l,a,acc,s,hp,h=>by
  have y:=aR.1 s;have u:=h p (aJ ..);have v:=hp p (aJ ..);have x:¬p.2<0:=aa;have e:rS (a+(p.1 - a),acc) p.2=(p.1+1,acc++[p]):=by
   unfold rS;simp only[aF x,aH v];rw[show a+(p.1 - a)=p.1 by omega]
  rw[v_,dN,Tc _ _ _ aa,fM,e,Sk l (p.1+1) _ y.2 (λq z=>hp q (aQ _ z)) (λq z=>by have:=y.1 q z;omega)];simp[py]
def NI{M:Int}:∀{l:List Pr} {a:Int},a<=M->(∀p∈l,p.1<M)->py a l<=M
 | [],_,h,_=>h
 | p::l,_,_,h=>NI (l:=l) (a:=p.1+1) (aa2 (h p (aJ ..))) (λq z=>h q (aQ _ z))
def QJ{l:List Pr}{M:Int}(s:ji l)(v:i' l)(z:∀p∈l,0<=p.1/\p.1<M)(u:1<=M):((As l).foldl rS (0,[])).2=l/\∀j,(((As l).take j).foldl rS (0,[])).1<=M:=by
 have y:((As l).foldl rS (0,[])).2=l/\((As l).foldl rS (0,[])).1<=M:=by
  unfold As;split
  .rename_i e;subst e;simp[rS];omega
  .rw[Sk l 0 [] s v (λp h=>(z p h).1)]
   exact⟨ad,NI aa (λp h=>(z p h).2)⟩
 refine⟨y.1,λj=>?_⟩;have x:=BJ ((As l).drop j) (((As l).take j).foldl rS (0,[]));rw[<-dN,bL] at x;have:=y.2;omega
def Td{j:Nat}(h:j<ab0 l)(s:Int × List Pr):(l.take (j+1)).foldl rS s=rS ((l.take j).foldl rS s) l[j]:=by rw[aM h,dN];rfl
def KH(l:List Int):0<=(l.foldl rS (0,[])).1:=BJ l (0,[])
def DI(g:Int):ab0 (nE g)<=1:=by unfold nE;(repeat' split)<;>simp
def xp:∀(l:List Pr) (a:Int),ab0 (v_ a l)<=2 * ab0 l
 | [],_=>by simp[v_]
 | p::l,a=>by
  have z:=DI (p.1 - a);have y:=xp l (p.1+1);rw[v_,aE,aK,aK];omega
def Jd(l:List Pr):ab0 (As l)<=2 * ab0 l+1:=by
 unfold As;split
 .simp
 .have:=xp l 0;omega
def tM:∀(l:List Int),ab0 l<=ab0 (lj l)/\ab0 (lj l)<=9 * ab0 l
 | []=>by simp[lj]
 | n::l=>by
  have z:=sS n;have y:=tM l;have e:lj (n::l)=nn n++lj l:=rfl;rw[e,aE,aK];omega
def lC(a b:List Int):lj (a++b)=lj a++lj b:=List.flatMap_append
def mY(l:List Pr):1<=ab0 (lB l)/\ab0 (lB l)<=18 * ab0 l+9:=by
 have z:=Jd l;have y:=tM (As l);have x:1<=ab0 (As l):=by
  unfold As;split
  .simp
  .rename_i h
   cases l with
   | nil=>exact absurd rfl h
   | cons p l=>rw[v_,aE,aK];omega
 unfold lB;omega
def rT(lo z dg:Int)(l:List Pr):ab0 (hwB lo z dg l)=40+ab0 (lB l):=by unfold hwB uZ;simp only[aE,ix]
def QK{g x:Int}(h:g<=16777216)(z:x∈nE g):-16777216<=x/\x<=0:=by
 unfold nE at z;split at z
 .have:x=0:=by simpa using z
  omega
 .split at z
  .have:x=-g:=by simpa using z
   omega
  .cases z
def NJ:∀{l:List Pr} {a:Int},0<=a->(∀p∈l,0<=p.1/\p.1<=16777216/\0<p.2/\p.2<=4611686018427387904)->∀x∈v_ a l,-16777216<=x/\x<=4611686018427387904
 | [],_,_,_,x,hx=>by cases hx
 | p::l,a,ha,h,x,hx=>by
  have y:=h p (aJ ..);rw[v_] at hx;rcases cz.1 hx with hx|hx
  .have:=QK aa hx;omega
  .rcases aS.1 hx with rfl|hx
   .omega
   .exact NJ aa (λq z=>h q (aQ _ z)) x hx
def NK{l:List Pr}(h:∀p∈l,0<=p.1/\p.1<=16777216/\0<p.2/\p.2<=4611686018427387904):∀x∈As l,-16777216<=x/\x<=4611686018427387904:=λx z=>by
 unfold As at z;split at z
 .have:x=0:=by simpa using z
  omega
 .exact NJ (eB _) h x z
def U'{v:Int}(y:-9223372036854775808<=v)(u:v<=9223372036854775807):jE (nn v):=by
 have:=j9 y u
 -- nine bytes: the last may be any byte
 have t:∀(k:Nat) (n:Int),0<=n->n<256 * 128 ^ k->jE (ko k n):=by
  intro k
  induction k with
  | zero=>intro n a b x z;simp only[ko,bQ] at z;subst z;simp at b;omega
  | succ k ih=>
   intro n a b x z;unfold ko at z;split at z
   .rcases aS.1 z with rfl|z
    .omega
    .exact ih (n / 128) aa (cj aa (by rw[bF,<-ch];exact b)) x z
   .simp only[bQ] at z;subst z;omega
 exact t 8 _ this.1 aa
def Te(h:∀x∈l,-9223372036854775808<=x/\x<=9223372036854775807):jE (lj l):=λb z=>by
 obtain⟨x,y,z⟩:=gC.1 z;exact U' (h x y).1 (h x y).2 b z
def pc(m bk:Nat):Nat:=(bk+1) * 2 ^ (m - 1)
section
variable {lo hi dg u m bk : Nat} {gr : Bool} {l : List Pr}
def NL{v:Nat}(y:1<=m)(t:v<9223372036854775808)(h:1+jg u m v<=bk):oJ u m v<pc m bk:=by
 have z:=Aq (u:=u) (m:=m) (v:=v) aa;rw[Dn y] at z;unfold oJ pc;have x:jg u m v * 2 ^ (m - 1)+2 * 2 ^ (m - 1)<=(bk+1) * 2 ^ (m - 1):=by rw[<-eD];exact cN _ aa
 omega
def jn.pb(h:jn lo hi dg u m gr bk l):∀p∈l,0<=p.1/\p.1<=16777216/\0<p.2/\p.2<=4611686018427387904:=λp z=>by
 have y:=h.kb p z;have x:=h.pos p z;have v:=mC h.pos p z;have:=h.sum;omega
def jn.cells(h:jn lo hi dg u m gr bk l):∀p∈l,0<=p.1/\p.1<(pc m bk:Int):=λp y=>by
 obtain⟨v,x,e,z⟩:=h.key p y;have:=NL h.sh.mb.1 x z;omega
end
def Va:FL 0 98 1:=xY 0 98 1 ab
def Vb:FL 4 87 4:=xY 4 87 4 ab
def Vc:FL 6 81 8:=xY 6 81 8 ab
def XR:FL 7 118 0:=xY 7 118 0 ab
def XS:VZ 9 110:=by
 have h:=xY 9 110 0 ab;exact⟨h.e,h.lt,h.no,h.yes,h.WG⟩
def bE:vT Int where
 k:=1
 t:=5
 enc x:=[.int .u8 x]
 len _:=rfl
 one x u hu:=by
  simp only[aS,cx,or_false] at hu;subst hu;rfl
def bI:(prog.info? 5).map (λi=>(i.zero,i.size,i.bytes))=some (some (.int .u8 0),1,1):=by kernel_rfl
def uI:Ty prog bE 37:=rg bI underlying37 rfl ab  ab
def Je:∀l:List Int,cellsE bE l=l.map (Value.int .u8)
 | []=>rfl
 | x::l=>by rw[i9,Je l];rfl
def hY{base:Nat}{w:World}{v:Value}{l:List Int}:OwnB base w v l<->g8 bE base w v l:=by
 unfold OwnB hO g8;rw[Je];rfl
def GN:∀(K:Nat) (n:Int) (j:Nat),j<K->(jS K n)[j]?=some (n / 2 ^ (8 * (K - 1 - j)) % 256)
 | K+1,n,j,h=>by
  rw[jS];rcases bm j K with z|z
  .rw[cD (by rw[ix];exact z),GN K _ j z,cS aa]
   have e:(256:Int) * 2 ^ (8 * (K - 1 - j))=2 ^ (8 * (K+1 - 1 - j)):=by
    rw[show K+1 - 1 - j=K - 1 - j+1 by omega,fX,dQ,cd];rfl
   rw[e]
  .obtain rfl:j=K:=aa
   rw[cI (by rw[ix];exact aD _),ix];simp
def At(g z K:Nat)(n:Int)(x:List Int)(w:World)(h:Wr 373 z w g x)(n0:0<=n)(n1:n<18446744073709551616)(u:K<=8)(hl:ab0 x<=1000000000000):af4 af5 403 #[aq g,.int .u64 n,af6 K] w λe t=>e=.returned (.tuple #[])/\Wr 373 z t g (x++jS K n)/\Below z w t:=by
 have H:=ax h;have hlt:=h.lt;clear h;have I:Hid (ad0 .i64 ((K:Int) - 1)=(K:Int) - 1):=ax ah;have B:=I.o;go_in;go_wp2;go_loopg [6] K (λq i wr=>∃j:Nat,q=K - j/\j<=K/\i=af6 ((K:Int) - 1 - j)/\Hid (Wr 373 z wr g (x++(jS K n).take j))/\Below z w wr)
 exact⟨0,rfl,aa,ad,by rw[dm,bP];exact H,aC _ _⟩
 case round=>
  obtain⟨j,y,hj,rfl,L,b⟩:=hrel;have D:=ax y;have hz:=b.size;clear y B;by_cases W:j<K
  .have⟨i,f⟩:=ar (K - 1 - j)
   have m:(K:Int) - 1 - j=(i:Int):=aa;rw[m];have hi0:(0:Int)<=(i:Int):=aa;have⟨s,d⟩:=ar (8 * i);have ac1:s<64:=aa;have G:Hid (ad0 .i64 (8 * (i:Int))=(s:Int)):=ax ah;have J:Hid (ad0 .i64 ((i:Int) - 1)=(i:Int) - 1):=ax ah;have r:(jS K n)[j]?=some (n / 2 ^ s % 256):=by rw[GN K n j W,f,d]
   have C:ad0 .u8 (n / 2 ^ s)=n / 2 ^ s % 256:=rfl;have⟨y,v⟩:=ar (n / 2 ^ s % 256);rw[v] at r C;have F:=ax (by rw[List.take_add_one,r];rfl:(jS K n).take (j+1)=(jS K n).take j++[y]);clear v;obtain⟨l,v,q,p⟩:=L.o;have V:=ax q;have S:=ax p;have o:ab0 (x++(jS K n).take j)+1<=1099511627776:=by
    have c:=ix K n;rw[aE,aU];omega
   clear q p d f r;have X:g7 wr.drew g 373 #[v]:=V.o.drew;generalize (jS K n).take j=T at *;obtain⟨p,a,M,_,_,_⟩:=(hO.rd S.o).form;have⟨d,r⟩:=ar (ab0 (x++T));rw[r] at M;subst M;clear r;have U:Hid (g7 (wr.alloc (.cells #[.int .u8 y] 5)).drew g 373 #[.slice p d a]):=ax (V.o.alloc _).drew;have r:Hid (g8 bE z (wr.alloc (.cells #[.int .u8 y] 5)).drew (.slice p d a) (x++T)):=ax (g8.alloc (hY.1 S.o) _).drew;have O:Below z w (wr.alloc (.cells #[.int .u8 y] 5)).drew:=(b.alloc aa _).drew;go_upto_region 3 with fail;refine kr (λt=>g7 t g 373 #[.slice p d a]) 12 (hQ 0 10 (ik 10 (ik 11 []))) (X) ?_;iterate 10 refine jG (h:=λt q=>by have c:=g7.C q 0;simp only[az,ay] at c;have es:=G.o;exact af8) ?_
   refine pq λK u=>?_;go_simp;refine u _ _ (X.alloc _) ?_;clear u K;refine pq λK u=>?_;refine yq uI (.tmp 17) (.tmp 23) rfl r.o rfl _ [y] rfl (g8.one (E:=bE) wr.drew y _ rfl _ rfl).rd o ag ?_;intro v1 w1 Y q _;have f:=iG U.o r.o ab q;have A:Below z w w1:=O.grown q (aa2 O.size) (λk R=>(g8.lt r.o k R).1);have R:=ax (lV (i:=0) U.o r.o ab q Y);obtain⟨k,c1,Q,_,_,_⟩:=Y.form;have⟨N1,P⟩:=ar (ab0 (x++T++[y]));rw[P] at Q;subst Q;clear P Y q;refine u _ _ (f) ?_;clear u K;refine hN ?_;simp only[aX,bj];have c:=f.k0;have Y:=f.F 0;go_wp21;refine g6 ?_;have q:=J.o;go_wp2;go_roundg (K - (j+1))
   case measure=>have:=D.o;omega
   case rel=>
    refine⟨j+1,rfl,aa,?_,?_,A.setCell aa _⟩
    .congr 1;omega
    .rw[F.o,<-aN]
     exact ax ⟨l,_,R.o.1,hY.2 R.o.2⟩
  .obtain rfl:j=K:=aa
   have s:((j:Int) - 1 - j)=-1:=aa;rw[s];have y:=L;rw[bc (by rw[ix];exact aD _)] at y;go_wp21;refine ct (v:=.tuple #[]) (by simp[results,Tryz.results403,go_sem, *];try rfl) rfl ?_;exact⟨rfl,y.o,b⟩
def KI(g z:Nat)(n:Int)(y:List Int)(w:World)(h:Wr 373 z w g y)(n0:0<=n)(n1:n<256)(o:ab0 y<=1000000000000):af4 af5 401 #[aq g,.int .u64 n,af6 1] w λe u=>e=.returned (.tuple #[])/\Wr 373 z u g (y++[n])/\Below z w u:=by
 have H:=ax h;have hlt:=h.lt;clear h;have d:ad0 .u8 n=n:=by rw[show ad0 .u8 n=n % 256 from rfl];omega
 have M:=ax d;clear d;go_in;go_wp2;go_loopg [8] 1 (λq i wr=>∃j:Nat,q=1 - j/\j<=1/\i=af6 j/\Hid (Wr 373 z wr g (y++[n].take j))/\Below z w wr)
 exact⟨0,rfl,aa,rfl,by rw[dm,bP];exact H,aC _ _⟩
 case round=>
  obtain⟨j,x,m,rfl,b,c⟩:=hrel;have L:=ax x;have hz:=c.size;clear x;by_cases W:j<1
  .obtain rfl:j=0:=aa
   rw[dm,bP] at b;obtain⟨G,v,x,t⟩:=b.o;have V:=ax x;have T:=ax t;have F:ab0 y+1<=1099511627776:=aa;clear x t;have X:g7 wr.drew g 373 #[v]:=V.o.drew;obtain⟨r,a,O,_,_,_⟩:=(hO.rd T.o).form;have⟨p,x⟩:=ar (ab0 y);rw[x] at O;subst O;clear x;have U:Hid (g7 (wr.alloc (.cells #[.int .u8 n] 5)).drew g 373 #[.slice r p a]):=ax (V.o.alloc _).drew;have t:Hid (g8 bE z (wr.alloc (.cells #[.int .u8 n] 5)).drew (.slice r p a) y):=ax (g8.alloc (hY.1 T.o) _).drew;have P:Below z w (wr.alloc (.cells #[.int .u8 n] 5)).drew:=(c.alloc aa _).drew;have d:=M.o;have J:ad0 .i64 0=0:=rfl;go_upto_region 3 with fail;refine kr (λu=>g7 u g 373 #[.slice r p a]) 12 (hQ 0 10 (ik 10 (ik 11 []))) (X) ?_;iterate 10 refine jG (h:=λu x=>by have f:=g7.C x 0;simp only[az,ay] at f;have l:=J;exact af8) ?_
   refine pq λK x=>?_;go_simp;refine x _ _ (X.alloc _) ?_;refine pq λK x=>?_;refine yq uI (.tmp 15) (.tmp 21) rfl t.o rfl _ [n] rfl (g8.one (E:=bE) wr.drew n _ rfl _ rfl).rd F ag ?_;intro v1 D Y s _;have q:=iG U.o t.o ab s;have I:Below z w D:=P.grown s (aa2 P.size) (λk S=>(g8.lt t.o k S).1);have S:=ax (lV (i:=0) U.o t.o ab s Y);obtain⟨C,A,R,_,_,_⟩:=Y.form;have⟨B,Q⟩:=ar (ab0 (y++[n]));rw[Q] at R;subst R;clear Q Y s;refine x _ _ (q) ?_;refine hN ?_;simp only[aX,bj];have f:=q.k0;have s:=q.F 0;go_wp21;refine g6 ?_;go_wp2;go_roundg 0
   exact⟨1,rfl,aa,af,ax ⟨G,_,S.o.1,hY.2 S.o.2⟩,I.setCell aa _⟩;have:=L.o;omega
  .obtain rfl:j=1:=aa
   have t:=b;go_wp21;refine ct (v:=.tuple #[]) (by simp[results,Tryz.results401,go_sem, *];try rfl) rfl ?_;exact⟨rfl,t.o,c⟩
def Aw(g c:Nat)(v s:Int)(f:List Int)(w:World)(h:Wr 373 c w g f)(R:-9223372036854775808<=v)(Q:v<=9223372036854775807)(hl:ab0 f<=1000000000000):af4 af5 409 #[aq g,.int .u64 (ub v),af6 s] w λe J=>e=.returned (.tuple #[])/\Wr 373 c J g (f++nn v)/\Below c w J:=by
 have H:=ax h;have hlt:=h.lt;have y:=oG R Q;have sb:=j9 R Q;have CS:=ax (Da v w R Q);clear h;have h:Hid (nn v=ko 8 (oF v)):=ax rfl;rw[h.o];generalize oF v=z at *;generalize ub v=u at *;go_in;go_wp21;refine Ix CS.o ?_;clear y;go_wp2;go_loopg [1,9] 8 (λk x i wr=>∃(m:Int) (t:List Int) (j:Nat),k+j=8/\i=af6 j/\x=.int .u64 m/\0<=m/\m<256 * 128 ^ k/\ab0 t<=8 - k/\Hid (t++ko k m=ko 8 z)/\Hid (Wr 373 c wr g (f++t))/\Below c w wr)
 exact⟨z,[],0,aa,rfl,rfl,sb.1,aa,ad,ax rfl,by rw[bP];exact H,aC _ _⟩
 case round=>
  obtain⟨m,t,j,hkj,rfl,rfl,m0,W,ha,O,hw,hb⟩:=hrel;obtain⟨hbg,v1,y,r⟩:=hw.o;have F:=ax y;have D:=ax r;have Y:=y.k0;have S:=y.F 0;have hlg:=y.lt;have L:ab0 (f++t)+1<=1099511627776:=by rw[aE];omega
  obtain⟨I,n,o,_,_,_⟩:=(hO.rd D.o).form;have⟨C,x⟩:=ar (ab0 (f++t));rw[x] at o;subst o;have X:=ax (hY.1 D.o);clear y r x;have T:Hid (∀(y:Int) (V:Value) (p:World),g8 bE c p V (f++t++[y])->(wr.alloc (.cells #[.int .u8 y] 5)).grownBy p (Value.slice I C n).ownBlock->g7 p g 373 #[.slice I C n]/\Wr 373 c (p.setCell (af7 g 0) V) g (f++t++[y])/\Below c w p):=ax (λy V p x r=>by
   have P:=lV (i:=0) (F.o.alloc _) (X.o.alloc _) ab r x;exact⟨iG (F.o.alloc _) (X.o.alloc _) ab r,⟨hbg,_,P.1,hY.2 P.2⟩,(hb.alloc aa _).grown r (by simp only[aI];omega) (λk M=>(X.o.lt k M).1)⟩)
  by_cases M:gk=0
  .subst M
   obtain rfl:j=8:=aa;have K:m % 256=m:=by simp at W;omega
   have i:ad0 .u8 m=m:=K;go_wp2_with (at_builtin;refine oM uI rfl (.tmp 43) (.tmp 46) rfl (X.o.alloc _) rfl _ [m] rfl (iQ.ig (E:=bE) _ m _ rfl _ rfl _ ad) L ag ?_;intro V p x r _;obtain⟨G,A,b,_,_,_⟩:=x.form;have⟨B,a⟩:=ar (ab0 (f++t++[m]));rw[a] at b;subst b;clear a;obtain⟨d,y,U⟩:=T.o m _ p x r;have y:=ax y;have Y:=d.k0;have S:=d.F 0;clear x r)
   refine ct (v:=.tuple #[]) (by simp[results,Tryz.results409,go_sem, *];try rfl) rfl ?_;exact⟨rfl,by rw[<-O.o,<-aN];exact y.o,U.setCell aa _⟩
  .obtain⟨q,rfl⟩:∃q,gk=q+1:=⟨gk - 1,aa⟩
   have hj8:(j:Int)<8:=aa;by_cases l:127<m
   .have P:=ax (nL q m l)
    have hd:m / 128<256 * 128 ^ q:=cj aa (by rw[bF,<-ch];exact W);have o8:=R' (m % 256) aa  aa;have k:m % 256 % 128+128=m % 128+128:=aa;have hcm:¬m<=127:=aa;have o8':bits .or .u8 (ad0 .u8 m) 128=m % 128+128:=by rw[show ad0 .u8 m=m % 256 from rfl,o8,k]
    go_wp2_with (at_builtin;refine oM uI rfl (.tmp 28) (.tmp 32) rfl (X.o.alloc _) rfl _ [m % 128+128] rfl (iQ.ig (E:=bE) _ (m % 128+128) _ rfl _ rfl _ ad) L ag ?_;intro V p x r _;obtain⟨G,A,b,_,_,_⟩:=x.form;have⟨B,a⟩:=ar (ab0 (f++t++[m % 128+128]));rw[a] at b;subst b;clear a;obtain⟨d,y,U⟩:=T.o (m % 128+128) _ p x r;have y:=ax y;have Y:=d.k0;have S:=d.F 0;clear x r)
    go_roundg q
    exact⟨m / 128,t++[m % 128+128],j+1,aa,af,rfl,aa,hd,ae,by show _=_;rw[aN,<-O.o,P.o];rfl,by rw[<-aN];exact y,U.setCell aa _⟩;omega
   .have P:=ax (nM (q+1) m l)
    have K:m % 256=m:=aa;have i:ad0 .u8 m=m:=K;have hcm:m<=127:=aa;go_wp2_with (at_builtin;refine oM uI rfl (.tmp 17) (.tmp 20) rfl (X.o.alloc _) rfl _ [m] rfl (iQ.ig (E:=bE) _ m _ rfl _ rfl _ ad) L ag ?_;intro V p x r _;obtain⟨G,A,b,_,_,_⟩:=x.form;have⟨B,a⟩:=ar (ab0 (f++t++[m]));rw[a] at b;subst b;clear a;obtain⟨d,y,U⟩:=T.o m _ p x r;have y:=ax y;have Y:=d.k0;have S:=d.F 0;clear x r)
    refine bodyPost_ret (results_none rfl _ _ _) rfl ?_;exact⟨rfl,by rw[<-O.o,P.o,<-aN];exact y.o,U.setCell aa _⟩
inductive PL
 | lv (a:Int)|lz (a:Int)|lb (a:Int)|lW (a:Int)|lQ (a:Int)|ln (a:Int)
def PL.k:PL->Nat|.lv _=>7|.lz _=>8|.lb _=>0|.lW _=>4|.lQ _=>6|.ln _=>9
def PL.c:PL->UInt8|.lv _=>118|.lz _=>122|.lb _=>98|.lW _=>87|.lQ _=>81|.ln _=>110
def PL.sz:PL->Int|.lb _=>1|.lW _=>4|.lQ _=>8|_=>0
def PL.num:PL->Int|.lv a=>a|.lz a=>ub a|.lb a=>a|.lW a=>a|.lQ a=>a|.ln a=>ub a
def PL.o:PL->List Int|.lv a=>il a|.lz a=>zg a|.lb a=>[a]|.lW a=>jS 4 a|.lQ a=>jS 8 a|.ln a=>nn a
def PL.ok:PL->Prop
 | .lv a=>0<=a/\a<18446744073709551616
 | .lz a=>-9223372036854775808<=a/\a<=9223372036854775807
 | .lb a=>0<=a/\a<256
 | .lW a=>0<=a/\a<4294967296
 | .lQ a=>0<=a/\a<18446744073709551616
 | .ln a=>-9223372036854775808<=a/\a<=9223372036854775807
def XV:FL 8 122 0:=xY 8 122 0 ab
def Vd:FL 9 110 0:=xY 9 110 0 ab
def PL.fl:∀x:PL,FL x.k (x.c.toNat:Int) x.sz
 | .lv _=>XR|.lz _=>XV|.lb _=>Va|.lW _=>Vb|.lQ _=>Vc|.ln _=>Vd
def PL.len:∀x:PL,ab0 x.o<=10
 | .lv _=>(hM _).2|.lz a=>(hM (oF a)).2|.lb _=>by show 1<=10;omega
 | .lW a=>by show(jS 4 a).length<=10;rw[ix];omega
 | .lQ a=>by show(jS 8 a).length<=10;rw[ix];omega
 | .ln a=>by have:=(sS a).2;show(nn a).length<=10;omega
def PL.writes(x:PL)(h:x.ok)(g z:Nat)(y:List Int)(w:World)(u:Wr 373 z w g y)(v:ab0 y<=1000000000000):Calls prog (pZ x.k) #[aq g,.int .u64 x.num,af6 x.sz] w λe t=>e=.returned (.tuple #[])/\Wr 373 z t g (y++x.o)/\Below z w t:=
 match x,h with
 | .lv a,h=>tv g z a 0 y w u h.1 h.2 v
 | .lz a,h=>Db g z a 0 y w u h.1 h.2 v
 | .lb a,h=>KI g z a y w u h.1 h.2 v
 | .lW a,h=>At g z 4 a y w u h.1 (aa2 h.2) aa v
 | .lQ a,h=>At g z 8 a y w u h.1 h.2 aa v
 | .ln a,h=>Aw g z a 0 y w u h.1 h.2 v
def PL.rng(x:PL)(h:x.ok):x.sz=0\/x.sz=8\/(x.sz=1/\x.num / 256=0)\/(x.sz=4/\x.num / 4294967296=0):=
 match x,h with
 | .lv _,_=>.inl rfl|.lz _,_=>.inl rfl|.ln _,_=>.inl rfl
 | .lb a,h=>.inr (.inr (.inl ⟨rfl,by show a / 256=0;have:=h.1;have:=h.2;omega⟩))
 | .lW a,h=>.inr (.inr (.inr ⟨rfl,by show a / 4294967296=0;have:=h.1;have:=h.2;omega⟩))
 | .lQ _,_=>.inr (.inl rfl)
def PL.enter:∀(x:PL) (z:Array Value) (w:World),(callFunc (pZ x.k) z).run prog w=.ok (.enter (pZ x.k) z) w
 | .lv _,_,_=>rfl|.lz _,_,_=>rfl|.lb _,_,_=>rfl|.lW _,_,_=>rfl|.lQ _,_,_=>rfl|.ln _,_,_=>rfl
def Jf:List PL->Nat->List Int
 | _,0=>[]
 | [],_=>[]
 | x::l,j+1=>x.o++Jf l j
def kJ:List PL->Prop
 | []=>True
 | x::l=>x.ok/\kJ l
def GO:∀(l:List PL),kJ l->∀(j:Nat) (h:j<ab0 l),l[j].ok
 | _::_,h,0,_=>h.1
 | _::l,h,j+1,hj=>GO l h.2 j (by simp only[aK] at hj;omega)
def DJ:∀(l:List PL) (j:Nat) (h:j<ab0 l),Jf l (j+1)=Jf l j++l[j].o
 | x::l,0,_=>by simp[Jf]
 | x::l,j+1,h=>by
  have z:=DJ l j (by simp only[aK] at h;omega);simp only[dR];rw[Jf,z,<-aN];rfl
def Jg:∀(l:List PL) (j:Nat),ab0 (Jf l j)<=10 * ab0 l
 | _,0=>by simp[Jf]
 | [],_+1=>by simp[Jf]
 | x::l,j+1=>by
  have z:=Jg l j;have y:=x.len;simp only[Jf,aE,aK];omega
section
variable (l : List PL)
def DK:ByteArray:=⟨(l.map PL.c).toArray⟩
def u_:(DK l).size=ab0 l:=by show((l.map PL.c).toArray).size=_;simp
def Jh(j:Nat)(h:j<(DK l).size)(w:World):af4 af5 276 #[.int .u8 (((DK l)[j]'h).toNat:Int)] w λe v=>e=.returned (.tuple #[.agg #[.int .u8 (((DK l)[j]'h).toNat:Int),af6 (((l[j]?).map PL.sz).getD 0),.func (.func (((l[j]?).map (λx=>pZ x.k)).getD 0)) #[] #[],.func (.func (((l[j]?).map (λx=>sG x.k)).getD 0)) #[] #[]],.bool true])/\af3 w v:=by
 have y:j<ab0 l:=by rw[u_] at h;exact h
 have z:((DK l)[j]'h)=l[j].c:=(List.getElem_toArray ..).trans (List.getElem_map ..)
 rw[z,aL y];exact vM _ _ _ w (l[j].fl)
def yA(h:ab0 l<=64)(w:World):af4 af5 275 #[.string (DK l)] w (au w (.bool true)):=
 C6 _ _ _ _ w (by rw[u_];exact h) (Jh l)
def GP(h:ab0 l<=64)(u:kJ l){o:List Int}(q:Jf l (ab0 l)=o){v:Value}{w:World}(p:jC .u64 w v (l.map PL.num)):af4 af5 195 #[.string (DK l),v] w λe s=>∃v,e=.returned (.tuple #[v,af6 0])/\OwnB w.heap.size s v o/\af3 w s:=by
 subst q;have y:ab0 (l.map PL.num)=ab0 l:=dy ..;have t:=MZ (DK l) (l.map PL.num) (λj=>((l[j]?).map (λx=>pZ x.k)).getD 0) (λj=>((l[j]?).map (λx=>sG x.k)).getD 0) (λj=>((l[j]?).map PL.sz).getD 0) (Jf l) v w p
  (by rw[u_,y]) (by rw[y];exact h) (by cases l<;>rfl) (Jh l)
  (λj x=>by rw[y] at x;simp only[aL x,df,br];exact l[j].enter)
  (λj x=>by
   have z:=x;rw[y] at z;simp only[aL z,df,br,fB];exact l[j].rng (GO l u j z))
  (λj x g r w f=>by
   have z:=x;rw[y] at z;simp only[aL z,df,br,fB];rw[DJ l j z];exact l[j].writes (GO l u j z) g r _ w f (aa2 (Jg l j)))
 rw[y] at t;exact t
end
