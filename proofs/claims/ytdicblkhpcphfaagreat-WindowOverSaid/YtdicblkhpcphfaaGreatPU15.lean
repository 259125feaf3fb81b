/- Parts. -/
import Derived.Test.YtdicblkhpcphfaaGreatPU14
set_option maxRecDepth 100000
set_option maxHeartbeats 0
set_option linter.all false
namespace Go.Proofs.YtdicblkhpcphfaaGreat
open Tryz Go.RowKit Go.Lib Go.Shelf
open _root_.List renaming length→ab0
open Go.IntKind renaming wrap→ad0
open _root_.Go renaming Calls→af4
open Tryz renaming prog→af5
namespace D
variable{bs r:List Int}{a b g m:Nat}{w:World}{n:Int}{u:Value}{l q:List Pr}
def RV(g:Nat):Value:=.agg #[.func (.func 330) #[aq g] #[]]
def pd(w:World)(g:Nat)(bs:List Int)(a:Nat)(v:Value)(e:Ending)(w':World):Prop:=e=.returned v/\hT w' g bs a/\Touch (λk=>k=g) w w'
def DO{x:List Int}(z:a<=ab0 bs)(h:bs.drop a=x++r):ab0 bs - ab0 r=a+ab0 x:=by
 have:=bu List.length h;rw[aW,aE] at this;omega
def GS(h:hT w g bs a):a<=ab0 bs:=by
 obtain⟨_,_,_,h⟩:=h;exact h
def rU(w:World)(h:hT w g bs a)(t:jE bs)(s:ab0 bs<=1000000000000)(x:bs.drop a=il n++r)(q:0<=n)(p:n<18446744073709551616):af4 af5 330 #[aq g,.int .u8 118] w (pd w g bs (a+ab0 (il n)) (.tuple #[.int .u64 n,af6 0])):=by
 refine(p9 g bs a w h t s).M ?_;intro e f z;unfold mU at z;rw[x,jr q p] at z;obtain⟨v,y,u⟩:=z;rw[DO (GS h) x] at y;exact⟨v,y,u⟩
def KQ{x:Int}(w:World)(h:hT w g bs a)(q:jE bs)(f:ab0 bs<=1000000000000)(p:bs.drop a=zg x++r)(d:-9223372036854775808<=x)(c:x<=9223372036854775807):af4 af5 330 #[aq g,.int .u8 122] w (pd w g bs (a+ab0 (zg x)) (.tuple #[.int .u64 (ub x),af6 0])):=by
 refine(sL g bs a w h q f).M ?_;intro e b z;unfold mU at z;have u:=j9 d c;have v:bs.drop a=il (oF x)++r:=p;rw[v,jr u.1 u.2] at z;obtain⟨t,y,s⟩:=z;rw[DO (GS h) v] at y;refine⟨?_,y,s⟩;rw[t];have:lH (oF x)=x:=by unfold lH oF;split<;>split<;>omega
 simp only[this]
def od{lo hi:Int}(w:World)(h:hT w g bs a)(y:jE bs)(u:ab0 bs<=1000000000000)(x:bs.drop a=il n++r)(t:0<=n)(s:n<18446744073709551616)(d:lo<=n)(f:n<=hi):af4 af5 341 #[RV g,.int .u8 118,.int .u64 lo,.int .u64 hi] w (pd w g bs (a+ab0 (il n)) (.int .u64 n)):=by
 have C:Hid (∀z,af3 w z->_):=ax (λz v=>rU z (h.K v) y u x t s);have p:∀z w,(callFunc 330 z).run prog w=.ok (.enter 330 z) w:=λ_ _=>rfl;clear h y x;unfold RV;go_in;go_wp21;refine RX (C.o _ (bw)) ?_;rintro q ⟨z,y⟩;have x:=ax z;have v:Hid (Touch (λk=>k=g) w q):=ax ((((Touch.refl _ _).alloc _).T y (λi hi=>.inl hi)));clear z y;go_wp2;go_ret;exact⟨rfl,x.o,v.o⟩
def Ay(q:List Pr)(j:Nat):∀k,j<k->∃t,l9 q k=l9 q j++(FI q j++(il (nP q j).2++t))
 | 0,h=>by omega
 | k+1,h=>by
  rcases fY (Nat.le_of_lt_succ h) with z|rfl
  .obtain⟨t,y⟩:=Ay q j k z
   exact⟨t++(FI q k++il (nP q k).2),by simp only[l9,y,aN]⟩
  .exact⟨[],by simp only[l9,bP,aN]⟩
def drop_at{bs:List Int}{q:List Pr}{r:List Int}{a j:Nat}(z:bs.drop a=l9 q (ab0 q)++r)(y:j<ab0 q):∃t,bs.drop (a+ab0 (l9 q j))=FI q j++(il (nP q j).2++t)/\bs.drop (a+ab0 (l9 q j)+ab0 (FI q j))=il (nP q j).2++t:=by
 obtain⟨t,x⟩:=Ay q j (ab0 q) y;have e:bs.drop (a+ab0 (l9 q j))=FI q j++(il (nP q j).2++(t++r)):=by
  rw[<-cQ,z,x,aN,dA];simp only[aN]
 refine⟨t++r,e,?_⟩;rw[<-cQ,e,dA]
def OwnB.X9{b':Nat}{v:Value}(h:OwnB b w v bs)(q:g8 iF b' w u l){k:Nat}(y:v.ownBlock=some k):u.ownBlock≠some k:=by
 intro e;rcases h.2 with t|⟨Y,p,f,rfl,c,x,r⟩
 .rw[t.1] at y;cases y
 .rcases q.2 with s|⟨X,g,d,rfl,a,z,V⟩
  .rw[s.1] at e;cases e
  .cases y
   cases e
   rw[x] at z;injection z with z;injection z with _ e7;exact absurd e7 ab
def vd{w':World}(h:hT w g bs a)(s:g8 iF b w u l)(x:w.grownBy w' u.ownBlock):hT w' g bs a:=by
 obtain⟨v,z,y,r⟩:=h;exact⟨v,(x.block g z.lt (λe=>own_ne z s ab e.Y)).T z,hO.stay y (λk t=>x.block k (hO.lt y k t).2 (λe=>OwnB.X9 y s t e.Y)),r⟩
def xq{p:Nat}(h:hT w g bs a){T:TypeId}{cs:Array Value}(y:g7 w p T cs)(q:T≠462)(f:T≠5)(i:Nat)(u:Value):hT (w.setCell (af7 p i) u) g bs a:=by
 obtain⟨v,z,x,t⟩:=h;have r:g≠p:=λe=>by
  subst e;unfold g7 at z y;rw[y] at z;injection z with z;injection z with _ z;exact q z
 exact⟨v,z.far r u,hO.stay x (λk s=>a_ _ _ _ k (λe=>y.Bl x f (by rw[s,e]))),t⟩
def GU(w:World)(h:hT w g bs a)(x:jE bs)(hlen:ab0 bs<=1000000000000)(u:bs.drop a=l9 q (ab0 q)++r)(y:qP q):af4 af5 342 #[RV g,af6 (ab0 q)] w λe w'=>∃v,e=.returned v/\g8 iF w.heap.size w' v q/\hT w' g bs (a+ab0 (l9 q (ab0 q)))/\Touch (λk=>k=g) w w':=by
 have HB:=ax x;have HD:=ax (λj=>@drop_at bs q r a j u);have Sm:=ax y;have hql:=y.len;have eg:∀z w,(callFunc 330 z).run prog w=.ok (.enter 330 z) w:=λ_ _=>rfl;have HRV:Hid (RV g=.agg #[.func (.func 330) #[aq g] #[]]):=ax rfl;have H:=ax h;have hgl:=h.lt;rw[HRV.o];clear h x u y;go_in;go_wp21;obtain⟨X,y⟩:∃X,X=w.alloc (.cells #[.func (.func 330) #[aq g] #[]] 434):=⟨_,rfl⟩;have hb1:af3 w X:=by rw[y];exact bw
 have BR:Hid (g7 X w.heap.size 434 #[.func (.func 330) #[aq g] #[]]):=by show g7 _ _ _ _;rw[y];exact g7.new _ _ _
 rw[<-y];have⟨f,z⟩:=ar (w.heap.size);have NQ:=ax z;rw[z] at BR |-;have hrl:=BR.o.lt;clear y z
 go_loopg [5,12] (ab0 q) (λz y x wr=>∃(j:Nat) (u:Value),u=y/\z=ab0 q - j/\j<=ab0 q/\x=af6 j/\Hid (g8 iF X.heap.size wr u (q.take j))/\Hid (hT wr g bs (a+ab0 (l9 q j)))/\Hid (Touch (λk=>k=g) X wr))
 exact⟨0,_,rfl,aa,aa,rfl,ax (g8.nil_ _ _),ax (H.o.K hb1),ax (Touch.refl _ _)⟩
 case round=>
  obtain⟨j,u,rfl,z,hj,rfl,Y,HR,o⟩:=hrel;have HZ:=ax z;clear z;have hzw:=o.o.size;by_cases I:j<ab0 q
  .obtain⟨t,J,M⟩:=HD.o j I
   have HN:Hid (nP q j=q[j]):=ax (sw I);have hk:=Sm.o.key _ (aP I);have hp:=Sm.o.pos _ (aP I);have hp2:=mC Sm.o.pos _ (aP I);have ht:=Sm.o.tot;rcases bo j with rfl|hj0
   .have⟨m,ha0⟩:=ar (a+ab0 (l9 q 0))
    rw[ha0] at J M HR;simp only[FI,HN.o] at J M;have Vi:=ax (by rw[<-ha0,<-HN.o];simp only[l9,FI,aE];omega:a+ab0 (l9 q (0+1))=m+ab0 (zg q[0].1)+ab0 (il q[0].2));have Mq:=ax (by rw[aM I]:q.take 0++[(q[0].1,q[0].2)]=q.take (0+1));have D1:=ax J;have D2:=ax M;clear J M HN;generalize q[0].1=x at *;generalize q[0].2=n at *;have z:((0:Nat):Int)=0:=rfl;rw[z];clear z;go_upto_region 6 with fail;have⟨z,T⟩:=ar (wr.alloc (.cells #[af6 0,.int .u64 0] 192));have c:=ao T;have l:=an T rfl;have⟨p,hpp⟩:=ar (wr.heap.size);have Cu:g≠p:=by have:=hb1.size;omega
    have hrg:¬(f=g):=by have:=NQ.o;omega
    rw[hpp] at l;rw[T,hpp];clear T;have hp3:=l.o.lt;have U:=(((BR.o.C 0).Y.T (g9 o.o 0 hrl hrg).Y).Y);have hrw:f<wr.heap.size:=aa;have s:=(c.C (p:=af7 f 0) hrw).T U;simp only[az,ay] at s;go_wp21;refine RX (KQ z (HR.o.K c) HB.o hlen D1.o aa  aa) ?_;rintro b ⟨r4,O⟩;have R4:=ax r4;have T4:=ax O;have S:Hid (g7 b p 192 #[af6 0,.int .u64 0]):=(O.block p hp3 (λe=>Cu e.Y)).T l.o;clear r4 O;have K:ad0 .i64 (ub x)=x:=by rw[aO];unfold ub;omega
    have A:=S.o.k0;have q1:=S.o.k1;have f0:=S.o.F 0;have L:decide (x < -1048576)=false:=ae;have P:decide (x > 1048576)=false:=ae;have P5:Hid (g7 (b.setCell (af7 p 0) (af6 x)) p 192 #[af6 x,.int .u64 0]):=ax (S.o.hJ 0 _);have R5:Hid (hT (b.setCell (af7 p 0) (af6 x)) g bs _):=ax (xq R4.o S.o ab  ab 0 (af6 x));have T5:Hid (Touch (λk=>k=g\/k=p) z (b.setCell (af7 p 0) (af6 x))):=ax ((T4.o.M (λi v=>.inl v)).setCell (.inl (.inr rfl)) _);have Vj:¬(f=g\/f=p):=aa;have KR:Hid (g7 (b.setCell (af7 p 0) (af6 x)) f 434 _):=ax ((T5.o.block f (aa2 c.size) Vj).T ((c.block f hrw).T ((o.o.block f hrl hrg).T BR.o)));have B:=(KR.o.C 0);simp only[az,ay] at B;go_wp21;generalize b.setCell (af7 p 0) (af6 x)=w5 at *;have B:=(KR.o.C 0);simp only[az,ay] at B;refine RX (od w5 R5.o HB.o hlen D2.o aa  aa  aa  aa) ?_;rintro d ⟨r6,N⟩;have R6:=ax r6;have T6:Hid (Touch (λk=>k=g\/k=p) z d):=ax (T5.o.T N (λi v=>.inl (.inl v)));have V:Hid (g7 d p 192 #[af6 x,.int .u64 0]):=(N.block p P5.o.lt (λe=>Cu e.Y)).T P5.o;clear r6 N;have A:=V.o.k0;have q1:=V.o.k1;have f1:=V.o.F 1;have P7:Hid (g7 (d.setCell (af7 p 1) (.int .u64 n)) p 192 #[af6 x,.int .u64 n]):=ax (V.o.hJ 1 _);have R7:Hid (hT (d.setCell (af7 p 1) (.int .u64 n)) g bs _):=ax (xq R6.o V.o ab  ab 1 (.int .u64 n));have Q:Hid (Touch (λk=>k=g\/k=p) z (d.setCell (af7 p 1) (.int .u64 n))):=ax (T6.o.setCell (.inl (.inr rfl)) _);have C:Hid (g8 iF X.heap.size (d.setCell (af7 p 1) (.int .u64 n)) u (q.take 0)):=ax ((Y.o.K c).stay (λk hk=>Q.o.block k (aG (Y.o.lt k hk).2 c.size) (λe=>by have h1:=(Y.o.lt k hk);have:=hb1.size;have:=NQ.o;rcases e with e|e<;>omega)));have Sn:z.heap.size<=(d.setCell (af7 p 1) (.int .u64 n)).heap.size:=Q.o.size;obtain⟨s0,s1⟩:=P7.o.c2;have⟨w7,hw7⟩:=ar (d.setCell (af7 p 1) (.int .u64 n));rw[hw7] at P7 R7 Q C Sn s0 s1
    go_wp2_with (first
     | (at_builtin
        go_must (refine oM oB rfl (.tmp 56) (.tmp 58) rfl (C.o.K (bw)) rfl _ [(x,n)] rfl (iQ.ig (E:=iF) _ (x,n) _ rfl _ rfl _ rfl) (by simp only[aU,aK,aY];omega) ag ?_)
        intro v8 R D G _;have O8:=ax (by rw[<-Mq.o];exact D:g8 iF X.heap.size R v8 (q.take (0+1)));have R8:=ax (by rw[Vi.o];exact vd (R7.o.K (bw)) (C.o.K (bw)) G:hT R g bs (a+ab0 (l9 q (0+1))));have T8:Hid (Touch (λk=>k=g) X R):=ax (by
         have t8:Touch (λk=>k=g\/k=p\/u.ownBlock=some k) z R:=((Q.o.M (λi v=>v.imp id .inl)).alloc _).grown G (λk e=>.inl (.inr (.inr e)));exact(o.o.T (Touch.of_below (F:=λk=>k=g) c (aD _)) (λi v=>.inl v)).T t8 (λi v=>by
          rcases v with h|h|h
          .exact .inl h
          .exact .inr aa
          .exact .inr (Y.o.lt i h).1))
        obtain⟨A8,c8,rfl,_,_,_⟩:=D.form;clear D G))
    go_roundg (ab0 q - (0+1))
    exact⟨0+1,_,rfl,rfl,aa,af,O8,R8,T8⟩;have:=HZ.o;omega
   .obtain⟨s,rfl⟩:∃s,j=s+1:=⟨j - 1,aa⟩
    have hsl0:s<ab0 q:=aa;have Vf:=BL Sm.o I;have hk2:=Sm.o.key _ (aP hsl0);have W:Hid (nP q s=q[s]):=ax (sw hsl0);have⟨m,ha0⟩:=ar (a+ab0 (l9 q (s+1)));rw[ha0] at J M HR;simp only[FI,HN.o,W.o] at J M;have Vi:Hid (a+ab0 (l9 q (s+1+1))=m+ab0 (il (q[s+1].1 - q[s].1 - 1))+ab0 (il q[s+1].2)):=ax (by
     have e:l9 q (s+1+1)=l9 q (s+1)++il (q[s+1].1 - q[s].1 - 1)++il q[s+1].2:=by rw[<-HN.o,<-W.o];rfl
     rw[e,<-ha0];simp only[aE];omega)
    have⟨L,U⟩:=ar (q.take (s+1));have Mq:=ax (by rw[aM I,U]:L++[(q[s+1].1,q[s+1].2)]=q.take (s+1+1));have hLl:ab0 L=s+1:=by rw[<-U,aU];omega
    rw[U] at Y;obtain⟨Au,cu,rfl,_,_,hfu⟩:=Y.o.form;obtain⟨P,ou,rfl,hgu,K,e1⟩:=j' hfu (j:=s) (by omega);have hy:L[s].1=q[s].1:=by
     have:L[s]=q[s]:=by
      have h1:(q.take (s+1))[s]'(by rw[aU];omega)=q[s]:=gw;simp only[U] at h1;exact h1
     rw[this]
    rw[hy] at K;have E0:=ax K;have hsL:(s:Int)<(ab0 L:Int):=aa;have hLb:ab0 L<=100000:=aa;have hou:X.heap.size<=P:=by
     have:=Y.o.2;rcases this with h|⟨g',cap,cur,h,h2,_⟩
     .exact absurd h.1 ad
     .injection h with h;injection h with h;injection h with h;omega
    have D1:=ax J;have D2:=ax M;clear J M HN W K e1 hfu hy hLl U;generalize q[s+1].1=x at *;generalize q[s+1].2=n at *;generalize q[s].1=y at *;have Ky:Hid (ad0 .i64 (s:Int)=(s:Int)):=ax ah;have HW1:Hid (ad0 .i64 (y+1)=y+1):=ax ah;have HW2:Hid (ad0 .i64 (x - y - 1)=x - y - 1):=ax ah;have HW3:Hid (ad0 .i64 (y+1+(x - y - 1))=x):=ax ah;go_upto_region 6 with fail;have⟨z,T⟩:=ar (wr.alloc (.cells #[af6 0,.int .u64 0] 192));have c:=ao T;have l:=an T rfl;have⟨p,hpp⟩:=ar (wr.heap.size);have hz1:=hb1.size;have Cu:g≠p:=aa;have hrg:¬(f=g):=by have:=NQ.o;omega
    have Vk:¬(P=g\/P=p):=aa;have Vl:P<z.heap.size:=by have:=c.size;omega
    have E3:=ax ((c.C (p:=af7 P (ou+s * 2)) hgu).T E0.o);rw[hpp] at l;rw[T,hpp];clear T;have hp3:=l.o.lt;have hrw:f<wr.heap.size:=aa;have Vj:¬(f=g\/f=p):=aa;have hr3:f<z.heap.size:=by have:=c.size;omega
    have HB3:Hid (g7 z f 434 _):=ax ((c.block f hrw).T ((o.o.block f hrl hrg).T BR.o));go_upto_region 12 with fail;refine jh (Touch (λk=>k=g\/k=p) z) (hQ 0 8 (ik 8 (hQ 9 3 (ik 12 [])))) ((Touch.refl _ _).drew) ?_;iterate 8 refine ib (h:=λw' U=>by have k0:=(g9 U (ou+s * 2) Vl Vk).T E3.o;have W:=(g9 U 0 hr3 Vj).T (HB3.o.C 0);have hws:=Ky.o;have Vg:=HW1.o;have Vh:=HW2.o;have Uz:=HW3.o;simp only[az,ay] at W;exact af8) ?_
    refine iz λK T=>?_;go_simp;refine RX (od z.drew (hT.K (HR.o.K c) (aC _ _).drew) HB.o hlen D1.o aa  aa  aa  aa) ?_;rintro b ⟨r4,O⟩;have R4:=ax r4;have T4:Hid (Touch (λk=>k=g\/k=p) z b):=ax ((Touch.refl _ z).drew.T O (λi v=>.inl (.inl v)));have S:Hid (g7 b p 192 #[af6 0,.int .u64 0]):=(O.block p hp3 (λe=>Cu e.Y)).T l.o;clear r4 O;refine T _ _ (T4.o) ?_;iterate 3 refine ib (h:=λw' U=>by have k0:=(g9 U (ou+s * 2) Vl Vk).T E3.o;have W:=(g9 U 0 hr3 Vj).T (HB3.o.C 0);have hws:=Ky.o;have Vg:=HW1.o;have Vh:=HW2.o;have Uz:=HW3.o;simp only[az,ay] at W;exact af8) ?_
    refine iz λK T=>?_;have A:=S.o.k0;have f0:=S.o.F 0;have Uz:=HW3.o;go_simp;refine T _ _ (T4.o.setCell (.inl (.inr rfl)) _) ?_;refine g4 ?_;have P5:Hid (g7 (b.setCell (af7 p 0) (af6 x)) p 192 #[af6 x,.int .u64 0]):=ax (S.o.hJ 0 _);have R5:Hid (hT (b.setCell (af7 p 0) (af6 x)) g bs _):=ax (xq R4.o S.o ab  ab 0 (af6 x));have T5:Hid (Touch (λk=>k=g\/k=p) z (b.setCell (af7 p 0) (af6 x))):=ax (T4.o.setCell (.inl (.inr rfl)) _);have KR:Hid (g7 (b.setCell (af7 p 0) (af6 x)) f 434 _):=ax ((T5.o.block f hr3 Vj).T HB3.o);have B:=(KR.o.C 0);simp only[az,ay] at B;go_wp21;generalize b.setCell (af7 p 0) (af6 x)=w5 at *;have B:=(KR.o.C 0);simp only[az,ay] at B;refine RX (od w5 R5.o HB.o hlen D2.o aa  aa  aa  aa) ?_;rintro d ⟨r6,N⟩;have R6:=ax r6;have T6:Hid (Touch (λk=>k=g\/k=p) z d):=ax (T5.o.T N (λi v=>.inl (.inl v)));have V:Hid (g7 d p 192 #[af6 x,.int .u64 0]):=(N.block p P5.o.lt (λe=>Cu e.Y)).T P5.o;clear r6 N;have A:=V.o.k0;have q1:=V.o.k1;have f1:=V.o.F 1;have P7:Hid (g7 (d.setCell (af7 p 1) (.int .u64 n)) p 192 #[af6 x,.int .u64 n]):=ax (V.o.hJ 1 _);have R7:Hid (hT (d.setCell (af7 p 1) (.int .u64 n)) g bs _):=ax (xq R6.o V.o ab  ab 1 (.int .u64 n));have Q:Hid (Touch (λk=>k=g\/k=p) z (d.setCell (af7 p 1) (.int .u64 n))):=ax (T6.o.setCell (.inl (.inr rfl)) _);have C:Hid (g8 iF X.heap.size (d.setCell (af7 p 1) (.int .u64 n)) (.slice (some (af7 P ou)) (ab0 L) cu) L):=ax ((Y.o.K c).stay (λk hk=>Q.o.block k (aG (Y.o.lt k hk).2 c.size) (λe=>by have h1:=(Y.o.lt k hk);have:=hb1.size;have:=NQ.o;rcases e with e|e<;>omega)));have Sn:z.heap.size<=(d.setCell (af7 p 1) (.int .u64 n)).heap.size:=Q.o.size;obtain⟨s0,s1⟩:=P7.o.c2;have⟨w7,hw7⟩:=ar (d.setCell (af7 p 1) (.int .u64 n));rw[hw7] at P7 R7 Q C Sn s0 s1
    go_wp2_with (first
     | (at_builtin
        go_must (refine oM oB rfl (.tmp 56) (.tmp 58) rfl (C.o.K (bw)) rfl _ [(x,n)] rfl (iQ.ig (E:=iF) _ (x,n) _ rfl _ rfl _ rfl) (by simp only[aK,aY];omega) ag ?_)
        intro v8 R D G _;have O8:=ax (by rw[<-Mq.o];exact D:g8 iF X.heap.size R v8 (q.take ((s+1)+1)));have R8:=ax (by rw[Vi.o];exact vd (R7.o.K (bw)) (C.o.K (bw)) G:hT R g bs (a+ab0 (l9 q ((s+1)+1))));have T8:Hid (Touch (λk=>k=g) X R):=ax (by
         have t8:Touch (λk=>k=g\/k=p\/(Value.slice (some (af7 P ou)) (ab0 L) cu).ownBlock=some k) z R:=((Q.o.M (λi v=>v.imp id .inl)).alloc _).grown G (λk e=>.inl (.inr (.inr e)));exact(o.o.T (Touch.of_below (F:=λk=>k=g) c (aD _)) (λi v=>.inl v)).T t8 (λi v=>by
          rcases v with h|h|h
          .exact .inl h
          .exact .inr aa
          .exact .inr (Y.o.lt i h).1))
        obtain⟨A8,c8,rfl,_,_,_⟩:=D.form;rw[show(L++[(x,n)]).length=ab0 L+1 from ad] at O8;clear D G))
    go_roundg (ab0 q - ((s+1)+1))
    exact⟨(s+1)+1,_,rfl,rfl,aa,af,O8,R8,T8⟩;have:=HZ.o;omega
  .obtain rfl:j=ab0 q:=aa
   rw[bc (aD _)] at Y;go_wp2;go_ret;exact⟨_,rfl,Y.o.more (aa2 NQ.o),HR.o,(Touch.of_below (F:=λk=>k=g) hb1 (aD _)).T o.o (λi v=>.inl v)⟩
def DP(y:Nat)(w:World):CallsD prog 340 #[aq y] .returning w λe v u=>e=.returned (.tuple #[])/\v=.returning/\u=w:=by
 refine callsD_of_wpS func340 rfl λz x x=>?_;apply wpS_seq
 apply wpS_region
 simp[wpOpsS,go_sem,recoverD,x,ntmps340,Exit.thenS];refine wpS_of_wp ?_;go_wp2;cases z
 simp_all[bodyPostS,results,Tryz.results340]
def GV(x z:Nat)(w:World)(t:w.cell? (af7 z 0)=some (af6 0)):CallsD prog 339 #[aq z,aq x] .returning w λe v u=>e=.returned (.tuple #[])/\v=.returning/\u=w:=by
 refine callsD_of_wpS func339 rfl λy s s=>?_;refine wpS_of_wp ?_;go_wp2;cases y
 simp_all[bodyPostS,results,Tryz.results339]
def GW(y z:Nat)(w:World)(R:Ending->World->Prop)(x:Array Value)(q:x[2]?=some (aq y))(p:x[3]?=some (aq z))
 (v:Value) (s:w.cell? (af7 y 0)=some v) (u:w.cell? (af7 z 0)=some (af6 0)) (r:R (.returned (.tuple #[v,af6 0])) w) :
 Leaves prog Tryz.f269 x R [{target:=.fn (.func 340) #[],args:=#[aq z]},{target:=.fn (.func 339) #[aq z,aq y],args:=#[]}] .returning w:=by
 refine leaves_cons (f:=340) (args:=#[aq z]) ad (by simp[go_sem]) ?_;refine(DP z w).M ?_;rintro e g t ⟨rfl,rfl,rfl⟩;refine leaves_cons (f:=339) (args:=#[aq z,aq y]) (by simp[settle]) (by simp[go_sem]) ?_;refine(GV y z t u).M ?_;rintro e g t ⟨rfl,rfl,rfl⟩;refine⟨.tuple #[v,af6 0],?_,r⟩;simp[results,Tryz.results269,go_sem,q,p,s,u]
def NR{q:List Pr}(ok:qP q):∀j,j<=ab0 q->jE (l9 q j)
 | 0,_=>λb z=>by simp[l9] at z
 | j+1,h=>by
  have u:=ok.pos _ (aP (show j<ab0 q by omega));have t:=mC ok.pos _ (aP (show j<ab0 q by omega));have r:=ok.tot;have x:=ok.key _ (aP (show j<ab0 q by omega));simp only[l9];rw[sw aa];refine jE.append (jE.append (NR ok j aa) ?_) (jl aa  aa);cases j with
  | zero=>
   simp only[FI];rw[sw aa];have:=j9 (v:=q[0].1) aa  aa;exact jl this.1 this.2
  | succ s=>
   simp only[FI];rw[sw aa,sw aa];have y:=BL ok (j:=s) (by omega);have v:=ok.key _ (aP (show s<ab0 q by omega));exact jl aa  aa
def QQ{f:Int}(ok:qP q)(z:a<=5000)(v:m<=4096)(y:0<=f)(x:f<=4611686018427387904):jE (n_ a m q f):=by
 have:=ok.len;unfold n_;simp only[l6];exact jE.append (jE.append (jE.append (jE.append (jl aa  aa) (jl aa  aa)) (jl aa  aa)) (jl aa  aa)) (NR ok _ (aD _))
def KT(v:Value)(w:World)(h:jC .u8 w v (n_ a m (hZ m l).1 (hZ m l).2))(ok:kG a m l):af4 af5 269 #[v] w λe g=>∃d,e=.returned (.tuple #[aq d,af6 0])/\px d a m l (Gr (λ_=>False) w g) g/\af3 w g:=by
 have HR:=ax h;obtain⟨z,_,hlm,f0,f1⟩:=ok.cut;have a0:=ok.a0;have a1:=ok.a1;have m0:=ok.m0;have m1:=ok.m1;have hql:=z.len;have CL:Hid (∀(v:Value) (w:World),iQ iF w v (hZ m l).1->_):=ax (λv w h=>QO v w h ok);have CW:Hid (∀(d:Nat) (F:Ft) (w:World),px d a m l F w->_):=ax (λd F w h=>yE w h ok);have T:=ax (QQ z a1 m1 f0 f1);have Sm:=ax z;have hG:=tQ a m (ab0 (hZ m l).1) (hZ m l).2;have hwl:=tP (hZ m l).1 (ab0 (hZ m l).1);generalize (hZ m l).2=f at *;generalize (hZ m l).1=q at *;have s:ab0 (n_ a m q f)<=1000000000000:=by unfold n_;rw[aE];omega
 -- what lies where
 have X0:=ax (by unfold n_;simp only[l6,bj,aN]:(n_ a m q f).drop 0=il a++(il m++(il (ab0 q)++(il f++l9 q (ab0 q)))));have⟨p1,y⟩:=ar (0+ab0 (il (a:Int)));have X1:=ax (by rw[<-y,<-cQ,X0.o,dA]:(n_ a m q f).drop p1=il m++(il (ab0 q)++(il f++l9 q (ab0 q))));have⟨p2,x⟩:=ar (p1+ab0 (il (m:Int)));have X2:=ax (by rw[<-x,<-cQ,X1.o,dA]:(n_ a m q f).drop p2=il (ab0 q)++(il f++l9 q (ab0 q)));have⟨p3,u⟩:=ar (p2+ab0 (il (ab0 q:Int)));have X3:=ax (by rw[<-u,<-cQ,X2.o,dA]:(n_ a m q f).drop p3=il f++l9 q (ab0 q));have⟨p4,t⟩:=ar (p3+ab0 (il f));have X4:=ax (by rw[<-t,<-cQ,X3.o,dA,bP]:(n_ a m q f).drop p4=l9 q (ab0 q)++[]);have XE:Hid (p4+ab0 (l9 q (ab0 q))=ab0 (n_ a m q f)):=ax (by
  have r:ab0 (n_ a m q f)=ab0 (il (a:Int))+ab0 (il (m:Int))+ab0 (il (ab0 q:Int))+ab0 (il f)+ab0 (l9 q (ab0 q)):=by unfold n_;simp only[l6,aE]
  omega)
 have P1:=ax y;have P2:=ax x;have P3:=ax u;have P4:=ax t;generalize n_ a m q f=r at *;clear h ok z y x u t;go_enter_defers func269,ntmps269
 go_wp21;obtain⟨U,y⟩:∃U,U=(w.alloc (.cells #[.pointer none] 120)).alloc (.cells #[af6 0] 43):=⟨_,rfl⟩;have M:af3 w U:=by rw[y];exact((aC _ _).alloc (aD _) _).alloc ad _
 have B2:Hid (g7 U w.heap.size 120 #[.pointer none]):=by show g7 _ _ _ _;rw[y];exact(g7.new _ _ _).alloc _
 have D:Hid (g7 U (w.heap.size+1) 43 #[af6 0]):=by
  show g7 _ _ _ _;rw[y];have h:=g7.new (w.alloc (.cells #[.pointer none] 120)) 43 #[af6 0]
  rwa [aI] at h
 have⟨z,x⟩:=ar (w.heap.size);have So:=ax x;rw[<-y];rw[x] at B2 D |-;have l3:=D.o.lt;clear y x;refine WE (q_ v r U (Rd.K HR.o M) s) ?_
 rintro u P ⟨hgr,y,L⟩;have R2:=ax y;have hz2:=L.size;have Th:=y.lt;clear y;go_wp21;obtain⟨t,y⟩:∃t,t=P.alloc (.cells #[.func (.func 330) #[aq u] #[]] 434):=⟨_,rfl⟩;have J:af3 P t:=by rw[y];exact(aC _ _).alloc (aD _) _
 have C:Hid (g7 t P.heap.size 434 #[.func (.func 330) #[aq u] #[]]):=by show g7 _ _ _ _;rw[y];exact g7.new _ _ _
 rw[<-y];have⟨h4,c⟩:=ar (P.heap.size);have R3:=ax (R2.o.K J);rw[c] at C Th |-;have V:¬(h4=u):=aa
 have X:=C.o.lt;have D2:=ax ((B2.o.K L).K J);have D3:=ax ((D.o.K L).K J);have n2:¬(z=u):=aa;have n3:¬(z+1=u):=aa;have m2:=D2.o.lt;have m3:=D3.o.lt;have zJ:af3 w t:=(M.T (L.M M.size)).T (J.M (bf M.size hz2));have X_:w.heap.size<=u:=by have:=So.o;omega
 have e2:w.heap.size<=z:=by have:=So.o;omega
 have x:=C.o.k0;have Y:=ax x;clear y c x;have y:ad0 .i64 (a:Int)=a:=ah;have x:ad0 .i64 (m:Int)=m:=ah;have c:ad0 .i64 (ab0 q:Int)=ab0 q:=ah;have O:=ax (aB y (aB x c));clear y x c;have tt:∀{x y:World},Touch (λk=>k=u) t x->Touch (λk=>k=u) x y->Touch (λk=>k=u) t y:=λh k=>h.T k (λi hi=>.inl hi);refine jh (Touch (λk=>k=u) t) (hQ 0 1 (hQ 3 1 (ik 1 (hQ 2 1 (ik 4 (hQ 5 3 [])))))) ((Touch.refl _ _).drew) ?_;iterate 2 refine ib (h:=λg y=>by have k0:=(g9 y 0 X V).T Y.o;obtain⟨i1,i2,i3⟩:=O.o;exact af8) ?_
 refine iz λK S=>?_;go_simp;refine RX (od (lo:=100) (hi:=5000) t.drew (R3.o.K (aC _ _).drew) T.o s X0.o aa  aa  aa  aa) ?_;rintro wA ⟨x,c⟩;have RA:=ax x;rw[P1.o] at RA;have TA:=ax (tt (Touch.refl _ t).drew c);clear x c;refine S _ _ (TA.o) ?_;refine ib (h:=λg y=>by have k0:=(g9 y 0 X V).T Y.o;obtain⟨i1,i2,i3⟩:=O.o;exact af8) ?_;refine iz λK S=>?_;go_simp;refine RX (od (lo:=2) (hi:=4096) wA RA.o T.o s X1.o aa  aa  aa  aa) ?_;rintro wB ⟨x,c⟩;have RB:=ax x;rw[P2.o] at RB;have TB:=ax (tt TA.o c);clear x c;refine S _ _ (TB.o) ?_;iterate 3 refine ib (h:=λg y=>by have k0:=(g9 y 0 X V).T Y.o;obtain⟨i1,i2,i3⟩:=O.o;exact af8) ?_
 refine g4 ?_;have b:=(g9 TB.o 0 X V).T Y.o;obtain⟨i1,i2,i3⟩:=O.o;go_wp21;refine RX (od (lo:=0) (hi:=m) wB RB.o T.o s X2.o aa  aa  aa  aa) ?_;rintro wC ⟨y,x⟩;have RC:=ax y;rw[P3.o] at RC;have TC:=ax (tt TB.o x);have Q:=(g9 TC.o 0 X V).T Y.o;clear y x;go_wp21;refine RX (od (lo:=0) (hi:=4611686018427387904) wC RC.o T.o s X3.o aa  aa  aa  aa) ?_;rintro wD ⟨y,x⟩;have RD:=ax y;rw[P4.o] at RD;have TD:=ax (tt TC.o x);have N:=(g9 TD.o 0 X V).T Y.o;clear y x;go_wp21;refine WE (GU wD RD.o T.o s X4.o Sm.o) ?_;rintro vE F ⟨y,x,c⟩;have RE:=ax x;rw[XE.o] at RE;have TE:=ax (tt TD.o c);have OE:=ax y.rd;obtain⟨A7,c7,rfl,_,_,_⟩:=y.form;clear y x c;go_wp21;refine RX (mA u r (ab0 r) F RE.o s) ?_;rintro g ⟨R,rfl⟩;have hl0:((ab0 r:Int) - (ab0 r:Int))=0:=aa;have y:∀i,(λk=>k=u) i->w.heap.size<=i:=λi hi=>by simp only at hi;omega
 have n:=ax (below_drewN (zJ.T (TE.o.below y zJ.size)) R);have E2:Hid (g7 (F.drewN R) z 120 #[.pointer none]):=(TE.o.block z m2 n2).T D2.o;have E3:Hid (g7 (F.drewN R) (z+1) 43 #[af6 0]):=(TE.o.block (z+1) m3 n3).T D3.o;have OEn:=ax (OE.o.K (below_drewN (aC _ _) R));generalize F.drewN R=wF at *;clear b Q N y;go_wp21;refine WE (CL.o _ wF OEn.o) ?_;rintro d G ⟨y,hb5⟩;have HD:=ax y;have Hb5:=ax (n.o.T (hb5.M n.o.size));have B:=ax (E2.o.K hb5);have A:=ax (E3.o.K hb5);have lF3:=E3.o.lt;clear y;have N:=B.o.k0;have E:=A.o.k0;have H:=B.o.F 0;have y3:=A.o.F 0;have hne:z≠z+1:=aa;have⟨c,hw6⟩:=ar ((G.setCell (af7 z 0) (aq d)).setCell (af7 (z+1) 0) (af6 0));have G2:Hid (g7 c z 120 #[aq d]):=by rw[<-hw6];exact ax ((B.o.hJ 0 _).far hne _)
 have j:Hid (g7 c (z+1) 43 #[af6 0]):=by rw[<-hw6];exact ax ((A.o.far (p:=af7 z 0) ad _).hJ 0 _)
 have T6:Hid (Touch (λk=>k=z\/k=z+1) G c):=by rw[<-hw6];exact ax (((Touch.refl _ G).setCell (p:=af7 z 0) (.inl (.inl rfl)) _).setCell (p:=af7 (z+1) 0) (.inl (.inr rfl)) _)
 have hnF:∀k,Gr (λ_=>False) wF G k->¬(k=z\/k=z+1):=λk y=>by have:=y.elim False.elim id;omega
 have HD6:=ax ((ks d a m l).far HD.o T6.o hnF);have Vm:=ax (Hb5.o.T (T6.o.below (λk y=>by rcases y with h|h<;>omega) Hb5.o.size));have x:=G2.o.k0;have b:=j.o.k0;go_wp21;refine WE (CW.o _ _ c HD6.o) ?_;rintro v7 w7 ⟨Q,I⟩;have O7:=ax Q;have HD7:=ax ((ks d a m l).K HD6.o I);have Ti:=ax (Vm.o.T (I.M Vm.o.size));have I2:=ax (G2.o.K I);have W:=ax (j.o.K I);clear Q N E H y3 x b;have E:=W.o.k0;have y3:=W.o.F 0;have⟨b,hw8⟩:=ar (w7.setCell (af7 (z+1) 0) (af6 0));have J2:Hid (g7 b z 120 #[aq d]):=by rw[<-hw8];exact ax (I2.o.far hne _)
 have N:Hid (g7 b (z+1) 43 #[af6 0]):=by rw[<-hw8];exact ax (W.o.hJ 0 _)
 have T8:Hid (Touch (λk=>k=z\/k=z+1) w7 b):=by rw[<-hw8];exact ax ((Touch.refl _ w7).setCell (p:=af7 (z+1) 0) (.inl (.inr rfl)) _)
 have HD8:=ax ((ks d a m l).far HD7.o T8.o hnF);have o:=ax (Ti.o.T (T8.o.below (λk y=>by rcases y with h|h<;>omega) Ti.o.size));have lG3:=j.o.lt;have O8:Hid (OwnB c.heap.size b v7 r):=ax (hO.stay O7.o (λk e=>T8.o.block k (hO.lt O7.o k e).2 (λh=>by have:=(hO.lt O7.o k e).1;rcases h with h|h<;>omega)));have EQ:=ax (lJ v7 v r r b (hO.rd O8.o) (Rd.K HR.o o.o) s s);rw[bN rfl] at EQ;have j3:=N.o.k0;go_wp2_with (go_at_call 170;refine RX EQ.o ?_;intro w9 x;have k2:=(J2.o.K x).k0;have k3:=(N.o.K x).k0;have q2:=(J2.o.K x).F 0;have q3:=(N.o.K x).F 0;have ac3:=x);refine(show Leaves prog Tryz.f269 _ _ _ .returning _ from ?_);have⟨Q,H⟩:=ar ((w9.setCell (af7 z 0) (aq d)).setCell (af7 (z+1) 0) (af6 0));have K2:g7 Q z 120 #[aq d]:=by rw[<-H];exact((J2.o.K x).hJ 0 _).far hne _
 have K3:g7 Q (z+1) 43 #[af6 0]:=by rw[<-H];exact((N.o.K x).far (p:=af7 z 0) ad _).hJ 0 _
 have T10:Touch (λk=>k=z\/k=z+1) w9 Q:=by rw[<-H];exact((Touch.refl _ w9).setCell (p:=af7 z 0) (.inl (.inl rfl)) _).setCell (p:=af7 (z+1) 0) (.inl (.inr rfl)) _
 have p:=(ks d a m l).far ((ks d a m l).K HD8.o x) T10 hnF;have Hb9:=o.o.T (x.M o.o.size);have NS:=Hb9.T (T10.below (λk y=>by rcases y with h|h<;>omega) Hb9.size);rw[H];refine GW z (z+1) _ _ _ rfl rfl _ (K2.C 0) (K3.C 0) ⟨d,rfl,(ks d a m l).more p (λk y=>?_) (jt (λk h=>h.elim) NS.size),NS⟩;have h1:=(ks d a m l).low p k y;have h2':=y.elim False.elim id;exact .inr ⟨bf n.o.size h2'.1,h1⟩
def qf(y i:Nat)(cs:Array Value)(Q:Value->World->Prop)(w:World)(e:Ending)(w':World):Prop:=
 e=.returned (af6 0)/\∃p w1,Q p w1/\af3 w w1/\g7 w' y 124 (cs.setIfInBounds i p)/\Touch (λk=>k=y) w1 w'/\Touch (λk=>k=y) w w'
section
variable {y : Nat} {kd p1 p2 p3 p4 : Value} {w : World} {Q : Value -> World -> Prop} {v : Value}
def GX(z:g7 w y 124 #[kd,p1,p2,p3,p4])(h:af4 af5 269 #[v] w λe x=>∃d,e=.returned (.tuple #[aq d,af6 0])/\Q (aq d) x/\af3 w x):af4 af5 183 #[aq y,v] w (qf y 2 #[kd,p1,p2,p3,p4] Q w):=by
 have C:=ax h;have s:=ax z;clear h z;go_in;go_wp21;refine WE C.o ?_;rintro d z ⟨u,x⟩;have L:=ax (s.o.K x);have q:=L.o.k2;have g:=L.o.F 2;have M:=ax (L.o.hJ 2 (aq d));have T:=ax ((show Touch (λk=>k=y) z z from Touch.refl _ z).setCell (p:=af7 y 2) (.inl rfl) (aq d));have r:=ax ((Touch.of_below (F:=λk=>k=y) x (aD _)).setCell (p:=af7 y 2) (.inl rfl) (aq d));have t:=ax u;clear u;go_wp2;go_ret;exact⟨rfl,_,z,t.o,x,M.o,T.o,r.o⟩
def yF(z:g7 w y 124 #[kd,p1,p2,p3,p4])(h:af4 af5 271 #[v] w λe x=>∃d,e=.returned (.tuple #[aq d,af6 0])/\Q (aq d) x/\af3 w x):af4 af5 185 #[aq y,v] w (qf y 3 #[kd,p1,p2,p3,p4] Q w):=by
 have C:=ax h;have s:=ax z;clear h z;go_in;go_wp21;refine WE C.o ?_;rintro d z ⟨u,x⟩;have L:=ax (s.o.K x);have q:=L.o.k3;have g:=L.o.F 3;have M:=ax (L.o.hJ 3 (aq d));have T:=ax ((show Touch (λk=>k=y) z z from Touch.refl _ z).setCell (p:=af7 y 3) (.inl rfl) (aq d));have r:=ax ((Touch.of_below (F:=λk=>k=y) x (aD _)).setCell (p:=af7 y 3) (.inl rfl) (aq d));have t:=ax u;clear u;go_wp2;go_ret;exact⟨rfl,_,z,t.o,x,M.o,T.o,r.o⟩
def DQ(z:g7 w y 124 #[kd,p1,p2,p3,p4])(h:af4 af5 273 #[v] w λe x=>∃d,e=.returned (.tuple #[aq d,af6 0])/\Q (aq d) x/\af3 w x):af4 af5 187 #[aq y,v] w (qf y 4 #[kd,p1,p2,p3,p4] Q w):=by
 have C:=ax h;have s:=ax z;clear h z;go_in;go_wp21;refine WE C.o ?_;rintro d z ⟨u,x⟩;have L:=ax (s.o.K x);have q:=L.o.k4;have g:=L.o.F 4;have M:=ax (L.o.hJ 4 (aq d));have T:=ax ((show Touch (λk=>k=y) z z from Touch.refl _ z).setCell (p:=af7 y 4) (.inl rfl) (aq d));have r:=ax ((Touch.of_below (F:=λk=>k=y) x (aD _)).setCell (p:=af7 y 4) (.inl rfl) (aq d));have t:=ax u;clear u;go_wp2;go_ret;exact⟨rfl,_,z,t.o,x,M.o,T.o,r.o⟩
end
def iB(kd lo hi dg:Int)(gr:Bool)(ac sz:Int):Value:=.agg #[.int .u8 kd,af6 lo,af6 hi,af6 dg,.bool gr,af6 ac,af6 sz]
def rV{y i:Nat}{cs:Array Value}{Q:Value->World->Prop}{w wa w1:World}{p:Value}(t:g7 w1 y 124 cs)(z:af3 w wa)(v:af3 wa w1)(u:Q p w1):qf y i cs Q w (.returned (af6 0)) (w1.setCell (af7 y i) p):=by
 have x:=z.T (v.M z.size);exact⟨rfl,p,w1,u,x,t.hJ i p,(show Touch (λk=>k=y) w1 w1 from Touch.refl _ w1).setCell (p:=af7 y i) (.inl rfl) p,(Touch.of_below (F:=λk=>k=y) x (aD _)).setCell (p:=af7 y i) (.inl rfl) p⟩
section
variable {y : Nat} {k0 p1 p2 p3 p4 : Value} {w : World} {Q : Value -> World -> Prop} {kd lo hi dg ac sz : Int} {gr : Bool}
def GY(z:g7 w y 124 #[k0,p1,p2,p3,p4])(h:∀x,af3 w x->af4 af5 268 #[af6 ac,af6 sz] x λe v=>∃d,e=.returned (.tuple #[aq d,af6 0])/\Q (aq d) v/\af3 x v):af4 af5 182 #[aq y,iB kd lo hi dg gr ac sz] w (qf y 2 #[k0,p1,p2,p3,p4] Q w):=by
 have C:=ax h;have s:=ax z;clear h z;unfold iB;have⟨b,q⟩:=ar (w.heap.size);have⟨x,t⟩:=ar (w.alloc (.cells #[.int .u8 kd,af6 lo,af6 hi,af6 dg,.bool gr,af6 ac,af6 sz] 33));have v:=ao t;have z:=(an t q).o;have p:=z.k5;have g:=z.k6;clear z;have z:=ax v;clear v;go_in;go_wp21;refine WE (C.o x z.o) ?_;rintro d c ⟨u,v⟩;have L:=ax ((s.o.K z.o).K v);have r:=L.o.k2;have f:=L.o.F 2;have M:=ax (rV (i:=2) L.o z.o v u);clear u;go_wp2;go_ret;exact M.o
def yG(z:g7 w y 124 #[k0,p1,p2,p3,p4])(h:∀x,af3 w x->af4 af5 270 #[af6 sz] x λe v=>∃d,e=.returned (.tuple #[aq d,af6 0])/\Q (aq d) v/\af3 x v):af4 af5 184 #[aq y,iB kd lo hi dg gr ac sz] w (qf y 3 #[k0,p1,p2,p3,p4] Q w):=by
 have C:=ax h;have s:=ax z;clear h z;unfold iB;have⟨b,q⟩:=ar (w.heap.size);have⟨x,t⟩:=ar (w.alloc (.cells #[.int .u8 kd,af6 lo,af6 hi,af6 dg,.bool gr,af6 ac,af6 sz] 33));have v:=ao t;have z:=(an t q).o;have p:=z.k6;clear z;have z:=ax v;clear v;go_in;go_wp21;refine WE (C.o x z.o) ?_;rintro d f ⟨u,v⟩;have L:=ax ((s.o.K z.o).K v);have r:=L.o.k3;have g:=L.o.F 3;have M:=ax (rV (i:=3) L.o z.o v u);clear u;go_wp2;go_ret;exact M.o
def DR(z:g7 w y 124 #[k0,p1,p2,p3,p4])(h:∀x,af3 w x->af4 af5 272 #[af6 sz] x λe v=>∃d,e=.returned (.tuple #[aq d,af6 0])/\Q (aq d) v/\af3 x v):af4 af5 186 #[aq y,iB kd lo hi dg gr ac sz] w (qf y 4 #[k0,p1,p2,p3,p4] Q w):=by
 have C:=ax h;have s:=ax z;clear h z;unfold iB;have⟨b,q⟩:=ar (w.heap.size);have⟨x,t⟩:=ar (w.alloc (.cells #[.int .u8 kd,af6 lo,af6 hi,af6 dg,.bool gr,af6 ac,af6 sz] 33));have v:=ao t;have z:=(an t q).o;have p:=z.k6;clear z;have z:=ax v;clear v;go_in;go_wp21;refine WE (C.o x z.o) ?_;rintro d f ⟨u,v⟩;have L:=ax ((s.o.K z.o).K v);have r:=L.o.k4;have g:=L.o.F 4;have M:=ax (rV (i:=4) L.o z.o v u);clear u;go_wp2;go_ret;exact M.o
def DS(z:g7 w y 124 #[k0,p1,p2,p3,p4])(h:∀x,af3 w x->af4 af5 263 #[.agg #[af6 lo,af6 hi,af6 dg],.bool gr] x λe v=>∃d,e=.returned (.tuple #[aq d,af6 0])/\Q (aq d) v/\af3 x v):af4 af5 180 #[aq y,iB kd lo hi dg gr ac sz] w (qf y 1 #[k0,p1,p2,p3,p4] Q w):=by
 have C:=ax h;have s:=ax z;clear h z;unfold iB;have⟨b,q⟩:=ar (w.heap.size);have⟨x,t⟩:=ar (w.alloc (.cells #[.int .u8 kd,af6 lo,af6 hi,af6 dg,.bool gr,af6 ac,af6 sz] 33));have v:=ao t;have z:=(an t q).o;have p:=z.k1;have g:=z.k2;have f:=z.k3;have c:=z.k4;clear z;have z:=ax v;clear v;go_in;go_wp21;refine WE (C.o x z.o) ?_;rintro d Y ⟨u,v⟩;have L:=ax ((s.o.K z.o).K v);have r:=L.o.k1;have a:=L.o.F 1;have M:=ax (rV (i:=1) L.o z.o v u);clear u;go_wp2;go_ret;exact M.o
end
section
variable {y : Nat} {p1 p2 p3 p4 : Value} {w : World} {Q : Value -> World -> Prop}
variable{a c n:Value}
def GZ(x:g7 w y 124 #[.int .u8 1,p1,p2,p3,p4])(h:af4 af5 124 #[aq y] w λe z=>∃v,e=.returned v/\Q v z):af4 af5 54 #[aq y] w λe z=>∃v,e=.returned v/\Q v z:=by
 have C:=ax h;have t:=ax x;clear h x;have s:=t.o.k0;go_in;go_wp21;refine WE C.o ?_;intro v r x;have u:=ax x;clear x;go_wp2;go_ret;exact⟨_,rfl,u.o⟩
def G0(u:g7 w y 124 #[.int .u8 2,p1,p2,p3,p4])(h:af4 af5 125 #[p2] w λe z=>∃v,e=.returned (.tuple #[v,af6 0])/\Q v z):af4 af5 54 #[aq y] w λe z=>∃v,e=.returned v/\Q v z:=by
 have C:=ax h;have x:=ax u;clear h u;have s:=x.o.k0;have r:=x.o.k2;go_in;go_wp21;refine WE C.o ?_;intro v q u;have t:=ax u;clear u;go_wp2;go_ret;exact⟨_,rfl,t.o⟩
def G4(u:g7 w y 124 #[.int .u8 3,p1,p2,p3,p4])(h:af4 af5 126 #[p3] w λe z=>∃v,e=.returned (.tuple #[v,af6 0])/\Q v z):af4 af5 54 #[aq y] w λe z=>∃v,e=.returned v/\Q v z:=by
 have C:=ax h;have x:=ax u;clear h u;have s:=x.o.k0;have r:=x.o.k3;go_in;go_wp21;refine WE C.o ?_;intro v q u;have t:=ax u;clear u;go_wp2;go_ret;exact⟨_,rfl,t.o⟩
def G5(u:g7 w y 124 #[.int .u8 4,p1,p2,p3,p4])(h:af4 af5 127 #[p4] w λe z=>∃v,e=.returned (.tuple #[v,af6 0])/\Q v z):af4 af5 54 #[aq y] w λe z=>∃v,e=.returned v/\Q v z:=by
 have C:=ax h;have x:=ax u;clear h u;have s:=x.o.k0;have r:=x.o.k4;go_in;go_wp21;refine WE C.o ?_;intro v q u;have t:=ax u;clear u;go_wp2;go_ret;exact⟨_,rfl,t.o⟩
def KU(x:g7 w y 124 #[.int .u8 1,p1,p2,p3,p4])(h:af4 af5 130 #[p1,a,n] w λe z=>∃v,e=.returned v/\Q v z):af4 af5 64 #[aq y,a,n,c] w λe z=>∃v,e=.returned v/\Q v z:=by
 have C:=ax h;have t:=ax x;clear h x;obtain⟨s,r⟩:=t.o.c2;go_in;go_wp21;refine WE C.o ?_;intro v q x;have u:=ax x;clear x;go_wp2;go_ret;exact⟨_,rfl,u.o⟩
def Az(u:g7 w y 124 #[.int .u8 2,p1,p2,p3,p4])(h:af4 af5 131 #[p2,a,n] w λe z=>∃v,e=.returned v/\Q v z):af4 af5 64 #[aq y,a,n,c] w λe z=>∃v,e=.returned v/\Q v z:=by
 have C:=ax h;have x:=ax u;clear h u;have s:=x.o.k0;have r:=x.o.k2;go_in;go_wp21;refine WE C.o ?_;intro v q u;have t:=ax u;clear u;go_wp2;go_ret;exact⟨_,rfl,t.o⟩
def KV(u:g7 w y 124 #[.int .u8 3,p1,p2,p3,p4])(h:af4 af5 132 #[p3,a,n] w λe z=>∃v,e=.returned v/\Q v z):af4 af5 64 #[aq y,a,n,c] w λe z=>∃v,e=.returned v/\Q v z:=by
 have C:=ax h;have x:=ax u;clear h u;have s:=x.o.k0;have r:=x.o.k3;go_in;go_wp21;refine WE C.o ?_;intro v q u;have t:=ax u;clear u;go_wp2;go_ret;exact⟨_,rfl,t.o⟩
def KX(u:g7 w y 124 #[.int .u8 4,p1,p2,p3,p4])(h:af4 af5 133 #[p4,a,n,c] w λe z=>∃v,e=.returned v/\Q v z):af4 af5 64 #[aq y,a,n,c] w λe z=>∃v,e=.returned v/\Q v z:=by
 have C:=ax h;have x:=ax u;clear h u;have s:=x.o.k0;have r:=x.o.k4;go_in;go_wp21;refine WE C.o ?_;intro v q u;have t:=ax u;clear u;go_wp2;go_ret;exact⟨_,rfl,t.o⟩
def DT(x:g7 w y 124 #[.int .u8 1,p1,p2,p3,p4])(h:af4 af5 55 #[p1] w λe z=>∃v,e=.returned v/\Q v z):af4 af5 18 #[aq y] w λe z=>∃v,e=.returned v/\Q v z:=by
 have C:=ax h;have t:=ax x;clear h x;obtain⟨s,r⟩:=t.o.c2;go_in;go_wp21;refine WE C.o ?_;intro v q x;have u:=ax x;clear x;go_wp2;go_ret;exact⟨_,rfl,u.o⟩
def DU(u:g7 w y 124 #[.int .u8 2,p1,p2,p3,p4])(h:af4 af5 56 #[p2] w λe z=>∃v,e=.returned v/\Q v z):af4 af5 18 #[aq y] w λe z=>∃v,e=.returned v/\Q v z:=by
 have C:=ax h;have x:=ax u;clear h u;have s:=x.o.k0;have r:=x.o.k2;go_in;go_wp21;refine WE C.o ?_;intro v q u;have t:=ax u;clear u;go_wp2;go_ret;exact⟨_,rfl,t.o⟩
def DV(u:g7 w y 124 #[.int .u8 3,p1,p2,p3,p4])(h:af4 af5 57 #[p3] w λe z=>∃v,e=.returned v/\Q v z):af4 af5 18 #[aq y] w λe z=>∃v,e=.returned v/\Q v z:=by
 have C:=ax h;have x:=ax u;clear h u;have s:=x.o.k0;have r:=x.o.k3;go_in;go_wp21;refine WE C.o ?_;intro v q u;have t:=ax u;clear u;go_wp2;go_ret;exact⟨_,rfl,t.o⟩
def DW(u:g7 w y 124 #[.int .u8 4,p1,p2,p3,p4])(h:af4 af5 58 #[p4] w λe z=>∃v,e=.returned v/\Q v z):af4 af5 18 #[aq y] w λe z=>∃v,e=.returned v/\Q v z:=by
 have C:=ax h;have x:=ax u;clear h u;have s:=x.o.k0;have r:=x.o.k4;go_in;go_wp21;refine WE C.o ?_;intro v q u;have t:=ax u;clear u;go_wp2;go_ret;exact⟨_,rfl,t.o⟩
end
section
variable {y : Nat} {p1 p2 p3 p4 : Value} {w : World} {n : Int}
def sT(z:g7 w y 124 #[.int .u8 3,p1,p2,p3,p4])(h:∀x,af3 w x->af4 af5 122 #[p3] x λe g=>e=.returned (af6 n)/\x=g):af4 af5 53 #[aq y] w (au w (iB 3 0 0 0 false 0 n)):=by
 have C:=ax h;have f:=ax z;have u:=z.k0;clear h z;unfold iB;go_in;have⟨b,s⟩:=ar (w.heap.size);have⟨t,v⟩:=ar (w.alloc (.cells #[.int .u8 0,af6 0,af6 0,af6 0,.bool false,af6 0,af6 0] 33));have r:=ao v;have P:=an v s;have q:t.heap.size=b+1:=by rw[<-v,<-s,aI]
 have S:=ax s;go_upto_region 1 with fail;clear v s u;have u:=(f.o.K r).k0;have R:=ax q;clear q;go_upto_region 2 with fail;have⟨x,p⟩:=ar (t.alloc (.cells #[.int .u8 3,af6 0,af6 0,af6 0,.bool false,af6 0,af6 0] 33));have d:=ao p;have q:af3 w x:=r.T (d.M r.size);have O:Hid (g7 x b 33 #[.int .u8 0,af6 0,af6 0,af6 0,.bool false,af6 0,af6 0]):=ax (P.o.K d);have v:=an p R.o;clear r d;rw[p];rw[R.o];clear p u;have u:=(f.o.K q).k0;have Q:=(f.o.K q).k3;have d:=v.o.k0;have c:=v.o.k1;have a:=v.o.k2;have Y:=v.o.k3;have X:=v.o.k4;have V:=v.o.k5;have U:=v.o.k6;have L:=v.o.F 6;go_wp21;refine Ix (C.o x q) ?_;have⟨T,r⟩:=ar (x.setCell (af7 (b+1) 6) (af6 n));have N:Hid (g7 T (b+1) 33 #[.int .u8 3,af6 0,af6 0,af6 0,.bool false,af6 0,af6 n]):=by rw[<-r];exact ax (v.o.hJ 6 _)
 have z:Hid (g7 T b 33 #[.int .u8 0,af6 0,af6 0,af6 0,.bool false,af6 0,af6 0]):=by rw[<-r];exact ax (O.o.far (p:=af7 (b+1) 6) ad _)
 have M:Hid (af3 w T):=by rw[<-r];exact ax (q.setCell (p:=af7 (b+1) 6) (by have:=S.o;show _<=b+1;omega) _)
 clear u Q;go_upto_region 10 with fail;clear d c a Y X V U L r;obtain⟨d,c,a,Y,X,V,U⟩:=N.o.c7;have l:=z.o.F 0;have m:=z.o.F 1;have o:=z.o.F 2;have W:=z.o.F 3;have i:=z.o.F 4;have k:=z.o.F 5;have h:=z.o.F 6;obtain⟨H,G,F,D,B,A,j⟩:=z.o.c7;go_wp21;have E:=((((((z.o.hJ 0 (.int .u8 3)).hJ 1 (af6 0)).hJ 2 (af6 0)).hJ 3 (af6 0)).hJ 4 (.bool false)).hJ 5 (af6 0)).hJ 6 (af6 n);have u:=E.C 0;have r:=E.C 1;have Q:=E.C 2;have L:=E.C 3;have K:=E.C 4;have J:=E.C 5;have I:=E.C 6;simp only[bA,bS,bR,az,ay,aA] at u r Q L K J I;refine ak ?_;have s:=S.o;exact⟨rfl,((((((M.o.setCell (p:=af7 b 0) (by show _<=b;omega) _).setCell (p:=af7 b 1) (by show _<=b;omega) _).setCell (p:=af7 b 2) (by show _<=b;omega) _).setCell (p:=af7 b 3) (by show _<=b;omega) _).setCell (p:=af7 b 4) (by show _<=b;omega) _).setCell (p:=af7 b 5) (by show _<=b;omega) _).setCell (p:=af7 b 6) (by show _<=b;omega) _⟩
def sU(z:g7 w y 124 #[.int .u8 4,p1,p2,p3,p4])(h:∀x,af3 w x->af4 af5 123 #[p4] x λe g=>e=.returned (af6 n)/\x=g):af4 af5 53 #[aq y] w (au w (iB 4 0 0 0 false 0 n)):=by
 have C:=ax h;have f:=ax z;have u:=z.k0;clear h z;unfold iB;go_in;have⟨b,s⟩:=ar (w.heap.size);have⟨t,v⟩:=ar (w.alloc (.cells #[.int .u8 0,af6 0,af6 0,af6 0,.bool false,af6 0,af6 0] 33));have r:=ao v;have P:=an v s;have q:t.heap.size=b+1:=by rw[<-v,<-s,aI]
 have S:=ax s;go_upto_region 1 with fail;clear v s u;have u:=(f.o.K r).k0;have R:=ax q;clear q;go_upto_region 2 with fail;have⟨x,p⟩:=ar (t.alloc (.cells #[.int .u8 4,af6 0,af6 0,af6 0,.bool false,af6 0,af6 0] 33));have d:=ao p;have q:af3 w x:=r.T (d.M r.size);have O:Hid (g7 x b 33 #[.int .u8 0,af6 0,af6 0,af6 0,.bool false,af6 0,af6 0]):=ax (P.o.K d);have v:=an p R.o;clear r d;rw[p];rw[R.o];clear p u;have u:=(f.o.K q).k0;have Q:=(f.o.K q).k4;have d:=v.o.k0;have c:=v.o.k1;have a:=v.o.k2;have Y:=v.o.k3;have X:=v.o.k4;have V:=v.o.k5;have U:=v.o.k6;have L:=v.o.F 6;go_wp21;refine Ix (C.o x q) ?_;have⟨T,r⟩:=ar (x.setCell (af7 (b+1) 6) (af6 n));have N:Hid (g7 T (b+1) 33 #[.int .u8 4,af6 0,af6 0,af6 0,.bool false,af6 0,af6 n]):=by rw[<-r];exact ax (v.o.hJ 6 _)
 have z:Hid (g7 T b 33 #[.int .u8 0,af6 0,af6 0,af6 0,.bool false,af6 0,af6 0]):=by rw[<-r];exact ax (O.o.far (p:=af7 (b+1) 6) ad _)
 have M:Hid (af3 w T):=by rw[<-r];exact ax (q.setCell (p:=af7 (b+1) 6) (by have:=S.o;show _<=b+1;omega) _)
 clear u Q;go_upto_region 10 with fail;clear d c a Y X V U L r;obtain⟨d,c,a,Y,X,V,U⟩:=N.o.c7;have l:=z.o.F 0;have m:=z.o.F 1;have o:=z.o.F 2;have W:=z.o.F 3;have i:=z.o.F 4;have k:=z.o.F 5;have h:=z.o.F 6;obtain⟨H,G,F,D,B,A,j⟩:=z.o.c7;go_wp21;have E:=((((((z.o.hJ 0 (.int .u8 4)).hJ 1 (af6 0)).hJ 2 (af6 0)).hJ 3 (af6 0)).hJ 4 (.bool false)).hJ 5 (af6 0)).hJ 6 (af6 n);have u:=E.C 0;have r:=E.C 1;have Q:=E.C 2;have L:=E.C 3;have K:=E.C 4;have J:=E.C 5;have I:=E.C 6;simp only[bA,bS,bR,az,ay,aA] at u r Q L K J I;refine ak ?_;have s:=S.o;exact⟨rfl,((((((M.o.setCell (p:=af7 b 0) (by show _<=b;omega) _).setCell (p:=af7 b 1) (by show _<=b;omega) _).setCell (p:=af7 b 2) (by show _<=b;omega) _).setCell (p:=af7 b 3) (by show _<=b;omega) _).setCell (p:=af7 b 4) (by show _<=b;omega) _).setCell (p:=af7 b 5) (by show _<=b;omega) _).setCell (p:=af7 b 6) (by show _<=b;omega) _⟩
end
