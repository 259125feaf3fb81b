/- Parts. -/
import Derived.Test.YtdicblkhpcphfaaGreatPU21
set_option maxRecDepth 100000
set_option maxHeartbeats 0
set_option linter.all false
namespace Go.Proofs.YtdicblkhpcphfaaGreat
open Tryz Go.RowKit
open _root_.List renaming length→ab0
open Go.IntKind renaming wrap→ad0
open _root_.Go renaming Calls→af4
open Tryz renaming prog→af5
namespace K
variable{F F1:Nat->Prop}{w w' wr:World}{a cg g ga h j k led n r y:Nat}{cv lv:Value}{B l:List Int}{s s0:KS}{vs:List Sv}{L M:LL}
def yQ.next(h:yQ F w cg r cv)(z:∀k,F1 k->F k\/w.heap.size<=k)(t:w.heap.size<=wr.heap.size):yQ F1 wr cg r cv:=by
 have v:=h.lr;have u:=h.lg;refine⟨λe=>?_,λe=>?_,λk e=>⟨λx=>?_,?_⟩,aa,aa⟩
 .rcases z cg e with e|e
  .exact h.fg e
  .omega
 .rcases z r e with e|e
  .exact h.fr e
  .omega
 .have:=h.fv k e
  rcases z k x with y|y
  .exact this.1 y
  .omega
 .have:=(h.fv k e).2;omega
def KC.touch(h:KC w cg r cv B a)(z:yQ F w cg r cv)(y:Touch F w w'):KC w' cg r cv B a:=
 h.stay (y.block cg z.lg z.fg) (y.block r z.lr z.fr) (λk e=>y.block k (z.fv k e).2 (z.fv k e).1) y.size
def BY.back{F':Nat->Prop}(h:BY F1 wr g k n cg r cv B s0 F' w' lv vs s)
 (x:∀k,F1 k->F k\/w.heap.size<=k) (u:∀k,F k->F1 k) (v:Touch F w wr):BY F w g k n cg r cv B s0 F' w' lv vs s:=by
 have t:=v.size;refine⟨h.st,h.co,h.ok,h.eq,λy e=>?_,λy e=>h.sup y (u y e),?_⟩
 .rcases h.sub y e with e|e
  .exact x y e
  .exact .inr aa
 .refine(v.M (G:=λk=>F k\/k=r) λ_ z=>.inl z).T h.touch λi z=>?_
  rcases z with z|z
  .rcases x i z with e|e
   .exact .inl (.inl e)
   .exact .inr e
  .exact .inl (.inr z)
def and_one(m:Nat)(h:m<18446744073709551616):bits .and .u64 (m:Int) 1=((m % 2:Nat):Int):=by
 have z:=bits_and_u64_nat m 1 h aa;rw[Nat.and_one_is_mod] at z;exact z
structure VC(F:Nat->Prop)(w:World)(g k n led:Nat)(v:Int)(c:Nat)(L:LL)(j:Nat)(F1:Nat->Prop)(wr:World)(lv:Value)(vs:List Sv)(L1:LL):Prop where
 st:rl F1 wr g k n led lv vs L1
 eq:jD L v c=pe (64 - j) j (c / 2 ^ j) L1 v
 jk:∀i,pz (lvl L1 i)
 len:ab0 L1<=49
 cnt:cnt L1<=cnt L+j
 sub:∀k,F1 k->F k\/w.heap.size<=k
 sup:∀k,F k->F1 k
 touch:Touch F w wr
def yR(h:∀i,pz (lvl L i))(j:Nat)(z:List Int):∀i,pz (lvl (lN L j z) i):=λi=>by
 rw[l_];split
 .exact yH (h _) _
 .exact h i
def yS(h:ku (L,led,a))(v:Int)(c:Nat)(z:wt L+c<=281474976710656)(x:cnt L<=900000):ku (jD L v c,led,a):=by
 refine⟨?_,h.top.add v c,?_,?_,h.led⟩
 .exact vg (P:=λL=>∀i,pz (lvl L i)) (λL h y=>yR y h [v]) 64 0 c L h.jk
 .show wt (jD L v c)<=_
  rw[BQ _ _ aa];exact z
 .show cnt (jD L v c)<=_
  have:=N' L v c;omega
def Ra{c:Nat}(v:Int)(w:World)(z:rl F w g k n led lv vs L)(x:KC w cg r cv B a)(u:yQ F w cg r cv)(y:ku (L,led,a))
 (s:n=wt L) (hc0:0<c) (hc:n+c<=281474976710656) (hcn:cnt L<=900000) (h2:2<=k) (hk:k<=1000000) :
 af4 af5 133 #[aq g,af6 v,.int .u64 c,aq cg] w λe w'=>e=.returned (af6 0)/\∃t q p,BY F w g k (n+c) cg r cv B (jD L v c,led,a) t w' q p (je k B (jD L v c,led,a))/\jo k (je k B (jD L v c,led,a)).1=none:=by
 have A:Hid (VC F w g k (n+c) led v c L 0 F (w.setCell (af7 g 2) (.int .u64 (n+c:Nat))) lv vs L):=ax ⟨z.Hf _,by simp[jD],y.jk,y.len,aD _,λ_ h=>.inl h,λ_ h=>h,Touch.setCell (Touch.refl _ _) (.inl z.fg) _⟩;have k2:=z.cell2;have f2:=z.blk.F 2;have l:=ax x;have N:=ax u;have o:=ax (yS y v c aa hcn);clear z x u y s;have hc2:¬(c:Int) > 281474976710656 - (n:Int):=aa;go_in;go_wp2;go_loopg [9] 64 (λq i wr=>∃(j:Nat) (d:Nat->Prop) (S:Value) (Q:List Sv) (y:LL),q=64 - j/\j<=49/\i=af6 (j:Int)/\Hid (VC F w g k (n+c) led v c L j d wr S Q y))
 case atStart=>
  have z:=A.o;rw[dx] at z;exact⟨0,F,lv,vs,L,rfl,aa,rfl,ax z⟩
 case round=>
  obtain⟨j,d,S,Q,y,x,hj,rfl,z⟩:=hrel;have J:=ax x;clear x;have⟨m,U⟩:=ar (c / 2 ^ j);have hmc:m<=c:=by rw[<-U];exact el ..
  have s:(c:Int) / 2 ^ j=(m:Int):=by
   rw[<-U,Int.natCast_ediv,fG];rfl
  have q:=ax U;have Y:=ax s;clear s;have hsz:=z.o.touch.size;by_cases H:m=0
  .have Tk:¬(m:Int) > 0:=aa
   have u:y=jD L v c:=by rw[z.o.eq,q.o,H,AG]
   subst u;have x:=ax (Eo (s0:=(jD L v c,led,a)) wr z.o.st (l.o.touch N.o z.o.touch) (N.o.next z.o.sub hsz) o.o h2 hk);go_wp2_with (first|(have s:=Y.o;rw[s]))
   refine RX x.o ?_;rintro w2 ⟨b,R,P,t,p⟩;have f:=ax t;have X:=ax p;clear t p x;go_wp2;refine ak ?_;exact⟨rfl,b,R,P,f.o.back z.o.sub z.o.sup z.o.touch,X.o⟩
  .have Tk:(m:Int) > 0:=aa
   have YD:j<=48:=by
    rcases bm j 49 with u|u
    .omega
    .have x:2 ^ 49<=2 ^ j:=bM ab u
     have V:c / 2 ^ j=0:=fw aa;have:=q.o;omega
   have x:c / 2 ^ (j+1)=m / 2:=by rw[cC,<-fj,q.o]
   have K:Hid (pe (64 - j) j m y v=pe (64 - (j+1)) (j+1) (m / 2) (if m % 2=1 then lN y j [v] else y) v):=ax (by
    rw[show 64 - j=(64 - (j+1))+1 by omega,pe,aF H])
   have M:=ax x;have O:=ax (and_one m aa);clear x;have YE:j+1<=49:=aa;by_cases G:m % 2=1
   .have T:((m % 2:Nat):Int)=1:=aa
    have V:=ax (put_any j (.slice (some (af7 (wr.heap.size) 0)) 1 1) [v] (wr.alloc (.cells #[af6 v] 2)) (z.o.st.K ((aC _ _).alloc (aD _) _)) (Aside.oX (g8.one (E:=iY) wr v _ rfl _ rfl) λx e u=>by
     have e:=bJ (show some wr.heap.size=some x from e);have:=z.o.st.low x u;omega) (z.o.jk j) aa (aa2 z.o.len) (aa6 (iD y j) z.o.cnt) ad)
    have s:=Y.o;have han:bits .and .u64 (m:Int) 1=1:=by rw[O.o];exact T
    go_wp21;refine RX V.o ?_
    rintro w2 ⟨b,R,P,t,p,D,C⟩;have f:=ax t;have X:=ax p;have W:=ax D;have h:=ax C;have I:(wr.alloc (.cells #[af6 v] 2)).heap.size=wr.heap.size+1:=ad;rw[I] at t;have f:=ax t;clear t p D C V I;go_wp2;go_roundg (64 - (j+1))
    case measure=>have:=J.o;omega
    case rel=>
     refine⟨j+1,b,R,P,lN y j [v],rfl,aa,af,ax ⟨W.o,?_,yR z.o.jk j [v],?_,?_,?_,?_,?_⟩⟩
     .rw[z.o.eq,q.o,M.o,K.o,aH G]
     .rw[jd];have:=z.o.len;omega
     .rw[oP];have:=z.o.cnt;simp;omega
     .intro x V
      rcases f.o x V with u|u
      .exact z.o.sub x u
      .exact .inr aa
     .exact λx V=>X.o x (z.o.sup x V)
     .exact(z.o.touch.alloc _).T h.o λi I=>z.o.sub i I
   .have T:((m % 2:Nat):Int)=0:=aa
    have s:=Y.o;have han:bits .and .u64 (m:Int) 1=0:=by rw[O.o];exact T
    go_wp2;go_roundg (64 - (j+1))
    case measure=>have:=J.o;omega
    case rel=>
     refine⟨j+1,d,S,Q,y,rfl,aa,af,ax ⟨z.o.st,?_,z.o.jk,z.o.len,?_,z.o.sub,z.o.sup,z.o.touch⟩⟩
     .rw[z.o.eq,q.o,M.o,K.o,aF G]
     .have:=z.o.cnt;omega
def add_zero(g:Nat)(v:Int)(q:Value)(w:World):af4 af5 133 #[aq g,af6 v,.int .u64 0,q] w λe z=>e=.returned (af6 4)/\w=z:=by
 go_in;go_wp2;go_ret;exact⟨rfl,rfl⟩
def add_over(v:Int)(c:Nat)(q:Value)(w:World)(z:rl F w g k n led lv vs L)(t:n<=281474976710656)(u:281474976710656<n+c)(YF:c<18446744073709551616):af4 af5 133 #[aq g,af6 v,.int .u64 c,q] w λe y=>e=.returned (af6 6)/\w=y:=by
 have s:=z.cell2;have x:(c:Int) > 281474976710656 - (n:Int):=aa;clear z;go_in;go_wp2;go_ret;exact⟨rfl,rfl⟩
structure vk(F:Nat->Prop)(w:World)(g k cg:Nat)(cv:Value)(B:List Int)(s0:KS)(F1:Nat->Prop)(wr:World)(lv:Value)(vs:List Sv)(s:KS):Prop where
 st:xv F1 wr g k s.2.1 lv vs s.1
 co:RC wr cg cv B s.2.2
 ok:ku s
 eq:je k B s0=je k B s
 sub:∀k,F1 k->F k\/w.heap.size<=k
 touch:Touch (λk=>F k\/k=cg) w wr
def vk.drew(h:vk F w g k cg cv B s0 F1 wr lv vs s):vk F w g k cg cv B s0 F1 wr.drew lv vs s:=
 ⟨h.st.K (aC _ _).drew,h.co.stay rfl (λ_ _=>rfl) (aD _),h.ok,h.eq,h.sub,h.touch.drew⟩
structure wh(F:Nat->Prop)(w:World)(cg:Nat)(cv:Value):Prop where
 fg:¬F cg
 fv:∀k,cv.ownBlock=some k->¬F k/\k<w.heap.size
 lg:cg<w.heap.size
structure Hw(F:Nat->Prop)(w:World)(g k led cg ga sc:Nat)(cv lv:Value)(B:List Int)(a:Nat)(l:List Int)(F1:Nat->Prop)(wr:World)(vs:List Sv)(M:LL):Prop where
 st:xv F1 wr g k led lv vs M
 fa:¬F1 ga
 ol:g8 iY 0 wr (.slice (some (af7 ga 0)) (ab0 l) sc) l
 co:RC wr cg cv B a
 sub:∀k,F1 k->F k\/w.heap.size<=k
 touch:Touch (λk=>F k\/k=cg) w wr
def mR.less{t:TypeId}{a:Value}{rest:List Value}(h:mR t a rest F w g lv vs L)(x:ga≠g)(v:lv.ownBlock≠some ga)(u:∀i (y:i<ab0 vs),(jc vs[i]).ownBlock≠some ga):mR t a rest (λk=>F k/\k≠ga) w g lv vs L:=
 ⟨h.blk,⟨h.iN.row,h.iN.len,h.iN.each,h.iN.apart,h.iN.diff,λk e=>⟨h.iN.fl k e,λz=>v (z▸e)⟩,λi y k e=>⟨h.iN.fv i y k e,λz=>u i y (z▸e)⟩⟩,⟨h.fg,λe=>x e.Y⟩,h.g1,h.g2,λk z=>h.low k z.1⟩
def Hw.turn{led' sc:Nat}{tX:Value}{F2:Nat->Prop}{wx:World}{vs':List Sv}{M':LL}(h:Hw F w g k led cg ga sc cv lv B a l F1 wr vs M)
 (y:wh F w cg cv) (x:Touch F1 wr wx) (p:xv F2 wx g k led' tX vs' M') (u:∀k,F2 k->F1 k\/wr.heap.size<=k):Hw F w g k led' cg ga sc cv tX B a l F2 wx vs' M':=by
 have r:=(h.ol.lt ga rfl).2;have d:=h.touch.size;have s:=y.lg;have v:∀z,z<w.heap.size->¬F z->¬F1 z:=λz f t e=>by
  rcases h.sub z e with e|e
  .exact t e
  .omega
 refine⟨p,λe=>?_,h.ol.stay λz e=>?_,h.co.stay (x.block cg aa (v cg s y.fg)) (λz e=>x.block z (aa2 (y.fv z e).2) (v z (y.fv z e).2 (y.fv z e).1)) x.size,λz e=>?_,?_⟩
 .rcases u ga e with e|e
  .exact h.fa e
  .omega
 .have e:=bJ (show some ga=some z from e)
  subst e;exact x.block ga r h.fa
 .rcases u z e with e|e
  .exact h.sub z e
  .exact .inr aa
 .refine h.touch.T x λi q=>?_
  rcases h.sub i q with e|e
  .exact .inl (.inl e)
  .exact .inr e
def JA(M:LL)(h:Nat)(l:List Int)(y j:Nat):LL:=if j=0 then M else lN M (h+1) (Jx l y j)
def OI(x:2 * j+y<ab0 l):lN (JA M h l y j) (h+1) [l[2 * j+y]]=JA M h l y (j+1):=by
 have e:Jx l y (j+1)=Jx l y j++[l[2 * j+y]]:=by rw[En,List.getD,aL x];rfl
 unfold JA;rw[aF (show ¬j+1=0 by omega),e];by_cases z:j=0
 .subst z;rw[aH rfl];rfl
 .rw[aF z,AE]
def Hx(z:h<ab0 M):ab0 (JA M h l y j)<=ab0 M+1:=by
 unfold JA;split
 .omega
 .rw[jd];omega
def Rb(M:LL)(h:Nat)(l:List Int)(y j:Nat):cnt (JA M h l y j)<=cnt M+j:=by
 unfold JA;split
 .omega
 .rw[oP,yP];omega
def AI(w:World)(s:xv F w g k s0.2.1 lv vs s0.1)(v:RC w cg cv B s0.2.2)(u:wh F w cg cv)(t:ku s0)(h2:2<=k)(hk:k<=1000000):af4 af5 117 #[aq g,aq cg] w λe R=>e=.returned (.tuple #[])/\∃z y x,vk F w g k cg cv B s0 z R y x (je k B s0):=by
 have Yq:Hid (vk F w g k cg cv B s0 F w lv vs s0):=ax ⟨s,v,t,rfl,λk hk=>.inl hk,Touch.refl _ _⟩;have D:=ax u;clear s v t u;go_in;go_wp2;go_loopg [4,5,6,7,8,9] (100 * cnt s0.1+ab0 s0.1) (λq z _ _ _ _ _ wr=>∃J Gj T s,∃h:Nat,q=100 * cnt s.1+(ab0 s.1 - h)/\z=af6 h/\h<=ab0 s.1/\Hid (∀j,j<h->ab0 (lvl s.1 j)<=room k (ab0 s.1) j)/\Hid (vk F w g k cg cv B s0 J wr Gj T s))
 exact⟨F,lv,vs,s0,0,rfl,rfl,bl _,ax λj X=>absurd X aa,Yq⟩
 case round=>
  obtain⟨J,Gj,T,s,h,L,rfl,hhl,VD,u⟩:=hrel;have HQ:=ax L;clear L;have hlen:=u.o.ok.len;have k1:=u.o.st.cell1;have k0:=u.o.st.cell0;obtain⟨A1,cA,Sr,hcA,ad6,_⟩:=u.o.st.form;by_cases V:h<ab0 s.1
  .obtain⟨v,n,sA,G,YG,hgl,Ho,sZ,t,c2,o,x,N⟩:=u.o.st.at_ V
   subst YG;injection Sr with e1 I e3;subst e1;subst e3;have hgr:=u.o.st.blk.lt;have UA:=iD s.1 h;have hcn:=u.o.ok.cnt;have WR:=ax (λW=>Lb k (ab0 s.1) h W h2 hk aa  aa);have hrl:=xt (k:=k) V;have hrk:=room_le (k:=k) (len:=ab0 s.1) (h:=h) h2;have⟨rm,y⟩:=ar (room k (ab0 s.1) h);rw[y] at WR hrl hrk;have⟨l,z⟩:=ar (lvl s.1 h);rw[z] at c2 x N t UA;have HRE:=ax y;have HL:=ax z;have OL:=ax x;have HOWN:=ax N;have HVS:=ax t;have K1:=ax k1;have K0:=ax k0;have C2:=ax c2;have Yv:=ax o;clear z x N t y k0 c2 o;go_upto_region 2 with fail;clear k1;have Z:=ax (λ(R:World) (Y:af3 wr R)=>(aB ((Y.C (p:=af7 g 0) hgr).T K0.o) (aB ((Y.C (p:=af7 g 1) hgr).T K1.o) ((Y.C (p:=af7 v h) hgl).T C2.o))));refine jh (λR=>af3 wr R) (hQ 0 18 (ik 18 (hQ 19 1 []))) ((aC _ _).drew) ?_;iterate 18 refine ib ?_
   refine iz λK O=>?_;go_simp;refine RX (WR.o _) ?_;intro r hw2;subst hw2;refine O _ _ ((aC _ _).drew) ?_;refine ib ?_;refine g4 ?_;by_cases hgt:(ab0 l:Int)<=(rm:Int)
   .go_wp2
    go_roundg (100 * cnt s.1+(ab0 s.1 - (h+1)))
    case measure=>have:=HQ.o;omega
    case rel=>
     refine⟨J,_,T,s,h+1,rfl,af,aa,ax λj X=>?_,ax u.o.drew⟩;rcases bm j h with t|t
     .exact VD.o j t
     .obtain rfl:j=h:=aa
      rw[HL.o,HRE.o];omega
   .have FK:Hid (jo k s.1=some h):=ax (D5 V (by rw[HL.o,HRE.o];omega) VD.o)
    have hx2:2<ab0 l:=aa;have hlc:ab0 l<=1000000:=aa;have P:=ax (Lw cg cv B s.2.2 wr.drew u.o.drew.co);have k1:wr.drew.cell? (af7 g 1)=_:=K1.o;have c2:wr.drew.cell? (af7 v h)=_:=C2.o;go_wp21;refine RX P.o ?_;rintro r ⟨Q,x⟩;have U:∀z,J z->z≠cg/\cv.ownBlock≠some z:=λz C=>by
     have y:=D.o.lg;rcases u.o.sub z C with t|t
     .exact⟨λe=>D.o.fg (e▸t),λe=>(D.o.fv z e).1 t⟩
     .exact⟨aa,λe=>by have:=(D.o.fv z e).2;omega⟩
    have VE:=ax U;have m:=ax Q;have c:Hid (xv J r g k s.2.1 (.slice (some (af7 v 0)) (ab0 s.1) n) T s.1):=ax (u.o.drew.st.stay (λz C=>x.block z (u.o.st.low z C) (VE.o z C).1) x.size);have A:Hid (Touch (λk=>F k\/k=cg) w r):=ax (u.o.drew.touch.T x λi hi=>.inl (.inr hi));have zC:=ax u.o.ok;have Yt:=ax u.o.eq;have Hv:=ax u.o.sub;have S:Hid (g8 iY 0 r (.slice sA (ab0 l) G) l):=ax (OL.o.stay λz e=>x.block z (OL.o.lt z e).2 (VE.o z (HOWN.o z e).1).1);have o:r.frozen? (af7 v h)=false:=(dr (a:=af7 v h) (x.block v hgl (VE.o v sZ).1)).T Yv.o;have c2':r.cell? (af7 v h)=_:=(bn (a:=af7 v h) (x.block v hgl (VE.o v sZ).1)).T C2.o;have W:=c.o.cell1;have TQ:=rX B s.2.2;have⟨y,d⟩:=ar (i5 B s.2.2);rw[d] at TQ |-;have HY:=ax d;obtain⟨f,c5,es,_,Yr,hc5,hc6⟩:=S.o.pos aa
    injection es with es1 es2 es3;subst es1;subst es3
    -- the level laid empty
    have b:=mR.level (s':=(none,0,0)) (l':=[]) (w1:=r) c.o V rfl (g8.nil_ _ _) (λ_ _ _=>rfl) (aD _) (.inr λz e=>by simp[jc,Value.ownBlock] at e);have E:=ax b;have HQQ:=HQ;clear U Q x d k1 c2 b P u;have N:=HOWN.o f rfl;have H:xv (λz=>(J z\/(jc ((none,0,0):Sv)).ownBlock=some z)/\z≠f) (r.setCell (af7 v h) (jc (none,0,0))) g k s.2.1 (.slice (some (af7 v 0)) (ab0 s.1) n) (T.set h (none,0,0)) (s.1.set h []):=
     mR.less E.o N.2.2 (λe=>N.2.1 (bJ (show some v=some f from e)).Y) λi hi e=>by
      rw[fy] at e;split at e
      .simp[jc,Value.ownBlock] at e
      .rename_i b
       rw[aZ] at hi;have x:h<ab0 T:=by rw[c.o.iN.len];exact V
       have d:T[h]=(some (af7 f 0),ab0 l,G):=by
        have:=HVS.o;rw[aL x] at this;exact bJ this
       exact c.o.iN.diff h i x hi b f (by rw[d];rfl) e
    have M:=ax H;have YH:f≠v:=N.2.1;have P:Hid (g8 iY 0 (r.setCell (af7 v h) (jc (none,0,0))) (.slice (some (af7 f 0)) (ab0 l) G) l):=ax (S.o.far (p:=af7 v h) (λe=>YH (bJ (show some f=some v from e))) _);have Q:Hid (RC (r.setCell (af7 v h) (jc (none,0,0))) cg cv B (jP B s.2.2)):=ax (by
     have x:=VE.o v sZ;exact m.o.stay (a_ r (af7 v h) _ cg λe=>x.1 e.Y) (λz e=>a_ r (af7 v h) _ z λI=>x.2 (by rw[e,I])) ad)
    have U:Hid (Touch (λk=>F k\/k=cg) w (r.setCell (af7 v h) (jc (none,0,0)))):=ax (A.o.setCell (by
     rcases Hv.o v sZ with t|t
     .exact .inl (.inl t)
     .exact .inr t) _)
    have x:∀z,((J z\/(jc ((none,0,0):Sv)).ownBlock=some z)/\z≠f)->F z\/w.heap.size<=z:=λz C=>by
     rcases C.1 with t|t
     .exact Hv.o z t
     .simp[jc,Value.ownBlock] at t
    have d:=ax x;clear H x N;go_upto_if 57 with(fail)
    have b:Hid (Hw F w g k s.2.1 cg f G cv (.slice (some (af7 v 0)) (ab0 s.1) n) B (jP B s.2.2) l _ (r.setCell (af7 v h) (jc (none,0,0))) (T.set h (none,0,0)) (s.1.set h [])):=ax ⟨M.o,λe=>e.2 rfl,P.o,Q.o,d.o,U.o⟩;clear M P Q d U E S m c A o c2' W;have⟨d,c⟩:=ar (r.setCell (af7 v h) (jc (none,0,0)));rw[c] at b;show Code.wp _ _ _ _ (r.setCell (af7 v h) (jc (none,0,0)))
    rw[c];clear c;go_cut [70] (λ_ wx=>∃(U:Nat->Prop) (c:List Sv),Hid (Hw F w g k s.2.1 cg f G cv (.slice (some (af7 v 0)) (ab0 s.1) n) B (jP B s.2.2) l U wx c (s.1.set h (m8 l))))
    case first=>
     by_cases ad7:ab0 l % 2=1
     .have VF:(ab0 l:Int) % 2=1:=aa
      have⟨x,H⟩:=ar (l[ab0 l - 1]' aa );have HOD:Hid (m8 l=[x]):=ax (by
       unfold m8;have e:2 * (ab0 l / 2)=ab0 l - 1:=aa;rw[e,b_ aa,H,db aa])
      have K3:Hid (d.cell? (af7 g 1)=some (.slice (some (af7 v 0)) (ab0 s.1) n)):=ax b.o.st.cell1;obtain⟨ga',off,P,hga,Q⟩:=(b.o.ol.ef).i64 (j:=ab0 l - 1) (by omega);injection P with P;injection P with OF OG;subst OF;subst OG;rw[cG,H] at Q;have A:=ax Q;obtain⟨gl',cc',sA',sc',YI,YJ,_,_,_,M,S,_,_⟩:=b.o.st.at_ (j:=h) (by rw[aZ];exact V);injection YI with e1 I e3;clear I e3;injection e1 with e1;injection e1 with e1;subst e1;have W:=ax M;have F3:=ax S;have m:=b.o.st.blk.lt;have⟨c,U⟩:=ar (ab0 l - 1);have HE:Hid ((ab0 l:Int) - 1=(c:Int)):=ax aa;have hlt1:c<ab0 l:=aa;have hlt2:(c:Int)<(ab0 l:Int):=aa;have I:Hid (ad0 .i64 (c:Int)=(c:Int)):=ax (cy _ aa);rw[U] at A;clear H Q M S U;go_upto_region 8 with fail;have Z:=ax (λ(R:World) (Y:af3 d R)=>(aB ((Y.C (p:=af7 g 1) m).T K3.o) (aB ((Y.C (p:=af7 f c) hga).T A.o) (aB (HE.o) (I.o)))));refine qd (λR=>af3 d R) 13 (pW 0 11 (o_ 11 (pW 12 1 (o_ 13 [])))) ((aC _ _).drew) ?_;iterate 11 refine kz ?_
      refine nC λK O=>?_;go_simp;refine O _ _ (((aC _ _).drew).alloc ag _) ?_;refine kz ?_;refine qc λK O=>?_;have U:=W.o;have Y:=F3.o;go_simp;refine O _ _ ?_;refine iq ?_;clear U Y;have U:=mR.level (s':=(some (af7 (d.heap.size) 0),1,1)) (l':=[x]) (j:=h) (w1:=d.alloc (.cells #[af6 x] 2)) b.o.st (by rw[aZ];exact V) rfl ((g8.one (E:=iY) d x _ rfl _ rfl).more (bl _)) (λz t _=>eJ d _ z t) ad (.inr λz e=>by have e:=bJ (show some d.heap.size=some z from e);omega);rw[World.setCell_alloc_past _ _ _ _ YJ,gT,gT] at U;have M:=b.o.st.iN.fl v rfl;have Y:=b.o.turn D.o (wx:=((d.setCell (af7 v h) (jc (some (af7 (d.heap.size) 0),1,1))).alloc (.cells #[af6 x] 2)).drew) (Touch.drew (Touch.alloc (Touch.setCell (Touch.refl _ _) (.inl M) _) _)) (U.K (aC _ _).drew) (λz e=>by
       rcases e with e|e
       .exact .inl e
       .have e:=bJ (show some d.heap.size=some z from e)
        exact .inr aa)
      rw[<-HOD.o] at Y;have S:=ax Y;clear U M Y;go_wp21
      go_meet
      exact⟨_,_,S⟩
     .have VF:¬(ab0 l:Int) % 2=1:=aa
      have c:m8 l=[]:=by unfold m8;exact db aa
      have Y:=ax c;clear c;go_wp21
      go_meet
      exact⟨_,_,by rw[Y.o];exact b⟩
    case rest=>
     obtain⟨F3,vs3,t⟩:=hcut;have HF3:=ax (show Hw F w g k s.2.1 cg f G cv (.slice (some (af7 v 0)) (ab0 s.1) n) B (jP B s.2.2) l F3 wc vs3 (JA (s.1.set h (m8 l)) h l y 0) from t.o);clear b t;have HML:Hid (∀j,ab0 (JA (s.1.set h (m8 l)) h l y j)<=50):=ax λj=>by
      have:=Hx (M:=s.1.set h (m8 l)) (h:=h) (l:=l) (y:=y) (j:=j) (by rw[aZ];exact V);rw[aZ] at this;omega
     have HMC:Hid (∀j,j<=ab0 l->cnt (JA (s.1.set h (m8 l)) h l y j)<=3000000):=ax λj X=>by
      have:=Rb (s.1.set h (m8 l)) h l y j;have t:=xr s.1 h V (m8 l);rw[rj] at t;omega
     go_wp2;go_loopg [7] (ab0 l / 2) (λq i wx=>∃(j:Nat) (F4:Nat->Prop) (WS:Value) (W:List Sv),q=ab0 l / 2 - j/\j<=ab0 l / 2/\i=af6 ((2 * j:Nat):Int)/\Hid (Hw F w g k s.2.1 cg f G cv WS B (jP B s.2.2) l F4 wx W (JA (s.1.set h (m8 l)) h l y j)))
     exact⟨0,F3,_,vs3,rfl,aa,rfl,HF3⟩
     case round=>
      obtain⟨j,F4,WS,W,L,X,rfl,I⟩:=hrel;have HQ4:=ax L;clear L;by_cases hjl:j<ab0 l / 2
      .have E:2 * j+y<ab0 l:=aa
       obtain⟨ga',off,P,hga,Q⟩:=(I.o.ol.ef).i64 E;injection P with P;injection P with OF OG;subst OF;subst OG;rw[cG] at Q;have HUS:=ax (OI (M:=s.1.set h (m8 l)) (h:=h) E);have⟨x,H⟩:=ar (l[2 * j+y]);rw[H] at Q HUS;have⟨m,c⟩:=ar (2 * j);rw[c] at Q E |-;have A:=ax (pr (h+1) x wr I.o.st aa (aa2 (HML.o j)) (aa6 (iD (JA (s.1.set h (m8 l)) h l y j) (h+1)) (HMC.o j aa )))
       have hm2:(m:Int)+1<(ab0 l:Int):=aa;have HM:=ax c;clear H c;go_wp21;refine RX A.o ?_;rintro w5 ⟨F5,WT,vs5,S,q2,U,Y⟩;have t:=I.o.turn D.o Y U S;rw[HUS.o] at t;have YK:=ax t;clear S q2 U Y t A;go_wp2;go_roundg (ab0 l / 2 - (j+1))
       exact⟨j+1,F5,WT,vs5,rfl,aa,by rw[<-HM.o];go_num,YK⟩;have:=HQ4.o;omega
      .obtain rfl:j=ab0 l / 2:=aa
       have⟨m,c⟩:=ar (2 * (ab0 l / 2));rw[c];have hm2:¬(m:Int)+1<(ab0 l:Int):=aa;have hmb:m<=ab0 l:=aa;have Qy:Hid (JA (s.1.set h (m8 l)) h l y (ab0 l / 2)=(kO B h s).1):=ax (by
        unfold JA;rw[aF aa,Jy,<-HL.o,<-HY.o];rfl)
       have BZ:=zC.o.led;have TR:h<=48:=aa;have YL:Hid (∀j,j<=h->2 ^ j<=281474976710656):=ax λj X=>bf (bM ab (show j<=48 by omega)) ab;have t:=I.o;rw[Qy.o] at t;have Y:=ax t;clear c t I HF3;go_wp2;go_loopg [8,9] h (λq p i wx=>(∃j:Nat,q=h - j/\j<=h/\p=.int .u64 ((2 ^ j:Nat):Int)/\i=af6 (j:Int))/\wr=wx)
       exact⟨⟨0,aa,aa,rfl,rfl⟩,rfl⟩
       case round=>
        obtain⟨⟨j,L,X,rfl,rfl⟩,rfl⟩:=hrel;have HQ5:=ax L;have hpb:=YL.o j X;have S:=ax (by rw[cC];omega:2 ^ (j+1)=2 * 2 ^ j);have⟨p,q⟩:=ar (2 ^ j);rw[q] at hpb S |-;have HPP:=ax q;clear q L
        by_cases hjh:j<h
        .go_wp2
         go_roundg (h - (j+1))
         exact⟨⟨j+1,rfl,aa,by rw[S.o];go_num,af⟩,rfl⟩;have:=HQ5.o;omega
        .obtain rfl:j=h:=aa
         have k2:=Y.o.st.cell2;have o:=Y.o.st.blk.F 2;have U6:=ax Y.o.st.fg;have TS:=ax (by rw[<-HPP.o];rfl:min (s.2.1+p) 4611686018427387904=(kO B j s).2.1);have HVV:Hid (min ((s.2.1:Int)+(p:Int)) 4611686018427387904=(((kO B j s).2.1:Nat):Int)):=ax (by
          rw[<-TS.o];omega)
         have t:=Y.o.turn D.o (led':=(kO B j s).2.1) (wx:=wr.setCell (af7 g 2) (.int .u64 (kO B j s).2.1)) (Touch.setCell (Touch.refl _ _) (.inl U6.o) _) (Y.o.st.Hf _) (λz e=>.inl e);have U:=ax (zC.o.step (B:=B) FK.o);have A:=ax (nO (B:=B) FK.o);have E:=ax (Yt.o.T (sX (B:=B) FK.o));have c:Hid (vk F w g k cg cv B s0 F4 (wr.setCell (af7 g 2) (.int .u64 (kO B j s).2.1)) WS W (kO B j s)):=ax ⟨t.st,t.co,U.o,E.o,t.sub,t.touch⟩;clear t Y;go_upto_region 19 with fail;rw[HVV.o];have⟨w6,t⟩:=ar (wr.setCell (af7 g 2) (.int .u64 ((kO B j s).2.1:Nat)));rw[t] at c |-;clear t k2 o
         go_wp2;go_roundg (100 * cnt (kO B j s).1+(ab0 (kO B j s).1 - 0))
         case measure=>have:=HQ.o;have:=A.o;have:=U.o.len;omega
         case rel=>exact⟨F4,WS,W,kO B j s,0,rfl,rfl,bl _,ax λj X=>absurd X aa,c⟩
  .have FK:Hid (jo k s.1=none):=ax (mQ λj X=>VD.o j aa)
   have HE:=ax (u.o.eq.T (qj FK.o));subst Sr;go_wp21
   go_end0
   have q:=u.o;rw[<-HE.o] at q;exact⟨rfl,J,_,T,q⟩
def sx(h:j<ab0 L):pX 1 (L.take (j+1))=pX 1 (L.take j)+ab0 (lvl L j) * 2 ^ j:=by
 rw[aM h,oj,aU,dM aa,kZ h];simp[pX]
def wi(L:LL)(j:Nat):pX 1 (L.take j)<=wt L:=by
 unfold wt
 conv=>rhs;rw[<-bL j L,oj]
 omega
def VG(h:j<=49):2 ^ j<=562949953421312:=bf (bM ab h) ab
def iJ(w:World)(y:xv F w g k led lv vs L)(Q:wt L<=281474976710656)(H:ab0 L<=49):af4 af5 62 #[aq g] w λe P=>e=.returned (.int .u64 (wt L:Nat))/\w=P:=by
 obtain⟨A,c,z,G,E,_⟩:=y.form;have N:=y.cell1;have u:=ax y;have U:=ax (λj=>bf (wi L j) Q);have Y:=ax (show pX 1 (L.take (ab0 L))=wt L by rw[cK];rfl);clear y;subst z;go_in;go_wp2;go_loopg [3,4,5] (ab0 L) (λq n p i wr=>(∃j:Nat,q=ab0 L - j/\j<=ab0 L/\n=.int .u64 ((pX 1 (L.take j):Nat):Int)/\p=.int .u64 ((2 ^ j:Nat):Int)/\i=af6 (j:Int))/\w=wr)
 exact⟨⟨0,aa,aa,rfl,rfl,rfl⟩,rfl⟩
 case round=>
  obtain⟨⟨j,y,C,rfl,rfl,rfl⟩,rfl⟩:=hrel;have X:=ax y;clear y;have R:=VG (j:=j) (by omega);have a:=ax (by rw[cC];omega:2 ^ (j+1)=2 * 2 ^ j);by_cases s:j<ab0 L
  .obtain⟨K,M,o,n,z,D,_,_,_,T,_,_,_⟩:=u.o.at_ s
   injection z with z e2 e3;subst z;subst e3;have t:Hid (pX 1 (L.take (j+1))=pX 1 (L.take j)+ab0 (lvl L j) * 2 ^ j):=ax (sx s);have S:=U.o (j+1);have⟨b,v⟩:=ar (pX 1 (L.take (j+1)));have⟨d,q⟩:=ar (pX 1 (L.take j));have⟨x,f⟩:=ar (ab0 (lvl L j));have⟨p,y⟩:=ar (2 ^ j);rw[f] at T;rw[v] at S;rw[v,q,f,y] at t;rw[y] at R a;rw[q,y];have V:=ax v;have⟨m,r⟩:=ar (x * p);rw[r] at t;have l:(x:Int) * (p:Int)=(m:Int):=by rw[<-r];simp
   have B:m+d=b:=by have:=t.o;omega
   have O:x<=18446744073709551615:=by
    obtain⟨_,_,e,J,I,_⟩:=((u.o.iN.each j (by rw[u.o.iN.len];exact s))).form;omega
   clear f y q v r;go_wp2;go_roundg (ab0 L - (j+1))
   exact⟨⟨j+1,rfl,aa,by rw[V.o];go_num,by rw[a.o];go_num,af⟩,rfl⟩;have:=X.o;omega
  .obtain rfl:j=ab0 L:=aa
   rw[Y.o];go_wp2;refine ak ?_;exact⟨rfl,rfl⟩
section
variable {F : Nat -> Prop} {g k n led : Nat} {lv : Value} {vs : List Sv} {L : LL}
def size_any(w:World)(z:rl F w g k n led lv vs L):af4 af5 123 #[aq g] w λe y=>e=.returned (af6 (k:Nat))/\w=y:=by
 have x:=z.cell0;clear z;go_in;go_wp2;refine ak ?_;exact⟨rfl,rfl⟩
def total_any(w:World)(z:rl F w g k n led lv vs L):af4 af5 58 #[aq g] w λe y=>e=.returned (.int .u64 (n:Nat))/\w=y:=by
 have x:=z.cell2;clear z;go_in;go_wp2;refine ak ?_;exact⟨rfl,rfl⟩
def Hy(w:World)(z:rl F w g k n led lv vs L):af4 af5 206 #[aq g] w λe y=>e=.returned (.int .u64 (led:Nat))/\w=y:=by
 have x:=z.AH;clear z;go_in;go_wp2;refine ak ?_;exact⟨rfl,rfl⟩
def zM{L:LL}{j:Nat}(h:j<ab0 L):cnt (L.take (j+1))=cnt (L.take j)+ab0 (lvl L j):=by
 rw[aM h,oh,kZ h];simp[cnt]
def rn(L:LL)(j:Nat):cnt (L.take j)<=cnt L:=by
 conv=>rhs;rw[<-bL j L,oh]
 omega
end
variable{F F1 G:Nat->Prop}{w w' wr:World}{b base c cg g h i i6 j k led m n:Nat}{FM cv lv v:Value}{B:List Int}{s:Sv}{vs vs2:List Sv}{L M:LL}{A:Option Addr}
def wh.next(h:wh F w cg cv)(y:∀k,F1 k->F k\/w.heap.size<=k)(u:w.heap.size<=wr.heap.size):wh F1 wr cg cv:=by
 have v:=h.lg;refine⟨λe=>?_,λk e=>⟨λx=>?_,?_⟩,aa⟩
 .rcases y cg e with e|e
  .exact h.fg e
  .omega
 .have:=h.fv k e
  rcases y k x with z|z
  .exact this.1 z
  .omega
 .have:=(h.fv k e).2;omega
def RC.touch{a:Nat}(h:RC w cg cv B a)(z:wh F w cg cv)(y:Touch F w w'):RC w' cg cv B a:=
 h.stay (y.block cg z.lg z.fg) (λk e=>y.block k (z.fv k e).2 (z.fv k e).1) y.size
def vk.back{s0 s:KS}{F':Nat->Prop}(h:vk F1 wr g k cg cv B s0 F' w' lv vs s)
 (y:∀k,F1 k->F k\/w.heap.size<=k) (x:Touch F w wr):vk F w g k cg cv B s0 F' w' lv vs s:=by
 have u:=x.size;refine⟨h.st,h.co,h.ok,h.eq,λv e=>?_,?_⟩
 .rcases h.sub v e with e|e
  .exact y v e
  .exact .inr aa
 .refine(x.M (G:=λk=>F k\/k=cg) λ_ z=>.inl z).T h.touch λi z=>?_
  rcases z with z|z
  .rcases y i z with e|e
   .exact .inl (.inl e)
   .exact .inr e
  .exact .inl (.inr z)
structure Su(F:Nat->Prop)(w:World)(g k led:Nat)(v:Int)(c:Nat)(L:LL)(j:Nat)(F1:Nat->Prop)(wr:World)(lv:Value)(vs:List Sv)(L1:LL):Prop where
 st:xv F1 wr g k led lv vs L1
 eq:jD L v c=pe (64 - j) j (c / 2 ^ j) L1 v
 len:ab0 L1<=49
 cnt:cnt L1<=cnt L+j
 sub:∀k,F1 k->F k\/w.heap.size<=k
 touch:Touch F w wr
def yd{a:Nat}(v:Int)(w:World)(y:xv F w g k led lv vs L)(x:RC w cg cv B a)(u:wh F w cg cv)(z:ku (L,led,a))
 (hc0:0<c) (E:wt L+c<=281474976710656) (D:cnt L<=900000) (G:2<=k) (C:k<=1000000) :
 af4 af5 94 #[aq g,af6 v,.int .u64 c,aq cg] w λe w'=>e=.returned (af6 0)/\∃t s r,vk F w g k cg cv B (jD L v c,led,a) t w' s r (je k B (jD L v c,led,a)):=by
 have M:Hid (Su F w g k led v c L 0 F w lv vs L):=ax ⟨y,by simp[jD],z.len,aD _,λ_ h=>.inl h,Touch.refl _ _⟩;have R:=ax (iJ w y z.wt z.len);have K:=ax x;have V:=ax u;have J:=ax (yS z v c aa D);have⟨n,t⟩:=ar (wt L);rw[t] at E R;clear y x u z t;go_in;go_wp21;refine Ix R.o ?_;go_wp2;go_loopg [9,10] 64 (λq i m wr=>∃(j:Nat) (p:Nat->Prop) (d:Value) (Y:List Sv) (y:LL),q=64 - j/\j<=49/\i=af6 (j:Int)/\m=.int .u64 ((c / 2 ^ j:Nat):Int)/\Hid (Su F w g k led v c L j p wr d Y y))
 exact⟨0,F,lv,vs,L,rfl,aa,rfl,ad,M⟩
 case round=>
  obtain⟨j,p,d,Y,y,x,hj,rfl,rfl,z⟩:=hrel;have S:=ax x;clear x;have⟨m,t⟩:=ar (c / 2 ^ j);have hmc:m<=c:=by rw[<-t];exact el ..
  rw[t];have x:=ax t;have o:=z.o.touch.size;by_cases Q:m=0
  .have A:¬(m:Int) > 0:=aa
   have r:y=jD L v c:=by rw[z.o.eq,x.o,Q,AG]
   subst r;have u:=ax (AI (s0:=(jD L v c,led,a)) wr z.o.st (K.o.touch V.o z.o.touch) (V.o.next z.o.sub o) J.o G C);clear t;go_wp21;refine RX u.o ?_;rintro h ⟨q,b,X,s⟩;have f:=ax s;clear s u;go_wp2;refine ak ?_;exact⟨rfl,q,b,X,f.o.back z.o.sub z.o.touch⟩
  .have A:(m:Int) > 0:=aa
   have YD:j<=48:=by
    rcases bm j 49 with u|u
    .omega
    .have r:2 ^ 49<=2 ^ j:=bM ab u
     have U:c / 2 ^ j=0:=fw aa;have:=x.o;omega
   have T:c / 2 ^ (j+1)=m / 2:=by rw[cC,<-fj,x.o]
   have U:Hid (pe (64 - j) j m y v=pe (64 - (j+1)) (j+1) (m / 2) (if m % 2=1 then lN y j [v] else y) v):=ax (by
    rw[show 64 - j=(64 - (j+1))+1 by omega,pe,aF Q])
   have r:=ax T;clear T t;have YE:j+1<=49:=aa;by_cases P:m % 2=1
   .have l:(m:Int) % 2=1:=aa
    have T:=ax (pr j v wr z.o.st aa (aa2 z.o.len) (aa6 (iD y j) z.o.cnt));go_wp21;refine RX T.o ?_;rintro h ⟨q,b,X,s,W,O,N⟩;have f:=ax s;have I:=ax O;have H:=ax N;clear s W O N T;go_wp2;go_roundg (64 - (j+1))
    case measure=>have:=S.o;omega
    case rel=>
     refine⟨j+1,q,b,X,lN y j [v],rfl,aa,af,by rw[r.o];go_num,ax ⟨I.o,?_,?_,?_,?_,?_⟩⟩
     .rw[z.o.eq,x.o,r.o,U.o,aH P]
     .rw[jd];have:=z.o.len;omega
     .rw[oP];have:=z.o.cnt;simp;omega
     .intro T O
      rcases f.o T O with u|u
      .exact z.o.sub T u
      .exact .inr aa
     .exact z.o.touch.T H.o λi T=>z.o.sub i T
   .have l:¬(m:Int) % 2=1:=aa
    go_wp2;go_roundg (64 - (j+1))
    case measure=>have:=S.o;omega
    case rel=>
     refine⟨j+1,p,d,Y,y,rfl,aa,af,by rw[r.o];go_num,ax ⟨z.o.st,?_,z.o.len,?_,z.o.sub,z.o.touch⟩⟩
     .rw[z.o.eq,x.o,r.o,U.o,aF P]
     .have:=z.o.cnt;omega
def Lz(g:Nat)(v:Int)(q:Value)(w:World):af4 af5 94 #[aq g,af6 v,.int .u64 0,q] w λe z=>e=.returned (af6 4)/\w=z:=by
 go_in;go_wp2;refine ak ?_;exact⟨rfl,rfl⟩
def LA(v:Int)(c:Nat)(q:Value)(w:World)(x:xv F w g k led lv vs L)(u:wt L<=281474976710656)(t:ab0 L<=49)(s:281474976710656<wt L+c)(YF:c<18446744073709551616):af4 af5 94 #[aq g,af6 v,.int .u64 c,q] w λe r=>e=.returned (af6 6)/\w=r:=by
 have z:=ax (iJ w x u t);have⟨n,y⟩:=ar (wt L);rw[y] at s z u;have p:(c:Int) > 281474976710656 - (n:Int):=aa;clear x y;go_in;go_wp21;refine Ix z.o ?_;go_wp2;refine ak ?_;exact⟨rfl,rfl⟩
def Mr(w:World)(v:Value)(L:LL):Prop:=∃vs:List Sv,ab0 vs=ab0 L/\iQ rZ w v vs/\∀i (h:i<ab0 vs),iQ iY w (jc vs[i]) (lvl L i)
def Mr.K(h:Mr w v L)(z:af3 w w'):Mr w' v L:=by
 obtain⟨s,y,x,u⟩:=h;exact⟨s,y,x.K z,λi t=>(u i t).K z⟩
def mR.TU{t:TypeId}{a:Value}{rest:List Value}(h:mR t a rest F w g lv vs L):Mr w lv L:=
 ⟨vs,h.iN.len,h.iN.row.rd,λi z=>(h.iN.each i z).rd⟩
def Mr.form(h:Mr w v L):∃A c,v=.slice A (ab0 L) c/\ab0 L<=c/\c<=9223372036854775807:=by
 obtain⟨s,y,x,t⟩:=h;obtain⟨A,c,e,z,u,_⟩:=x.form;rw[y] at e z;exact⟨A,c,e,z,u⟩
def Mr.at_(h:Mr w (.slice A n c) L)(U:j<ab0 L):∃z y x v,A=some (af7 z y)/\z<w.heap.size/\w.cell? (af7 z (y+j))=some (.slice x (ab0 (lvl L j)) v)/\iQ iY w (.slice x (ab0 (lvl L j)) v) (lvl L j):=by
 obtain⟨a,V,q,p⟩:=h;obtain⟨Y,X,e,_,_,f⟩:=q.form;injection e with e1 e2 e3;subst e1;obtain⟨z,y,g,d,t⟩:=f.sl (j:=j) (by omega);have u:=p j aa;have⟨s,b⟩:=ar (a[j]' aa );rw[b] at u t;obtain⟨x,T,v⟩:=s;obtain⟨_,_,r,_,_,_⟩:=u.form;injection r with es1 es2 es3;subst es2;exact⟨z,y,x,v,g,d,t,u⟩
def r_(w:World)(a b:Nat):(w.drewN a).drewN b=w.drewN (a+b):=by unfold World.drewN;simp[de]
structure zD(base:Nat)(w:World)(v:Value)(vs:List Sv)(L:LL):Prop where
 row:g8 rZ base w v vs
 len:ab0 vs=ab0 L
 each:∀i (h:i<ab0 vs),g8 iY base w (jc vs[i]) (lvl L i)
def zD.TU(h:zD base w v vs L):Mr w v L:=⟨vs,h.len,h.row.rd,λi z=>(h.each i z).rd⟩
def zD.stay(h:zD base w v vs L)(y:∀k,base<=k->k<w.heap.size->w'.heap[k]?=w.heap[k]?):zD base w' v vs L:=
 ⟨h.row.stay λk e=>y k (h.row.lt k e).1 (h.row.lt k e).2,h.len,λi z=>(h.each i z).stay λk e=>y k ((h.each i z).lt k e).1 ((h.each i z).lt k e).2⟩
def zD.nil_(z:Nat)(w:World):zD z w (.slice none 0 0) [] []:=⟨g8.nil_ _ _,rfl,λi y=>absurd y ad⟩
def zD.snoc{w1 w2:World}{v2:Value}{l:List Int}(h:zD base w v vs L)(t:af3 w w1)(q:g8 iY base w1 (jc s) l)
 (f:g8 rZ base w2 v2 (vs++[s])) (r:w1.grownBy w2 v.ownBlock) (p:∀i (u:i<ab0 vs) k,(jc vs[i]).ownBlock=some k->v.ownBlock≠some k) (d:∀k,(jc s).ownBlock=some k->v.ownBlock≠some k):zD base w2 v2 (vs++[s]) (L++[l]):=by
 refine⟨f,by rw[aE,aE,h.len];rfl,λi u=>?_⟩;rcases bm i (ab0 vs) with z|z
 .rw[da z]
  have e:lvl (L++[l]) i=lvl L i:=by
   unfold lvl;simp only[List.getD];rw[cD (by rw[<-h.len];exact z)]
  rw[e];exact((h.each i z).K t).stay λk y=>r.block k (aa6 ((h.each i z).lt k y).2 t.size) (λx=>p i z k y x.Y)
 .have g:i=ab0 vs:=by rw[aE] at u;simp only[bh] at u;omega
  subst g;have e:lvl (L++[l]) (ab0 vs)=l:=by
   unfold lvl;simp only[List.getD];rw[h.len,cI (aD _)];simp
  rw[e];simp only[cU (aD _),cZ,bZ];exact q.stay λk y=>r.block k (q.lt k y).2 (λx=>d k y x.Y)
def take_snoc(h:j<ab0 L):L.take (j+1)=L.take j++[lvl L j]:=by rw[aM h,kZ h]
def s4(w:World)(r:rl F w g k n led lv vs L)(hL:ab0 L<=1000)(hl:cnt L<=1000000000):af4 af5 176 #[aq g] w λe G=>∃z y,e=.returned z/\zD w.heap.size G z y L/\af3 w G:=by
 obtain⟨i1,v,x,y,z⟩:=cR Tu;have JI:=ax v;have JZ:=ax x;have Oo:=ax y;have Ot:=ax z;clear v x y z;obtain⟨A,c,V,hc1,hc2,_⟩:=r.form;have c1:=r.cell1;have HS:=ax r;have HC:=ax (λj=>bf (iD L j) hl);clear r;subst V;go_in;go_wp2;go_loopg [3,5,11] (ab0 L) (λq o _ i wr=>∃(j:Nat) (t:List Sv),q=ab0 L - j/\j<=ab0 L/\i=af6 (j:Int)/\Hid (zD w.heap.size wr o t (L.take j))/\Hid (∀s∈t,∀k,(jc s).ownBlock=some k->o.ownBlock≠some k)/\Hid (af3 w wr))
 exact⟨0,[],aa,aa,rfl,ax (zD.nil_ _ _),ax (λi X=>absurd X ad),ax (aC _ _)⟩
 case round=>
  obtain⟨j,t,z,hj,rfl,u,S,Y⟩:=hrel;have HQ:=ax z;clear z;have H:=Y.o.size;by_cases I:j<ab0 L
  .obtain⟨gl,cc,sA,sc,V,hgl,_,_,_,f,_,q,_⟩:=HS.o.at_ I
   injection V with V z y;subst V;subst y;have b:=ax (vh _ (lvl L j) wr (q.rd.K Y.o) (aa2 (HC.o j)));have J:=ax (take_snoc I);have U:=(Y.o.C (p:=af7 gl j) hgl).T f;have⟨x,v⟩:=ar (lvl L j);rw[v] at J b U;have hvl:ab0 t=j:=by rw[u.o.len,aU];omega
   obtain⟨K,M,rfl,_,_,_⟩:=u.o.row.form;rw[hvl] at u S |-;clear v q f
   go_wp21;refine WE b.o ?_
   rintro s a ⟨d,v⟩;obtain⟨f,sn2,q⟩:=s;obtain⟨_,_,es,_,_,_⟩:=d.form;injection es with _ es2 _;subst es2;have N:=ax d;have h:=ax v;have W:=ax (u.o.row.K v);have o:=v.size;have hxl:ab0 t<=1000:=aa;simp only[jc];clear d v b U;go_wp2_with (at_builtin;refine ij rZ (ts:=112) i1 _ 24 underlying112 JI.o JZ.o Oo.o Ot.o rfl ab  ab rfl (.tmp 15) (.tmp 18) rfl w.heap.size (.slice K j M) t rfl (W.o.alloc _) _ [(f,ab0 x,q)] rfl (iQ.ig (E:=rZ) a (f,ab0 x,q) _ rfl _ rfl _ rfl) ae  ae ?_;intro m l b d v;have B:=ax b;have O:=ax d;have P:=ax v;clear b d v)
   have R:∀s∈t,∀k,(jc s).ownBlock=some k->k<wr.heap.size:=λs r k e=>by
    obtain⟨i,X,rfl⟩:=dt r;exact((u.o.each i X).lt k e).2
   have T:af3 wr (a.alloc (.cells #[.slice f (ab0 x) q] 196)):=h.o.alloc o _;have d:∀k,(Value.slice K j M).ownBlock=some k->w.heap.size<=k/\k<wr.heap.size:=λk e=>u.o.row.lt k e;have U:∀k,(jc (f,ab0 x,q)).ownBlock=some k->wr.heap.size<=k/\k<a.heap.size:=λk e=>N.o.lt k e;have b:=zD.snoc u.o T (N.o.alloc _ |>.more H) B.o O.o (λi X k e=>S.o _ (aP X) k e) (λk e z=>by have:=U k e;have:=d k z;omega);rw[<-J.o] at b;have C:=ax b;have D:Hid (∀s∈t++[(f,ab0 x,q)],∀k,(jc s).ownBlock=some k->m.ownBlock≠some k):=ax λs r k e=>by
    have YM:(a.alloc (.cells #[.slice f (ab0 x) q] 196)).heap.size=a.heap.size+1:=ad;rcases cz.1 r with v|v
    .rcases P.o with z|z
     .rw[z];exact S.o s v k e
     .rw[z];intro y
      have y:=bJ y;have:=R s v k e;omega
    .obtain rfl:=bQ.1 v
     have Q:=U k e;rcases P.o with z|z
     .rw[z];intro y
      have:=d k y;omega
     .rw[z];intro y
      have y:=bJ y;omega
   have Q:Hid (af3 w l):=ax ((Y.o.T (T.M H)).grown O.o ae (λk v=>(d k v).1));clear b R T d U;go_wp2;go_roundg (ab0 L - (j+1))
   exact⟨j+1,_,rfl,aa,af,C,D,Q⟩;have:=HQ.o;omega
  .obtain rfl:j=ab0 L:=aa
   go_wp2;refine ak ?_;have z:=u.o;rw[cK] at z;exact⟨_,_,rfl,z,Y.o⟩
structure WU(w:World)(v:Value)(vs:List Sv)(L:LL):Prop where
 len:ab0 vs=ab0 L
 row:iQ rZ w v vs
 each:∀i (h:i<ab0 vs),iQ iY w (jc vs[i]) (lvl L i)
def WU.at_(h:WU w (.slice A n c) vs L)(V:j<ab0 L):∃z v y x,A=some (af7 z v)/\z<w.heap.size/\vs[j]?=some (y,ab0 (lvl L j),x)/\w.cell? (af7 z (v+j))=some (.slice y (ab0 (lvl L j)) x)/\iQ iY w (.slice y (ab0 (lvl L j)) x) (lvl L j):=by
 obtain⟨X,p,g⟩:=h;obtain⟨a,Y,e,_,_,d⟩:=p.form;injection e with e1 e2 e3;subst e1;obtain⟨z,v,f,b,t⟩:=d.sl (j:=j) (by omega);have u:=g j aa;have⟨s,r⟩:=ar (vs[j]' aa );rw[r] at u t;obtain⟨y,U,x⟩:=s;obtain⟨_,_,q,_,_,_⟩:=u.form;injection q with es1 es2 es3;subst es2;exact⟨z,v,y,x,f,b,by rw[aL aa,r],t,u⟩
def jQ(F:Nat->Prop)(w:World)(v:Value)(vs:List Sv)(L:LL):Prop:=∀W,(∀k,k<w.heap.size->¬F k->W.heap[k]?=w.heap[k]?)->w.heap.size<=W.heap.size->WU W v vs L
def jQ.now(h:jQ F w v vs L):WU w v vs L:=h w (λ_ _ _=>rfl) (aD _)
def jQ.next(h:jQ F w v vs L)(t:∀k,k<w.heap.size->¬F k->w'.heap[k]?=w.heap[k]?)(q:w.heap.size<=w'.heap.size)(x:∀k,G k->F k\/w.heap.size<=k):jQ G w' v vs L:=
 λW y r=>h W (λk s z=>(y k aa (λu=>(x k u).elim z aa)).T (t k s z)) aa
def jQ.oX(h:zD base w v vs L)(u:∀k,F k->k<base):jQ F w v vs L:=λW x _=>by
 have z:=h.stay (w':=W) λk s y=>x k y (λt=>by have:=u k t;omega);exact⟨z.len,z.row.rd,λi t=>(z.each i t).rd⟩
def jQ.one(h:jQ F w v vs L)(u:vs[j]?=some s):Aside F w (jc s) (lvl L j):=λW z y=>by
 obtain⟨x,e⟩:=cV.1 u;have:=(h W z y).each j x;rw[e] at this;exact this
def r'{L M:LL}(h:∀i,pz (lvl L i)):∀j i,pz (lvl (takeN M j L) i)
 | 0,i=>h i
 | j+1,i=>by rw[takeN];exact yR (r' h j) _ _ i
def sd{a:Nat}(h:ku (L,led,a))(z:ku (M,i6,b))(y:wt L+wt M<=281474976710656)(x:cnt L+cnt M<=900000):ku (jT L M,min (led+i6) 4611686018427387904,a):=by
 refine⟨r' h.jk (ab0 M),h.top.take z.top,?_,?_,?_⟩
 .show wt (jT L M)<=_
  rw[tW];exact y
 .show cnt (jT L M)<=_
  rw[K'];omega
 .show min _ _<=_
  omega
def kV(M:LL):Nat->LL->LL
 | 0,L=>L
 | j+1,L=>if lvl M j=[] then kV M j L else lN (kV M j L) j (lvl M j)
def se(M L:LL):∀j i,lvl (kV M j L) i=if i<j then insL (lvl L i) (lvl M i) else lvl L i
 | 0,i=>by simp[kV]
 | j+1,i=>by
  rw[kV];by_cases z:lvl M j=[]
  .rw[aH z,se M L j i]
   by_cases e:i=j
   .subst e;rw[aF aa,aH aa,z,N5]
   .by_cases h:i<j
    .rw[aH h,aH aa]
    .rw[aF h,aF aa]
  .rw[aF z,l_,se M L j i,se M L j j]
   by_cases e:i=j
   .subst e;rw[aH rfl,aF aa,aH aa]
   .rw[aF e]
    by_cases h:i<j
    .rw[aH h,aH aa]
    .rw[aF h,aF aa]
def qo(M L:LL):∀j,ab0 L<=ab0 (kV M j L)/\ab0 (kV M j L)<=max (ab0 L) j
 | 0=>by simp[kV]
 | j+1=>by
  have:=qo M L j;rw[kV];split
  .omega
  .rw[jd];omega
def LB(u:D8 M):kV M (ab0 M) L=jT L M:=by
 have v:ab0 (kV M (ab0 M) L)=max (ab0 L) (ab0 M):=by
  rcases bo (ab0 M) with z|z
  .rw[z];simp[kV]
  .obtain⟨j,y⟩:∃j,ab0 M=j+1:=⟨ab0 M - 1,aa⟩
   have x:=u z;have t:=qo M L j;rw[y,kV,aF (by rw[y] at x;simpa using x),jd];omega
 refine N9 (by rw[v];unfold jT;rw[kS]) λi _=>?_;unfold jT;rw[se,pG]
def AJ(M L:LL):∀j,j<=ab0 M->cnt (kV M j L)=cnt L+cnt (M.take j)
 | 0,_=>by simp[kV,cnt]
 | j+1,hj=>by
  rw[kV,zM aa];have:=AJ M L j aa;split
  .rename_i h;rw[h];simp;omega
  .rw[oP];omega
def om(M L:LL)(j i:Nat):LL:=if i=0 then kV M j L else lN (kV M j L) j ((lvl M j).take i)
def Hz(y:i<ab0 (lvl M j)):lN (om M L j i) j [(lvl M j)[i]]=om M L j (i+1):=by
 unfold om;rw[aF (show ¬i+1=0 by omega),aM y];by_cases z:i=0
 .subst z;rw[aH rfl];simp
 .rw[aF z,AE]
def LC(M L:LL)(j:Nat):om M L j (ab0 (lvl M j))=kV M (j+1) L:=by
 unfold om;rw[kV,cK];by_cases h:lvl M j=[]
 .rw[aH (by rw[h];rfl),aH h]
 .rw[aF (by rw[List.length_eq_zero_iff];exact h),aF h]
def LD(M L:LL)(j i:Nat):ab0 (om M L j i)<=max (ab0 L) (j+1):=by
 have:=qo M L j;unfold om;split
 .omega
 .rw[jd];omega
def LF(z:j<=ab0 M):cnt (om M L j i)<=cnt L+cnt M+i:=by
 have y:=AJ M L j z;have x:=rn M j;unfold om;split
 .omega
 .rw[oP,aU];omega
structure VH(F:Nat->Prop)(w:World)(g k n led:Nat)(L M:LL)(lw:Value)(ws:List Sv)(j:Nat)(F1:Nat->Prop)(wr:World)(lv:Value)(vs:List Sv):Prop where
 st:rl F1 wr g k n led lv vs (takeN M j L)
 al:jQ F1 wr lw ws M
 sub:∀k,F1 k->F k\/w.heap.size<=k
 sup:∀k,F k->F1 k
 touch:Touch F w wr
def yT{r a:Nat}(w:World)(v:rl F w g k n led lv vs L)(z:rl G w h k m i6 FM vs2 M)(u:KC w cg r cv B a)(t:yQ F w cg r cv)
 (y:ku (L,led,a)) (x:ku (M,i6,b)) (d:n=wt L) (p:m=wt M) (hnm:n+m<=281474976710656) (hcn:cnt L+cnt M<=900000) (V:2<=k) (hk:k<=1000000) :
 af4 af5 106 #[aq g,aq h,aq cg] w λe f=>e=.returned (af6 0)/\∃s q c,BY F w g k (n+m) cg r cv B (jT L M,min (led+i6) 4611686018427387904,a) s f q c (je k B (jT L M,min (led+i6) 4611686018427387904,a))/\jo k (je k B (jT L M,min (led+i6) 4611686018427387904,a)).1=none:=by
 have H:=ax (sd y x aa hcn);have HT:=ax z;have E:=ax v;have YN:=ax u;have I:=ax t;have PW:=ax y.jk;have Sw:led<=4611686018427387904:=y.led;have Sx:i6<=4611686018427387904:=x.led;have hlenL:ab0 L<=49:=y.len;have Sy:ab0 M<=49:=x.len;have N:=v.cell0;have X:=v.cell2;have s:=z.cell0;have q:=z.cell2;have D2:=ax z.cell2;have D3:=ax z.AH;have l:=z.blk.lt;have hcM:cnt M<=1000000000:=aa;clear v z u t y x d p;go_in;go_wp21
 go_quiet (fail)
 go_wp21
 go_quiet (fail)
 go_upto_region 7 with fail;clear N X s q;have Z:=ax (λ(f:World) (z:af3 w f)=>(aB ((z.C (p:=af7 h 2) l).T D2.o) ((z.C (p:=af7 h 3) l).T D3.o)));refine jh (λf=>af3 w f) (hQ 0 1 (hQ 2 8 (ik 1 (hQ 10 3 [])))) (bw) ?_;iterate 9 refine ib ?_
 refine iz λK A=>?_;go_simp;refine(s4 _ (HT.o.K (bw)) aa hcM).M ?_;rintro e u ⟨T,d,rfl,y,z⟩;have Q:=ax y;have q:af3 w u:=Below.T (bw) z;clear y z;refine A _ _ (q) ?_;iterate 3 refine ib ?_
 refine g4 ?_;have R:=ax (by have v:=Q.o;simpa only[ir] using v:zD w.heap.size u T d M);have s:=ax (E.o.K q);have J:=s.o.cell2;have O:=s.o.blk.F 2;go_upto_region 9 with fail;have c:=s.o.Hf (.int .u64 (n+m:Nat));rw[dx] at c;have z:=ax c;have U:Hid (Touch F w (u.setCell (af7 g 2) (.int .u64 ((n:Int)+(m:Int))))):=ax ((Touch.of_below q (aD _)).setCell (.inl s.o.fg) _);have S:Hid (jQ F u T d M):=ax (jQ.oX R.o λy e=>E.o.low y e);have Y:Hid (jQ F (u.setCell (af7 g 2) (.int .u64 ((n:Int)+(m:Int)))) T d M):=ax (S.o.next (λy _ v=>a_ u (af7 g 2) _ y (λe=>v (by rw[e];exact s.o.fg))) ad (λy e=>.inl e));have⟨t,P⟩:=ar (u.setCell (af7 g 2) (.int .u64 ((n:Int)+(m:Int))));rw[P] at z U Y |-;clear P c J O s R Q S q;have P:t.cell? (af7 g 3)=some (.int .u64 led):=z.o.AH;have R:=z.o.blk.F 3
 go_upto_region 10 with fail;have q:rl F (t.setCell (af7 g 3) (.int .u64 (min (led+i6) 4611686018427387904:Nat))) g k (n+m) (min (led+i6) 4611686018427387904) lv vs L:=by
  have:=z.o.Tt (.int .u64 (min (led+i6) 4611686018427387904:Nat));rw[<-dx] at this;exact this
 have s:Hid (min ((led:Int)+(i6:Int)) 4611686018427387904=((min (led+i6) 4611686018427387904:Nat):Int)):=ax aa;rw[s.o];have D:Hid (Touch F w (t.setCell (af7 g 3) (.int .u64 (min (led+i6) 4611686018427387904:Nat)))):=ax (U.o.setCell (.inl z.o.fg) _);have c:Hid (jQ F (t.setCell (af7 g 3) (.int .u64 (min (led+i6) 4611686018427387904:Nat))) T d M):=ax (Y.o.next (λy _ v=>a_ t (af7 g 3) _ y (λe=>v (by rw[e];exact z.o.fg))) ad (λy e=>.inl e));have Q:=ax q;have⟨w3,S⟩:=ar (t.setCell (af7 g 3) (.int .u64 (min (led+i6) 4611686018427387904:Nat)));rw[S] at Q D c |-;clear S q P R z U Y s;obtain⟨A0,N,C,_,_,_⟩:=c.o.now.row.form;rw[c.o.now.len] at C;subst C;have⟨U,z⟩:=ar (min (led+i6) 4611686018427387904);rw[z] at Q H |-;have OJ:=ax z;clear z
 go_wp2;go_loopg [10,11,66] (ab0 M) (λq _ _ i wr=>∃(j:Nat) (J:Nat->Prop) (o:Value) (vs1:List Sv),q=ab0 M - j/\j<=ab0 M/\i=af6 (j:Int)/\Hid (VH F w g k (n+m) U L M (.slice A0 (ab0 M) N) d j J wr o vs1))
 exact⟨0,F,lv,vs,aa,aa,rfl,ax ⟨Q.o,c.o,λ_ h=>.inl h,λ_ h=>h,D.o⟩⟩
 case round=>
  obtain⟨j,J,o,vs1,s,hj,rfl,z⟩:=hrel;have HQ:=ax s;clear s;have hsz:=z.o.touch.size;by_cases hjl:j<ab0 M
  .obtain⟨gl,off,sA,sc,eA,hgl,s,X,_⟩:=z.o.al.now.at_ hjl
   subst eA;have VI:ab0 (takeN M j L)<=49:=by rw[kS];omega
   have hlj:ab0 (lvl M j)<=900000:=by have:=iD M j;omega
   have hlN:ab0 (lvl (takeN M j L) j)<=900000:=by have:=iD (takeN M j L) j;have v:=rY M L j aa ;have V:=rn M j;omega
   have R:=ax (put_any j (jc (sA,ab0 (lvl M j),sc)) (lvl M j) wr z.o.st (z.o.al.one s) (r' PW.o j j) aa  aa  aa  aa);have⟨x,q⟩:=ar (ab0 (lvl M j));rw[q] at X R;clear s q;go_wp21;refine RX R.o ?_;rintro w5 ⟨S,OM,TV,s,q,W,q4⟩;have Y:=ax s;have P:=ax q;have Q3:=ax W;have O:=ax q4;clear s q W q4 R X;go_wp2;go_roundg (ab0 M - (j+1))
   case measure=>have:=HQ.o;omega
   case rel=>
    refine⟨j+1,S,OM,TV,rfl,aa,af,ax ⟨Q3.o,?_,?_,?_,?_⟩⟩
    .exact z.o.al.next (λy v V=>O.o.block y v V) O.o.size Y.o
    .intro y R
     rcases Y.o y R with v|v
     .exact z.o.sub y v
     .exact .inr aa
    .exact λy R=>P.o y (z.o.sup y R)
    .exact z.o.touch.T O.o λi W=>z.o.sub i W
  .obtain rfl:j=ab0 M:=aa
   have O:=ax (Eo (s0:=(jT L M,U,a)) wr z.o.st (YN.o.touch I.o z.o.touch) (I.o.next z.o.sub hsz) H.o V hk);go_wp21;refine RX O.o ?_;rintro t ⟨S,FM,vs2,s,q⟩;have Y:=ax s;have P:=ax q;clear s q O;go_wp2;refine ak ?_;rw[OJ.o];exact⟨rfl,S,FM,vs2,Y.o.back z.o.sub z.o.sup z.o.touch,P.o⟩
def LG(q:Value)(w:World)(z:rl F w g k n led lv vs L)(y:rl G w h k m i6 FM vs2 M)(r:n<=281474976710656)(_hm:m<=281474976710656)(p:281474976710656<n+m):af4 af5 106 #[aq g,aq h,q] w λe x=>e=.returned (af6 6)/\∃n,x=w.drewN n:=by
 have v:=z.cell0;have t:=y.cell0;have u:=z.cell2;have s:=y.cell2;have f:(m:Int) > 281474976710656 - (n:Int):=aa;clear z y;go_in;go_wp21
 go_quiet (fail)
 go_wp21
 go_quiet (fail)
 go_wp2;refine ak ?_;exact⟨rfl,by first|exact⟨_,rfl⟩|exact⟨_,r_ _ _ _⟩⟩
