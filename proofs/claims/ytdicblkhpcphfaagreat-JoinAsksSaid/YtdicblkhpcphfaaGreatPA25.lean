/- Parts. No condition. -/
import Derived.Test.YtdicblkhpcphfaaGreatPA24
set_option maxRecDepth 100000
set_option maxHeartbeats 0
set_option linter.all false
namespace Go.Proofs.YtdicblkhpcphfaaGreat
open Tryz Go.RowKit Go.Lib Go.Shelf
open _root_.List renaming length→ao
open _root_.Go renaming Calls→ar
open Tryz renaming prog→Oe
namespace D
variable{p x:Nat}{F G H:Ft}{w w':World}
inductive i9 where
 | h (lo hi dg u m:Nat) (gr:Bool)
 | d (a m:Nat)
 | t (d:Nat)
 | k (q:Nat)
structure Js where
 bk:Nat
 l:List Pr
 s:St
 L:K.LL
 led:Nat
def j_(p:Nat):Value:=.pointer (some ⟨p,0,none⟩)
def i9.v:i9->Value
 | .h lo hi dg _ _ gr=>iv 1 lo hi dg gr 0 0
 | .d a m=>iv 2 0 0 0 false a m
 | .t e=>iv 3 0 0 0 false 0 e
 | .k q=>iv 4 0 0 0 false 0 q
def i9.cs:i9->List Value
 | .h lo hi dg _ _ gr=>[.int .u8 1,.int .i64 lo,.int .i64 hi,.int .i64 dg,.bool gr,.int .i64 0,.int .i64 0]
 | .d a m=>[.int .u8 2,.int .i64 0,.int .i64 0,.int .i64 0,.bool false,.int .i64 a,.int .i64 m]
 | .t e=>[.int .u8 3,.int .i64 0,.int .i64 0,.int .i64 0,.bool false,.int .i64 0,.int .i64 e]
 | .k q=>[.int .u8 4,.int .i64 0,.int .i64 0,.int .i64 0,.bool false,.int .i64 0,.int .i64 q]
def i9.five(p:Nat):i9->Array Value
 | .h ..=>#[.int .u8 1,j_ p,.pointer none,.pointer none,.pointer none]
 | .d ..=>#[.int .u8 2,.pointer none,j_ p,.pointer none,.pointer none]
 | .t ..=>#[.int .u8 3,.pointer none,.pointer none,j_ p,.pointer none]
 | .k ..=>#[.int .u8 4,.pointer none,.pointer none,.pointer none,j_ p]
def i9.four(p:Nat):i9->List Value
 | .h ..=>[j_ p,.pointer none,.pointer none,.pointer none]
 | .d ..=>[.pointer none,j_ p,.pointer none,.pointer none]
 | .t ..=>[.pointer none,.pointer none,j_ p,.pointer none]
 | .k ..=>[.pointer none,.pointer none,.pointer none,j_ p]
def ql(sp:i9)(c:Js)(p:Nat)(G:Ft)(w:World):Prop:=match sp with
 | .h lo hi dg u m gr=>mO p lo hi dg u m gr c.bk c.l G w
 | .d a m=>oR p a m c.l G w
 | .t d=>zO w p G d c.s
 | .k q=>K.xJ G w p q c.L c.led
def qv(sp:i9)(c:Js)(p:Nat)(G:Ft)(w:World):Prop:=match sp with
 | .h lo hi dg u m gr=>nc p lo hi dg u m gr c.bk c.l G w
 | .d a m=>rA p a m c.l G w
 | .t d=>qE w p G d c.s
 | .k q=>K.K6 G w p q c.L c.led
def NA(p:Nat)(d:Int)(s:St):lY (λG w=>zO w p G d s) where
 stay:=λh z y=>Dg.stay h z y
 more:=λ⟨g,f,z,y,x,v,u,t,r,_⟩ h q=>⟨g,f,z,y,x,h _ v,λk e=>h k (u k e),λk e=>h k (t k e),r,q⟩
 low:=λh=>Dg.low h
def K7(p:Nat)(d:Int)(s:St):lY (λG w=>qE w p G d s) where
 stay:=λh z y=>oO.stay h z y
 more:=λ⟨g,f,z,y,x,v,u,t,r,_⟩ h q=>⟨g,f,z,y,x,h _ v,λk e=>h k (u k e),λk e=>h k (t k e),r,q⟩
 low:=λh=>oO.low h
def oD(p q:Nat)(L:K.LL)(x:Nat):lY (λG w=>K.xJ G w p q L x) where
 stay:=λh z y=>h.stay z y
 more:=λ⟨v,u,h⟩ z y=>⟨v,u,⟨h.blk,h.iC.mono z,z _ h.fg,h.g1,h.g2,y⟩⟩
 low:=λ⟨_,_,h⟩=>h.low
def oE(p q:Nat)(L:K.LL)(x:Nat):lY (λG w=>K.K6 G w p q L x) where
 stay:=λh z y=>h.stay z y
 more:=λ⟨v,u,h⟩ z y=>⟨v,u,⟨h.blk,h.iC.mono z,z _ h.fg,h.g1,h.g2,y⟩⟩
 low:=λ⟨_,_,h⟩=>h.low
def iR(z:i9)(c:Js)(p:Nat):lY (ql z c p):=by
 cases z with
 | h lo hi dg u m gr=>exact kq p lo hi dg u m gr c.bk c.l
 | d a m=>exact m' p a m c.l
 | t d=>exact NA p d c.s
 | k q=>exact oD p q c.L c.led
def jo(z:i9)(c:Js)(p:Nat):lY (qv z c p):=by
 cases z with
 | h lo hi dg u m gr=>exact mN p lo hi dg u m gr c.bk c.l
 | d a m=>exact uQ p a m c.l
 | t d=>exact K7 p d c.s
 | k q=>exact oE p q c.L c.led
def iX(sp:i9)(c:Js)(x:Nat)(F:Ft)(w:World):Prop:=∃p G,gN w x 124 (sp.five p)/\ql sp c p G w/\F x/\¬G x/\(∀k,G k->F k)/\∀k,F k->k<w.heap.size
def iz(sp:i9)(c:Js)(x:Nat)(F:Ft)(w:World):Prop:=∃p G,gN w x 106 (sp.cs++sp.four p).toArray/\qv sp c p G w/\F x/\¬G x/\(∀k,G k->F k)/\∀k,F k->k<w.heap.size
def h_(sp:i9)(c:Js)(x:Nat):lY (iX sp c x) where
 stay:=λ⟨p,G,v,u,z,t,y,s⟩ r q=>⟨p,G,(r x z).trans v,(iR sp c p).stay u (λk e=>r k (y k e)) q,z,t,y,λk h=>aR (s k h) q⟩
 more:=λ⟨p,G,v,u,z,t,y,_⟩ h r=>⟨p,G,v,u,h x z,t,λk e=>h k (y k e),r⟩
 low:=λ⟨_,_,_,_,_,_,_,s⟩=>s
def iw(g:i9)(c:Js)(x:Nat):lY (iz g c x) where
 stay:=λ⟨p,G,v,u,z,t,y,s⟩ r q=>⟨p,G,(r x z).trans v,(jo g c p).stay u (λk e=>r k (y k e)) q,z,t,y,λk h=>aR (s k h) q⟩
 more:=λ⟨p,G,v,u,z,t,y,_⟩ h r=>⟨p,G,v,u,h x z,t,λk e=>h k (y k e),r⟩
 low:=λ⟨_,_,_,_,_,_,_,s⟩=>s
def yV{sp:i9}{c':Js}(z:gN w x 124 (sp.five p))(v:F x)(t:¬G x)(u:∀k,G k->F k)(s:∀k,F k->k<w.heap.size)(q:ql sp c' p (Gr G w w') w')(y:Touch (λk=>G k\/H k) w w')(r:∀k,H k->¬F k) :
 iX sp c' x (Gr F w w') w'/\Touch (λk=>F k\/H k) w w':=
 ⟨⟨p,Gr G w w',(y.block x z.lt (λh=>h.elim t (λh=>r x h v))).trans z,q,.inl v,λh=>h.elim t (λh=>by have:=z.lt;omega),λk h=>h.imp (u k) id,ke s y.size⟩,y.mono λk h=>h.imp (u k) id⟩
def Bh{sp:i9}{c':Js}(z:gN w x 106 (sp.cs++sp.four p).toArray)(v:F x)(t:¬G x)(u:∀k,G k->F k)(s:∀k,F k->k<w.heap.size)(q:qv sp c' p (Gr G w w') w')(y:Touch (λk=>G k\/H k) w w')(r:∀k,H k->¬F k) :
 iz sp c' x (Gr F w w') w'/\Touch (λk=>F k\/H k) w w':=
 ⟨⟨p,Gr G w w',(y.block x z.lt (λh=>h.elim t (λh=>r x h v))).trans z,q,.inl v,λh=>h.elim t (λh=>by have:=z.lt;omega),λk h=>h.imp (u k) id,ke s y.size⟩,y.mono λk h=>h.imp (u k) id⟩
def jB(q:Value)(B:List Int)(a:Nat)(H:Ft)(w:World):Prop:=(q=.pointer none/\B=[]/\a=0/\∀k,¬H k)\/∃cg r cv,q=j_ cg/\K.KC w cg r cv B a/\H cg/\H r/\(∀k,cv.ownBlock=some k->H k)/\∀k,H k->k<w.heap.size
def iM(o:Nat)(q:Value)(B:List Int)(a:Nat)(H:Ft)(w:World):Prop:=∃dg dv,q=j_ dg/\K.RC w dg dv B a/\H dg/\(∀k,dv.ownBlock=some k->k<o\/H k)/\∀k,H k->k<w.heap.size
def jC(P C:Ft->World->Prop)(F H:Ft)(er:Int)(w:World)(e:Ending)(w':World):Prop:=e=.returned (.int .i64 er)/\P (Gr F w w') w'/\C H w'/\Touch (λk=>F k\/H k) w w'
end D
namespace K
variable{l:List Int}
def new_any(k:Nat)(w:World)(v:8<=k)(u:k<=4096) :
 ar Oe 272 #[.int .i64 k] w λe z=>e=.returned (.tuple #[.pointer (some ⟨w.heap.size,0,none⟩),.int .i64 0])/\z=w.alloc (.cells #[.int .i64 k,.slice none 0 0,.int .u64 0,.int .u64 0] 214):=by
 have y:¬(k:Int)<8:=aa
 have x:¬(k:Int) > 4096:=aa
 go_in
 go_wp2
 go_ret2
 exact⟨rfl,rfl⟩
def P2(k:Int)(w:World)(h:k<8\/4096<k) :
 ar Oe 272 #[.int .i64 k] w λe z=>e=.returned (.tuple #[.pointer none,.int .i64 1])/\w=z:=by
 by_cases y:k<8
 ·go_in
  go_wp2
  go_ret2
  exact⟨rfl,rfl⟩
 ·have x:k > 4096:=aa
  clear h
  go_in
  go_wp2
  go_ret2
  exact⟨rfl,rfl⟩
def FC{t:TypeId}{a:Value}{rest:List Value}{w:World}{g:Nat}(h:gN w g t (a::.slice none 0 0::rest).toArray):l6 t a rest (λx=>x=g) w g (.slice none 0 0) [] []:=
 ⟨h,⟨gO.nil_ _ _,rfl,λi z=>absurd z ad,λi z=>absurd z ad,λi j z=>absurd z ad,λk e=>by simp[Value.ownBlock] at e,λi z=>absurd z ad⟩,rfl,by simp[Value.ownBlock],λi z=>absurd z ad,λk y=>by rw[show k=g from y];exact h.lt⟩
def NB(k:Nat)(w:World):xJ (λx=>x=w.heap.size) (w.alloc (.cells #[.int .i64 k,.slice none 0 0,.int .u64 0,.int .u64 0] 214)) w.heap.size k [] 0:=⟨_,_,FC (gN.new w _ _)⟩
def Bi(h:∀j (z:j+1<ao l),l[j]<=l[j+1]):mQ l:=by
 refine bO.2 λi j x z y=>?_
 obtain⟨d,rfl⟩:∃d,j=i+1+d:=⟨j - i - 1,aa⟩
 clear y
 induction d with
 | zero=>exact h i z
 | succ d ih=>exact gJ (ih aa) (h (i+1+d) z)
def vq(h:mQ l){j:Nat}(z:j+1<ao l):l[j]<=l[j+1]:=bO.1 h j (j+1) aa z aa
def H9(x:Int)(w:World):ar Oe 324 #[.int .i64 x] w λe z=>e=.returned (.bool false)/\w=z:=by
 go_in
 go_wp2
 go_ret;exact⟨by simp,rfl⟩
def K8(x y:Int)(w:World):ar Oe 248 #[.int .i64 x,.int .i64 y] w λe v=>e=.returned (.bool (decide (x<y)))/\w=v:=by
 go_in
 go_wp2_with fail;refine(H9 x w).mono ?_
 rintro e u ⟨rfl,z⟩;subst z
 go_wp2;refine an ?_
 exact⟨by simp,rfl⟩
def yW(v:Value)(l:List Int)(w:World)(h:iA ig w v l)(F:ao l<=1000000000) :
 ar Oe 442 #[v] w λe s=>e=.returned (.bool (decide (mQ l)))/\∃q,s=w.drewN q:=by
 obtain⟨A,c,rfl,H,G,z⟩:=h.form;have a:=ay z;clear h z
 go_in
 go_wp2
 go_loopg [3] (ao l) (λq i wr=>∃(z:Int) (d:Nat),q=(z+1).toNat/\-1<=z/\z<ao l/\i=.int .i64 z/\wr=w.drewN d/\Hid (∀j (u:j+1<ao l),z<=j->l[j]<=l[j+1]))
 exact⟨(ao l:Int) - 1,0,aa,aa,aa,ag,rfl,ay λj u g=>absurd g aa⟩
 case round=>
  obtain⟨z,d,y,B,o,rfl,rfl,r⟩:=hrel;have R:=ay y;clear y
  by_cases g:z > 0
  ·obtain⟨n,rfl⟩:∃n:Nat,z=n:=⟨z.toNat,aa⟩
   obtain⟨m,T⟩:∃m:Nat,n=m+1:=⟨n - 1,aa⟩
   have L:n<ao l:=aa
   have M:m<ao l:=aa
   obtain⟨V,S,t,U,f⟩:=a.o.i64 L;subst t;obtain⟨I,W,t,_,b⟩:=a.o.i64 M;injection t with t;injection t with KN KO;subst KN;subst KO;have Y:Hid (l[m]<=l[n]->∀j (u:j+1<ao l),(n:Int) - 1<=j->l[j]<=l[j+1]):=ay λN j u g=>by
    rcases bg j n with y|y
    ·have e:j=m:=aa
     subst e;have x:n=j+1:=T;subst x;exact N
    ·exact r.o j u aa
   have X:Hid (l[n]<l[m]->¬mQ l):=ay λE J=>by
    have y:=vq J (j:=m) (by omega)
    have e:l[m+1]' aa =l[n]:=by congr 1;omega
    rw[e] at y;omega
   obtain⟨x,q⟩:=au (l[n]);obtain⟨y,p⟩:=au (l[m]);rw[q] at f;rw[p] at b;simp only[q,p] at Y X;have P:=ay f;have O:=ay b;have C:(n:Int) - 1=(m:Int):=aa
   have Q:Hid (IntKind.i64.wrap (m:Int)=(m:Int)):=ay (cy _ aa)
   have D:(m:Int)<(ao l:Int):=aa
   clear q p f b T r
   go_upto_region 4 with fail;have Z:=ay (λ(s:World) (q:aq w s)=>(aF ((q.cell (p:=⟨V,S+n,none⟩) U).trans P.o) (aF ((q.cell (p:=⟨V,S+m,none⟩) U).trans O.o) (Q.o))))
   refine i' (λs=>aq w s) (gW 0 9 (ib 9 [])) ((below_drewN (aC _ _) _).drew) ?_
   iterate 9 refine hC ?_
   refine iy λK f=>?_
   go_simp;refine(K8 x y _).mono ?_
   rintro e i ⟨rfl,b⟩;subst b;refine f _ _ ((below_drewN (aC _ _) _).drew) ?_
   clear f K;refine gM ?_
   by_cases T:x<y
   ·have q:=ay (X.o T)
    go_wp2;refine an ?_
    exact⟨by rw[cj q.o],by first|exact⟨_,rfl⟩|exact⟨_,jT _ _ _⟩⟩
   ·have q:=ay (Y.o aa)
    go_wp2
    go_roundg n
    exact⟨(n:Int) - 1,d+1,aa,aa,aa,ag,by first|rfl|exact jT _ _ _,q⟩
    have:=R.o;omega
  ·have y:Hid (mQ l):=ay (Bi λj u=>r.o j u aa)
   go_wp2;refine an ?_
   exact⟨by rw[cz y.o],_,rfl⟩
structure i_(k:Int)(L:LL)(led:Nat):Prop where
 k8:8<=k
 k4:k<=4096
 hlen:ao L<=49
 yT:led<=4611686018427387904
 emp:ao L=0->led=0
 top:0<ao L->lvl L (ao L - 1)≠[]
 iC:∀h,h<ao L->ao (lvl L h)<=room k.toNat (ao L) h/\mQ (lvl L h)
 hwt:wt L<=281474976710656
def i_.fit{k:Nat}{L:LL}{led:Nat}(h:i_ k L led):Fit k L led:=by
 have s:=h.k4;have t:=h.k8;have y:=h.iC;rw[bM] at y;have v:∀j,j<ao L->ao (lvl L j)<=k:=λj x=>bf (y j x).1 (room_le aa)
 refine⟨⟨λj=>?_,h.top,h.hwt,?_,h.yT⟩,nr λj x=>(y j x).1⟩
 ·rcases bg j (ao L) with z|z
  ·exact(y j z).2
  ·show mQ (lvl L j)
   rw[nL z];exact List.Pairwise.nil
 ·have z:=sG L k v
  have u:ao L * k<=49 * 4096:=cT h.hlen aa
  show cnt L<=_
  omega
end K
end Go.Proofs.YtdicblkhpcphfaaGreat
