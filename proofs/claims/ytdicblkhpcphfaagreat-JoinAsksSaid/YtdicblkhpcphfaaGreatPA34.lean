/- Parts. No condition. -/
import Derived.Test.YtdicblkhpcphfaaGreatPA33
set_option maxRecDepth 100000
set_option maxHeartbeats 0
set_option linter.all false
namespace Go.Proofs.YtdicblkhpcphfaaGreat
open Tryz Go.RowKit Go.Lib Go.Shelf
open _root_.List renaming length→ao
open _root_.Go renaming Calls→ar
open Tryz renaming prog→Oe
namespace D
variable{sp:i9}{w:World}{a base m vb wb:Nat}{gr:Bool}
def rV{p y i:Nat}{G:Ft}{cs:Array Value}{w1:World}(q:gN w1 y 106 cs)(t:qv sp sp.new p G w1)(x:¬G y)(v:w.heap.size<=y)(u:∀k,G k->w.heap.size<=k)(s:aq w w1)(r:cs.setIfInBounds i (j_ p)=(sp.cs++sp.four p).toArray) :
 iz sp sp.new y (Gr (λ_=>False) w (w1.setCell ⟨y,i,none⟩ (j_ p))) (w1.setCell ⟨y,i,none⟩ (j_ p))/\aq w (w1.setCell ⟨y,i,none⟩ (j_ p)):=by
 have B:=q.gR i (j_ p);rw[r] at B;have I:=(jo sp sp.new p).far (G:=λk=>k=y) t (Touch.setCell (F:=λk=>k=y) (Touch.refl _ w1) (p:=⟨y,i,none⟩) (.inl rfl) (j_ p)) (λk z e=>x (by rw[<-show k=y from e];exact z))
 refine⟨⟨p,G,B,I,.inr ⟨v,B.lt⟩,x,λk z=>.inr ⟨u k z,(jo sp sp.new p).low I k z⟩,λk z=>z.elim False.elim (λh=>h.2)⟩,s.setCell (p:=⟨y,i,none⟩) v _⟩
def BY{lo hi dg u:Nat}(w:World)(ok:qP lo hi dg u m) :
 ar Oe 15 #[(.h lo hi dg u m gr:i9).v] w λe r=>∃x,e=.returned (.pointer (some ⟨x,0,none⟩))/\iz (.h lo hi dg u m gr) (.h lo hi dg u m gr:i9).new x (Gr (λ_=>False) w r) r/\aq w r:=by
 have O:=ay ok;clear ok;show ar Oe 15 #[.agg #[.int .u8 1,.int .i64 lo,.int .i64 hi,.int .i64 dg,.bool gr,.int .i64 0,.int .i64 0]] w _
 obtain⟨b,x⟩:=au (w.heap.size);obtain⟨y,v⟩:=au (w.alloc (.cells #[.int .u8 1,.int .i64 lo,.int .i64 hi,.int .i64 dg,.bool gr,.int .i64 0,.int .i64 0] 33));have f:aq w y:=by rw[<-v];exact bw
 have q:Hid (gN y b 33 #[.int .u8 1,.int .i64 lo,.int .i64 hi,.int .i64 dg,.bool gr,.int .i64 0,.int .i64 0]):=by rw[<-v,<-x];exact ay (gN.new _ _ _)
 have s:y.heap.size=b+1:=by rw[<-v,<-x,aI]
 obtain⟨c,a,Y,X,V,U,T⟩:=q.o.c7;have R:=ay x
 go_in
 go_upto_region 1 with fail;have t:=ay s;clear v x s;obtain⟨x,v⟩:=au (y.alloc (.cells #[.int .u8 1,.int .i64 lo,.int .i64 hi,.int .i64 dg,.bool gr,.int .i64 0,.int .i64 0,.pointer none,.pointer none,.pointer none,.pointer none] 106));have z:aq y x:=by rw[<-v];exact bw
 have d:aq w x:=f.trans (z.mono f.size);have M:Hid (gN x (b+1) 106 #[.int .u8 1,.int .i64 lo,.int .i64 hi,.int .i64 dg,.bool gr,.int .i64 0,.int .i64 0,.pointer none,.pointer none,.pointer none,.pointer none]):=by rw[<-v,<-t.o];exact ay (gN.new _ _ _)
 have S:Hid (gN x b 33 #[.int .u8 1,.int .i64 lo,.int .i64 hi,.int .i64 dg,.bool gr,.int .i64 0,.int .i64 0]):=ay (q.o.keep z);have s:x.heap.size=b+2:=by rw[<-v,aI,t.o]
 go_upto_region 2 with fail;try rw[v]
 try rw[t.o]
 clear v z c a Y X V U T;have N:=ay s;clear s;obtain⟨c,a,Y,X,V,U,T⟩:=S.o.c7;have K:w.heap.size<=b+1:=by have:=R.o;omega
 go_wp2_with fail;refine(M7 gr x O.o).mono ?_
 rintro e I ⟨p,rfl,g,v⟩;have z:=ay (M.o.keep v);have L:=z.o.k7;have J:=z.o.frozen 7;have Q:=ay (d.trans (v.mono d.size));have P:=ay g;clear g v
 go_wp2
 go_ret;have s:=N.o;obtain⟨v,g⟩:=rV (sp:=.h lo hi dg u m gr) (i:=7) z.o P.o (λh=>h.elim False.elim (λh=>by have:=h.1;omega)) K (λj h=>h.elim False.elim (λh=>by have:=h.1;omega)) Q.o rfl
 exact⟨_,rfl,v,g⟩
def BZ(w:World)(ok:oU (.d a m)) :
 ar Oe 15 #[(.d a m:i9).v] w λe r=>∃x,e=.returned (.pointer (some ⟨x,0,none⟩))/\iz (.d a m) (.d a m:i9).new x (Gr (λ_=>False) w r) r/\aq w r:=by
 have u:=ay ok;clear ok;show ar Oe 15 #[.agg #[.int .u8 2,.int .i64 0,.int .i64 0,.int .i64 0,.bool false,.int .i64 a,.int .i64 m]] w _
 obtain⟨b,x⟩:=au (w.heap.size);obtain⟨y,v⟩:=au (w.alloc (.cells #[.int .u8 2,.int .i64 0,.int .i64 0,.int .i64 0,.bool false,.int .i64 a,.int .i64 m] 33));have f:aq w y:=by rw[<-v];exact bw
 have q:Hid (gN y b 33 #[.int .u8 2,.int .i64 0,.int .i64 0,.int .i64 0,.bool false,.int .i64 a,.int .i64 m]):=by rw[<-v,<-x];exact ay (gN.new _ _ _)
 have s:y.heap.size=b+1:=by rw[<-v,<-x,aI]
 obtain⟨c,Y,X,V,U,T,S⟩:=q.o.c7;have Q:=ay x
 go_in
 go_upto_region 1 with fail;have t:=ay s;clear v x s;obtain⟨x,v⟩:=au (y.alloc (.cells #[.int .u8 2,.int .i64 0,.int .i64 0,.int .i64 0,.bool false,.int .i64 a,.int .i64 m,.pointer none,.pointer none,.pointer none,.pointer none] 106));have z:aq y x:=by rw[<-v];exact bw
 have d:aq w x:=f.trans (z.mono f.size);have M:Hid (gN x (b+1) 106 #[.int .u8 2,.int .i64 0,.int .i64 0,.int .i64 0,.bool false,.int .i64 a,.int .i64 m,.pointer none,.pointer none,.pointer none,.pointer none]):=by rw[<-v,<-t.o];exact ay (gN.new _ _ _)
 have R:Hid (gN x b 33 #[.int .u8 2,.int .i64 0,.int .i64 0,.int .i64 0,.bool false,.int .i64 a,.int .i64 m]):=ay (q.o.keep z);have s:x.heap.size=b+2:=by rw[<-v,aI,t.o]
 go_upto_region 2 with fail;try rw[v]
 try rw[t.o]
 clear v z c Y X V U T S;have N:=ay s;clear s;obtain⟨c,Y,X,V,U,T,S⟩:=R.o.c7;have K:w.heap.size<=b+1:=by have:=Q.o;omega
 go_wp2_with fail;refine(MV a m x u.o.1 u.o.2.1 u.o.2.2.1 u.o.2.2.2).mono ?_
 rintro e I ⟨p,rfl,g,v⟩;have z:=ay (M.o.keep v);have L:=z.o.k8;have J:=z.o.frozen 8;have P:=ay (d.trans (v.mono d.size));have O:=ay g;clear g v
 go_wp2
 go_ret;have s:=N.o;obtain⟨v,g⟩:=rV (sp:=.d a m) (i:=8) z.o O.o (λh=>h.elim False.elim (λh=>by have:=h.1;omega)) K (λj h=>h.elim False.elim (λh=>by have:=h.1;omega)) P.o rfl
 exact⟨_,rfl,v,g⟩
def B2{d:Nat}(w:World)(ok:oU (.t d)) :
 ar Oe 15 #[(.t d:i9).v] w λe q=>∃x,e=.returned (.pointer (some ⟨x,0,none⟩))/\iz (.t d) (.t d:i9).new x (Gr (λ_=>False) w q) q/\aq w q:=by
 clear ok;show ar Oe 15 #[.agg #[.int .u8 3,.int .i64 0,.int .i64 0,.int .i64 0,.bool false,.int .i64 0,.int .i64 d]] w _
 obtain⟨b,y⟩:=au (w.heap.size);obtain⟨x,v⟩:=au (w.alloc (.cells #[.int .u8 3,.int .i64 0,.int .i64 0,.int .i64 0,.bool false,.int .i64 0,.int .i64 d] 33));have c:aq w x:=by rw[<-v];exact bw
 have g:Hid (gN x b 33 #[.int .u8 3,.int .i64 0,.int .i64 0,.int .i64 0,.bool false,.int .i64 0,.int .i64 d]):=by rw[<-v,<-y];exact ay (gN.new _ _ _)
 have t:x.heap.size=b+1:=by rw[<-v,<-y,aI]
 obtain⟨Y,X,V,U,T,S,R⟩:=g.o.c7;have O:=ay y
 go_in
 go_upto_region 1 with fail;have u:=ay t;clear v y t;obtain⟨y,v⟩:=au (x.alloc (.cells #[.int .u8 3,.int .i64 0,.int .i64 0,.int .i64 0,.bool false,.int .i64 0,.int .i64 d,.pointer none,.pointer none,.pointer none,.pointer none] 106));have t:aq x y:=by rw[<-v];exact bw
 have a:aq w y:=c.trans (t.mono c.size);have M:Hid (gN y (b+1) 106 #[.int .u8 3,.int .i64 0,.int .i64 0,.int .i64 0,.bool false,.int .i64 0,.int .i64 d,.pointer none,.pointer none,.pointer none,.pointer none]):=by rw[<-v,<-u.o];exact ay (gN.new _ _ _)
 have P:Hid (gN y b 33 #[.int .u8 3,.int .i64 0,.int .i64 0,.int .i64 0,.bool false,.int .i64 0,.int .i64 d]):=ay (g.o.keep t);have r:y.heap.size=b+2:=by rw[<-v,aI,u.o]
 go_upto_region 2 with fail;try rw[v]
 try rw[u.o]
 clear v t Y X V U T S R;have v:=ay r;clear r;obtain⟨Y,X,V,U,T,S,R⟩:=P.o.c7;have K:w.heap.size<=b+1:=by have:=O.o;omega
 obtain⟨Q,s⟩:=au (y.alloc (.cells #[.int .i64 d,.slice none 0 0,.slice none 0 0,.int .i64 0,.int .i64 0] 111));have t:aq y Q:=by rw[<-s];exact bw
 have f:Hid (gN Q (b+2) 111 #[.int .i64 d,.slice none 0 0,.slice none 0 0,.int .i64 0,.int .i64 0]):=by rw[<-s,<-v.o];exact ay (gN.new _ _ _)
 have z:=ay (M.o.keep t);have L:=z.o.k9;have I:=z.o.frozen 9;have N:=ay (a.trans (t.mono a.size));clear t
 go_wp2_with fail;try rw[s]
 try rw[v.o]
 go_ret;have r:=v.o;obtain⟨t,J⟩:=rV (sp:=.t d) (i:=9) (p:=b+2) (G:=λj=>j=b+2) z.o (⟨_,_,f.o,g7.nil_ _ _,g7.nil_ _ _,rfl,λj e=>by simp[Value.ownBlock] at e,λj e=>by simp[Value.ownBlock] at e,λj e=>by simp[Value.ownBlock] at e,λj e=>by rw[show j=b+2 from e];exact f.o.lt⟩) aa K (λj h=>by rw[show j=b+2 from h];omega) N.o rfl
 exact⟨_,rfl,t,J⟩
def B4{q:Nat}(w:World)(ok:oU (.k q)) :
 ar Oe 15 #[(.k q:i9).v] w λe g=>∃x,e=.returned (.pointer (some ⟨x,0,none⟩))/\iz (.k q) (.k q:i9).new x (Gr (λ_=>False) w g) g/\aq w g:=by
 clear ok;show ar Oe 15 #[.agg #[.int .u8 4,.int .i64 0,.int .i64 0,.int .i64 0,.bool false,.int .i64 0,.int .i64 q]] w _
 obtain⟨b,y⟩:=au (w.heap.size);obtain⟨x,v⟩:=au (w.alloc (.cells #[.int .u8 4,.int .i64 0,.int .i64 0,.int .i64 0,.bool false,.int .i64 0,.int .i64 q] 33));have d:aq w x:=by rw[<-v];exact bw
 have f:Hid (gN x b 33 #[.int .u8 4,.int .i64 0,.int .i64 0,.int .i64 0,.bool false,.int .i64 0,.int .i64 q]):=by rw[<-v,<-y];exact ay (gN.new _ _ _)
 have t:x.heap.size=b+1:=by rw[<-v,<-y,aI]
 obtain⟨a,Y,X,V,U,T,S⟩:=f.o.c7;have P:=ay y
 go_in
 go_upto_region 1 with fail;have u:=ay t;clear v y t;obtain⟨y,v⟩:=au (x.alloc (.cells #[.int .u8 4,.int .i64 0,.int .i64 0,.int .i64 0,.bool false,.int .i64 0,.int .i64 q,.pointer none,.pointer none,.pointer none,.pointer none] 106));have t:aq x y:=by rw[<-v];exact bw
 have c:aq w y:=d.trans (t.mono d.size);have M:Hid (gN y (b+1) 106 #[.int .u8 4,.int .i64 0,.int .i64 0,.int .i64 0,.bool false,.int .i64 0,.int .i64 q,.pointer none,.pointer none,.pointer none,.pointer none]):=by rw[<-v,<-u.o];exact ay (gN.new _ _ _)
 have Q:Hid (gN y b 33 #[.int .u8 4,.int .i64 0,.int .i64 0,.int .i64 0,.bool false,.int .i64 0,.int .i64 q]):=ay (f.o.keep t);have r:y.heap.size=b+2:=by rw[<-v,aI,u.o]
 go_upto_region 2 with fail;try rw[v]
 try rw[u.o]
 clear v t a Y X V U T S;have v:=ay r;clear r;obtain⟨a,Y,X,V,U,T,S⟩:=Q.o.c7;have J:w.heap.size<=b+1:=by have:=P.o;omega
 obtain⟨R,s⟩:=au (y.alloc (.cells #[.int .i64 q,.slice none 0 0,.int .u64 0] 114));have t:aq y R:=by rw[<-s];exact bw
 have N:Hid (gN R (b+2) 114 #[.int .i64 q,.slice none 0 0,.int .u64 0]):=by rw[<-s,<-v.o];exact ay (gN.new _ _ _)
 have z:=ay (M.o.keep t);have L:=z.o.k10;have H:=z.o.frozen 10;have O:=ay (c.trans (t.mono c.size));clear t
 go_wp2_with fail;try rw[s]
 try rw[v.o]
 go_ret;have r:=v.o;obtain⟨t,I⟩:=rV (sp:=.k q) (i:=10) (p:=b+2) (G:=λj=>j=b+2) z.o (⟨_,_,K.FC N.o⟩) aa J (λj h=>by rw[show j=b+2 from h];omega) O.o rfl
 exact⟨_,rfl,t,I⟩
def LU(w:World)(ok:oU sp):ar Oe 15 #[sp.v] w λe z=>∃x,e=.returned (.pointer (some ⟨x,0,none⟩))/\iz sp sp.new x (Gr (λ_=>False) w z) z/\aq w z:=by
 cases sp with
 | h lo hi dg u m gr=>exact BY w ok
 | d a m=>exact BZ w ok
 | t d=>exact B2 w ok
 | k q=>exact B4 w ok
def lR.down{o0:Nat}{S R:Nat->Js}{X Y:Nat->Nat}{Ow:Nat->Ft}(h:lR sp base S R X Y Ow wb vb w)(z:o0<=base):lR sp o0 S R X Y Ow wb vb w:=
 ⟨h.win,h.ref,h.ok,h.SD,h.uniq,λa k e=>⟨bf z (h.low a k e).1,(h.low a k e).2⟩,h.rw,h.rv,h.cw,h.cv⟩
def two(a b:Nat):Nat->Nat:=λi=>if i=0 then a else b
def ON(F0 F1 F2 F3:Ft)(wb vb:Nat):Nat->Ft:=λa k=>(a=0/\F0 k)\/(a=1/\F1 k)\/(a=2/\F2 k)\/(a=3/\F3 k)\/(a=4/\(k=wb\/k=vb))
def Qo{F0 F1 F2 F3:Ft}{wb vb:Nat}:ON F0 F1 F2 F3 wb vb 0=F0/\ON F0 F1 F2 F3 wb vb 1=F1/\ON F0 F1 F2 F3 wb vb 2=F2/\ON F0 F1 F2 F3 wb vb 3=F3:=by
 refine⟨?_,?_,?_,?_⟩<;>funext k<;>unfold ON<;>simp
def IM{x0 x1 y0 y1 m1 m2 l2 u2 l3 u3:Nat}{F0 F1 F2 F3:Ft}(ok:oU sp)
 (Y:iX sp sp.new x0 F0 w) (X:iX sp sp.new x1 F1 w) (V:iz sp sp.new y0 F2 w) (U:iz sp sp.new y1 F3 w)
 (g:∀k,F0 k->base<=k/\k<m1) (f:∀k,F1 k->m1<=k/\k<m2) (d:∀k,F2 k->l2<=k/\k<u2) (c:∀k,F3 k->l3<=k/\k<u3) (H:base<=m1) (G:m1<=m2) (F:m2<=l2) (E:m2<=l3) (C:m2<=wb) (D:m2<=vb)
 (B:u2<=l3) (l:wb<l2\/u2<=wb) (m:wb<l3\/u3<=wb) (A:vb<l2\/u2<=vb) (j:vb<l3\/u3<=vb) (n:wb<w.heap.size) (o:vb<w.heap.size)
 (T:w.cell? ⟨wb,0,none⟩=some (j_ x0)) (S:w.cell? ⟨wb,1,none⟩=some (j_ x1)) (R:w.cell? ⟨vb,0,none⟩=some (j_ y0)) (Q:w.cell? ⟨vb,1,none⟩=some (j_ y1)) :
 lR sp base (λ_=>sp.new) (λ_=>sp.new) (two x0 x1) (two y0 y1) (ON F0 F1 F2 F3 wb vb) wb vb w:=by
 have L:=(h_ sp _ _).low Y;have K:=(h_ sp _ _).low X;have J:=(iw sp _ _).low V;have I:=(iw sp _ _).low U;obtain⟨P,O,N,M⟩:=@Qo F0 F1 F2 F3 wb vb;refine⟨λi x=>?_,λi x=>?_,λi _=>vB ok,λi _=>vB ok,λa b k z y=>?_,λa k e=>?_,.inr (.inr (.inr (.inr ⟨rfl,.inl rfl⟩))),.inr (.inr (.inr (.inr ⟨rfl,.inr rfl⟩))),λi x=>?_,λi x=>?_⟩
 ·rcases(by omega:i=0\/i=1) with rfl|rfl
  ·rw[P];exact Y
  ·rw[O];exact X
 ·rcases(by omega:i=0\/i=1) with rfl|rfl
  ·show iz sp _ _ (ON F0 F1 F2 F3 wb vb 2) w
   rw[N];exact V
  ·show iz sp _ _ (ON F0 F1 F2 F3 wb vb 3) w
   rw[M];exact U
 ·have u:=g k;have t:=f k;have s:=d k;have r:=c k
  rcases z with⟨q,z⟩|⟨q,z⟩|⟨q,z⟩|⟨q,z⟩|⟨q,z⟩<;>rcases y with⟨p,y⟩|⟨p,y⟩|⟨p,y⟩|⟨p,y⟩|⟨p,y⟩<;>first
   | omega
   | (have x:=u z;have v:=t y;omega)
   | (have x:=u z;have v:=s y;omega)
   | (have x:=u z;have v:=r y;omega)
   | (have x:=u z;omega)
   | (have x:=t z;have v:=u y;omega)
   | (have x:=t z;have v:=s y;omega)
   | (have x:=t z;have v:=r y;omega)
   | (have x:=t z;omega)
   | (have x:=s z;have v:=u y;omega)
   | (have x:=s z;have v:=t y;omega)
   | (have x:=s z;have v:=r y;omega)
   | (have x:=s z;omega)
   | (have x:=r z;have v:=u y;omega)
   | (have x:=r z;have v:=t y;omega)
   | (have x:=r z;have v:=s y;omega)
   | (have x:=r z;omega)
   | (have v:=u y;omega)
   | (have v:=t y;omega)
   | (have v:=s y;omega)
   | (have v:=r y;omega)
 ·have u:=g k;have t:=f k;have s:=d k;have r:=c k
  rcases e with⟨_,e⟩|⟨_,e⟩|⟨_,e⟩|⟨_,e⟩|⟨_,e⟩
  ·have:=u e;have:=L k e;omega
  ·have:=t e;have:=K k e;omega
  ·have:=s e;have:=J k e;omega
  ·have:=r e;have:=I k e;omega
  ·omega
 ·rcases(by omega:i=0\/i=1) with rfl|rfl
  ·exact T
  ·exact S
 ·rcases(by omega:i=0\/i=1) with rfl|rfl
  ·exact R
  ·exact Q
def rW{kd lo hi dg ac sz:Int}(z:sp.v=iv kd lo hi dg gr ac sz)(ok:oU sp)(w:World) :
 ar Oe 67 #[iv kd lo hi dg gr ac sz] w λe g=>∃X Y d wb vb,e=.returned (.tuple #[.slice (some ⟨wb,0,none⟩) 2 2,.slice (some ⟨vb,0,none⟩) 2 2])/\lR sp w.heap.size (λ_=>sp.new) (λ_=>sp.new) X Y d wb vb g/\aq w g:=by
 have CN:=ay (λW=>ze W ok)
 have l:=ay (λW=>LU W ok)
 rw[z] at CN l;unfold iv at CN l |-;have OK:=ay ok;clear z ok;obtain⟨b,x⟩:=au (w.heap.size);obtain⟨n,y⟩:=au (w.alloc (.cells #[.int .u8 kd,.int .i64 lo,.int .i64 hi,.int .i64 dg,.bool gr,.int .i64 ac,.int .i64 sz] 33));have ha:aq w n:=by rw[<-y];exact bw
 have z:gN n b 33 #[.int .u8 kd,.int .i64 lo,.int .i64 hi,.int .i64 dg,.bool gr,.int .i64 ac,.int .i64 sz]:=by rw[<-y,<-x];exact gN.new _ _ _
 have v:n.heap.size=b+1:=by rw[<-y,<-x,aI]
 obtain⟨J,L,M,N,O,P,Q⟩:=z.c7;have T:=ay (aF J (aF L (aF M (aF N (aF O (aF P Q))))));have V:=z.lt;have HB0:=ay ha;have QC:=ay x;have Z3:=ay v;clear z
 go_in
 go_upto_region 1 with fail;clear y x v
 go_wp2_with fail;refine(CN.o n).mono ?_
 rintro e I ⟨a,rfl,y,z⟩;have H0:=ay y;have r:=ay z;clear y z J L M N O P Q;have J:I.cell? ⟨b,0,none⟩=_:=(r.o.cell (p:=⟨b,0,none⟩) V).trans T.o.1;have L:I.cell? ⟨b,1,none⟩=_:=(r.o.cell (p:=⟨b,1,none⟩) V).trans T.o.2.1;have M:I.cell? ⟨b,2,none⟩=_:=(r.o.cell (p:=⟨b,2,none⟩) V).trans T.o.2.2.1;have N:I.cell? ⟨b,3,none⟩=_:=(r.o.cell (p:=⟨b,3,none⟩) V).trans T.o.2.2.2.1;have O:I.cell? ⟨b,4,none⟩=_:=(r.o.cell (p:=⟨b,4,none⟩) V).trans T.o.2.2.2.2.1;have P:I.cell? ⟨b,5,none⟩=_:=(r.o.cell (p:=⟨b,5,none⟩) V).trans T.o.2.2.2.2.2.1;have Q:I.cell? ⟨b,6,none⟩=_:=(r.o.cell (p:=⟨b,6,none⟩) V).trans T.o.2.2.2.2.2.2
 go_wp2_with fail;refine(CN.o I).mono ?_
 rintro e z ⟨c,rfl,x,y⟩;have H1:=ay x;have H:=ay y;clear x y J L M N O P Q;have S:b<z.heap.size:=by have:=r.o.size;have:=H.o.size;omega
 have j:Hid (z.cell? ⟨b,0,none⟩=_/\z.cell? ⟨b,1,none⟩=_/\z.cell? ⟨b,2,none⟩=_/\z.cell? ⟨b,3,none⟩=_/\z.cell? ⟨b,4,none⟩=_/\z.cell? ⟨b,5,none⟩=_/\z.cell? ⟨b,6,none⟩=_):=ay ⟨(H.o.cell (p:=⟨b,0,none⟩) (aR V r.o.size)).trans ((r.o.cell (p:=⟨b,0,none⟩) V).trans T.o.1),(H.o.cell (p:=⟨b,1,none⟩) (aR V r.o.size)).trans ((r.o.cell (p:=⟨b,1,none⟩) V).trans T.o.2.1),(H.o.cell (p:=⟨b,2,none⟩) (aR V r.o.size)).trans ((r.o.cell (p:=⟨b,2,none⟩) V).trans T.o.2.2.1),(H.o.cell (p:=⟨b,3,none⟩) (aR V r.o.size)).trans ((r.o.cell (p:=⟨b,3,none⟩) V).trans T.o.2.2.2.1),(H.o.cell (p:=⟨b,4,none⟩) (aR V r.o.size)).trans ((r.o.cell (p:=⟨b,4,none⟩) V).trans T.o.2.2.2.2.1),(H.o.cell (p:=⟨b,5,none⟩) (aR V r.o.size)).trans ((r.o.cell (p:=⟨b,5,none⟩) V).trans T.o.2.2.2.2.2.1),(H.o.cell (p:=⟨b,6,none⟩) (aR V r.o.size)).trans ((r.o.cell (p:=⟨b,6,none⟩) V).trans T.o.2.2.2.2.2.2)⟩;have i:Hid (∀(y:World) (wb vb s t:Nat) (f q:Ft) (S u2 x u3:Nat),aq z y->iz sp sp.new s f y->iz sp sp.new t q y->(∀k,f k->S<=k/\k<u2)->(∀k,q k->x<=k/\k<u3)->z.heap.size<=S->z.heap.size<=x->z.heap.size<=wb->z.heap.size<=vb->u2<=x->(wb<S\/u2<=wb)->(wb<x\/u3<=wb)->(vb<S\/u2<=vb)->(vb<x\/u3<=vb)->wb<y.heap.size->vb<y.heap.size ->
  y.cell? ⟨wb,0,none⟩=some (j_ a)->y.cell? ⟨wb,1,none⟩=some (j_ c)->y.cell? ⟨vb,0,none⟩=some (j_ s)->y.cell? ⟨vb,1,none⟩=some (j_ t) ->
  ∃X Y d u v,Ending.returned (.tuple #[.slice (some ⟨wb,0,none⟩) 2 2,.slice (some ⟨vb,0,none⟩) 2 2])=.returned (.tuple #[.slice (some ⟨u,0,none⟩) 2 2,.slice (some ⟨v,0,none⟩) 2 2])/\lR sp w.heap.size (λ_=>sp.new) (λ_=>sp.new) X Y d u v y/\aq w y):=ay (λy wb vb s t f q S u2 x u3 X C D b2 b3 c2 c3 cw cv h W o m A B E F G K R=>by
  have Y:=HB0.o.size;have d:=r.o.size;have u:=H.o.size;have v:aq I y:=H.o.trans (X.mono u);have U:=IM OK.o ((h_ sp _ _).keep H0.o v) ((h_ sp _ _).keep H1.o X) C D (base:=n.heap.size) (m1:=I.heap.size) (m2:=z.heap.size) (wb:=wb) (vb:=vb) (λk e=>e.elim False.elim id) (λk e=>e.elim False.elim id) b2 b3 d u c2 c3 cw cv h W o m A B E F G K R
  exact⟨_,_,_,_,_,rfl,U.down Y,HB0.o.trans ((r.o.trans (v.mono d)).mono Y)⟩)
 have W:aq z z.drew:=(aC _ _).drew
 go_upto_region 5 with fail;have Z:=ay (λg (u:(λg=>aq z g) g)=>(aF ((u.cell (p:=⟨b,0,none⟩) S).trans j.o.1) (aF ((u.cell (p:=⟨b,1,none⟩) S).trans j.o.2.1) (aF ((u.cell (p:=⟨b,2,none⟩) S).trans j.o.2.2.1) (aF ((u.cell (p:=⟨b,3,none⟩) S).trans j.o.2.2.2.1) (aF ((u.cell (p:=⟨b,4,none⟩) S).trans j.o.2.2.2.2.1) (aF ((u.cell (p:=⟨b,5,none⟩) S).trans j.o.2.2.2.2.2.1) ((u.cell (p:=⟨b,6,none⟩) S).trans j.o.2.2.2.2.2.2))))))))
 refine mX (λg=>aq z g) (.rd 0 (.rd 1 (.rd 3 (.rd 5 (.two 2 4 (.ef 4 (.ef 6 (.rd 8 (.ef 7 (.rd 9 .nil))))) (.two 2 6 (.ef 6 (.rd 8 (.ef 7 (.rd 9 .nil)))) (.two 2 7 (.rd 8 (.ef 7 (.rd 9 .nil))) (.ef 2 (.rd 8 (.rd 9 .nil)))))))))) (by kernel_rfl) (by kernel_rfl) ((aC _ _).drew) ?_
 iterate 4
  refine ir ak  ak (λR v=>?_)
  apply br
  refine⟨λg u=>?_,?_⟩
  ·obtain⟨J,L,M,N,O,P,Q⟩:=Z.o g u
   exact Qv
  go_simp;refine v _ ?_;clear v R
 refine nS ak  ak  ak  ak (λK x=>?_) (λK x=>?_)
 go_simp;have U:aq z _:=W.alloc W.size (.cells #[.pointer (some ⟨a,0,none⟩),.pointer (some ⟨c,0,none⟩)] 46);refine x _ _ (U) ?_
 clear x K;refine jq ak  ak (λK x=>?_)
 go_simp;refine(l.o _).mono ?_
 rintro e d ⟨s,rfl,C,E⟩;have F:aq z d:=U.trans (E.mono U.size);refine x _ _ (F) ?_
 clear x K;refine jq ak  ak (λK x=>?_)
 go_simp;refine(l.o _).mono ?_
 rintro e y ⟨t,rfl,D,Y⟩;have f:aq z y:=F.trans (Y.mono F.size);refine x _ _ (f) ?_
 clear x K
 iterate 1
  refine ir ak  ak (λR v=>?_)
  apply br
  refine⟨λg u=>?_,?_⟩
  ·obtain⟨J,L,M,N,O,P,Q⟩:=Z.o g u
   exact Qv
  go_simp;refine v _ ?_;clear v R
 refine jq ak  ak (λK x=>?_)
 go_simp;have G:aq z _:=f.alloc f.size (.cells #[.pointer (some ⟨s,0,none⟩),.pointer (some ⟨t,0,none⟩)] 49);refine x _ _ (G) ?_
 clear x K
 iterate 1
  refine ir ak  ak (λR v=>?_)
  apply br
  refine⟨λg u=>?_,?_⟩
  ·obtain⟨J,L,M,N,O,P,Q⟩:=Z.o g u
   exact Qv
  go_simp;refine v _ ?_;clear v R
 refine kP ?_
 rotate_left
 go_simp;refine(l.o _).mono ?_
 rintro e d ⟨s,rfl,C,E⟩;have F:aq z d:=W.trans (E.mono W.size);refine x _ _ (F) ?_
 clear x K;refine nS ak  ak  ak  ak (λK x=>?_) (λK x=>?_)
 go_simp;have U:aq z _:=F.alloc F.size (.cells #[.pointer (some ⟨a,0,none⟩),.pointer (some ⟨c,0,none⟩)] 46);refine x _ _ (U) ?_
 clear x K;refine jq ak  ak (λK x=>?_)
 go_simp;refine(l.o _).mono ?_
 rintro e y ⟨t,rfl,D,Y⟩;have f:aq z y:=U.trans (Y.mono U.size);refine x _ _ (f) ?_
 clear x K
 iterate 1
  refine ir ak  ak (λR v=>?_)
  apply br
  refine⟨λg u=>?_,?_⟩
  ·obtain⟨J,L,M,N,O,P,Q⟩:=Z.o g u
   exact Qv
  go_simp;refine v _ ?_;clear v R
 refine jq ak  ak (λK x=>?_)
 go_simp;have G:aq z _:=f.alloc f.size (.cells #[.pointer (some ⟨s,0,none⟩),.pointer (some ⟨t,0,none⟩)] 49);refine x _ _ (G) ?_
 clear x K
 iterate 1
  refine ir ak  ak (λR v=>?_)
  apply br
  refine⟨λg u=>?_,?_⟩
  ·obtain⟨J,L,M,N,O,P,Q⟩:=Z.o g u
   exact Qv
  go_simp;refine v _ ?_;clear v R
 refine kP ?_
 rotate_left
 go_simp;refine(l.o _).mono ?_
 rintro e y ⟨t,rfl,D,Y⟩;have f:aq z y:=F.trans (Y.mono F.size);refine x _ _ (f) ?_
 clear x K;refine nS ak  ak  ak  ak (λK x=>?_) (λK x=>?_)
 go_simp;have U:aq z _:=f.alloc f.size (.cells #[.pointer (some ⟨a,0,none⟩),.pointer (some ⟨c,0,none⟩)] 46);refine x _ _ (U) ?_
 clear x K
 iterate 1
  refine ir ak  ak (λR v=>?_)
  apply br
  refine⟨λg u=>?_,?_⟩
  ·obtain⟨J,L,M,N,O,P,Q⟩:=Z.o g u
   exact Qv
  go_simp;refine v _ ?_;clear v R
 refine jq ak  ak (λK x=>?_)
 go_simp;have G:aq z _:=U.alloc U.size (.cells #[.pointer (some ⟨s,0,none⟩),.pointer (some ⟨t,0,none⟩)] 49);refine x _ _ (G) ?_
 clear x K
 iterate 1
  refine ir ak  ak (λR v=>?_)
  apply br
  refine⟨λg u=>?_,?_⟩
  ·obtain⟨J,L,M,N,O,P,Q⟩:=Z.o g u
   exact Qv
  go_simp;refine v _ ?_;clear v R
 refine kP ?_
 rotate_left
 go_simp;have G:aq z _:=f.alloc f.size (.cells #[.pointer (some ⟨s,0,none⟩),.pointer (some ⟨t,0,none⟩)] 49);refine x _ _ (G) ?_
 clear x K;refine jq ak  ak (λK x=>?_)
 go_simp;have U:aq z _:=G.alloc G.size (.cells #[.pointer (some ⟨a,0,none⟩),.pointer (some ⟨c,0,none⟩)] 46);refine x _ _ (U) ?_
 clear x K
 iterate 2
  refine ir ak  ak (λR v=>?_)
  apply br
  refine⟨λg u=>?_,?_⟩
  ·obtain⟨J,L,M,N,O,P,Q⟩:=Z.o g u
   exact Qv
  go_simp;refine v _ ?_;clear v R
 refine kP ?_
 all_goals try refine gQ ?_
 ·go_wp2
  refine an ?_
  have X:=gN.new y 49 #[.pointer (some ⟨s,0,none⟩),.pointer (some ⟨t,0,none⟩)];have R:aq y (y.alloc (.cells #[.pointer (some ⟨s,0,none⟩),.pointer (some ⟨t,0,none⟩)] 49)):=(aC _ _).alloc (aD _) _;have m:(y.alloc (.cells #[.pointer (some ⟨s,0,none⟩),.pointer (some ⟨t,0,none⟩)] 49)).heap.size=y.heap.size+1:=ad
  have u:=gN.new (y.alloc (.cells #[.pointer (some ⟨s,0,none⟩),.pointer (some ⟨t,0,none⟩)] 49)) 46 #[.pointer (some ⟨a,0,none⟩),.pointer (some ⟨c,0,none⟩)];have x:Below (y.alloc (.cells #[.pointer (some ⟨s,0,none⟩),.pointer (some ⟨t,0,none⟩)] 49)).heap.size (y.alloc (.cells #[.pointer (some ⟨s,0,none⟩),.pointer (some ⟨t,0,none⟩)] 49)) ((y.alloc (.cells #[.pointer (some ⟨s,0,none⟩),.pointer (some ⟨t,0,none⟩)] 49)).alloc (.cells #[.pointer (some ⟨a,0,none⟩),.pointer (some ⟨c,0,none⟩)] 46)):=(aC _ _).alloc (aD _) _;rw[m] at u;have h:((y.alloc (.cells #[.pointer (some ⟨s,0,none⟩),.pointer (some ⟨t,0,none⟩)] 49)).alloc (.cells #[.pointer (some ⟨a,0,none⟩),.pointer (some ⟨c,0,none⟩)] 46)).heap.size=y.heap.size+2:=ad
  have o:=E.size;have K:=Y.size;have e2:z.drew.heap.size=z.heap.size:=rfl;have v:=R.trans (x.mono R.size);exact i.o _ _ _ _ _ _ _ z.drew.heap.size d.heap.size d.heap.size y.heap.size (f.trans (v.mono f.size)) ((iw sp _ _).keep C (Y.trans (v.mono K))) ((iw sp _ _).keep D v) (λk e=>e.elim False.elim id) (λk e=>e.elim False.elim id) aa  aa  aa  aa  aa (.inr aa) (.inr aa) (.inr aa) (.inr aa) aa  aa (u.cell 0) (u.cell 1) ((x.cell (p:=⟨y.heap.size,0,none⟩) (by show y.heap.size<_;omega)).trans (X.cell 0)) ((x.cell (p:=⟨y.heap.size,1,none⟩) (by show y.heap.size<_;omega)).trans (X.cell 1))
 ·go_wp2
  refine an ?_
  have u:=(gN.new z 46 #[.pointer (some ⟨a,0,none⟩),.pointer (some ⟨c,0,none⟩)]).drew;obtain⟨A,B⟩:=au ((z.alloc (.cells #[.pointer (some ⟨a,0,none⟩),.pointer (some ⟨c,0,none⟩)] 46)).drew);have m:A.heap.size=z.heap.size+1:=by rw[<-B];simp
  rw[B] at u C E;have X:=gN.new y 49 #[.pointer (some ⟨s,0,none⟩),.pointer (some ⟨t,0,none⟩)];have x:aq y (y.alloc (.cells #[.pointer (some ⟨s,0,none⟩),.pointer (some ⟨t,0,none⟩)] 49)):=(aC _ _).alloc (aD _) _;have h:(y.alloc (.cells #[.pointer (some ⟨s,0,none⟩),.pointer (some ⟨t,0,none⟩)] 49)).heap.size=y.heap.size+1:=ad
  have o:=E.size;have K:=Y.size;have v:=E.trans ((Y.trans (x.mono K)).mono o);exact i.o _ _ _ _ _ _ _ A.heap.size d.heap.size d.heap.size y.heap.size (f.trans (x.mono f.size)) ((iw sp _ _).keep C (Y.trans (x.mono K))) ((iw sp _ _).keep D x) (λk e=>e.elim False.elim id) (λk e=>e.elim False.elim id) aa  aa (aD _) aa (aD _) (.inl aa) (.inl aa) (.inr aa) (.inr aa) aa  aa ((v.cell (p:=⟨z.heap.size,0,none⟩) (by show z.heap.size<_;omega)).trans (u.cell 0)) ((v.cell (p:=⟨z.heap.size,1,none⟩) (by show z.heap.size<_;omega)).trans (u.cell 1)) (X.cell 0) (X.cell 1)
 ·go_wp2
  refine an ?_
  have u:=gN.new d 46 #[.pointer (some ⟨a,0,none⟩),.pointer (some ⟨c,0,none⟩)];have R:aq d (d.alloc (.cells #[.pointer (some ⟨a,0,none⟩),.pointer (some ⟨c,0,none⟩)] 46)):=(aC _ _).alloc (aD _) _;obtain⟨A,B⟩:=au (d.alloc (.cells #[.pointer (some ⟨a,0,none⟩),.pointer (some ⟨c,0,none⟩)] 46));have m:A.heap.size=d.heap.size+1:=by rw[<-B];simp
  rw[B] at u D Y R;have X:=gN.new y 49 #[.pointer (some ⟨s,0,none⟩),.pointer (some ⟨t,0,none⟩)];have x:aq y (y.alloc (.cells #[.pointer (some ⟨s,0,none⟩),.pointer (some ⟨t,0,none⟩)] 49)):=(aC _ _).alloc (aD _) _;have h:(y.alloc (.cells #[.pointer (some ⟨s,0,none⟩),.pointer (some ⟨t,0,none⟩)] 49)).heap.size=y.heap.size+1:=ad
  have o:=E.size;have K:=Y.size;have e2:z.drew.heap.size=z.heap.size:=rfl;have v:=Y.trans (x.mono K);exact i.o _ _ _ _ _ _ _ z.drew.heap.size d.heap.size A.heap.size y.heap.size (f.trans (x.mono f.size)) ((iw sp _ _).keep C (R.trans (v.mono R.size))) ((iw sp _ _).keep D x) (λk e=>e.elim False.elim id) (λk e=>e.elim False.elim id) aa  aa  aa  aa  aa (.inr aa) (.inl aa) (.inr aa) (.inr aa) aa  aa ((v.cell (p:=⟨d.heap.size,0,none⟩) (by show d.heap.size<_;omega)).trans (u.cell 0)) ((v.cell (p:=⟨d.heap.size,1,none⟩) (by show d.heap.size<_;omega)).trans (u.cell 1)) (X.cell 0) (X.cell 1)
 ·go_wp2
  refine an ?_
  have u:=gN.new y 46 #[.pointer (some ⟨a,0,none⟩),.pointer (some ⟨c,0,none⟩)];have R:aq y (y.alloc (.cells #[.pointer (some ⟨a,0,none⟩),.pointer (some ⟨c,0,none⟩)] 46)):=(aC _ _).alloc (aD _) _;have m:(y.alloc (.cells #[.pointer (some ⟨a,0,none⟩),.pointer (some ⟨c,0,none⟩)] 46)).heap.size=y.heap.size+1:=ad
  have X:=gN.new (y.alloc (.cells #[.pointer (some ⟨a,0,none⟩),.pointer (some ⟨c,0,none⟩)] 46)) 49 #[.pointer (some ⟨s,0,none⟩),.pointer (some ⟨t,0,none⟩)];have x:Below (y.alloc (.cells #[.pointer (some ⟨a,0,none⟩),.pointer (some ⟨c,0,none⟩)] 46)).heap.size (y.alloc (.cells #[.pointer (some ⟨a,0,none⟩),.pointer (some ⟨c,0,none⟩)] 46)) ((y.alloc (.cells #[.pointer (some ⟨a,0,none⟩),.pointer (some ⟨c,0,none⟩)] 46)).alloc (.cells #[.pointer (some ⟨s,0,none⟩),.pointer (some ⟨t,0,none⟩)] 49)):=(aC _ _).alloc (aD _) _;rw[m] at X;have h:((y.alloc (.cells #[.pointer (some ⟨a,0,none⟩),.pointer (some ⟨c,0,none⟩)] 46)).alloc (.cells #[.pointer (some ⟨s,0,none⟩),.pointer (some ⟨t,0,none⟩)] 49)).heap.size=y.heap.size+2:=ad
  have o:=E.size;have K:=Y.size;have e2:z.drew.heap.size=z.heap.size:=rfl;have v:=R.trans (x.mono R.size);exact i.o _ _ _ _ _ _ _ z.drew.heap.size d.heap.size d.heap.size y.heap.size (f.trans (v.mono f.size)) ((iw sp _ _).keep C (Y.trans (v.mono K))) ((iw sp _ _).keep D v) (λk e=>e.elim False.elim id) (λk e=>e.elim False.elim id) aa  aa  aa  aa  aa (.inr aa) (.inr aa) (.inr aa) (.inr aa) aa  aa ((x.cell (p:=⟨y.heap.size,0,none⟩) (by show y.heap.size<_;omega)).trans (u.cell 0)) ((x.cell (p:=⟨y.heap.size,1,none⟩) (by show y.heap.size<_;omega)).trans (u.cell 1)) (X.cell 0) (X.cell 1)
def D_(ok:oU sp)(w:World) :
 ar Oe 67 #[sp.v] w λe y=>∃X Y v x z,e=.returned (.tuple #[.slice (some ⟨x,0,none⟩) 2 2,.slice (some ⟨z,0,none⟩) 2 2])/\lR sp w.heap.size (λ_=>sp.new) (λ_=>sp.new) X Y v x z y/\aq w y:=by
 cases sp with
 | h lo hi dg u m gr=>exact rW rfl ok w
 | d a m=>exact rW rfl ok w
 | t d=>exact rW rfl ok w
 | k q=>exact rW rfl ok w
def zf(kind a b:Nat)(gr:Bool):i9:=
 if kind % 4=0 then .h (1+a % 50) (2 * (1+a % 50)+b) (1+a % 3) (Lib.bitLen (1+a % 50) - 1) (Lib.bitLen (2 * 10 ^ (1+a % 3) - 1)) gr
 else if kind % 4=1 then .d (500+a % 46 * 100) (2+b % 20)
 else if kind % 4=2 then .t (10+a % 30)
 else .k (8+a % 30)
def N5{kind b:Nat}(x:b<=65535):oU (zf kind a b gr)/\(zf kind a b gr).small:=by
 unfold zf
 split
 ·have z:Lib.bitLen (1+a % 50)<=6:=(pq aa).2 aa
  have y:=yK (dg:=1+a % 3) aa
  exact⟨⟨by omega,aa,aa,aa,aa,rfl,rfl,aa⟩,trivial⟩
 ·split
  ·exact⟨⟨by omega,aa,aa,aa⟩,trivial⟩
  ·split
   ·exact⟨⟨by omega,aa⟩,by show 10+a % 30<=300;omega⟩
   ·exact⟨⟨by omega,aa⟩,trivial⟩
def D'(y a b:Nat)(v:Bool)(w:World)(f:y<=255)(p:a<=65535)(g:b<=65535) :
 ar Oe 10 #[.int .u8 y,.int .u16 a,.int .u16 b,.bool v] w λe q=>e=.returned (zf y a b v).v/\aq w q:=by
 have r:((y:Int) % 4)=((y % 4:Nat):Int):=aa
 obtain⟨m,x⟩:=au (y % 4);have d:m<4:=aa
 have z:=ay x;rw[x] at r;clear x
 by_cases x:m=0
 ·subst x
  go_in
  go_wp2;refine an ?_
  refine⟨?_,bw⟩
  unfold zf;rw[aH z.o];unfold i9.v iv;simp only[dE,fq]
  congr 1
  try simp
 by_cases u:m=1
 ·subst u
  go_in
  go_wp2;refine an ?_
  refine⟨?_,bw⟩
  unfold zf;rw[aG (by rw[z.o];decide),aH z.o]
  unfold i9.v iv;simp only[dE,fq]
  congr 1
  try simp
 by_cases t:m=2
 ·subst t
  go_in
  go_wp2;refine an ?_
  refine⟨?_,bw⟩
  unfold zf;rw[aG (by rw[z.o];decide),aG (by rw[z.o];decide),aH z.o]
  unfold i9.v iv;simp only[dE,fq]
  congr 1
  try simp
 ·have s:m=3:=aa
  subst s
  go_in
  go_wp2;refine an ?_
  refine⟨?_,bw⟩
  unfold zf;rw[aG (by rw[z.o];decide),aG (by rw[z.o];decide),aG (by rw[z.o];decide)]
  unfold i9.v iv;simp only[dE,fq]
  congr 1
  try simp
section
variable {y : Nat} {num den v led er : Int} {vg : Bool}
def N6(w:World)(h:∀x,aq w x->ar Oe 69 #[.pointer (some ⟨y,0,none⟩),.int .u64 num,.int .u64 den] x λe d=>e=.returned (.tuple #[.agg #[.int .i64 v,.bool vg,.int .u64 led],.int .i64 0])/\aq x d) :
 ar Oe 26 #[.pointer (some ⟨y,0,none⟩),.int .u64 num,.int .u64 den] w (aw w (.tuple #[.agg #[.int .i64 v,.bool vg,.int .u64 led],.int .i64 0])):=by
 obtain⟨c,t⟩:=au (w.alloc (.cells #[.int .i64 0,.bool false,.int .u64 0] 72));have u:aq w c:=by rw[<-t];exact bw
 have p:=ay (h c u);obtain⟨z,s⟩:=au (w.heap.size);have Q:Hid (gN c z 72 #[.int .i64 0,.bool false,.int .u64 0]):=by rw[<-t,<-s];exact ay (gN.new _ _ _)
 have Y:=ay u;clear h u
 go_in
 go_upto_region 1 with fail;have g:=ay s;clear t s
 go_wp2_with fail;refine(p.o).mono ?_
 rintro e x ⟨rfl,u⟩;have r:=ay (Y.o.trans (u.mono Y.o.size));have a:=ay (Q.o.keep u);clear u p
 go_upto_region 2 with fail;obtain⟨L,f⟩:=au (x.heap.size);obtain⟨b,t⟩:=au (x.alloc (.cells #[.int .i64 v,.bool vg,.int .u64 led] 72));have p:aq x b:=by rw[<-t];exact bw
 have s:Hid (gN b L 72 #[.int .i64 v,.bool vg,.int .u64 led]):=by rw[<-t,<-f];exact ay (gN.new _ _ _)
 have u:=ay (a.o.keep p);have P:=ay (r.o.trans (p.mono r.o.size));rw[t,f];have X:=s.o.k0;have V:=s.o.k1;have U:=s.o.k2;have T:=u.o.k0;have S:=u.o.k1;have R:=u.o.k2;have O:=u.o.frozen 0;have N:=u.o.frozen 1;have M:=u.o.frozen 2;clear t f p r a
 go_wp2_with fail;have r:=ay (((u.o.gR 0 (.int .i64 v)).gR 1 (.bool vg)).gR 2 (.int .u64 led));have f:=ay (((P.o.setCell (p:=⟨z,0,none⟩) (by rw[g.o];exact aD _) (.int .i64 v)).setCell (p:=⟨z,1,none⟩) (by rw[g.o];exact aD _) (.bool vg)).setCell (p:=⟨z,2,none⟩) (by rw[g.o];exact aD _) (.int .u64 led))
 obtain⟨I,a⟩:=au (((b.setCell ⟨z,0,none⟩ (.int .i64 v)).setCell ⟨z,1,none⟩ (.bool vg)).setCell ⟨z,2,none⟩ (.int .u64 led));rw[a] at r f |-;have t:=r.o;simp only[aY,bo,bm] at t;obtain⟨q,K,J⟩:=t.c3;clear a T S R O N M X V U t;refine an ?_
 have t:=f.o;exact⟨rfl,t⟩
def N7(w:World)(K:¬er=0)(h:∀x,aq w x->ar Oe 69 #[.pointer (some ⟨y,0,none⟩),.int .u64 num,.int .u64 den] x λe d=>e=.returned (.tuple #[.agg #[.int .i64 v,.bool vg,.int .u64 led],.int .i64 er])/\aq x d) :
 ar Oe 26 #[.pointer (some ⟨y,0,none⟩),.int .u64 num,.int .u64 den] w (aw w (.tuple #[.agg #[.int .i64 0,.bool false,.int .u64 0],.int .i64 er])):=by
 obtain⟨c,t⟩:=au (w.alloc (.cells #[.int .i64 0,.bool false,.int .u64 0] 72));have u:aq w c:=by rw[<-t];exact bw
 have p:=ay (h c u);obtain⟨z,s⟩:=au (w.heap.size);have Q:Hid (gN c z 72 #[.int .i64 0,.bool false,.int .u64 0]):=by rw[<-t,<-s];exact ay (gN.new _ _ _)
 have Y:=ay u;clear h u
 go_in
 go_upto_region 1 with fail;have g:=ay s;clear t s
 go_wp2_with fail;refine(p.o).mono ?_
 rintro e x ⟨rfl,u⟩;have r:=ay (Y.o.trans (u.mono Y.o.size));have a:=ay (Q.o.keep u);clear u p
 go_upto_region 2 with fail;obtain⟨L,f⟩:=au (x.heap.size);obtain⟨b,t⟩:=au (x.alloc (.cells #[.int .i64 v,.bool vg,.int .u64 led] 72));have p:aq x b:=by rw[<-t];exact bw
 have s:Hid (gN b L 72 #[.int .i64 v,.bool vg,.int .u64 led]):=by rw[<-t,<-f];exact ay (gN.new _ _ _)
 have u:=ay (a.o.keep p);have P:=ay (r.o.trans (p.mono r.o.size));rw[t,f];have X:=s.o.k0;have V:=s.o.k1;have U:=s.o.k2;have T:=u.o.k0;have S:=u.o.k1;have R:=u.o.k2;have O:=u.o.frozen 0;have N:=u.o.frozen 1;have M:=u.o.frozen 2;clear t f p r a
 go_wp2_with fail;have r:=ay (((u.o.gR 0 (.int .i64 0)).gR 1 (.bool false)).gR 2 (.int .u64 0));have f:=ay (((P.o.setCell (p:=⟨z,0,none⟩) (by rw[g.o];exact aD _) (.int .i64 0)).setCell (p:=⟨z,1,none⟩) (by rw[g.o];exact aD _) (.bool false)).setCell (p:=⟨z,2,none⟩) (by rw[g.o];exact aD _) (.int .u64 0))
 obtain⟨H,a⟩:=au (((b.setCell ⟨z,0,none⟩ (.int .i64 0)).setCell ⟨z,1,none⟩ (.bool false)).setCell ⟨z,2,none⟩ (.int .u64 0));rw[a] at r f |-;have t:=r.o;simp only[aY,bo,bm] at t;obtain⟨q,J,I⟩:=t.c3;clear a T S R O N M X V U t;refine an ?_
 have t:=f.o;exact⟨rfl,t⟩
end
section
variable {y : Nat} {p1 p2 p3 p4 : Value} {num den v er : Int} {vg : Bool}
def LV(w:World)(s:gN w y 124 #[.int .u8 1,p1,p2,p3,p4])(h:∀t,aq w t->ar Oe 137 #[p1,.int .u64 num,.int .u64 den] t λe d=>e=.returned (.tuple #[.int .i64 v,.int .i64 er])/\aq t d) :
 ar Oe 69 #[.pointer (some ⟨y,0,none⟩),.int .u64 num,.int .u64 den] w (aw w (.tuple #[.agg #[.int .i64 v,.bool false,.int .u64 0],.int .i64 er])):=by
 have C:=ay h;clear h;have P:=s.lt;obtain⟨z,r⟩:=au (w.heap.size);obtain⟨c,u⟩:=au (w.alloc (.cells #[.int .i64 0,.bool false,.int .u64 0] 72));have x:aq w c:=by rw[<-u];exact bw
 have p:gN c z 72 #[.int .i64 0,.bool false,.int .u64 0]:=by rw[<-u,<-r];exact gN.new _ _ _
 have g:=s.keep x;obtain⟨T,R⟩:=g.c2;have b:=ay (C.o c x);have a:=ay x;have S:=ay p;clear s g C x p
 go_in
 go_upto_region 1 with fail;have s:=ay r;clear u r
 go_wp2_with fail;refine(b.o).mono ?_
 rintro e t ⟨rfl,x⟩;have u:=ay (S.o.keep x);have r:=u.o.k0;have g:=u.o.k1;have f:=u.o.k2;have X:=u.o.frozen 0;have V:=u.o.frozen 1;have U:=u.o.frozen 2;have Y:Hid (aq w t):=ay (a.o.trans (x.mono a.o.size));clear x b T R
 go_upto_region 9 with fail;have x:=u.o.gR 0 (.int .i64 v);have b:=ay (Y.o.setCell (p:=⟨z,0,none⟩) (by rw[s.o];exact aD _) (.int .i64 v))
 obtain⟨Q,T⟩:=au (t.setCell ⟨z,0,none⟩ (.int .i64 v));rw[T] at x b |-;simp only[aY,bo,bm] at x;have r:=x.k0;have g:=x.k1;have f:=x.k2;have X:=x.frozen 0;have V:=x.frozen 1;have U:=x.frozen 2;have R:=ay x;clear T u Y x
 go_wp2_with fail;have u:=ay (((R.o.gR 0 (.int .i64 v)).gR 1 (.bool false)).gR 2 (.int .u64 0));have Y:=ay (((b.o.setCell (p:=⟨z,0,none⟩) (by rw[s.o];exact aD _) (.int .i64 v)).setCell (p:=⟨z,1,none⟩) (by rw[s.o];exact aD _) (.bool false)).setCell (p:=⟨z,2,none⟩) (by rw[s.o];exact aD _) (.int .u64 0))
 obtain⟨M,T⟩:=au (((Q.setCell ⟨z,0,none⟩ (.int .i64 v)).setCell ⟨z,1,none⟩ (.bool false)).setCell ⟨z,2,none⟩ (.int .u64 0));rw[T] at u Y |-;have x:=u.o;simp only[aY,bo,bm] at x;obtain⟨q,O,N⟩:=x.c3;clear T r g f X V U x;refine an ?_
 have x:=Y.o;exact⟨rfl,x⟩
def LW(w:World)(s:gN w y 124 #[.int .u8 2,p1,p2,p3,p4])(h:∀t,aq w t->ar Oe 138 #[p2,.int .u64 num,.int .u64 den] t λe d=>e=.returned (.tuple #[.int .i64 v,.bool vg,.int .i64 er])/\aq t d) :
 ar Oe 69 #[.pointer (some ⟨y,0,none⟩),.int .u64 num,.int .u64 den] w (aw w (.tuple #[.agg #[.int .i64 v,.bool vg,.int .u64 0],.int .i64 er])):=by
 have C:=ay h;clear h;have P:=s.lt;obtain⟨z,p⟩:=au (w.heap.size);obtain⟨c,u⟩:=au (w.alloc (.cells #[.int .i64 0,.bool false,.int .u64 0] 72));have x:aq w c:=by rw[<-u];exact bw
 have g:gN c z 72 #[.int .i64 0,.bool false,.int .u64 0]:=by rw[<-u,<-p];exact gN.new _ _ _
 have r:=s.keep x;have X:=r.k0;have V:=r.k2;have b:=ay (C.o c x);have a:=ay x;have R:=ay g;clear s r C x g
 go_in
 go_upto_region 1 with fail;have s:=ay p;clear u p
 go_wp2_with fail;refine(b.o).mono ?_
 rintro e t ⟨rfl,x⟩;have u:=ay (R.o.keep x);have r:=u.o.k0;have g:=u.o.k1;have f:=u.o.k2;have U:=u.o.frozen 0;have T:=u.o.frozen 1;have S:=u.o.frozen 2;have Y:Hid (aq w t):=ay (a.o.trans (x.mono a.o.size));clear x b X V
 go_upto_region 9 with fail;have x:=(u.o.gR 0 (.int .i64 v)).gR 1 (.bool vg);have b:=ay (((Y.o.setCell (p:=⟨z,0,none⟩) (by rw[s.o];exact aD _) (.int .i64 v)).setCell (p:=⟨z,1,none⟩) (by rw[s.o];exact aD _) (.bool vg)))
 obtain⟨Q,X⟩:=au ((t.setCell ⟨z,0,none⟩ (.int .i64 v)).setCell ⟨z,1,none⟩ (.bool vg));rw[X] at x b |-;simp only[aY,bo,bm] at x;have r:=x.k0;have g:=x.k1;have f:=x.k2;have U:=x.frozen 0;have T:=x.frozen 1;have S:=x.frozen 2;have V:=ay x;clear X u Y x
 go_wp2_with fail;have u:=ay (((V.o.gR 0 (.int .i64 v)).gR 1 (.bool vg)).gR 2 (.int .u64 0));have Y:=ay (((b.o.setCell (p:=⟨z,0,none⟩) (by rw[s.o];exact aD _) (.int .i64 v)).setCell (p:=⟨z,1,none⟩) (by rw[s.o];exact aD _) (.bool vg)).setCell (p:=⟨z,2,none⟩) (by rw[s.o];exact aD _) (.int .u64 0))
 obtain⟨M,X⟩:=au (((Q.setCell ⟨z,0,none⟩ (.int .i64 v)).setCell ⟨z,1,none⟩ (.bool vg)).setCell ⟨z,2,none⟩ (.int .u64 0));rw[X] at u Y |-;have x:=u.o;simp only[aY,bo,bm] at x;obtain⟨q,O,N⟩:=x.c3;clear X r g f U T S x;refine an ?_
 have x:=Y.o;exact⟨rfl,x⟩
def LX(w:World)(s:gN w y 124 #[.int .u8 3,p1,p2,p3,p4])(h:∀t,aq w t->ar Oe 139 #[p3,.int .u64 num,.int .u64 den] t λe d=>e=.returned (.tuple #[.int .i64 v,.int .i64 er])/\aq t d) :
 ar Oe 69 #[.pointer (some ⟨y,0,none⟩),.int .u64 num,.int .u64 den] w (aw w (.tuple #[.agg #[.int .i64 v,.bool false,.int .u64 0],.int .i64 er])):=by
 have C:=ay h;clear h;have P:=s.lt;obtain⟨z,p⟩:=au (w.heap.size);obtain⟨c,u⟩:=au (w.alloc (.cells #[.int .i64 0,.bool false,.int .u64 0] 72));have x:aq w c:=by rw[<-u];exact bw
 have g:gN c z 72 #[.int .i64 0,.bool false,.int .u64 0]:=by rw[<-u,<-p];exact gN.new _ _ _
 have r:=s.keep x;have X:=r.k0;have V:=r.k3;have b:=ay (C.o c x);have a:=ay x;have R:=ay g;clear s r C x g
 go_in
 go_upto_region 1 with fail;have s:=ay p;clear u p
 go_wp2_with fail;refine(b.o).mono ?_
 rintro e t ⟨rfl,x⟩;have u:=ay (R.o.keep x);have r:=u.o.k0;have g:=u.o.k1;have f:=u.o.k2;have U:=u.o.frozen 0;have T:=u.o.frozen 1;have S:=u.o.frozen 2;have Y:Hid (aq w t):=ay (a.o.trans (x.mono a.o.size));clear x b X V
 go_upto_region 9 with fail;have x:=u.o.gR 0 (.int .i64 v);have b:=ay (Y.o.setCell (p:=⟨z,0,none⟩) (by rw[s.o];exact aD _) (.int .i64 v))
 obtain⟨Q,X⟩:=au (t.setCell ⟨z,0,none⟩ (.int .i64 v));rw[X] at x b |-;simp only[aY,bo,bm] at x;have r:=x.k0;have g:=x.k1;have f:=x.k2;have U:=x.frozen 0;have T:=x.frozen 1;have S:=x.frozen 2;have V:=ay x;clear X u Y x
 go_wp2_with fail;have u:=ay (((V.o.gR 0 (.int .i64 v)).gR 1 (.bool false)).gR 2 (.int .u64 0));have Y:=ay (((b.o.setCell (p:=⟨z,0,none⟩) (by rw[s.o];exact aD _) (.int .i64 v)).setCell (p:=⟨z,1,none⟩) (by rw[s.o];exact aD _) (.bool false)).setCell (p:=⟨z,2,none⟩) (by rw[s.o];exact aD _) (.int .u64 0))
 obtain⟨M,X⟩:=au (((Q.setCell ⟨z,0,none⟩ (.int .i64 v)).setCell ⟨z,1,none⟩ (.bool false)).setCell ⟨z,2,none⟩ (.int .u64 0));rw[X] at u Y |-;have x:=u.o;simp only[aY,bo,bm] at x;obtain⟨q,O,N⟩:=x.c3;clear X r g f U T S x;refine an ?_
 have x:=Y.o;exact⟨rfl,x⟩
end
end D
end Go.Proofs.YtdicblkhpcphfaaGreat
