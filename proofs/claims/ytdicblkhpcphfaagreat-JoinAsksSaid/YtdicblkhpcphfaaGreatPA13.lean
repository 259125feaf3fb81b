/- Parts. No condition. -/
import Derived.Test.YtdicblkhpcphfaaGreatPA12
set_option maxRecDepth 100000
set_option maxHeartbeats 0
set_option linter.all false
namespace Go.Proofs.YtdicblkhpcphfaaGreat
open Tryz Go.RowKit Go.Lib
open _root_.List renaming length→ao
open _root_.Go renaming Calls→ar
open Tryz renaming prog→Oe
namespace D
variable{a b base m:Nat}{v:Int}{l:List Pr}{w w':World}
def Te{k j:IntKind}{a b c d:Int}(h:a=b)(g:c=d):Ending.returned (.tuple #[.int k a,.int j c])=.returned (.tuple #[.int k b,.int j d]):=by rw[h,g]
def GM(l:List Sp)(v:Int):Nat:=l.findIdx λs=>decide (v<=s.high)
def nI(a:Nat)(v:Int):Int:=if v=0 then 0 else if 0<v then 1+(GM (spans a) v:Nat) else -(1+(GM (spans a) (-v):Nat))
def hiP(l:List Sp)(v:Int)(i:Nat):Bool:=match l[i]? with
 | some s=>decide (v<=s.high)
 | none=>true
def po(x:100<=a)(u:a<=5000)(r:v<=9223372036854775807):GM (spans a) v<ao (spans a)/\ao (spans a)<=2100:=by
 obtain⟨_,_,z,s,y,t⟩:=ph x u;refine⟨List.findIdx_lt_length_of_exists ⟨s,gA y,?_⟩,z⟩
 simp only[a_];omega
def Rh(z:100<=a)(y:a<=5000)(s:-9223372036854775808<v)(x:v<=9223372036854775807):-2100<=nI a v/\nI a v<=2100:=by
 have u:=po z y x;have t:=po z y (v:=-v) aa
 unfold nI
 split
 ·omega
 ·split<;>omega
def uP{l:List Sp}{i:Nat}(r:i<=ao l)(y:∀t,t<i->hiP l v t=false)(x:∀t,i<=t->t<ao l->hiP l v t=true):i=GM l v:=by
 unfold GM
 rcases bg i (ao l) with h|h
 ·refine((List.findIdx_eq h).2 ⟨?_,λj z=>?_⟩).symm
  ·have:=x i (aD _) h
   unfold hiP at this
   rwa [aQ h] at this
  ·have:=y j z
   unfold hiP at this
   rwa [aQ aa] at this
 ·obtain rfl:i=ao l:=aa
  refine(List.findIdx_eq_length_of_false λs u=>?_).symm
  obtain⟨j,z,rfl⟩:=List.mem_iff_getElem.1 u;have:=y j z;unfold hiP at this
  rwa [aQ z] at this
def Aj(t:100<=a)(s:a<=5000)(v:Int)(i j:Nat)(r:i<=j)(z:j<ao (spans a))(h:hiP (spans a) v i=true):hiP (spans a) v j=true:=by
 obtain⟨y,x,_⟩:=ph t s;unfold hiP at *;rw[aQ z];rw[aQ aa] at h
 simp only[a_] at *
 rcases Nat.lt_or_eq_of_le r with u|rfl
 ·have q:=bO.1 x i j aa z u
  have p:=y _ (aX z);omega
 ·exact h
def uM.keep(h:uM base w b a)(z:aq w w'):uM base w' b a:=by
 obtain⟨y,v,x,u⟩:=h;exact⟨y,v,x.keep z,u.keep z⟩
def MS(w:World)(h:uM base w b a):ar Oe 193 #[.pointer (some ⟨b,0,none⟩)] w λe x=>e=.returned (.int .i64 a)/\w=x:=by
 obtain⟨_,v,y,_⟩:=h;have z:=y.k0
 go_in
 go_wp2
 go_ret;exact⟨rfl,rfl⟩
def JT(p q b g z c:Nat)(l:List Sp)(x v:Int)(i:Nat)(W:World)(s:i<ao l)(d:ao l<=2100)
 (a:W.cell? ⟨p,0,none⟩=some (.pointer (some ⟨b,0,none⟩))) (Y:W.cell? ⟨q,0,none⟩=some (.int .i64 v)) (u:W.cell? ⟨b,1,none⟩=some (.slice (some ⟨g,z,none⟩) (ao l) c)) (t:W.cell? ⟨g,z+i * 3+2,none⟩=some (.int .i64 x)) :
 ar Oe 240 (#[.int .i64 i]++#[.pointer (some ⟨p,0,none⟩),.pointer (some ⟨q,0,none⟩)]) W λe y=>e=.returned (.bool (decide (v<=x)))/\∃q,y=W.drewN q:=by
 have f:(i:Int)<(ao l:Int):=aa
 have r:(0:Int)<=(i:Int):=aa
 go_in
 go_wp2_with fail
 go_quiet (fail)
 go_wp2
 go_ret;exact⟨rfl,_,rfl⟩
def E5(v:Int)(w:World)(h:uM base w b a)(z:100<=a)(x:a<=5000)(Q:0<v)(X:v<=9223372036854775807) :
 ar Oe 150 #[.pointer (some ⟨b,0,none⟩),.int .i64 v] w λe d=>e=.returned (.tuple #[.int .i64 (1+(GM (spans a) v:Nat)),.int .i64 0])/\aq w d:=by
 have s:=Aj z x v;have R:=po z x X;obtain⟨f,O,t,y⟩:=h;obtain⟨l,u⟩:=au (spans a);rw[u] at s R y |-;clear u z x;obtain⟨g,c,rfl,_,T,_,_⟩:=y.pos aa
 have x:=t.k1;have V:=t.lt;have p:∀i (z:i<ao l),w.cell? ⟨g,0+i * 3+2,none⟩=some (.int .i64 (l[i]).high):=λi z=>by
  rw[cJ];exact y.cellAt z 2 ab
 have r:=ay p;have u:=ay x;have q:=ay s;clear p t y f s x;have P:¬v<0:=aa
 have f:∀y w,(callFunc 240 y).run prog w=.ok (.enter 240 y) w:=λ_ _=>rfl
 have y:Hid (aq w ((w.alloc (.cells #[.pointer (some ⟨b,0,none⟩)] 207)).alloc (.cells #[.int .i64 v] 2))):=ay (bw);have t:Hid (((w.alloc (.cells #[.pointer (some ⟨b,0,none⟩)] 207)).alloc (.cells #[.int .i64 v] 2)).cell? ⟨w.heap.size,0,none⟩=some (.pointer (some ⟨b,0,none⟩))):=ay (by simp[bU])
 have s:Hid (((w.alloc (.cells #[.pointer (some ⟨b,0,none⟩)] 207)).alloc (.cells #[.int .i64 v] 2)).cell? ⟨w.heap.size+1,0,none⟩=some (.int .i64 v)):=ay (by simp[bU])
 have Y:Hid (ar Oe 154 #[.int .i64 (ao l),.func (.func 240) #[] #[.pointer (some ⟨w.heap.size,0,none⟩),.pointer (some ⟨w.heap.size+1,0,none⟩)]] ((w.alloc (.cells #[.pointer (some ⟨b,0,none⟩)] 207)).alloc (.cells #[.int .i64 v] 2)) (Found (ao l) (hiP l v) ((w.alloc (.cells #[.pointer (some ⟨b,0,none⟩)] 207)).alloc (.cells #[.int .i64 v] 2)))):=by
  generalize (w.alloc (.cells #[.pointer (some ⟨b,0,none⟩)] 207)).alloc (.cells #[.int .i64 v] 2)=W at *;refine ay (ks 240 _ (ao l) (hiP l v) W f aa (λm i z=>?_) q.o)
  have U:=(y.o.cell (p:=⟨g,0+i * 3+2,none⟩) T).trans (r.o i z);have S:=(y.o.cell (p:=⟨b,1,none⟩) V).trans u.o;have:=JT w.heap.size (w.heap.size+1) b g 0 c l (l[i]).high v i (W.drewN m) z aa t.o s.o S U
  unfold hiP;rw[aQ z];exact this
 have x:=u.o;clear q f r u t s
 go_in
 go_wp2_with fail;refine(Y.o).mono ?_
 rintro e d ⟨i,q,rfl,z,u,t,rfl⟩;obtain rfl:=uP z u t;clear u t
 go_wp2
 go_ret2
 exact⟨rfl,below_drewN y.o _⟩
def E6(v:Int)(w:World)(h:uM base w b a)(z:100<=a)(y:a<=5000)(p:-9223372036854775808<v)(r:v<=9223372036854775807) :
 ar Oe 150 #[.pointer (some ⟨b,0,none⟩),.int .i64 v] w (aw w (.tuple #[.int .i64 (nI a v),.int .i64 0])):=by
 by_cases u:0<v
 ·have e:nI a v=1+(GM (spans a) v:Nat):=by unfold nI;rw[aG aa,aH u]
  rw[e];exact E5 v w h z y u r
 ·have d:¬v=-9223372036854775808:=aa
  by_cases t:v=0
  ·subst t
   have e:nI a 0=0:=rfl;rw[e]
   go_in
   go_wp2
   go_ret2
   exact⟨rfl,bw⟩
  ·have f:v<0:=aa
   have e:nI a v=-(1+(GM (spans a) (-v):Nat)):=by unfold nI;rw[aG t,aG u]
   rw[e];have x:aq w ((w.alloc (.cells #[.pointer (some ⟨b,0,none⟩)] 207)).alloc (.cells #[.int .i64 v] 2)):=bw;have s:=ay (E5 (-v) _ (h.keep x) z y aa  aa)
   have g:=po z y (v:=-v) aa
   generalize GM (spans a) (-v)=k at *;clear x e
   go_in
   go_wp2_with fail;refine(s.o).mono ?_
   rintro e c ⟨rfl,x⟩
   go_wp2
   go_ret2
   exact⟨Te aa rfl,bw⟩
def E7(w:World)(_h:uM base w b a) :
 ar Oe 150 #[.pointer (some ⟨b,0,none⟩),.int .i64 (-9223372036854775808)] w (aw w (.tuple #[.int .i64 0,.int .i64 5])):=by
 go_in
 go_wp2
 go_ret2
 exact⟨rfl,bw⟩
def Ak(T:Value)(v:Int)(w:World)(h:iA (z_ 154) w T (spans a))(s:100<=a)(r:a<=5000)(K:-9223372036854775808<v)(J:v<=9223372036854775807) :
 ar Oe 86 #[T,.int .i64 v] w λe L=>e=.returned (.int .i64 (nI a v))/\w=L:=by
 by_cases U:v=0
 ·subst U
  have e:nI a 0=0:=rfl;rw[e]
  go_in
  go_wp2
  go_ret;exact⟨rfl,rfl⟩
 ·obtain⟨m,z⟩:=au ((if v<0 then -v else v))
  have O:0<m/\m<=9223372036854775807:=by rw[<-z];split<;>omega
  have P:=po s r O.2;have y:=Aj s r m;have X:Hid (nI a v=if v<0 then -((GM (spans a) m:Nat):Int) - 1 else((GM (spans a) m:Nat):Int)+1):=by
   show _=_
   unfold nI;rw[aG U]
   by_cases u:v<0
   ·rw[aH u] at z |-
    rw[aG aa,z];omega
   ·rw[aG u] at z |-
    rw[aH aa,z];omega
  have N:(v<0/\v=-m)\/(¬v<0/\m=v):=by split at z<;>omega
  clear z;obtain⟨l,z⟩:=au (spans a);rw[z] at y P h X;clear z s r;obtain⟨A,c,rfl,_,_,z⟩:=h.form;obtain⟨g,M,rfl,I,p⟩:=z aa
  have S:Hid (∀j (x:j<ao l),w.cell? ⟨g,M+j * 3+2,none⟩=some (.int .i64 (l[j]).high)):=ay (λj x=>p j x 2 ab)
  have R:=ay y;clear p y h z
  rcases N with⟨u,rfl⟩|⟨u,rfl⟩
  all_goals
   go_in
   go_wp2
   go_loopg [6] (ao l) (λq x wr=>(∃k:Nat,q=ao l - k/\k<=ao l/\x=.int .i64 k/\Hid (∀t,t<k->hiP l m t=false))/\w=wr)
   exact⟨⟨0,rfl,aa,rfl,ay (λt V=>absurd V aa)⟩,rfl⟩
   case round=>
    obtain⟨⟨k,z,b,rfl,x⟩,rfl⟩:=hrel;have Q:=ay z;clear z
    by_cases Y:k<ao l
    ·have p:=S.o k Y
     have H:(k:Int)<(ao l:Int):=aa
     have q:Hid (hiP l m k=decide (m<=(l[k]).high)):=ay (by unfold hiP;rw[aQ Y])
     generalize (l[k]).high=y at *
     by_cases G:y<m
     ·go_wp2
      go_roundg (ao l - (k+1))
      case measure=>have:=Q.o;omega
      case rel=>exact⟨⟨k+1,rfl,aa,ag,ay (λt V=>by
       rcases bg t k with h|h
       ·exact x.o t h
       ·obtain rfl:t=k:=aa
        rw[q.o];exact cj aa)⟩,rfl⟩
     ·have z:Hid (k=GM l m):=ay (uP b x.o (λt f d=>R.o k t f d (by rw[q.o];exact cz aa)))
      go_wp2
      go_ret;refine⟨ie ?_,rfl⟩
      rw[X.o,<-z.o]
      first|rw[aH u]|rw[aG aa]
    ·obtain rfl:k=ao l:=aa
     have z:Hid (ao l=GM l m):=ay (uP b x.o (λt f d=>by omega))
     have:=z.o;omega
structure iO(a m:Nat)(l:List Pr):Prop where
 a0:100<=a
 a1:a<=5000
 m0:2<=m
 m1:m<=4096
 iJ:iE l
 pos:iu l
 key:∀p∈l,-(ao (spans a):Int)<=p.1/\p.1<=(ao (spans a):Int)
 sum:tot l<=4611686018427387904
def yG{lo hi:Int}:∀{l:List Pr},iE l->(∀p∈l,lo<=p.1/\p.1<=hi)->lo<=hi+1->(ao l:Int)<=hi - lo+1
 | [],_,_,h=>by simp;omega
 | p::l,s,k,_=>by
  have y:=aT.1 s;have x:=k p (aK ..);have:=yG (lo:=p.1+1) (hi:=hi) y.2 (λq z=>⟨by have:=y.1 q z;omega,(k q (aP _ z)).2⟩) aa
  simp only[aJ];omega
def iO.len(h:iO a m l):ao l<=4201:=by
 have z:=(po h.a0 h.a1 (v:=0) aa).2
 have:=yG h.iJ h.key aa
 omega
def iO.ok(h:iO a m l):pn l:=⟨h.iJ,h.pos,(λp z=>by have:=h.key p z;have y:=(po h.a0 h.a1 (v:=0) aa).2;omega),h.sum,by have:=h.len;omega⟩
def iO.cut(h:iO a m l):pn (gV m l).1/\tot (gV m l).1=tot l/\ao (gV m l).1<=m/\0<=(gV m l).2/\(gV m l).2<=4611686018427387904:=by
 have v:=h.m0;obtain⟨_,_,z,y,x⟩:=pW (m:=m) aa h.iJ h.pos
 refine⟨MR h.ok aa,z,y,x,?_⟩
 have:=(iV h.pos (ao l - m)).2;have:=h.sum;show D.tot (l.take (ao l - m))<=_
 omega
def Pj(z:100<=a)(y:a<=5000)(s:-9223372036854775808<v)(x:v<=9223372036854775807):-(ao (spans a):Int)<=nI a v/\nI a v<=(ao (spans a):Int):=by
 have u:=po z y x;have t:=po z y (v:=-v) aa
 unfold nI
 split
 ·omega
 ·split<;>omega
def CS(a:Nat)(l:List Pr)(v n:Int):Int:=if n=0 then 4 else if v=-9223372036854775808 then 5 else jm l (nI a v) n
def Al(a:Nat)(l:List Pr)(v n:Int):List Pr:=if CS a l v n=0 then hO (nI a v) n l else l
def CU(l t:List Pr):List Pr:=if iN l t=0 then hX l t else l
def Pk{n:Int}(h:iO a m l)(s:-9223372036854775808<=v)(t:v<=9223372036854775807)(u:0<=n):iO a m (Al a l v n):=by
 unfold Al
 split
 ·rename_i z
  unfold CS at z
  split at z
  ·omega
  ·split at z
   ·omega
   ·have x:=Pj h.a0 h.a1 (v:=v) aa t
    have y:=JO h.ok z u (by have:=h.len;omega)
    exact⟨h.a0,h.a1,h.m0,h.m1,y.iJ,y.pos,xl h.key x,y.tot⟩
 ·exact h
def MT{t:List Pr}(h:iO a m l)(z:iO a m t):iO a m (CU l t):=by
 unfold CU
 split
 ·rename_i y
  unfold iN at y
  split at y
  ·omega
  ·have e:=yx h.iJ z.iJ h.pos z.pos
   have k:=rz (B:=(ao (spans a):Int)) _ l t (aD _) h.key z.key;rw[e] at k;exact⟨h.a0,h.a1,h.m0,h.m1,lD h.iJ,kJ h.pos z.pos,k.2,by rw[mj];omega⟩
 ·exact h
def QE(b a:Nat)(H:Ft)(w:World):Prop:=∃v,gN w b 322 #[.int .i64 a,v]/\gO (z_ 324) 0 w v (spans a)/\H b/\(∀k,v.ownBlock=some k->H k)/\∀k,H k->k<w.heap.size
def mm(b a:Nat):lY (QE b a) where
 stay:=λ⟨v,x,u,z,y,t⟩ s r=>⟨v,(s b z).trans x,u.stay λk e=>s k (y k e),z,y,λk h=>aR (t k h) r⟩
 more:=λ⟨v,x,u,z,y,_⟩ h s=>⟨v,x,u,h b z,λk e=>h k (y k e),s⟩
 low:=λ⟨_,_,_,_,_,t⟩=>t
def QE.at_{H:Ft}(h:QE b a H w):uM 0 w b a:=by
 obtain⟨v,z,y,_⟩:=h;exact⟨bB _,v,z,y⟩
def Pm(h:uM w.heap.size w' b a):QE b a (Gr (λ_=>False) w w') w':=by
 obtain⟨x,v,z,y⟩:=h;exact⟨v,z,y.more (bB _),.inr ⟨x,z.lt⟩,λk e=>.inr (y.lt k e),λk h=>h.elim False.elim And.right⟩
def oR(d a m:Nat)(l:List Pr)(F:Ft)(w:World):Prop:=∃b c H G,gN w d 210 #[.pointer (some ⟨b,0,none⟩),.pointer (some ⟨c,0,none⟩)]/\QE b a H w/\tj c m (gV m l).1 (gV m l).2 G w/\F d/\(∀k,H k->F k)/\(∀k,G k->F k)/\¬G d/\(∀k,H k->¬G k)/\∀k,F k->k<w.heap.size
def m'(d a m:Nat)(l:List Pr):lY (oR d a m l) where
 stay:=λ⟨b,c,H,G,v,u,t,z,y,x,s,r,q⟩ p g=>⟨b,c,H,G,(p d z).trans v,(mm b a).stay u (λk e=>p k (y k e)) g,(kp _ _ _ _).stay t (λk e=>p k (x k e)) g,z,y,x,s,r,λk h=>aR (q k h) g⟩
 more:=λ⟨b,c,H,G,v,u,t,z,y,x,s,r,_⟩ h p=>⟨b,c,H,G,v,u,t,h d z,λk e=>h k (y k e),λk e=>h k (x k e),s,r,p⟩
 low:=λ⟨_,_,_,_,_,_,_,_,_,_,_,_,q⟩=>q
def tk(P:Ft->World->Prop)(F:Ft)(er:Int)(w:World)(e:Ending)(w':World):Prop:=e=.returned (.int .i64 er)/\P (Gr F w w') w'/\Touch F w w'
def kj{P:Ft->World->Prop}(S:lY P){F:Ft}{er:Int}{e:Ending}(h:P F w)(y:e=.returned (.int .i64 er))(z:aq w w'):tk P F er w e w':=
 ⟨y,S.more (S.keep h z) (λ_ h=>.inl h) (ke (S.low h) z.size),Touch.of_below z (aD _)⟩
def Pn(a m:Nat)(w:World)(g:100<=a)(t:a<=5000)(s:2<=m)(f:m<=4096) :
 ar Oe 268 #[.int .i64 a,.int .i64 m] w λe v=>∃d,e=.returned (.tuple #[.pointer (some ⟨d,0,none⟩),.int .i64 0])/\oR d a m [] (Gr (λ_=>False) w v) v/\aq w v:=by
 go_in
 go_wp2_with fail;refine(GH a w g t).mono ?_
 rintro e u ⟨b,rfl,z,d⟩;have X:=d.size;have y:=ay (Pm z);clear z
 go_wp2_with fail;refine(Pg m u s f).mono ?_
 rintro e z ⟨c,rfl,q,r⟩;have Y:=r.size;have x:=ay q;clear q
 go_wp2
 go_ret2
 have q:aq z (z.alloc (.cells #[.pointer (some ⟨b,0,none⟩),.pointer (some ⟨c,0,none⟩)] 210)):=bw;refine⟨_,rfl,⟨b,c,Gr (λ_=>False) w u,Gr (λ_=>False) u z,gN.new _ _ _,(mm b a).keep y.o (r.trans (q.mono Y)),?_,.inr ⟨by omega,ad⟩,λk h=>.inr ⟨(h.elim False.elim And.left),?_⟩,λk h=>.inr ⟨?_,?_⟩,?_,λk h p=>?_,λk h=>h.elim False.elim And.right⟩,bw⟩
 ·have:gV m []=([],0):=lF ad
  rw[this];exact(kp _ _ _ _).keep x.o q
 ·have:=(mm b a).low y.o k h;simp;omega
 ·have:=(h.elim False.elim And.left);omega
 ·have:=(kp _ _ _ _).low x.o k h;simp;omega
 ·intro h;have:=(kp _ _ _ _).low x.o _ h;omega
 ·have t:=(mm b a).low y.o k h
  have s:=(p.elim False.elim And.left);omega
section
variable {d a m : Nat} {l : List Pr} {F : Ft}
def sr(w:World)(h:oR d a m l F w):ar Oe 120 #[.pointer (some ⟨d,0,none⟩)] w λe x=>e=.returned (.int .i64 a)/\w=x:=by
 obtain⟨b,c,H,G,z,y,_⟩:=h;have C:=ay (MS w y.at_);have v:=z.k0;clear z y
 go_in
 go_wp2_with fail;refine(C.o).mono ?_
 rintro e x ⟨rfl,rfl⟩
 go_wp2
 go_ret;exact⟨rfl,rfl⟩
def pY(w:World)(h:oR d a m l F w):ar Oe 121 #[.pointer (some ⟨d,0,none⟩)] w λe y=>e=.returned (.int .i64 m)/\w=y:=by
 obtain⟨b,c,H,G,x,_,v,_⟩:=h;obtain⟨g,z⟩:=v.r;obtain⟨t,z,_⟩:=z;have C:Hid (ar Oe 194 #[.pointer (some ⟨c,0,none⟩)] w λe y=>e=.returned (.int .i64 m)/\w=y):=by
  have u:=z.k0;clear z v x;refine ay ?_
  go_in
  go_wp2
  go_ret;exact⟨rfl,rfl⟩
 have u:=x.k1;clear x z v
 go_in
 go_wp2_with fail;refine(C.o).mono ?_
 rintro e y ⟨rfl,rfl⟩
 go_wp2
 go_ret;exact⟨rfl,rfl⟩
def GN(w:World)(h:oR d a m l F w):ar Oe 198 #[.pointer (some ⟨d,0,none⟩)] w λe y=>e=.returned (.int .u64 (gV m l).2)/\w=y:=by
 obtain⟨b,c,H,G,x,_,v,_⟩:=h;obtain⟨g,z⟩:=v.r;obtain⟨t,z,_⟩:=z;have C:Hid (ar Oe 280 #[.pointer (some ⟨c,0,none⟩)] w λe y=>e=.returned (.int .u64 (gV m l).2)/\w=y):=by
  have u:=z.k2;clear z v x;refine ay ?_
  go_in
  go_wp2
  go_ret;exact⟨rfl,rfl⟩
 have u:=x.k1;clear x z v
 go_in
 go_wp2_with fail;refine(C.o).mono ?_
 rintro e y ⟨rfl,rfl⟩
 go_wp2
 go_ret;exact⟨rfl,rfl⟩
def Am(w:World)(h:oR d a m l F w)(ok:iO a m l):ar Oe 56 #[.pointer (some ⟨d,0,none⟩)] w λe z=>e=.returned (.int .u64 (tot l))/\w=z:=by
 obtain⟨b,c,H,G,y,_,x,_⟩:=h;obtain⟨g,r,v,u⟩:=x.r;have t:=ay (CO w u);rw[ok.cut.2.1] at t;have C:Hid (ar Oe 128 #[.pointer (some ⟨c,0,none⟩)] w λe z=>e=.returned (.int .u64 (tot l))/\w=z):=by
  have s:=v.k1;clear v x y u;refine ay ?_
  go_in
  go_wp2_with fail;refine(t.o).mono ?_
  rintro e z ⟨rfl,rfl⟩
  go_wp2
  go_ret;exact⟨rfl,rfl⟩
 have s:=y.k1;clear y v x u
 go_in
 go_wp2_with fail;refine(C.o).mono ?_
 rintro e z ⟨rfl,rfl⟩
 go_wp2
 go_ret;exact⟨rfl,rfl⟩
def JU(w:World)(h:oR d a m l F w)(ok:iO a m l):ar Oe 197 #[.pointer (some ⟨d,0,none⟩)] w λe z=>∃v,e=.returned v/\gO il w.heap.size z v (gV m l).1/\aq w z:=by
 obtain⟨b,c,H,G,y,_,x,_⟩:=h;obtain⟨g,Y,u,t⟩:=x.r;have r:=ay (xn w t ok.cut.1.len);have C:Hid (ar Oe 279 #[.pointer (some ⟨c,0,none⟩)] w λe z=>∃v,e=.returned v/\gO il w.heap.size z v (gV m l).1/\aq w z):=by
  have q:=u.k1;clear u x y t;refine ay ?_
  go_in
  go_wp2_with fail;refine(r.o).mono ?_
  rintro e f ⟨p,rfl,s,v⟩
  go_wp2
  go_ret;exact⟨_,rfl,s,v⟩
 have q:=y.k1;clear y u x t
 go_in
 go_wp2_with fail;refine(C.o).mono ?_
 rintro e f ⟨p,rfl,s,v⟩
 go_wp2
 go_ret;exact⟨_,rfl,s,v⟩
end
variable{F F2:Ft}{w w':World}{l l' l2:List Pr}{a d m y:Nat}
def xo{P:Ft->World->Prop}(S:lY P){er:Int}{w1:World}{e:Ending}(y:aq w w1)(x:∀k,F k->k<w.heap.size)(z:tk P F er w1 e w'):tk P F er w e w':=
 ⟨z.1,S.more z.2.1 (λk h=>h.imp id λh=>⟨bf y.size h.1,h.2⟩) (ke x (bf y.size z.2.2.size)),yE y z.2.2⟩
def GO(h:tot l=tot l')(k n:Int):jm l k n=jm l' k n:=by unfold jm;rw[h]
def CV{t t':List Pr}(h:tot l=tot l')(z:tot t=tot t'):iN l t=iN l' t':=by unfold iN;rw[h,z]
def E8{b c:Nat}{H G:Ft}(y:gN w d 210 #[.pointer (some ⟨b,0,none⟩),.pointer (some ⟨c,0,none⟩)])(s:QE b a H w)(q:F d)(p:∀k,H k->F k)(v:∀k,G k->F k)(u:¬G d)(t:∀k,H k->¬G k)(r:∀k,F k->k<w.heap.size)
 (g:tj c m (gV m l').1 (gV m l').2 (Gr G w w') w') (z:Touch G w w'):oR d a m l' (Gr F w w') w'/\Touch F w w':=
 ⟨⟨b,c,H,Gr G w w',(z.block d y.lt u).trans y,(mm b a).far s z t,g,.inl q,λk h=>.inl (p k h),λk h=>h.imp (v k) id,λh=>h.elim u (λh=>by have:=y.lt;omega),λk h x=>x.elim (t k h) (λx=>by have:=(mm b a).low s k h;omega),ke r z.size⟩,z.mono v⟩
def Po(v n:Int)(w:World)(h:oR d a m l F w)(ok:iO a m l)(v0:-9223372036854775808<=v)(v1:v<=9223372036854775807)(i:0<=n)(n1:n<18446744073709551616) :
 ar Oe 131 #[.pointer (some ⟨d,0,none⟩),.int .i64 v,.int .u64 n] w (tk (oR d a m (Al a l v n)) F (CS a l v n) w):=by
 have S:=ay h;obtain⟨b,c,H,G,u,x,R,q,Y,g,f,V,r⟩:=h;obtain⟨k0,W⟩:=u.c2;have o:=u.lt;have X:=ay (aF u (aF x (aF R (aF q (aF Y (aF g (aF f (aF V r))))))));clear u R q Y g f V r
 by_cases Q:n=0
 ·have z:CS a l v n=4:=aH Q
  have s:Al a l v n=l:=by unfold Al;rw[z];rfl
  rw[z,s];clear z s x
  go_in
  go_wp2
  go_ret;exact kj (m' d a m l) S.o rfl (aC _ _)
 ·by_cases M:v=-9223372036854775808
  ·subst M
   have z:CS a l (-9223372036854775808) n=5:=by unfold CS;rw[aG Q,aH rfl]
   have s:Al a l (-9223372036854775808) n=l:=by unfold Al;rw[z];rfl
   rw[z,s];have T:=ay (E7 w x.at_);clear z s x
   go_in
   go_wp2_with fail;refine(T.o).mono ?_
   rintro e t ⟨rfl,y⟩
   go_wp2
   go_ret;exact kj (m' d a m l) S.o rfl y
  ·have z:CS a l v n=jm l (nI a v) n:=by unfold CS;rw[aG Q,aG M]
   have K:Hid (Al a l v n=if jm l (nI a v) n=0 then hO (nI a v) n l else l):=ay (by unfold Al;rw[z])
   rw[z];have T:=ay (E6 v w x.at_ ok.a0 ok.a1 aa v1)
   obtain⟨p,U,O,N,L⟩:=ok.cut;have J:=ay (JF (m:=m) (by have:=ok.m0;omega) ok.iJ ok.pos (nI a v) n aa)
   have P:Hid (∀t,aq w t->_):=ay (λt I=>JR (k:=nI a v) (n:=n) t ((kp _ _ _ _).keep X.o.2.2.1 I) p O ok.m0 ok.m1 N L i n1)
   rw[GO U] at P;generalize nI a v=k at *;generalize jm l k n=I at *;clear x z p U O N L
   go_in
   go_wp2_with fail;refine(T.o).mono ?_
   rintro e t ⟨rfl,y⟩;have WV:=(y.cell (p:=⟨d,1,none⟩) o).trans W
   go_wp2_with fail;refine(P.o t y).mono ?_
   intro e w' N;have L:=ay N;obtain⟨rfl,_⟩:=N
   go_wp2
   go_ret;obtain⟨_,E,D⟩:=L.o;obtain⟨u,x,R,q,Y,g,f,V,r⟩:=X.o;rw[K.o]
   by_cases U:I=0
   ·rw[aH U]
    obtain⟨O,C⟩:=E U;rw[J.o] at O;have j:=(mm b a).keep x y;obtain⟨B,A⟩:=E8 (u.keep y) j q Y g f V (λk h=>aR (r k h) y.size) O C
    exact xo (m' d a m _) y r ⟨rfl,B,A⟩
   ·rw[aG U]
    exact kj (m' d a m l) S.o rfl (y.trans ((D U).mono y.size))
def MU{d2:Nat}(w:World)(h:oR d a m l F w)(r:oR d2 a m l2 F2 w)(ok:iO a m l)(s:iO a m l2)(y:(∀k,F2 k->¬F k)\/d2=d) :
 ar Oe 104 #[.pointer (some ⟨d,0,none⟩),.pointer (some ⟨d2,0,none⟩)] w (tk (oR d a m (CU l l2)) F (iN l l2) w):=by
 have n:=ay h;have A:=ay (sr w h);have j:=ay (sr w r);obtain⟨b,c,H,G,z,Y,R,p,g,v,t,f,u⟩:=h;obtain⟨b2,x,H2,G2,q,_,V,Q,_,P,_⟩:=r;have O:¬G x\/x=c:=by
  rcases y with y|rfl
  ·left
   obtain⟨_,_,_,_,X,_⟩:=V;exact λh=>y x (P x X) (v x h)
  ·right
   have e:=z.cell 1;rw[q.cell 1] at e
   simpa using e
 obtain⟨N,M,L,J,I⟩:=ok.cut;obtain⟨E,D,p3,C,B⟩:=s.cut;have S:Hid (∀X,aq w X->_):=ay (λX U=>GL X ((kp _ _ _ _).keep R U) (V.r.keep U) N E L (by have:=s.m1;omega) ok.m0 ok.m1 J I C B O ok.m1)
 rw[aH rfl,CV M D] at S;have W:=ay (zZ (m:=m) (by have:=ok.m0;omega) ok.iJ ok.pos s.iJ s.pos)
 have U:=z.k1;have T:=q.k1;have k:=z.lt;have Tf:=q.lt;have i:¬G d2:=λh=>by
  rcases y with y|rfl
  ·exact y d2 Q (v d2 h)
  ·exact t h
 have o:Hid (CU l l2=if iN l l2=0 then hX l l2 else l):=ay rfl
 have X:=ay (aF z (aF Y (aF p (aF g (aF v (aF t (aF f u)))))));have K:=ay (aF U T);clear z Y R q V p g v u f ok s N M L J I E D p3 C B y O U T Q P;generalize iN l l2=T at *;have U:Hid (w.cell? ⟨d,1,none⟩=some (.pointer (some ⟨c,0,none⟩))/\w.cell? ⟨d2,1,none⟩=some (.pointer (some ⟨x,0,none⟩))):=K;clear K
 go_in
 go_wp2_with fail;refine(j.o).mono ?_
 rintro e V ⟨rfl,rfl⟩
 go_wp2_with fail;refine(A.o).mono ?_
 rintro e V ⟨rfl,rfl⟩
 go_wp2_with fail;have Z:=ay (λ(V:World) (y:(Touch G w) V)=>(aF ((ik y 1 k t).trans U.o.1) ((ik y 1 Tf i).trans U.o.2)))
 refine i' (Touch G w) (gW 0 8 (ib 8 (gW 9 1 []))) ((Touch.refl _ _).drew) ?_
 iterate 8 refine hC ?_
 refine iy λK Q=>?_
 go_simp;refine(S.o w.drew (aC _ _).drew).mono ?_
 intro e I q;have P:=ay q;have O:Touch G w I:=(by by_cases y:T=0;exact yE (aC _ _).drew ((q.2.1 y).2);exact Touch.of_below ((aC _ _).drew.trans (q.2.2 y)) (aD _))
 obtain⟨rfl,_⟩:=q;refine Q _ _ (O) ?_
 clear Q K;refine hC ?_
 refine gM ?_
 go_wp2
 go_ret;obtain⟨_,N,r⟩:=P.o;obtain⟨z,Y,p,g,v,t,f,u⟩:=X.o;rw[o.o];have s:aq w w.drew:=(aC _ _).drew
 by_cases y:T=0
 ·rw[aH y]
  obtain⟨R,M⟩:=N y;rw[show kZ m ((gV m l).1,(gV m l).2) ((gV m l2).1,(gV m l2).2) (hX (gV m l).1 (gV m l2).1)=gV m (hX l l2) from W.o] at R
  obtain⟨L,J⟩:=E8 (z.keep s) ((mm b a).keep Y s) p g v t f u R M;exact xo (m' d a m _) s u ⟨rfl,L,J⟩
 ·rw[aG y]
  exact kj (m' d a m l) n.o rfl (s.trans (r y))
def rA(y a m:Nat)(l:List Pr)(F:Ft)(w:World):Prop:=∃rv v,gN w y 131 #[rv,.int .i64 a,.int .i64 m,v]/\gO (z_ 154) 0 w rv (spans a)/\gO il 0 w v l/\F y/\(∀k,rv.ownBlock=some k->F k)/\(∀k,v.ownBlock=some k->F k)/\∀k,F k->k<w.heap.size
def uQ(y a m:Nat)(l:List Pr):lY (rA y a m l) where
 stay:=λ⟨g,v,t,s,r,z,x,u,q⟩ p f=>⟨g,v,(p y z).trans t,s.stay λk e=>p k (x k e),r.stay λk e=>p k (u k e),z,x,u,λk h=>aR (q k h) f⟩
 more:=λ⟨g,v,t,s,r,z,x,u,_⟩ h p=>⟨g,v,t,s,r,h y z,λk e=>h k (x k e),λk e=>h k (u k e),p⟩
 low:=λ⟨_,_,_,_,_,_,_,_,q⟩=>q
def MV(a m:Nat)(w:World)(t:100<=a)(s:a<=5000)(q:2<=m)(p:m<=4096) :
 ar Oe 48 #[.int .i64 a,.int .i64 m] w λe x=>∃y,e=.returned (.pointer (some ⟨y,0,none⟩))/\rA y a m [] (Gr (λ_=>False) w x) x/\aq w x:=by
 go_in
 go_wp2_with fail;refine(jx a w t s).mono ?_
 rintro e u ⟨v,rfl,y,r⟩;have g:=r.size;have z:=ay y;obtain⟨A,c,rfl,_,_,_⟩:=y.form;clear y
 go_wp2
 go_ret;have y:aq u (u.alloc (.cells #[.slice A (ao (spans a)) c,.int .i64 a,.int .i64 m,.slice none 0 0] 131)):=bw;exact⟨_,rfl,⟨_,.slice none 0 0,gN.new _ _ _,(z.o.keep y).more (bB _),gO.nil_ _ _,.inr ⟨by omega,ad⟩,λk e=>.inr ⟨(z.o.lt k e).1,by have:=(z.o.lt k e).2;simp;omega⟩,(λk e=>by cases e),λk h=>h.elim False.elim And.right⟩,bw⟩
def An{w2:World}{rv v v':Value}(x:gN w y 131 #[rv,.int .i64 a,.int .i64 m,v])(s:gO (z_ 154) 0 w rv (spans a))(t:F y)(d:∀k,rv.ownBlock=some k->F k)(q:∀k,F k->k<w.heap.size)
 (z:aq w w2) (u:gO il 0 w2 v' l') (c:∀k,v'.ownBlock=some k->F k\/w.heap.size<=k):rA y a m l' (Gr F w (w2.setCell ⟨y,3,none⟩ v')) (w2.setCell ⟨y,3,none⟩ v')/\Touch F w (w2.setCell ⟨y,3,none⟩ v'):=by
 have g:=own_ne x s ab
 have f:=own_ne (x.keep z) u ab
 have r:Touch F w (w2.setCell ⟨y,3,none⟩ v'):=(Touch.of_below (F:=F) z (aD _)).setCell (p:=⟨y,3,none⟩) (.inl t) v';refine⟨⟨rv,v',(x.keep z).gR 3 v',(s.keep z).far g _,u.far f _,.inl t,λk e=>.inl (d k e),λk e=>(c k e).imp id λh=>⟨h,?_⟩,ke q r.size⟩,r⟩
 have:=u.lt k e
 simpa using this.2
def MW(v n:Int)(w:World)(h:rA y a m l F w)(ok:iO a m l)(v0:-9223372036854775808<=v)(v1:v<=9223372036854775807)(n0:0<=n)(n1:n<18446744073709551616) :
 ar Oe 92 #[.pointer (some ⟨y,0,none⟩),.int .i64 v,.int .u64 n] w (tk (rA y a m (Al a l v n)) F (CS a l v n) w):=by
 have P:=ay h
 by_cases U:n=0
 ·have z:CS a l v n=4:=aH U
  have q:Al a l v n=l:=by unfold Al;rw[z];rfl
  rw[z,q];clear z q h;subst U
  go_in
  go_wp2
  go_ret;exact kj (uQ y a m l) P.o rfl (aC _ _)
 ·by_cases H:v=-9223372036854775808
  ·subst H
   have z:CS a l (-9223372036854775808) n=5:=by unfold CS;rw[aG U,aH rfl]
   have q:Al a l (-9223372036854775808) n=l:=by unfold Al;rw[z];rfl
   rw[z,q];clear z q h
   go_in
   go_wp2
   go_ret;exact kj (uQ y a m l) P.o rfl (aC _ _)
  ·have z:CS a l v n=jm l (nI a v) n:=by unfold CS;rw[aG U,aG H]
   have d:Hid (Al a l v n=if jm l (nI a v) n=0 then hO (nI a v) n l else l):=ay (by unfold Al;rw[z])
   rw[z];obtain⟨rv,u,s,r,f,V,T,R,Y⟩:=h;have C:Hid (∀t,aq w t->_):=ay (λt x=>Ak rv v t ((r.keep x).rd) ok.a0 ok.a1 aa v1)
   have D:Hid (∀t,aq w t->_):=ay (λt x=>CR u (nI a v) n l t ((f.keep x).rd) ok.pos n0 n1 ok.sum (by have:=ok.len;omega))
   have g:=s.k0;have b:=s.k3;have G:=s.lt;have X:=ay (aF s (aF r (aF f (aF V (aF T (aF R Y))))));obtain⟨A,c,rfl,_,_,_⟩:=f.form;obtain⟨A1,c1,rfl,_,_,_⟩:=r.form;clear s r f V T R Y z;generalize nI a v=k at *;generalize jm l k n=M at *;rw[d.o];obtain⟨o,p⟩:∃x,(if M=0 then hO k n l else l)=x:=⟨_,rfl⟩
   rw[p];have B:=ay p;clear p d;have N:=ay (aF g b);clear g b
   go_in
   go_wp2_with fail;have Z:=ay (λ(p:World) (x:(aq w) p)=>(aF ((x.cell (p:=⟨y,0,none⟩) G).trans N.o.1) ((x.cell (p:=⟨y,3,none⟩) G).trans N.o.2)))
   refine i' (aq w) (gW 0 9 (gW 10 1 (ib 9 (ib 11 (gW 12 5 []))))) ((aC _ _).drew) ?_
   iterate 10 refine hC ?_
   refine iy λK g=>?_
   go_simp;refine(C.o w.drew (aC _ _).drew).mono ?_
   rintro e t ⟨rfl,rfl⟩;refine g _ _ ((aC _ _).drew) ?_
   clear g K;refine iy λK g=>?_
   go_simp;refine(D.o w.drew (aC _ _).drew).mono ?_
   intro e E I;have O:=ay I;obtain⟨Q,rfl,_,_,i⟩:=I;have x:aq w E:=(aC _ _).drew.trans i;refine g _ _ (x) ?_
   clear g K
   iterate 5 refine hC ?_
   refine gM ?_
   have S:Hid (gO il 0 E Q o/\∀j,Q.ownBlock=some j->F j\/w.heap.size<=j):=ay (by
    rw[<-B.o];obtain⟨WW,J,L,W,_⟩:=O.o;simp only[dE,Value.tuple.injEq] at J;have:Q=WW:=by simpa using J
    subst this
    by_cases d:M=0
    ·rw[aH d]
     exact⟨(L d).more (bB _),λj e=>.inr ((L d).lt j e).1⟩
    ·rw[aG d]
     obtain rfl:=W d;exact⟨X.o.2.2.1.keep x,λj e=>.inl (X.o.2.2.2.2.2.1 j e)⟩)
   have b:=(X.o.1.keep x).k3;have J:=(X.o.1.keep x).frozen 3;obtain⟨d,L,rfl,_,_,_⟩:=S.o.1.form;clear O
   go_wp2
   go_ret;obtain⟨s,r,f,V,T,R,Y⟩:=X.o;exact⟨rfl,An s r V T Y x S.o.1 S.o.2⟩
def JV{y2:Nat}(w:World)(h:rA y a m l F w)(r:rA y2 a m l2 F2 w)(ok:iO a m l)(t:iO a m l2) :
 ar Oe 50 #[.pointer (some ⟨y,0,none⟩),.pointer (some ⟨y2,0,none⟩)] w (tk (rA y a m (CU l l2)) F (iN l l2) w):=by
 have Y:Hid (CU l l2=if iN l l2=0 then hX l l2 else l):=ay rfl
 obtain⟨n,u,z,f,v,g,b,V,q⟩:=h;obtain⟨W,u2,x,_,p,_,_,_,_⟩:=r;have L:Hid (∀s,aq w s->_):=ay (λs d=>Ai u u2 l l2 s ((v.keep d).rd) ((p.keep d).rd) ok.pos t.pos ok.sum t.sum (by have:=ok.len;have:=t.len;omega))
 have P:=z.k1;have O:=z.k2;have s:=z.k3;have T:=x.k1;have Q:=x.k2;have d:=x.k3;have E:=z.lt;have D:=x.lt;have U:l2=[]->hX l l2=l:=λh=>by rw[h];exact om _
 have X:=ay (aF z (aF f (aF v (aF g (aF b (aF V q))))));obtain⟨A,c,rfl,_,_,_⟩:=v.form;obtain⟨B,o,rfl,_,_,_⟩:=p.form;clear z f v g b V q x p ok t;have J:=ay U;clear U;generalize iN l l2=R at *;rw[Y.o];obtain⟨H,t⟩:∃x,(if R=0 then hX l l2 else l)=x:=⟨_,rfl⟩
 rw[t];have I:=ay t;clear t Y;have S:=ay (aF s d)
 go_in
 go_upto_region 1 with fail
 go_quiet (fail)
 clear P O s T Q d
 go_wp2_with fail;have Z:=ay (λ(t:World) (x:(aq w) t)=>(aF ((x.cell (p:=⟨y,3,none⟩) E).trans S.o.1) ((x.cell (p:=⟨y2,3,none⟩) D).trans S.o.2)))
 refine i' (aq w) (gW 0 8 (ib 8 (gW 9 5 []))) ((below_drewN (aC _ _) nq).drew) ?_
 iterate 8 refine hC ?_
 refine iy λK P=>?_
 go_simp;refine(L.o _ (below_drewN (aC _ _) nq).drew).mono ?_
 intro e M N;have T:=ay N;obtain⟨U,rfl,_,_,G⟩:=N;have x:aq w M:=(below_drewN (aC _ _) nq).drew.trans G;refine P _ _ (x) ?_
 clear P K
 iterate 5 refine hC ?_
 refine gM ?_
 have Y:Hid (gO il 0 M U H/\∀j,U.ownBlock=some j->F j\/w.heap.size<=j):=ay (by
  rw[<-I.o];obtain⟨C,O,Q,r,_⟩:=T.o;simp only[dE,Value.tuple.injEq] at O;have:U=C:=by simpa using O
  subst this
  by_cases t:R=0
  ·rw[aH t]
   by_cases d:l2=[]
   ·obtain rfl:=r (.inr d)
    rw[J.o d];exact⟨X.o.2.2.1.keep x,λj e=>.inl (X.o.2.2.2.2.2.1 j e)⟩
   ·exact⟨(Q t d).more (bB _),λj e=>.inr ((Q t d).lt j e).1⟩
  ·rw[aG t]
   obtain rfl:=r (.inl t);exact⟨X.o.2.2.1.keep x,λj e=>.inl (X.o.2.2.2.2.2.1 j e)⟩)
 have s:=(X.o.1.keep x).k3;have Q:=(X.o.1.keep x).frozen 3;obtain⟨t,d,rfl,_,_,_⟩:=Y.o.1.form;clear T
 go_wp2
 go_ret;obtain⟨z,f,v,g,b,V,q⟩:=X.o;exact⟨rfl,An z f g b q x Y.o.1 Y.o.2⟩
def GP{B n:Int}(h:∀p∈l,-B<=p.1/\p.1<=B):∀p∈bump n l,-B<=p.1/\p.1<=B:=by
 cases l with
 | nil=>exact h
 | cons q l=>
  intro p z
  rcases aS.1 z with rfl|z
  ·exact h q (aK ..)
  ·exact h p (aP _ z)
def iO.JW(h:iO a m l):∀p∈(gV m l).1,-(ao (spans a):Int)<=p.1/\p.1<=(ao (spans a):Int):=
 GP (λp z=>h.key p (cu z))
def Ao(w:World):ar Oe 275 #[.string ⟨#[118,118,118,118]⟩] w (aw w (.bool true)):=by
 have y:=λw=>ay (jZ 7 118 w Gp)
 go_in
 go_wp2
 go_loopg [11] 4 (λq i wr=>∃j:Nat,q=4 - j/\j<=4/\i=.int .i64 j/\aq w wr)
 exact⟨0,rfl,aa,rfl,aC _ _⟩
 case round=>
  obtain⟨j,z,r,rfl,t⟩:=hrel;have x:=ay z;have q:=t.size;clear z
  rcases(show j=0\/j=1\/j=2\/j=3\/j=4 by omega) with rfl|rfl|rfl|rfl|rfl
  ·go_wp2_with (go_at_call 276;refine((y _).o).mono ?_;rintro e u ⟨rfl,z⟩;have v:=z.size)
   go_roundg 3
   exact⟨1,rfl,aa,ag,bw⟩
   have:=x.o;omega
  ·go_wp2_with (go_at_call 276;refine((y _).o).mono ?_;rintro e u ⟨rfl,z⟩;have v:=z.size)
   go_roundg 2
   exact⟨2,rfl,aa,ag,bw⟩
   have:=x.o;omega
  ·go_wp2_with (go_at_call 276;refine((y _).o).mono ?_;rintro e u ⟨rfl,z⟩;have v:=z.size)
   go_roundg 1
   exact⟨3,rfl,aa,ag,bw⟩
   have:=x.o;omega
  ·go_wp2_with (go_at_call 276;refine((y _).o).mono ?_;rintro e u ⟨rfl,z⟩;have v:=z.size)
   go_roundg 0
   exact⟨4,rfl,aa,ag,bw⟩
   have:=x.o;omega
  ·go_wp2
   go_ret;exact⟨rfl,t⟩
def ju(a b c d:Int):Nat->List Int
 | 0=>[]
 | 1=>hZ a
 | 2=>hZ a++hZ b
 | 3=>hZ a++hZ b++hZ c
 | _=>hZ a++hZ b++hZ c++hZ d
def xp(a b c d:Int)(j:Nat):ao (ju a b c d j)<=40:=by
 have z:=gS a;have y:=gS b;have x:=gS c;have v:=gS d
 match j with
 | 0=>simp[ju]
 | 1=>simp only[ju];omega
 | 2=>simp only[ju,aE];omega
 | 3=>simp only[ju,aE];omega
 | n+4=>simp only[ju,aE];omega
def GQ(a b c d:Int)(v:Value)(w:World)(p:jf .u64 w v [a,b,c,d])(l:0<=a)(m:a<18446744073709551616)(o:0<=b)(k:b<18446744073709551616)(R:0<=c)(c1:c<18446744073709551616)(d0:0<=d)(d1:d<18446744073709551616) :
 ar Oe 195 #[.string ⟨#[118,118,118,118]⟩,v] w λe I=>∃v,e=.returned (.tuple #[v,.int .i64 0])/\OwnB w.heap.size I v (ju a b c d 4)/\aq w I:=by
 obtain⟨AA,cn,rfl,hn,hc,z⟩:=p.form;obtain⟨V,T,rfl,U,y⟩:=z.at_ (j:=0) (by simp)
 obtain⟨K,J,x,_,u⟩:=z.at_ (j:=1) (by simp)
 simp only[aW,bY,and_true] at x;obtain⟨rfl,rfl⟩:=x;obtain⟨K,J,x,_,t⟩:=z.at_ (j:=2) (by simp)
 simp only[aW,bY,and_true] at x;obtain⟨rfl,rfl⟩:=x;obtain⟨K,J,x,_,s⟩:=z.at_ (j:=3) (by simp)
 simp only[aW,bY,and_true] at x;obtain⟨rfl,rfl⟩:=x;simp only[aJ,aV,bn,bZ,bP] at hn y u t s |-;have H:=ay y;have G:=ay u;have F:=ay t;have E:=ay s;have r:=λw=>ay (jZ 7 118 w Gp)
 have f:=ay (λ(g:Nat) (n:Int) (bs:List Int) (W:World) h Y X q=>lL g w.heap.size n 0 bs W h Y X q)
 have eg:∀q w,(callFunc 405 q).run prog w=.ok (.enter 405 q) w:=λ_ _=>rfl
 have D:Hid (ju a b c d 0++hZ a=ju a b c d 1):=ay rfl;have C:Hid (ju a b c d 1++hZ b=ju a b c d 2):=ay rfl;have B:Hid (ju a b c d 2++hZ c=ju a b c d 3):=ay rfl;have A:Hid (ju a b c d 3++hZ d=ju a b c d 4):=ay rfl;have Y:=ay (xp a b c d);have q:mY 7=405:=rfl;rw[q] at r;clear p z q y u t s
 go_in
 go_wp2_with fail;refine(Ao w).mono ?_
 rintro e S ⟨rfl,n⟩;have h:=n.size
 go_wp2_with fail;obtain⟨g,z⟩:=au (S.heap.size);have L:=ay (Wr.new 373 S w.heap.size h);have W:aq w (S.alloc (.cells #[.slice none 0 0] 373)):=bw;rw[z] at L |-;generalize S.alloc (.cells #[.slice none 0 0] 373)=w2 at *;clear z
 go_loopg [25] 4 (λq i wr=>∃j:Nat,q=4 - j/\j<=4/\i=.int .i64 j/\Hid (Wr 373 w.heap.size wr g (ju a b c d j))/\aq w wr)
 exact⟨0,rfl,aa,rfl,L,W⟩
 case round=>
  obtain⟨j,z,i,rfl,q,s⟩:=hrel;have X:=ay z;have hz:=s.size;clear z
  rcases(show j=0\/j=1\/j=2\/j=3\/j=4 by omega) with rfl|rfl|rfl|rfl|rfl
  ·have Q:=(s.cell (p:=⟨V,T,none⟩) U).trans H.o
   go_wp2_with (first
    | (go_at_call 276;refine((r _).o).mono ?_;rintro e N ⟨rfl,y⟩;have P:=y.size)
    | (go_at_fn 405;refine((f.o g a (ju a b c d 0) _ ((q.o.keep y).keep ((aC _ _).alloc (aD _) _)) l m (by have:=Y.o 0;omega)).mono ?_);rintro e M ⟨rfl,z,t⟩;have O:=t.size;rw[D.o] at z;have u:=ay z;clear z))
   go_roundg 3
   exact⟨1,rfl,aa,ag,u,bw⟩
   have:=X.o;omega
  ·have Q:=(s.cell (p:=⟨V,T+1,none⟩) U).trans G.o
   go_wp2_with (first
    | (go_at_call 276;refine((r _).o).mono ?_;rintro e N ⟨rfl,y⟩;have P:=y.size)
    | (go_at_fn 405;refine((f.o g b (ju a b c d 1) _ ((q.o.keep y).keep ((aC _ _).alloc (aD _) _)) o k (by have:=Y.o 1;omega)).mono ?_);rintro e M ⟨rfl,z,t⟩;have O:=t.size;rw[C.o] at z;have u:=ay z;clear z))
   go_roundg 2
   exact⟨2,rfl,aa,ag,u,bw⟩
   have:=X.o;omega
  ·have Q:=(s.cell (p:=⟨V,T+2,none⟩) U).trans F.o
   go_wp2_with (first
    | (go_at_call 276;refine((r _).o).mono ?_;rintro e N ⟨rfl,y⟩;have P:=y.size)
    | (go_at_fn 405;refine((f.o g c (ju a b c d 2) _ ((q.o.keep y).keep ((aC _ _).alloc (aD _) _)) R c1 (by have:=Y.o 2;omega)).mono ?_);rintro e M ⟨rfl,z,t⟩;have O:=t.size;rw[B.o] at z;have u:=ay z;clear z))
   go_roundg 1
   exact⟨3,rfl,aa,ag,u,bw⟩
   have:=X.o;omega
  ·have Q:=(s.cell (p:=⟨V,T+3,none⟩) U).trans E.o
   go_wp2_with (first
    | (go_at_call 276;refine((r _).o).mono ?_;rintro e N ⟨rfl,y⟩;have P:=y.size)
    | (go_at_fn 405;refine((f.o g d (ju a b c d 3) _ ((q.o.keep y).keep ((aC _ _).alloc (aD _) _)) d0 d1 (by have:=Y.o 3;omega)).mono ?_);rintro e M ⟨rfl,z,t⟩;have O:=t.size;rw[A.o] at z;have u:=ay z;clear z))
   go_roundg 0
   exact⟨4,rfl,aa,ag,u,bw⟩
   have:=X.o;omega
  ·obtain⟨t,v,z,y⟩:=q.o
   have R:=z.k0;have u:=ay y;clear z y
   go_wp2
   go_ret2
   exact⟨v,rfl,u.o,s⟩
def nP(l:List Pr)(j:Nat):Pr:=l.getD j (0,0)
def QF(l:List Pr):Nat->List Int
 | 0=>zg (nP l 0).1
 | j+1=>hZ ((nP l (j+1)).1 - (nP l j).1 - 1)
def rB(l:List Pr):Nat->List Int
 | 0=>[]
 | j+1=>rB l j++QF l j++hZ (nP l j).2
def GR(a m:Nat)(l:List Pr)(f:Int):List Int:=ju a m (ao l) f 4++rB l (ao l)
def E9{j:Nat}(h:j<ao l):nP l j=l[j]:=by unfold nP;rw[fO,aQ h];rfl
def rC(l:List Pr)(j:Nat):ao (QF l j)<=10:=by
 cases j with
 | zero=>exact(gS _).2
 | succ j=>exact(gS _).2
def yH(l:List Pr):∀j,ao (rB l j)<=20 * j
 | 0=>by simp[rB]
 | j+1=>by
  have z:=yH l j;have y:=rC l j;have x:=gS (nP l j).2;simp only[rB,aE];omega
def Ap(c:UInt8)(m:Int)(u:List Int)(x:Nat)(z:Value)(bs:List Int)(w:World)(V:x<=w.heap.size)(t:OwnB x w z bs)(T:ao bs<=1000000000000)(S:ao u<=1000)
 (s:∀(v:Value) (w:World),jf .u64 w v [m]->ar Oe 195 #[.string ⟨#[c]⟩,v] w λe y=>∃v,e=.returned (.tuple #[v,.int .i64 0])/\OwnB w.heap.size y v u/\aq w y) :
 ar Oe 199 #[z,.string ⟨#[c]⟩,.int .u64 m] w λe y=>∃v,e=.returned v/\OwnB x y v (bs++u)/\Touch (λk=>z.ownBlock=some k) w y:=by
 have r:=ay t;have q:=ay s;clear t s
 go_in
 go_wp2_with fail;refine(q.o _ _ (jf.hJ _ _ _ _ _ rfl)).mono ?_
 rintro e Y ⟨b,rfl,t,U⟩;have p:=ay t;have v:aq w Y:=bw;have R:=v.size;clear t
 go_wp2_with (first
  | (at_builtin
     go_must (refine jO rfl (.tmp 16) (.tmp 17) rfl x z bs rfl (gT.keep r.o v) b u rfl (gT.rd p.o) aa  aa ?_)
     intro a X s t f;have d:Touch (λk=>z.ownBlock=some k) w X:=(Touch.of_below v (aD _)).grown t (λk e=>.inl e)
     have g:=ay s;clear s t f))
 go_ret;exact⟨a,rfl,g.o,d⟩
def ss(n:Int)(z:Nat)(y:Value)(bs:List Int)(w:World)(t:z<=w.heap.size)(u:OwnB z w y bs)(s:ao bs<=1000000000000)(q:0<=n)(p:n<18446744073709551616) :
 ar Oe 199 #[y,.string ⟨#[118]⟩,.int .u64 n] w λe x=>∃v,e=.returned v/\OwnB z x v (bs++hZ n)/\Touch (λk=>y.ownBlock=some k) w x:=
 Ap 118 n (hZ n) z y bs w t u s (by have:=gS n;omega) (λv w r=>uB n v w r q p)
def GS(x n:Int)(z:Nat)(y:Value)(bs:List Int)(w:World)(q:z<=w.heap.size)(r:OwnB z w y bs)(p:ao bs<=1000000000000)(g:n=ub x)(t:-9223372036854775808<=x)(s:x<=9223372036854775807) :
 ar Oe 199 #[y,.string ⟨#[122]⟩,.int .u64 n] w λe u=>∃v,e=.returned v/\OwnB z u v (bs++zg x)/\Touch (λk=>y.ownBlock=some k) w u:=by
 subst g;exact Ap 122 (ub x) (zg x) z y bs w q r p (by have:=gS (qs x);unfold zg;omega) (λv w f=>uC x v w f t s)
def uR(c n x:Int)(z:Nat)(u:Value)(bs:List Int)(w:World)(d:z<=w.heap.size)(y:OwnB z w u bs)(T:ao bs<=1000000000000)(t:(c=118/\x=n/\0<=n/\n<18446744073709551616)\/(c=122/\n=ub x/\-9223372036854775808<=x/\x<=9223372036854775807)) :
 ar Oe 253 #[u,.int .u8 c,.int .u64 n] w λe r=>∃v,e=.returned v/\OwnB z r v (bs++(if c=118 then hZ x else zg x))/\Below z w r:=by
 have v:=ay y;have q:=ay (rl c n x w t);have S:ao (if c=118 then hZ x else zg x)<=10:=by split;exact(gS _).2;exact(gS _).2
 generalize (if c=118 then hZ x else zg x)=Y at *
 clear y t
 go_in
 go_wp2_with fail;refine(q.o).mono ?_
 rintro e Q ⟨X,rfl,t,y⟩;have p:=ay t;have R:=y.size;clear t
 go_wp2_with (first
  | (at_builtin
     go_must (refine jO rfl (.tmp 15) (.tmp 16) rfl z u bs rfl (gT.keep v.o y) X Y rfl (gT.rd p.o) aa  aa ?_)
     intro V U s t f;have b:Below z w U:=(y.mono d).grown t aa (λk a=>(gT.lt v.o k a).1)
     have g:=ay s;clear s t f))
 go_ret;exact⟨V,rfl,g.o,b⟩
def mL(n:Int)(z:Nat)(y:Value)(bs:List Int)(w:World)(t:z<=w.heap.size)(u:OwnB z w y bs)(s:ao bs<=1000000000000)(r:0<=n)(q:n<18446744073709551616) :
 ar Oe 253 #[y,.int .u8 118,.int .u64 n] w λe x=>∃v,e=.returned v/\OwnB z x v (bs++hZ n)/\Below z w x:=by
 have h:=uR 118 n n z y bs w t u s (.inl ⟨rfl,rfl,r,q⟩)
 rwa [aH rfl] at h
def JX(x n:Int)(z:Nat)(y:Value)(bs:List Int)(w:World)(q:z<=w.heap.size)(r:OwnB z w y bs)(p:ao bs<=1000000000000)(g:n=ub x)(t:-9223372036854775808<=x)(s:x<=9223372036854775807) :
 ar Oe 253 #[y,.int .u8 122,.int .u64 n] w λe u=>∃v,e=.returned v/\OwnB z u v (bs++zg x)/\Below z w u:=by
 have h:=uR 122 n x z y bs w q r p (.inr ⟨rfl,g,t,s⟩)
 rwa [aG aa] at h
end D
end Go.Proofs.YtdicblkhpcphfaaGreat
