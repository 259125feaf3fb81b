/- Parts. -/
import Derived.Test.YtdicblkhpcphfaaGreatPU36
set_option maxRecDepth 100000
set_option maxHeartbeats 0
set_option linter.all false
namespace Go.Proofs.YtdicblkhpcphfaaGreat
open Tryz Go.RowKit Go.Lib Go.Shelf
open _root_.List renaming length→ab0
open Go.IntKind renaming wrap→ad0
open _root_.Go renaming Calls→af4
open Tryz renaming prog→af5
namespace D
def FD{sp:ie}{c:Js}(h:im sp c):mn sp sp.new c=0:=by
 have x:=xy h;cases sp with
 | h lo hi dg u m gr=>
  show Ct [] c.l=0
  unfold Ct;rw[aF];have:k_ (.h lo hi dg u m gr) c=tot c.l:=rfl;have z:tot ([]:List Pr)=0:=rfl;omega
 | d a m=>
  show i4 [] c.l=0
  unfold i4;rw[aF];have:k_ (.d a m) c=tot c.l:=rfl;have z:tot ([]:List Pr)=0:=rfl;omega
 | t d=>
  show iO St.zero c.s=0
  unfold iO;rw[aF];have y:=h.fit.t;have z:Go.Proofs.YtdicblkhpcphfaaGreat.tot (St.zero.L++St.zero.W)=0:=rfl;omega
 | k q=>
  show K.iO [] c.L=0
  unfold K.iO;rw[aF];have y:=h.fit.ok.JB;have z:K.wt []=0:=rfl;omega
def FO.M{o0 o1:Nat}{w:World}{cv:Value}{B:List Int}(h:FO o0 w cv B)(y:o0<=o1):FO o1 w cv B:=⟨h.rd,λk z e=>aG (h.own k z e) y⟩
def ie.form(z:ie):∃(t s u x y r:Int) (v:Bool),z.v=iB t s u x v y r/\z.cs=[.int .u8 t,af6 s,af6 u,af6 x,.bool v,af6 y,af6 r]:=by
 cases z<;>exact⟨_,_,_,_,_,_,_,rfl,rfl⟩
def Mg(kind a b:Nat)(v4:Value)(l:List zO)(W:World)(hk:kind<=255)(ha:a<=65535)(U:b<=65535)(hl:vy W.heap.size W v4 l)(d:∀o∈l,o.fits):af4 af5 4 #[.int .u8 kind,.int .u16 a,.int .u16 b,v4] W (au W (.bool true)):=by
 obtain⟨hz,A,c,rfl,hc1,hc2,f⟩:=hl;have HL:Hid (vy W.heap.size W (.slice A (ab0 l) c) l):=ax ⟨hz,A,c,rfl,hc1,hc2,f⟩;have HF:=ax d;have hsp:=Cp (kind:=kind) (a:=a) (b:=b) U;have x:=ax (λw=>zq kind a b w hk ha U);have⟨z,t⟩:=ar (zp kind a b);rw[t] at hsp x;obtain⟨y,u⟩:=hsp;have hN1:1<=3:=ab;have r:=ax (rE W);have p:=ax (λw (h:af3 W w)=>rG w (HL.o.K h));have s:=ax (λw=>tc y 3 w ab  ab);have CM:=ax (λw=>m_ w y);obtain⟨kd,lo,S,dg,ac,sz,gr,v,_⟩:=z.form;rw[v] at x s CM;unfold iB at x s CM;have Mk:=ax y;have Jj:=ax u;have hnil:=λ(w:World) (g:Nat)=>Go.Lib.run_eql_slice_nil (P:=prog) w 26 41 (some (af7 g 0)) 2 2 0 0 underlying26;clear f d t y u v;go_in;go_wp21;refine RX r.o ?_;intro w1 y;have u:=ax y;clear y r;go_wp21;refine(p.o w1 u.o).M ?_;rintro e w2 ⟨⟨g,rfl,M⟩,y⟩;have v:Hid (af3 W w2):=ax (u.o.T (y.M u.o.size));have HG:=ax M;clear y M p;cases g with
 | true=>
  go_wp2;refine ak ?_;exact⟨rfl,v.o⟩
 | false=>
 go_wp21;refine RX (x.o w2) ?_
 intro G y;have p:Hid (af3 W G):=ax (v.o.T (y.M v.o.size));clear y x;go_upto_region 6 with fail;have⟨T,d⟩:=ar (G.alloc (.cells #[.int .u8 kd,af6 lo,af6 S,af6 dg,.bool gr,af6 ac,af6 sz] 33));have y:=g7.new G 33 #[.int .u8 kd,af6 lo,af6 S,af6 dg,.bool gr,af6 ac,af6 sz];have x:af3 G (G.alloc (.cells #[.int .u8 kd,af6 lo,af6 S,af6 dg,.bool gr,af6 ac,af6 sz] 33)):=(aC _ _).alloc (aD _) _;rw[d] at y x |-;have⟨f,r⟩:=ar (G.heap.size);have t:Hid (af3 W T):=ax (p.o.T (x.M p.o.size));rw[r] at y |-;have I:=y.lt;obtain⟨f0,f1,f2,f3,f4,f5,f6⟩:=y.c7;have J:=ax (aB f0 (aB f1 (aB f2 (aB f3 (aB f4 (aB f5 f6))))));clear d r x y
 go_wp21;refine(s.o T).M ?_
 rintro e w4 ⟨X,Y,Ow,wb,E,rfl,x,y⟩;have d:Hid (pU T z 3 (kI z l (λ_=>jM z 3) 0) X Y wb E w4):=ax ⟨⟨Ow,x⟩,y⟩;clear x y s u v p f0 f1 f2 f3 f4 f5 f6;go_upto_block 0 with fail
 go_cut [12] (λ_ y=>∃i:Nat,i<=ab0 l/\Hid (pU T z 3 (kI z l (λ_=>jM z 3) i) X Y wb E y))
 case first=>
  go_wp2;go_loopg [12] (ab0 l) (λq y wr=>∃i:Nat,q=ab0 l - i/\i<=ab0 l/\i<=25/\y=af6 (i:Int)/\Hid (pU T z 3 (kI z l (λ_=>jM z 3) i) X Y wb E wr))
  exact⟨0,aa,aa,aa,rfl,d⟩
  case round=>
   obtain⟨i,m,S,hi2,rfl,V⟩:=hrel;have k:=ax m;clear m d;by_cases j:i<ab0 l/\i<25
   .obtain⟨u,h25⟩:=j
    have L:(i:Int)<(ab0 l:Int):=aa;have B:(i:Int)<25:=aa;obtain⟨g,x,cv,rfl,M,N,n,O,Q,c3,R⟩:=HL.o.act u;have r:Hid (kI z l (λ_=>jM z 3) (i+1)=Pm z l[i] (kI z l (λ_=>jM z 3) i)):=ax (by
     rw[kI,aT,aL u,br])
    have s:=ax (λv (y:pU T z 3 (kI z l (λ_=>jM z 3) i) X Y wb E v)=>y.act l[i] Mk.o Jj.o hN1 (HF.o _ (aP u)) ((N.K (aD _) (t.o.T (y.below.M t.o.size))).M t.o.size) (HG.o (by first|rfl|trivial) i aa u));rw[<-r.o] at s;have C:=((t.o.T (V.o.below.M t.o.size)).C (p:=af7 g (x+i * 5)) M).T n;have D:=((t.o.T (V.o.below.M t.o.size)).C (p:=af7 g (x+i * 5+1)) M).T O;have F:=((t.o.T (V.o.below.M t.o.size)).C (p:=af7 g (x+i * 5+2)) M).T Q;have H:=((t.o.T (V.o.below.M t.o.size)).C (p:=af7 g (x+i * 5+3)) M).T c3;have K:=((t.o.T (V.o.below.M t.o.size)).C (p:=af7 g (x+i * 5+4)) M).T R;clear n O Q c3 R N r;generalize l[i].kd=okd at *;generalize l[i].who=N at *;generalize l[i].v=O at *;generalize l[i].n=Q at *;go_wp21;refine RX (s.o _ V.o) ?_;intro r y;have R:=ax y;clear y s C D F H K V;go_wp2;go_roundg (ab0 l - (i+1))
    exact⟨i+1,rfl,aa,aa,af,R⟩;have:=k.o;omega
   .by_cases u:i<ab0 l
    .have L:(i:Int)<(ab0 l:Int):=aa
     have B:¬((i:Int)<25):=aa;go_wp21
     go_meet
     exact⟨i,S,V⟩
    .have L:¬((i:Int)<(ab0 l:Int)):=aa
     go_wp21
     go_meet
     exact⟨i,S,V⟩
 case rest=>
 obtain⟨i,S,V⟩:=hcut;clear d;obtain⟨⟨Ow2,d⟩,j⟩:=V.o;obtain⟨_,_,O,p0,q0,lw,lv⟩:=V.o.win (i:=0) ab;have⟨s,hse⟩:=ar (kI z l (λ_=>jM z 3) i 0);have hw0:=d.win 0 ab;have hr0:=d.ref 0 ab;rw[hse] at hw0 hr0 O;obtain⟨a0,C,vv,ps,Oq,G1,N,D,hx1,hg1,hlt1⟩:=hw0;obtain⟨uu,rs,Or,G3,y,hx3,hg3,hlt3⟩:=hr0;have L:ab0 s.L=3:=O.len;have hCs:ab0 C=3:=by rw[<-L,D,iw]
 have F:wc.cell? (af7 (Y 0) 7)=some uu:=y.c7;obtain⟨g3,c3,rfl,lg3,_,_,_,_,Fw⟩:=y.ring.pos y.pos;have y0:wc.cell? (af7 g3 0)=_:=Fw 0 aa;rw[L] at F;have ly:=y.blk.lt;have NQ:=ax y;have Q:=ax (aB p0 (aB q0 (aB F y0)));have x:im z (s.L.getD 0 z.new):=O.at_ aa;have hov:kX z [] s.L 1 z.new 0=((jb z [] (s.L.getD 0 z.new) z.new 0).1,(jb z [] (s.L.getD 0 z.new) z.new 0).2,0):=by
  have u:s.L.getD 0 z.new=s.L[0]:=by rw[aT,aL aa,br]
  rw[show(1:Nat)=0+1 from rfl,qC z [] aa,<-u,aH (FD x),qB]
 have u:=ax (Fz (cq:=.pointer none) (B:=[]) (a:=0) (H:=λ_=>False) Mk.o 1 wc N D O.each (aD 1) aa (iT.nil_ wc) (λ_ _ _=>rfl) (λk e=>e.elim));rw[hov] at u;have HE0:=ax (FD x);have zI:=ax (Be (B:=[]) (a:=0) (pf Mk.o) x);rw[HE0.o,aH rfl,zx,gF] at zI;have Q6:=ax (qq (B:=[]) (a:=0) (pf Mk.o) x);have Ww:=ax x;have HJ0:=ax (λv (U:af3 wc v)=>(NQ.o.K U).js (i:=0) (by rw[L];decide));have Om:=ax (λk (e:Or 0 k)=>y.ring.low k (y.ring.qu _ _ e));have⟨n,K⟩:=ar (s.L.getD 0 z.new);rw[K] at u HE0 zI Q6 Ww HJ0;have⟨X1,R⟩:=ar ((jb z [] n z.new 0).1);have HXE:=ax R;rw[R] at u zI Q6;have UK:=j.size;have UL:Hid (af3 T wc):=ax j;clear d O p0 q0 N D hx1 hg1 hlt1 y hx3 hg3 hlt3 L hCs F y0 j hse S hov x K R Fw;have S:=Q.o.1;go_wp21;refine(u.o).M ?_;intro e r ho;unfold uF at ho;rw[aH rfl] at ho;obtain⟨⟨y1,rfl,d⟩,_,x⟩:=ho;have L:Hid (af3 wc r):=ax (x.below (λj y=>y.elim) (aD _));have J1:=ax d;clear d x u S;have S:Hid (af3 T r):=ax (UL.o.T (L.o.M UK));have f0:r.cell? (af7 f 0)=_:=(S.o.C (p:=af7 f 0) I).T J.o.1;have f1:r.cell? (af7 f 1)=_:=(S.o.C (p:=af7 f 1) I).T J.o.2.1;have f2:r.cell? (af7 f 2)=_:=(S.o.C (p:=af7 f 2) I).T J.o.2.2.1;have f3:r.cell? (af7 f 3)=_:=(S.o.C (p:=af7 f 3) I).T J.o.2.2.2.1;have f4:r.cell? (af7 f 4)=_:=(S.o.C (p:=af7 f 4) I).T J.o.2.2.2.2.1;have f5:r.cell? (af7 f 5)=_:=(S.o.C (p:=af7 f 5) I).T J.o.2.2.2.2.2.1;have f6:r.cell? (af7 f 6)=_:=(S.o.C (p:=af7 f 6) I).T J.o.2.2.2.2.2.2;go_wp21;refine WE (CM.o r) ?_;rintro y2 d ⟨x,y⟩;have J2:=ax x;have F:Hid (af3 wc d):=ax (L.o.T (y.M L.o.size));have O:=ax y;clear f0 f1 f2 f3 f4 f5 f6 x y CM;have z1:=(F.o.C (p:=af7 E 0) lv).T Q.o.2.1;have z2:=(F.o.C (p:=af7 (Y 0) 7) ly).T Q.o.2.2.1;have z3:=(F.o.C (p:=af7 g3 0) lg3).T Q.o.2.2.2;have u:iQ K.Hp d (.slice none 0 0) []:=iQ.nil_ d;have m:=ot (o:=0) u ⟨ab,λx hx=>by cases hx⟩ (bl _) (λk h=>absurd rfl h);have x:af3 d (d.alloc (.cells #[.slice none 0 0,af6 0] 57)):=(aC _ _).alloc (aD _) _;have j:=ax (zm _ ((ke z _ _).K J2.o x) (HJ0.o _ (F.o.T (x.M F.o.size))) (.inr (λk N y=>N.elim False.elim (λN=>by have:=Om.o k y;have:=L.o.size;omega))) (pf Mk.o) Ww.o m (λk N y=>by
  rw[show k=d.heap.size from N] at y;exact y.elim False.elim (λh=>by omega)) (bl _) (λk _=>bl _))
 rw[HE0.o,HXE.o] at j;have D:=ax x;clear u m x;go_wp21;refine(j.o).M ?_;intro e y hm;obtain⟨rfl,hm1,_,o⟩:=hm;have x:af3 r y:=O.o.T ((D.o.M O.o.size).T (o.below (λk h=>h.elim (λh=>h.elim False.elim And.left) (λh=>by rw[show k=d.heap.size from h];exact O.o.size)) (bf O.o.size D.o.size)));have u:Hid (af3 wc y):=ax (L.o.T (x.M L.o.size));have h:=ax (λv (U:af3 y v)=>zy v ((ju z X1 y1).K J1.o (x.T (U.M x.size))) ((ke z X1 y2).K hm1 U) Q6.o);have m:=ax (λv (U:af3 y v)=>uf v ((ju z X1 y1).K J1.o (x.T (U.M x.size))) Q6.o);have k:=ax (λv (U:af3 y v)=>vu v (HJ0.o v (u.o.T (U.M u.o.size))) Ww.o);rw[zI.o] at m;have⟨tt,R⟩:=ar (k_ z n);rw[R] at m k;clear R hm1 o x j J1 J2 z1 z2 z3 O D;go_upto_region 17 with fail;have Z:=ax (λ(v:World) (x:af3 y v)=>(aB (((u.o.T (x.M u.o.size)).C (p:=af7 E 0) lv).T Q.o.2.1) (aB (((u.o.T (x.M u.o.size)).C (p:=af7 (Y 0) 7) ly).T Q.o.2.2.1) (((u.o.T (x.M u.o.size)).C (p:=af7 g3 0) lg3).T Q.o.2.2.2))));refine jh (λv=>af3 y v) (hQ 0 9 (ik 9 (hQ 10 3 (hQ 14 8 (ik 13 (ik 22 (hQ 23 3 []))))))) ((aC _ _).drew) ?_;iterate 9 refine ib ?_
 refine iz λK x=>?_;go_simp;refine RX (h.o _ (aC _ _).drew) ?_;intro q j;have v:af3 y q:=(aC _ _).drew.T j;refine x _ _ (v) ?_;iterate 11 refine ib ?_
 refine iz λK x=>?_;go_simp;refine Ix (m.o q v) ?_;refine x _ _ (v) ?_;refine iz λK x=>?_;go_simp;refine RX (k.o q v) ?_;intro D O;have R:af3 y D:=v.T (O.M v.size);refine x _ _ (R) ?_;iterate 3 refine ib ?_
 refine g4 ?_;try refine g6 ?_
 go_wp2;refine ak ?_;exact⟨ad,t.o.T ((UL.o.T ((u.o.T (R.M u.o.size)).M UK)).M t.o.size)⟩
