/- Parts. -/
import Derived.Test.YtdicblkhpcphfaaGreatPU36
import Derived.Test.YtdicblkhpcphfaaGreatPU37
set_option maxRecDepth 100000
set_option maxHeartbeats 0
set_option linter.all false
namespace Go.Proofs.YtdicblkhpcphfaaGreat
open Tryz Go.RowKit Go.Lib Go.Shelf
open _root_.List renaming length→ab0
open Go.IntKind renaming wrap→ad0
open _root_.Go renaming Calls→af4
open Tryz renaming prog→af5
open Go.RowKit Go.ChangeShapes Go.WideShapes
section
variable {H : Type} {enc : TypeId × Value -> H} {P : Program} {w : World} {base : Nat} {held : Bool}
def PH{t e:TypeId}{k:IntKind}{v:Value}{d:DataW H}{ps:List MemPlace}(p:P.underlying t=some (.slice e))(Y:P.underlying e=some (.int k))(f:P.cellsOf e=1){r:Reach}{b0:Nat}
 (T:Value.okWide P w r b0 t v) (h:DataW.Trod enc P w base (λ_=>true) held t v d ps):∃z:List Int,jC k w v z/\(∀n∈z,(Lit.int k n).wf=true):=by
 obtain⟨O,x,g,rfl⟩:=okWide_slice p T;obtain⟨n,h⟩:=h;rcases open_ints p Y f h with⟨y,_⟩|⟨a,M,N,z,y,_,V,U,R,_,c,S⟩
 .simp[Value.cells] at y
  obtain⟨rfl,rfl,rfl⟩:=y;exact⟨[],Rd.nil_ w 1,λn u=>by cases u⟩
 .simp[Value.cells] at y
  obtain⟨rfl,rfl,rfl⟩:=y;simp only[if_true] at R;refine⟨z.take x,?_,λn u=>S n (cm u)⟩;have q:ab0 (z.take x)=x:=by rw[aU];omega
  unfold jC;rw[q];refine⟨by rw[dy,q];omega,some a,g,rfl,V,U,λs=>?_⟩;obtain⟨b,Q,rfl,s⟩:=ints_at c aa;refine⟨b,Q,rfl,?_,λj X=>?_⟩
  .exact bH _ _ (s 0 aa)
  .rw[s j aa]
   have X:j<ab0 z:=aa;simp[aL X,show j<x by omega,List.getD]
end
namespace K
def Mh{P:Program}{w:World}{r:Reach}{b:Nat}{t e:TypeId}{v:Value}(s:P.underlying t=some (.slice e))(h:Value.okWide P w r b t v):∀x,v.ownBlock=some x->x<w.heap.size:=λx z=>by
 obtain⟨a,g,q,rfl⟩:=WideShapes.okWide_slice s h;cases a with
 | none=>cases z
 | some a=>
  simp only[Value.okWide,s,Cell.okWide,Cell.ok] at h;obtain⟨_,_,_,_,f,p,u,_⟩:=h;have z:=bJ (show some a.block=some x from z);subst z;unfold World.shape? at u;rcases bm a.block w.heap.size with y|y
  .exact y
  .rw[dc y] at u;cases u
end K
namespace D
variable{sp:ie}{L:List Js}{B:List Int}
def zA(ok:∀c∈L,im sp c){x:Js}(y:im sp x):∀(k a:Nat),k<=ab0 L->(kX sp B L k x a).2.2=0->k_ sp (kX sp B L k x a).1=k_ sp x+((L.take k).map (k_ sp)).sum/\im sp (kX sp B L k x a).1:=by
 intro k
 induction k generalizing x with
 | zero=>intro a _ _;rw[qB];simp[y]
 | succ k ih=>
  intro a s h;have v:im sp L[k]:=ok _ (aP aa);rw[qC sp B aa] at h |-
  by_cases z:mn sp x L[k]=0
  .rw[aH z] at h |-
   obtain⟨u,t⟩:=ih (qq y v) _ aa h;refine⟨?_,t⟩;rw[u,Be y v,aH z,aM aa,dU,List.sum_append];simp only[dO,fP,ft,List.sum_nil];omega
  .rw[aF z] at h
   exact absurd h z
def IA(ok:∀c∈L,im sp c):∀k,0<=((L.take k).map (k_ sp)).sum:=by
 have:∀M:List Js,(∀c∈M,im sp c)->0<=(M.map (k_ sp)).sum:=by
  intro M
  induction M with
  | nil=>intro _;simp
  | cons c M ih=>
   intro h;have y:=(xy (h c ad)).1;have v:=ih (λx z=>h x (by simp[z]));simp only[dO,ft];omega
 exact λk=>this _ (λc z=>ok c (cm z))
def FE{sp:ie}{L:List Js}(ok:∀c∈L,im sp c):∀k,k<=ab0 L->((L.take k).map (k_ sp)).sum<18446744073709551616->oD sp L k=((L.take k).map (k_ sp)).sum
 | 0,_,_=>by simp[oD]
 | k+1,hk,h=>by
  have y:=xy (ok _ (aP (l:=L) (n:=k) aa));rw[aM aa,dU,List.sum_append] at h |-
  simp only[dO,fP,ft,List.sum_nil] at h |-;have z:=IA ok k;rw[oD,FE ok k aa  aa,aT,aL aa,br,c_]
  omega
def IB{now k a:Nat}(u:jR sp)(ok:∀c∈L,im sp c)(y:k<=ab0 L)(h:(kX sp B L k sp.new a).2.2=0):k_ sp (kX sp B L k sp.new a).1=mI sp ⟨L,now⟩ k:=by
 obtain⟨z,x⟩:=zA ok (pf u) k a y h;have v:=xy x;rw[z,zx] at v;unfold mI;show _=if (ab0 L:Int)<(k:Int) then 0 else oD sp L (k:Int).toNat
 rw[aF aa,bY,z,zx,FE ok k y aa];omega
section
variable {sp : ie} {a0 x n a : Nat} {C : List Js} {v : Value} {ps : List Nat} {Ow : Nat -> Ft} {G F H : Ft} {w w' : World} {s : Wn} {cq : Value} {B : List Int}
def FF(z:Int)(w:World)(h:jN sp s.now a0 C v ps Ow G x w)(y:z<1\/(ab0 C:Int)<z):af4 af5 14 #[aq x,af6 z,cq] w (au w (.tuple #[.pointer none,af6 1])):=by
 have u:=h.c7;obtain⟨g,c,rfl,_⟩:=h.ring.pos h.pos;clear h;by_cases t:z<1
 .go_in
  go_wp2;refine ak ?_;exact⟨rfl,bw⟩
 .have r:z > (ab0 C:Int):=aa
  clear y;go_in;go_wp2;refine ak ?_;exact⟨rfl,bw⟩
end
section
variable {sp : ie} {x n a o : Nat} {v : Value} {ps : List Nat} {Ow : Nat -> Ft} {G F H : Ft} {w w' : World} {s : Wn} {cq : Value} {B : List Int}
structure PN(o:Nat)(sp:ie)(B:List Int)(L:List Js)(last a:Nat)(cq:Value)(H:Ft)(w:World)(y:Nat)(j:Nat)(e:Int)(X:Js)(a':Nat)(Fy:Ft)(wr:World):Prop where
 js:iH sp X y Fy wr
 ok:im sp X
 cn:iI o cq B a' H wr
 new:∀k,Fy k->w.heap.size<=k
 touch:Touch H w wr
 eq:kX sp B L last sp.new a=if e=0 then kX sp B L j X a' else(X,a',e)
def oW{kd lo hi dg ac sz:Int}{gr:Bool}(d:sp.v=iB kd lo hi dg gr ac sz)(q:sp.cs=[.int .u8 kd,af6 lo,af6 hi,af6 dg,.bool gr,af6 ac,af6 sz])(u:jR sp)(p:Nat)(w:World)(h:jZ sp s.now s.L v ps Ow G x w)(ok:∀c∈s.L,im sp c)(l2:p<=ab0 s.L)
 (t:iI o cq B a H w) (ho:o<=w.heap.size) (f:∀k,H k->¬G k/\k≠x) :
 af4 af5 21 #[aq x,af6 p,cq] w (uF (Wx sp) (λa H=>iI o cq B a H) H (kX sp B s.L p sp.new a) w):=by
 have E:Hid (∀b:World,af4 af5 15 #[.agg #[.int .u8 kd,af6 lo,af6 hi,af6 dg,.bool gr,af6 ac,af6 sz]] b _):=ax (λb=>by rw[show Value.agg #[.int .u8 kd,af6 lo,af6 hi,af6 dg,.bool gr,af6 ac,af6 sz]=sp.v from d.Y];exact m_ b u);have C7:=ax h.c7;have V:=ax h;have l:=ax ok;have O:=ax t;have T:=ax f;have A:=ax (pf u);have lx:=h.blk.lt;obtain⟨g,c,rfl,hgl,_,_,UE,_,r⟩:=h.ring.pos h.pos;have D:=ax r;have z:=h.blk;rw[q] at z;have Y:=z.C 0;have X:=z.C 1;have U:=z.C 2;have S:=z.C 3;have R:=z.C 4;have Q:=z.C 5;have M:=z.C 6;simp only[bG,bB,az,ay,aA] at Y X U S R Q M;have h60:=h.n60;have⟨N,y⟩:=ar (ab0 s.L);have L:=ax y;rw[y] at l2 h60;clear h ok t f z q d u r y;go_in;go_wp21;refine WE (E.o w) ?_;rintro y b ⟨P,z⟩;have C:Hid (PN o sp B s.L p a cq H w y p 0 sp.new a (Gr (λ_=>False) w b) b):=ax ⟨P,A.o,O.o.K ho z,λk r=>r.elim False.elim And.left,Touch.of_below z (aD _),by rw[aH rfl]⟩;clear P z Y X U S R Q M;go_wp2;go_loopg [9,10] p (λq z _ wr=>∃(j:Nat) (X:Js) (f:Nat) (Y:Ft),q=j/\j<=p/\z=af6 ((j:Int) - 1)/\Hid (PN o sp B s.L p a cq H w y j 0 X f Y wr))
 exact⟨p,sp.new,a,_,rfl,aD _,rfl,C⟩
 case round=>
  obtain⟨j,X,f,Y,z,P,rfl,u⟩:=hrel;have n:=ax z;clear z;cases j with
  | zero=>
   go_wp2;refine ak ?_;have z:=u.o.eq;rw[aH rfl,qB] at z;rw[z];exact⟨by rw[aH rfl];exact⟨y,rfl,(ke sp X y).more u.o.js (λk r=>.inr ⟨u.o.new k r,(ke sp X y).low u.o.js k r⟩) (λk r=>r.elim False.elim And.right)⟩,u.o.cn,u.o.touch⟩
  | succ i=>
   have hiN:i<ab0 s.L:=by rw[L.o];omega
   have M:((i+1:Nat):Int) - 1=(i:Int):=aa;rw[M];have hi0:(i:Int)>=0:=aa;have af1:(i:Int)<(N:Int):=aa;have nxH:¬H x:=λe=>(T.o x e).2 rfl;have d:jZ sp s.now s.L (.slice (some (af7 g 0)) (ab0 s.L) c) ps Ow G x wr:=V.o.stay (u.o.touch.block x lx nxH) (λk r=>u.o.touch.block k (V.o.ring.low k r) (λe=>(T.o k e).1 r)) u.o.touch.size;have K:wr.cell? (af7 x 7)=_:=d.c7;rw[L.o] at K;have W:wr.cell? (af7 g i)=some (.pointer (some (af7 (ps.getD i 0) 0))):=(g9 u.o.touch i hgl (λe=>(T.o g e).1 UE)).T (D.o i hiN);have z:s.L.getD i sp.new=s.L[i]' aa :=by rw[aT,aL aa,br]
   have t:im sp (s.L.getD i sp.new):=by rw[z];exact l.o _ (aP _)
   have Ij:∀k,Y k->¬Ow i k:=λk R Q=>by have:=u.o.new k R;have:=V.o.ring.low k (V.o.ring.qu _ _ Q);omega
   have Xc:∀k,H k->¬Y k:=λk R Q=>by have:=u.o.new k Q;have:=O.o.low k R;omega
   have M9:=u.o.touch.size;have U:=ax (zm wr u.o.js (d.js hiN) (.inr Ij) u.o.ok t u.o.cn Xc aa (λk r=>by have:=u.o.new k r;omega));have m:=ax t;have S:Hid (kX sp B s.L p sp.new a=if mn sp X (s.L.getD i sp.new)=0 then kX sp B s.L i (jb sp B (s.L.getD i sp.new) X f).1 (jb sp B (s.L.getD i sp.new) X f).2 else((jb sp B (s.L.getD i sp.new) X f).1,(jb sp B (s.L.getD i sp.new) X f).2,mn sp X (s.L.getD i sp.new))):=ax (by
    have J:=u.o.eq;rw[aH rfl,qC sp B aa] at J;rw[J,z])
   clear d t M z;generalize ps.getD i 0=z at *;generalize s.L.getD i sp.new=t at *;have⟨er,d⟩:=ar (mn sp X t);rw[d] at U S;clear d;go_wp21;refine(U.o).M ?_;intro e q hm;obtain⟨rfl,J,I,F⟩:=hm;have M:=ax (aB J (aB I F));clear J I F U K W;have U:Hid (Touch H w q):=ax (u.o.touch.T M.o.2.2 (λk r=>r.elim (λh=>.inr (u.o.new k h)) .inl));by_cases d:er=0
   .subst d
    have K:Hid (PN o sp B s.L p a cq H w y i 0 (jb sp B t X f).1 (jb sp B t X f).2 (Gr Y wr q) q):=ax ⟨M.o.1,qq u.o.ok m.o,M.o.2.1,λk r=>r.elim (u.o.new k) (λh=>by omega),U.o,by rw[aH rfl,S.o,aH rfl]⟩;go_wp2;go_roundg i
    exact⟨i,_,_,_,rfl,aa,af,K⟩;have:=n.o;omega
   .have r:=S.o
    rw[aF d] at r;have K:=ax r;clear r;go_wp2;refine ak ?_;rw[K.o];exact⟨by rw[aF d],M.o.2.1,U.o⟩
def Ml(f:jR sp)(z:Nat)(w:World)(h:jZ sp s.now s.L v ps Ow G x w)(ok:∀c∈s.L,im sp c)(g:z<=ab0 s.L)
 (y:iI o cq B a H w) (p:o<=w.heap.size) (r:∀k,H k->¬G k/\k≠x) :
 af4 af5 21 #[aq x,af6 z,cq] w (uF (Wx sp) (λa H=>iI o cq B a H) H (kX sp B s.L z sp.new a) w):=by
 cases sp with
 | h lo hi dg u m gr=>exact oW rfl rfl f z w h ok g y p r
 | d a m=>exact oW rfl rfl f z w h ok g y p r
 | t d=>exact oW rfl rfl f z w h ok g y p r
 | k q=>exact oW rfl rfl f z w h ok g y p r
end
def Iy(kind a b slots:Nat)(v4 v6:Value)(l:List zO)(G:Int)(B:List Int)(W:World)(hk:kind<=255)(ha:a<=65535)(V:b<=65535)(hs:slots<=255)(hl:vy W.heap.size W v4 l)(d:∀o∈l,o.fits)(l0:-9223372036854775808<=G)(l1:G<=9223372036854775807)(y:FO W.heap.size W v6 B)(f:∀x∈B,0<=x/\x<=255):af4 af5 5 #[.int .u8 kind,.int .u16 a,.int .u16 b,.int .u8 slots,v4,af6 G,v6] W (au W (.bool true)):=by
 obtain⟨hz,A,c,rfl,hc1,hc2,p⟩:=hl;obtain⟨A6,c6,rfl,_,_,_⟩:=y.rd.form;have HL:Hid (vy W.heap.size W (.slice A (ab0 l) c) l):=ax ⟨hz,A,c,rfl,hc1,hc2,p⟩;have HF:=ax d;have HBC:=ax y;have TK:=ax f;have hsp:=Cp (kind:=kind) (a:=a) (b:=b) V;have CS:=ax (λw=>zq kind a b w hk ha V);have⟨t,s⟩:=ar (zp kind a b);rw[s] at hsp CS;obtain⟨z,u⟩:=hsp;have⟨N,Y⟩:=ar (1+slots % 5);have hN1:1<=N:=aa;have hN5:N<=5:=aa;have hn:(1:Int)+(slots:Int) % 5=(N:Int):=aa;have v:=ax (rE W);have r:=ax (λw (h:af3 W w)=>rG w (HL.o.K h));have CP:=ax (λw=>tc z N w hN1 aa);have Mk:=ax z;have Jj:=ax u;have hnil:=λ(w:World) (g:Nat)=>Go.Lib.run_eql_slice_nil (P:=prog) w 26 41 (some (af7 g 0)) 2 2 0 0 underlying26;clear p d s z u Y y f;go_in;go_wp21;refine RX v.o ?_;intro w1 z;have B1:=ax z;clear z v;go_wp21;refine(r.o w1 B1.o).M ?_;rintro e w2 ⟨⟨g,rfl,hg⟩,z⟩;have B2:Hid (af3 W w2):=ax (B1.o.T (z.M B1.o.size));have HG:=ax hg;clear z hg r;cases g with
 | true=>
  go_wp2;refine ak ?_;exact⟨rfl,B2.o⟩
 | false=>
 by_cases hl2:200<ab0 B
 .have u:(ab0 B:Int) > 200:=aa
  go_wp2;refine ak ?_;exact⟨rfl,B2.o⟩
 .have u:¬((ab0 B:Int) > 200):=aa
  go_wp21;refine RX (CS.o w2) ?_
  intro w3 y;have z:Hid (af3 W w3):=ax (B2.o.T (y.M B2.o.size));have P0:Hid (K.TM B):=ax ⟨aa,TK.o⟩;clear y CS;go_wp21;try rw[hn]
  refine(CP.o w3).M ?_;rintro e w4 ⟨X,Y,Ow,E,F,rfl,v,y⟩;have f:Hid (pU W t N (kI t l (λ_=>jM t N) 0) X Y E F w4):=ax ⟨⟨Ow,v.down z.o.size⟩,z.o.T (y.M z.o.size)⟩;clear v y CP B1 B2 z u;go_upto_block 0 with fail
  go_cut [17] (λ_ z=>∃i:Nat,i<=ab0 l/\Hid (pU W t N (kI t l (λ_=>jM t N) i) X Y E F z))
  case first=>
   go_wp2;go_loopg [17] (ab0 l) (λq z wr=>∃i:Nat,q=ab0 l - i/\i<=ab0 l/\i<=25/\z=af6 (i:Int)/\Hid (pU W t N (kI t l (λ_=>jM t N) i) X Y E F wr))
   exact⟨0,aa,aa,aa,rfl,f⟩
   case round=>
    obtain⟨i,hq,T,hi2,rfl,J⟩:=hrel;have m:=ax hq;clear hq f;by_cases j:i<ab0 l/\i<25
    .obtain⟨s,k⟩:=j
     have O:(i:Int)<(ab0 l:Int):=aa;have C:(i:Int)<25:=aa;obtain⟨g,v,n,rfl,hg,Q,R,S,U,c3,d⟩:=HL.o.act s;have u:Hid (kI t l (λ_=>jM t N) (i+1)=Pm t l[i] (kI t l (λ_=>jM t N) i)):=ax (by
      rw[kI,aT,aL s,br])
     have r:=ax (λz (y:pU W t N (kI t l (λ_=>jM t N) i) X Y E F z)=>y.act l[i] Mk.o Jj.o hN1 (HF.o _ (aP s)) (Q.K (aD _) y.below) (HG.o (by first|rfl|trivial) i aa s));rw[<-u.o] at r;have D:=(J.o.below.C (p:=af7 g (v+i * 5)) hg).T R;have H:=(J.o.below.C (p:=af7 g (v+i * 5+1)) hg).T S;have I:=(J.o.below.C (p:=af7 g (v+i * 5+2)) hg).T U;have L:=(J.o.below.C (p:=af7 g (v+i * 5+3)) hg).T c3;have M:=(J.o.below.C (p:=af7 g (v+i * 5+4)) hg).T d;clear R S U c3 d Q u;generalize l[i].kd=Q at *;generalize l[i].who=R at *;generalize l[i].v=S at *;generalize l[i].n=U at *;go_wp21;refine RX (r.o _ J.o) ?_;intro u y;have d:=ax y;clear y r D H I L M J;go_wp2;go_roundg (ab0 l - (i+1))
     exact⟨i+1,rfl,aa,aa,af,d⟩;have:=m.o;omega
    .by_cases s:i<ab0 l
     .have O:(i:Int)<(ab0 l:Int):=aa
      have C:¬((i:Int)<25):=aa;go_wp21
      go_meet
      exact⟨i,T,J⟩
     .have O:¬((i:Int)<(ab0 l:Int)):=aa
      go_wp21
      go_meet
      exact⟨i,T,J⟩
  case rest=>
  obtain⟨i,T,J⟩:=hcut;clear f;obtain⟨⟨Ow2,d⟩,v⟩:=J.o;obtain⟨_,_,f,L,M,lw,lv⟩:=J.o.win (i:=0) ab;have⟨s,O⟩:=ar (kI t l (λ_=>jM t N) i 0);have hw0:=d.win 0 ab;have hr0:=d.ref 0 ab;rw[O] at hw0 hr0 f;have HW0:=ax hw0;have HR0:=ax hr0;obtain⟨a0,C,vv,ps,Oq,G1,Q,U,n,m,j⟩:=hw0;obtain⟨uu,rs,Or,G3,y,D,H,I⟩:=hr0;have r:ab0 s.L=N:=f.len;have S:ab0 C=N:=by rw[<-r,U,iw]
  have y7:wc.cell? (af7 (Y 0) 7)=some uu:=y.c7;obtain⟨g3,c3,rfl,_,_,_,_,_,_⟩:=y.ring.pos y.pos;rw[r] at y7;have ly:=y.blk.lt;have zC:=ax f;have HB1:=ax Q;have NQ:=ax y;have Up:=ax U;have T':=ax (aB r S);have R:=ax (aB L (aB M y7));have CB:Hid (∀z,af3 wc z->FO W.heap.size z (.slice A6 (ab0 B) c6) B):=ax (λz V=>HBC.o.K (aD _) (v.T (V.M v.size)));have UK:=v.size;have UL:=ax v;have S30:=ax (λz (V:af3 wc z)=>zz z ((jy t s _).K HW0.o V) ((iM t s _).K HR0.o V) zC.o);clear d f L M Q U n m j y D H I r S y7 v O T;by_cases hval:G<1\/(N:Int)<G
  .have n:=ax (λz (V:af3 wc z) cq=>FF (cq:=cq) G z (HB1.o.K V) (by rw[T'.o.2];exact hval))
   go_upto_region 13 with fail;have Z:=ax (λ(z:World) (L:af3 wc z)=>((L.C (p:=af7 E 0) lw).T R.o.1));refine jh (λz=>af3 wc z) (hQ 0 5 (ik 5 (ik 6 (hQ 7 5 [])))) ((aC _ _).drew) ?_;iterate 5 refine ib ?_
   refine iz λK y=>?_;go_simp;refine WE (pP _ B _ (CB.o _ (aC _ _).drew).rd P0.o) ?_;rintro cg m ⟨_,D⟩;have T:af3 wc m:=(aC _ _).drew.T D;refine y _ _ (T) ?_;refine iz λK y=>?_;go_simp;refine RX (n.o m T _) ?_;intro u v;have U:af3 wc u:=T.T (v.M T.size);refine y _ _ (U) ?_;iterate 5 refine ib ?_
   refine g4 ?_;try refine g6 ?_
   have y7:=(U.C (p:=af7 (Y 0) 7) ly).T R.o.2.2;have z1:=(U.C (p:=af7 F 0) lv).T R.o.2.1;have r:Hid (af3 W u):=ax (UL.o.T (U.M UK));clear T U D v n;by_cases f:G<1
   .go_wp2
    refine ak ?_;exact⟨rfl,r.o⟩
   .have v:G > (N:Int):=aa
    go_wp2;refine ak ?_;exact⟨rfl,r.o⟩
  .obtain⟨k,rfl⟩:∃k:Nat,G=(k:Int):=⟨G.toNat,aa⟩
   have hk1:1<=k:=aa;have hkN:k<=N:=aa;have hn1:¬((k:Int)<1):=aa;have hn2:¬((k:Int) > (N:Int)):=aa;have n:=ax (λz (V:af3 wc z) cg H (v:iT (aq cg) B 0 H z) (O:∀j,H j->wc.heap.size<=j)=>Fz Mk.o k z (HB1.o.K V) Up.o zC.o.each hk1 (by rw[T'.o.2];exact hkN) v (λ_ _ e=>by cases e) (λj f=>⟨λe=>by have:=HB1.o.ring.low j e;have:=O j f;omega,λe=>by have:=HB1.o.blk.lt;have:=O j f;omega⟩));have CQ:=ax (λz (V:af3 wc z) r H (v:iI W.heap.size (aq r) B 0 H z) (O:∀j,H j->wc.heap.size<=j)=>Ml Mk.o k z (NQ.o.K V) zC.o.each (by rw[T'.o.1];exact hkN) v (aa2 V.size) (λj f=>⟨λe=>by have:=NQ.o.ring.low j e;have:=O j f;omega,λe=>by have:=NQ.o.blk.lt;have:=O j f;omega⟩));have XT:=ax (λz (V:af3 wc z)=>vt k z (HB1.o.K V) Up.o zC.o.each);have Wb:=ax (λ(h:(kX t B s.L k t.new 0).2.2=0)=>aB (zA zC.o.each (pf Mk.o) (B:=B) k 0 (by rw[T'.o.1];exact hkN) h).2 (IB (now:=s.now) Mk.o zC.o.each (by rw[T'.o.1];exact hkN) h));have⟨r,v⟩:=ar (kX t B s.L k t.new 0);rw[v] at n CQ Wb;obtain⟨x,av,er⟩:=r;clear v hval;by_cases he:er=0
   .subst he
    obtain⟨S,d⟩:=Wb.o rfl;have HJX:=ax S;have⟨tt,v⟩:=ar (mI t s (k:Int));rw[show(⟨s.L,s.now⟩:Wn)=s from rfl,v] at d;rw[v] at XT;have HTX:=ax d;clear S d v;go_upto_region 13 with fail;have Z:=ax (λ(z:World) (L:af3 wc z)=>((L.C (p:=af7 E 0) lw).T R.o.1));refine jh (λz=>af3 wc z) (hQ 0 5 (ik 5 (ik 6 (hQ 7 5 [])))) ((aC _ _).drew) ?_;iterate 5 refine ib ?_
    refine iz λK y=>?_;go_simp;refine WE (pP _ B _ (CB.o _ (aC _ _).drew).rd P0.o) ?_;rintro cg m ⟨⟨H,hcn,O⟩,D⟩;have T:af3 wc m:=(aC _ _).drew.T D;have HH:=ax O;refine y _ _ (T) ?_;refine iz λK y=>?_;go_simp;refine(n.o m T cg H hcn (λj f=>HH.o j f)).M ?_;intro e u S;unfold uF at S;rw[aH rfl] at S;obtain⟨⟨y1,rfl,v⟩,_,ht1⟩:=S;have U:af3 wc u:=T.T (ht1.below (λj f=>HH.o j f) T.size);have Q:=ax v;clear v ht1 hcn O;refine y _ _ (U) ?_;iterate 5 refine ib ?_
    refine g4 ?_;try refine g6 ?_
    have d:=ax U;have y7:=(U.C (p:=af7 (Y 0) 7) ly).T R.o.2.2;have z1:=(U.C (p:=af7 F 0) lv).T R.o.2.1;clear T U D n;go_wp21;have hq:=ot (o:=W.heap.size) (CB.o u d.o).rd P0.o (aa2 d.o.size) (CB.o u d.o).own;have I:af3 u (u.alloc (.cells #[.slice A6 (ab0 B) c6,af6 0] 57)):=(aC _ _).alloc (aD _) _;refine(CQ.o _ (d.o.T (I.M d.o.size)) u.heap.size _ hq (λj f=>by rw[show j=u.heap.size from f];exact d.o.size)).M ?_;intro e v S;unfold uF at S;rw[aH rfl] at S;obtain⟨⟨y2,rfl,h⟩,_,ht2⟩:=S;have M:af3 u v:=I.T ((ht2.below (B:=u.heap.size) (λj f=>by rw[show j=u.heap.size from f];exact aD _) I.size));have q:Hid (af3 wc v):=ax (d.o.T (M.M d.o.size));have C27:=ax (λz (V:af3 v z)=>zy z ((ju t x y1).K Q.o (M.T (V.M M.size))) ((ke t x y2).K h V) HJX.o);have CTX:=ax (λz (V:af3 v z)=>uf z ((ju t x y1).K Q.o (M.T (V.M M.size))) HJX.o);rw[HTX.o] at CTX;clear hq I ht2 h M CQ y7 z1 Q;go_upto_region 19 with fail;have Z:=ax (λ(z:World) (L:af3 v z)=>(aB (((q.o.T (L.M q.o.size)).C (p:=af7 E 0) lw).T R.o.1) (((q.o.T (L.M q.o.size)).C (p:=af7 F 0) lv).T R.o.2.1)));refine jh (λz=>af3 v z) (hQ 0 5 (ik 5 (hQ 6 8 (ik 14 (hQ 15 3 (hQ 19 4 (ik 18 (ik 23 (hQ 24 3 []))))))))) ((aC _ _).drew) ?_;iterate 5 refine ib ?_
    refine iz λK y=>?_;go_simp;refine RX (C27.o _ (aC _ _).drew) ?_;intro w9 Q0;have h:af3 v w9:=(aC _ _).drew.T Q0;refine y _ _ (h) ?_;iterate 8 refine ib ?_
    refine iz λK y=>?_;go_simp;refine RX (S30.o w9 (q.o.T (h.M q.o.size))) ?_;intro wA hbA;have Q:af3 v wA:=h.T (hbA.M h.size);refine y _ _ (Q) ?_;iterate 7 refine ib ?_
    refine iz λK y=>?_;go_simp;refine Ix (CTX.o wA Q) ?_;refine y _ _ (Q) ?_;refine iz λK y=>?_;go_simp;refine RX (XT.o wA (q.o.T (Q.M q.o.size))) ?_;intro wD hbD;have BD:af3 v wD:=Q.T (hbD.M Q.size);refine y _ _ (BD) ?_;iterate 3 refine ib ?_
    refine g4 ?_;try refine g6 ?_
    go_wp2;refine ak ?_;exact⟨ad,UL.o.T ((q.o.T (BD.M q.o.size)).M UK)⟩
   .have h:(er == 0)=false:=by simp[he]
    clear Wb XT;go_upto_region 13 with fail;have Z:=ax (λ(z:World) (L:af3 wc z)=>((L.C (p:=af7 E 0) lw).T R.o.1));refine jh (λz=>af3 wc z) (hQ 0 5 (ik 5 (ik 6 (hQ 7 5 [])))) ((aC _ _).drew) ?_;iterate 5 refine ib ?_
    refine iz λK y=>?_;go_simp;refine WE (pP _ B _ (CB.o _ (aC _ _).drew).rd P0.o) ?_;rintro cg m ⟨⟨H,hcn,O⟩,D⟩;have T:af3 wc m:=(aC _ _).drew.T D;have HH:=ax O;refine y _ _ (T) ?_;refine iz λK y=>?_;go_simp;refine(n.o m T cg H hcn (λj f=>HH.o j f)).M ?_;intro e u S;unfold uF at S;rw[aF he] at S;obtain⟨rfl,_,ht1⟩:=S;have U:af3 wc u:=T.T (ht1.below (λj f=>HH.o j f) T.size);clear ht1 hcn O;refine y _ _ (U) ?_;iterate 5 refine ib ?_
    refine g4 ?_;try refine g6 ?_
    have d:=ax U;have y7:=(U.C (p:=af7 (Y 0) 7) ly).T R.o.2.2;have z1:=(U.C (p:=af7 F 0) lv).T R.o.2.1;clear T U D n;go_wp21;have hq:=ot (o:=W.heap.size) (CB.o u d.o).rd P0.o (aa2 d.o.size) (CB.o u d.o).own;have I:af3 u (u.alloc (.cells #[.slice A6 (ab0 B) c6,af6 0] 57)):=(aC _ _).alloc (aD _) _;refine(CQ.o _ (d.o.T (I.M d.o.size)) u.heap.size _ hq (λj f=>by rw[show j=u.heap.size from f];exact d.o.size)).M ?_;intro e v S;unfold uF at S;rw[aF he] at S;obtain⟨rfl,_,ht2⟩:=S;have M:af3 u v:=I.T ((ht2.below (B:=u.heap.size) (λj f=>by rw[show j=u.heap.size from f];exact aD _) I.size));have q:Hid (af3 wc v):=ax (d.o.T (M.M d.o.size));clear hq I ht2 M CQ y7 z1;go_upto_region 18 with fail;have Z:=ax (λ(z:World) (L:af3 v z)=>(aB (((q.o.T (L.M q.o.size)).C (p:=af7 E 0) lw).T R.o.1) (((q.o.T (L.M q.o.size)).C (p:=af7 F 0) lv).T R.o.2.1)));refine jh (λz=>af3 v z) (hQ 0 14 (ik 14 (hQ 15 2 []))) ((aC _ _).drew) ?_;iterate 14 refine ib ?_
    refine iz λK y=>?_;go_simp;refine RX (S30.o _ q.o.drew) ?_;intro wA hbA;have Q:af3 v wA:=(aC _ _).drew.T hbA;refine y _ _ (Q) ?_;iterate 2 refine ib ?_
    refine g4 ?_;try refine g6 ?_
    go_wp2;refine ak ?_;exact⟨ad,UL.o.T ((q.o.T (Q.M q.o.size)).M UK)⟩
