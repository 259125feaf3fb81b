/- Parts. -/
import Derived.Test.YtdicblkhpcphfaaGreatPU32
set_option maxRecDepth 100000
set_option maxHeartbeats 0
set_option linter.all false
namespace Go.Proofs.YtdicblkhpcphfaaGreat
open Tryz Go.RowKit Go.Lib Go.Shelf
open _root_.List renaming length→ab0
open Go.IntKind renaming wrap→ad0
open _root_.Go renaming Calls→af4
open Tryz renaming prog→af5
namespace D
variable{t:TypeId}{v v':Value}{ps:List Nat}{Ow:Nat->Ft}{F G:Ft}{w wr:World}{m now x y z:Nat}{sp:ie}{ac dg hi kd sz:Int}{gr:Bool}{s:Wn}{C:List Js}
def shF(Ow:Nat->Ft)(F:Ft):Nat->Ft:=λi=>match i with
 | 0=>F
 | i+1=>Ow i
def RingAt.shift{P:Js->Nat->Ft->World->Prop}{L:List Js}{u:Value}{Fy:Ft}{w0:World}{c':Js}(g:∀c p,kK (P c p))(h:RingAt t P L v ps Ow G w0)(N:0<ab0 L)(V:P c' y Fy w0)(Y:∀k,Fy k->¬G k)
 (U:g8 (zP t) 0 w v' (y::ps.take (ab0 L - 1))) (X:w0.grownBy w u.ownBlock) (r:∀k,u.ownBlock=some k->¬G k/\¬Fy k) (s:v'.ownBlock=u.ownBlock\/v'.ownBlock=some w0.heap.size) :
 RingAt t P (c'::L.dropLast) v' (y::ps.take (ab0 L - 1)) (shF Ow Fy) (λk=>G k\/Fy k\/v'.ownBlock=some k) w:=by
 have c:∀k,k<w0.heap.size->u.ownBlock≠some k->w.heap[k]?=w0.heap[k]?:=λk R Q=>X.block k R (λe=>Q e.Y);have q:w0.heap.size<=w.heap.size:=X.size;have d:=(g _ _).low V;have M:=h.len;refine⟨U,by rw[aK,aK,aU,eM];omega,λj x=>?_,λa b k p f=>?_,λk e=>⟨.inr (.inr e),λj x=>?_⟩,λj k x=>?_,λk z=>?_⟩
 .cases j with
  | zero=>exact(g _ _).stay V (λk z=>c k (d k z) (λe=>(r k e).2 z)) q
  | succ i=>
   have O:i<ab0 L - 1:=by rw[aK,eM] at x;omega
   have T:(c'::L.dropLast)[i+1]=L[i]' aa :=by rw[dR,gN]
   have S:(y::ps.take (ab0 L - 1)).getD (i+1) 0=ps.getD i 0:=by
    rw[ee,aT,di,aH O,<-aT]
   rw[T,S];exact(g _ _).stay (h.each i aa) (λk z=>c k (h.low k (h.qu i k z)) (λe=>(r k e).1 (h.qu i k z))) q
 .cases a with
  | zero=>
   cases b with
   | zero=>rfl
   | succ b=>exact absurd (h.qu b k f) (Y k p)
  | succ a=>
   cases b with
   | zero=>exact absurd (h.qu a k p) (Y k f)
   | succ b=>rw[h.apart a b k p f]
 .have z:(u.ownBlock=some k)\/k=w0.heap.size:=by
   rcases s with s|s
   .exact .inl (by rw[<-s];exact e)
   .exact .inr (by rw[s] at e;injection e with e;omega)
  cases j with
  | zero=>
   rcases z with z|z
   .exact(r k z).2 x
   .have:=d k x;omega
  | succ j=>
   rcases z with z|z
   .exact(r k z).1 (h.qu j k x)
   .have:=h.low k (h.qu j k x);omega
 .cases j with
  | zero=>exact .inr (.inl x)
  | succ j=>exact .inl (h.qu j k x)
 .rcases z with z|z|z
  .exact aG (h.low k z) q
  .exact aG (d k z) q
  .exact(U.lt k z).2
def Wy:(prog.info? 49).map (λi=>(i.zero,i.size,i.bytes))=some (some (.pointer none),1,8):=by kernel_rfl
def It:Ty prog (zP 49) 52:=rg Wy underlying52 rfl ab  ab
def Uo{b:Nat}{g n c:Nat}(h:g8 (zP t) b w (.slice (some (af7 g 0)) n c) ps){M:Nat}(s:M<=ab0 ps):iQ (zP t) w (.slice (some (af7 g 0)) M c) (ps.take M):=by
 obtain⟨A,v,e,u,z,y⟩:=h.form;injection e with e1 e2 e3;subst e1;subst e3;have x:ab0 (ps.take M)=M:=by rw[aU];omega
 have:=iQ.kn (E:=zP t) (w:=w) (l:=ps.take M) (A:=some (af7 g 0)) (c:=c) aa z (y.take M)
 rwa [x] at this
structure Py(sp:ie)(now x:Nat)(L:List Js)(F:Ft)(w:World)(j:Nat)(v:Value)(ps:List Nat)(Ow:Nat->Ft)(G:Ft)(wr:World):Prop where
 win:jZ sp now (nr sp L j) v ps Ow G x wr
 sub:∀k,G k->F k\/w.heap.size<=k
 touch:Touch F w wr
def oU{lo:Int}(z:sp.v=iB kd lo hi dg gr ac sz)(hcs:sp.cs=[.int .u8 kd,af6 lo,af6 hi,af6 dg,.bool gr,af6 ac,af6 sz])(ok:jR sp)(n:Nat)(w:World)(h:iV sp s x F w)(Pw:s.now<=9223372036854775807)(hn:n<18446744073709551616):af4 af5 35 #[aq x,.int .u64 n] w λe O=>e=.returned (.tuple #[])/\iV sp (kH sp n s) x (Gr F w O) O/\Touch F w O:=by
 obtain⟨v,ps,o,G,r,h3,h4,h5⟩:=h;have CM:Hid (∀L:World,af4 af5 15 #[.agg #[.int .u8 kd,af6 lo,af6 hi,af6 dg,.bool gr,af6 ac,af6 sz]] L _):=ax (λL=>by rw[show Value.agg #[.int .u8 kd,af6 lo,af6 hi,af6 dg,.bool gr,af6 ac,af6 sz]=sp.v from z.Y];exact m_ L ok);have Y:=r.c8;have g:=r.blk.F 8;have hpos:=r.pos;have h60:=r.n60;have⟨k,Q⟩:=ar (FN n s);have q:min (n:Int) (9223372036854775807 - (s.now:Int))=(k:Int):=by rw[<-Q];unfold FN;omega
 have hkn:s.now+k<=9223372036854775807:=by rw[<-Q];unfold FN;omega
 have t:Hid (jZ sp (s.now+k) s.L v ps o G x (w.setCell (af7 x 8) (.int .u64 (s.now+k:Nat)))):=ax (by
  have y:=r.blk.hJ 8 (.int .u64 (s.now+k:Nat));exact⟨by revert y;cases sp<;>exact id,r.ring.far (H:=λk=>k=x) (ll sp) (Touch.setCell (F:=λk=>k=x) (Touch.refl _ w) (p:=af7 x 8) (.inl rfl) _) (λk Q e=>r.o (by rw[<-show k=x from e];exact Q)),r.pos,r.n60,r.o⟩)
 clear r z;go_in;go_upto_region 2 with fail;have⟨L,y⟩:=ar (w.setCell (af7 x 8) (.int .u64 ((s.now:Int)+(k:Int))));rw[y];have⟨N,u⟩:=ar (ab0 s.L);have T:=ax u;have HW:Hid (Py sp (s.now+k) x s.L F w 0 v ps o G L):=by
  have h:=t.o;rw[dx,y] at h;exact ax ⟨h,λj hj=>.inl (h4 j hj),by rw[<-y];exact Touch.setCell (Touch.refl _ _) (p:=af7 x 8) (.inl h3) _⟩
 clear y Y g t q;have⟨m,y⟩:=ar (min k N);have HM:=ax y;have hmk:m<=k:=aa;have hmN:m<=N:=aa;rw[u] at hpos h60;clear y u;go_wp2;go_loopg [4,5] m (λq y _ wr=>∃(j:Nat) (v1:Value) (a:List Nat) (S:Nat->Ft) (V:Ft),q=m - j/\j<=m/\y=.int .u64 j/\Hid (Py sp (s.now+k) x s.L F w j v1 a S V wr))
 exact⟨0,v,ps,o,G,rfl,aa,rfl,HW⟩
 case round=>
  obtain⟨j,v1,a,S,V,y,hj,rfl,t⟩:=hrel;have HQ:=ax y;clear y;have P:ab0 (nr sp s.L j)=N:=by rw[nH (by rw[T.o];exact hpos),T.o]
  have J:=t.o.win.c7;obtain⟨g,c,rfl,hgl,hc1,hc2,UE,hOg,hcell⟩:=t.o.win.ring.pos t.o.win.pos;rw[P] at J;have l:=ax P;by_cases hlt:j<m
  .have hjk:(j:Int)<(k:Int):=aa
   have hjN:(j:Int)<(N:Int):=aa;have y:=t.o.win.blk;rw[hcs] at y;have b:=y.C 0;have X:=y.C 1;have U:=y.C 2;have R:=y.C 3;have M:=y.C 4;have K:=y.C 5;have I:=y.C 6;simp only[bG,bB,az,ay,aA] at b X U R M K I;have C7:=ax J;have Z7:=ax (t.o.win.blk.F 7);have lx:=t.o.win.blk.lt;clear y P hcell;go_wp21;refine WE (CM.o wr) ?_;rintro y d ⟨f,u⟩;have HJ:=ax f;have A:=ax u;clear b X U R M K I f u J;obtain⟨M,R⟩:∃M,N=M+1:=⟨N - 1,aa⟩;have⟨b,u⟩:=ar (d.heap.size);have⟨f,U⟩:=ar (d.alloc (.cells #[aq y] 49));have C:=ao U;have X:Hid (af3 wr f):=ax (A.o.T (C.M A.o.size));have OU:Hid (g8 (zP 49) b f (.slice (some (af7 b 0)) 1 1) [y]):=by rw[<-U,<-u];exact ax (g8.one d y _ rfl _ rfl)
   have hl3:b<f.heap.size:=by rw[<-U,aI,u];omega
   have hbr:wr.heap.size<=b:=by have:=A.o.size;omega
   have z:=t.o.win.ring.row;have K:ab0 a=N:=by rw[t.o.win.ring.len,l.o]
   have RD:=ax (Uo (z.K X.o) (M:=M) aa);have hl1:ab0 (a.take M)=M:=by rw[aU];omega
   have R3:=ax (t.o.win.K X.o);have J3:=ax ((ke sp _ y).K HJ.o C);go_upto_region 6 with fail;try rw[U]
   try rw[u]
   have Jb:=ax u;clear U u z K;have H:x<f.heap.size:=by have:=X.o.size;omega
   have E:¬(x=b):=aa;have z:f.cell? (af7 x 7)=some (.slice (some (af7 g 0)) (M+1) c):=by have:=(X.o.C (p:=af7 x 7) lx).T C7.o;rw[R] at this;exact this
   have u:f.frozen? (af7 x 7)=false:=(X.o.F (p:=af7 x 7) lx).T Z7.o;have B:=ax (aB z u);have hMc:(M:Int)<=(c:Int):=by have:=l.o;omega
   have AR:Hid (ad0 .i64 (M:Int)=(M:Int)):=ax ah;have HMM:=ax R;have ae7:M<=59:=aa;have HL8:=ax (by rw[aE,hl1];simp;omega:ab0 ([y]++a.take M)=M+1);clear z u R;have Z:=ax (λ(O:World) (z:(Touch (λj=>j=b) f) O)=>(aB (AR.o) ((g9 z 7 H E).T B.o.1)));refine qd (Touch (λj=>j=b) f) 16 (pW 0 13 (o_ 13 (FH 14 1 (pW 15 1 (o_ 16 []))))) ((Touch.refl _ _).drew) ?_;iterate 13 refine kz ?_
   refine nC λK R=>?_;refine yq It (.tmp 44) (.tmp 55) rfl OU.o.drew rfl _ (a.take M) rfl (RD.o.K (aC _ _).drew) (by rw[hl1];simp;omega) (by show b<=f.heap.size;omega) ?_;intro v8 D I u W;have U:Touch (λj=>j=b) f D:=((Touch.refl _ _).drew).grown u (λj e=>.inl (by injection e with e;exact e.Y));have G8:=ax u;have A8':=ax W;have O8:=ax I;obtain⟨z,Y,e8,_,_,_⟩:=I.form;rw[HL8.o] at e8;subst e8;clear I u W;go_simp;refine R _ _ (U) ?_;refine sQ ?_;refine kz ?_;refine qc λK R=>?_;have J:=(g9 U 7 H E).T B.o.1;have z7:=(kU U 7 H E).T B.o.2;go_simp;refine R _ _ ?_;refine iq ?_;have⟨w4,I⟩:=ar (D.setCell (af7 x 7) (.slice z (M+1) Y));try refine g6 ?_
   try rw[I]
   have hLM:ab0 (nr sp s.L j) - 1=M:=by rw[l.o,HMM.o];omega
   have hbv:∀i,(Value.slice (some (af7 b 0)) 1 1).ownBlock=some i->i=b:=λi e=>by injection e with e;exact e.Y
   have ae8:=Jb.o;have q:∀i,Gr (λ_=>False) wr d i->wr.heap.size<=i/\i<b:=λi hi=>hi.elim False.elim (λh=>by omega);have Wz:=t.o.win.ring.low;have xG:=t.o.win.o;have W:=RingAt.shift (u:=.slice (some (af7 b 0)) 1 1) (y:=y) (c':=sp.new) (Fy:=Gr (λ_=>False) wr d) (ll sp) (R3.o.ring.K (ll sp) (aC _ _).drew) t.o.win.pos ((ke sp _ y).K J3.o (aC _ _).drew) (λi hi hG=>by have:=q i hi;have:=Wz i hG;omega) (by rw[hLM];exact g8.more O8.o (bl _)) G8.o (λi e=>by rw[hbv i e];exact⟨λh=>by have:=Wz b h;omega,λh=>by have:=q b h;omega⟩) A8'.o;have Wq:∀i,(Value.slice z (M+1) Y).ownBlock=some i->b<=i:=λi e=>(O8.o.lt i e).1;have xn:¬(V x\/Gr (λ_=>False) wr d x\/(Value.slice z (M+1) Y).ownBlock=some x):=λh=>h.elim xG (λh=>h.elim (λh=>by have:=q x h;omega) (λh=>by have:=Wq x h;omega));have M9:=t.o.touch.size;have HN:Hid (Py sp (s.now+k) x s.L F w (j+1) (.slice z (M+1) Y) (y::a.take M) (shF S (Gr (λ_=>False) wr d)) (λi=>V i\/Gr (λ_=>False) wr d i\/(Value.slice z (M+1) Y).ownBlock=some i) w4):=by
    have ht:Touch (λi=>i=x) D w4:=by rw[<-I];exact Touch.setCell (F:=λi=>i=x) (Touch.refl _ _) (p:=af7 x 7) (.inl rfl) _
    refine ax ⟨⟨?_,?_,?_,?_,xn⟩,λi hi=>?_,?_⟩
    .have hb8:g7 D x 54 (sp.cs++[Value.slice (some (af7 g 0)) (ab0 (nr sp s.L j)) c,Value.int .u64 (s.now+k:Nat)]).toArray:=(U.block x H E).T R3.o.blk
     have:=hb8.hJ 7 (.slice z (M+1) Y);rw[I] at this
     revert this
     cases sp<;>exact id
    .rw[hLM] at W
     exact W.far (ll sp) ht (λi hi e=>xn (by rw[<-show i=x from e];exact hi))
    .rw[nr,wE];simp
    .rw[nH (by rw[T.o];omega),T.o];omega
    .rcases hi with hi|hi|hi
     .exact t.o.sub i hi
     .have:=q i hi;exact .inr aa
     .have:=Wq i hi;exact .inr aa
    .exact((t.o.touch.T (Touch.of_below (F:=F) X.o (aD _)) (λi hi=>.inl hi)).T U (λi e=>.inr (by rw[show i=b from e];omega))).T ht (λi e=>.inl (by rw[show i=x from e];exact h3))
   clear I W U C;go_wp2;go_roundg (m - (j+1))
   exact⟨j+1,_,_,_,_,rfl,aa,af,HN⟩;have:=HQ.o;omega
  .obtain rfl:j=m:=aa
   have u:=t.o.touch.size;have y:Hid (iV sp (kH sp n s) x (Gr F w wr) wr):=by
    have z:jZ sp (kH sp n s).now (kH sp n s).L (.slice (some (af7 g 0)) (ab0 (nr sp s.L j)) c) a S V x wr:=by
     show jZ sp (s.now+FN n s) (nr sp s.L (min (FN n s) (ab0 s.L))) _ _ _ _ _ _
     rw[Q,T.o,HM.o];exact t.o.win
    exact ax ⟨_,a,S,V,z,.inl h3,λi hi=>(t.o.sub i hi).imp id (λh=>⟨h,t.o.win.ring.low i hi⟩),jt h5 u⟩
   have z:=ax t.o.touch;by_cases hjk:j<k
   .have r:(j:Int)<(k:Int):=aa
    have q:¬((j:Int)<(N:Int)):=by have:=HM.o;omega
    clear P;go_wp21;refine ct (v:=.tuple #[]) (by simp[results,Tryz.results35,go_sem, *];try rfl) rfl ?_;exact⟨rfl,y.o,z.o⟩
   .have r:¬((j:Int)<(k:Int)):=aa
    clear P;go_wp21;refine ct (v:=.tuple #[]) (by simp[results,Tryz.results35,go_sem, *];try rfl) rfl ?_;exact⟨rfl,y.o,z.o⟩
def vx(n:Nat)(w:World)(ok:jR sp)(h:iV sp s x F w)(y:s.now<=9223372036854775807)(z:n<18446744073709551616):af4 af5 35 #[aq x,.int .u64 n] w λe v=>e=.returned (.tuple #[])/\iV sp (kH sp n s) x (Gr F w v) v/\Touch F w v:=by
 cases sp with
 | h lo hi dg u m gr=>exact oU rfl rfl ok n w h y z
 | d a m=>exact oU rfl rfl ok n w h y z
 | t d=>exact oU rfl rfl ok n w h y z
 | k q=>exact oU rfl rfl ok n w h y z
def Fm{lo hi dg u:Nat}(w:World)(ok:jR (.h lo hi dg u m gr)):af4 af5 89 #[(.h lo hi dg u m gr:ie).v] w (au w (.bool true)):=by
 have Y:Hid (∀z,_):=ax (λz=>yu z ok);clear ok;show af4 af5 89 #[.agg #[.int .u8 1,af6 lo,af6 hi,af6 dg,.bool gr,af6 0,af6 0]] w _
 have⟨b,x⟩:=ar (w.heap.size);have⟨t,y⟩:=ar (w.alloc (.cells #[.int .u8 1,af6 lo,af6 hi,af6 dg,.bool gr,af6 0,af6 0] 33));have g:=ao y;have c:=an y x;have v:t.heap.size=b+1:=by rw[<-y,<-x,aI]
 have X:=ax x;go_in;go_upto_region 1 with fail;try rw[y]
 clear y x;have⟨s,x⟩:=ar (t.alloc (.cells #[af6 0,af6 0,af6 0] 31));have V:af3 w s:=by rw[<-x];exact g.alloc g.size _
 have y:=an x v;have a:Hid (g7 s b 33 #[.int .u8 1,af6 lo,af6 hi,af6 dg,.bool gr,af6 0,af6 0]):=by rw[<-x];exact ax (c.o.K (bw))
 have q:w.heap.size<=b+1:=by have:=X.o;omega
 have r:=y.o.k0;have p:=y.o.k1;have f:=y.o.k2;have U:=y.o.F 0;have T:=y.o.F 1;have S:=y.o.F 2;go_upto_region 2 with fail;try rw[v]
 clear v;clear r p f U T S;have⟨wc,v⟩:=ar (((s.setCell (af7 (b+1) 0) (af6 0)).setCell (af7 (b+1) 1) (af6 0)).setCell (af7 (b+1) 2) (af6 0));have f:af3 w wc:=by rw[<-v];exact((V.setCell (p:=af7 (b+1) 0) q _).setCell (p:=af7 (b+1) 1) q _).setCell (p:=af7 (b+1) 2) q _
 have r:Hid (g7 wc (b+1) 31 #[af6 0,af6 0,af6 0]):=by rw[<-v];exact ax (((y.o.hJ 0 _).hJ 1 _).hJ 2 _)
 have z:Hid (g7 wc b 33 #[.int .u8 1,af6 lo,af6 hi,af6 dg,.bool gr,af6 0,af6 0]):=by rw[<-v];exact ax (((a.o.far (p:=af7 (b+1) 0) ad _).far (p:=af7 (b+1) 1) ad _).far (p:=af7 (b+1) 2) ad _)
 try rw[x]
 rw[v];clear v x;have R:=z.o.k0;have Q:=z.o.k1;have P:=z.o.k2;have O:=z.o.k3;have N:=z.o.k4;have M:=z.o.k5;have L:=z.o.k6;have U:=r.o.k0;have T:=r.o.k1;have S:=r.o.k2;go_wp21;refine RX (Y.o wc) ?_;intro d x;have v:=f.T (x.M f.size);go_wp2;go_ret;exact⟨rfl,v⟩
def Fo{a:Nat}(w:World)(ok:jR (.d a m)):af4 af5 89 #[(.d a m:ie).v] w (au w (.bool true)):=by
 obtain⟨N,L,J,H⟩:=ok;have M:(a:Int)>=100:=aa;have K:(a:Int)<=5000:=aa;have I:(m:Int)>=2:=aa;have G:(m:Int)<=4096:=aa;show af4 af5 89 #[.agg #[.int .u8 2,af6 0,af6 0,af6 0,.bool false,af6 a,af6 m]] w _
 have⟨b,x⟩:=ar (w.heap.size);have⟨u,y⟩:=ar (w.alloc (.cells #[.int .u8 2,af6 0,af6 0,af6 0,.bool false,af6 a,af6 m] 33));have q:=ao y;have f:=an y x;have v:u.heap.size=b+1:=by rw[<-y,<-x,aI]
 have c:=ax x;go_in;go_upto_region 1 with fail;try rw[y]
 clear y x;have⟨t,x⟩:=ar (u.alloc (.cells #[af6 0,af6 0,af6 0] 31));have Y:af3 w t:=by rw[<-x];exact q.alloc q.size _
 have y:=an x v;have d:Hid (g7 t b 33 #[.int .u8 2,af6 0,af6 0,af6 0,.bool false,af6 a,af6 m]):=by rw[<-x];exact ax (f.o.K (bw))
 have r:w.heap.size<=b+1:=by have:=c.o;omega
 have s:=y.o.k0;have p:=y.o.k1;have g:=y.o.k2;have X:=y.o.F 0;have V:=y.o.F 1;have U:=y.o.F 2;go_upto_region 2 with fail;try rw[v]
 clear v;clear s p g X V U;have⟨wc,v⟩:=ar (((t.setCell (af7 (b+1) 0) (af6 0)).setCell (af7 (b+1) 1) (af6 0)).setCell (af7 (b+1) 2) (af6 0));have g:af3 w wc:=by rw[<-v];exact((Y.setCell (p:=af7 (b+1) 0) r _).setCell (p:=af7 (b+1) 1) r _).setCell (p:=af7 (b+1) 2) r _
 have s:Hid (g7 wc (b+1) 31 #[af6 0,af6 0,af6 0]):=by rw[<-v];exact ax (((y.o.hJ 0 _).hJ 1 _).hJ 2 _)
 have z:Hid (g7 wc b 33 #[.int .u8 2,af6 0,af6 0,af6 0,.bool false,af6 a,af6 m]):=by rw[<-v];exact ax (((d.o.far (p:=af7 (b+1) 0) ad _).far (p:=af7 (b+1) 1) ad _).far (p:=af7 (b+1) 2) ad _)
 try rw[x]
 rw[v];clear v x;have V:=z.o.k0;have U:=z.o.k1;have T:=z.o.k2;have S:=z.o.k3;have R:=z.o.k4;have Q:=z.o.k5;have P:=z.o.k6;have x:=s.o.k0;have v:=s.o.k1;have X:=s.o.k2;go_wp2;go_ret;exact⟨rfl,g⟩
def Fp{d:Nat}(w:World)(ok:jR (.t d)):af4 af5 89 #[(.t d:ie).v] w (au w (.bool true)):=by
 obtain⟨N,L⟩:=ok;have M:(d:Int)>=10:=aa;have K:(d:Int)<=1000:=aa;show af4 af5 89 #[.agg #[.int .u8 3,af6 0,af6 0,af6 0,.bool false,af6 0,af6 d]] w _
 have⟨b,x⟩:=ar (w.heap.size);have⟨u,y⟩:=ar (w.alloc (.cells #[.int .u8 3,af6 0,af6 0,af6 0,.bool false,af6 0,af6 d] 33));have q:=ao y;have f:=an y x;have v:u.heap.size=b+1:=by rw[<-y,<-x,aI]
 have a:=ax x;go_in;go_upto_region 1 with fail;try rw[y]
 clear y x;have⟨t,x⟩:=ar (u.alloc (.cells #[af6 0,af6 0,af6 0] 31));have Y:af3 w t:=by rw[<-x];exact q.alloc q.size _
 have y:=an x v;have c:Hid (g7 t b 33 #[.int .u8 3,af6 0,af6 0,af6 0,.bool false,af6 0,af6 d]):=by rw[<-x];exact ax (f.o.K (bw))
 have r:w.heap.size<=b+1:=by have:=a.o;omega
 have s:=y.o.k0;have p:=y.o.k1;have g:=y.o.k2;have X:=y.o.F 0;have V:=y.o.F 1;have U:=y.o.F 2;go_upto_region 2 with fail;try rw[v]
 clear v;clear s p g X V U;have⟨wc,v⟩:=ar (((t.setCell (af7 (b+1) 0) (af6 0)).setCell (af7 (b+1) 1) (af6 0)).setCell (af7 (b+1) 2) (af6 0));have g:af3 w wc:=by rw[<-v];exact((Y.setCell (p:=af7 (b+1) 0) r _).setCell (p:=af7 (b+1) 1) r _).setCell (p:=af7 (b+1) 2) r _
 have s:Hid (g7 wc (b+1) 31 #[af6 0,af6 0,af6 0]):=by rw[<-v];exact ax (((y.o.hJ 0 _).hJ 1 _).hJ 2 _)
 have z:Hid (g7 wc b 33 #[.int .u8 3,af6 0,af6 0,af6 0,.bool false,af6 0,af6 d]):=by rw[<-v];exact ax (((c.o.far (p:=af7 (b+1) 0) ad _).far (p:=af7 (b+1) 1) ad _).far (p:=af7 (b+1) 2) ad _)
 try rw[x]
 rw[v];clear v x;have V:=z.o.k0;have U:=z.o.k1;have T:=z.o.k2;have S:=z.o.k3;have R:=z.o.k4;have Q:=z.o.k5;have P:=z.o.k6;have x:=s.o.k0;have v:=s.o.k1;have X:=s.o.k2;go_wp2;go_ret;exact⟨rfl,g⟩
def Fq{q:Nat}(w:World)(ok:jR (.k q)):af4 af5 89 #[(.k q:ie).v] w (au w (.bool true)):=by
 obtain⟨N,L⟩:=ok;have M:(q:Int)>=8:=aa;have K:(q:Int)<=4096:=aa;show af4 af5 89 #[.agg #[.int .u8 4,af6 0,af6 0,af6 0,.bool false,af6 0,af6 q]] w _
 have⟨b,x⟩:=ar (w.heap.size);have⟨u,y⟩:=ar (w.alloc (.cells #[.int .u8 4,af6 0,af6 0,af6 0,.bool false,af6 0,af6 q] 33));have g:=ao y;have d:=an y x;have v:u.heap.size=b+1:=by rw[<-y,<-x,aI]
 have a:=ax x;go_in;go_upto_region 1 with fail;try rw[y]
 clear y x;have⟨t,x⟩:=ar (u.alloc (.cells #[af6 0,af6 0,af6 0] 31));have Y:af3 w t:=by rw[<-x];exact g.alloc g.size _
 have y:=an x v;have c:Hid (g7 t b 33 #[.int .u8 4,af6 0,af6 0,af6 0,.bool false,af6 0,af6 q]):=by rw[<-x];exact ax (d.o.K (bw))
 have r:w.heap.size<=b+1:=by have:=a.o;omega
 have s:=y.o.k0;have p:=y.o.k1;have f:=y.o.k2;have X:=y.o.F 0;have V:=y.o.F 1;have U:=y.o.F 2;go_upto_region 2 with fail;try rw[v]
 clear v;clear s p f X V U;have⟨wc,v⟩:=ar (((t.setCell (af7 (b+1) 0) (af6 0)).setCell (af7 (b+1) 1) (af6 0)).setCell (af7 (b+1) 2) (af6 0));have f:af3 w wc:=by rw[<-v];exact((Y.setCell (p:=af7 (b+1) 0) r _).setCell (p:=af7 (b+1) 1) r _).setCell (p:=af7 (b+1) 2) r _
 have s:Hid (g7 wc (b+1) 31 #[af6 0,af6 0,af6 0]):=by rw[<-v];exact ax (((y.o.hJ 0 _).hJ 1 _).hJ 2 _)
 have z:Hid (g7 wc b 33 #[.int .u8 4,af6 0,af6 0,af6 0,.bool false,af6 0,af6 q]):=by rw[<-v];exact ax (((c.o.far (p:=af7 (b+1) 0) ad _).far (p:=af7 (b+1) 1) ad _).far (p:=af7 (b+1) 2) ad _)
 try rw[x]
 rw[v];clear v x;have V:=z.o.k0;have U:=z.o.k1;have T:=z.o.k2;have S:=z.o.k3;have R:=z.o.k4;have Q:=z.o.k5;have P:=z.o.k6;have x:=s.o.k0;have v:=s.o.k1;have X:=s.o.k2;go_wp2;go_ret;exact⟨rfl,f⟩
def Iu(w:World)(ok:jR sp):af4 af5 89 #[sp.v] w (au w (.bool true)):=by
 cases sp with
 | h lo hi dg u m gr=>exact Fm w ok
 | d a m=>exact Fo w ok
 | t d=>exact Fp w ok
 | k q=>exact Fq w ok
structure oy(sp:ie)(now:Nat)(C:List Js)(w:World)(z i:Nat)(v:Value)(ps:List Nat)(Ow:Nat->Ft)(G:Ft)(wr:World):Prop where
 blk:g7 wr z 54 (sp.cs++[v,.int .u64 now]).toArray
 ring:RingAt 49 (Wx sp) (C.take i) v ps Ow G wr
 new:∀k,G k->w.heap.size<=k/\k≠z
 below:af3 w wr
def oy.start(y:g7 wr z 54 (sp.cs++[Value.slice none 0 0,Value.int .u64 now]).toArray)(h:af3 w wr):oy sp now C w z 0 (.slice none 0 0) [] (λ_ _=>False) (λ_=>False) wr:=
 ⟨y,⟨g8.nil_ _ _,rfl,λi x=>absurd x ad,λ_ _ _ h=>h.elim,λk e=>by simp[Value.ownBlock] at e,λ_ _ h=>h.elim,λ_ h=>h.elim⟩,λ_ h=>h.elim,h⟩
def oy.next{i:Nat}{w1 w2 w3:World}(h:oy sp now C w z i v ps Ow G wr)(Y:i<ab0 C)(Q:w.heap.size<=z)(R:iH sp C[i] y (Gr (λ_=>False) wr w1) w1)(q:af3 wr w1)(g:af3 w1 w2)
 (X:g8 (zP 49) 0 w3 v' (ps++[y])) (t:w2.grownBy w3 v.ownBlock) (s:v'.ownBlock=v.ownBlock\/v'.ownBlock=some w2.heap.size) :
 oy sp now C w z (i+1) v' (ps++[y]) (pg Ow (ab0 (C.take i)) (Gr (λ_=>False) wr w1)) (λk=>G k\/Gr (λ_=>False) wr w1 k\/v'.ownBlock=some k) (w3.setCell (af7 z 7) v'):=by
 have u:af3 wr w2:=q.T (g.M q.size);have M:=h.blk.lt;have N:=u.size;have U:=h.below.size;have P:=h.ring.K (ll sp) u;have O:=(ke sp _ y).K R g;have r:∀k,Gr (λ_=>False) wr w1 k->wr.heap.size<=k/\k<w1.heap.size:=λk x=>x.elim False.elim id;have a:∀k,Gr (λ_=>False) wr w1 k->¬G k:=λk x c=>by have:=r k x;have:=h.ring.low k c;omega
 have d:v.ownBlock≠some z:=λe=>(h.new z (h.ring.mg z e).1).2 rfl;have S:v'.ownBlock≠some z:=λe=>by
  rcases ni s z e with e|e
  .exact d e
  .omega
 have V:=P.push (ll sp) O a X t s;have f:∀k,(G k\/Gr (λ_=>False) wr w1 k\/v'.ownBlock=some k)->k≠z:=λk x=>by
  rcases x with x|x|x
  .exact(h.new k x).2
  .have:=r k x;omega
  .intro e;rw[e] at x;exact S x
 have T:Touch (λk=>k=z) w3 (w3.setCell (af7 z 7) v'):=Touch.setCell (F:=λk=>k=z) (Touch.refl _ w3) (p:=af7 z 7) (.inl rfl) _;refine⟨?_,?_,λk x=>⟨?_,f k x⟩,?_⟩
 .have b:g7 w3 z 54 (sp.cs++[v,.int .u64 now]).toArray:=(t.block z aa (λe=>d e.Y)).T (h.blk.K u)
  have:=b.hJ 7 v'
  revert this
  cases sp<;>exact id
 .have:=V.far (ll sp) T (λk x e=>f k x e)
  rw[aM Y];exact this
 .rcases x with x|x|x
  .exact(h.new k x).1
  .have:=r k x;omega
  .rcases ni s k x with e|e
   .exact(h.new k (h.ring.mg k e).1).1
   .omega
 .refine dW (p:=af7 z 7) ?_ Q _
  refine ep (h.below.T (u.M U)) t aa (λk e=>(h.new k (h.ring.mg k e).1).1)
def oy.done(h:oy sp s.now s.L w z (ab0 s.L) v ps Ow G wr)(r:w.heap.size<=z)(u:0<ab0 s.L)(t:ab0 s.L<=60):iV sp s z (Gr (λ_=>False) w wr) wr:=by
 have x:=h.ring;rw[bc (aD _)] at x;exact⟨v,ps,Ow,G,⟨h.blk,x,u,t,λe=>(h.new z e).2 rfl⟩,.inr ⟨r,h.blk.lt⟩,λk y=>.inr ⟨(h.new k y).1,x.low k y⟩,λk y=>y.elim False.elim And.right⟩
def qz{lo:Int}(z:sp.v=iB kd lo hi dg gr ac sz)(v:sp.cs=[.int .u8 kd,af6 lo,af6 hi,af6 dg,.bool gr,af6 ac,af6 sz])(ok:jR sp)(n:Nat)(w:World)(h0:1<=n)(h60:n<=60):af4 af5 34 #[iB kd lo hi dg gr ac sz,af6 n] w λe c=>∃x,e=.returned (aq x)/\iV sp (jM sp n) x (Gr (λ_=>False) w c) c/\af3 w c:=by
 have m:Hid (∀y:World,af4 af5 15 #[.agg #[.int .u8 kd,af6 lo,af6 hi,af6 dg,.bool gr,af6 ac,af6 sz]] y _):=ax (λy=>by rw[show Value.agg #[.int .u8 kd,af6 lo,af6 hi,af6 dg,.bool gr,af6 ac,af6 sz]=sp.v from z.Y];exact m_ y ok);have o:Hid (∀y:World,af4 af5 89 #[.agg #[.int .u8 kd,af6 lo,af6 hi,af6 dg,.bool gr,af6 ac,af6 sz]] y _):=ax (λy=>by rw[show Value.agg #[.int .u8 kd,af6 lo,af6 hi,af6 dg,.bool gr,af6 ac,af6 sz]=sp.v from z.Y];exact Iu y ok);have G:=ax v;clear z v ok;unfold iB;have⟨b,u⟩:=ar (w.heap.size);have⟨M,v⟩:=ar (w.alloc (.cells #[.int .u8 kd,af6 lo,af6 hi,af6 dg,.bool gr,af6 ac,af6 sz] 33));have C:=ao v;have J:=an v u;have hn1:¬(n:Int)<1:=aa;go_in;go_upto_region 1 with fail;try rw[v]
 clear v u;obtain⟨s,q,p,f,d,a,Y⟩:=J.o.c7;go_wp21;refine RX (o.o M) ?_;intro y v;have H:=ax (C.T (v.M C.size));have t:=ax (J.o.K v);clear s q p f d a Y v;have g:b<y.heap.size:=t.o.lt;obtain⟨s,q,p,f,d,a,Y⟩:=t.o.c7;have r:=ax (aB s (aB q (aB p (aB f (aB d (aB a Y))))));have⟨x,u⟩:=ar (y.heap.size);have⟨wc,v⟩:=ar (y.alloc (.cells #[.int .u8 kd,af6 lo,af6 hi,af6 dg,.bool gr,af6 ac,af6 sz,.slice none 0 0,.int .u64 0] 54));have UF:Hid (oy sp 0 (List.replicate n sp.new) y x 0 (.slice none 0 0) [] (λ_ _=>False) (λ_=>False) wc):=by
  refine ax (oy.start ?_ (by rw[<-v];exact bw));rw[G.o,<-v,<-u];exact g7.new _ _ _
 have ZH:=ax u;go_upto_region 4 with fail;try rw[v]
 try rw[u]
 clear v u s q p f d a Y;go_wp2;go_loopg [6] n (λq z wr=>∃(i:Nat) (u:Value) (d:List Nat) (Y:Nat->Ft) (a:Ft),q=n - i/\i<=n/\z=af6 i/\Hid (oy sp 0 (List.replicate n sp.new) y x i u d Y a wr))
 exact⟨0,_,_,_,_,rfl,aa,rfl,UF⟩
 case round=>
  obtain⟨i,u,d,Y,a,v,hile,rfl,z⟩:=hrel;have W:=ax v;clear v;have j:y.heap.size<=x:=by rw[ZH.o];exact aD _
  by_cases hlt:i<n
  .have hji:(i:Int)<(n:Int):=aa
   have h:i<ab0 (List.replicate n sp.new):=by rw[cr];exact hlt
   have q:b<wr.heap.size:=by have:=z.o.below.size;omega
   have L:=ax (by have:=z.o.blk.C 7;rw[G.o] at this;exact this:wr.cell? (af7 x 7)=some u);have l:Hid (wr.frozen? (af7 x 7)=false):=ax (z.o.blk.F 7);have P:x<wr.heap.size:=z.o.blk.lt;have O:¬(u.ownBlock=some x):=λe=>(z.o.new x (z.o.ring.mg x e).1).2 rfl;have f:¬(u.ownBlock=some b):=λe=>by have:=(z.o.new b (z.o.ring.mg b e).1).1;omega
   have Q:ab0 d=i:=by rw[z.o.ring.len,aU,cr];omega
   have v:=z.o.below;have X:=(v.C (p:=af7 b 0) g).T r.o.1;have V:=(v.C (p:=af7 b 1) g).T r.o.2.1;have U:=(v.C (p:=af7 b 2) g).T r.o.2.2.1;have T:=(v.C (p:=af7 b 3) g).T r.o.2.2.2.1;have S:=(v.C (p:=af7 b 4) g).T r.o.2.2.2.2.1;have R:=(v.C (p:=af7 b 5) g).T r.o.2.2.2.2.2.1;have N:=(v.C (p:=af7 b 6) g).T r.o.2.2.2.2.2.2;have s:=ax (aB X (aB V (aB U (aB T (aB S (aB R N))))));clear v X V U T S R N;go_upto_region 7 with fail;have Z:=ax (λ(c:World) (v:(Touch (λk=>u.ownBlock=some k) wr) c)=>(aB ((g9 v 7 P O).T L.o) (aB ((g9 v 0 q f).T s.o.1) (aB ((g9 v 1 q f).T s.o.2.1) (aB ((g9 v 2 q f).T s.o.2.2.1) (aB ((g9 v 3 q f).T s.o.2.2.2.1) (aB ((g9 v 4 q f).T s.o.2.2.2.2.1) (aB ((g9 v 5 q f).T s.o.2.2.2.2.2.1) ((g9 v 6 q f).T s.o.2.2.2.2.2.2)))))))));refine qd (Touch (λk=>u.ownBlock=some k) wr) 11 (pW 0 6 (o_ 6 (o_ 7 (o_ 8 (FH 9 1 (pW 10 1 (o_ 11 []))))))) ((Touch.refl _ _).drew) ?_;iterate 6 refine kz ?_
   refine nC λK v=>?_;go_simp;refine WE (m.o wr.drew) ?_;rintro U V ⟨A,B⟩;have t:af3 wr V:=(aC _ _).drew.T B;have T:Touch (λk=>u.ownBlock=some k) wr V:=Touch.of_below t (aD _);refine v _ _ (T) ?_;refine nC λK v=>?_;have S:=T.alloc (.cells #[aq U] 49);have I:af3 wr _:=t.alloc t.size (.cells #[aq U] 49);go_simp;refine v _ _ (S) ?_;refine nC λK v=>?_;refine yq It (.tmp 30) (.tmp 33) rfl (g8.K z.o.ring.row I) rfl _ [U] rfl (iQ.ig (E:=zP 49) V U _ rfl _ rfl _ rfl) ae (bl _) ?_;intro v8 w8 N R D;have X:Touch (λk=>u.ownBlock=some k) wr w8:=S.grown R (λk e=>.inl e);have F:=ax (z.o.next h j (by rw[eC];exact A) t ((aC _ V).alloc (aD _) _) N R D);obtain⟨A8,c8,rfl,_,_,_⟩:=N.form;clear N R D;go_simp;refine v _ _ (X) ?_;refine sQ ?_;refine kz ?_;refine qc λK v=>?_;have z7':=(g9 X 7 P O).T L.o;have D:=(kU X 7 P O).T l.o;go_simp;refine v _ _ ?_;refine iq ?_;have R:=F.o;simp only[aE,bh,Q] at R;have N:=ax R;clear R F T S X t I A B L l;try refine g6 ?_
   go_wp2;go_roundg (n - (i+1))
   exact⟨i+1,_,_,_,_,rfl,aa,af,N⟩;have:=W.o;omega
  .have hji:¬((i:Int)<(n:Int)):=aa
   obtain rfl:n=i:=aa;go_wp2;go_ret;have Q:ab0 (List.replicate n sp.new)=n:=cr;have p:oy sp (jM sp n).now (jM sp n).L y x (ab0 (jM sp n).L) u d Y a wr:=by
    show oy sp 0 (List.replicate n sp.new) y x (ab0 (List.replicate n sp.new)) u d Y a wr
    rw[Q];exact z.o
   have q:=p.done j (by show 0<ab0 (List.replicate n sp.new);omega) (by show(List.replicate n sp.new).length<=60;omega);have f:=H.o.size;exact⟨x,rfl,(iM sp _ _).more q (λk s=>s.elim False.elim (λh=>.inr ⟨aa,h.2⟩)) (λk s=>s.elim False.elim And.right),H.o.T (z.o.below.M f)⟩
def Pz(n:Nat)(w:World)(ok:jR sp)(z:1<=n)(y:n<=60):af4 af5 34 #[sp.v,af6 n] w λe v=>∃x,e=.returned (aq x)/\iV sp (jM sp n) x (Gr (λ_=>False) w v) v/\af3 w v:=by
 cases sp with
 | h lo hi dg u m gr=>exact qz rfl rfl ok n w z y
 | d a m=>exact qz rfl rfl ok n w z y
 | t d=>exact qz rfl rfl ok n w z y
 | k q=>exact qz rfl rfl ok n w z y
