/- Parts. No condition. -/
import Derived.Test.YtdicblkhpcphfaaGreatPA16
set_option maxRecDepth 100000
set_option maxHeartbeats 0
set_option linter.all false
namespace Go.Proofs.YtdicblkhpcphfaaGreat
open Tryz Go.RowKit Go.Lib Go.Shelf
open _root_.List renaming length→ao
open _root_.Go renaming Calls→ar
open Tryz renaming prog→Oe
namespace D
def mO(x lo hi dg u m:Nat)(gr:Bool)(bk:Nat)(l:List Pr)(F:Ft)(w:World):Prop:=∃g b,gN w x 206 #[.pointer (some ⟨g,0,none⟩),.bool gr,.int .i64 bk,.map (some b),.int .u64 (tot l)]/\mM w g lo hi dg u m/\kU w b l/\F x/\F g/\F b/\∀k,F k->k<w.heap.size
def kq(x lo hi dg u m:Nat)(gr:Bool)(bk:Nat)(l:List Pr):lY (mO x lo hi dg u m gr bk l) where
 stay:=λ⟨g,b,t,s,r,z,y,v,q⟩ p f=>⟨g,b,(p x z).trans t,(p g y).trans s,r.stay (p b v),z,y,v,λk h=>aR (q k h) f⟩
 more:=λ⟨g,b,t,s,r,z,y,v,_⟩ h p=>⟨g,b,t,s,r,h x z,h g y,h b v,p⟩
 low:=λ⟨_,_,_,_,_,_,_,_,q⟩=>q
def PI(a b c:Int)(w:World):(Instr.field 31 (.agg #[.int .i64 a,.int .i64 b,.int .i64 c]) 1).run prog w=.ok (.int .i64 b) w:=by kernel_rfl
section
variable {x lo hi dg u m bk : Nat} {gr : Bool} {l : List Pr} {F : Ft}
def mP(w:World)(h:mO x lo hi dg u m gr bk l F w):ar Oe 118 #[.pointer (some ⟨x,0,none⟩)] w (aw w (.agg #[.int .i64 lo,.int .i64 hi,.int .i64 dg])):=by
 obtain⟨g,c,r,q,_⟩:=h;have C:Hid (∀z,aq w z->_):=ay (λz y=>qR (w:=z) (gN.keep q y))
 obtain⟨b,t⟩:=au (w.heap.size);obtain⟨z,v⟩:=au (w.alloc (.cells #[.int .i64 0,.int .i64 0,.int .i64 0] 31));have y:aq w z:=by rw[<-v];exact bw
 have s:gN z b 31 #[.int .i64 0,.int .i64 0,.int .i64 0]:=by rw[<-v,<-t];exact gN.new _ _ _
 have f:=(r.keep y).k0;have X:=ay (aF y (aF s t));clear q r s y
 go_in
 go_upto_region 1 with fail;clear v t
 go_wp2_with fail;refine(C.o z X.o.1).mono ?_
 rintro e R ⟨rfl,s⟩;have y:=X.o.2.1.keep s;have a:=y.frozen 0;have Y:=y.frozen 1;have V:=y.frozen 2;obtain⟨U,T,S⟩:=y.c3;have v:=ay (aF y s);clear y s
 go_wp2_with fail;have y:=(((v.o.1.gR 0 (.int .i64 lo)).gR 1 (.int .i64 hi)).gR 2 (.int .i64 dg)).cell 0;have s:=(((v.o.1.gR 0 (.int .i64 lo)).gR 1 (.int .i64 hi)).gR 2 (.int .i64 dg)).cell 1;have r:=(((v.o.1.gR 0 (.int .i64 lo)).gR 1 (.int .i64 hi)).gR 2 (.int .i64 dg)).cell 2;simp only[aY,bo,bm,aA,az,aB] at y s r;refine an ?_
 have t:=X.o.2.2;have q:=X.o.1.trans (v.o.2.mono X.o.1.size);exact⟨rfl,((q.setCell (p:=⟨b,0,none⟩) (by show _<=b;omega) _).setCell (p:=⟨b,1,none⟩) (by show _<=b;omega) _).setCell (p:=⟨b,2,none⟩) (by show _<=b;omega) _⟩
def rF(w:World)(h:mO x lo hi dg u m gr bk l F w):ar Oe 119 #[.pointer (some ⟨x,0,none⟩)] w λe v=>e=.returned (.bool gr)/\w=v:=by
 obtain⟨g,b,z,_⟩:=h;have y:=z.k1;clear z
 go_in
 go_wp2
 go_ret;exact⟨rfl,rfl⟩
def Kd(w:World)(h:mO x lo hi dg u m gr bk l F w):ar Oe 55 #[.pointer (some ⟨x,0,none⟩)] w λe v=>e=.returned (.int .u64 (tot l))/\w=v:=by
 obtain⟨g,b,z,_⟩:=h;have y:=z.k4;clear z
 go_in
 go_wp2
 go_ret;exact⟨rfl,rfl⟩
def Ke(w:World)(h:mO x lo hi dg u m gr bk l F w)(ok:qP lo hi dg u m):ar Oe 336 #[.pointer (some ⟨x,0,none⟩)] w (aw w (.int .i64 ((1+im u m hi:Nat):Int))):=by
 obtain⟨g,b,t,y,_⟩:=h;have f:Hid (∀z,aq w z->_):=ay (λz v=>qR (w:=z) (gN.keep y v))
 have d:Hid (∀z,aq w z->_):=ay (λz v=>ot (w:=z) hi (gN.keep y v) ok.um (by have:=ok.h1;omega))
 have r:=ay t;clear y t ok;generalize 1+im u m hi=R at *
 go_in
 go_wp2_with fail;refine i' (aq w) (gW 0 8 (ib 8 (gW 9 1 (ib 10 (gW 11 1 []))))) ((aC _ _).drew) ?_
 iterate 8 refine hC (h:=λs y=>by have v:=(r.o.keep y).cell 0;simp only[aA,az] at v;exact Qv) ?_
 refine iy λK z=>?_
 go_simp;refine(f.o w.drew (aC _ _).drew).mono ?_
 rintro e p ⟨rfl,c⟩;have t:aq w p:=(aC _ _).drew.trans c;refine z _ _ (t) ?_
 clear z K;refine hC (h:=λs y=>by have v:=(r.o.keep y).cell 0;simp only[aA,az] at v;exact Qv) ?_
 refine iy λK z=>?_
 go_simp;refine(d.o p t).mono ?_
 rintro e Y ⟨rfl,a⟩;have q:aq w Y:=t.trans (a.mono t.size);refine z _ _ (q) ?_
 clear z K;refine hC (h:=λs y=>by have v:=(r.o.keep y).cell 0;simp only[aA,az] at v;exact Qv) ?_
 refine gM ?_
 go_wp2
 go_ret;exact⟨rfl,q⟩
def Kf(w:World)(h:mO x lo hi dg u m gr bk l F w)(ok:qP lo hi dg u m)(Q:1<=bk)(P:bk<=64):ar Oe 278 #[.pointer (some ⟨x,0,none⟩)] w (aw w (.int .i64 (i6 u m hi bk))):=by
 have Y:Hid (∀z,aq w z->_):=ay (λz y=>Ke (x:=x) z ((kq x lo hi dg u m gr bk l).keep h y) ok)
 obtain⟨g,b,q,t,_⟩:=h;have s:Hid (i6 u m hi bk=if bk=1+im u m hi then hi else nJ u m bk):=ay rfl
 rw[s.o];have U:Hid (∀z,aq w z->_):=ay (λz y=>qR (w:=z) (gN.keep t y))
 have S:Hid (∀z,aq w z->_):=ay (λz y=>AI (w:=z) bk (gN.keep t y) ok.um Q P)
 have v:=ay q;clear t q ok s;generalize 1+im u m hi=R at *;generalize nJ u m bk=T at *
 by_cases X:bk=R
 ·subst X
  rw[aH rfl];have O:((bk:Int) == (bk:Int))=true:=ad
  have f:=PI
  go_in
  go_wp2_with fail;refine i' (aq w) (gW 0 5 (ib 5 (gW 6 1 []))) ((aC _ _).drew) ?_
  iterate 5 refine hC (h:=λr z=>by have y:=(v.o.keep z).cell 2;simp only[aA,az,aB] at y;exact Qv) ?_
  refine iy λK s=>?_
  go_simp;refine(Y.o w.drew (aC _ _).drew).mono ?_
  rintro e q ⟨rfl,d⟩;have t:aq w q:=(aC _ _).drew.trans d;refine s _ _ (t) ?_
  clear s K;refine hC (h:=λr z=>by have y:=(v.o.keep z).cell 2;simp only[aA,az,aB] at y;exact Qv) ?_
  refine gM ?_
  have p:=(v.o.keep t).k0
  go_wp2_with fail;refine(U.o q t).mono ?_
  rintro e V ⟨rfl,c⟩
  go_wp2
  go_ret;exact⟨rfl,t.trans (c.mono t.size)⟩
 ·rw[aG X]
  have O:((bk:Int) == (R:Int))=false:=af
  go_in
  go_wp2_with fail;refine i' (aq w) (gW 0 5 (ib 5 (gW 6 1 []))) ((aC _ _).drew) ?_
  iterate 5 refine hC (h:=λr z=>by have y:=(v.o.keep z).cell 2;simp only[aA,az,aB] at y;exact Qv) ?_
  refine iy λK s=>?_
  go_simp;refine(Y.o w.drew (aC _ _).drew).mono ?_
  rintro e q ⟨rfl,d⟩;have t:aq w q:=(aC _ _).drew.trans d;refine s _ _ (t) ?_
  clear s K;refine hC (h:=λr z=>by have y:=(v.o.keep z).cell 2;simp only[aA,az,aB] at y;exact Qv) ?_
  refine gM ?_
  go_wp2_with fail;have f:aq w q.drew:=t.drew;refine i' (aq w) (gW 0 8 (ib 8 (gW 9 1 []))) (f) ?_
  iterate 8 refine hC (h:=λr z=>by have p:=(v.o.keep z).cell 0;have y:=(v.o.keep z).k2;simp only[aA,az,aB] at p;exact Qv) ?_
  refine iy λK s=>?_
  go_simp;refine(S.o q.drew f).mono ?_
  rintro e V ⟨rfl,c⟩;have a:aq w V:=f.trans (c.mono f.size);refine s _ _ (a) ?_
  clear s K;refine hC (h:=λr z=>by have p:=(v.o.keep z).cell 0;have y:=(v.o.keep z).k2;simp only[aA,az,aB] at p;exact Qv) ?_
  refine gM ?_
  go_wp2
  go_ret;exact⟨rfl,a⟩
def Ng{lo hi dg u m:Nat}(gr:Bool)(w:World)(ok:qP lo hi dg u m):ar Oe 263 #[.agg #[.int .i64 lo,.int .i64 hi,.int .i64 dg],.bool gr] w λe p=>∃x,e=.returned (.tuple #[.pointer (some ⟨x,0,none⟩),.int .i64 0])/\mO x lo hi dg u m gr (1+im u m hi) [] (Gr (λ_=>False) w p) p/\aq w p:=by
 have L:=@run_makeMap prog;have Y:Hid (∀w,_):=ay (λw=>J7 w ok)
 have V:Hid (∀(t:World) (g:Nat),mM t g lo hi dg u m->_):=ay (λt g h=>ot (w:=t) (g:=g) hi h ok.um (by have:=ok.h1;omega))
 clear ok;generalize 1+im u m hi=R at *;obtain⟨b,y⟩:=au (w.heap.size);obtain⟨v,x⟩:=au (w.alloc (.cells #[.int .i64 lo,.int .i64 hi,.int .i64 dg] 31));have s:aq w v:=by rw[<-x];exact bw
 have z:gN v b 31 #[.int .i64 lo,.int .i64 hi,.int .i64 dg]:=by rw[<-x,<-y];exact gN.new _ _ _
 obtain⟨K,J,I⟩:=z.c3;have X:=ay (aF s (aF z y));clear z s
 go_in
 go_upto_region 1 with fail;clear x y
 go_wp2_with fail;refine(Y.o v).mono ?_
 rintro e t ⟨g,rfl,s,z,y⟩;have N:=(X.o.2.1.keep y).k1;have r:=ay (aF z (aF y s));clear z y s
 go_wp2_with fail;refine(V.o t g r.o.1).mono ?_
 rintro e z ⟨rfl,x⟩;have U:=ay (aF (gN.keep r.o.1 x) x);clear x
 go_wp2
 go_ret2
 obtain⟨f,x⟩:=U.o;obtain⟨_,y,s⟩:=r.o;have d:aq w z:=X.o.1.trans ((y.trans (x.mono y.size)).mono X.o.1.size);have a:=d.size;have Q:w.heap.size<=g:=bf X.o.1.size s;have M:=gN.lt f;have S:aq z (z.alloc (.map #[] 0)):=(aC _ _).alloc (aD _) _;have c:aq z ((z.alloc (.map #[] 0)).alloc (.cells #[.pointer (some ⟨g,0,none⟩),.bool gr,.int .i64 R,.map (some z.heap.size),.int .u64 0] 206)):=S.alloc ad _
 have T:=(PH z).keep ((aC _ _).alloc (aD _) (.cells #[.pointer (some ⟨g,0,none⟩),.bool gr,.int .i64 R,.map (some z.heap.size),.int .u64 0] 206));have O:(z.alloc (.map #[] 0)).heap.size=z.heap.size+1:=ad
 have q:=gN.new (z.alloc (.map #[] 0)) 206 #[.pointer (some ⟨g,0,none⟩),.bool gr,.int .i64 R,.map (some z.heap.size),.int .u64 0];rw[O] at q;have P:=q.lt;exact⟨_,rfl,⟨g,z.heap.size,q,gN.keep f c,T,.inr ⟨by omega,P⟩,.inr ⟨Q,aa⟩,.inr ⟨a,aa⟩,λk h=>h.elim False.elim And.right⟩,d.trans (c.mono a)⟩
end
section
variable {x lo hi dg u m bk : Nat} {gr : Bool} {l : List Pr} {F : Ft}
def Kg(v:Nat)(n:Int)(w:World)(h:mO x lo hi dg u m gr bk l F w)(ok:iG lo hi dg u m gr bk l)(Q:v<9223372036854775808)(n0:0<n)(hn:tot l+n<=4611686018427387904) :
 ar Oe 210 #[.pointer (some ⟨x,0,none⟩),.int .i64 v,.int .u64 n] w λe f=>e=.returned (.tuple #[])/\mO x lo hi dg u m gr (max bk (1+im u m v)) (hO (kh u m v) n l) (Gr F w f) f/\Touch F w f:=by
 obtain⟨g,b,z,y,t,c,d,q,s⟩:=h;have G:=ay (qO v y ok.sh.um ok.sh.mb.1 ok.sh.mb.2 Q);have H:Hid (∀T,mM T g lo hi dg u m->_):=ay (λT h=>ot (w:=T) v h ok.sh.um Q)
 have Zb:=AG ok.sh Q;have A:=ay (pT (kh u m v) n l);have ht0:=gP ok.pos;have hlen:=ok.len;have hc0:=jy (k:=(kh u m v:Int)) ok.pos;have hc1:kn l (kh u m v)<=4611686018427387904:=by
  have:=jy (k:=(kh u m v:Int)) ok.pos
  by_cases a:kn l (kh u m v)=0
  ·omega
  ·obtain⟨p,r,e⟩:=(lV ok.pos _).2 a
   rw[<-e,J2 ok.iJ r];have:=nm ok.pos p r;have:=ok.sum;omega
 have M:=ay (aF ok.iJ ok.pos);have X:=ay (aF z (aF y (aF t (aF c (aF d (aF q s))))));have L:x≠g:=by
  rintro rfl;have:=z.symm.trans y;simp at this
 have P:=(t.ne z).symm;have i:=(t.ne y).symm;have r:=z.k0;have hxl:=z.lt;clear z y t c d q s ok;generalize hix:kh u m v=I at *;generalize im u m v=B at *;have D:Hid (IntKind.u64.wrap (kn l (I:Int)+n)=kn l (I:Int)+n):=ay (by rw[g_];omega)
 have E:Hid (IntKind.u64.wrap (tot l+n)=tot l+n):=ay (by rw[g_];omega)
 have C:Hid (max (bk:Int) (1+(B:Int))=((max bk (1+B):Nat):Int)):=ay aa
 go_in
 go_wp2_with fail;refine(G.o).mono ?_
 rintro e T ⟨rfl,t⟩;have S:=X.o.1.keep t;have R:=X.o.2.2.1.keep t;have K:=S.k3;have hlk:=R.look (k:=(I:Int)) aa  aa
 have o:=D.o
 go_wp2_with (at_mapUpdate;refine Vh rfl _ _ _ rfl R M.o.1 M.o.2 aa  aa  aa n0 aa rfl rfl rfl ?_;intro d O q;have s:gN d x _ _:=(q.block x (by have:=t.size;omega) (λe=>P (by cases e;rfl))).trans S;have J:=s.k4;have W:=s.frozen 4;have j:=E.o)
 have N:mM d g lo hi dg u m:=(q.block g (by have:=gN.lt X.o.2.1;have:=t.size;omega) (λe=>i (by cases e;rfl))).trans (X.o.2.1.keep t)
 obtain⟨z,y⟩:=au (d.setCell ⟨x,4,none⟩ (.int .u64 (tot l+n)));have c:gN z x 206 #[.pointer (some ⟨g,0,none⟩),.bool gr,.int .i64 bk,.map (some b),.int .u64 (tot l+n)]:=by rw[<-y];exact s.gR 4 _
 have V:mM z g lo hi dg u m:=by rw[<-y];exact(bl d ⟨x,4,none⟩ _ g (λe=>L e.symm)).trans N
 have a:kU z b (hO (I:Int) n l):=by rw[<-y];exact O.stay (bl d ⟨x,4,none⟩ _ b (λe=>P e.symm))
 have U:Touch F w z:=by
  rw[<-y];exact((Touch.of_below t (aD _)).trans (xx X.o.2.2.2.2.2.1 q) (λ_ h=>.inl h)).setCell (p:=⟨x,4,none⟩) (.inl X.o.2.2.2.1) _
 rw[y];have Y:=ay (aF c (aF V (aF a U)));clear y c V a U S R O s q J W K hlk N o j;refine ki (aq z) 12 (gW 0 10 (ib 10 (gW 11 1 []))) ((aC _ _).drew) ?_
 iterate 10 refine jw (h:=λf s=>by have r:=(Y.o.1.keep s).cell 0;have q:=(Y.o.1.keep s).k2;simp only[aA,az,aB] at r;exact Qv) ?_
 refine mg λK R=>?_
 go_simp;refine(H.o z.drew (gN.keep Y.o.2.1 (aC _ _).drew)).mono ?_
 rintro e S ⟨rfl,N⟩;have y:aq z S:=(aC _ _).drew.trans N;refine R _ _ (y) ?_
 clear R K;refine jw (h:=λf s=>by have r:=(Y.o.1.keep s).cell 0;have q:=(Y.o.1.keep s).k2;simp only[aA,az,aB] at r;exact Qv) ?_
 refine gU ?_
 simp only[bc,bp];have q:=(Y.o.1.keep y).k2;have J:=(Y.o.1.keep y).frozen 2
 go_wp2_with fail;refine gQ ?_
 go_wp2_with fail;refine cp (v:=.tuple #[]) (by simp[results,Tryz.results210,go_sem, *];try rfl) rfl ?_
 rw[C.o];obtain⟨c,V,a,U⟩:=Y.o;have s:=(U.trans (Touch.of_below (F:=F) y (aD _)) (λ_ h=>.inl h)).setCell (p:=⟨x,2,none⟩) (.inl X.o.2.2.2.1) (.int .i64 ((max bk (1+B):Nat):Int))
 have O:=(c.keep y).gR 2 (.int .i64 ((max bk (1+B):Nat):Int));refine⟨rfl,⟨g,b,?_,?_,?_,.inl X.o.2.2.2.1,.inl X.o.2.2.2.2.1,.inl X.o.2.2.2.2.2.1,ke X.o.2.2.2.2.2.2 s.size⟩,s⟩
 ·rw[A.o];exact O
 ·exact(bl S ⟨x,2,none⟩ _ g (λe=>L e.symm)).trans (gN.keep V y)
 ·exact(a.keep y).stay (bl S ⟨x,2,none⟩ _ b (λe=>P e.symm))
def Kh(v n:Int)(w:World)(h:mO x lo hi dg u m gr bk l F w)(ok:iG lo hi dg u m gr bk l)(j:-9223372036854775808<=v)(o:v<=9223372036854775807)(B:0<=n)(A:n<18446744073709551616) :
 ar Oe 209 #[.pointer (some ⟨x,0,none⟩),.int .i64 v,.int .u64 n] w (aw w (.int .i64 (hsE u m gr bk l v n))):=by
 have H:Hid (hsE u m gr bk l v n=if n=0 then 4 else if v<0 then 5 else if gr=false/\(nJ u m bk:Int)<v then 5 else if 4611686018427387904<tot l+n then 6 else 0):=ay rfl
 obtain⟨g,b,t,s,_⟩:=h;have N:Hid (∀z,aq w z->_):=ay (λz y=>AI (w:=z) bk (gN.keep s y) ok.sh.um ok.b0 ok.b1)
 have y:=ay t;have D:=gP ok.pos;have C:=ok.sum;clear t s ok;generalize nJ u m bk=T at *;generalize tot l=t at *;have J:Hid (IntKind.u64.wrap (4611686018427387904 - t)=4611686018427387904 - t):=ay (by rw[g_];omega)
 rw[H.o]
 by_cases I:n=0
 ·subst I
  rw[aH rfl]
  go_in
  go_wp2
  go_ret;exact⟨rfl,aC _ _⟩
 rw[aG I];have E:(n == 0)=false:=af
 by_cases X:v<0
 ·rw[aH X]
  go_in
  go_upto_region 3 with fail;refine i' (aq w) (gW 0 23 []) ((aC _ _).drew) ?_
  iterate 3 refine hC ?_
  iterate 18 (refine jI ?_;try go_simp)
  iterate 2 refine hC ?_
  refine gM ?_
  go_wp2
  go_ret;exact⟨rfl,(aC _ _).drew⟩
 rw[aG X];obtain⟨S,z⟩:∃S:Int,(if 4611686018427387904<t+n then(6:Int) else 0)=S:=⟨_,rfl⟩
 rw[z];have a:=ay z;clear z;have c:Hid (4611686018427387904<t+n<->4611686018427387904 - t<n):=ay aa
 have d:aq w w.drew:=(aC _ _).drew
 by_cases Y:(T:Int)<v
 ·cases gr
  ·rw[aH ⟨rfl,Y⟩]
   clear c a
   go_in
   go_upto_region 3 with fail;refine i' (aq w) (gW 0 12 (ib 12 (gW 13 10 []))) (d) ?_
   iterate 12 refine hC (h:=λU z=>by have Q:=X;have R:=Y;have r:=(y.o.keep z).k0;have q:=(y.o.keep z).k1;have p:=(y.o.keep z).k2;exact Qv) ?_
   refine iy λK V=>?_
   go_simp;refine(N.o w.drew d).mono ?_
   rintro e O ⟨rfl,P⟩;have f:aq w O:=d.trans P;refine V _ _ (f) ?_
   clear V K
   iterate 10 refine hC (h:=λU z=>by have Q:=X;have R:=Y;have r:=(y.o.keep z).k0;have q:=(y.o.keep z).k1;have p:=(y.o.keep z).k2;exact Qv) ?_
   refine gM ?_
   go_wp2
   go_ret;exact⟨rfl,f⟩
  ·rw[aG (λh=>by cases h.1)]
   go_in
   go_upto_region 3 with fail;refine i' (aq w) (gW 0 12 (ib 12 (gW 13 10 []))) (d) ?_
   iterate 12 refine hC (h:=λU z=>by have Q:=X;have R:=Y;have r:=(y.o.keep z).k0;have q:=(y.o.keep z).k1;have p:=(y.o.keep z).k2;exact Qv) ?_
   refine iy λK V=>?_
   go_simp;refine(N.o w.drew d).mono ?_
   rintro e O ⟨rfl,P⟩;have f:aq w O:=d.trans P;refine V _ _ (f) ?_
   clear V K
   iterate 10 refine hC (h:=λU z=>by have Q:=X;have R:=Y;have r:=(y.o.keep z).k0;have q:=(y.o.keep z).k1;have p:=(y.o.keep z).k2;exact Qv) ?_
   refine gM ?_
   have L:=(y.o.keep f).k4;have G:=J.o
   by_cases s:4611686018427387904<t+n
   ·have M:4611686018427387904 - t<n:=c.o.1 s
    obtain rfl:S=6:=by rw[<-a.o,aH s]
    clear c a s
    go_wp2
    go_ret;exact⟨rfl,f⟩
   ·have M:¬4611686018427387904 - t<n:=λh=>s (c.o.2 h)
    obtain rfl:S=0:=by rw[<-a.o,aG s]
    clear c a s
    go_wp2
    go_ret;exact⟨rfl,f⟩
 ·rw[aG (λh=>Y h.2)]
  go_in
  go_upto_region 3 with fail;refine i' (aq w) (gW 0 12 (ib 12 (gW 13 10 []))) (d) ?_
  iterate 12 refine hC (h:=λU z=>by have Q:=X;have R:=Y;have r:=(y.o.keep z).k0;have q:=(y.o.keep z).k1;have p:=(y.o.keep z).k2;exact Qv) ?_
  refine iy λK V=>?_
  go_simp;refine(N.o w.drew d).mono ?_
  rintro e O ⟨rfl,P⟩;have f:aq w O:=d.trans P;refine V _ _ (f) ?_
  clear V K
  iterate 2 refine hC (h:=λU z=>by have Q:=X;have R:=Y;have r:=(y.o.keep z).k0;have q:=(y.o.keep z).k1;have p:=(y.o.keep z).k2;exact Qv) ?_
  iterate 5 (refine jI ?_;try go_simp)
  iterate 3 refine hC (h:=λU z=>by have Q:=X;have R:=Y;have r:=(y.o.keep z).k0;have q:=(y.o.keep z).k1;have p:=(y.o.keep z).k2;exact Qv) ?_
  refine gM ?_
  have L:=(y.o.keep f).k4;have G:=J.o
  by_cases s:4611686018427387904<t+n
  ·have M:4611686018427387904 - t<n:=c.o.1 s
   obtain rfl:S=6:=by rw[<-a.o,aH s]
   clear c a s
   go_wp2
   go_ret;exact⟨rfl,f⟩
  ·have M:¬4611686018427387904 - t<n:=λh=>s (c.o.2 h)
   obtain rfl:S=0:=by rw[<-a.o,aG s]
   clear c a s
   go_wp2
   go_ret;exact⟨rfl,f⟩
def G7(v n:Int)(w:World)(h:mO x lo hi dg u m gr bk l F w)(ok:iG lo hi dg u m gr bk l)(T:-9223372036854775808<=v)(S:v<=9223372036854775807)(V:0<=n)(U:n<18446744073709551616) :
 ar Oe 130 #[.pointer (some ⟨x,0,none⟩),.int .i64 v,.int .u64 n] w (tk (mO x lo hi dg u m gr (hsB u m gr bk l v n) (hsL u m gr bk l v n)) F (hsE u m gr bk l v n) w):=by
 have c:=ay h;have r:=ay (Kh v n w h ok T S V U);have p:Hid (hsL u m gr bk l v n=if hsE u m gr bk l v n=0 then hO (kh u m v.toNat) n l else l):=ay rfl
 have q:Hid (hsB u m gr bk l v n=if hsE u m gr bk l v n=0 then max bk (1+im u m v.toNat) else bk):=ay rfl
 rw[p.o,q.o]
 by_cases y:hsE u m gr bk l v n=0
 ·have t:0<n/\0<=v/\tot l+n<=4611686018427387904:=by
   unfold hsE at y
   (repeat' split at y)<;>omega
  obtain⟨z,rfl⟩:=bL t.2.1;have d:Hid (∀s,aq w s->_):=ay (λs g=>Kg (x:=x) z n s ((kq x lo hi dg u m gr bk l).keep h g) ok aa t.1 t.2.2)
  rw[aH y,aH y];rw[y] at r |-;simp only[bM];have X:=(kq x lo hi dg u m gr bk l).low h;clear p q y t h ok
  go_in
  go_wp2_with fail;refine(r.o).mono ?_
  rintro e s ⟨rfl,t⟩
  go_wp2_with fail;refine(d.o s t).mono ?_
  rintro e R ⟨rfl,Y,f⟩
  go_wp2
  go_ret;refine⟨rfl,?_,yE t f⟩
  refine(kq x lo hi dg u m gr _ _).more Y (λk g=>?_) (ke X (yE t f).size)
  rcases g with g|⟨a,b⟩
  ·exact .inl g
  ·exact .inr ⟨bf t.size a,b⟩
 ·rw[aG y,aG y]
  have g:(hsE u m gr bk l v n == 0)=false:=by simpa using y
  clear p q h ok;generalize hsE u m gr bk l v n=z at *
  go_in
  go_wp2_with fail;refine(r.o).mono ?_
  rintro e s ⟨rfl,t⟩
  go_wp2
  go_ret;exact kj (kq x lo hi dg u m gr bk l) c.o rfl t
end
end D
namespace K
variable{x:Int}{B l vs:List Int}{h j k len:Nat}
def ins(v:Int):List Int->List Int
 | []=>[v]
 | y::l=>if v<y then v::y::l else y::ins v l
def insL(l vs:List Int):List Int:=vs.foldl (λl v=>ins v l) l
abbrev mQ(l:List Int):Prop:=l.Pairwise (λa b=>a<=b)
def rG(v:Int):∀l,(ins v l).Perm (v::l)
 | []=>.refl _
 | y::l=>by
  unfold ins
  split
  ·exact .refl _
  ·exact((rG v l).cons y).trans (List.Perm.swap v y l)
def Nh{v:Int}:x∈ins v l<->x=v\/x∈l:=by rw[(rG v l).mem_iff,aS]
def qz(v:Int)(l:List Int):ao (ins v l)=ao l+1:=(rG v l).length_eq
def Fc(v:Int):∀{l:List Int},mQ l->mQ (ins v l)
 | [],_=>by simp[ins]
 | y::l,h=>by
  have u:=aT.1 h;unfold ins
  split
  ·rename_i t
   exact aT.2 ⟨λz x=>by
    rcases aS.1 x with rfl|x
    ·omega
    ·have:=u.1 z x;omega,h⟩
  ·rename_i t
   refine aT.2 ⟨λz x=>?_,Fc v u.2⟩
   rcases Nh.1 x with rfl|x
   ·omega
   ·exact u.1 z x
def Ki(l:List Int):insL l []=l:=rfl
def G8(l:List Int)(v:Int)(z:List Int):insL l (v::z)=insL (ins v l) z:=rfl
def AJ(l a b:List Int):insL l (a++b)=insL (insL l a) b:=eo
def p9:∀(vs l:List Int),(insL l vs).Perm (l++vs)
 | [],l=>by rw[bT];exact .refl _
 | v::vs,l=>by
  rw[G8];refine(p9 vs (ins v l)).trans (((rG v l).append_right vs).trans ?_)
  exact List.perm_middle.symm
def pr(l z:List Int):ao (insL l z)=ao l+ao z:=by rw[(p9 z l).length_eq,aE]
def Kj:x∈insL l vs<->x∈l\/x∈vs:=by rw[(p9 vs l).mem_iff,cV]
def uY(h:mQ l):∀(vs:List Int),mQ (insL l vs):=by
 intro vs
 induction vs generalizing l with
 | nil=>exact h
 | cons v vs ih=>exact ih (Fc v h)
def uZ:∀{a b:List Int},a.Perm b->mQ a->mQ b->a=b
 | [],b,p,_,_=>(List.nil_perm.1 p).symm
 | x::a,b,p,ha,hb=>by
  cases b with
  | nil=>exact absurd p.length_eq ad
  | cons y b=>
   have v:=aT.1 ha;have u:=aT.1 hb;have e:x=y:=by
    have t:x∈y::b:=p.subset (aK ..);have s:y∈x::a:=p.symm.subset (aK ..)
    rcases aS.1 t with h|h
    ·exact h
    ·rcases aS.1 s with z|z
     ·exact z.symm
     ·have:=v.1 y z
      have:=u.1 x h;omega
   subst e;rw[uZ ((List.perm_cons x).1 p) v.2 u.2]
def AK(l:List Int):mQ (l.mergeSort λx y=>decide (x<=y)):=by
 have h:=List.pairwise_mergeSort (le:=λx y:Int=>decide (x<=y)) (λa b c z y=>by simp only[a_] at *;omega) (λa b=>by simp only[Bool.or_eq_true,a_];omega) l
 exact h.imp (λh=>by simpa using h)
def Kk(h:mQ l)(z:List Int):((l++z).mergeSort λx y=>decide (x<=y))=insL l z:=
 uZ ((fE _ _).trans (p9 z l).symm) (AK _) (uY h z)
abbrev LL:=List (List Int)
def ext(L:LL)(h:Nat):LL:=L++List.replicate (h+1 - ao L) []
def lvl(L:LL)(h:Nat):List Int:=L.getD h []
def kk(L:LL)(h:Nat)(vs:List Int):LL:=(ext L h).set h (insL (lvl L h) vs)
def lu(L:LL)(h:Nat):ao (ext L h)=max (ao L) (h+1):=by
 unfold ext;rw[aE,gu];omega
def rH(L:LL)(h j:Nat):lvl (ext L h) j=lvl L j:=by
 unfold lvl ext;simp only[List.getD]
 rcases bg j (ao L) with z|z
 ·rw[cO z]
 ·rw[cU z,eQ,dm z]
  split<;>rfl
def nL{L:LL}(h:ao L<=j):lvl L j=[]:=by
 unfold lvl;rw[List.getD,dm h];rfl
def jX{L:LL}(h:j<ao L):lvl L j=L[j]:=by
 unfold lvl;rw[List.getD,aQ h];rfl
def mn(L:LL)(h j:Nat)(l:List Int)(y:h<ao L):lvl (L.set h l) j=if j=h then l else lvl L j:=by
 unfold lvl;simp only[List.getD];rw[List.getElem?_set]
 by_cases e:h=j
 ·subst e;rw[aH rfl,aH rfl,aH y];rfl
 ·rw[aG e,aG (λz=>e z.symm)]
def iF(L:LL)(h:Nat)(z:List Int):ao (kk L h z)=max (ao L) (h+1):=by
 unfold kk;rw[bD,lu]
def kL(L:LL)(h j:Nat)(z:List Int):lvl (kk L h z) j=if j=h then insL (lvl L h) z else lvl L j:=by
 unfold kk;rw[mn _ _ _ _ (by rw[lu];omega),rH]
def Kl{A B:LL}(x:ao A=ao B)(h:∀j,j<ao A->lvl A j=lvl B j):A=B:=
 List.ext_getElem x λi z y=>by rw[<-jX z,<-jX y];exact h i z
def xy(L:LL)(h:Nat)(a b:List Int):kk (kk L h a) h b=kk L h (a++b):=by
 refine Kl (by rw[iF,iF,iF];omega) λj _=>?_
 rw[kL,kL,kL,kL]
 by_cases e:j=h
 ·rw[aH e,aH e,aH rfl,AJ]
 ·rw[aG e,aG e,aG e]
def cnt(L:LL):Nat:=(L.map List.length).sum
def mR:Nat->LL->Nat
 | _,[]=>0
 | w,l::L=>ao l * w+mR (2 * w) L
def wt(L:LL):Nat:=mR 1 L
def mS(A B:LL):cnt (A++B)=cnt A+cnt B:=by simp[cnt]
def lP(l:List Int)(L:LL):cnt (l::L)=ao l+cnt L:=by simp[cnt]
def Ni(n:Nat):cnt (List.replicate n [])=0:=by simp[cnt]
def Nj(L:LL)(h:Nat):cnt (ext L h)=cnt L:=by rw[ext,mS,Ni];rfl
def tE:∀(L:LL) (h:Nat) (_:h<ao L) (l:List Int),cnt (L.set h l)+ao (lvl L h)=cnt L+ao l
 | x::L,0,_,l=>by rw[bo,lP,lP];simp only[lvl,d_];omega
 | x::L,h+1,hh,l=>by
  have:=tE L h (by simpa using hh) l
  rw[bm,lP,lP];simp only[lvl,eK] at this |-;omega
def mo(L:LL)(h:Nat)(z:List Int):cnt (kk L h z)=cnt L+ao z:=by
 have y:=tE (ext L h) h (by rw[lu];omega) (insL (lvl L h) z)
 rw[rH,pr,Nj] at y;unfold kk;omega
def hD:∀(L:LL) (h:Nat),ao (lvl L h)<=cnt L
 | [],h=>by simp[lvl]
 | x::L,0=>by rw[lP];simp only[lvl,d_];omega
 | x::L,h+1=>by
  have:=hD L h;rw[lP];simp only[lvl,eK] at this |-;omega
def mT:∀(w:Nat) (A B:LL),mR w (A++B)=mR w A+mR (2 ^ ao A * w) B
 | w,[],B=>by simp[mR]
 | w,a::A,B=>by
  rw[b8,mR,mT (2 * w) A B,mR,aJ,b_,dB,cX]
def Fe:∀(n w:Nat),mR w (List.replicate n [])=0
 | 0,_=>rfl
 | n+1,w=>by rw[ec,mR,Fe n];simp
def PJ(L:LL)(h:Nat):wt (ext L h)=wt L:=by unfold wt;rw[ext,mT,Fe];rfl
def yM:∀(L:LL) (w h:Nat) (_:h<ao L) (l:List Int),mR w (L.set h l)+ao (lvl L h) * (2 ^ h * w)=mR w L+ao l * (2 ^ h * w)
 | x::L,w,0,_,l=>by
  rw[bo,mR,mR];simp only[lvl,d_,gE,f'];omega
 | x::L,w,h+1,hh,l=>by
  have:=yM L (2 * w) h (by simpa using hh) l
  rw[bm,mR,mR,b_,dB (2 ^ h) 2 w];simp only[lvl,eK] at this |-;omega
def Df(L:LL)(h:Nat)(z:List Int):wt (kk L h z)=wt L+ao z * 2 ^ h:=by
 have y:=yM (ext L h) 1 h (by rw[lu];omega) (insL (lvl L h) z)
 rw[rH,pr,c_,dS] at y;have x:=PJ L h;unfold wt at x |-;unfold kk;omega
def PK(L:LL)(h:Nat)(z:h<ao L)(l:List Int):wt (L.set h l)+ao (lvl L h) * 2 ^ h=wt L+ao l * 2 ^ h:=by
 have:=yM L 1 h z l;rw[c_] at this;exact this
def Dh:∀(L:LL) (w h:Nat),ao (lvl L h) * (2 ^ h * w)<=mR w L
 | [],w,h=>by simp[lvl,mR]
 | x::L,w,0=>by rw[mR];simp only[lvl,d_,gE,f'];omega
 | x::L,w,h+1=>by
  have:=Dh L (2 * w) h;rw[mR,b_,dB (2 ^ h) 2 w];simp only[lvl,eK] at this |-;omega
def thin(c:Nat):Nat:=(2 * c+2) / 3
def l5:Nat->Nat->Nat
 | 0,c=>c
 | j+1,c=>l5 j (thin c)
def room(k len h:Nat):Nat:=if h<len then max (l5 (len - 1 - h) k) 2 else 0
def rI:∀(j c:Nat),2<=c->l5 j c<=c/\2<=l5 j c
 | 0,c,h=>⟨aD _,h⟩
 | j+1,c,h=>by
  have y:thin c<=c:=by unfold thin;omega
  have z:2<=thin c:=by unfold thin;omega
  have:=rI j (thin c) z;rw[l5];omega
def room_le(z:2<=k):room k len h<=k:=by
 unfold room;have:=rI (len - 1 - h) k z
 split<;>omega
def tF(z:h<len):2<=room k len h:=by
 unfold room;rw[aH z];omega
def yN(k:Nat)(L:LL)(h:Nat):Bool:=decide (room k (ao L) h<ao (lvl L h))
def iY(k:Nat)(L:LL):Option Nat:=(List.range (ao L)).find? (yN k L)
def Km(l:List Int)(G9:Nat):List Int:=(List.range (ao l / 2)).map λi=>l.getD (2 * i+G9) 0
def lQ(l:List Int):List Int:=l.drop (2 * (ao l / 2))
def k_(L:LL)(h G9:Nat):LL:=kk (L.set h (lQ (lvl L h))) (h+1) (Km (lvl L h) G9)
def ow(l:List Int)(c:Nat):ao (Km l c)=ao l / 2:=by simp[Km]
def pt(l:List Int):ao (lQ l)=ao l % 2:=by unfold lQ;rw[aZ];omega
def kx{L:LL}(e:iY k L=some h):h<ao L/\room k (ao L) h<ao (lvl L h)/\∀j,j<h->ao (lvl L j)<=room k (ao L) j:=by
 unfold iY at e;obtain⟨u,z,p,y,t⟩:=List.find?_eq_some_iff_append.1 e;have q:h∈List.range (ao L):=by rw[y];simp
 have g:ao z=h:=by
  have x:ao z<ao (List.range (ao L)):=by rw[y];simp
  have:(List.range (ao L))[ao z]'x=h:=by simp[y]
  rw[List.getElem_range] at this;exact this
 refine⟨ep.1 q,by simpa[yN] using u,λj v=>?_⟩
 have s:j∈z:=by
  have x:j<ao z:=aa
  have:z[j]=j:=by
   have v:(z++h::p)[j]' af =z[j]:=dY x
   rw[<-v];have r:j<ao (List.range (ao L)):=by rw[y];simp;omega
   have:(List.range (ao L))[j]'r=j:=ad
   simpa[y] using this
  rw[<-this];exact aX x
 have:=t j s
 simpa[yN] using this
def qS{L:LL}(e:iY k L=none):∀j,j<ao L->ao (lvl L j)<=room k (ao L) j:=by
 intro j z;have:=List.find?_eq_none.1 e j (ep.2 z)
 simpa[yN] using this
def AL{L:LL}(y:h<ao L)(t:room k (ao L) h<ao (lvl L h))(x:∀j,j<h->ao (lvl L j)<=room k (ao L) j):iY k L=some h:=by
 cases e:iY k L with
 | none=>have:=qS e h y;omega
 | some h'=>
  obtain⟨v,u,z⟩:=kx e
  rcases Nat.lt_trichotomy h h' with c|c|c
  ·have:=z h c;omega
  ·rw[c]
  ·have:=x h' c;omega
def nr{L:LL}(h:∀j,j<ao L->ao (lvl L j)<=room k (ao L) j):iY k L=none:=by
 cases e:iY k L with
 | none=>rfl
 | some h'=>
  obtain⟨z,y,_⟩:=kx e;have:=h h' z;omega
def xz{L:LL}(y:h<ao L)(c:Nat):cnt (k_ L h c)+ao (lvl L h) / 2=cnt L:=by
 have z:=tE L h y (lQ (lvl L h));rw[pt] at z;unfold k_;rw[mo,ow];omega
def AM{L:LL}(y:h<ao L)(c:Nat):wt (k_ L h c)=wt L:=by
 have z:=PK L h y (lQ (lvl L h));rw[pt] at z;unfold k_;rw[Df,ow,b_];have x:ao (lvl L h) * 2 ^ h=ao (lvl L h) % 2 * 2 ^ h+ao (lvl L h) / 2 * (2 ^ h * 2):=by
  conv=>lhs;rw[<-Nat.mod_add_div (ao (lvl L h)) 2]
  rw[dS,cL 2,dB,cL 2]
 omega
def yO(L:LL)(h c:Nat):ao (k_ L h c)=max (ao L) (h+2):=by unfold k_;rw[iF,bD]
def iB(B:List Int)(a:Nat):Nat:=if a<8 * ao B then(B.getD (a / 8) 0 / 2 ^ (a % 8) % 2).toNat else 0
def jh(B:List Int)(a:Nat):Nat:=if a<8 * ao B then a+1 else a
def p_(B:List Int)(a:Nat):iB B a<=1:=by
 unfold iB
 split
 ·have:=cH (B.getD (a / 8) 0 / 2 ^ (a % 8)) (show(0:Int)<2 by decide)
  omega
 ·omega
abbrev KS:=LL × Nat × Nat
def j8(B:List Int)(h:Nat)(s:KS):KS:=(k_ s.1 h (iB B s.2.2),min (s.2.1+2 ^ h) 4611686018427387904,jh B s.2.2)
def rJ(k:Nat)(B:List Int):Nat->KS->KS
 | 0,s=>s
 | f+1,s=>match iY k s.1 with
  | none=>s
  | some h=>rJ k B f (j8 B h s)
def iK(k:Nat)(B:List Int)(s:KS):KS:=rJ k B (cnt s.1) s
def mA{s:KS}(e:iY k s.1=some h):cnt (j8 B h s).1+1<=cnt s.1:=by
 obtain⟨z,y,_⟩:=kx e;have:=tF (k:=k) z;have:=xz z (iB B s.2.2);show cnt (k_ s.1 h (iB B s.2.2))+1<=_
 omega
def u_(k:Nat)(B:List Int):∀(f g:Nat) (s:KS),cnt s.1<=f->f<=g->rJ k B g s=rJ k B f s
 | 0,g,s,h1,_=>by
  have e:iY k s.1=none:=by
   cases e:iY k s.1 with
   | none=>rfl
   | some h=>have:=mA (B:=B) e;omega
  cases g with
  | zero=>rfl
  | succ g=>simp only[rJ,e]
 | f+1,g,s,h1,h2=>by
  obtain⟨g,rfl⟩:∃z,g=z+1:=⟨g - 1,aa⟩
  simp only[rJ]
  cases e:iY k s.1 with
  | none=>rfl
  | some h=>
   have:=mA (B:=B) e;exact u_ k B f g _ aa  aa
def ox{s:KS}(e:iY k s.1=none):iK k B s=s:=by
 unfold iK
 cases h:cnt s.1 with
 | zero=>rfl
 | succ f=>simp only[rJ,e]
def qT{s:KS}(e:iY k s.1=some h):iK k B s=iK k B (j8 B h s):=by
 have x:=mA (B:=B) e;have z:iK k B s=rJ k B (cnt s.1 - 1) (j8 B h s):=by
  unfold iK;obtain⟨f,y⟩:∃f,cnt s.1=f+1:=⟨cnt s.1 - 1,aa⟩
  rw[y];simp only[rJ,e];rfl
 rw[z];exact u_ k B _ _ _ (aD _) aa
def su{k:Nat}{B:List Int}{P:KS->Prop}(z:∀s h,P s->iY k s.1=some h->P (j8 B h s)):∀(n:Nat) (s:KS),cnt s.1<=n->P s->P (iK k B s)/\iY k (iK k B s).1=none
 | n,s,hn,hs=>by
  cases e:iY k s.1 with
  | none=>rw[ox e];exact⟨hs,e⟩
  | some h=>
   have y:=mA (B:=B) e;rw[qT e]
   match n,hn with
   | 0,hn=>omega
   | n+1,hn=>exact su z n _ aa (z s h hs e)
def qU{P:KS->Prop}(y:∀s h,P s->iY k s.1=some h->P (j8 B h s)){s:KS}(z:P s):P (iK k B s):=(su y _ s (aD _) z).1
def Di(k:Nat)(B:List Int)(s:KS):iY k (iK k B s).1=none:=(su (P:=λ_=>True) (λ_ _ _ _=>trivial) _ s (aD _) trivial).2
def mq:Nat->Nat->Nat->LL->Int->LL
 | 0,_,_,L,_=>L
 | f+1,h,m,L,v=>if m=0 then L else mq f (h+1) (m / 2) (if m % 2=1 then kk L h [v] else L) v
def iU(L:LL)(v:Int)(n:Nat):LL:=mq 64 0 n L v
def sv:∀(f h:Nat) (L:LL) (v:Int),mq f h 0 L v=L
 | 0,_,_,_=>rfl
 | f+1,_,_,_=>by rw[mq,aH rfl]
def Ff:∀(f h m:Nat) (L:LL) (v:Int),m<2 ^ f->wt (mq f h m L v)=wt L+m * 2 ^ h
 | 0,h,m,L,v,hm=>by
  obtain rfl:m=0:=aa
  simp[mq]
 | f+1,h,m,L,v,hm=>by
  rw[mq]
  by_cases z:m=0
  ·rw[aH z,z];simp
  ·rw[aG z,Ff f (h+1) (m / 2) _ v (by rw[b_] at hm;omega)]
   have e:m * 2 ^ h=m % 2 * 2 ^ h+m / 2 * 2 ^ (h+1):=by
    conv=>lhs;rw[<-Nat.mod_add_div m 2]
    rw[dS,b_,cL 2 (m / 2),dB,cL 2]
   split
   ·rename_i y
    rw[Df,e,y];simp only[bu];omega
   ·have:m % 2=0:=aa
    rw[e,this];omega
def yP{n:Nat}(L:LL)(v:Int)(z:n<18446744073709551616):wt (iU L v n)=wt L+n:=by
 unfold iU;rw[Ff 64 0 n L v aa];simp
def AN:∀(f h m:Nat) (L:LL) (v:Int),cnt (mq f h m L v)<=cnt L+f
 | 0,h,m,L,v=>aD _
 | f+1,h,m,L,v=>by
  rw[mq]
  split
  ·omega
  ·refine bf (AN f _ _ _ v) ?_
   split
   ·rw[mo];simp only[bu];omega
   ·omega
def Kn(L:LL)(v:Int)(n:Nat):cnt (iU L v n)<=cnt L+64:=AN 64 0 n L v
def sw{P:LL->Prop}{v:Int}(z:∀L h,P L->P (kk L h [v])):∀(f h m:Nat) (L:LL),P L->P (mq f h m L v)
 | 0,_,_,_,hp=>hp
 | f+1,h,m,L,hp=>by
  rw[mq]
  split
  ·exact hp
  ·refine sw z f _ _ _ ?_
   split
   ·exact z L h hp
   ·exact hp
def AO(L:LL):Prop:=0<ao L->lvl L (ao L - 1)≠[]
def tG(h:vs≠[]\/l≠[]):insL l vs≠[]:=by
 intro e;have:=bq List.length e;rw[pr,aV] at this
 rcases h with h|h
 ·exact h (aN aa)
 ·exact h (aN aa)
def AO.put{L:LL}(z:AO L)(h:Nat)(y:vs≠[]):AO (kk L h vs):=by
 intro x;rw[iF,kL]
 split
 ·exact tG (.inl y)
 ·rename_i v
  have:max (ao L) (h+1)=ao L:=aa
  rw[this];exact z aa
def AO.pack{L:LL}(y:AO L)(z:h<ao L)(v:2<=ao (lvl L h))(c:Nat):AO (k_ L h c):=by
 intro x;rw[yO];unfold k_;rw[kL]
 split
 ·refine tG (.inl λe=>?_)
  have:=bq List.length e;rw[ow,aV] at this;omega
 ·rename_i u
  rw[mn _ _ _ _ z,aG aa,show max (ao L) (h+2)=ao L by omega]
  exact y aa
def AO.add{L:LL}(y:AO L)(v:Int)(n:Nat):AO (iU L v n):=sw (λ_ h z=>z.put h ad) 64 0 n L y
def Nk{L:LL}(v:AO L)(u:wt L<=281474976710656):ao L<=49:=by
 rcases bh (ao L) with z|z
 ·omega
 ·have t:=Dh L 1 (ao L - 1)
  have x:1<=ao (lvl L (ao L - 1)):=eL.2 (v z)
  rcases bg 49 (ao L) with y|y
  ·exfalso
   have s:2 ^ 49<=2 ^ (ao L - 1):=bJ ab aa
   have r:1 * (2 ^ (ao L - 1) * 1)<=ao (lvl L (ao L - 1)) * (2 ^ (ao L - 1) * 1):=cd _ x;unfold wt at u;omega
  ·exact y
def takeN(M:LL):Nat->LL->LL
 | 0,L=>L
 | j+1,L=>kk (takeN M j L) j (lvl M j)
def jS(L M:LL):LL:=takeN M (ao M) L
def AP(M L:LL):∀j,j<=ao M->wt (takeN M j L)=wt L+mR 1 (M.take j)
 | 0,_=>by simp[takeN,mR]
 | j+1,hj=>by
  rw[takeN,Df,AP M L j aa,aM aa,mT,aU,dk aa,jX aa]
  simp[mR,cX]
def rK(L M:LL):wt (jS L M)=wt L+wt M:=by
 unfold jS;rw[AP M L (ao M) (aD _),bN];rfl
def p'(M L:LL):∀j,j<=ao M->cnt (takeN M j L)=cnt L+cnt (M.take j)
 | 0,_=>by simp[takeN,cnt]
 | j+1,hj=>by
  rw[takeN,mo,p' M L j aa,aM aa,mS,jX aa]
  simp[cnt,cX]
def G_(L M:LL):cnt (jS L M)=cnt L+cnt M:=by
 unfold jS;rw[p' M L (ao M) (aD _),bN]
def kM(M L:LL):∀j,ao (takeN M j L)=max (ao L) j
 | 0=>by simp[takeN]
 | j+1=>by rw[takeN,iF,kM M L j];omega
def qa(M L:LL):∀j i,lvl (takeN M j L) i=if i<j then insL (lvl L i) (lvl M i) else lvl L i
 | 0,i=>by simp[takeN]
 | j+1,i=>by
  rw[takeN,kL,qa M L j i,qa M L j j]
  by_cases e:i=j
  ·subst e;rw[aH rfl,aG aa,aH aa]
  ·rw[aG e]
   by_cases h:i<j
   ·rw[aH h,aH aa]
   ·rw[aG h,aG aa]
def AO.take{L M:LL}(x:AO L)(s:AO M):AO (jS L M):=by
 intro u;have v:=kM M L (ao M);unfold jS at u |-;rw[v,qa]
 rcases bg (ao L - 1) (ao M) with t|t
 ·rcases bh (ao M) with y|y
  ·omega
  ·rw[aH aa]
   rcases bg (ao M) (ao L) with z|z
   ·have:max (ao L) (ao M) - 1=ao L - 1:=aa
    rw[this];exact tG (.inr (x aa))
   ·have:max (ao L) (ao M) - 1=ao M - 1:=aa
    rw[this];exact tG (.inl (s y))
 ·have z:max (ao L) (ao M) - 1=ao L - 1:=aa
  rw[z,aG aa]
  exact x aa
end K
end Go.Proofs.YtdicblkhpcphfaaGreat
