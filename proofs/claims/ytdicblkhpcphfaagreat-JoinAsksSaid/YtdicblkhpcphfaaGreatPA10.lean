/- Parts. No condition. -/
import Derived.Test.YtdicblkhpcphfaaGreatPA09
import Derived.Test.YtdicblkhpcphfaaGreatPA08
import Derived.Laws.CopyRow
import Derived.Lib.AppendZeros
import Derived.Lib.AppendZerosOnto
import Derived.Lib.Overlaps
import Derived.Shelf.RegionOpenPlain
set_option maxRecDepth 100000
set_option maxHeartbeats 0
set_option linter.all false
namespace Go.Proofs.YtdicblkhpcphfaaGreat
open Tryz Go.RowKit
open _root_.List renaming length→ao
open _root_.Go renaming Calls→ar
open Tryz renaming prog→Oe
namespace D
structure Ty(P:Program){α:Type}(E:uJ α)(ts:TypeId):Prop where
 sl:P.underlying ts=some (.slice E.t)
 inf:∃i z b,P.info? E.t=some i/\i.zero=some z/\i.size=E.k/\i.bytes=b/\z.cells.size=E.k/\0<E.k/\b<=128
def xm{P:Program}{α:Type}{E:uJ α}{ts:TypeId}{z:Value}{b:Nat}(h:(P.info? E.t).map (λi=>(i.zero,i.size,i.bytes))=some (some z,E.k,b))(sl:P.underlying ts=some (.slice E.t))(r:z.cells.size=E.k)(s:0<E.k)(y:b<=128):Ty P E ts:=by
 obtain⟨q,x,t,u,v⟩:=cx h;exact⟨sl,q,z,b,x,t,u,v,r,s,y⟩
section
variable {P : Program} {α : Type} {E : uJ α} {ts : TypeId} {w : World} {base : Nat} {v : Value} {xs : List α}
variable{o:Oper}{a:Act}{Q:Exit->Act->World->Prop}{g:Nat}{T:TypeId}{cs:Array Value}{w':World}
def nu(T:Ty P E ts){ops:Array Oper}{rest:List Oper}(Y:o.guard=none)(s x:Operand)
 (V:o.op=.call {callee:=.builtin .append,args:=#[s,x],argTypes:=#[ts,ts]}) (U:gO E base w v xs) (R:a.eval s=v) (u:Value) (y:List α) (O:a.eval x=u) (S:iA E w u y) (X:ao xs+ao y<=1099511627776) (c:base<=w.heap.size)
 (h:∀z t,gO E base t z (xs++y)->w.grownBy t v.ownBlock->(z.ownBlock=v.ownBlock\/z.ownBlock=some w.heap.size)->wpList P ops Q rest (a.put o.dst z) t):wpList P ops Q (o::rest) a w:=by
 obtain⟨sl,i,z,b,t,r,q,p,g,f,d⟩:=T;exact g8 E i z b sl t r q p g f d Y s x V base v xs R U u y O S X c h
def EX(T:Ty P E ts){K:Act->World->Prop}(s x:Operand)
 (R:o.op=.call {callee:=.builtin .append,args:=#[s,x],argTypes:=#[ts,ts]}) (O:gO E base w v xs) (N:a.eval s=v) (u:Value) (y:List α) (M:a.eval x=u) (f:iA E w u y) (S:ao xs+ao y<=1099511627776) (U:base<=w.heap.size)
 (h:∀t r,gO E base r t (xs++y)->w.grownBy r v.ownBlock->(t.ownBlock=v.ownBlock\/t.ownBlock=some w.heap.size)->K (a.put o.dst t) r):o.wp P a w K Q:=by
 obtain⟨sl,i,z,b,d,q,p,g,Y,X,V⟩:=T;obtain⟨A,c,rfl,_,_,_⟩:=f.form;have L:(ao xs+ao y) * b<=1099511627776 * 128:=cT S V;refine kF w s x ts R base E.t i z E.k b sl d q p g Y X v (ao xs) (cellsE E xs) N O A (ao y) c (cellsE E y) M f (mK E y) (by unfold maxLen;omega) aa U λt r q p g=>h t r ?_ p g
 unfold gO;rw[aE,js];exact q
def own_ne(y:gN w g T cs)(u:gO E base w v xs)(t:T≠E.t):v.ownBlock≠some g:=by
 intro e
 rcases u.2 with x|⟨f,s,q,rfl,p,z,r⟩
 ·rw[x.1] at e;cases e
 ·cases e
  unfold gN at y;rw[y] at z
  cases z
  exact t rfl
def ia(z:gN w g T cs)(y:gO E base w v xs)(u:T≠E.t)(x:w.grownBy w' v.ownBlock):gN w' g T cs:=
 (x.block g z.lt (λe=>own_ne z y u e.symm)).trans z
def nG{i:Nat}{v':Value}{ys:List α}(u:gN w g T cs)(t:gO E base w v xs)(x:T≠E.t)(s:w.grownBy w' v.ownBlock)(y:gO E base w' v' ys) :
 gN (w'.setCell ⟨g,i,none⟩ v') g T (cs.setIfInBounds i v')/\gO E base (w'.setCell ⟨g,i,none⟩ v') v' ys:=
 have z:=ia u t x s
 ⟨z.gR i v',y.far (own_ne z y x) _⟩
end
variable{v v':Value}{F:Nat->Prop}{w w':World}{a k low n:Nat}{acc:List Sp}{P:Program}{ops:Array Oper}{o:Oper}{Q:Exit->Act->World->Prop}
def JH{z:Nat}(h:v'.ownBlock=v.ownBlock\/v'.ownBlock=some z)(k:Nat)(e:v'.ownBlock=some k):v.ownBlock=some k\/z<=k:=by
 rcases h with h|h
 ·exact .inl (h▸e)
 ·rw[h] at e;injection e with e;exact .inr aa
def ik(h:Touch F w w')(o:Nat)(y:k<w.heap.size)(z:¬F k):w'.cell? ⟨k,o,none⟩=w.cell? ⟨k,o,none⟩:=bA (a:=⟨k,o,none⟩) (h.block k y z)
def Ra(h:Touch F w w')(o:Nat)(y:k<w.heap.size)(z:¬F k):w'.frozen? ⟨k,o,none⟩=w.frozen? ⟨k,o,none⟩:=df (a:=⟨k,o,none⟩) (h.block k y z)
def yD{α:Type}{E:uJ α}{base g:Nat}{xs:List α}(h:gO E base w v xs)(z:w.heap.size<=g):v.ownBlock≠some g:=λe=>by have:=(h.lt g e).2;omega
def il:uJ Pr where
 k:=2
 t:=192
 enc x:=[.int .i64 x.1,.int .u64 x.2]
 len _:=rfl
 one x u hu:=by
  simp only[aS,cQ,or_false] at hu
  rcases hu with rfl|rfl<;>rfl
def z_(t:TypeId):uJ Sp where
 k:=3
 t:=t
 enc x:=[.int .i64 x.low,.int .i64 x.mid,.int .i64 x.high]
 len _:=rfl
 one x u hu:=by
  simp only[aS,cQ,or_false] at hu
  rcases hu with rfl|rfl|rfl<;>rfl
def Mk(s:Sp):Value:=.agg #[.int .i64 s.low,.int .i64 s.mid,.int .i64 s.high]
def Wp:(prog.info? 324).map (λi=>(i.zero,i.size,i.bytes))=some (some (.agg #[.int .i64 0,.int .i64 0,.int .i64 0]),3,24):=by kernel_rfl
def U4:(prog.info? 192).map (λi=>(i.zero,i.size,i.bytes))=some (some (.agg #[.int .i64 0,.int .u64 0]),2,16):=by kernel_rfl
def S_:(prog.info? 154).map (λi=>(i.zero,i.size,i.bytes))=some (some (.agg #[.int .i64 0,.int .i64 0,.int .i64 0]),3,24):=by kernel_rfl
def z'(n:Int)(w:World)(y:0<=n)(x:n<18446744073709551616):ar Oe 438 #[.int .u64 n,.int .i64 0] w λe z=>e=.returned (.int .i64 (min 9223372036854775807 n))/\w=z:=by
 by_cases h:n > 9223372036854775807
 ·rw[show min 9223372036854775807 n=9223372036854775807 by omega]
  go_in
  go_wp2
  go_ret;exact⟨rfl,rfl⟩
 ·rw[show min 9223372036854775807 n=n by omega]
  go_in
  go_wp2
  go_ret;exact⟨rfl,rfl⟩
def uL(n:Int)(w:World)(y:0<=n)(x:n<18446744073709551616):ar Oe 274 #[.int .u64 n,.bool true] w λe z=>e=.returned (.int .i64 (min 9223372036854775807 n))/\w=z:=by
 by_cases h:n > 9223372036854775807
 ·rw[show min 9223372036854775807 n=9223372036854775807 by omega]
  go_in
  go_wp2
  go_ret;exact⟨rfl,rfl⟩
 ·rw[show min 9223372036854775807 n=n by omega]
  go_in
  go_wp2
  go_ret;exact⟨rfl,rfl⟩
structure S'(a low:Nat)(x m y:Int):Prop where
 x0:0<=x
 x1:x<=9223372036854775807
 xe:x=(low:Int) * (a:Int) / 10000
 m0:0<=m
 m1:m<=9223372036854775807
 me:m=min 9223372036854775807 ((low:Int)+x)
 y0:0<=y
 y1:y<18446744073709551616
 ye:y=m * 10000 / (10000 - (a:Int))
 sp:nk a low=⟨low,m,min 9223372036854775807 y⟩
def Ot(s:a<=5000)(h:low<=9223372036854775807):∃x m y,S' a low x m y:=by
 have z:(low:Int) * (a:Int) / 10000=((low * a / 10000:Nat):Int):=by rw[<-fA];omega
 have r:low * a / 10000<=9223372036854775807:=by
  have:low * a<=9223372036854775807 * 5000:=cT h s;omega
 obtain⟨q,v⟩:∃q,q=low * a / 10000:=⟨_,rfl⟩;obtain⟨M,t⟩:∃M,M=min 9223372036854775807 (low+q):=⟨_,rfl⟩;rw[<-v] at r z;have g:M<=9223372036854775807:=aa
 have x:(M:Int) * 10000 / (10000 - (a:Int))=((M * 10000 / (10000 - a):Nat):Int):=by
  rw[show(10000:Int) - (a:Int)=((10000 - a:Nat):Int) by omega,show(M:Int) * 10000=((M * 10000:Nat):Int) by omega];rfl
 have p:M * 10000 / (10000 - a)<18446744073709551616:=by
  rw[dO aa]
  have:18446744073709551616 * 5000<=18446744073709551616 * (10000 - a):=eJ _ aa
  omega
 obtain⟨y,u⟩:∃y,y=M * 10000 / (10000 - a):=⟨_,rfl⟩;rw[<-u] at p x;refine⟨(q:Int),(M:Int),(y:Int),aa,aa,z.symm,aa,aa,aa,aa,aa,x.symm,?_⟩
 unfold nk hiN;rw[<-v,<-t,<-u]
 congr 1
 omega
def JJ(b a low:Nat)(v:Value)(w:World)(s:gN w b 322 #[.int .i64 a,v])(S:a<=5000)(R:low<=9223372036854775807) :
 ar Oe 395 #[.pointer (some ⟨b,0,none⟩),.int .i64 low] w (aw w (Mk (nk a low))):=by
 obtain⟨x,m,y,K,J,p,P,L,d,N,Y,g,c⟩:=Ot (low:=low) S R;rw[c];have r:=s.k0;have Q:=s.lt;have M:(low:Int)+x<18446744073709551616:=aa
 have z:=λw:World=>nX (low:Int) (a:Int) 10000 w aa  aa  aa  aa  aa  aa (by rw[<-p];omega)
 have u:=λw:World=>nX m 10000 (10000 - (a:Int)) w P aa  aa  aa  aa  aa (by rw[<-g];exact Y)
 have t:=λw:World=>z' ((low:Int)+x) w aa  aa
 have f:=λw:World=>z' y w N Y
 rw[<-p] at z;rw[<-g] at u;rw[<-d] at t;have X:=ay z;have V:=ay u;have U:=ay t;have T:=ay f;clear z u t f p g d c s
 go_in
 go_wp2_with fail;have s:=ay (gN.new w 324 #[.int .i64 0,.int .i64 0,.int .i64 0]);have u:aq w (w.alloc (.cells #[.int .i64 0,.int .i64 0,.int .i64 0] 324)):=bw;generalize w.alloc (.cells #[.int .i64 0,.int .i64 0,.int .i64 0] 324)=f at *;refine(X.o f).mono ?_
 rintro e O ⟨rfl,t⟩;have z:aq w O:=u.trans (t.mono u.size);have g:=ay (s.o.keep t);have c:=(z.cell (p:=⟨b,0,none⟩) Q).trans r;have d:=z.size;clear s u t r
 go_wp2_with fail;refine(U.o _).mono ?_
 rintro e q ⟨rfl,rfl⟩
 go_wp2_with fail;refine(V.o _).mono ?_
 rintro e r ⟨rfl,u⟩;have s:aq w r:=z.trans (u.mono d);have t:=ay (g.o.keep u);clear g z u c
 go_wp2_with fail;refine(T.o _).mono ?_
 rintro e q ⟨rfl,rfl⟩;have z:(prog.info? 324).map (·.size)=some 3:=by kernel_rfl
 go_wp2_with (refine wpList_store_row rfl 324 (.tmp 4) (.tmp 47) rfl w.heap.size #[.int .i64 low,.int .i64 m,.int .i64 (min 9223372036854775807 y)] rfl rfl 324 _ t.o z rfl (by simp[Value.oneCell']) ?_)
 refine bodyPost_ret (v:=Mk ⟨low,m,min 9223372036854775807 y⟩) (results_cell_row (p:=4) (ty:=324) (by kernel_rfl) _ _ w.heap.size 324 _ (0,0) _ rfl (setRow_heap _ _ _ _ _ _ t.o) underlying324 rfl (by kernel_rfl)) rfl ?_
 exact⟨rfl,below_setRow s (aD _) _⟩
def GG(a low:Nat)(w:World)(X:a<=5000)(V:low<=9223372036854775807) :
 ar Oe 188 #[.int .i64 a,.int .i64 low] w (aw w (Mk (nk a low))):=by
 obtain⟨x,m,y,N,M,s,T,O,p,Q,f,r,g⟩:=Ot (low:=low) X V;rw[g];have P:(low:Int)+x<18446744073709551616:=aa
 have z:=λw:World=>lJ (low:Int) (a:Int) 10000 w aa  aa  aa  aa  aa  aa (by rw[<-s];omega)
 have v:=λw:World=>lJ m 10000 (10000 - (a:Int)) w T aa  aa  aa  aa  aa (by rw[<-r];exact f)
 have u:=λw:World=>uL ((low:Int)+x) w aa  aa
 have q:=λw:World=>uL y w Q f
 rw[<-s] at z;rw[<-r] at v;rw[<-p] at u;have d:=ay z;have c:=ay v;have b:=ay u;have Y:=ay q;clear z v u q s r p g
 go_in
 go_wp2_with fail;have s:=ay (gN.new w 154 #[.int .i64 0,.int .i64 0,.int .i64 0]);have z:aq w (w.alloc (.cells #[.int .i64 0,.int .i64 0,.int .i64 0] 154)):=bw;generalize w.alloc (.cells #[.int .i64 0,.int .i64 0,.int .i64 0] 154)=q at *;refine(d.o q).mono ?_
 rintro e S ⟨rfl,v⟩;have u:aq w S:=z.trans (v.mono z.size);have r:=ay (s.o.keep v);have U:=u.size;clear s z v
 go_wp2_with fail;refine(b.o _).mono ?_
 rintro e t ⟨rfl,rfl⟩
 go_wp2_with fail;refine(c.o _).mono ?_
 rintro e R ⟨rfl,z⟩;have g:aq w R:=u.trans (z.mono U);have s:=ay (r.o.keep z);clear r u z
 go_wp2_with fail;refine(Y.o _).mono ?_
 rintro e t ⟨rfl,rfl⟩;have z:(prog.info? 154).map (·.size)=some 3:=by kernel_rfl
 go_wp2_with (refine wpList_store_row rfl 154 (.tmp 4) (.tmp 41) rfl w.heap.size #[.int .i64 low,.int .i64 m,.int .i64 (min 9223372036854775807 y)] rfl rfl 154 _ s.o z rfl (by simp[Value.oneCell']) ?_)
 refine bodyPost_ret (v:=Mk ⟨low,m,min 9223372036854775807 y⟩) (results_cell_row (p:=4) (ty:=154) (by kernel_rfl) _ _ w.heap.size 154 _ (0,0) _ rfl (setRow_heap _ _ _ _ _ _ s.o) underlying154 rfl (by kernel_rfl)) rfl ?_
 exact⟨rfl,below_setRow g (aD _) _⟩
def CJ(h:¬hiN a low=9223372036854775807):l4 a (n+1) low=nk a low::l4 a n (hiN a low+1):=by rw[l4,aG h]
def CK(h:hiN a low=9223372036854775807):l4 a (n+1) low=[nk a low]:=by rw[l4,aH h]
structure Rest(a q low:Nat)(acc:List Sp):Prop where
 all:acc++l4 a q low=spans a
 lo:low<=9223372036854775807
 len:ao acc+q=2100
 end_:∃k,k<q/\hiN a (oP a k low)=9223372036854775807
def rest_start(z:100<=a)(y:a<=5000):Rest a 2100 1 []:=⟨rfl,aa,rfl,JC z y⟩
def Rest.pos{q:Nat}(h:Rest a q low acc):∃n,q=n+1:=by
 obtain⟨k,z,_⟩:=h.end_;exact⟨q - 1,aa⟩
def Rest.more(h:Rest a (n+1) low acc)(x:¬hiN a low=9223372036854775807):Rest a n (hiN a low+1) (acc++[nk a low]):=by
 obtain⟨z,v,u,k,t,y⟩:=h;rw[CJ x] at z;have:=zV a low;refine⟨by rw[aO];exact z,aa,by rw[aE];simp;omega,?_⟩
 cases k with
 | zero=>exact absurd y x
 | succ k=>exact⟨k,aa,y⟩
def Rest.done(h:Rest a (n+1) low acc)(z:hiN a low=9223372036854775807):acc++[nk a low]=spans a:=by
 have:=h.all
 rwa [CK z] at this
def uM(base:Nat)(w:World)(b a:Nat):Prop:=base<=b/\∃v,gN w b 322 #[.int .i64 a,v]/\gO (z_ 324) base w v (spans a)
def Ta:Ty prog (z_ 324) 320:=xm Wp underlying320 rfl ab  ab
def Rb:Ty prog (z_ 154) 129:=xm S_ underlying129 rfl ab  ab
def pj:Ty prog il 126:=xm U4 underlying126 rfl ab  ab
def GH(a:Nat)(w:World)(ha:100<=a)(H:a<=5000) :
 ar Oe 337 #[.int .i64 a] w λe T=>∃b,e=.returned (.tuple #[.pointer (some ⟨b,0,none⟩),.int .i64 0])/\uM w.heap.size T b a/\aq w T:=by
 have l:=ay (rest_start ha H)
 go_in
 go_wp2
 go_loopg [5] 2100 (λq v wr=>∃(z:Nat) (y:List Sp),v=.int .i64 z/\Hid (Rest a q z y)/\Hid (∃U,gN wr w.heap.size 322 #[.int .i64 a,U]/\gO (z_ 324) w.heap.size wr U y)/\aq w wr)
 exact⟨1,[],rfl,l,ay ⟨_,gN.new _ _ _,gO.nil_ _ _⟩,bw⟩
 case round=>
  obtain⟨z,y,rfl,f,v,I⟩:=hrel;obtain⟨n,rfl⟩:=f.o.pos;obtain⟨U,x,t⟩:=v.o;have hlo:=f.o.lo;have hlen:=f.o.len;have hz:=I.size;have j:=ay (JJ w.heap.size a z U wr x H hlo);have b:=ay x;have u:=ay t;clear x t v
  go_wp2_with fail;refine(j.o).mono ?_
  rintro e t ⟨rfl,s⟩;unfold Mk
  go_wp2_with fail;have Y:aq t (t.alloc (.cells #[.int .i64 (nk a z).low,.int .i64 (nk a z).mid,.int .i64 (nk a z).high] 324)):=bw;have c:=gN.new t 324 #[.int .i64 (nk a z).low,.int .i64 (nk a z).mid,.int .i64 (nk a z).high];generalize t.alloc (.cells #[.int .i64 (nk a z).low,.int .i64 (nk a z).mid,.int .i64 (nk a z).high] 324)=r at *;obtain⟨C,P⟩:=au (t.heap.size);rw[P] at c |-;have N:aq wr r:=s.trans (Y.mono s.size);have R:aq w r:=I.trans (N.mono hz);have q:=ay (b.o.keep N);have X:=ay (u.o.keep N);obtain⟨B,m,rfl,_,_,_⟩:=u.o.form;have Q:=own_ne q.o X.o ab
  have M:=yD u.o (g:=C) (by have:=s.size;omega)
  have hol:=λk e=>(X.o.lt k e).1
  have V:=q.o.k1;have x:=c.k0;have p:=c.k1;have d:=c.k2;have O:=q.o.lt;have S:=c.lt;have f1:=q.o.frozen 1;have hlen':ao y+1<=1099511627776:=aa
  have hwz:=R.size;have v:=ay (aF x (aF V (aF p d)));have J:Hid (hiN a z=9223372036854775807<->(nk a z).high=9223372036854775807):=ay (by show _<->((hiN a z:Nat):Int)=_;omega)
  clear x V p d s Y P b u;obtain⟨F,x⟩:∃F:Nat->Prop,F=λk=>(Value.slice B (ao y) m).ownBlock=some k:=⟨_,rfl⟩
  have P:¬F w.heap.size:=by rw[x];exact Q
  have Y:¬F C:=by rw[x];exact M
  have L:=ay x;clear Q M x;have Z:=ay (λ(T:World) (x:(Touch F r) T)=>(aF ((ik x 1 O P).trans v.o.2.1) (aF ((ik x 0 S Y).trans v.o.1) (aF ((ik x 1 S Y).trans v.o.2.2.1) ((ik x 2 S Y).trans v.o.2.2.2)))))
  refine yC (Touch F r) 10 (yA 0 6 (CI 6 (CI 7 (QB 8 1 (yA 9 1 (CI 10 [])))))) ((Touch.refl _ _).drew) ?_
  iterate 6 refine oQ ?_
  refine GF λK x=>?_
  go_simp;refine x _ _ (((Touch.refl _ _).drew).alloc _) ?_
  clear x K;refine GF λK x=>?_
  refine EX Ta (.tmp 23) (.tmp 25) rfl ((X.o.drew).alloc _) rfl _ [nk a z] rfl (gO.one (E:=z_ 324) r.drew (nk a z) _ rfl _ rfl).rd hlen' ah ?_
  intro v7 D p s _;have d:Touch F r D:=(((Touch.refl _ _).drew).alloc _).grown s (λk e=>.inl (by rw[L.o];exact e))
  have u:=ay (nG (i:=1) ((q.o.drew).alloc _) ((X.o.drew).alloc _) ab s p)
  obtain⟨A,o,rfl,_,_,_⟩:=p.form;clear p s;refine x _ _ (d) ?_
  clear x K;refine JG ?_
  refine oQ ?_
  refine yB λK x=>?_
  have V:=(ik d 1 O P).trans v.o.2.1;have k9:=(Ra d 1 O P).trans f1
  go_simp;refine x _ _ ?_
  clear x K;refine jk ?_
  have h3:=(ik d 2 S Y).trans v.o.2.2.2;have W:ao (y++[nk a z])=ao y+1:=ad
  rw[W] at u;obtain⟨s,Q⟩:=u.o;have b:=ay (aF s Q);have M:Hid (aq w (D.setCell ⟨w.heap.size,1,none⟩ (.slice A (ao y+1) o))):=ay (R.trans (((d.mono (G:=λk=>w.heap.size<=k) (λk e=>by rw[L.o] at e;exact hol k e)).setCell (p:=⟨w.heap.size,1,none⟩) (.inl (aD _)) _).below (λ_ e=>e) hwz))
  clear s Q u R
  by_cases u:hiN a z=9223372036854775807
  ·have hh':=J.o.1 u
   have R:=ay (f.o.done u);clear u;generalize nk a z=s at *
   go_wp2
   go_ret2
   exact⟨_,rfl,⟨aD _,_,b.o.1,by rw[<-R.o];exact b.o.2⟩,M.o⟩
  ·have hh':¬(nk a z).high=9223372036854775807:=λh=>u (J.o.2 h)
   have R:=ay (f.o.more u);have hle:=zV a z;have Q:Hid ((nk a z).high=((hiN a z:Nat):Int)):=ay rfl;clear u;generalize nk a z=s at *;have hs0:0<=s.high:=by have:=Q.o;omega
   have hs1:s.high<=9223372036854775806:=by have:=Q.o;omega
   go_wp2
   go_roundg n
   exact⟨_,_,by rw[Q.o];go_num,R,ay ⟨_,b.o.1,b.o.2⟩,M.o⟩
   omega
def jx(a:Nat)(w:World)(U:100<=a)(b:a<=5000) :
 ar Oe 111 #[.int .i64 a] w λe Y=>∃v,e=.returned v/\gO (z_ 154) w.heap.size Y v (spans a)/\aq w Y:=by
 have V:=ay (rest_start U b)
 go_in
 go_wp2
 go_loopg [3,4] 2100 (λq v x wr=>∃(z:Nat) (u:List Sp),x=.int .i64 z/\Hid (Rest a q z u)/\Hid (gO (z_ 154) w.heap.size wr v u)/\aq w wr)
 exact⟨1,[],rfl,V,ay (gO.nil_ _ _),bw⟩
 case round=>
  obtain⟨z,u,rfl,x,v,c⟩:=hrel;obtain⟨n,rfl⟩:=x.o.pos;have S:=x.o.lo;have L:=x.o.len;have R:=c.size;have X:=ay (GG a z wr b S);obtain⟨P,O,rfl,_,_,_⟩:=v.o.form;have N:(ao u:Int)<5000:=aa
  go_wp2_with fail;refine(X.o).mono ?_
  rintro e p ⟨rfl,q⟩;unfold Mk;have Q:=q.size;have f:Hid (hiN a z=9223372036854775807<->(nk a z).high=9223372036854775807):=ay (by show _<->((hiN a z:Nat):Int)=_;omega)
  go_upto_region 6 with(first
   | (at_builtin
      refine nu Rb rfl (.tmp 12) (.tmp 14) rfl (((v.o.keep q).alloc _).alloc _) rfl _ [nk a z] rfl (iA.hJ (E:=z_ 154) _ (nk a z) _ rfl _ rfl _ ad) af ah ?_
      intro r s t y _;have T:s.cell? ⟨p.heap.size,2,none⟩=some (.int .i64 (nk a z).high):=(bA (a:=⟨p.heap.size,2,none⟩) (y.block p.heap.size af (λe=>yD v.o Q e.symm))).trans (by simp[bU])
      have g:Hid (aq w s):=ay ((((c.trans (q.mono R)).alloc aa _).alloc af _).grown y af (λk e=>(v.o.lt k e).1))
      have d:=ay t;clear t y))
  by_cases y:hiN a z=9223372036854775807
  ·have T:=f.o.1 y
   have t:=ay (x.o.done y);clear y;generalize nk a z=s at *
   go_wp2
   go_ret;exact⟨_,rfl,by rw[<-t.o];exact d.o,g.o⟩
  ·have T:¬(nk a z).high=9223372036854775807:=λh=>y (f.o.2 h)
   have t:=ay (x.o.more y);have M:=zV a z;have r:Hid ((nk a z).high=((hiN a z:Nat):Int)):=ay rfl;clear y;generalize nk a z=s at *;have K:0<=s.high:=by have:=r.o;omega
   have J:s.high<=9223372036854775806:=by have:=r.o;omega
   go_wp2
   go_roundg n
   exact⟨_,_,by rw[r.o];go_num,t,d,g.o⟩
   omega
def lG(w:World)(r S R u:TypeId)(k g o x p:Nat)(a:Addr)(s T:Nat)(y:Array Value)(t:TypeId)(z:List Value)
 (U:P.underlying r=some (.slice u)) (q:(P.info? u).map (·.size)=some k)
 (c:w.heap[g]?=some (.cells y t (0,0))) (Y:ao z=Nat.min s x * k)
 (X:∀j v,z[j]?=some v->w.cell? (a.add j)=some v) (d:o+ao z<=y.size) (f:∀v∈z,v.oneCell'=true) :
 (Builtin.copy_ #[r,S] R #[.slice (some ⟨g,o,none⟩) x p,.slice (some a) s T]).run P w =
  .ok (goInt (Nat.min s x)) (w.setRow g (y.toList.take o++z++y.toList.drop (o+ao z)).toArray):=by
 have b:=run_loadCells_list (P:=P) w a z X;have V:=run_storeCells_at P g o t z 0 y w c (by simpa using d) f
 cases hq:P.info? u with
 | none=>simp[hq] at q
 | some i=>
  have v:i.size=k:=by simpa[hq] using q
  simp[Builtin.copy_,run_underlying U,Builtin.lenOf,Builtin.firstCells,sizeOf,typeInfo,hq,v,<-Y,b,V]
def wpList_copy_run(w:World){rest:List Oper}{a:Act}(r:o.guard=none)(d s:Operand)(t z:TypeId)
 (q:o.op=.call {callee:=.builtin .copy,args:=#[d,s],argTypes:=#[t,z]}) (v u:Value) (x:a.eval d=v) (g:a.eval s=u)  
 (p:(Builtin.copy_ #[t,z] o.type #[v,u]).run P w=.ok v' w') (h:wpList P ops Q rest (a.put o.dst v') w'):wpList P ops Q (o::rest) a w:=by
 refine wpList_plain r λK y=>?_
 unfold Oper.wp execOp;simp only[q,resolve,invoke,builtin,gI,gH,fP,fW,e9,gF,x,g,p];exact y _ _ h
def qt{a:Act}{K:Act->World->Prop}{E:Prop}(x:o.guard=none)(d s:Operand)(t z:TypeId)
 (r:o.op=.call {callee:=.builtin .copy,args:=#[d,s],argTypes:=#[t,z]}) (v u:Value) (y:a.eval d=v) (p:a.eval s=u)  
 (q:(Builtin.copy_ #[t,z] o.type #[v,u]).run P w=.ok v' w') (h:K (a.put o.dst v') w'):if Region.wanted o (yielded ops a.tmps)=true then Oper.wp P o a w K Q else E:=by
 have g:Region.wanted o (yielded ops a.tmps)=true:=by simp[Region.wanted,x]
 rw[aH g];unfold Oper.wp execOp;simp only[r,resolve,invoke,builtin,gI,gH,fP,fW,e9,gF,y,p,q];exact h
def pl(l:List Pr)(i:Nat)(x:Pr)(h:i<=ao l):ao (mJ l i x)=ao l+1:=by
 unfold mJ;rw[aE,aJ,aU,aZ];omega
def JK(l:List Pr)(x:Pr):mJ l (ao l) x=l++[x]:=by simp[mJ]
def uN(l:List Pr)(i:Nat)(x:Pr)(_h:i<=ao l):cellsE il (mJ l i x)=(cellsE il l).take (i * 2)++il.enc x++(cellsE il l).drop (i * 2):=by
 unfold mJ;rw[js,ja,<-sZ,<-s3,aO];rfl
def CL(v:Value)(y:Nat)(l:List Pr)(x:Pr)(u:Value)(w:World)(h:gO il y w v l)(z:iA il w u [x])(X:ao l<=100000)(g:y<=w.heap.size) :
 ar Oe 358 #[v,.int .i64 (ao l),u] w λe b=>∃t,e=.returned t/\gO il y b t (mJ l (ao l) x)/\w.grownBy b v.ownBlock/\∀k,t.ownBlock=some k->v.ownBlock=some k\/w.heap.size<=k:=by
 have q:=ay h;have p:=ay z;obtain⟨A,c,rfl,_,_,_⟩:=h.form;obtain⟨B,d,rfl,_,_,_⟩:=z.form;clear h z;have r:Hid (mJ l (ao l) x=l++[x]):=ay (JK l x);have f:c=ao l\/¬c=ao l:=aa
 rcases f with rfl|f
 ·go_in
  go_wp2_with (at_builtin;refine nu pj rfl (.tmp 23) (.tmp 24) rfl q.o rfl _ [x] rfl p.o af g ?_;intro a Y s t z)
  go_wp2
  go_ret;exact⟨_,rfl,by rw[r.o];exact s,t,λk e=>(JH z k e).imp id (λh=>by simpa using h)⟩
 ·go_in
  go_wp2_with (at_builtin;refine nu pj rfl (.tmp 23) (.tmp 24) rfl q.o rfl _ [x] rfl p.o af g ?_;intro a Y s t z)
  go_wp2
  go_ret;exact⟨_,rfl,by rw[r.o];exact s,t,λk e=>(JH z k e).imp id (λh=>by simpa using h)⟩
def Ad(g c B:Nat)(l:List Pr)(i:Nat)(x:Pr)(ub:Nat)(T:TypeId)(w:World)(h:gO il B w (.slice (some ⟨g,0,none⟩) (ao l) c) l)(hi:i<ao l)(hl:ao l<=100000)(hroom:ao l+1<=c)
 (P:gN w ub T #[.int .i64 x.1,.int .u64 x.2]) (hne:ub≠g) :
 ar Oe 358 #[.slice (some ⟨g,0,none⟩) (ao l) c,.int .i64 i,.slice (some ⟨ub,0,none⟩) 1 1] w λe w'=>∃z,e=.returned z/\gO il B w' z (mJ l i x)/\z.ownBlock=some g/\Touch (λk=>k=g) w w':=by
 obtain⟨U,h⟩:=h
 rcases h with⟨_,h0⟩|⟨g',cap,t,e,hbg,X,hnc,hcm,q,V⟩
 ·omega
 injection e with r L e3;injection r with r;injection r with r;subst r;subst e3;have R:il.k=2:=rfl;rw[R] at U q V;obtain⟨n,Q⟩:=au (ao l);rw[Q] at U hnc V hi hl hroom;have G:(prog.info? 192).map (·.size)=some 2:=by kernel_rfl
 obtain⟨u,a⟩:=au ((cellsE il l).drop (i * 2));have f:ao u=(n - i) * 2:=by rw[<-a,aZ,U,fI]
 have A:∀v∈u,v.oneCell'=true:=λv O=>mK il l v (by rw[<-a] at O;exact cu O)
 have hread:∀j v,u[j]?=some v->w.cell? ⟨g,i * 2+j,none⟩=some v:=λj v p=>by
  rw[cell_of_row w g _ t _ (0,0) X];have z:j<ao u:=(cN.1 p).1;rw[<-a,dD,<-V,dr,aH (by rw[f] at z;have:=fI n i 2;omega)] at p
  simpa using p
 have F:w.heap[ub]?=some (.cells #[.int .i64 x.1,.int .u64 x.2] T (0,0)):=P;have hov:∀E M,(callFunc 411 #[.slice (some ⟨ub,0,none⟩) 1 1,.slice (some ⟨g,(i+1) * 2,none⟩) E M]).run prog w=.ok (.value (.bool false)) w:=λE M=>by
  rw[run_callFunc_extern func411 (by kernel_rfl) (by kernel_rfl) (by kernel_rfl) (e:=Extern.SlicesOverlaps.overlaps #[126,126] #[4]) (by kernel_rfl),
   Lib.run_overlaps_apart w 126 4 192 underlying126 2 (λw=>by kernel_rfl) ⟨ub,0,none⟩ ⟨g,(i+1) * 2,none⟩ 1 1 E M hne T 192 2 t.size (by rw[show w.shape? ub=some (T,2) from by unfold World.shape?;rw[F];rfl]) (by unfold World.shape?;rw[X];rfl) (by rw[q];omega) (gN.frozen P 0) (gN.frozen P 2)]
  rfl
 obtain⟨z,Y⟩:∃y:Array Value,(t.toList.take ((i+1) * 2)++u++t.toList.drop ((i+1) * 2+ao u)).toArray=y:=⟨_,rfl⟩;have J:(w.drew.setRow g z).heap[g]?=some (.cells z 192 (0,0)):=setRow_heap w.drew g t z _ _ X;have hsub:=fI n i 2;have I:Nat.min (n+1 - i) (n - i)=n - i:=by show min _ _=_;omega
 have hcp1:∀d s D,(Builtin.copy_ #[126,126] d #[.slice (some ⟨g,(i+1) * 2,none⟩) (n - i) s,.slice (some ⟨g,i * 2,none⟩) (n+1 - i) D]).run prog w.drew=.ok (goInt ((n - i:Nat):Int)) (w.drew.setRow g z):=λd s D=>by
  have:=lG w.drew 126 126 d 192 2 g ((i+1) * 2) (n - i) s ⟨g,i * 2,none⟩ (n+1 - i) D t 192 u underlying126 G X (by rw[f,I]) (λj v p=>by rw[fj];exact hread j v p) (by rw[f,q];omega) A
  rw[I,Y] at this;exact this
 obtain⟨b,S⟩:∃y:Array Value,(z.toList.take (i * 2)++[Value.int .i64 x.1,Value.int .u64 x.2]++z.toList.drop (i * 2+2)).toArray=y:=⟨_,rfl⟩;have K:z.size=c * 2:=by
  rw[<-Y];simp only[dx,aE,aU,aZ,dL,f,q];omega
 have H:Nat.min 1 (n+1 - i)=1:=by show min _ _=_;omega
 have m:∀v∈([.int .i64 x.1,.int .u64 x.2]:List Value),v.oneCell'=true:=λv O=>il.one x v O
 have hcp2:∀(W:World),W.heap=(w.drew.setRow g z).heap->∀d s,(Builtin.copy_ #[126,126] d #[.slice (some ⟨g,i * 2,none⟩) (n+1 - i) s,.slice (some ⟨ub,0,none⟩) 1 1]).run prog W=.ok (goInt 1) (W.setRow g b):=λW o d s=>by
  have y:W.heap[ub]?=some (.cells #[.int .i64 x.1,.int .u64 x.2] T (0,0)):=by rw[o,setRow_other w.drew g ub z hne];exact F
  have:=lG W 126 126 d 192 2 g (i * 2) (n+1 - i) s ⟨ub,0,none⟩ 1 1 z 192 [.int .i64 x.1,.int .u64 x.2] underlying126 G (by rw[o];exact J) (by rw[H];rfl) (λj v p=>by
   rw[fj,cJ,cell_of_row W ub _ _ _ (0,0) y]
   simpa using p) (by rw[K];simp only[aJ,aV];omega) m
  rw[H] at this;rw[<-S];exact this
 have hfin:b.toList.take ((n+1) * 2)=cellsE il (mJ l i x)/\b.size=c * 2:=by
  have y:ao ((cellsE il l).take (i * 2))=i * 2:=by rw[aU,U];omega
  have r:z.toList.take (i * 2)=(cellsE il l).take (i * 2):=by
   rw[<-Y,aO,dp (by rw[aU,dL,q];omega),gv,<-V,gv]
   congr 1;omega
  have L:z.toList.drop (i * 2+2)=u++t.toList.drop ((i+1) * 2+ao u):=by
   rw[<-Y];have hl:ao (t.toList.take ((i+1) * 2))=i * 2+2:=by rw[aU,dL,q];omega
   rw[aO,List.drop_append_of_le_length aa,e8 aa,cZ]
  refine⟨?_,?_⟩
  ·rw[<-S,r,L,uN l i x aa,a]
   show List.take _ (_++il.enc x++(u++_))=_
   rw[<-aO (_++il.enc x),dp (by simp only[aE,y,f,il.len];rw[R];omega)]
   exact bj (by simp only[aE,y,f,il.len];rw[R];omega)
  ·rw[<-S]
   simp only[dx,aE,aU,aZ,dL,K,aJ,aV];omega
 have C:=ay hfin;have N:=ay Q;have Wq:=ay J;have Ws:=ay hbg;have HCM:=ay hcm;have Tb:=ay hcp1;have HP2:=ay hcp2;have y:=ay (pl l i x aa)
 rw[Q];have hw1:IntKind.i64.wrap ((i:Int)+1)=(i:Int)+1:=ai
 have hw2:IntKind.i64.wrap ((n:Int)+1)=(n:Int)+1:=ai
 have hb4:¬(c=i):=aa
 have hb1:(0:Int)<=(i:Int)+1:=aa
 have hb2:(i:Int)<=(n:Int):=aa
 have hb3:(i:Int)+1<=(n:Int)+1:=aa
 have hb6:(i:Int)<=(n:Int)+1:=aa
 have htn:((i:Int)+1).toNat=i+1:=aa
 have hb5:¬(c=i+1):=aa
 clear L hfin hcp1 hcp2 Y S K m hread A f a U V q X J I H hsub F Q G P hbg hcm
 go_in
 go_wp2_with (simp only[hov])
 go_region_law (refine qt rfl _ _ 126 126 rfl _ _ (by simp[Act.eval,Act.put]) (by simp[Act.eval,Act.put]) (Tb.o 3 (c - (i+1)) (c - i)) ?_)
 go_wp2_with (refine wpList_copy_run _ rfl (.tmp 80) (.tmp 81) 126 126 rfl _ _ rfl rfl (HP2.o (w.drew.setRow g z) rfl _ _) ?_)
 refine an ?_
 refine⟨_,rfl,?_,rfl,?_⟩
 ·refine⟨by rw[hU],.inr ⟨g,c,b,by rw[y.o,N.o],Ws.o,?_,by rw[y.o,N.o];exact hroom,HCM.o,C.o.2,by rw[y.o,N.o];exact C.o.1⟩⟩
  exact setRow_heap _ g z b _ _ Wq.o
 ·exact⟨rfl,rfl,rfl,by simp[World.setRow],λk R q=>(setRow_other _ g k _ q).trans (setRow_other _ g k _ q)⟩
def Ae(g c base:Nat)(l:List Pr)(i:Nat)(x:Pr)(ub:Nat)(T:TypeId)(w:World)(h:gO il base w (.slice (some ⟨g,0,none⟩) (ao l) c) l)(hi:i<ao l)(hl:ao l<=100000)(hroom:c<ao l+1)
 (hu:gN w ub T #[.int .i64 x.1,.int .u64 x.2]) :
 ar Oe 358 #[.slice (some ⟨g,0,none⟩) (ao l) c,.int .i64 i,.slice (some ⟨ub,0,none⟩) 1 1] w λe w'=>∃z,e=.returned z/\gO il w.heap.size w' z (mJ l i x)/\aq w w':=by
 obtain⟨i0,hi0,hiz,A,C⟩:=cx U4;obtain⟨R,h⟩:=h
 rcases h with⟨_,h0⟩|⟨g',cap,cur,e,_,K,hnc,hcm,hcs,H⟩
 ·omega
 injection e with d e2 e3;injection d with d;injection d with d;subst d;subst e3;have m:il.k=2:=rfl;rw[m] at R hcs H;have hmax:maxLen=9223372036854775807:=rfl;obtain⟨n,I⟩:=au (ao l);rw[I] at R hnc H hi hl hroom;have hsz:(prog.info? 192).map (·.size)=some 2:=by kernel_rfl
 have Wt:=gN.lt hu;have ggl:g<w.heap.size:=by
  rcases bg g w.heap.size with y|z
  ·exact y
  ·rw[dd z] at K;cases K
 obtain⟨p,U⟩:=au ((cellsE il l).drop (i * 2));obtain⟨s,O⟩:=au ((cellsE il l).take (i * 2));have Y:ao p=(n - i) * 2:=by rw[<-U,aZ,R,fI]
 have b:ao s=i * 2:=by rw[<-O,aU,R];omega
 have h1c:∀v∈p,v.oneCell'=true:=λv a=>mK il l v (by rw[<-U] at a;exact cu a)
 have hrow:∀j v,j<n * 2->(cellsE il l)[j]?=some v->w.cell? ⟨g,j,none⟩=some v:=λj v u a=>by
  rw[cell_of_row w g _ cur _ (0,0) K];rw[<-H,dr,aH u] at a
  simpa using a
 have hsub:=fI n i 2;have hread:∀j v,p[j]?=some v->w.cell? ⟨g,i * 2+j,none⟩=some v:=λj v u=>by
  have z:j<ao p:=(cN.1 u).1;rw[<-U,dD] at u;exact hrow _ v (by rw[Y] at z;omega) u
 have hold:(Builtin.firstCells i0.size i (.slice (some ⟨g,0,none⟩) i c)).run prog w.drew=.ok s.toArray w.drew:=by
  rw[A];exact run_firstCells_some w.drew 2 i ⟨g,0,none⟩ i c s b (λj v u=>by
   rw[fj,cJ];have z:j<ao s:=(cN.1 u).1;rw[<-O,dr,aH (by rw[b] at z;omega)] at u
   exact hrow j v (by rw[b] at z;omega) u)
 have hkk:(n:Int)+1 - (i:Int)=((n+1 - i:Nat):Int):=aa
 have B:i+(n+1 - i)=n+1:=aa
 obtain⟨G,Q⟩:=au (grownCap w (n+1) c 192);have hGn:n+1<=G:=by rw[<-Q];exact grownCap_ge w _ _ _
 have U5:G<=maxLen:=by rw[<-Q];exact grownCap_le_maxLen w (n+1) c 192 (by rw[hmax];omega)
 obtain⟨q,N⟩:∃y:Array Value,s.toArray++Builtin.zeroCells (Value.agg #[.int .i64 0,.int .u64 0]).cells (n+1 - i)++Builtin.zeroCells (Value.agg #[.int .i64 0,.int .u64 0]).cells (G - (n+1))=y:=⟨_,rfl⟩;have E:q.size=G * 2:=by
  have z:(Value.agg #[.int .i64 0,.int .u64 0]).cells.size=2:=rfl;rw[<-N,dy,dy,size_zeroCells,size_zeroCells,z,dx,b];omega
 have hrz:∀r,(Builtin.append_ #[126,3] r #[.slice (some ⟨g,0,none⟩) i c,.int .i64 ((n:Int)+1 - (i:Int))]).run prog w =
  .ok (.slice (some ⟨w.heap.size,0,none⟩) (n+1) G) (w.drew.alloc (.cells q 192)):=λr=>by
  have h:=Lib.run_append_grow_zeros (P:=prog) w 126 3 r 192 i0 _ .i64 .i64 underlying126 underlying3 hi0 hiz (some ⟨g,0,none⟩) i c s hold (n+1 - i) aa (by rw[A];decide) aa  aa (by rw[C];omega) (by rw[C,B];exact growslice_fits hroom aa)
  rw[B,Q,N] at h;rw[hkk];exact h
 obtain⟨t,S⟩:=au (w.drew.alloc (.cells q 192));rw[S] at hrz;have J:t.heap[w.heap.size]?=some (.cells q 192 (0,0)):=by rw[<-S];exact cm w.drew _
 have P:aq w t:=by rw[<-S];exact(aC w.heap.size w).drew.alloc (aD _) _
 have hub:t.heap[ub]?=some (.cells #[.int .i64 x.1,.int .u64 x.2] T (0,0)):=(P.block ub Wt).trans hu;obtain⟨z,M⟩:∃y:Array Value,(q.toList.take (i * 2)++[Value.int .i64 x.1,Value.int .u64 x.2]++q.toList.drop (i * 2+2)).toArray=y:=⟨_,rfl⟩;have D:z.size=G * 2:=by
  rw[<-M];simp only[dx,aE,aU,aZ,dL,E,aJ,aV];omega
 have JL:Nat.min 1 (n+1 - i)=1:=by show min _ _=_;omega
 have o:Nat.min (n - i) (n - i)=n - i:=by show min _ _=_;omega
 have h1x:∀v∈([.int .i64 x.1,.int .u64 x.2]:List Value),v.oneCell'=true:=λv a=>il.one x v a
 have hcp2:∀(W:World),W.heap=t.heap->∀r f,(Builtin.copy_ #[126,126] r #[.slice (some ⟨w.heap.size,i * 2,none⟩) (n+1 - i) f,.slice (some ⟨ub,0,none⟩) 1 1]).run prog W=.ok (goInt 1) (W.setRow w.heap.size z):=λW V r f=>by
  have:=lG W 126 126 r 192 2 w.heap.size (i * 2) (n+1 - i) f ⟨ub,0,none⟩ 1 1 q 192 [.int .i64 x.1,.int .u64 x.2] underlying126 hsz (by rw[V];exact J) (by rw[JL];rfl) (λj v u=>by
   rw[fj,cJ,cell_of_row W ub _ _ _ (0,0) (by rw[V];exact hub)]
   simpa using u) (by rw[E];simp only[aJ,aV];omega) h1x
  rw[JL] at this;rw[<-M];exact this
 obtain⟨X,L⟩:∃y:Array Value,(z.toList.take ((i+1) * 2)++p++z.toList.drop ((i+1) * 2+ao p)).toArray=y:=⟨_,rfl⟩;have hcp1:∀(W:World),(∀k,W.heap[k]?=(t.setRow w.heap.size z).heap[k]?)->∀r f sc,(Builtin.copy_ #[126,126] r #[.slice (some ⟨w.heap.size,(i+1) * 2,none⟩) (n - i) f,.slice (some ⟨g,i * 2,none⟩) (n - i) sc]).run prog W=.ok (goInt ((n - i:Nat):Int)) (W.setRow w.heap.size X):=λW V r f sc=>by
  have y:W.heap[w.heap.size]?=some (.cells z 192 (0,0)):=by rw[V];exact setRow_heap t _ q z _ _ J
  have F:W.heap[g]?=w.heap[g]?:=by rw[V,setRow_other t _ g z aa];exact P.block g ggl
  have:=lG W 126 126 r 192 2 w.heap.size ((i+1) * 2) (n - i) f ⟨g,i * 2,none⟩ (n - i) sc z 192 p underlying126 hsz y (by rw[Y,o]) (λj v u=>by
   rw[fj];exact(bA F).trans (hread j v u)) (by rw[Y,D];omega) h1c
  rw[o,L] at this;exact this
 have hfin:X.toList.take ((n+1) * 2)=cellsE il (mJ l i x)/\X.size=G * 2:=by
  have y:q.toList.take (i * 2)=s:=by
   rw[<-N];simp only[Array.toList_append,aO];rw[dp aa,bj aa]
  have d:z.toList.take ((i+1) * 2)=s++[Value.int .i64 x.1,Value.int .u64 x.2]:=by
   rw[<-M,y];have F:ao (s++[Value.int .i64 x.1,.int .u64 x.2])=(i+1) * 2:=by rw[aE,b];simp only[aJ,aV];omega
   show List.take _ (s++[Value.int .i64 x.1,.int .u64 x.2]++_)=_
   rw[dp aa,bj aa]
  refine⟨?_,?_⟩
  ·rw[<-L,d,uN l i x aa,U,O]
   have F:ao (s++[Value.int .i64 x.1,.int .u64 x.2]++p)=(n+1) * 2:=by rw[aE,aE,b,Y];simp only[aJ,aV];omega
   show List.take _ (s++[Value.int .i64 x.1,.int .u64 x.2]++p++_)=_
   rw[dp aa,bj aa]
   rfl
  ·rw[<-L]
   simp only[dx,aE,aU,aZ,dL,D,Y];omega
 have HF:=ay hfin;have F:=ay I;have Wu:=ay J;have HCM:=ay U5;have Tb:=ay hcp1;have HP2:=ay hcp2;have Wv:=ay hrz;have HB1:=ay P;have y:=ay (pl l i x aa)
 have Ww:w.heap.size<t.heap.size:=by rw[<-S];simp
 rw[I];have hz3:(c:Int)<(n:Int)+1:=aa
 have hv1:IntKind.i64.wrap ((i:Int)+1)=(i:Int)+1:=ai
 have hv2:IntKind.i64.wrap ((n:Int)+1)=(n:Int)+1:=ai
 have hb4:¬(c=i):=aa
 have Wx:(0:Int)<=(i:Int)+1:=aa
 have hb2:(i:Int)<=(n:Int):=aa
 have hb3:(i:Int)+1<=(n:Int)+1:=aa
 have hb6:(i:Int)<=(n:Int)+1:=aa
 have htn:((i:Int)+1).toNat=i+1:=aa
 have hG4:¬(G=i):=aa
 have Y':¬(G=i+1):=aa
 clear e2 hfin hcp1 hcp2 M L D h1x hread h1c Y U R H hcs K J o JL hsub hub I hsz hu hcm hrz hrow hold hkk B Q E N b O S P U5 hi0 hiz A C
 go_in
 go_upto_region 10 with(at_builtin;refine Lib.wpList_append_run _ rfl _ _ _ _ rfl _ _ rfl rfl _ _ (Wv.o _) ?_)
 go_wp2_with (refine wpList_copy_run _ rfl (.tmp 43) (.tmp 44) 126 126 rfl _ _ rfl rfl (HP2.o t rfl _ _) ?_)
 go_region_law (refine qt rfl _ _ 126 126 rfl _ _ (by simp[Act.eval,Act.put]) (by simp[Act.eval,Act.put]) (Tb.o (t.setRow w.heap.size z).drew (λ_=>rfl) 3 (G - (i+1)) (c - i)) ?_)
 go_wp2;refine an ?_
 refine⟨_,rfl,?_,?_⟩
 ·refine⟨by rw[hU],.inr ⟨w.heap.size,G,X,by rw[y.o,F.o],aD _,?_,by rw[y.o,F.o];exact hGn,HCM.o,HF.o.2,by rw[y.o,F.o];exact HF.o.1⟩⟩
  exact setRow_heap _ _ z X _ _ (setRow_heap t _ q z _ _ Wu.o)
 ·have h:=HB1.o
  exact⟨h.os,h.tape,h.output,by simp[World.setRow];omega,λk m=>((setRow_other _ _ k _ aa).trans (setRow_other _ _ k _ aa)).trans (h.block k m)⟩
abbrev Ft:=Nat->Prop
def Gr(F:Ft)(w w':World):Ft:=λk=>F k\/(w.heap.size<=k/\k<w'.heap.size)
section
variable {F G : Ft} {w w1 w2 : World}
def ke(z:∀k,F k->k<w.heap.size)(y:w.heap.size<=w1.heap.size):∀k,Gr F w w1 k->k<w1.heap.size:=λk h=>by
 rcases h with h|h
 ·have:=z k h;omega
 ·exact h.2
def Wy(z:Touch F w w1)(y:Touch (Gr F w w1) w1 w2):Touch F w w2:=z.trans y (λ_ h=>h.imp id And.left)
def U6(t:Touch F w w1)(z:aq w1 w2):Touch F w w2:=t.trans (Touch.of_below (F:=F) z (aD _)) (λ_ h=>.inl h)
def yE(z:aq w w1)(t:Touch F w1 w2):Touch F w w2:=(Touch.of_below (F:=F) z (aD _)).trans t (λ_ h=>.inl h)
def tnew(z:aq w w1)(t:Touch G w1 w2)(y:∀k,G k->w.heap.size<=k):aq w w2:=z.trans (t.below y z.size)
end
variable{P:Ft->World->Prop}{F:Ft}{w w':World}
structure lY(P:Ft->World->Prop):Prop where
 stay:∀{F:Ft} {w w':World},P F w->(∀k,F k->w'.heap[k]?=w.heap[k]?)->w.heap.size<=w'.heap.size->P F w'
 more:∀{F G:Ft} {w:World},P F w->(∀k,F k->G k)->(∀k,G k->k<w.heap.size)->P G w
 low:∀{F:Ft} {w:World},P F w->∀k,F k->k<w.heap.size
def lY.keep(S:lY P)(h:P F w)(z:aq w w'):P F w':=S.stay h (λk y=>z.block k (S.low h k y)) z.size
def lY.far(S:lY P){G:Ft}(h:P F w)(y:Touch G w w')(x:∀k,F k->¬G k):P F w':=S.stay h (λk z=>y.block k (S.low h k z) (x k z)) y.size
def lY.gr(S:lY P){F':Ft}(z:P F' w')(v:∀k,F' k->F k\/w.heap.size<=k)(x:∀k,F k->k<w.heap.size)(u:w.heap.size<=w'.heap.size):P (Gr F w w') w':=
 S.more z (λk y=>(v k y).imp id λh=>⟨h,S.low z k y⟩) (ke x u)
end D
end Go.Proofs.YtdicblkhpcphfaaGreat
