/- Parts. -/
import Derived.Test.YtdicblkhpcphfaaGreatPU01
set_option maxRecDepth 100000
set_option maxHeartbeats 0
set_option linter.all false
namespace Go.Proofs.YtdicblkhpcphfaaGreat
open Tryz Go.RowKit Go.Lib
open _root_.List renaming length→ab0
open Go.IntKind renaming wrap→ad0
open _root_.Go renaming Calls→af4
open Tryz renaming prog→af5
variable{w w':World}{v:Value}{A:Option Addr}{base c g j off:Nat}{d n:Int}
def Bh(x y:Int):Int:=if x=y then 0 else if x<y then -1 else 1
def xF(x y:Int)(w:World)(u:0<=x)(t:x<18446744073709551616)(s:0<=y)(r:y<18446744073709551616):af4 af5 246 #[.int .u64 x,.int .u64 y] w (au w (.agg #[.int .u64 (x * y / 18446744073709551616),.int .u64 (x * y % 18446744073709551616)])):=by
 go_in;go_wp2_with (go_at_call 322;refine Ix (J9 _ _ _ u t s r) ?_);exact bodyPost_ret (v:=.agg #[.int .u64 (x * y / 18446744073709551616),.int .u64 (x * y % 18446744073709551616)]) (by simp[results,Tryz.results246,go_sem]) rfl ⟨rfl,(aC _ _).alloc (aD _) _⟩
def Mv(a b c d:Int)(w:World)(y:0<=b)(x:b<18446744073709551616)(v:0<=d)(u:d<18446744073709551616):af4 af5 381 #[.agg #[.int .u64 a,.int .u64 b],.agg #[.int .u64 c,.int .u64 d]] w (au w (af6 (Bh (a * 18446744073709551616+b) (c * 18446744073709551616+d)))):=by
 go_in;go_wp2
 all_goals (go_ret;refine⟨jz ?_,((aC _ _).alloc (aD _) _).alloc ad _⟩)
 all_goals (unfold Bh;(repeat' split)<;>omega)
def P6(L R:Int)(w:World):af4 af5 381 #[.agg #[.int .u64 (L / 18446744073709551616),.int .u64 (L % 18446744073709551616)],.agg #[.int .u64 (R / 18446744073709551616),.int .u64 (R % 18446744073709551616)]] w (au w (af6 (Bh L R))):=by
 have h:=Mv (L / 18446744073709551616) (L % 18446744073709551616) (R / 18446744073709551616) (R % 18446744073709551616) w aa  aa  aa  aa;rw[show L / 18446744073709551616 * 18446744073709551616+L % 18446744073709551616=L by omega,show R / 18446744073709551616 * 18446744073709551616+R % 18446744073709551616=R by omega] at h;exact h
def ID(L R:Int):(decide (Bh L R<=0))=decide (L<=R):=by
 unfold Bh;by_cases h:L=R
 .rw[aH h];simp;omega
 .rw[aF h]
  by_cases z:L<R
  .rw[aH z];simp;omega
  .rw[aF z];simp;omega
def Mw(h l d:Int)(t:0<=l)(s:l<18446744073709551616)(z:0<d):(h * 18446744073709551616+l) / d / 18446744073709551616=h / d/\(h * 18446744073709551616+l) / d % 18446744073709551616=(h % d * 18446744073709551616+l) / d /\
 (h * 18446744073709551616+l) % d=(h % d * 18446744073709551616+l) % d:=by
 have x:=cP h d;have v:=dB h (show d≠0 by omega);have u:=cO h z;generalize h / d=k at *;generalize h % d=m at *;have y:h * 18446744073709551616+l=(m * 18446744073709551616+l)+d * (k * 18446744073709551616):=by
  have:d * (k * 18446744073709551616)=d * k * 18446744073709551616:=by rw[bF]
  omega
 have r:0<=(m * 18446744073709551616+l) / d:=dh aa  aa;have q:(m * 18446744073709551616+l) / d<18446744073709551616:=cj aa  aa;rw[y,fD _ _ aa,eN];refine⟨aa,aa,rfl⟩
def Mx(h l d:Int)(w:World)(g:0<=h)(f:h<18446744073709551616)(x:0<=l)(v:l<18446744073709551616)(z:0<d)(u:d<18446744073709551616):af4 af5 247 #[.agg #[.int .u64 h,.int .u64 l],.int .u64 d] w (au w (.tuple #[.agg #[.int .u64 ((h * 18446744073709551616+l) / d / 18446744073709551616),.int .u64 ((h * 18446744073709551616+l) / d % 18446744073709551616)],.int .u64 ((h * 18446744073709551616+l) % d),af6 0])):=by
 have b:(d == 0)=false:=ae;go_in;go_wp2;go_region
 all_goals
  go_wp2_with (go_at_call 323;refine RX (J7 _ _ _ _ (dB _ aa) (cO _ z) x v u) ?_;intro Y y;have⟨c,a⟩:=vK y;have q:=y.size;try simp only[aI,bT,dL,World.ir] at q)
  refine ak ?_;obtain⟨t,s,r⟩:=Mw h l d x v z;rw[t,s,r];exact⟨rfl,bw⟩
def rL{a b:Int}(y:0<=a)(x:a<18446744073709551616)(z:0<=b)(v:b<18446744073709551616):0<=a * b/\a * b<340282366920938463463374607431768211456:=by
 have u:a * b<=18446744073709551615 * b:=bU aa z;exact⟨cX y z,aa⟩
def FQ(X d:Int)(w:World)(v:0<=X)(s:X<340282366920938463463374607431768211456)(z:0<d)(y:d<18446744073709551616)(u:X / d<18446744073709551616):af4 af5 247 #[.agg #[.int .u64 (X / 18446744073709551616),.int .u64 (X % 18446744073709551616)],.int .u64 d] w (au w (.tuple #[.agg #[.int .u64 0,.int .u64 (X / d)],.int .u64 (X % d),af6 0])):=by
 have t:0<=X / d:=dh v aa;have h:=Mx (X / 18446744073709551616) (X % 18446744073709551616) d w aa  aa  aa  aa z y;rw[show X / 18446744073709551616 * 18446744073709551616+X % 18446744073709551616=X by omega,show X / d / 18446744073709551616=0 by omega,show X / d % 18446744073709551616=X / d by omega] at h;exact h
def sC(a b d:Int)(w:World)(z:0<=a)(y:a<18446744073709551616)(x:0<=b)(v:b<18446744073709551616)(s:0<d)(r:d<18446744073709551616)(q:a * b / d<18446744073709551616):af4 af5 156 #[.int .u64 a,.int .u64 b,.int .u64 d] w (au w (.tuple #[.int .u64 (a * b / d),.int .u64 (a * b % d),af6 0])):=by
 obtain⟨f,c⟩:=rL z y x v;go_in;go_wp2_with (first|(go_at_call 246;refine RX (xF _ _ _ z y x v) ?_;intro S u;have⟨X,U⟩:=vK u;have p:=u.size;try simp only[aI,bT,dL,World.ir] at p)|(go_at_call 247;refine RX (FQ _ _ _ f c s r q) ?_;intro R t;have⟨V,T⟩:=vK t;have g:=t.size;try simp only[aI,bT,dL,World.ir] at g))
 all_goals (go_ret3;exact⟨rfl,bw⟩)
def J'(a b d:Int)(w:World)(z:0<=a)(x:a<18446744073709551616)(v:0<=b)(u:b<=d)(y:0<d)(t:d<18446744073709551616):af4 af5 156 #[.int .u64 a,.int .u64 b,.int .u64 d] w (au w (.tuple #[.int .u64 (a * b / d),.int .u64 (a * b % d),af6 0])):=
 sC a b d w z x v aa y t (cj y (by have:a * b<=a * d:=bX u z;have:a * d<=18446744073709551615 * d:=bU aa  aa ;omega))
def mo(low high at_ of_:Int):Int:=low+(high - low) * at_ / of_
def tk{low high x y:Int}(h:low<=high)(v:0<=x)(u:x<=y)(t:0<y):low<=mo low high x y/\mo low high x y<=high:=by
 have s:0<=(high - low) * x / y:=dh (cX aa v) aa;have r:(high - low) * x / y<=high - low:=by
  have z:(high - low) * x<=(high - low) * y:=bX u aa;exact Int.ediv_le_of_le_mul t z
 unfold mo;omega
def My(v u x y:Int)(w:World)(U:-9223372036854775808<=v)(f:v<=u)(a:u<=9223372036854775807)(s:0<=x)(r:x<=y)(q:0<y)(c:y<18446744073709551616):af4 af5 224 #[af6 v,af6 u,.int .u64 x,.int .u64 y] w (au w (.tuple #[af6 (mo v u x y),af6 0])):=by
 have V:(y == 0)=false:=ae;have b:ad0 .u64 (ad0 .u64 u - ad0 .u64 v)=u - v:=by simp only[iy];omega
 obtain⟨z,t⟩:=tk f s r q;have p:wrap64 (ad0 .u64 (ad0 .u64 v+(u - v) * x / y))=mo v u x y:=by
  simp only[iy,wrap64];unfold mo at *;omega
 clear z t;go_in;go_wp2_with (first|(go_at_call 156;refine RX (J' (u - v) _ _ _ aa  aa s r q c) ?_;intro T t;have⟨Y,X⟩:=vK t;have g:=t.size;try simp only[aI,bT,dL,World.ir] at g))
 go_ret2;exact⟨bu (λz=>Ending.returned (.tuple #[af6 z,af6 0])) p,bw⟩
def P8(m v n z:Int)(w:World)(t:-9223372036854775808<=m)(s:m<=n)(r:n<=9223372036854775807)(q:0<=v)(a:0<z)(p:v+z<18446744073709551616):af4 af5 321 #[af6 m,.int .u64 v,af6 n,.int .u64 z] w (au w (.tuple #[af6 (mo m n z (v+z)),af6 0])):=by
 have u:=J_ v z 0 w q aa  aa  aa;have y:(v+z+0) % 18446744073709551616=v+z:=aa;have x:(v+z+0) / 18446744073709551616=0:=aa;have f:(v+z == 0)=false:=ae;rw[y,x] at u;clear y x;go_in;go_wp2_with (first|(go_at_call 224;refine RX (My _ _ _ _ _ t s r aa  aa  aa p) ?_;intro b y;have⟨d,c⟩:=vK y;have x:=y.size;try simp only[aI,bT,dL,World.ir] at x))
 go_ret2;exact⟨rfl,bw⟩
def tm{α:Type}{motive:List α->Prop}(nil:motive [])(snoc:∀l x,motive l->motive (l++[x]))(l:List α):motive l:=by
 have h:∀n (l:List α),ab0 l=n->motive l:=by
  intro n
  induction n with
  | zero=>intro l z;rw[aV z];exact nil
  | succ n ih=>
   intro l z;have y:l≠[]:=by rintro rfl;simp at z
   rw[<-List.dropLast_concat_getLast y];exact snoc _ _ (ih _ (by simp[z]))
 exact h _ l rfl
abbrev Mn:=Int × Int
def wI(m:Mn):List Value:=[af6 m.1,.int .u64 m.2]
def iE(l:List Mn):List Value:=l.flatMap wI
def zG(l:List Mn):ab0 (iE l)=ab0 l * 2:=by
 induction l with
 | nil=>rfl
 | cons m l ih=>simp only[iE,List.flatMap_cons,aE,aK] at *;rw[ih];simp[wI];omega
def ss(a b:List Mn):iE (a++b)=iE a++iE b:=by simp[iE]
def qR:∀(l:List Mn) (i:Nat) (h:i<ab0 l),(iE l)[i * 2]?=some (af6 l[i].1)
 | m::l,0,_=>rfl
 | m::l,i+1,h=>by
  have:=qR l i (by simpa using h);rw[show(i+1) * 2=i * 2+2 by omega];simpa[iE,wI] using this
def qS:∀(l:List Mn) (i:Nat) (h:i<ab0 l),(iE l)[i * 2+1]?=some (.int .u64 l[i].2)
 | m::l,0,_=>rfl
 | m::l,i+1,h=>by
  have:=qS l i (by simpa using h);rw[show(i+1) * 2+1=i * 2+1+2 by omega];simpa[iE,wI] using this
def xH(l:List Mn):∀u∈iE l,u.oneCell'=true:=by
 intro u y;obtain⟨m,_,z⟩:=gC.1 y;simp[wI] at z;rcases z with rfl|rfl<;>rfl
def Cx(l:List Mn)(k:Nat):(iE l).drop (k * 2)=iE (l.drop k):=by
 induction k generalizing l with
 | zero=>simp
 | succ k ih=>
  cases l with
  | nil=>simp[iE]
  | cons m l=>
   rw[show(k+1) * 2=k * 2+2 by omega];have:=ih l;simpa[iE,wI] using this
def Cy(l:List Mn)(k:Nat):(iE l).take (k * 2)=iE (l.take k):=by
 induction k generalizing l with
 | zero=>simp[iE]
 | succ k ih=>
  cases l with
  | nil=>simp[iE]
  | cons m l=>
   rw[show(k+1) * 2=k * 2+2 by omega];have:=ih l;simpa[iE,wI] using this
def mS(w:World)(v:Value)(l:List Mn):Prop:=Rd 2 w v (ab0 l) (iE l)
def mS.K{l:List Mn}(h:mS w v l)(z:af3 w w'):mS w' v l:=Rd.K h z
def mq(w:World)(A:Option Addr)(l:List Mn):Prop:=0<ab0 l->∃g off,A=some (af7 g off)/\g<w.heap.size/\∀j,j<ab0 l * 2->w.cell? (af7 g (off+j))=(iE l)[j]?
def mS.form{l:List Mn}(h:mS w v l):∃A c,v=.slice A (ab0 l) c/\ab0 l<=c/\c<=9223372036854775807/\mq w A l:=by
 obtain⟨_,A,c,u,z,y,x⟩:=h;exact⟨A,c,u,z,by unfold maxLen at y;omega,x⟩
def mS.kn{l:List Mn}(z:ab0 l<=c)(y:c<=9223372036854775807)(h:mq w A l):mS w (.slice A (ab0 l) c) l:=
 ⟨zG l,A,c,rfl,z,by unfold maxLen;omega,h⟩
def mq.K{l:List Mn}(h:mq w A l)(z:af3 w w'):mq w' A l:=λv=>by
 obtain⟨g,x,u,y,t⟩:=h v;exact⟨g,x,u,aG y z.size,λj s=>(z.C (p:=af7 g (x+j)) y).T (t j s)⟩
def mq.at_{l:List Mn}(h:mq w A l)(x:j<ab0 l):∃g z,A=some (af7 g z)/\g<w.heap.size/\w.cell? (af7 g (z+j * 2))=some (af6 l[j].1)/\w.cell? (af7 g (z+j * 2+1))=some (.int .u64 l[j].2):=by
 obtain⟨g,z,v,u,y⟩:=h aa;refine⟨g,z,v,u,?_,?_⟩
 .rw[y (j * 2) aa,qR l j x]
 .rw[de,y (j * 2+1) aa,qS l j x]
def mq.tail{l:List Mn}(h:mq w A l)(x:A=some (af7 g off))(k:Nat):mq w (some (af7 g (off+k * 2))) (l.drop k):=λy=>by
 rw[aW] at y;obtain⟨s,r,z,u,v⟩:=h aa;rw[x] at z;injection z with z;injection z with e1 e2;subst e1;subst e2;refine⟨g,_,rfl,u,λj t=>?_⟩;rw[aW] at t;rw[de,v _ aa,<-Cx,dz]
def mq.head{l:List Mn}(h:mq w A l)(k:Nat):mq w A (l.take k):=λu=>by
 have s:=eS k l;have r:=gP k l;obtain⟨g,v,z,x,y⟩:=h aa;refine⟨g,v,z,x,λj t=>?_⟩;rw[y j aa,<-Cy,di,aH aa]
def mq.nil:mq w A []:=λh=>absurd h ad
def ic(base:Nat)(w:World)(v:Value)(l:List Mn):Prop:=w.ownsRow base 216 2 v (ab0 l) (iE l)
def ic.rd{l:List Mn}(h:ic base w v l):mS w v l:=Rd.oX h
def ic.nil_(z:Nat)(w:World):ic z w (.slice none 0 0) []:=World.ownsRow_nil w z _ _
def ic.more{base':Nat}{l:List Mn}(h:ic base w v l)(q:base'<=base):ic base' w v l:=by
 obtain⟨t,z⟩:=h;refine⟨t,?_⟩;rcases z with z|⟨g,y,x,u,s,r⟩
 .exact .inl z
 .exact .inr ⟨g,y,x,u,aa,r⟩
def ic.stay{l:List Mn}(h:ic base w v l)(q:∀g,v.ownBlock=some g->w'.heap[g]?=w.heap[g]?):ic base w' v l:=by
 obtain⟨s,z⟩:=h;refine⟨s,?_⟩;rcases z with z|⟨g,y,x,rfl,u,t,r⟩
 .exact .inl z
 .exact .inr ⟨g,y,x,rfl,u,by rw[q g rfl];exact t,r⟩
def ic.lt{base:Nat}{w:World}{v:Value}{l:List Mn}(h:ic base w v l):∀g,v.ownBlock=some g->base<=g/\g<w.heap.size:=gE h
def ic.K{l:List Mn}(h:ic base w v l)(z:af3 w w'):ic base w' v l:=h.stay λg y=>z.block g (h.lt g y).2
def ic.drewN{l:List Mn}(h:ic base w v l)(n:Nat):ic base (w.drewN n) v l:=h
def ic.drew{l:List Mn}(h:ic base w v l):ic base w.drew v l:=h
def ic.alloc{base:Nat}{w:World}{v:Value}{l:List Mn}(h:ic base w v l)(o:Obj):ic base (w.alloc o) v l:=fT h o
def ic.far{l:List Mn}(h:ic base w v l){p:Addr}(y:v.ownBlock≠some p.block)(u:Value):ic base (w.setCell p u) v l:=
 h.stay λg z=>a_ w p u g (λe=>y (by rw[z,e]))
def ic.form{l:List Mn}(h:ic base w v l):∃A c,v=.slice A (ab0 l) c/\ab0 l<=c/\c<=9223372036854775807/\mq w A l:=h.rd.form
def ic.pos{l:List Mn}(h:ic base w v l)(r:0<ab0 l):∃g c,v=.slice (some (af7 g 0)) (ab0 l) c/\base<=g/\g<w.heap.size/\ab0 l<=c/\c<=9223372036854775807:=by
 rcases h.2 with⟨_,q⟩|⟨g,z,t,rfl,y,s,x,u,_⟩
 .omega
 .exact⟨g,z,rfl,y,(h.lt g rfl).2,x,by unfold maxLen at u;omega⟩
def ic.at_{l:List Mn}(h:ic base w (.slice (some (af7 g 0)) (ab0 l) c) l)(z:j<ab0 l):w.cell? (af7 g (j * 2))=some (af6 l[j].1)/\w.cell? (af7 g (j * 2+1))=some (.int .u64 l[j].2)/\w.frozen? (af7 g (j * 2))=false/\w.frozen? (af7 g (j * 2+1))=false:=by
 refine⟨?_,?_,fo h _,fo h _⟩
 .rw[fH h _ aa,qR l j z]
 .rw[fH h _ aa,qS l j z]
def xI:∀(l:List Mn) (j:Nat) (m:Mn),((iE l).set (j * 2) (af6 m.1)).set (j * 2+1) (.int .u64 m.2)=iE (l.set j m)
 | [],_,_=>rfl
 | x::l,0,m=>by simp[iE,wI]
 | x::l,j+1,m=>by
  have:=xI l j m;rw[show(j+1) * 2=j * 2+2 by omega,show j * 2+2+1=j * 2+1+2 by omega];simp only[iE,wI,List.flatMap_cons,bG,bB,bR] at this |-;rw[this]
def ic.hJ{l:List Mn}(h:ic base w (.slice (some (af7 g 0)) (ab0 l) c) l)(j:Nat)(m:Mn):ic base ((w.setCell (af7 g (j * 2)) (af6 m.1)).setCell (af7 g (j * 2+1)) (.int .u64 m.2)) (.slice (some (af7 g 0)) (ab0 (l.set j m)) c) (l.set j m):=by
 have z:=(eL h (j * 2) (af6 m.1)).1;have y:=(eL z (j * 2+1) (.int .u64 m.2)).1;unfold ic;rw[<-xI,aZ];exact y
def ic.setLast{N m:Nat}{acc:List Mn}{now:Mn}(x:Mn)(h:ic base w (.slice (some (af7 g 0)) N c) (acc++[now]))(v:ab0 acc=m)(y:ab0 (acc++[now])=N):ic base ((w.setCell (af7 g (m * 2)) (af6 x.1)).setCell (af7 g (m * 2+1)) (.int .u64 x.2)) (.slice (some (af7 g 0)) N c) (acc++[x]):=by
 subst v y;have z:=h.hJ (ab0 acc) x;rw[aZ] at z;rw[show(acc++[now]).set (ab0 acc) x=acc++[x] by simp] at z;exact z
def mS.one(w:World)(m:Mn):mS (w.alloc (.cells #[af6 m.1,.int .u64 m.2] 216)) (.slice (some (af7 (w.heap.size) 0)) 1 1) [m]:=by
 refine mS.kn ad aa (λ_=>⟨w.heap.size,0,rfl,ad,λj z=>?_⟩);simp only[bh] at z;have:j=0\/j=1:=aa;rcases this with rfl|rfl<;>simp[iE,wI,bW]
def mS.SG{l:List Mn}(x:0<ab0 l)(v:ab0 l<=c)(u:c<=9223372036854775807)(h:mq w (some (af7 g off)) l):mS w (.slice (if c=1 then some (af7 g off) else some (af7 g (off+2))) (ab0 l - 1) (c - 1)) (l.drop 1):=by
 by_cases z:c=1
 .rw[aH z]
  have y:l.drop 1=[]:=aV (by rw[aW];omega);rw[y,show ab0 l - 1=0 by omega];exact mS.kn (l:=[]) ad aa mq.nil
 .rw[aF z]
  have:=mS.kn (c:=c - 1) (l:=l.drop 1) (by rw[aW];omega) aa (h.tail rfl 1)
  rwa [aW] at this
def ins(x:Mn):List Mn->List Mn
 | []=>[x]
 | y::l=>if y.1<=x.1 then y::ins x l else x::y::l
def jk(l:List Mn):List Mn:=l.foldl (λo x=>ins x o) []
def mrg:List Mn->List Mn->List Mn
 | [],b=>b
 | a,[]=>a
 | x::a,y::b=>if y.1<x.1 then y::mrg (x::a) b else x::mrg a (y::b)
def mrg_nil_right(a:List Mn):mrg a []=a:=by cases a<;>simp[mrg]
def mrg_nil_left(b:List Mn):mrg [] b=b:=by cases b<;>simp[mrg]
def FR{xs ys:List Mn}(z:0<ab0 xs)(v:0<ab0 ys)(h:ys[0].1<xs[0].1):mrg xs ys=ys[0]::mrg xs (ys.drop 1):=by
 match xs,ys,z,v,h with
 | x::xs,y::ys,_,_,h=>simp only[bZ] at h;rw[mrg,aH h];rfl
def FU{xs ys:List Mn}(z:0<ab0 xs)(v:0<ab0 ys)(h:¬ys[0].1<xs[0].1):mrg xs ys=xs[0]::mrg (xs.drop 1) ys:=by
 match xs,ys,z,v,h with
 | x::xs,y::ys,_,_,h=>simp only[bZ] at h;rw[mrg,aF h];rfl
def tn(x:Mn):∀s t:List Mn,mrg s (ins x t)=ins x (mrg s t)
 | [],t=>by simp[mrg]
 | y::s,[]=>by
  simp only[ins,mrg_nil_right];unfold mrg;by_cases h:x.1<y.1
  .rw[aH h,mrg_nil_right,aF aa]
  .rw[aF h,aH aa]
   have:=tn x s [];simp only[ins,mrg_nil_right] at this;rw[this]
 | y::s,z::t=>by
  by_cases v:z.1<=x.1
  .have e:ins x (z::t)=z::ins x t:=by simp[ins,v]
   rw[e];unfold mrg;by_cases h:z.1<y.1
   .rw[aH h,aH h,tn x (y::s) t]
    simp[ins,v]
   .rw[aF h,aF h]
    have:=tn x s (z::t);rw[e] at this;rw[this];simp only[ins];rw[aH (show y.1<=x.1 by omega)]
  .have e:ins x (z::t)=x::z::t:=by simp[ins,v]
   rw[e];by_cases u:x.1<y.1
   .rw[mrg,aH u]
    unfold mrg;by_cases h:z.1<y.1
    .rw[aH h];simp only[ins];rw[aF v]
    .rw[aF h];simp only[ins];rw[aF aa]
   .rw[mrg,aF u]
    have:=tn x s (z::t);rw[e] at this;rw[this]
    conv=>rhs;rw[mrg,aF aa]
    simp only[ins];rw[aH (show y.1<=x.1 by omega)]
 termination_by s t=>ab0 s+ab0 t
def uJ(x:Mn):∀(l:List Mn) (k:Nat),k<=ab0 l->(∀j (h:j<ab0 l),j<k->l[j].1<=x.1)->(∀h:k<ab0 l,x.1<l[k].1)->ins x l=l.take k++x::l.drop k
 | [],k,_,_,_=>by simp[ins]
 | y::l,0,_,_,h2=>by
  have:=h2 ad;simp only[bZ] at this;simp only[ins,dm,bB,bj];rw[aF aa]
 | y::l,k+1,h0,h1,h2=>by
  have z:=h1 0 ad aa;simp only[bZ] at z;simp only[ins,cE,bG,aX];rw[aH z,uJ x l k (by simpa using h0) (λj h v=>h1 (j+1) (Nat.succ_lt_succ h) aa) (λh=>h2 (Nat.succ_lt_succ h))]
def Mz{x:Mn}{S T:List Mn}{q:Nat}(h:T=S.take q++x::S.drop q)(v:q<=ab0 S):ab0 T=ab0 S+1/\T.take (q+1)=S.take q++[x]/\∀k (y:k<ab0 S),q<=k->T.take (k+1+1)=T.take (k+1)++[S[k]]:=by
 subst h;have z:ab0 (S.take q)=q:=by rw[aU];omega
 refine⟨ae,?_,λk y y=>?_⟩
 .rw[List.take_append,z,bc aa,show q+1 - q=1 by omega];rfl
 .have y:k+1<ab0 (S.take q++x::S.drop q):=ae
  rw[aM y]
  congr 2
  rw[cU aa];simp only[z];have:k+1 - q=(k - q)+1:=aa;simp only[this,dR,gh]
  congr 1
  omega
def pj(l:List Mn)(x:Mn):jk (l++[x])=ins x (jk l):=by simp[jk]
def zH(l:List Mn)(i:Nat)(h:i<ab0 l):jk (l.take (i+1))=ins l[i] (jk (l.take i)):=by
 rw[aM h,pj]
def Ka(s:List Mn):∀b:List Mn,mrg s (jk b)=b.foldl (λo x=>ins x o) s:=by
 intro b
 induction b using tm with
 | nil=>simp[jk,mrg_nil_right]
 | snoc b x ih=>rw[pj,tn,ih,dN];rfl
def mL(a b:List Mn):mrg (jk a) (jk b)=jk (a++b):=by
 rw[Ka,jk,jk,dN]
def sD(x:Mn)(l:List Mn):ab0 (ins x l)=ab0 l+1:=by
 induction l with
 | nil=>rfl
 | cons y l ih=>simp only[ins];split<;>simp[ih]
def kL(l:List Mn):ab0 (jk l)=ab0 l:=by
 induction l using tm with
 | nil=>rfl
 | snoc l x ih=>rw[pj,sD,ih];simp
def IE(x:Mn)(l:List Mn)(m:Mn):m∈ins x l<->m=x\/m∈l:=by
 induction l with
 | nil=>simp[ins]
 | cons y l ih=>
  simp only[ins];split
  .simp only[aS,ih];constructor
   .rintro (h|h|h)<;>simp[h]
   .rintro (h|h|h)<;>simp[h]
  .simp
def IF(l:List Mn)(m:Mn):m∈jk l<->m∈l:=by
 induction l using tm with
 | nil=>simp[jk]
 | snoc l x ih=>rw[pj,IE,ih];simp[or_comm]
def jF(l:List Mn):Prop:=l.Pairwise (λa b=>a.1<=b.1)
def zU(x:Mn):∀l:List Mn,jF l->jF (ins x l)
 | [],_=>by simp[ins,jF]
 | y::l,h=>by
  have v:=aR.1 h;simp only[ins];split
  .rename_i u
   refine aR.2 ⟨λm z=>?_,zU x l v.2⟩;rcases(IE x l m).1 z with rfl|z
   .exact u
   .exact v.1 m z
  .rename_i u
   refine aR.2 ⟨λm z=>?_,h⟩;rcases aS.1 z with rfl|z
   .omega
   .have:=v.1 m z;omega
def uK(l:List Mn):jF (jk l):=by
 induction l using tm with
 | nil=>simp[jk,jF]
 | snoc l x ih=>rw[pj];exact zU x _ ih
def tot:List Mn->Int
 | []=>0
 | m::l=>m.2+tot l
def h_(a b:List Mn):tot (a++b)=tot a+tot b:=by
 induction a with
 | nil=>simp[tot]
 | cons m a ih=>simp only[bG,tot,ih];omega
def P9(x:Mn)(l:List Mn):tot (ins x l)=x.2+tot l:=by
 induction l with
 | nil=>rfl
 | cons y l ih=>simp only[ins];split<;>simp only[tot,ih];omega
def tp(l:List Mn):tot (jk l)=tot l:=by
 induction l using tm with
 | nil=>rfl
 | snoc l x ih=>rw[pj,P9,ih,h_];simp only[tot];omega
def ja(l:List Mn)(j:Nat)(h:j<ab0 l):tot (l.take (j+1))=tot (l.take j)+l[j].2:=by
 rw[aM h,h_];simp[tot]
def SH(m:Mn):Prop:=-9223372036854775808<=m.1/\m.1<=9223372036854775807/\0<m.2
def lf(l:List Mn):Prop:=∀m∈l,SH m
def lf.g_:∀{l:List Mn},lf l->0<=tot l
 | [],_=>by simp[tot]
 | m::l,h=>by
  have y:=lf.g_ (l:=l) (λx z=>h x (aQ _ z));have z:=(h m (aJ ..)).2.2;simp only[tot];omega
def lf.tail{m:Mn}{l:List Mn}(h:lf (m::l)):lf l:=λx z=>h x (aQ _ z)
def lf.append{a b:List Mn}(h:lf a)(k:lf b):lf (a++b):=λm y=>by
 rcases cz.1 y with z|z
 .exact h m z
 .exact k m z
def lf.jk{l:List Mn}(h:lf l):lf (jk l):=λm z=>h m ((IF l m).1 z)
def lf.take{l:List Mn}(h:lf l)(j:Nat):lf (l.take j):=λm z=>h m (cm z)
def lf.drop{l:List Mn}(h:lf l)(j:Nat):lf (l.drop j):=λm z=>h m (cp z)
def lf.get{l:List Mn}(h:lf l)(z:j<ab0 l):SH l[j]:=h _ (aP z)
def lf.tq{l:List Mn}(h:lf l)(j:Nat):0<=tot (l.take j)/\tot (l.take j)<=tot l:=by
 have y:=(h.take j).g_;have x:=(h.drop j).g_;have z:=h_ (l.take j) (l.drop j);rw[bL] at z;omega
def lf.Bi{l:List Mn}(h:lf l)(z:j<ab0 l):tot (l.take j)+l[j].2<=tot l:=by
 rw[<-ja l j z];exact(h.tq _).2
def tr(d n done weight:Int):Bool:=decide (weight * d * n<=(2 * done+weight) * (2 * n - 2 * done - weight))
def jO(d n:Int):List Mn->Int->Mn->List Mn
 | [],_,now=>[now]
 | m::l,done,now=>if tr d n done (now.2+m.2) then jO d n l done (mo now.1 m.1 m.2 (now.2+m.2),now.2+m.2) else now::jO d n l (done+now.2) m
def nR(d n:Int):List Mn->List Mn
 | []=>[]
 | m::l=>jO d n l 0 m
def qT(d:Int)(l:List Mn):List Mn:=nR d (tot l) (jk l)
def sE(d n:Int):∀(l:List Mn) (done:Int) (now:Mn),tot (jO d n l done now)=now.2+tot l
 | [],_,now=>by simp[jO,tot]
 | m::l,done,now=>by
  unfold jO;split
  .rw[sE];simp only[tot];omega
  .simp only[tot];rw[sE]
def Kb(d n:Int)(l:List Mn):tot (nR d n l)=tot l:=by
 cases l with
 | nil=>rfl
 | cons m l=>simp only[nR,sE,tot]
def wY(d:Int)(l:List Mn):tot (qT d l)=tot l:=by rw[qT,Kb,tp]
def mM(d n:Int):∀(l:List Mn) (done:Int) (now:Mn),1<=ab0 (jO d n l done now)/\ab0 (jO d n l done now)<=ab0 l+1
 | [],_,now=>by simp[jO]
 | m::l,done,now=>by
  unfold jO;split
  .have:=mM d n l done (mo now.1 m.1 m.2 (now.2+m.2),now.2+m.2);simp only[aK];omega
  .have:=mM d n l (done+now.2) m;simp only[aK];omega
def FV(d:Int)(l:List Mn):ab0 (qT d l)<=ab0 l:=by
 unfold qT;have h:=kL l;cases hs:jk l with
 | nil=>simp[nR]
 | cons m s=>rw[hs] at h;have:=(mM d (tot l) s 0 m).2;simp only[nR,aK] at *;omega
def IG(d:Int){l:List Mn}(y:l≠[]):qT d l≠[]:=by
 unfold qT;have h:=kL l;cases hs:jk l with
 | nil=>rw[hs] at h;simp at h;exact absurd h.Y (by simpa using y)
 | cons m s=>intro z;have:=(mM d (tot l) s 0 m).1;simp only[nR] at z;rw[z] at this;simp at this
def uL(d n t v:Int):∀(l:List Mn) (done:Int) (now:Mn),lf (now::l)->jF (now::l)->(∀m∈now::l,t<=m.1/\m.1<=v) ->
 lf (jO d n l done now)/\jF (jO d n l done now)/\(∀m∈jO d n l done now,now.1<=m.1/\m.1<=v)
 | [],_,now,h1,h2,h3=>⟨h1,h2,λm z=>by
  have:=h3 m z;simp only[jO,bQ] at z;subst z;exact⟨eB _,this.2⟩⟩
 | m::l,done,now,h1,h2,h3=>by
  have u:=aR.1 h2;have s:=aR.1 u.2;have q:now.1<=m.1:=u.1 m (aJ ..);have r:=h1 now (aJ ..);have p:=h1 m (aQ _ (aJ ..));have V:=r.2.2;have U:=p.2.2;unfold jO;split
  .have X:=tk q (x:=m.2) (y:=now.2+m.2) aa  aa  aa
   have g:SH (mo now.1 m.1 m.2 (now.2+m.2),now.2+m.2):=by
    unfold SH at *;refine⟨?_,?_,?_⟩<;>simp only<;>omega
   obtain⟨a,b,c⟩:=uL d n t v l done (mo now.1 m.1 m.2 (now.2+m.2),now.2+m.2)
    (by intro x z;rcases aS.1 z with rfl|z;exact g;exact h1 x (by simp[z]))
    (by refine aR.2 ⟨λx z=>?_,s.2⟩;have:=s.1 x z;simp only;omega)
    (by
     have f:=h3 now (aJ ..);have Y:=h3 m ad;intro x z;rcases aS.1 z with rfl|z
     .simp only;omega
     .exact h3 x (by simp[z]))
   refine⟨a,b,λx z=>?_⟩;have:=c x z;simp only at this;omega
  .obtain⟨a,b,c⟩:=uL d n t v l (done+now.2) m h1.tail u.2 (λx z=>h3 x (aQ _ z))
   refine⟨?_,aR.2 ⟨λx z=>?_,b⟩,λx z=>?_⟩
   .intro x z;rcases aS.1 z with rfl|z;exact r;exact a x z
   .have:=c x z;omega
   .rcases aS.1 z with rfl|z
    .exact⟨eB _,(h3 x (aJ ..)).2⟩
    .have:=c x z;omega
def xJ(d v y:Int){l:List Mn}(h:lf l)(q:∀m∈l,v<=m.1/\m.1<=y):lf (qT d l)/\jF (qT d l)/\(∀m∈qT d l,v<=m.1/\m.1<=y):=by
 unfold qT;have t:=h.jk;have r:=uK l;have u:∀m∈jk l,v<=m.1/\m.1<=y:=λm z=>q m ((IF l m).1 z);cases hs:jk l with
 | nil=>exact⟨(λm z=>by simp[nR] at z),by simp[nR,jF],(λm z=>by simp[nR] at z)⟩
 | cons m s=>
  rw[hs] at t r u;obtain⟨a,b,c⟩:=uL d (tot l) v y s 0 m t r u;refine⟨a,b,λx p=>?_⟩;have:=c x p;have:=u m (aJ ..);omega
structure qU(d n:Int)(l:List Mn)(j:Nat)(acc:List Mn)(now:Mn):Prop where
 e:nR d n l=acc++jO d n (l.drop j) (tot acc) now
 t:tot acc+now.2+tot (l.drop j)=n
 ok:lf (now::l.drop j)
 oka:lf acc
 rise:jF (now::l.drop j)
 len:ab0 acc+1<=j
def qU.start(d:Int){l:List Mn}(z:0<ab0 l)(x:lf l)(v:jF l):qU d (tot l) l 1 [] l[0]:=by
 match l,z with
 | m::l,_=>
  refine⟨by simp[nR,tot],by simp[tot],x,(λm y=>by simp at y),v,ad⟩
def drop_cons{l:List Mn}(h:j<ab0 l):l.drop j=l[j]::l.drop (j+1):=b_ h
def qU.facts{l:List Mn}{acc:List Mn}{now:Mn}(h:qU d n l j acc now)(u:j<ab0 l):0<=tot acc/\SH now/\SH l[j]/\now.1<=l[j].1/\tot acc+(now.2+l[j].2)<=n:=by
 have v:=h.oka.g_;have z:=h.ok;have y:=h.rise;have x:=h.t;rw[drop_cons u] at z y x;have t:=z.tail.tail.g_;simp only[tot] at x;refine⟨v,z _ (aJ ..),z l[j] (aQ _ (aJ ..)),(aR.1 y).1 _ (aJ ..),aa⟩
def qU.merge{l:List Mn}{acc:List Mn}{now:Mn}(h:qU d n l j acc now)(v:j<ab0 l)(f:tr d n (tot acc) (now.2+l[j].2)=true):qU d n l (j+1) acc (mo now.1 l[j].1 l[j].2 (now.2+l[j].2),now.2+l[j].2):=by
 obtain⟨a,q,p,g,Y⟩:=h.facts v;obtain⟨e,t,s,b,r,V⟩:=h;rw[drop_cons v] at e t s r;have U:=q.2.2;have T:=p.2.2;have X:=tk g (x:=l[j].2) (y:=now.2+l[j].2) aa  aa  aa;have c:=aR.1 r;have u:=aR.1 c.2;refine⟨?_,?_,?_,b,?_,aa⟩
 .rw[e];conv=>lhs;rw[jO,aH f]
 .simp only[tot] at t |-;omega
 .intro x z
  rcases aS.1 z with rfl|z
  .unfold SH at *;refine⟨?_,?_,?_⟩<;>simp only<;>omega
  .exact s x (aQ _ (aQ _ z))
 .refine aR.2 ⟨λx z=>?_,u.2⟩
  have:=u.1 x z;simp only;omega
def qU.push{l:List Mn}{acc:List Mn}{now:Mn}(h:qU d n l j acc now)(u:j<ab0 l)(z:tr d n (tot acc) (now.2+l[j].2)=false):qU d n l (j+1) (acc++[now]) l[j]:=by
 obtain⟨e,t,y,r,v,q⟩:=h;rw[drop_cons u] at e t y v;have s:=aR.1 v;have x:tot (acc++[now])=tot acc+now.2:=by rw[h_];simp[tot]
 refine⟨?_,?_,y.tail,?_,s.2,ae⟩
 .rw[e,x,aN];conv=>lhs;rw[jO,aF (by rw[z];simp)]
  rfl
 .rw[x];simp only[tot] at t;omega
 .exact r.append (λm z=>by simp only[bQ] at z;subst z;exact y m (aJ ..))
def qU.fin{l:List Mn}{acc:List Mn}{now:Mn}(h:qU d n l (ab0 l) acc now):nR d n l=acc++[now]:=by
 have e:=h.e;rw[List.drop_length] at e;exact e
def jD(d:Int)(L W:List Mn)(m:Mn):List Mn:=if d<=(ab0 W:Int)+1 then qT d (L++(W++[m])) else L
def nu(d:Int)(W:List Mn)(m:Mn):List Mn:=if d<=(ab0 W:Int)+1 then [] else W++[m]
def Cz(d:Int)(L W:List Mn)(m:Mn):tot (jD d L W m++nu d W m)=tot (L++W)+m.2:=by
 unfold jD nu;split
 .rw[bP,wY];simp only[h_,tot];omega
 .simp only[h_,tot];omega
def CD(d:Int)(L W:List Mn)(m:Mn):ab0 (jD d L W m)+ab0 (nu d W m)<=ab0 L+ab0 W+1:=by
 unfold jD nu;split
 .have:=FV d (L++(W++[m]));simp only[aE,aK,aY] at this |-;omega
 .simp only[aE,aK,aY];omega
def FX(d:Int)(L W:List Mn)(m:Mn):jD d L W m++nu d W m≠[]:=by
 unfold jD nu;split
 .rw[bP];exact IG d ad
 .simp
def MA(d:Int)(W:List Mn)(m:Mn)(z:0<d):(ab0 (nu d W m):Int)<d:=by
 unfold nu;split
 .simpa using z
 .simp only[aE,aK,aY];omega
structure St where
 L:List Mn
 W:List Mn
 lo:Int
 hi:Int
namespace St
variable{d:Int}{s:St}{k:Nat}
def zero:St:=⟨[],[],0,0⟩
def add(d:Int)(s:St)(a k:Int):St:=⟨jD d s.L s.W (a,k),nu d s.W (a,k),if tot (s.L++s.W)=0 then a else min s.lo a,if tot (s.L++s.W)=0 then a else max s.hi a⟩
def take(d:Int)(s t:St):St:=
 if tot (t.L++t.W)=0 then s else⟨qT d (s.L++(s.W++(t.L++t.W))),[],if tot (s.L++s.W)=0 then t.lo else min s.lo t.lo,if tot (s.L++s.W)=0 then t.hi else max s.hi t.hi⟩
structure Ok(d:Int)(s:St)(k:Nat):Prop where
 ok:lf (s.L++s.W)
 bd:∀m∈s.L++s.W,s.lo<=m.1/\m.1<=s.hi
 Kc:-9223372036854775808<=s.lo
 lo1:s.lo<=9223372036854775807
 hi0:-9223372036854775808<=s.hi
 hi1:s.hi<=9223372036854775807
 emp:s.L++s.W=[]->s.lo=0/\s.hi=0
 len:ab0 s.L+ab0 s.W<=k
 wl:(ab0 s.W:Int)<d
 rise:jF s.L
def II(d:Int)(h:0<d):zero.Ok d 0:=⟨λm z=>by simp[zero] at z,λm z=>by simp[zero] at z,by simp[zero],by simp[zero],by simp[zero],by simp[zero],λ_=>⟨rfl,rfl⟩,by simp[zero],by simpa[zero] using h,by simp[zero,jF]⟩
def Ok.more{j:Nat}(h:s.Ok d k)(z:k<=j):s.Ok d j:=⟨h.ok,h.bd,h.Kc,h.lo1,h.hi0,h.hi1,h.emp,bf h.len z,h.wl,h.rise⟩
def P_{l:List Mn}(h:lf l)(z:l≠[]):0<tot l:=by
 match l,z with
 | m::l,_=>
  have y:=(h m (aJ ..)).2.2;have x:=h.tail.g_;simp only[tot];omega
def Ok.sF(h:s.Ok d k):tot (s.L++s.W)=0<->s.L++s.W=[]:=by
 constructor
 .intro z
  by_cases y:s.L++s.W=[]
  .exact y
  .have:=P_ h.ok y;omega
 .intro z;rw[z];rfl
def Ok.j7(h:s.Ok d k):0<=tot (s.L++s.W):=h.ok.g_
def R9(d:Int)(s:St)(a k:Int):tot ((s.add d a k).L++(s.add d a k).W)=tot (s.L++s.W)+k:=Cz d s.L s.W (a,k)
def Ok.add(h:s.Ok d k)(g:0<d){a n:Int}(q:-9223372036854775808<=a)(p:a<=9223372036854775807)(f:0<n):(s.add d a n).Ok d (k+1):=by
 have t:(if tot (s.L++s.W)=0 then a else min s.lo a)<=a/\(tot (s.L++s.W)≠0->(if tot (s.L++s.W)=0 then a else min s.lo a)<=s.lo)/\-9223372036854775808<=(if tot (s.L++s.W)=0 then a else min s.lo a):=by
  have:=h.Kc;split<;>refine⟨aa,aa,aa⟩
 have u:a<=(if tot (s.L++s.W)=0 then a else max s.hi a)/\(tot (s.L++s.W)≠0->s.hi<=(if tot (s.L++s.W)=0 then a else max s.hi a))/\(if tot (s.L++s.W)=0 then a else max s.hi a)<=9223372036854775807:=by
  have:=h.hi1;split<;>refine⟨aa,aa,aa⟩
 have x:lf (s.L++(s.W++[(a,n)])):=by
  rw[<-aN];exact h.ok.append (λm y=>by simp only[bQ] at y;subst y;exact⟨q,p,f⟩)
 have v:∀m∈s.L++(s.W++[(a,n)]),(if tot (s.L++s.W)=0 then a else min s.lo a)<=m.1/\m.1<=(if tot (s.L++s.W)=0 then a else max s.hi a):=by
  intro m y;rw[<-aN] at y;rcases cz.1 y with z|z
  .have c:=h.bd m z
   have r:tot (s.L++s.W)≠0:=λe=>by rw[h.sF.1 e] at z;cases z
   have:=t.2.1 r;have:=u.2.1 r;omega
  .simp only[bQ] at z
   subst z;exact⟨t.1,u.1⟩
 refine⟨?_,?_,t.2.2,by show(if _ then _ else _)<=_;omega,by show _<=(if _ then _ else _);omega,u.2.2,λe=>absurd e (FX d s.L s.W (a,n)),?_,MA d s.W (a,n) g,?_⟩
 .show lf (jD d s.L s.W (a,n)++nu d s.W (a,n))
  unfold jD nu;split
  .rw[bP]
   exact(xJ d _ _ x v).1
  .exact x
 .show ∀m∈jD d s.L s.W (a,n)++nu d s.W (a,n),(if tot (s.L++s.W)=0 then a else min s.lo a)<=m.1/\m.1<=(if tot (s.L++s.W)=0 then a else max s.hi a)
  generalize (if tot (s.L++s.W)=0 then a else min s.lo a)=y at *;generalize (if tot (s.L++s.W)=0 then a else max s.hi a)=z at *;unfold jD nu;split
  .rw[bP]
   exact(xJ d _ _ x v).2.2
  .exact v
 .have:=CD d s.L s.W (a,n)
  have:=h.len;show(jD d s.L s.W (a,n)).length+ab0 (nu d s.W (a,n))<=k+1
  omega
 .show jF (jD d s.L s.W (a,n))
  unfold jD;split
  .exact(xJ d _ _ x v).2.1
  .exact h.rise
end St
variable{d hi lo:Int}
def lG(lo hi:Int)(nl:Nat):Nat->Int->Int->List Mn->Bool
 | _,_,_,[]=>true
 | i,p,t,m::r=>if m.2=0\/281474976710656 - t<m.2\/m.1<lo\/hi<m.1\/(0<i/\i<nl/\m.1<p) then false else lG lo hi nl (i+1) m.1 (t+m.2) r
def jA(d lo hi:Int)(L W:List Mn):Bool:=decide (10<=d/\d<=1000/\(ab0 W:Int)<d) && lG lo hi (ab0 L) 0 0 0 (L++W) && decide (0<tot (L++W)\/(lo=0/\hi=0))
def oY(l:List Mn):Prop:=∀m∈l,-9223372036854775808<=m.1/\m.1<=9223372036854775807/\0<=m.2/\m.2<=18446744073709551615
def zV{lo hi:Int}{nl:Nat}:∀{l:List Mn} {i:Nat} {p t:Int},lG lo hi nl i p t l=true->oY l->0<=t->t<=281474976710656->lf l/\(∀m∈l,lo<=m.1/\m.1<=hi)/\t+tot l<=281474976710656
 | [],i,p,t,_,_,t0,t1=>⟨λm y=>(by cases y),λm y=>(by cases y),by simp only[tot];omega⟩
 | m::r,i,p,t,h,hr,t0,t1=>by
  unfold lG at h;split at h
  .cases h
  .rename_i v
   have y:=hr m (aJ ..);obtain⟨a,b,c⟩:=zV h (λx z=>hr x (aQ _ z)) aa  aa;refine⟨λx z=>?_,λx z=>?_,by simp only[tot];omega⟩
   .rcases aS.1 z with rfl|z
    .exact⟨y.1,y.2.1,aa⟩
    .exact a x z
   .rcases aS.1 z with rfl|z
    .omega
    .exact b x z
def xK{lo hi:Int}{nl:Nat}:∀{l:List Mn} {i:Nat} {p t:Int},lG lo hi nl i p t l=true->0<i->jF ((p,0)::l.take (nl - i))
 | [],i,p,t,_,_=>by simp[jF]
 | m::r,i,p,t,h,h0=>by
  unfold lG at h;split at h
  .cases h
  .rename_i g
   rcases bm i nl with u|u
   .have v:=xK h aa
    obtain⟨k,s⟩:∃k,nl - i=k+1:=⟨nl - i - 1,aa⟩;have q:nl - (i+1)=k:=aa;rw[q] at v;rw[s,cE];have z:=aR.1 v;refine aR.2 ⟨λx y=>?_,aR.2 ⟨z.1,z.2⟩⟩;rcases aS.1 y with rfl|y
    .simp only;omega
    .have:=z.1 x y;simp only at this |-;omega
   .rw[show nl - i=0 by omega];simp[jF]
def CH{nl:Nat}{l:List Mn}(h:lG lo hi nl 0 0 0 l=true):jF (l.take nl):=by
 cases l with
 | nil=>simp[jF]
 | cons m r=>
  unfold lG at h;split at h
  .cases h
  .cases nl with
   | zero=>simp[jF]
   | succ k=>
    have:=xK h aa;rw[cE];simp only[cG,dS] at this;have z:=aR.1 this;exact aR.2 ⟨z.1,z.2⟩
def CI{lo hi:Int}{nl:Nat}:∀{l:List Mn} {i:Nat} {p t:Int},lf l->(∀m∈l,lo<=m.1/\m.1<=hi)->t+tot l<=281474976710656->(0<i->jF ((p,0)::l.take (nl - i)))->(i=0->jF (l.take nl))->lG lo hi nl i p t l=true
 | [],i,p,t,_,_,_,_,_=>by simp[lG]
 | m::r,i,p,t,ho,hb,ht,h1,h2=>by
  have s:=ho m (aJ ..);have g:=s.2.2;have f:=hb m (aJ ..);have c:=ho.tail.g_;simp only[tot] at ht;have d:0<i->i<nl->p<=m.1:=λz v=>by
   have:=h1 z;obtain⟨k,x⟩:∃k,nl - i=k+1:=⟨nl - i - 1,aa⟩;rw[x,cE] at this;exact(aR.1 this).1 m (aJ ..)
  have q:jF ((m.1,0)::r.take (nl - (i+1))):=by
   rcases bo i with y|y
   .subst y
    cases nl with
    | zero=>simp[jF]
    | succ k=>
     have:=h2 rfl;rw[cE] at this;have z:=aR.1 this;rw[show k+1 - (0+1)=k by omega];exact aR.2 ⟨z.1,z.2⟩
   .rcases bm i nl with v|v
    .have:=h1 y
     obtain⟨k,x⟩:∃k,nl - i=k+1:=⟨nl - i - 1,aa⟩;have u:nl - (i+1)=k:=aa;rw[x,cE] at this;rw[u];have z:=aR.1 (aR.1 this).2;exact aR.2 ⟨z.1,z.2⟩
    .rw[show nl - (i+1)=0 by omega];simp[jF]
  unfold lG;rw[aF aa];exact CI ho.tail (λx y=>hb x (aQ _ y)) aa (λ_=>q) (λh=>by omega)
def MC{L W:List Mn}(h:jA d lo hi L W=true)(s:oY (L++W))(r:-9223372036854775808<=lo)(q:lo<=9223372036854775807)(u:-9223372036854775808<=hi)(t:hi<=9223372036854775807):(St.mk L W lo hi).Ok d (ab0 L+ab0 W)/\tot (L++W)<=281474976710656/\10<=d/\d<=1000:=by
 unfold jA at h;simp only[bC,bD] at h;obtain⟨⟨⟨a,b,c⟩,g⟩,e⟩:=h;obtain⟨x,v,p⟩:=zV g s aa  aa;have z:=CH g;rw[cT (aD _),cK] at z;refine⟨⟨x,v,r,q,u,t,λy=>?_,aD _,c,z⟩,aa,a,b⟩;simp only at y;rw[y] at e;simp only[tot] at e;simp only;omega
def MD{s:St}{k:Nat}(h:s.Ok d k)(v:tot (s.L++s.W)<=281474976710656)(z:10<=d)(y:d<=1000):jA d s.lo s.hi s.L s.W=true:=by
 unfold jA;simp only[bC,bD];refine⟨⟨⟨z,y,h.wl⟩,CI h.ok h.bd aa (λh=>absurd h aa) (λ_=>?_)⟩,?_⟩
 .rw[cT (aD _),cK];exact h.rise
 .by_cases x:tot (s.L++s.W)=0
  .exact .inr (h.emp (h.sF.1 x))
  .have:=h.j7;exact .inl aa
def hO(t:TypeId)(k:IntKind)(base:Nat)(w:World)(v:Value)(l:List Int):Prop:=w.ownsRow base t 1 v (ab0 l) (l.map (Value.int k))
section
variable {t : TypeId} {k : IntKind} {base : Nat} {w w' : World} {v : Value} {l : List Int}
def hO.rd(h:hO t k base w v l):jC k w v l:=Rd.oX h
def hO.alloc(h:hO t k base w v l)(o:Obj):hO t k base (w.alloc o) v l:=fT h o
def hO.drew(h:hO t k base w v l):hO t k base w.drew v l:=h
def hO.lt(h:hO t k base w v l):∀g,v.ownBlock=some g->base<=g/\g<w.heap.size:=gE h
def hO.stay(h:hO t k base w v l)(p:∀g,v.ownBlock=some g->w'.heap[g]?=w.heap[g]?):hO t k base w' v l:=by
 obtain⟨q,z⟩:=h;refine⟨q,?_⟩;rcases z with z|⟨g,y,x,rfl,u,s,r⟩
 .exact .inl z
 .exact .inr ⟨g,y,x,rfl,u,(p g rfl).T s,r⟩
def hO.K(h:hO t k base w v l)(z:af3 w w'):hO t k base w' v l:=h.stay λg y=>z.block g (h.lt g y).2
def hO.nil_(t:TypeId)(k:IntKind)(base:Nat)(w:World):hO t k base w (.slice none 0 0) []:=⟨rfl,.inl ⟨rfl,rfl⟩⟩
def hO.one(t:TypeId)(k:IntKind)(w:World)(x:Int):hO t k w.heap.size (w.alloc (.cells #[.int k x] t)) (.slice (some (af7 (w.heap.size) 0)) 1 1) [x]:=
 ⟨rfl,.inr ⟨w.heap.size,1,_,rfl,aD _,cH _ _,ad,by unfold maxLen;omega,rfl,ad⟩⟩
def jC.ig(t:TypeId)(k:IntKind)(w:World)(x:Int)(H:Nat)(h:w.heap.size=H):jC k (w.alloc (.cells #[.int k x] t)) (.slice (some (af7 H 0)) 1 1) [x]:=by
 subst h;exact(hO.one t k w x).rd
end
variable{X Y a b carry d left q:Int}{l:List Int}{i:Nat}
def R_:(prog.info? 2).map (λi=>(i.zero,i.size,i.bytes))=some (some (af6 0),1,8):=by kernel_rfl
def IJ(k:IntKind)(l:List Int):∀u∈l.map (Value.int k),u.oneCell'=true:=λu z=>by
 obtain⟨x,_,rfl⟩:=gS.1 z;rfl
def CJ{ts t:TypeId}{k:IntKind}(T:prog.underlying ts=some (.slice t))(Y:(prog.info? t).map (λi=>(i.zero,i.size,i.bytes))=some (some (.int k 0),1,8))
 {w:World} {ops:Array Oper} {rest:List Oper} {o:Oper} {a:Act} {Q:Exit->Act->World->Prop} (d:o.guard=none) (s x:Operand)
 (X:o.op=.call {callee:=.builtin .append,args:=#[s,x],argTypes:=#[ts,ts]})
 (base:Nat) (v:Value) (xs:List Int) (U:a.eval s=v) (V:hO t k base w v xs)
 (u:Value) (y:List Int) (S:a.eval x=u) (r:jC k w u y)
 (M:ab0 xs+ab0 y<=1099511627776) (f:base<=w.heap.size)
 (h:∀z w',hO t k base w' z (xs++y)->w.grownBy w' v.ownBlock->(z.ownBlock=v.ownBlock\/z.ownBlock=some w.heap.size)->wpList prog ops Q rest (a.put o.dst z) w'):wpList prog ops Q (o::rest) a w:=by
 obtain⟨N,b,R,P,O⟩:=cR Y;obtain⟨A,c,rfl,_,_,_⟩:=r.form;refine kQ w d s x ts X base t N _ 1 8 T b R P O rfl aa v (ab0 xs) (xs.map (Value.int k)) U V A (ab0 y) c (y.map (Value.int k)) S r (IJ k _)
  (by unfold maxLen;omega) aa f λz w' q p g=>h z w' ?_ p g
 unfold hO;rw[aE,dU];exact q
def m'(n:Int)(j:Nat):Int:=n / 65536 ^ j % 65536
def qV:List Int->Int
 | []=>0
 | d::l=>d+65536 * qV l
def nz:Nat->Int->List Int
 | 0,_=>[]
 | k+1,n=>n % 65536::nz k (n / 65536)
def okD(l:List Int):Prop:=∀d∈l,0<=d/\d<65536
def nS(j:Nat):(0:Int)<65536 ^ j:=dp aa
def mv(n:Int)(j:Nat):0<=m' n j/\m' n j<65536:=⟨dB _ aa,cO _ aa⟩
def ME(n:Int):m' n 0=n % 65536:=by simp[m']
def MF(n:Int)(j:Nat):m' n (j+1)=m' (n / 65536) j:=by
 unfold m';rw[ch,cd,<-cS aa]
def kj(k:Nat):∀n,ab0 (nz k n)=k:=by
 induction k with
 | zero=>intro n;rfl
 | succ k ih=>intro n;simp[nz,ih]
def MG(k:Nat):∀(n:Int) (j:Nat),j<k->(nz k n)[j]?=some (m' n j):=by
 induction k with
 | zero=>intro n j h;omega
 | succ k ih=>
  intro n j h;cases j with
  | zero=>simp[nz,ME]
  | succ j=>simp only[nz,aA];rw[ih _ _ aa,MF]
def nK(k:Nat)(n:Int)(j:Nat)(h:j<k):(nz k n)[j]?.getD 0=m' n j:=by
 rw[MG k n j h];rfl
def P'(k:Nat):∀n,okD (nz k n):=by
 induction k with
 | zero=>intro n d h;cases h
 | succ k ih=>
  intro n d h;rcases aS.1 h with rfl|h
  .exact⟨dB _ aa,cO _ aa⟩
  .exact ih _ d h
def MH(k:Nat):∀n,0<=n->n<65536 ^ k->qV (nz k n)=n:=by
 induction k with
 | zero=>intro n y z;simp at z;simp[nz,qV];omega
 | succ k ih=>
  intro n y z;have x:n / 65536<65536 ^ k:=cj aa (by rw[<-ch];exact z);simp only[nz,qV];rw[ih _ aa x];omega
def qW:∀l,okD l->l=nz (ab0 l) (qV l)
 | [],_=>rfl
 | d::l,h=>by
  have z:=qW l (λx y=>h x (aQ _ y));have y:=h d (aJ ..);simp only[aK,nz,qV];rw[show(d+65536 * qV l) % 65536=d by omega,show(d+65536 * qV l) / 65536=qV l by omega,<-z]
def tu:∀(l:List Int) (j:Nat) (v:Int),j<ab0 l->qV (l.set j v)=qV l+(v - l[j]?.getD 0) * 65536 ^ j
 | [],j,v,h=>by simp at h
 | d::l,0,v,_=>by simp[qV];omega
 | d::l,j+1,v,h=>by
  have:=tu l j v (by simpa using h);simp only[bR,qV,this,aA,ch];rw[cd (65536 ^ j) 65536,<-bF,cd _ 65536,bF];omega
def Bj(h:okD l)(j:Nat){v:Int}(y:0<=v)(x:v<65536):okD (l.set j v):=by
 intro d z;rcases eW z with z|rfl
 .exact h d z
 .exact⟨y,x⟩
def xL(h:okD l)(j:Nat):0<=l[j]?.getD 0/\l[j]?.getD 0<65536:=by
 cases hj:l[j]? with
 | none=>simp
 | some d=>simpa using h d (fL hj)
structure xM(a b:Int)(i k:Nat)(carry:Int)(l:List Int):Prop where
 len:ab0 l=8
 ok:okD l
 c0:0<=carry
 c1:carry<65536
 e:qV l+carry * 65536 ^ (i+k)=(a % 65536 ^ i) * b+m' a i * 65536 ^ i * (b % 65536 ^ k)
 z:∀j,i+4<=j->l[j]?.getD 0=0
structure pY(a b:Int)(i:Nat)(l:List Int):Prop where
 len:ab0 l=8
 ok:okD l
 e:qV l=(a % 65536 ^ i) * b
 z:∀j,i+4<=j->l[j]?.getD 0=0
def zW(a:Int)(i:Nat):a % 65536 ^ (i+1)=a % 65536 ^ i+m' a i * 65536 ^ i:=by
 have p:=nS i;have z:=cP a (65536 ^ i);have y:=cP a (65536 ^ (i+1));have x:a / 65536 ^ (i+1)=a / 65536 ^ i / 65536:=by rw[ch,cS aa]
 have v:=cP (a / 65536 ^ i) 65536;unfold m';rw[x,ch] at y;generalize a / 65536 ^ i % 65536=m at *;generalize a / 65536 ^ i / 65536=k at *;have t:(65536:Int) ^ i * 65536 * k=65536 ^ i * (65536 * k):=by rw[bF]
 have u:(65536:Int) ^ i * (65536 * k+m)=65536 ^ i * (65536 * k)+m * 65536 ^ i:=by rw[eQ,cd m]
 rw[<-v,u] at z;rw[ch];omega
def pY.start(a b:Int):pY a b 0 (List.replicate 8 0):=by
 refine⟨rfl,λd h=>?_,?_,λj _=>?_⟩
 .have:=gA h;omega
 .simp[qV,List.replicate,gU]
 .rw[ei];split<;>rfl
def pY.into(h:pY a b i l):xM a b i 0 0 l:=
 ⟨h.len,h.ok,aa,aa,by rw[h.e];simp[gU],h.z⟩
def zX{x y:Int}(v:0<=x)(t:x<65536)(z:0<=y)(s:y<65536):0<=x * y/\x * y<=4294836225:=by
 have u:x * y<=65535 * y:=bU aa z;exact⟨cX v z,aa⟩
def xM.next{k:Nat}(h:xM a b i k carry l)(V:k<4)(X:i<4):xM a b i (k+1) ((l[i+k]?.getD 0+m' a i * m' b k+carry) / 65536) (l.set (i+k) ((l[i+k]?.getD 0+m' a i * m' b k+carry) % 65536)):=by
 obtain⟨q,y,p,g,e,z⟩:=h;have Y:=xL y (i+k);have U:=zX (mv a i).1 (mv a i).2 (mv b k).1 (mv b k).2;have r:=tu l (i+k) ((l[i+k]?.getD 0+m' a i * m' b k+carry) % 65536) aa;refine⟨by simp[q],Bj y _ aa  aa,aa,aa,?_,λj s=>?_⟩
 .rw[r,zW b k]
  have x:(65536:Int) ^ (i+(k+1))=65536 ^ (i+k) * 65536:=by rw[<-de,ch]
  have v:(65536:Int) ^ (i+k)=65536 ^ i * 65536 ^ k:=dQ ..;have t:m' a i * 65536 ^ i * (b % 65536 ^ k+m' b k * 65536 ^ k)=m' a i * 65536 ^ i * (b % 65536 ^ k)+m' a i * m' b k * 65536 ^ (i+k):=by
   rw[eQ,v]
   congr 1
   rw[bF,Int.mul_left_comm (65536 ^ i),bF]
  rw[x,t];generalize l[i+k]?.getD 0=u at *;generalize m' a i * m' b k=m at *;generalize (65536:Int) ^ (i+k)=P at *;generalize T:u+m+carry=n at *;have f:n / 65536 * (P * 65536)=n / 65536 * 65536 * P:=by rw[cd P,bF]
  have d:(n % 65536 - u) * P+n / 65536 * 65536 * P=(m+carry) * P:=by
   rw[<-dk];congr 1;omega
  have c:(m+carry) * P=m * P+carry * P:=dk ..;omega
 .rw[dY aa]
  exact z j s
def xM.o(h:xM a b i 4 carry l)(p:i<4)(t:0<=b)(s:b<18446744073709551616):pY a b (i+1) (l.set (i+4) (l[i+4]?.getD 0+carry)):=by
 obtain⟨v,u,r,q,e,z⟩:=h;have x:=z (i+4) aa;have y:=tu l (i+4) (l[i+4]?.getD 0+carry) aa;rw[x] at y |-;refine⟨by simp[v],Bj u _ aa  aa,?_,λj g=>?_⟩
 .rw[show b % 65536 ^ 4=b by omega] at e
  rw[y,zW a i,dk];generalize (65536:Int) ^ (i+4)=P at *;have:(0+carry - 0) * P=carry * P:=by congr 1;omega
  omega
 .rw[dY aa]
  exact z j aa
def pY.fin(h:pY a b 4 l)(y:0<=a)(x:a<18446744073709551616):l=nz 8 (a * b):=by
 have z:=qW l h.ok;rw[h.len,h.e,show a % 65536 ^ 4=a by omega] at z;exact z
def qX(X:Int)(i:Nat):X / 65536 ^ i=X / 65536 ^ (i+1) * 65536+m' X i:=by
 unfold m';rw[ch,<-cS (aa2 (nS i))];omega
def MI(h:X / 65536 ^ (i+1)=Y / 65536 ^ (i+1))(z:m' X i=m' Y i):X / 65536 ^ i=Y / 65536 ^ i:=by
 rw[qX X,qX Y,h,z]
def CK(h:X / 65536 ^ (i+1)=Y / 65536 ^ (i+1))(x:m' X i<m' Y i):X<Y:=by
 have y:X / 65536 ^ i<Y / 65536 ^ i:=by rw[qX X,qX Y,h];omega
 rcases Int.lt_or_le X Y with z|z
 .exact z
 .have:=Int.ediv_le_ediv (nS i) z
  omega
def FZ(z:0<=X)(y:X<340282366920938463463374607431768211456):qV (nz 8 X)=X:=MH 8 X z aa
def nT(i:Nat):(0:Int)<2 ^ i:=dp aa
def Bk(X:Int)(i:Nat):m' X (i / 16) / 2 ^ (i % 16) % 2=X / 2 ^ i % 2:=by
 unfold m';have z:(65536:Int) ^ (i / 16) * 2 ^ (i % 16)=2 ^ i:=by
  rw[show(65536:Int)=2 ^ 16 by decide,<-Int.pow_mul,<-dQ,show 16 * (i / 16)+i % 16=i by omega]
 rw[<-z,<-cS (aa2 (nS (i / 16)))];generalize X / 65536 ^ (i / 16)=y;have x:(65536:Int)=2 ^ (i % 16) * (2 * 2 ^ (15 - i % 16)):=by
  rw[<-bF,cd _ 2,bF,<-dQ,show i % 16+(15 - i % 16)=15 by omega];decide
 have p:=nT (i % 16);have v:=cP y 65536;generalize y % 65536=m at *;generalize u:y / 65536=k at *;clear u;rw[<-v];have u:65536 * k+m=m+2 ^ (i % 16) * (2 * (2 ^ (15 - i % 16) * k)):=by
  have:(2:Int) ^ (i % 16) * (2 * (2 ^ (15 - i % 16) * k))=2 ^ (i % 16) * (2 * 2 ^ (15 - i % 16)) * k:=by
   rw[bF,bF]
  rw[this,<-x];omega
 rw[u,fD _ _ aa];omega
def MJ(q:Int)(i:Nat)(Y:i<128)(c:0<=q)(V:q * 2 ^ (i+1)+2 ^ i<340282366920938463463374607431768211456):(nz 8 (q * 2 ^ (i+1))).set (i / 16) (m' (q * 2 ^ (i+1)) (i / 16)+2 ^ (i % 16))=nz 8 (q * 2 ^ (i+1)+2 ^ i)/\m' (q * 2 ^ (i+1)) (i / 16)+2 ^ (i % 16)<65536:=by
 have X:=nT i;have t:0<=q * 2 ^ (i+1):=cX c aa;have g:=kj 8 (q * 2 ^ (i+1));have s:=nK 8 (q * 2 ^ (i+1)) (i / 16) aa;have b:=mv (q * 2 ^ (i+1)) (i / 16);have p:=nT (i % 16);have d:=nT (15 - i % 16);have z:(2:Int) ^ (i % 16) * 65536 ^ (i / 16)=2 ^ i:=by
  rw[show(65536:Int)=2 ^ 16 by decide,<-Int.pow_mul,<-dQ,show i % 16+16 * (i / 16)=i by omega]
 -- the digit is a multiple of twice the bit
 have f:m' (q * 2 ^ (i+1)) (i / 16)=(q % 2 ^ (15 - i % 16)) * (2 * 2 ^ (i % 16)):=by
  unfold m';have x:q * 2 ^ (i+1)=(q * (2 * 2 ^ (i % 16))) * 65536 ^ (i / 16):=by
   rw[ch,<-z,bF,bF,cd 2,bF,cd 2]
  have y:(65536:Int)=2 ^ (15 - i % 16) * (2 * 2 ^ (i % 16)):=by
   rw[cd 2,<-bF,<-dQ,show 15 - i % 16+i % 16=15 by omega];decide
  rw[x,Int.mul_ediv_cancel _ (aa2 (nS (i / 16)))];generalize (2:Int) ^ (15 - i % 16)=A at *;generalize (2:Int) ^ (i % 16)=B at *;rw[y,cd q,cd A,gG _ _ aa,cd]
 have x:m' (q * 2 ^ (i+1)) (i / 16)+2 ^ (i % 16)<65536:=by
  have y:(65536:Int)=2 ^ (15 - i % 16) * (2 * 2 ^ (i % 16)):=by
   rw[cd 2,<-bF,<-dQ,show 15 - i % 16+i % 16=15 by omega];decide
  have u:=cO q d;rw[f];generalize (2:Int) ^ (15 - i % 16)=A at *;generalize (2:Int) ^ (i % 16)=B at *;generalize q % A=r at *;have v:(r+1) * (2 * B)<=A * (2 * B):=bU aa  aa;rw[dk] at v;omega
 refine⟨?_,x⟩;have r:=Bj (P' 8 (q * 2 ^ (i+1))) (i / 16) (v:=m' (q * 2 ^ (i+1)) (i / 16)+2 ^ (i % 16)) aa x;have u:=tu (nz 8 (q * 2 ^ (i+1))) (i / 16) (m' (q * 2 ^ (i+1)) (i / 16)+2 ^ (i % 16)) aa;rw[s,FZ t aa,show m' (q * 2 ^ (i+1)) (i / 16)+2 ^ (i % 16) - m' (q * 2 ^ (i+1)) (i / 16)=2 ^ (i % 16) by omega,z] at u;have y:=qW _ r;rw[u,aZ,g] at y;exact y
structure nj(X d:Int)(i:Nat)(q left:Int):Prop where
 e:X / 2 ^ i=q * d+left
 q0:0<=q
 l0:0<=left
 l1:left<d
def nj.bit(h:nj X d (i+1) q left):X / 2 ^ i=2 * q * d+(2 * left+X / 2 ^ i % 2):=by
 have z:X / 2 ^ (i+1)=X / 2 ^ i / 2:=by rw[ch,cS (aa2 (nT i))]
 have y:=h.e;rw[z] at y;have x:2 * q * d=2 * (q * d):=bF ..;omega
def nj.yes(h:nj X d (i+1) q left)(x:d<=2 * left+X / 2 ^ i % 2):nj X d i (2 * q+1) (2 * left+X / 2 ^ i % 2 - d):=by
 have z:=h.bit;have:=h.q0;have:=h.l0;have:=h.l1;have y:(2 * q+1) * d=2 * q * d+d:=by rw[dk,ez]
 exact⟨aa,aa,aa,aa⟩
def nj.no(h:nj X d (i+1) q left)(y:2 * left+X / 2 ^ i % 2<d):nj X d i (2 * q) (2 * left+X / 2 ^ i % 2):=by
 have z:=h.bit;have:=h.q0;have:=h.l0;exact⟨aa,aa,aa,aa⟩
def nj.start(X d:Int)(y:0<=X)(x:X<340282366920938463463374607431768211456)(z:0<d):nj X d 128 0 0:=by
 refine⟨?_,aa,aa,z⟩;rw[fi y aa];omega
def nj.fin(h:nj X d 0 q left):q=X / d/\left=X % d:=by
 have z:=h.e;simp at z;have x:=Int.ediv_emod_unique (a:=X) (b:=d) (r:=left) (q:=q) (aa6 h.l0 h.l1);have y:=x.2 ⟨by rw[z,cd];omega,h.l0,h.l1⟩;exact⟨y.1.Y,y.2.Y⟩
def nj.small(h:nj X d i q left)(t:0<=X)(s:X<340282366920938463463374607431768211456)(y:0<d):q * 2 ^ i+2 ^ i<=340282366920938463463374607431768211456+2 ^ i/\q * 2 ^ i<340282366920938463463374607431768211456:=by
 have p:=nT i;have x:q * 1<=q * d:=bX aa h.q0;have z:q<=X / 2 ^ i:=by have:=h.e;have:=h.l0;omega
 have v:q * 2 ^ i<=X / 2 ^ i * 2 ^ i:=bU z aa;have u:=fK X (show(2:Int) ^ i≠0 by omega);omega
def MK(X:Int)(j m:Nat):X / 65536 ^ j % 65536 ^ (m+1)=65536 * (X / 65536 ^ (j+1) % 65536 ^ m)+m' X j:=by
 have x:=qX X j;have v:=mv X j;have p:=nS m;rw[x];generalize X / 65536 ^ (j+1)=y;generalize m' X j=d at *;have u:=cP y (65536 ^ m);have t:=dB y (show(65536:Int) ^ m≠0 by omega);have s:=cO y p;generalize y % 65536 ^ m=r at *;generalize y / 65536 ^ m=k at *;have z:y * 65536+d=(65536 * r+d)+65536 ^ (m+1) * k:=by
  have:(65536:Int) ^ (m+1) * k=65536 ^ m * k * 65536:=by rw[ch,bF,cd 65536,<-bF]
  omega
 rw[z,eN,Int.emod_eq_of_lt aa (by rw[ch];omega)]
