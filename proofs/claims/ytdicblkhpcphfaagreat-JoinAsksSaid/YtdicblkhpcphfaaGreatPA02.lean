/- Parts. No condition. -/
import Derived.Test.YtdicblkhpcphfaaGreatPA01
set_option maxRecDepth 100000
set_option maxHeartbeats 0
set_option linter.all false
namespace Go.Proofs.YtdicblkhpcphfaaGreat
open Tryz Go.RowKit Go.Lib
open _root_.List renaming length→ao
open _root_.Go renaming Calls→ar
open Tryz renaming prog→Oe
variable{d n x y:Int}{w w':World}{v:Value}{A:Option Addr}{base c g j off:Nat}
def yg(x y:Int):Int:=if x=y then 0 else if x<y then -1 else 1
def tO(x y:Int)(w:World)(u:0<=x)(t:x<18446744073709551616)(s:0<=y)(r:y<18446744073709551616) :
 ar Oe 246 #[.int .u64 x,.int .u64 y] w (aw w (.agg #[.int .u64 (x * y / 18446744073709551616),.int .u64 (x * y % 18446744073709551616)])):=by
 go_in
 go_wp2_with (go_at_call 322;refine(Gi _ _ _ u t s r).mono ?_;rintro e z ⟨rfl,rfl⟩);exact bodyPost_ret (v:=.agg #[.int .u64 (x * y / 18446744073709551616),.int .u64 (x * y % 18446744073709551616)]) (by simp[results,Tryz.results246,go_sem]) rfl ⟨rfl,(aC _ _).alloc (aD _) _⟩
def I9(a b c d:Int)(w:World)(y:0<=b)(x:b<18446744073709551616)(v:0<=d)(u:d<18446744073709551616) :
 ar Oe 381 #[.agg #[.int .u64 a,.int .u64 b],.agg #[.int .u64 c,.int .u64 d]] w (aw w (.int .i64 (yg (a * 18446744073709551616+b) (c * 18446744073709551616+d)))):=by
 go_in
 go_wp2
 all_goals (go_ret;refine⟨ie ?_,((aC _ _).alloc (aD _) _).alloc ad _⟩)
 all_goals (unfold yg;(repeat' split)<;>omega)
def Mu(L R:Int)(w:World) :
 ar Oe 381 #[.agg #[.int .u64 (L / 18446744073709551616),.int .u64 (L % 18446744073709551616)],.agg #[.int .u64 (R / 18446744073709551616),.int .u64 (R % 18446744073709551616)]] w (aw w (.int .i64 (yg L R))):=by
 have h:=I9 (L / 18446744073709551616) (L % 18446744073709551616) (R / 18446744073709551616) (R % 18446744073709551616) w aa  aa  aa  aa
 rw[show L / 18446744073709551616 * 18446744073709551616+L % 18446744073709551616=L by omega,show R / 18446744073709551616 * 18446744073709551616+R % 18446744073709551616=R by omega] at h
 exact h
def Ey(L R:Int):(decide (yg L R<=0))=decide (L<=R):=by
 unfold yg
 by_cases h:L=R
 ·rw[aH h];simp;omega
 ·rw[aG h]
  by_cases z:L<R
  ·rw[aH z];simp;omega
  ·rw[aG z];simp;omega
def I_(h l d:Int)(t:0<=l)(s:l<18446744073709551616)(z:0<d) :
 (h * 18446744073709551616+l) / d / 18446744073709551616=h / d/\(h * 18446744073709551616+l) / d % 18446744073709551616=(h % d * 18446744073709551616+l) / d /\
 (h * 18446744073709551616+l) % d=(h % d * 18446744073709551616+l) % d:=by
 have x:=cC h d;have v:=di h (show d≠0 by omega)
 have u:=cH h z;generalize h / d=k at *;generalize h % d=m at *;have y:h * 18446744073709551616+l=(m * 18446744073709551616+l)+d * (k * 18446744073709551616):=by
  have:d * (k * 18446744073709551616)=d * k * 18446744073709551616:=by rw[bG]
  omega
 have r:0<=(m * 18446744073709551616+l) / d:=cP aa  aa
 have q:(m * 18446744073709551616+l) / d<18446744073709551616:=ck aa  aa
 rw[y,ff _ _ aa,eG]
 refine⟨by omega,aa,rfl⟩
def I'(h l d:Int)(w:World)(g:0<=h)(f:h<18446744073709551616)(x:0<=l)(v:l<18446744073709551616)(z:0<d)(u:d<18446744073709551616) :
 ar Oe 247 #[.agg #[.int .u64 h,.int .u64 l],.int .u64 d] w (aw w (.tuple #[.agg #[.int .u64 ((h * 18446744073709551616+l) / d / 18446744073709551616),.int .u64 ((h * 18446744073709551616+l) / d % 18446744073709551616)],.int .u64 ((h * 18446744073709551616+l) % d),.int .i64 0])):=by
 have b:(d == 0)=false:=af
 go_in
 go_wp2
 go_region
 all_goals
  go_wp2_with (go_at_call 323;refine(Gg _ _ _ _ (di _ aa) (cH _ z) x v u).mono ?_;rintro e Y ⟨rfl,y⟩;have⟨c,a⟩:=oW y;have q:=y.size;try simp only[aI,bW,cW,World.hN] at q)
  refine an ?_
  obtain⟨t,s,r⟩:=I_ h l d x v z;rw[t,s,r];exact⟨rfl,bw⟩
def pJ{a b:Int}(y:0<=a)(x:a<18446744073709551616)(z:0<=b)(v:b<18446744073709551616):0<=a * b/\a * b<340282366920938463463374607431768211456:=by
 have u:a * b<=18446744073709551615 * b:=bF aa z
 exact⟨cG y z,aa⟩
def Ck(X d:Int)(w:World)(v:0<=X)(s:X<340282366920938463463374607431768211456)(z:0<d)(y:d<18446744073709551616)(u:X / d<18446744073709551616) :
 ar Oe 247 #[.agg #[.int .u64 (X / 18446744073709551616),.int .u64 (X % 18446744073709551616)],.int .u64 d] w (aw w (.tuple #[.agg #[.int .u64 0,.int .u64 (X / d)],.int .u64 (X % d),.int .i64 0])):=by
 have t:0<=X / d:=cP v aa
 have h:=I' (X / 18446744073709551616) (X % 18446744073709551616) d w aa  aa  aa  aa z y
 rw[show X / 18446744073709551616 * 18446744073709551616+X % 18446744073709551616=X by omega,show X / d / 18446744073709551616=0 by omega,show X / d % 18446744073709551616=X / d by omega] at h
 exact h
def nX(a b d:Int)(w:World)(z:0<=a)(y:a<18446744073709551616)(x:0<=b)(v:b<18446744073709551616)(s:0<d)(r:d<18446744073709551616)(q:a * b / d<18446744073709551616) :
 ar Oe 156 #[.int .u64 a,.int .u64 b,.int .u64 d] w (aw w (.tuple #[.int .u64 (a * b / d),.int .u64 (a * b % d),.int .i64 0])):=by
 obtain⟨f,c⟩:=pJ z y x v
 go_in
 go_wp2_with (first|(go_at_call 246;refine(tO _ _ _ z y x v).mono ?_;rintro e S ⟨rfl,u⟩;have⟨X,U⟩:=oW u;have p:=u.size;try simp only[aI,bW,cW,World.hN] at p)|(go_at_call 247;refine(Ck _ _ _ f c s r q).mono ?_;rintro e R ⟨rfl,t⟩;have⟨V,T⟩:=oW t;have g:=t.size;try simp only[aI,bW,cW,World.hN] at g))
 all_goals (go_ret3;exact⟨rfl,bw⟩)
def rZ(a b d:Int)(w:World)(z:0<=a)(x:a<18446744073709551616)(v:0<=b)(u:b<=d)(y:0<d)(t:d<18446744073709551616) :
 ar Oe 156 #[.int .u64 a,.int .u64 b,.int .u64 d] w (aw w (.tuple #[.int .u64 (a * b / d),.int .u64 (a * b % d),.int .i64 0])):=
 nX a b d w z x v aa y t (ck y (by have:a * b<=a * d:=bH u z;have:a * d<=18446744073709551615 * d:=bF aa  aa ;omega))
def jN(low high at_ V6:Int):Int:=low+(high - low) * at_ / V6
def nz{low high:Int}(h:low<=high)(v:0<=x)(u:x<=y)(t:0<y):low<=jN low high x y/\jN low high x y<=high:=by
 have s:0<=(high - low) * x / y:=cP (cG aa v) aa
 have r:(high - low) * x / y<=high - low:=by
  have z:(high - low) * x<=(high - low) * y:=bH u aa
  exact fh t z
 unfold jN;omega
def zu(v u x y:Int)(w:World)(U:-9223372036854775808<=v)(f:v<=u)(a:u<=9223372036854775807)(s:0<=x)(r:x<=y)(q:0<y)(c:y<18446744073709551616) :
 ar Oe 224 #[.int .i64 v,.int .i64 u,.int .u64 x,.int .u64 y] w (aw w (.tuple #[.int .i64 (jN v u x y),.int .i64 0])):=by
 have V:(y == 0)=false:=af
 have b:IntKind.u64.wrap (IntKind.u64.wrap u - IntKind.u64.wrap v)=u - v:=by simp only[g_];omega
 obtain⟨z,t⟩:=nz f s r q;have p:wrap64 (IntKind.u64.wrap (IntKind.u64.wrap v+(u - v) * x / y))=jN v u x y:=by
  simp only[g_,wrap64];unfold jN at *;omega
 clear z t
 go_in
 go_wp2_with (first|(go_at_call 156;refine(rZ (u - v) _ _ _ aa  aa s r q c).mono ?_;rintro e T ⟨rfl,t⟩;have⟨Y,X⟩:=oW t;have g:=t.size;try simp only[aI,bW,cW,World.hN] at g))
 go_ret2
 exact⟨bq (λz=>Ending.returned (.tuple #[.int .i64 z,.int .i64 0])) p,bw⟩
def Mv(m v n z:Int)(w:World)(t:-9223372036854775808<=m)(s:m<=n)(r:n<=9223372036854775807)(q:0<=v)(a:0<z)(p:v+z<18446744073709551616) :
 ar Oe 321 #[.int .i64 m,.int .u64 v,.int .i64 n,.int .u64 z] w (aw w (.tuple #[.int .i64 (jN m n z (v+z)),.int .i64 0])):=by
 have u:=Gj v z 0 w q aa  aa  aa
 have y:(v+z+0) % 18446744073709551616=v+z:=aa
 have x:(v+z+0) / 18446744073709551616=0:=aa
 have f:(v+z == 0)=false:=af
 rw[y,x] at u;clear y x
 go_in
 go_wp2_with (first|(go_at_call 224;refine(zu _ _ _ _ _ t s r aa  aa  aa p).mono ?_;rintro e b ⟨rfl,y⟩;have⟨d,c⟩:=oW y;have x:=y.size;try simp only[aI,bW,cW,World.hN] at x))
 go_ret2
 exact⟨rfl,bw⟩
def tP(y z:Int)(w:World) :
 ar Oe 305 #[.int .u64 y,.int .u64 z] w λe v=>e=.returned (.int .i64 (if z=0\/z<y then 7 else 0))/\w=v:=by
 by_cases h:z=0\/z<y
 ·rw[aH h]
  have x:((z == 0) || decide (z<y))=true:=by simpa using h
  go_in
  go_wp2
  all_goals (go_ret;exact⟨rfl,rfl⟩)
 ·rw[aG h]
  have x:(z == 0)=false:=af
  go_in
  go_wp2
  all_goals (go_ret;exact⟨rfl,rfl⟩)
def jD(num den n:Int):Int × Int:=if den=0\/den<num then(0,7) else if n=0 then(0,8) else if 4611686018427387904<n then(0,6) else(2 * n * num / den,0)
def Gk(y z n:Int)(w:World)(r:0<=y)(V7:y<18446744073709551616)(g:0<=z)(q:z<18446744073709551616)(b:0<=n)(a:n<18446744073709551616) :
 ar Oe 222 #[.int .u64 y,.int .u64 z,.int .u64 n] w (aw w (.tuple #[.int .u64 (jD y z n).1,.int .i64 (jD y z n).2])):=by
 unfold jD;have x:=ay (tP y z w)
 by_cases h:z=0\/z<y
 ·rw[aH h] at x |-
  go_in
  go_wp2_with (first|(go_at_call 305;refine(x.o).mono ?_;rintro e v ⟨rfl,rfl⟩))
  all_goals (go_ret2;exact⟨rfl,bw⟩)
 ·rw[aG h] at x |-
  by_cases u:n=0
  ·rw[aH u]
   subst u
   go_in
   go_wp2_with (first|(go_at_call 305;refine(x.o).mono ?_;rintro e v ⟨rfl,rfl⟩))
   all_goals (go_ret2;exact⟨rfl,bw⟩)
  ·rw[aG u]
   have c:(n == 0)=false:=af
   clear u
   by_cases t:4611686018427387904<n
   ·rw[aH t]
    go_in
    go_wp2_with (first|(go_at_call 305;refine(x.o).mono ?_;rintro e v ⟨rfl,rfl⟩))
    all_goals (go_ret2;exact⟨rfl,bw⟩)
   ·rw[aG t]
    go_in
    go_wp2_with (first|(go_at_call 305;refine(x.o).mono ?_;rintro e v ⟨rfl,rfl⟩)|(go_at_call 156;refine(rZ (2 * n) _ _ _ aa  aa r aa  aa q).mono ?_;rintro e Y ⟨rfl,s⟩;have⟨f,d⟩:=oW s;have p:=s.size;try simp only[aI,bW,cW,World.hN] at p))
    all_goals (go_ret2;exact⟨rfl,bw⟩)
def rb{α:Type}{motive:List α->Prop}(nil:motive [])(snoc:∀l x,motive l->motive (l++[x]))(l:List α):motive l:=by
 have h:∀n (l:List α),ao l=n->motive l:=by
  intro n
  induction n with
  | zero=>intro l z;rw[aN z];exact nil
  | succ n ih=>
   intro l z;have y:l≠[]:=by rintro rfl;simp at z
   rw[<-List.dropLast_concat_getLast y];exact snoc _ _ (ih _ (by simp[z]))
 exact h _ l rfl
abbrev Mn:=Int × Int
def tQ(m:Mn):List Value:=[.int .i64 m.1,.int .u64 m.2]
def hI(l:List Mn):List Value:=l.flatMap tQ
def wi(l:List Mn):ao (hI l)=ao l * 2:=by
 induction l with
 | nil=>rfl
 | cons m l ih=>simp only[hI,List.flatMap_cons,aE,aJ] at *;rw[ih];simp[tQ];omega
def lC(a b:List Mn):hI (a++b)=hI a++hI b:=by simp[hI]
def oY:∀(l:List Mn) (i:Nat) (h:i<ao l),(hI l)[i * 2]?=some (.int .i64 l[i].1)
 | m::l,0,_=>rfl
 | m::l,i+1,h=>by
  have:=oY l i (by simpa using h)
  rw[show(i+1) * 2=i * 2+2 by omega]
  simpa[hI,tQ] using this
def oZ:∀(l:List Mn) (i:Nat) (h:i<ao l),(hI l)[i * 2+1]?=some (.int .u64 l[i].2)
 | m::l,0,_=>rfl
 | m::l,i+1,h=>by
  have:=oZ l i (by simpa using h)
  rw[show(i+1) * 2+1=i * 2+1+2 by omega]
  simpa[hI,tQ] using this
def nY(l:List Mn):∀u∈hI l,u.oneCell'=true:=by
 intro u y;obtain⟨m,_,z⟩:=List.mem_flatMap.1 y;simp[tQ] at z
 rcases z with rfl|rfl<;>rfl
def zv(l:List Mn)(k:Nat):(hI l).drop (k * 2)=hI (l.drop k):=by
 induction k generalizing l with
 | zero=>simp
 | succ k ih=>
  cases l with
  | nil=>simp[hI]
  | cons m l=>
   rw[show(k+1) * 2=k * 2+2 by omega]
   have:=ih l
   simpa[hI,tQ] using this
def zw(l:List Mn)(k:Nat):(hI l).take (k * 2)=hI (l.take k):=by
 induction k generalizing l with
 | zero=>simp[hI]
 | succ k ih=>
  cases l with
  | nil=>simp[hI]
  | cons m l=>
   rw[show(k+1) * 2=k * 2+2 by omega]
   have:=ih l
   simpa[hI,tQ] using this
def kR(w:World)(v:Value)(l:List Mn):Prop:=Rd 2 w v (ao l) (hI l)
def kR.keep{l:List Mn}(h:kR w v l)(z:aq w w'):kR w' v l:=Rd.keep h z
def kY(w:World)(A:Option Addr)(l:List Mn):Prop:=0<ao l->∃g off,A=some ⟨g,off,none⟩/\g<w.heap.size/\∀j,j<ao l * 2->w.cell? ⟨g,off+j,none⟩=(hI l)[j]?
def kR.form{l:List Mn}(h:kR w v l):∃A c,v=.slice A (ao l) c/\ao l<=c/\c<=9223372036854775807/\kY w A l:=by
 obtain⟨_,A,c,u,z,y,x⟩:=h;exact⟨A,c,u,z,by unfold maxLen at y;omega,x⟩
def kR.jj{l:List Mn}(z:ao l<=c)(y:c<=9223372036854775807)(h:kY w A l):kR w (.slice A (ao l) c) l:=
 ⟨wi l,A,c,rfl,z,by unfold maxLen;omega,h⟩
def kY.keep{l:List Mn}(h:kY w A l)(z:aq w w'):kY w' A l:=λv=>by
 obtain⟨g,x,u,y,t⟩:=h v;exact⟨g,x,u,aR y z.size,λj s=>(z.cell (p:=⟨g,x+j,none⟩) y).trans (t j s)⟩
def kY.at_{l:List Mn}(h:kY w A l)(x:j<ao l) :
 ∃g z,A=some ⟨g,z,none⟩/\g<w.heap.size/\w.cell? ⟨g,z+j * 2,none⟩=some (.int .i64 l[j].1)/\w.cell? ⟨g,z+j * 2+1,none⟩=some (.int .u64 l[j].2):=by
 obtain⟨g,z,v,u,y⟩:=h aa
 refine⟨g,z,v,u,?_,?_⟩
 ·rw[y (j * 2) aa,oY l j x]
 ·rw[cX,y (j * 2+1) aa,oZ l j x]
def kY.tail{l:List Mn}(h:kY w A l)(x:A=some ⟨g,off,none⟩)(k:Nat):kY w (some ⟨g,off+k * 2,none⟩) (l.drop k):=λy=>by
 rw[aZ] at y;obtain⟨s,r,z,u,v⟩:=h aa
 rw[x] at z;injection z with z;injection z with e1 e2;subst e1;subst e2;refine⟨g,_,rfl,u,λj t=>?_⟩
 rw[aZ] at t;rw[cX,v _ aa,<-zv,dD]
def kY.head{l:List Mn}(h:kY w A l)(k:Nat):kY w A (l.take k):=λu=>by
 have s:=fF k l;have r:=gC k l;obtain⟨g,v,z,x,y⟩:=h aa
 refine⟨g,v,z,x,λj t=>?_⟩
 rw[y j aa,<-zw,dr,aH aa]
def kY.nil:kY w A []:=λh=>absurd h ad
def g7(base:Nat)(w:World)(v:Value)(l:List Mn):Prop:=w.ownsRow base 216 2 v (ao l) (hI l)
def g7.rd{l:List Mn}(h:g7 base w v l):kR w v l:=Rd.lT h
def g7.nil_(z:Nat)(w:World):g7 z w (.slice none 0 0) []:=World.ownsRow_nil w z _ _
def g7.more{base':Nat}{l:List Mn}(h:g7 base w v l)(q:base'<=base):g7 base' w v l:=by
 obtain⟨t,z⟩:=h;refine⟨t,?_⟩
 rcases z with z|⟨g,y,x,u,s,r⟩
 ·exact .inl z
 ·exact .inr ⟨g,y,x,u,aa,r⟩
def g7.stay{l:List Mn}(h:g7 base w v l)(q:∀g,v.ownBlock=some g->w'.heap[g]?=w.heap[g]?):g7 base w' v l:=by
 obtain⟨s,z⟩:=h;refine⟨s,?_⟩
 rcases z with z|⟨g,y,x,rfl,u,t,r⟩
 ·exact .inl z
 ·exact .inr ⟨g,y,x,rfl,u,by rw[q g rfl];exact t,r⟩
def g7.lt{base:Nat}{w:World}{v:Value}{l:List Mn}(h:g7 base w v l):∀g,v.ownBlock=some g->base<=g/\g<w.heap.size:=fc h
def g7.keep{l:List Mn}(h:g7 base w v l)(z:aq w w'):g7 base w' v l:=h.stay λg y=>z.block g (h.lt g y).2
def g7.drewN{l:List Mn}(h:g7 base w v l)(n:Nat):g7 base (w.drewN n) v l:=h
def g7.drew{l:List Mn}(h:g7 base w v l):g7 base w.drew v l:=h
def g7.alloc{base:Nat}{w:World}{v:Value}{l:List Mn}(h:g7 base w v l)(o:Obj):g7 base (w.alloc o) v l:=eI h o
def g7.far{l:List Mn}(h:g7 base w v l){p:Addr}(y:v.ownBlock≠some p.block)(u:Value):g7 base (w.setCell p u) v l:=
 h.stay λg z=>bl w p u g (λe=>y (by rw[z,e]))
def g7.form{l:List Mn}(h:g7 base w v l):∃A c,v=.slice A (ao l) c/\ao l<=c/\c<=9223372036854775807/\kY w A l:=h.rd.form
def g7.pos{l:List Mn}(h:g7 base w v l)(r:0<ao l):∃g c,v=.slice (some ⟨g,0,none⟩) (ao l) c/\base<=g/\g<w.heap.size/\ao l<=c/\c<=9223372036854775807:=by
 rcases h.2 with⟨_,q⟩|⟨g,z,t,rfl,y,s,x,u,_⟩
 ·omega
 ·exact⟨g,z,rfl,y,(h.lt g rfl).2,x,by unfold maxLen at u;omega⟩
def g7.at_{l:List Mn}(h:g7 base w (.slice (some ⟨g,0,none⟩) (ao l) c) l)(z:j<ao l) :
 w.cell? ⟨g,j * 2,none⟩=some (.int .i64 l[j].1)/\w.cell? ⟨g,j * 2+1,none⟩=some (.int .u64 l[j].2)/\w.frozen? ⟨g,j * 2,none⟩=false/\w.frozen? ⟨g,j * 2+1,none⟩=false:=by
 refine⟨?_,?_,e6 h _,e6 h _⟩
 ·rw[fo h _ aa,oY l j z]
 ·rw[fo h _ aa,oZ l j z]
def tR:∀(l:List Mn) (j:Nat) (m:Mn),((hI l).set (j * 2) (.int .i64 m.1)).set (j * 2+1) (.int .u64 m.2)=hI (l.set j m)
 | [],_,_=>rfl
 | x::l,0,m=>by simp[hI,tQ]
 | x::l,j+1,m=>by
  have:=tR l j m;rw[show(j+1) * 2=j * 2+2 by omega,show j * 2+2+1=j * 2+1+2 by omega]
  simp only[hI,tQ,List.flatMap_cons,b8,cZ,bm] at this |-;rw[this]
def g7.gR{l:List Mn}(h:g7 base w (.slice (some ⟨g,0,none⟩) (ao l) c) l)(j:Nat)(m:Mn) :
 g7 base ((w.setCell ⟨g,j * 2,none⟩ (.int .i64 m.1)).setCell ⟨g,j * 2+1,none⟩ (.int .u64 m.2)) (.slice (some ⟨g,0,none⟩) (ao (l.set j m)) c) (l.set j m):=by
 have z:=(eC h (j * 2) (.int .i64 m.1)).1;have y:=(eC z (j * 2+1) (.int .u64 m.2)).1;unfold g7;rw[<-tR,bD];exact y
def g7.setLast{N m:Nat}{acc:List Mn}{now:Mn}(x:Mn)(h:g7 base w (.slice (some ⟨g,0,none⟩) N c) (acc++[now]))(v:ao acc=m)(y:ao (acc++[now])=N) :
 g7 base ((w.setCell ⟨g,m * 2,none⟩ (.int .i64 x.1)).setCell ⟨g,m * 2+1,none⟩ (.int .u64 x.2)) (.slice (some ⟨g,0,none⟩) N c) (acc++[x]):=by
 subst v y;have z:=h.gR (ao acc) x;rw[bD] at z;rw[show(acc++[now]).set (ao acc) x=acc++[x] by simp] at z
 exact z
def kR.one(w:World)(m:Mn):kR (w.alloc (.cells #[.int .i64 m.1,.int .u64 m.2] 216)) (.slice (some ⟨w.heap.size,0,none⟩) 1 1) [m]:=by
 refine kR.jj ad aa (λ_=>⟨w.heap.size,0,rfl,ad,λj z=>?_⟩)
 simp only[bu] at z;have:j=0\/j=1:=aa
 rcases this with rfl|rfl<;>simp[hI,tQ,bU]
def kR.OQ{l:List Mn}(x:0<ao l)(v:ao l<=c)(u:c<=9223372036854775807)(h:kY w (some ⟨g,off,none⟩) l) :
 kR w (.slice (if c=1 then some ⟨g,off,none⟩ else some ⟨g,off+2,none⟩) (ao l - 1) (c - 1)) (l.drop 1):=by
 by_cases z:c=1
 ·rw[aH z]
  have y:l.drop 1=[]:=aN (by rw[aZ];omega)
  rw[y,show ao l - 1=0 by omega]
  exact kR.jj (l:=[]) ad aa kY.nil
 ·rw[aG z]
  have:=kR.jj (c:=c - 1) (l:=l.drop 1) (by rw[aZ];omega) aa (h.tail rfl 1)
  rwa [aZ] at this
def ins(x:Mn):List Mn->List Mn
 | []=>[x]
 | y::l=>if y.1<=x.1 then y::ins x l else x::y::l
def iJ(l:List Mn):List Mn:=l.foldl (λo x=>ins x o) []
def mrg:List Mn->List Mn->List Mn
 | [],b=>b
 | a,[]=>a
 | x::a,y::b=>if y.1<x.1 then y::mrg (x::a) b else x::mrg a (y::b)
def mrg_nil_right(a:List Mn):mrg a []=a:=by cases a<;>simp[mrg]
def mrg_nil_left(b:List Mn):mrg [] b=b:=by cases b<;>simp[mrg]
def Cl{xs ys:List Mn}(z:0<ao xs)(v:0<ao ys)(h:ys[0].1<xs[0].1):mrg xs ys=ys[0]::mrg xs (ys.drop 1):=by
 match xs,ys,z,v,h with
 | x::xs,y::ys,_,_,h=>simp only[bn] at h;rw[mrg,aH h];rfl
def Cm{xs ys:List Mn}(z:0<ao xs)(v:0<ao ys)(h:¬ys[0].1<xs[0].1):mrg xs ys=xs[0]::mrg (xs.drop 1) ys:=by
 match xs,ys,z,v,h with
 | x::xs,y::ys,_,_,h=>simp only[bn] at h;rw[mrg,aG h];rfl
def re(x:Mn):∀s t:List Mn,mrg s (ins x t)=ins x (mrg s t)
 | [],t=>by simp[mrg]
 | y::s,[]=>by
  simp only[ins,mrg_nil_right];unfold mrg
  by_cases h:x.1<y.1
  ·rw[aH h,mrg_nil_right,aG aa]
  ·rw[aG h,aH aa]
   have:=re x s [];simp only[ins,mrg_nil_right] at this;rw[this]
 | y::s,z::t=>by
  by_cases v:z.1<=x.1
  ·have e:ins x (z::t)=z::ins x t:=by simp[ins,v]
   rw[e];unfold mrg
   by_cases h:z.1<y.1
   ·rw[aH h,aH h,re x (y::s) t]
    simp[ins,v]
   ·rw[aG h,aG h]
    have:=re x s (z::t);rw[e] at this;rw[this];simp only[ins];rw[aH (show y.1<=x.1 by omega)]
  ·have e:ins x (z::t)=x::z::t:=by simp[ins,v]
   rw[e]
   by_cases u:x.1<y.1
   ·rw[mrg,aH u]
    unfold mrg
    by_cases h:z.1<y.1
    ·rw[aH h];simp only[ins];rw[aG v]
    ·rw[aG h];simp only[ins];rw[aG aa]
   ·rw[mrg,aG u]
    have:=re x s (z::t);rw[e] at this;rw[this]
    conv=>rhs;rw[mrg,aG aa]
    simp only[ins];rw[aH (show y.1<=x.1 by omega)]
 termination_by s t=>ao s+ao t
def r8(x:Mn):∀(l:List Mn) (k:Nat),k<=ao l->(∀j (h:j<ao l),j<k->l[j].1<=x.1)->(∀h:k<ao l,x.1<l[k].1)->ins x l=l.take k++x::l.drop k
 | [],k,_,_,_=>by simp[ins]
 | y::l,0,_,_,h2=>by
  have:=h2 ad
  simp only[bn] at this;simp only[ins,cY,cZ,bp];rw[aG aa]
 | y::l,k+1,h0,h1,h2=>by
  have z:=h1 0 ad aa
  simp only[bn] at z;simp only[ins,dh,b8,bc];rw[aH z,r8 x l k (by simpa using h0) (λj h v=>h1 (j+1) (Nat.succ_lt_succ h) aa) (λh=>h2 (Nat.succ_lt_succ h))]
def Ja{x:Mn}{S T:List Mn}{q:Nat}(h:T=S.take q++x::S.drop q)(v:q<=ao S) :
 ao T=ao S+1/\T.take (q+1)=S.take q++[x]/\∀k (y:k<ao S),q<=k->T.take (k+1+1)=T.take (k+1)++[S[k]]:=by
 subst h;have z:ao (S.take q)=q:=by rw[aU];omega
 refine⟨by simp;omega,?_,λk y y=>?_⟩
 ·rw[List.take_append,z,bj aa,show q+1 - q=1 by omega];rfl
 ·have y:k+1<ao (S.take q++x::S.drop q):=af
  rw[aM y]
  congr 2
  rw[dF aa]
  simp only[z];have:k+1 - q=(k - q)+1:=aa
  simp only[this,bZ,eS]
  congr 1
  omega
def nA(l:List Mn)(x:Mn):iJ (l++[x])=ins x (iJ l):=by simp[iJ]
def wj(l:List Mn)(i:Nat)(h:i<ao l):iJ (l.take (i+1))=ins l[i] (iJ (l.take i)):=by
 rw[aM h,nA]
def Gl(s:List Mn):∀b:List Mn,mrg s (iJ b)=b.foldl (λo x=>ins x o) s:=by
 intro b
 induction b using rb with
 | nil=>simp[iJ,mrg_nil_right]
 | snoc b x ih=>rw[nA,re,ih,eo];rfl
def lD(a b:List Mn):mrg (iJ a) (iJ b)=iJ (a++b):=by
 rw[Gl,iJ,iJ,eo]
def qz(x:Mn)(l:List Mn):ao (ins x l)=ao l+1:=by
 induction l with
 | nil=>rfl
 | cons y l ih=>simp only[ins];split<;>simp[ih]
def jr(l:List Mn):ao (iJ l)=ao l:=by
 induction l using rb with
 | nil=>rfl
 | snoc l x ih=>rw[nA,qz,ih];simp
def Ez(x:Mn)(l:List Mn)(m:Mn):m∈ins x l<->m=x\/m∈l:=by
 induction l with
 | nil=>simp[ins]
 | cons y l ih=>
  simp only[ins]
  split
  ·simp only[aS,ih];constructor
   ·rintro (h|h|h)<;>simp[h]
   ·rintro (h|h|h)<;>simp[h]
  ·simp
def EA(l:List Mn)(m:Mn):m∈iJ l<->m∈l:=by
 induction l using rb with
 | nil=>simp[iJ]
 | snoc l x ih=>rw[nA,Ez,ih];simp[or_comm]
def kG(l:List Mn):Prop:=l.Pairwise (λa b=>a.1<=b.1)
def wK(x:Mn):∀l:List Mn,kG l->kG (ins x l)
 | [],_=>by simp[ins,kG]
 | y::l,h=>by
  have v:=aT.1 h;simp only[ins]
  split
  ·rename_i u
   refine aT.2 ⟨λm z=>?_,wK x l v.2⟩
   rcases(Ez x l m).1 z with rfl|z
   ·exact u
   ·exact v.1 m z
  ·rename_i u
   refine aT.2 ⟨λm z=>?_,h⟩
   rcases aS.1 z with rfl|z
   ·omega
   ·have:=v.1 m z;omega
def pK(l:List Mn):kG (iJ l):=by
 induction l using rb with
 | nil=>simp[iJ,kG]
 | snoc l x ih=>rw[nA];exact wK x _ ih
def tot:List Mn->Int
 | []=>0
 | m::l=>m.2+tot l
def gY(a b:List Mn):tot (a++b)=tot a+tot b:=by
 induction a with
 | nil=>simp[tot]
 | cons m a ih=>simp only[b8,tot,ih];omega
def Mw(x:Mn)(l:List Mn):tot (ins x l)=x.2+tot l:=by
 induction l with
 | nil=>rfl
 | cons y l ih=>simp only[ins];split<;>simp only[tot,ih];omega
def nZ(l:List Mn):tot (iJ l)=tot l:=by
 induction l using rb with
 | nil=>rfl
 | snoc l x ih=>rw[nA,Mw,ih,gY];simp only[tot];omega
def hQ(l:List Mn)(j:Nat)(h:j<ao l):tot (l.take (j+1))=tot (l.take j)+l[j].2:=by
 rw[aM h,gY];simp[tot]
def OR(m:Mn):Prop:=-9223372036854775808<=m.1/\m.1<=9223372036854775807/\0<m.2
def kg(l:List Mn):Prop:=∀m∈l,OR m
def kg.gP:∀{l:List Mn},kg l->0<=tot l
 | [],_=>by simp[tot]
 | m::l,h=>by
  have y:=kg.gP (l:=l) (λx z=>h x (aP _ z))
  have z:=(h m (aK ..)).2.2;simp only[tot];omega
def kg.tail{m:Mn}{l:List Mn}(h:kg (m::l)):kg l:=λx z=>h x (aP _ z)
def kg.append{a b:List Mn}(h:kg a)(k:kg b):kg (a++b):=λm y=>by
 rcases cV.1 y with z|z
 ·exact h m z
 ·exact k m z
def kg.iJ{l:List Mn}(h:kg l):kg (iJ l):=λm z=>h m ((EA l m).1 z)
def kg.take{l:List Mn}(h:kg l)(j:Nat):kg (l.take j):=λm z=>h m (cB z)
def kg.drop{l:List Mn}(h:kg l)(j:Nat):kg (l.drop j):=λm z=>h m (cu z)
def kg.get{l:List Mn}(h:kg l)(z:j<ao l):OR l[j]:=h _ (aX z)
def kg.mC{l:List Mn}(h:kg l)(j:Nat):0<=tot (l.take j)/\tot (l.take j)<=tot l:=by
 have y:=(h.take j).gP;have x:=(h.drop j).gP;have z:=gY (l.take j) (l.drop j);rw[bK] at z;omega
def kg.pL{l:List Mn}(h:kg l)(z:j<ao l):tot (l.take j)+l[j].2<=tot l:=by
 rw[<-hQ l j z];exact(h.mC _).2
def rf(d n done weight:Int):Bool:=decide (weight * d * n<=(2 * done+weight) * (2 * n - 2 * done - weight))
def jg(d n:Int):List Mn->Int->Mn->List Mn
 | [],_,now=>[now]
 | m::l,done,now=>if rf d n done (now.2+m.2) then jg d n l done (jN now.1 m.1 m.2 (now.2+m.2),now.2+m.2) else now::jg d n l (done+now.2) m
def mD(d n:Int):List Mn->List Mn
 | []=>[]
 | m::l=>jg d n l 0 m
def jM(d:Int)(l:List Mn):List Mn:=mD d (tot l) (iJ l)
def qA(d n:Int):∀(l:List Mn) (done:Int) (now:Mn),tot (jg d n l done now)=now.2+tot l
 | [],_,now=>by simp[jg,tot]
 | m::l,done,now=>by
  unfold jg
  split
  ·rw[qA];simp only[tot];omega
  ·simp only[tot];rw[qA]
def Gm(d n:Int)(l:List Mn):tot (mD d n l)=tot l:=by
 cases l with
 | nil=>rfl
 | cons m l=>simp only[mD,qA,tot]
def j'(d:Int)(l:List Mn):tot (jM d l)=tot l:=by rw[jM,Gm,nZ]
def lE(d n:Int):∀(l:List Mn) (done:Int) (now:Mn),1<=ao (jg d n l done now)/\ao (jg d n l done now)<=ao l+1
 | [],_,now=>by simp[jg]
 | m::l,done,now=>by
  unfold jg
  split
  ·have:=lE d n l done (jN now.1 m.1 m.2 (now.2+m.2),now.2+m.2);simp only[aJ];omega
  ·have:=lE d n l (done+now.2) m;simp only[aJ];omega
def lf(d:Int)(l:List Mn):ao (jM d l)<=ao l:=by
 unfold jM;have h:=jr l
 cases hs:iJ l with
 | nil=>simp[mD]
 | cons m s=>rw[hs] at h;have:=(lE d (tot l) s 0 m).2;simp only[mD,aJ] at *;omega
def tv(d:Int){l:List Mn}(y:l≠[]):jM d l≠[]:=by
 unfold jM;have h:=jr l
 cases hs:iJ l with
 | nil=>rw[hs] at h;simp at h;exact absurd h.symm (by simpa using y)
 | cons m s=>intro z;have:=(lE d (tot l) s 0 m).1;simp only[mD] at z;rw[z] at this;simp at this
def r9(d n t v:Int):∀(l:List Mn) (done:Int) (now:Mn),kg (now::l)->kG (now::l)->(∀m∈now::l,t<=m.1/\m.1<=v) ->
 kg (jg d n l done now)/\kG (jg d n l done now)/\(∀m∈jg d n l done now,now.1<=m.1/\m.1<=v)
 | [],_,now,h1,h2,h3=>⟨h1,h2,λm z=>by
  have:=h3 m z;simp only[jg,ct] at z;subst z;exact⟨cR _,this.2⟩⟩
 | m::l,done,now,h1,h2,h3=>by
  have u:=aT.1 h2;have s:=aT.1 u.2;have q:now.1<=m.1:=u.1 m (aK ..);have r:=h1 now (aK ..);have p:=h1 m (aP _ (aK ..));have V:=r.2.2;have U:=p.2.2;unfold jg
  split
  ·have X:=nz q (x:=m.2) (y:=now.2+m.2) aa  aa  aa
   have g:OR (jN now.1 m.1 m.2 (now.2+m.2),now.2+m.2):=by
    unfold OR at *;refine⟨?_,?_,?_⟩<;>simp only<;>omega
   obtain⟨a,b,c⟩:=r9 d n t v l done (jN now.1 m.1 m.2 (now.2+m.2),now.2+m.2)
    (by intro x z;rcases aS.1 z with rfl|z;exact g;exact h1 x (by simp[z]))
    (by refine aT.2 ⟨λx z=>?_,s.2⟩;have:=s.1 x z;simp only;omega)
    (by
     have f:=h3 now (aK ..);have Y:=h3 m ad
     intro x z;rcases aS.1 z with rfl|z
     ·simp only;omega
     ·exact h3 x (by simp[z]))
   refine⟨a,b,λx z=>?_⟩
   have:=c x z;simp only at this;omega
  ·obtain⟨a,b,c⟩:=r9 d n t v l (done+now.2) m h1.tail u.2 (λx z=>h3 x (aP _ z))
   refine⟨?_,aT.2 ⟨λx z=>?_,b⟩,λx z=>?_⟩
   ·intro x z;rcases aS.1 z with rfl|z;exact r;exact a x z
   ·have:=c x z;omega
   ·rcases aS.1 z with rfl|z
    ·exact⟨cR _,(h3 x (aK ..)).2⟩
    ·have:=c x z;omega
def o5(d v y:Int){l:List Mn}(h:kg l)(q:∀m∈l,v<=m.1/\m.1<=y):kg (jM d l)/\kG (jM d l)/\(∀m∈jM d l,v<=m.1/\m.1<=y):=by
 unfold jM;have t:=h.iJ;have r:=pK l;have u:∀m∈iJ l,v<=m.1/\m.1<=y:=λm z=>q m ((EA l m).1 z)
 cases hs:iJ l with
 | nil=>exact⟨(λm z=>by simp[mD] at z),by simp[mD,kG],(λm z=>by simp[mD] at z)⟩
 | cons m s=>
  rw[hs] at t r u;obtain⟨a,b,c⟩:=r9 d (tot l) v y s 0 m t r u;refine⟨a,b,λx p=>?_⟩
  have:=c x p;have:=u m (aK ..);omega
structure o6(d n:Int)(l:List Mn)(j:Nat)(acc:List Mn)(now:Mn):Prop where
 e:mD d n l=acc++jg d n (l.drop j) (tot acc) now
 t:tot acc+now.2+tot (l.drop j)=n
 ok:kg (now::l.drop j)
 V8:kg acc
 rise:kG (now::l.drop j)
 len:ao acc+1<=j
def o6.start(d:Int){l:List Mn}(z:0<ao l)(x:kg l)(v:kG l):o6 d (tot l) l 1 [] l[0]:=by
 match l,z with
 | m::l,_=>
  refine⟨by simp[mD,tot],by simp[tot],x,(λm y=>by simp at y),v,ad⟩
def drop_cons{l:List Mn}(h:j<ao l):l.drop j=l[j]::l.drop (j+1):=cr h
def o6.facts{l:List Mn}{acc:List Mn}{now:Mn}(h:o6 d n l j acc now)(u:j<ao l) :
 0<=tot acc/\OR now/\OR l[j]/\now.1<=l[j].1/\tot acc+(now.2+l[j].2)<=n:=by
 have v:=h.V8.gP;have z:=h.ok;have y:=h.rise;have x:=h.t;rw[drop_cons u] at z y x;have t:=z.tail.tail.gP;simp only[tot] at x;refine⟨v,z _ (aK ..),z l[j] (aP _ (aK ..)),(aT.1 y).1 _ (aK ..),aa⟩
def o6.merge{l:List Mn}{acc:List Mn}{now:Mn}(h:o6 d n l j acc now)(v:j<ao l)(f:rf d n (tot acc) (now.2+l[j].2)=true) :
 o6 d n l (j+1) acc (jN now.1 l[j].1 l[j].2 (now.2+l[j].2),now.2+l[j].2):=by
 obtain⟨a,q,p,g,Y⟩:=h.facts v;obtain⟨e,t,s,b,r,V⟩:=h;rw[drop_cons v] at e t s r;have U:=q.2.2;have T:=p.2.2;have X:=nz g (x:=l[j].2) (y:=now.2+l[j].2) aa  aa  aa
 have c:=aT.1 r;have u:=aT.1 c.2;refine⟨?_,?_,?_,b,?_,aa⟩
 ·rw[e];conv=>lhs;rw[jg,aH f]
 ·simp only[tot] at t |-;omega
 ·intro x z
  rcases aS.1 z with rfl|z
  ·unfold OR at *;refine⟨?_,?_,?_⟩<;>simp only<;>omega
  ·exact s x (aP _ (aP _ z))
 ·refine aT.2 ⟨λx z=>?_,u.2⟩
  have:=u.1 x z;simp only;omega
def o6.push{l:List Mn}{acc:List Mn}{now:Mn}(h:o6 d n l j acc now)(u:j<ao l)(z:rf d n (tot acc) (now.2+l[j].2)=false) :
 o6 d n l (j+1) (acc++[now]) l[j]:=by
 obtain⟨e,t,y,r,v,q⟩:=h;rw[drop_cons u] at e t y v;have s:=aT.1 v;have x:tot (acc++[now])=tot acc+now.2:=by rw[gY];simp[tot]
 refine⟨?_,?_,y.tail,?_,s.2,af⟩
 ·rw[e,x,aO];conv=>lhs;rw[jg,aG (by rw[z];simp)]
  rfl
 ·rw[x];simp only[tot] at t;omega
 ·exact r.append (λm z=>by simp only[ct] at z;subst z;exact y m (aK ..))
def o6.fin{l:List Mn}{acc:List Mn}{now:Mn}(h:o6 d n l (ao l) acc now):mD d n l=acc++[now]:=by
 have e:=h.e;rw[fe] at e;exact e
abbrev Pt:=Int × Int
def kE(hi n:Int):List Mn->Int->List Pt
 | [],_=>[(hi,2 * n)]
 | m::l,done=>(m.1,2 * done+m.2)::kE hi n l (done+m.2)
def pts(lo hi:Int)(P:List Mn):List Pt:=(lo,0)::kE hi (tot P) P 0
def mE(hi s:Int):Pt->List Pt->Int
 | _,[]=>hi
 | a,b::r=>if s<b.2 then jN a.1 b.1 (s - a.2) (b.2 - a.2) else mE hi s b r
def oI(n v:Int):Pt->List Pt->Int
 | _,[]=>n
 | a,b::r=>if v<b.1 then(a.2+(b.2 - a.2) * (v - a.1) / (b.1 - a.1)) / 2 else oI n v b r
def Mx(lo hi:Int)(P:List Mn)(s:Int):Int:=mE hi s (lo,0) (kE hi (tot P) P 0)
def sS(lo hi:Int)(P:List Mn)(v:Int):Int:=if tot P=0\/v<lo then 0 else if hi<=v then tot P else oI (tot P) v (lo,0) (kE hi (tot P) P 0)
def lI:Pt->List Pt->Prop
 | _,[]=>True
 | a,b::r=>a.1<=b.1/\a.2<b.2/\lI b r
def rg:Pt->List Pt->Pt
 | a,[]=>a
 | _,b::r=>rg b r
def yh{p q:Int}(z:0<=p)(u:0<=x)(t:x<=y)(s:0<y)(v:q=p * x / y):0<=q/\q<=p:=by
 subst v;refine⟨cP (cG z u) aa,fh s (bH t z)⟩
def wL(z:Int):∀(l:List Mn) (done n v at_:Int),n=done+tot l->kg l->kG l->(∀m∈l,v<=m.1/\m.1<=z)->v<=z->(l=[]->at_<2 * n)->at_<=2 * done->lI (v,at_) (kE z n l done)/\rg (v,at_) (kE z n l done)=(z,2 * n)
 | [],done,n,v,at_,hn,_,_,_,hv,h1,_=>by
  simp only[kE,lI,rg];simp only[and_true];exact⟨hv,h1 rfl⟩
 | m::l,done,n,v,at_,hn,ho,hr,hb,hv,h1,h2=>by
  have y:=hb m (aK ..);have r:=(ho m (aK ..)).2.2;have u:=aT.1 hr;have q:=ho.tail.gP;simp only[tot] at hn;have s:=wL z l (done+m.2) n m.1 (2 * done+m.2) aa ho.tail u.2 (λx t=>⟨u.1 x t,(hb x (aP _ t)).2⟩) y.2 (λh=>by subst h;simp only[tot] at hn;omega) aa
  simp only[kE,lI,rg];exact⟨⟨y.1,aa,s.1⟩,s.2⟩
def tS{lo hi:Int}{P:List Mn}(x:kg P)(v:kG P)(z:∀m∈P,lo<=m.1/\m.1<=hi)(y:P≠[]):lI (lo,0) (kE hi (tot P) P 0)/\rg (lo,0) (kE hi (tot P) P 0)=(hi,2 * tot P):=by
 match P,y with
 | m::l,_=>
  have:=z m (aK ..);exact wL hi (m::l) 0 _ lo 0 aa x v z aa (λh=>by cases h) aa
def zx(z s:Int):∀(r:List Pt) (a:Pt) (i:Nat) (h:i<ao (a::r)),0<i->(∀j (y:j<ao (a::r)),0<j->j<i->(a::r)[j].2<=s)->s<(a::r)[i].2 ->
 mE z s a r=jN (a::r)[i - 1].1 (a::r)[i].1 (s - (a::r)[i - 1].2) ((a::r)[i].2 - (a::r)[i - 1].2)
 | [],a,i,h,h0,_,_=>by simp at h;omega
 | b::r,a,1,h,h0,h1,h2=>by
  simp only[bZ,bn] at h2 |-;simp only[mE];rw[aH h2];rfl
 | b::r,a,i+2,h,h0,h1,h2=>by
  have x:=h1 1 ad aa  aa
  simp only[bZ,bn] at x;simp only[mE];rw[aG aa]
  have:=zx z s r b (i+1) (by simpa using h) aa (λj y u v=>by
   have:=h1 (j+1) (by simpa using y) aa  aa
   simpa using this) (by simpa using h2)
  rw[this];rfl
def tT(z s:Int):∀(r:List Pt) (a:Pt),(∀j (y:j<ao (a::r)),0<j->(a::r)[j].2<=s)->mE z s a r=z
 | [],a,_=>rfl
 | b::r,a,h1=>by
  have x:=h1 1 ad aa
  simp only[bZ,bn] at x;simp only[mE];rw[aG aa]
  exact tT z s r b λj y v=>by
   have:=h1 (j+1) (by simpa using y) aa
   simpa using this
def zy(n v:Int):∀(r:List Pt) (a:Pt) (i:Nat) (h:i<ao (a::r)),0<i->(∀j (z:j<ao (a::r)),0<j->j<i->(a::r)[j].1<=v)->v<(a::r)[i].1 ->
 oI n v a r=((a::r)[i - 1].2+((a::r)[i].2 - (a::r)[i - 1].2) * (v - (a::r)[i - 1].1) / ((a::r)[i].1 - (a::r)[i - 1].1)) / 2
 | [],a,i,h,h0,_,_=>by simp at h;omega
 | b::r,a,1,h,h0,h1,h2=>by
  simp only[bZ,bn] at h2 |-;simp only[oI];rw[aH h2];rfl
 | b::r,a,i+2,h,h0,h1,h2=>by
  have y:=h1 1 ad aa  aa
  simp only[bZ,bn] at y;simp only[oI];rw[aG aa]
  have:=zy n v r b (i+1) (by simpa using h) aa (λj z u x=>by
   have:=h1 (j+1) (by simpa using z) aa  aa
   simpa using this) (by simpa using h2)
  rw[this];rfl
def lI.get:∀{r:List Pt} {a:Pt},lI a r->∀i j (hi:i<ao (a::r)) (hj:j<ao (a::r)),i<j->(a::r)[i].1<=(a::r)[j].1/\(a::r)[i].2<(a::r)[j].2
 | [],a,_,i,j,hi,hj,h=>by simp at hi hj;omega
 | b::r,a,h,i,0,hi,hj,hij=>by omega
 | b::r,a,h,0,j+1,hi,hj,hij=>by
  obtain⟨y,x,z⟩:=h;simp only[bZ,bn]
  rcases bh j with rfl|v
  ·simp only[bn];exact⟨y,x⟩
  ·have:=lI.get z 0 j ad (by simpa using hj) v
   simp only[bn] at this;omega
 | b::r,a,h,i+1,j+1,hi,hj,hij=>by
  obtain⟨y,x,z⟩:=h;have:=lI.get z i j (by simpa using hi) (by simpa using hj) aa
  simpa using this
def wM:∀(r:List Pt) (a:Pt),(a::r)[ao (a::r) - 1]' ad =rg a r
 | [],a=>rfl
 | b::r,a=>by
  have:=wM r b;simp only[aJ,da,rg] at this |-;rw[<-this];rfl
def iU(d:Int)(L W:List Mn)(m:Mn):List Mn:=if d<=(ao W:Int)+1 then jM d (L++(W++[m])) else L
def l_(d:Int)(W:List Mn)(m:Mn):List Mn:=if d<=(ao W:Int)+1 then [] else W++[m]
def zz(d:Int)(L W:List Mn)(m:Mn):tot (iU d L W m++l_ d W m)=tot (L++W)+m.2:=by
 unfold iU l_
 split
 ·rw[bT,j'];simp only[gY,tot];omega
 ·simp only[gY,tot];omega
def zA(d:Int)(L W:List Mn)(m:Mn):ao (iU d L W m)+ao (l_ d W m)<=ao L+ao W+1:=by
 unfold iU l_
 split
 ·have:=lf d (L++(W++[m]));simp only[aE,aJ,aV] at this |-;omega
 ·simp only[aE,aJ,aV];omega
def Cn(d:Int)(L W:List Mn)(m:Mn):iU d L W m++l_ d W m≠[]:=by
 unfold iU l_
 split
 ·rw[bT];exact tv d ad
 ·simp
def Jb(d:Int)(W:List Mn)(m:Mn)(z:0<d):(ao (l_ d W m):Int)<d:=by
 unfold l_
 split
 ·simpa using z
 ·simp only[aE,aJ,aV];omega
structure St where
 L:List Mn
 W:List Mn
 lo:Int
 hi:Int
namespace St
variable{d:Int}{s:St}{k:Nat}
def zero:St:=⟨[],[],0,0⟩
def add(d:Int)(s:St)(a k:Int):St:=⟨iU d s.L s.W (a,k),l_ d s.W (a,k),if tot (s.L++s.W)=0 then a else min s.lo a,if tot (s.L++s.W)=0 then a else max s.hi a⟩
def take(d:Int)(s t:St):St:=
 if tot (t.L++t.W)=0 then s else⟨jM d (s.L++(s.W++(t.L++t.W))),[],if tot (s.L++s.W)=0 then t.lo else min s.lo t.lo,if tot (s.L++s.W)=0 then t.hi else max s.hi t.hi⟩
structure Ok(d:Int)(s:St)(k:Nat):Prop where
 ok:kg (s.L++s.W)
 bd:∀m∈s.L++s.W,s.lo<=m.1/\m.1<=s.hi
 wk:-9223372036854775808<=s.lo
 lo1:s.lo<=9223372036854775807
 hi0:-9223372036854775808<=s.hi
 hi1:s.hi<=9223372036854775807
 emp:s.L++s.W=[]->s.lo=0/\s.hi=0
 len:ao s.L+ao s.W<=k
 wl:(ao s.W:Int)<d
 rise:kG s.L
def My(d:Int)(h:0<d):zero.Ok d 0:=⟨λm z=>by simp[zero] at z,λm z=>by simp[zero] at z,by simp[zero],by simp[zero],by simp[zero],by simp[zero],λ_=>⟨rfl,rfl⟩,by simp[zero],by simpa[zero] using h,by simp[zero,kG]⟩
def Ok.more{j:Nat}(h:s.Ok d k)(z:k<=j):s.Ok d j:=⟨h.ok,h.bd,h.wk,h.lo1,h.hi0,h.hi1,h.emp,bf h.len z,h.wl,h.rise⟩
def Mz{l:List Mn}(h:kg l)(z:l≠[]):0<tot l:=by
 match l,z with
 | m::l,_=>
  have y:=(h m (aK ..)).2.2;have x:=h.tail.gP;simp only[tot];omega
def Ok.r_(h:s.Ok d k):tot (s.L++s.W)=0<->s.L++s.W=[]:=by
 constructor
 ·intro z
  by_cases y:s.L++s.W=[]
  ·exact y
  ·have:=Mz h.ok y;omega
 ·intro z;rw[z];rfl
def Ok.i7(h:s.Ok d k):0<=tot (s.L++s.W):=h.ok.gP
def Oh(d:Int)(s:St)(a k:Int):tot ((s.add d a k).L++(s.add d a k).W)=tot (s.L++s.W)+k:=zz d s.L s.W (a,k)
def Ok.add(h:s.Ok d k)(g:0<d){a n:Int}(q:-9223372036854775808<=a)(p:a<=9223372036854775807)(f:0<n):(s.add d a n).Ok d (k+1):=by
 have t:(if tot (s.L++s.W)=0 then a else min s.lo a)<=a/\(tot (s.L++s.W)≠0->(if tot (s.L++s.W)=0 then a else min s.lo a)<=s.lo)/\-9223372036854775808<=(if tot (s.L++s.W)=0 then a else min s.lo a):=by
  have:=h.wk
  split<;>refine⟨by omega,aa,aa⟩
 have u:a<=(if tot (s.L++s.W)=0 then a else max s.hi a)/\(tot (s.L++s.W)≠0->s.hi<=(if tot (s.L++s.W)=0 then a else max s.hi a))/\(if tot (s.L++s.W)=0 then a else max s.hi a)<=9223372036854775807:=by
  have:=h.hi1
  split<;>refine⟨by omega,aa,aa⟩
 have x:kg (s.L++(s.W++[(a,n)])):=by
  rw[<-aO];exact h.ok.append (λm y=>by simp only[ct] at y;subst y;exact⟨q,p,f⟩)
 have v:∀m∈s.L++(s.W++[(a,n)]),(if tot (s.L++s.W)=0 then a else min s.lo a)<=m.1/\m.1<=(if tot (s.L++s.W)=0 then a else max s.hi a):=by
  intro m y;rw[<-aO] at y
  rcases cV.1 y with z|z
  ·have c:=h.bd m z
   have r:tot (s.L++s.W)≠0:=λe=>by rw[h.r_.1 e] at z;cases z
   have:=t.2.1 r;have:=u.2.1 r;omega
  ·simp only[ct] at z
   subst z;exact⟨t.1,u.1⟩
 refine⟨?_,?_,t.2.2,by show(if _ then _ else _)<=_;omega,by show _<=(if _ then _ else _);omega,u.2.2,λe=>absurd e (Cn d s.L s.W (a,n)),?_,Jb d s.W (a,n) g,?_⟩
 ·show kg (iU d s.L s.W (a,n)++l_ d s.W (a,n))
  unfold iU l_
  split
  ·rw[bT]
   exact(o5 d _ _ x v).1
  ·exact x
 ·show ∀m∈iU d s.L s.W (a,n)++l_ d s.W (a,n),(if tot (s.L++s.W)=0 then a else min s.lo a)<=m.1/\m.1<=(if tot (s.L++s.W)=0 then a else max s.hi a)
  generalize (if tot (s.L++s.W)=0 then a else min s.lo a)=y at *
  generalize (if tot (s.L++s.W)=0 then a else max s.hi a)=z at *
  unfold iU l_
  split
  ·rw[bT]
   exact(o5 d _ _ x v).2.2
  ·exact v
 ·have:=zA d s.L s.W (a,n)
  have:=h.len;show(iU d s.L s.W (a,n)).length+ao (l_ d s.W (a,n))<=k+1
  omega
 ·show kG (iU d s.L s.W (a,n))
  unfold iU
  split
  ·exact(o5 d _ _ x v).2.1
  ·exact h.rise
end St
def OS(l:List Mn):Prop:=∀m∈l,-9223372036854775808<=m.1/\m.1<=9223372036854775807/\0<=m.2/\m.2<=18446744073709551615
def gT(t:TypeId)(k:IntKind)(base:Nat)(w:World)(v:Value)(l:List Int):Prop:=w.ownsRow base t 1 v (ao l) (l.map (Value.int k))
section
variable {t : TypeId} {k : IntKind} {base : Nat} {w w' : World} {v : Value} {l : List Int}
def gT.rd(h:gT t k base w v l):jf k w v l:=Rd.lT h
def gT.alloc(h:gT t k base w v l)(o:Obj):gT t k base (w.alloc o) v l:=eI h o
def gT.drewN(h:gT t k base w v l)(n:Nat):gT t k base (w.drewN n) v l:=h
def gT.drew(h:gT t k base w v l):gT t k base w.drew v l:=h
def gT.lt(h:gT t k base w v l):∀g,v.ownBlock=some g->base<=g/\g<w.heap.size:=fc h
def gT.stay(h:gT t k base w v l)(p:∀g,v.ownBlock=some g->w'.heap[g]?=w.heap[g]?):gT t k base w' v l:=by
 obtain⟨q,z⟩:=h;refine⟨q,?_⟩
 rcases z with z|⟨g,y,x,rfl,u,s,r⟩
 ·exact .inl z
 ·exact .inr ⟨g,y,x,rfl,u,(p g rfl).trans s,r⟩
def gT.keep(h:gT t k base w v l)(z:aq w w'):gT t k base w' v l:=h.stay λg y=>z.block g (h.lt g y).2
def gT.nil_(t:TypeId)(k:IntKind)(base:Nat)(w:World):gT t k base w (.slice none 0 0) []:=⟨rfl,.inl ⟨rfl,rfl⟩⟩
def gT.one(t:TypeId)(k:IntKind)(w:World)(x:Int):gT t k w.heap.size (w.alloc (.cells #[.int k x] t)) (.slice (some ⟨w.heap.size,0,none⟩) 1 1) [x]:=
 ⟨rfl,.inr ⟨w.heap.size,1,_,rfl,aD _,cm _ _,ad,by unfold maxLen;omega,rfl,ad⟩⟩
def jf.hJ(t:TypeId)(k:IntKind)(w:World)(x:Int)(H:Nat)(h:w.heap.size=H):jf k (w.alloc (.cells #[.int k x] t)) (.slice (some ⟨H,0,none⟩) 1 1) [x]:=by
 subst h;exact(gT.one t k w x).rd
end
def Oi:(prog.info? 2).map (λi=>(i.zero,i.size,i.bytes))=some (some (.int .i64 0),1,8):=by kernel_rfl
def EB(k:IntKind)(l:List Int):∀u∈l.map (Value.int k),u.oneCell'=true:=λu z=>by
 obtain⟨x,_,rfl⟩:=gK.1 z;rfl
def zB{ts t:TypeId}{k:IntKind}(T:prog.underlying ts=some (.slice t))(Y:(prog.info? t).map (λi=>(i.zero,i.size,i.bytes))=some (some (.int k 0),1,8))
 {w:World} {ops:Array Oper} {rest:List Oper} {o:Oper} {a:Act} {Q:Exit->Act->World->Prop} (d:o.guard=none) (s x:Operand)
 (X:o.op=.call {callee:=.builtin .append,args:=#[s,x],argTypes:=#[ts,ts]})
 (base:Nat) (v:Value) (xs:List Int) (U:a.eval s=v) (V:gT t k base w v xs)
 (u:Value) (y:List Int) (S:a.eval x=u) (r:jf k w u y)
 (M:ao xs+ao y<=1099511627776) (f:base<=w.heap.size)
 (h:∀z w',gT t k base w' z (xs++y)->w.grownBy w' v.ownBlock->(z.ownBlock=v.ownBlock\/z.ownBlock=some w.heap.size)->wpList prog ops Q rest (a.put o.dst z) w'):wpList prog ops Q (o::rest) a w:=by
 obtain⟨N,b,R,P,O⟩:=cx Y;obtain⟨A,c,rfl,_,_,_⟩:=r.form;refine jv w d s x ts X base t N _ 1 8 T b R P O rfl aa v (ao xs) (xs.map (Value.int k)) U V A (ao y) c (y.map (Value.int k)) S r (EB k _)
  (by unfold maxLen;omega) aa f λz w' q p g=>h z w' ?_ p g
 unfold gT;rw[aE,eh];exact q
end Go.Proofs.YtdicblkhpcphfaaGreat
