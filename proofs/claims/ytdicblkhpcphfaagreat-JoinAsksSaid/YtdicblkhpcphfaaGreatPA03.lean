/- Parts. No condition. -/
import Derived.Test.YtdicblkhpcphfaaGreatPA02
import Derived.Laws.EntriesVeiled
import Derived.Laws.Tables
set_option maxRecDepth 100000
set_option maxHeartbeats 0
set_option linter.all false
namespace Go.Proofs.YtdicblkhpcphfaaGreat
open Tryz Go.RowKit Go.Lib
open _root_.List renaming length→ao
open _root_.Go renaming Calls→ar
open Tryz renaming prog→Oe
variable{l:List Int}{X Y a b carry d left q:Int}{i k:Nat}
def lU(n:Int)(j:Nat):Int:=n / 65536 ^ j % 65536
def o7:List Int->Int
 | []=>0
 | d::l=>d+65536 * o7 l
def mc:Nat->Int->List Int
 | 0,_=>[]
 | k+1,n=>n % 65536::mc k (n / 65536)
def okD(l:List Int):Prop:=∀d∈l,0<=d/\d<65536
def mF(j:Nat):(0:Int)<65536 ^ j:=dH aa
def lh(n:Int)(j:Nat):0<=lU n j/\lU n j<65536:=⟨di _ aa,cH _ aa⟩
def Jc(n:Int):lU n 0=n % 65536:=by simp[lU]
def Jd(n:Int)(j:Nat):lU n (j+1)=lU (n / 65536) j:=by
 unfold lU;rw[ch,bS,<-cS aa]
def jE(k:Nat):∀n,ao (mc k n)=k:=by
 induction k with
 | zero=>intro n;rfl
 | succ k ih=>intro n;simp[mc,ih]
def Je(k:Nat):∀(n:Int) (j:Nat),j<k->(mc k n)[j]?=some (lU n j):=by
 induction k with
 | zero=>intro n j h;omega
 | succ k ih=>
  intro n j h
  cases j with
  | zero=>simp[mc,Jc]
  | succ j=>simp only[mc,aB];rw[ih _ _ aa,Jd]
def mw(k:Nat)(n:Int)(j:Nat)(h:j<k):(mc k n)[j]?.getD 0=lU n j:=by
 rw[Je k n j h];rfl
def MA(k:Nat):∀n,okD (mc k n):=by
 induction k with
 | zero=>intro n d h;cases h
 | succ k ih=>
  intro n d h
  rcases aS.1 h with rfl|h
  ·exact⟨di _ aa,cH _ aa⟩
  ·exact ih _ d h
def Jf(k:Nat):∀n,0<=n->n<65536 ^ k->o7 (mc k n)=n:=by
 induction k with
 | zero=>intro n y z;simp at z;simp[mc,o7];omega
 | succ k ih=>
  intro n y z;have x:n / 65536<65536 ^ k:=ck aa (by rw[<-ch];exact z)
  simp only[mc,o7];rw[ih _ aa x]
  omega
def o9:∀l,okD l->l=mc (ao l) (o7 l)
 | [],_=>rfl
 | d::l,h=>by
  have z:=o9 l (λx y=>h x (aP _ y))
  have y:=h d (aK ..);simp only[aJ,mc,o7];rw[show(d+65536 * o7 l) % 65536=d by omega,show(d+65536 * o7 l) / 65536=o7 l by omega,<-z]
def rh:∀(l:List Int) (j:Nat) (v:Int),j<ao l->o7 (l.set j v)=o7 l+(v - l[j]?.getD 0) * 65536 ^ j
 | [],j,v,h=>by simp at h
 | d::l,0,v,_=>by simp[o7];omega
 | d::l,j+1,v,h=>by
  have:=rh l j v (by simpa using h)
  simp only[bm,o7,this,aB,ch];rw[bS (65536 ^ j) 65536,<-bG,bS _ 65536,bG];omega
def yi(h:okD l)(j:Nat){v:Int}(y:0<=v)(x:v<65536):okD (l.set j v):=by
 intro d z
 rcases List.mem_or_eq_of_mem_set z with z|rfl
 ·exact h d z
 ·exact⟨y,x⟩
def tU(h:okD l)(j:Nat):0<=l[j]?.getD 0/\l[j]?.getD 0<65536:=by
 cases hj:l[j]? with
 | none=>simp
 | some d=>simpa using h d (fB hj)
structure tV(a b:Int)(i k:Nat)(carry:Int)(l:List Int):Prop where
 len:ao l=8
 ok:okD l
 c0:0<=carry
 c1:carry<65536
 e:o7 l+carry * 65536 ^ (i+k)=(a % 65536 ^ i) * b+lU a i * 65536 ^ i * (b % 65536 ^ k)
 z:∀j,i+4<=j->l[j]?.getD 0=0
structure n_(a b:Int)(i:Nat)(l:List Int):Prop where
 len:ao l=8
 ok:okD l
 e:o7 l=(a % 65536 ^ i) * b
 z:∀j,i+4<=j->l[j]?.getD 0=0
def wN(a:Int)(i:Nat):a % 65536 ^ (i+1)=a % 65536 ^ i+lU a i * 65536 ^ i:=by
 have p:=mF i;have z:=cC a (65536 ^ i);have y:=cC a (65536 ^ (i+1));have x:a / 65536 ^ (i+1)=a / 65536 ^ i / 65536:=by rw[ch,cS aa]
 have v:=cC (a / 65536 ^ i) 65536;unfold lU;rw[x,ch] at y;generalize a / 65536 ^ i % 65536=m at *;generalize a / 65536 ^ i / 65536=k at *;have t:(65536:Int) ^ i * 65536 * k=65536 ^ i * (65536 * k):=by rw[bG]
 have u:(65536:Int) ^ i * (65536 * k+m)=65536 ^ i * (65536 * k)+m * 65536 ^ i:=by rw[eW,bS m]
 rw[<-v,u] at z;rw[ch];omega
def n_.start(a b:Int):n_ a b 0 (List.replicate 8 0):=by
 refine⟨rfl,λd h=>?_,?_,λj _=>?_⟩
 ·have:=List.eq_of_mem_replicate h;omega
 ·simp[o7,List.replicate,gG]
 ·rw[eQ];split<;>rfl
def n_.into(h:n_ a b i l):tV a b i 0 0 l:=
 ⟨h.len,h.ok,aa,aa,by rw[h.e];simp[gG],h.z⟩
def wO{x y:Int}(v:0<=x)(t:x<65536)(z:0<=y)(s:y<65536):0<=x * y/\x * y<=4294836225:=by
 have u:x * y<=65535 * y:=bF aa z
 exact⟨cG v z,aa⟩
def tV.next(h:tV a b i k carry l)(V:k<4)(X:i<4) :
 tV a b i (k+1) ((l[i+k]?.getD 0+lU a i * lU b k+carry) / 65536) (l.set (i+k) ((l[i+k]?.getD 0+lU a i * lU b k+carry) % 65536)):=by
 obtain⟨q,y,p,g,e,z⟩:=h;have Y:=tU y (i+k);have U:=wO (lh a i).1 (lh a i).2 (lh b k).1 (lh b k).2;have r:=rh l (i+k) ((l[i+k]?.getD 0+lU a i * lU b k+carry) % 65536) aa
 refine⟨by simp[q],yi y _ aa  aa,aa,aa,?_,λj s=>?_⟩
 ·rw[r,wN b k]
  have x:(65536:Int) ^ (i+(k+1))=65536 ^ (i+k) * 65536:=by rw[<-cX,ch]
  have v:(65536:Int) ^ (i+k)=65536 ^ i * 65536 ^ k:=dT ..;have t:lU a i * 65536 ^ i * (b % 65536 ^ k+lU b k * 65536 ^ k)=lU a i * 65536 ^ i * (b % 65536 ^ k)+lU a i * lU b k * 65536 ^ (i+k):=by
   rw[eW,v]
   congr 1
   rw[bG,Int.mul_left_comm (65536 ^ i),bG]
  rw[x,t];generalize l[i+k]?.getD 0=u at *;generalize lU a i * lU b k=m at *;generalize (65536:Int) ^ (i+k)=P at *;generalize T:u+m+carry=n at *;have f:n / 65536 * (P * 65536)=n / 65536 * 65536 * P:=by rw[bS P,bG]
  have d:(n % 65536 - u) * P+n / 65536 * 65536 * P=(m+carry) * P:=by
   rw[<-dc];congr 1;omega
  have c:(m+carry) * P=m * P+carry * P:=dc ..;omega
 ·rw[gz aa]
  exact z j s
def tV.o(h:tV a b i 4 carry l)(p:i<4)(t:0<=b)(s:b<18446744073709551616) :
 n_ a b (i+1) (l.set (i+4) (l[i+4]?.getD 0+carry)):=by
 obtain⟨v,u,r,q,e,z⟩:=h;have x:=z (i+4) aa
 have y:=rh l (i+4) (l[i+4]?.getD 0+carry) aa
 rw[x] at y |-;refine⟨by simp[v],yi u _ aa  aa,?_,λj g=>?_⟩
 ·rw[show b % 65536 ^ 4=b by omega] at e
  rw[y,wN a i,dc];generalize (65536:Int) ^ (i+4)=P at *;have:(0+carry - 0) * P=carry * P:=by congr 1;omega
  omega
 ·rw[gz aa]
  exact z j aa
def n_.fin(h:n_ a b 4 l)(y:0<=a)(x:a<18446744073709551616):l=mc 8 (a * b):=by
 have z:=o9 l h.ok;rw[h.len,h.e,show a % 65536 ^ 4=a by omega] at z
 exact z
def o_(X:Int)(i:Nat):X / 65536 ^ i=X / 65536 ^ (i+1) * 65536+lU X i:=by
 unfold lU;rw[ch,<-cS (by have:=mF i;omega)]
 omega
def Jg(h:X / 65536 ^ (i+1)=Y / 65536 ^ (i+1))(z:lU X i=lU Y i):X / 65536 ^ i=Y / 65536 ^ i:=by
 rw[o_ X,o_ Y,h,z]
def zC(h:X / 65536 ^ (i+1)=Y / 65536 ^ (i+1))(x:lU X i<lU Y i):X<Y:=by
 have y:X / 65536 ^ i<Y / 65536 ^ i:=by rw[o_ X,o_ Y,h];omega
 rcases Int.lt_or_le X Y with z|z
 ·exact z
 ·have:=Int.ediv_le_ediv (mF i) z
  omega
def Co(z:0<=X)(y:X<340282366920938463463374607431768211456):o7 (mc 8 X)=X:=Jf 8 X z aa
def mG(i:Nat):(0:Int)<2 ^ i:=dH aa
def yj(X:Int)(i:Nat):lU X (i / 16) / 2 ^ (i % 16) % 2=X / 2 ^ i % 2:=by
 unfold lU;have z:(65536:Int) ^ (i / 16) * 2 ^ (i % 16)=2 ^ i:=by
  rw[show(65536:Int)=2 ^ 16 by decide,<-Int.pow_mul,<-dT,show 16 * (i / 16)+i % 16=i by omega]
 rw[<-z,<-cS (by have:=mF (i / 16);omega)]
 generalize X / 65536 ^ (i / 16)=y;have x:(65536:Int)=2 ^ (i % 16) * (2 * 2 ^ (15 - i % 16)):=by
  rw[<-bG,bS _ 2,bG,<-dT,show i % 16+(15 - i % 16)=15 by omega];decide
 have p:=mG (i % 16);have v:=cC y 65536;generalize y % 65536=m at *;generalize u:y / 65536=k at *;clear u;rw[<-v];have u:65536 * k+m=m+2 ^ (i % 16) * (2 * (2 ^ (15 - i % 16) * k)):=by
  have:(2:Int) ^ (i % 16) * (2 * (2 ^ (15 - i % 16) * k))=2 ^ (i % 16) * (2 * 2 ^ (15 - i % 16)) * k:=by
   rw[bG,bG]
  rw[this,<-x];omega
 rw[u,ff _ _ aa]
 omega
def Jh(q:Int)(i:Nat)(Y:i<128)(c:0<=q)(V:q * 2 ^ (i+1)+2 ^ i<340282366920938463463374607431768211456) :
 (mc 8 (q * 2 ^ (i+1))).set (i / 16) (lU (q * 2 ^ (i+1)) (i / 16)+2 ^ (i % 16))=mc 8 (q * 2 ^ (i+1)+2 ^ i)/\lU (q * 2 ^ (i+1)) (i / 16)+2 ^ (i % 16)<65536:=by
 have X:=mG i;have t:0<=q * 2 ^ (i+1):=cG c aa
 have g:=jE 8 (q * 2 ^ (i+1));have s:=mw 8 (q * 2 ^ (i+1)) (i / 16) aa
 have b:=lh (q * 2 ^ (i+1)) (i / 16);have p:=mG (i % 16);have d:=mG (15 - i % 16);have z:(2:Int) ^ (i % 16) * 65536 ^ (i / 16)=2 ^ i:=by
  rw[show(65536:Int)=2 ^ 16 by decide,<-Int.pow_mul,<-dT,show i % 16+16 * (i / 16)=i by omega]
 -- the digit is a multiple of twice the bit
 have f:lU (q * 2 ^ (i+1)) (i / 16)=(q % 2 ^ (15 - i % 16)) * (2 * 2 ^ (i % 16)):=by
  unfold lU;have x:q * 2 ^ (i+1)=(q * (2 * 2 ^ (i % 16))) * 65536 ^ (i / 16):=by
   rw[ch,<-z,bG,bG,bS 2,bG,bS 2]
  have y:(65536:Int)=2 ^ (15 - i % 16) * (2 * 2 ^ (i % 16)):=by
   rw[bS 2,<-bG,<-dT,show 15 - i % 16+i % 16=15 by omega];decide
  rw[x,Int.mul_ediv_cancel _ (by have:=mF (i / 16);omega)]
  generalize (2:Int) ^ (15 - i % 16)=A at *;generalize (2:Int) ^ (i % 16)=B at *;rw[y,bS q,bS A,fZ _ _ aa,bS]
 have x:lU (q * 2 ^ (i+1)) (i / 16)+2 ^ (i % 16)<65536:=by
  have y:(65536:Int)=2 ^ (15 - i % 16) * (2 * 2 ^ (i % 16)):=by
   rw[bS 2,<-bG,<-dT,show 15 - i % 16+i % 16=15 by omega];decide
  have u:=cH q d;rw[f];generalize (2:Int) ^ (15 - i % 16)=A at *;generalize (2:Int) ^ (i % 16)=B at *;generalize q % A=r at *;have v:(r+1) * (2 * B)<=A * (2 * B):=bF aa  aa
  rw[dc] at v;omega
 refine⟨?_,x⟩
 have r:=yi (MA 8 (q * 2 ^ (i+1))) (i / 16) (v:=lU (q * 2 ^ (i+1)) (i / 16)+2 ^ (i % 16)) aa x
 have u:=rh (mc 8 (q * 2 ^ (i+1))) (i / 16) (lU (q * 2 ^ (i+1)) (i / 16)+2 ^ (i % 16)) aa
 rw[s,Co t aa,show lU (q * 2 ^ (i+1)) (i / 16)+2 ^ (i % 16) - lU (q * 2 ^ (i+1)) (i / 16)=2 ^ (i % 16) by omega,z] at u
 have y:=o9 _ r;rw[u,bD,g] at y;exact y
structure lZ(X d:Int)(i:Nat)(q left:Int):Prop where
 e:X / 2 ^ i=q * d+left
 q0:0<=q
 l0:0<=left
 l1:left<d
def lZ.bit(h:lZ X d (i+1) q left):X / 2 ^ i=2 * q * d+(2 * left+X / 2 ^ i % 2):=by
 have z:X / 2 ^ (i+1)=X / 2 ^ i / 2:=by rw[ch,cS (by have:=mG i;omega)]
 have y:=h.e;rw[z] at y;have x:2 * q * d=2 * (q * d):=bG ..;omega
def lZ.yes(h:lZ X d (i+1) q left)(x:d<=2 * left+X / 2 ^ i % 2):lZ X d i (2 * q+1) (2 * left+X / 2 ^ i % 2 - d):=by
 have z:=h.bit;have:=h.q0;have:=h.l0;have:=h.l1;have y:(2 * q+1) * d=2 * q * d+d:=by rw[dc,ek]
 exact⟨by omega,aa,aa,aa⟩
def lZ.no(h:lZ X d (i+1) q left)(y:2 * left+X / 2 ^ i % 2<d):lZ X d i (2 * q) (2 * left+X / 2 ^ i % 2):=by
 have z:=h.bit;have:=h.q0;have:=h.l0;exact⟨by omega,aa,aa,aa⟩
def lZ.start(X d:Int)(y:0<=X)(x:X<340282366920938463463374607431768211456)(z:0<d):lZ X d 128 0 0:=by
 refine⟨?_,aa,aa,z⟩
 rw[eZ y aa]
 omega
def lZ.fin(h:lZ X d 0 q left):q=X / d/\left=X % d:=by
 have z:=h.e;simp at z
 have x:=Int.ediv_emod_unique (a:=X) (b:=d) (r:=left) (q:=q) (by have:=h.l0;have:=h.l1;omega)
 have y:=x.2 ⟨by rw[z,bS];omega,h.l0,h.l1⟩
 exact⟨y.1.symm,y.2.symm⟩
def lZ.small(h:lZ X d i q left)(t:0<=X)(s:X<340282366920938463463374607431768211456)(y:0<d):q * 2 ^ i+2 ^ i<=340282366920938463463374607431768211456+2 ^ i/\q * 2 ^ i<340282366920938463463374607431768211456:=by
 have p:=mG i;have x:q * 1<=q * d:=bH aa h.q0
 have z:q<=X / 2 ^ i:=by have:=h.e;have:=h.l0;omega
 have v:q * 2 ^ i<=X / 2 ^ i * 2 ^ i:=bF z aa
 have u:=fy X (show(2:Int) ^ i≠0 by omega)
 omega
def Ji(X:Int)(j m:Nat):X / 65536 ^ j % 65536 ^ (m+1)=65536 * (X / 65536 ^ (j+1) % 65536 ^ m)+lU X j:=by
 have x:=o_ X j;have v:=lh X j;have p:=mF m;rw[x];generalize X / 65536 ^ (j+1)=y;generalize lU X j=d at *;have u:=cC y (65536 ^ m);have t:=di y (show(65536:Int) ^ m≠0 by omega)
 have s:=cH y p;generalize y % 65536 ^ m=r at *;generalize y / 65536 ^ m=k at *;have z:y * 65536+d=(65536 * r+d)+65536 ^ (m+1) * k:=by
  have:(65536:Int) ^ (m+1) * k=65536 ^ m * k * 65536:=by rw[ch,bG,bS 65536,<-bG]
  omega
 rw[z,eG,Int.emod_eq_of_lt aa (by rw[ch];omega)]
def Mj(w:World)(v:Value)(k:Nat)(X:Int):Prop:=∃g,v=.slice (some ⟨g,0,none⟩) k k/\l9 w g 36 .u64 (mc k X)
def Mj.keep{w w':World}{v:Value}(h:Mj w v k X)(z:aq w w'):Mj w' v k X:=let ⟨g,x,y⟩:=h;⟨g,x,y.keep z⟩
def tW(n:Int)(w:World)(y:0<=n)(x:n<18446744073709551616) :
 ar Oe 314 #[.int .u64 n] w λe z=>∃v,e=.returned v/\Mj z v 4 n/\aq w z:=by
 go_in
 go_wp2
 go_ret;refine⟨_,rfl,⟨w.heap.size,rfl,?_⟩,bw⟩
 have:mc 4 n=[n % 65536,n / 65536 % 65536,n / 4294967296 % 65536,n / 281474976710656]:=by simp only[mc,List.cons.injEq,and_true,true_and];omega
 rw[l9,this];exact gN.new w _ _
def Jj(u v:Value)(X Y:Int)(w:World)(y:Mj w u 8 X)(x:Mj w v 8 Y)(a:0<=X)(R:X<340282366920938463463374607431768211456)(V:0<=Y)(Q:Y<340282366920938463463374607431768211456) :
 ar Oe 315 #[u,v] w (aw w (.int .i64 (yg X Y))):=by
 obtain⟨U,rfl,y⟩:=y;obtain⟨T,rfl,x⟩:=x;have z:=ay (show X / 65536 ^ 8=Y / 65536 ^ 8 by rw[eZ a aa,eZ V aa])
 have r:=ay y;have q:=ay x;clear y x
 go_in
 go_wp2
 go_loopg [5] 8 (λk i wr=>(k<=8/\i=.int .i64 ((k:Int) - 1)/\Hid (X / 65536 ^ k=Y / 65536 ^ k)/\aq w wr))
 exact⟨by omega,rfl,z,aC _ _⟩
 case round=>
  obtain⟨S,rfl,z,y⟩:=hrel
  rcases bh gk with x|x
  ·subst x
   go_wp2
   go_ret;have:=z.o;simp at this
   exact⟨ie (by unfold yg;rw[aH this]),y⟩
  ·obtain⟨j,rfl⟩:∃j,gk=j+1:=⟨gk - 1,aa⟩
   have f:(((j+1:Nat):Int) - 1)=(j:Int):=aa
   rw[f];have p:=(r.o.keep y).cell (j:=j) (by rw[jE];omega)
   have g:=(q.o.keep y).cell (j:=j) (by rw[jE];omega)
   rw[mw _ _ _ aa] at p g
   by_cases d:lU X j<lU Y j
   ·go_wp2
    go_quiet (fail)
    go_wp2
    go_ret;have t:=zC z.o d;exact⟨ie (by unfold yg;rw[aG aa,aH t]),bw⟩
   ·by_cases c:lU Y j<lU X j
    ·go_wp2
     go_quiet (fail)
     go_wp2
     go_quiet (fail)
     go_wp2
     go_ret;have t:=zC z.o.symm c;exact⟨ie (by unfold yg;rw[aG aa,aG aa]),bw⟩
    ·have s:=ay (Jg z.o (show lU X j=lU Y j by omega))
     go_wp2
     go_quiet (fail)
     go_wp2
     go_quiet (fail)
     go_wp2
     go_roundg j
     exact⟨by omega,rfl,s,bw⟩
     omega
def tX(a b:Int)(w:World)(f:0<=a)(d:a<18446744073709551616)(Y:0<=b)(X:b<18446744073709551616) :
 ar Oe 228 #[.int .u64 a,.int .u64 b] w λe U=>∃v,e=.returned v/\Mj U v 8 (a * b)/\aq w U:=by
 have D:∀W:World,(Instr.makeSlice 270 (.int .i64 8) (.int .i64 8)).run prog W=.ok (.slice (some ⟨W.heap.size,0,none⟩) 8 8) (W.alloc (.cells ((List.replicate 8 (0:Int)).map (Value.int .u64)).toArray 36)):=λ_=>by kernel_rfl
 obtain⟨N,y⟩:=au (List.replicate 8 (0:Int));have z:=n_.start a b;rw[y] at z D;have M:=ay z;clear z y
 go_in
 go_upto_region 2 with(first|(go_at_call_of 314 (Value.int .u64 a);refine(tW a _ f d).mono ?_;rintro e w1 ⟨v1,rfl,z,v⟩;have t:=ay z;clear z)|(refine(tW b _ Y X).mono ?_;rintro e x ⟨v2,rfl,z,u⟩;have s:=ay z;clear z))
 obtain⟨W,rfl,z⟩:=t.o.keep u;obtain⟨h,rfl,y⟩:=s.o;have A:=z.lt;have o:=y.lt;have S:=ay z;have R:=ay y;have E:=nx u (by have:=v.size;omega) v
 have hz0:=E.size;clear z y t s v u
 go_wp2
 go_loopg [8] 4 (λk i wr=>∃(m:Nat) (l:List Int),k=4 - m/\m<=4/\i=.int .i64 m/\n_ a b m l/\l9 wr x.heap.size 36 .u64 l/\aq x wr)
 exact⟨0,N,rfl,aa,rfl,M.o,gN.new _ _ _,bw⟩
 case round=>
  obtain⟨m,l,v,hm,rfl,s,z,t⟩:=hrel;obtain⟨T,rfl⟩:∃T:World,T=wr:=⟨_,rfl⟩;have Q:=ay v;have g:=ay z;clear z v
  by_cases V:m<4
  ·have O:=ay s.into
   clear s
   go_wp2
   go_loopg [9,10] 4 (λk c i wr=>∃(q:Nat) (p:Int) (l:List Int),k=4 - q/\q<=4/\c=.int .u64 p/\i=.int .i64 q/\tV a b m q p l/\l9 wr x.heap.size 36 .u64 l/\aq x wr)
   exact⟨0,0,l,rfl,aa,rfl,rfl,O.o,g.o,t⟩
   case round=>
    obtain⟨q,p,l,v,i,rfl,rfl,y,z,t⟩:=hrel;have P:=ay v;clear v;have c:=y.len
    by_cases B:q<4
    ·have I:=z.cell (j:=m+q) (by omega)
     have F:=z.frozen (m+q);have H:=(S.o.below t A).cell (j:=m) (by rw[jE];omega)
     have G:=(R.o.below t o).cell (j:=q) (by rw[jE];omega)
     rw[mw _ _ _ aa] at H G
     have J:=tU y.ok (m+q);have n:=wO (lh a m).1 (lh a m).2 (lh b q).1 (lh b q).2;have L:=y.c0;have K:=y.c1;have u:=ay (y.next B V);have r:=ay z;have k:=u.o.c0;clear y z c;have C:((m:Int)+(q:Int))<8:=aa
     go_wp2_with fail
     go_quiet (fail)
     go_wp2
     go_roundg (4 - (q+1))
     exact⟨q+1,_,_,rfl,aa,rfl,ag,u.o,(r.o.drewN _).gR _ _,bw⟩
     have:=P.o;omega
    ·have H:q=4:=aa
     subst H;have u:=ay (y.o V Y X);have I:=z.cell (j:=m+4) (by omega)
     have F:=z.frozen (m+4);have J:=tU y.ok (m+4);have L:=y.c0;have K:=y.c1;have r:=ay z;clear y z c;have C:((m:Int)+4)<8:=aa
     go_wp2
     go_roundg (4 - (m+1))
     exact⟨m+1,_,rfl,aa,ag,u.o,r.o.gR _ _,bw⟩
     have:=Q.o;omega
  ·have u:m=4:=aa
   subst u;have y:=ay (s.fin f d);clear s
   go_wp2
   go_ret;exact⟨_,rfl,⟨x.heap.size,rfl,by rw[<-y.o];exact g.o⟩,bw⟩
def Jk(v:Value)(X d:Int)(w:World)(F:Mj w v 8 X)(c:0<=X)(b:X<340282366920938463463374607431768211456)(r:0<d)(l:d<18446744073709551616) :
 ar Oe 227 #[v,.int .u64 d] w λe P=>∃v,e=.returned (.tuple #[v,.int .u64 (X % d)])/\Mj P v 8 (X / d)/\aq w P:=by
 have G:∀W:World,(Instr.makeSlice 270 (.int .i64 8) (.int .i64 8)).run prog W=.ok (.slice (some ⟨W.heap.size,0,none⟩) 8 8) (W.alloc (.cells ((mc 8 0).map (Value.int .u64)).toArray 36)):=λ_=>by kernel_rfl
 obtain⟨C,z⟩:=au (mc 8 0);rw[z] at G;have M:=ay z;clear z;obtain⟨o,rfl,z⟩:=F;have E:=z.lt;have O:=ay z;clear z
 go_in
 go_wp2
 go_loopg [7,8] 128 (λk z i wr=>∃(q y:Int),k<=128/\z=.int .u64 y/\i=.int .i64 ((k:Int) - 1)/\lZ X d k q y/\l9 wr w.heap.size 36 .u64 (mc 8 (q * 2 ^ k))/\aq w wr)
 exact⟨0,0,aa,rfl,rfl,lZ.start X d c b r,by rw[Int.zero_mul,M.o];exact gN.new _ _ _,bw⟩
 case round=>
  obtain⟨q,y,n,rfl,rfl,z,x,R⟩:=hrel;have W:=z.l0;have i:=z.l1
  rcases bh gk with S|S
  ·subst S
   have u:=ay x;have t:=ay z.fin;clear x z
   go_wp2
   go_ret2
   refine⟨_,by rw[<-t.o.2];rfl,⟨w.heap.size,rfl,?_⟩,R⟩
   rw[<-t.o.1]
   simpa using u.o
  ·obtain⟨j,rfl⟩:∃j,gk=j+1:=⟨gk - 1,aa⟩
   have I:(((j+1:Nat):Int) - 1)=(j:Int):=aa
   rw[I];have J:=(O.o.below R E).cell (j:=j / 16) (by rw[jE];omega)
   rw[mw _ _ _ aa] at J
   have L:=lh X (j / 16);have p:=mG (j % 16);have s:=yj X j;have B:0<=X / 2 ^ j % 2/\X / 2 ^ j % 2<=1:=aa
   have h:0<=lU X (j / 16) / 2 ^ (j % 16):=cP L.1 aa
   obtain⟨YW,YX⟩:=z.small c b r;have D:=z.q0;have K:=x.cell (j:=j / 16) (by rw[jE];omega)
   rw[mw _ _ _ aa] at K
   have m:=x.frozen (j / 16);have A:=lh (q * 2 ^ (j+1)) (j / 16);have u:=ay x;have a:=ay z;have V:Hid (2 * q * 2 ^ j=q * 2 ^ (j+1)):=by show _=_;rw[ch,bS 2 q,bG,bS 2]
   have t:Hid ((2 * q+1) * 2 ^ j=q * 2 ^ (j+1)+2 ^ j):=by show _=_;rw[dc,ek,V.o]
   clear x z
   by_cases H:d<=2 * y+X / 2 ^ j % 2
   ·have f:=a.o.yes H
    have g:=f.small c b r;obtain⟨Q,k⟩:=Jh q j aa D (by rw[t.o] at g;exact g.2)
    have U:=ay f;have Y:=ay Q;have T:IntKind.u64.wrap (IntKind.u64.wrap (IntKind.u64.wrap (2 * y)+X / 2 ^ j % 2) - d)=2 * y+X / 2 ^ j % 2 - d:=by simp only[g_];omega
    have N:=ay T;clear T f g Q s
    by_cases g:9223372036854775808<=y
    ·have s:=yj X j
     go_wp2
     go_roundg j
     exact⟨2 * q+1,_,aa,bq (Value.int IntKind.u64) N.o,rfl,U.o,by rw[t.o,<-Y.o];exact u.o.gR _ _,bw⟩
     omega
    ·have s:=yj X j
     go_wp2
     go_roundg j
     exact⟨2 * q+1,_,aa,rfl,rfl,U.o,by rw[t.o,<-Y.o];exact u.o.gR _ _,bw⟩
     omega
   ·have g:=a.o.no aa
    have f:=ay g;clear g
    go_wp2
    go_roundg j
    exact⟨2 * q,_,aa,rfl,rfl,f.o,by rw[V.o];exact u.o,bw⟩
    omega
def tY(v:Value)(X:Int)(y:Nat)(f:Int)(w:World)(b:Mj w v 8 X)(c:f=(y:Int))(R:y<=4) :
 ar Oe 229 #[v,.int .i64 f] w (aw w (.int .u64 (X / 65536 ^ y % 18446744073709551616))):=by
 subst c;obtain⟨S,rfl,z⟩:=b;have a:=z.lt;have t:=ay z;clear z
 go_in
 go_wp2
 go_loopg [5,6] 4 (λk n i wr=>k<=4/\n=.int .u64 (X / 65536 ^ (y+k) % 65536 ^ (4 - k))/\i=.int .i64 ((y:Int)+(k:Int) - 1)/\aq w wr)
 exact⟨by omega,by simp[gG],by congr 1;omega,aC _ _⟩
 case round=>
  obtain⟨O,rfl,rfl,d⟩:=hrel
  rcases bh gk with u|u
  ·subst u
   go_wp2
   go_ret;exact⟨rfl,bw⟩
  ·obtain⟨j,rfl⟩:∃j,gk=j+1:=⟨gk - 1,aa⟩
   have g:((y:Int)+((j+1:Nat):Int) - 1)=((y+j:Nat):Int):=aa
   rw[g];have q:=(t.o.below d a).cell (j:=y+j) (by rw[jE];omega)
   rw[mw _ _ _ aa] at q
   have T:=lh X (y+j);have s:=ay (Ji X (y+j) (3 - j));have p:=mF (4 - (j+1));have Y:0<=X / 65536 ^ (y+(j+1)) % 65536 ^ (4 - (j+1)):=di _ aa
   have V:X / 65536 ^ (y+(j+1)) % 65536 ^ (4 - (j+1))<281474976710656:=by
    have z:=cH (X / 65536 ^ (y+(j+1))) p;have x:(65536:Int) ^ (4 - (j+1))<=281474976710656:=by
     have:j=0\/j=1\/j=2\/j=3:=aa
     rcases this with rfl|rfl|rfl|rfl<;>decide
    omega
   obtain⟨z,x⟩:=au (X / 65536 ^ (y+(j+1)) % 65536 ^ (4 - (j+1)));rw[x] at Y V |-;have r:=ay x;have Q:(((y+j:Nat):Int))<8:=aa
   have P:(((y+j:Nat):Int))=(y:Int)+(j:Int):=aa
   clear x p
   go_wp2
   go_roundg j
   exact⟨by omega,bq (Value.int IntKind.u64) (by rw[show 4 - j=3 - j+1 by omega,s.o,<-r.o,show 4 - (j+1)=3 - j by omega,cX]),by congr 1;try omega,bw⟩
   omega
def lJ(a b d:Int)(w:World)(y:0<=a)(x:a<18446744073709551616)(v:0<=b)(u:b<18446744073709551616)(p:0<d)(g:d<18446744073709551616)(S:a * b / d<18446744073709551616) :
 ar Oe 142 #[.int .u64 a,.int .u64 b,.int .u64 d] w (aw w (.tuple #[.int .u64 (a * b / d),.int .u64 (a * b % d),.bool true])):=by
 obtain⟨s,Y⟩:=pJ y x v u;have T:(d == 0)=false:=af
 have O:0<=a * b / d:=cP s aa
 go_in
 go_wp2_with fail;refine(tX a b _ y x v u).mono ?_
 rintro e N ⟨X,rfl,z,f⟩;have q:=ay z;have R:=f.size;clear z
 go_wp2_with fail;refine(Jk X (a * b) d _ q.o s Y p g).mono ?_
 rintro e M ⟨r,rfl,t,c⟩;have z:=ay t;have Q:=c.size;clear t
 go_wp2_with fail;refine(tY r (a * b / d) 4 4 _ z.o rfl aa).mono ?_
 rw[show a * b / d / 65536 ^ 4 % 18446744073709551616=0 by omega]
 rintro e L ⟨rfl,t⟩;have P:=t.size
 go_wp2_with fail;refine(tY r (a * b / d) 0 0 _ (z.o.keep t) rfl aa).mono ?_
 rw[show a * b / d / 65536 ^ 0 % 18446744073709551616=a * b / d by rw[Int.pow_zero,Int.ediv_one];omega]
 rintro e K ⟨rfl,U⟩
 go_wp2
 go_ret3
 exact⟨rfl,bw⟩
def mH(a b d:Int)(w:World)(z:0<=a)(x:a<18446744073709551616)(v:0<=b)(u:b<=d)(y:0<d)(t:d<18446744073709551616) :
 ar Oe 142 #[.int .u64 a,.int .u64 b,.int .u64 d] w (aw w (.tuple #[.int .u64 (a * b / d),.int .u64 (a * b % d),.bool true])):=
 lJ a b d w z x v aa y t (ck y (by have:a * b<=a * d:=bH u z;have:a * d<=18446744073709551615 * d:=bF aa  aa ;omega))
def ri(y z:Int)(w:World) :
 ar Oe 141 #[.int .u64 y,.int .u64 z] w λe v=>e=.returned (.int .i64 (if z=0\/z<y then 7 else 0))/\w=v:=by
 by_cases h:z=0\/z<y
 ·rw[aH h]
  have x:((z == 0) || decide (z<y))=true:=by simpa using h
  go_in
  go_wp2
  all_goals (go_ret;exact⟨rfl,rfl⟩)
 ·rw[aG h]
  have x:(z == 0)=false:=af
  go_in
  go_wp2
  all_goals (go_ret;exact⟨rfl,rfl⟩)
def zD(y z n:Int)(w:World)(r:0<=y)(q:y<18446744073709551616)(c:0<=z)(p:z<18446744073709551616)(X:0<=n)(V:n<18446744073709551616) :
 ar Oe 70 #[.int .u64 y,.int .u64 z,.int .u64 n] w (aw w (.tuple #[.int .u64 (jD y z n).1,.int .i64 (jD y z n).2])):=by
 unfold jD;have x:=ay (ri y z w)
 by_cases h:z=0\/z<y
 ·rw[aH h] at x |-
  go_in
  go_wp2_with (first|(go_at_call 141;refine(x.o).mono ?_;rintro e v ⟨rfl,rfl⟩))
  all_goals (go_ret2;exact⟨rfl,bw⟩)
 ·rw[aG h] at x |-
  by_cases u:n=0
  ·rw[aH u]
   subst u
   go_in
   go_wp2_with (first|(go_at_call 141;refine(x.o).mono ?_;rintro e v ⟨rfl,rfl⟩))
   all_goals (go_ret2;exact⟨rfl,bw⟩)
  ·rw[aG u]
   have Y:(n == 0)=false:=af
   clear u
   by_cases t:4611686018427387904<n
   ·rw[aH t]
    go_in
    go_wp2_with (first|(go_at_call 141;refine(x.o).mono ?_;rintro e v ⟨rfl,rfl⟩))
    all_goals (go_ret2;exact⟨rfl,bw⟩)
   ·rw[aG t]
    have f:=ay (show 2 * n * y / z=y * (2 * n) / z by rw[bS])
    have g:y * (2 * n) / z<18446744073709551616:=ck aa (by
     have s:y * (2 * n)<=z * (2 * n):=bF aa  aa
     have d:z * (2 * n)<=z * 18446744073709551615:=bH aa  aa
     omega)
    rw[f.o]
    go_in
    go_wp2_with (first|(go_at_call 141;refine(x.o).mono ?_;rintro e v ⟨rfl,rfl⟩)|(go_at_call 142;refine(lJ y (2 * n) z _ r q aa  aa  aa p g).mono ?_;rintro e U ⟨rfl,s⟩;have⟨b,a⟩:=oW s;have d:=s.size;try simp only[aI,bW,cW,World.hN] at d))
    all_goals (go_ret2;exact⟨rfl,bw⟩)
section
variable{n v:Int}{a b l:List Int}{p:Int × List Int}
def lj:Nat->Int->List Int
 | 0,n=>[n]
 | k+1,n=>if 127<n then(n % 128+128)::lj k (n / 128) else [n]
def hZ(n:Int):List Int:=lj 9 n
def qs(v:Int):Int:=if 0<=v then 2 * v else -2 * v - 1
def wm(n:Int):Int:=if n % 2=0 then n / 2 else -(n / 2) - 1
def zg(v:Int):List Int:=hZ (qs v)
def qB(z:-9223372036854775808<=v)(y:v<=9223372036854775807):0<=qs v/\qs v<18446744073709551616:=by
 unfold qs;split<;>omega
def MC(v:Int):wm (qs v)=v:=by
 unfold wm qs;(repeat' split)<;>omega
def OT(z:0<=n)(y:n<18446744073709551616):-9223372036854775808<=wm n/\wm n<=9223372036854775807:=by
 unfold wm;split<;>omega
def tZ:∀(k:Nat) (n:Int),1<=ao (lj k n)/\ao (lj k n)<=k+1
 | 0,n=>by simp[lj]
 | k+1,n=>by
  unfold lj
  split
  ·have:=tZ k (n / 128);simp only[aJ];omega
  ·simp
def gS(n:Int):1<=ao (hZ n)/\ao (hZ n)<=10:=tZ 9 n
def oc(l:List Int):Prop:=∀b∈l,0<=b/\b<=255
def oc.append(h:oc a)(k:oc b):oc (a++b):=λx z=>(cV.1 z).elim (h x) (k x)
def oc.drop(h:oc a)(k:Nat):oc (a.drop k):=λx z=>h x (cu z)
def EC:∀(k:Nat) (n:Int),0<=n->n<2 * 128 ^ k->oc (lj k n)
 | 0,n,h0,h1=>λb z=>by simp only[lj,ct] at z;subst z;simp at h1;omega
 | k+1,n,h0,h1=>by
  unfold lj
  split
  ·intro b z
   rcases aS.1 z with rfl|z
   ·omega
   ·refine EC k (n / 128) aa ?_ b z
    exact ck aa (by rw[bG,<-ch];exact h1)
  ·intro b z;simp only[ct] at z;subst z;omega
def r'(z:0<=n)(y:n<18446744073709551616):oc (hZ n):=EC 9 n z aa
def tw:Nat->List Int->Option (Int × List Int)
 | 0,_=>none
 | _+1,[]=>none
 | k+1,x::r=>
  if k=0/\1<x then none
  else if 127<x then(tw k r).map (λp=>(x - 128+128 * p.1,p.2))
  else if x=0/\k<9 then none else some (x,r)
def iH(l:List Int):Option (Int × List Int):=tw 10 l
def ED(r:List Int):∀(k:Nat) (n:Int),0<=n->n<2 * 128 ^ k->(n=0->9<=k)->tw (k+1) (lj k n++r)=some (n,r)
 | 0,n,h0,h1,h2=>by
  have z:n=1:=by simp at h1;omega
  subst z;simp[lj,tw]
 | k+1,n,h0,h1,h2=>by
  unfold lj
  split
  ·rename_i h
   have z:n / 128<2 * 128 ^ k:=ck aa (by rw[bG,<-ch];exact h1)
   have y:=ED r k (n / 128) aa z aa
   rw[b8,tw,aG aa,aH aa,y]
   simp only[ee,aW,fM,and_true];omega
  ·rename_i h
   rw[b8,tw,aG aa,aG aa,aG aa]
   rfl
def nB(z:0<=n)(y:n<18446744073709551616)(r:List Int):iH (hZ n++r)=some (n,r):=ED r 9 n z aa (λ_=>aD _)
def EE:∀(k:Nat) (l:List Int) (p:Int × List Int),tw k l=some p->ao p.2<ao l/\∃j,p.2=l.drop j
 | 0,_,_,h=>by simp[tw] at h
 | k+1,[],_,h=>by simp[tw] at h
 | k+1,x::r,p,h=>by
  unfold tw at h
  split at h
  ·cases h
  ·split at h
   ·cases hu:tw k r with
    | none=>rw[hu] at h;simp at h
    | some q=>
     rw[hu] at h;simp only[ee,aW] at h;obtain⟨y,j,z⟩:=EE k r q hu;subst h;exact⟨by simp only[aJ];omega,j+1,by simpa using z⟩
   ·split at h
    ·cases h
    ·simp only[aW] at h
     subst h;exact⟨by simp,1,ad⟩
def Jl:∀(k:Nat) (l:List Int) (p:Int × List Int),oc l->tw (k+1) l=some p->0<=p.1/\p.1<2 * 128 ^ k
 | _,[],_,_,h=>by simp[tw] at h
 | 0,x::r,p,hb,h=>by
  have z:=hb x (aK ..);rw[tw] at h
  split at h
  ·cases h
  ·split at h
   ·simp[tw] at h
   ·split at h
    ·cases h
    ·simp only[aW] at h
     subst h;simp;omega
 | k+1,x::r,p,hb,h=>by
  have z:=hb x (aK ..);have u:(0:Int)<128 ^ k:=dH aa
  rw[tw] at h
  split at h
  ·cases h
  ·split at h
   ·cases hu:tw (k+1) r with
    | none=>rw[hu] at h;simp at h
    | some q=>
     rw[hu] at h;simp only[ee,aW] at h;have:=Jl k r q (λy v=>hb y (aP _ v)) hu
     subst h;rw[ch];simp only;omega
   ·split at h
    ·cases h
    ·simp only[aW] at h
     subst h;rw[ch];simp only;omega
def lK(z:oc l)(h:iH l=some p):0<=p.1/\p.1<18446744073709551616:=by
 have:=Jl 9 l p z h;omega
def sd(h:iH l=some p):ao p.2<ao l/\∃j,p.2=l.drop j:=EE 10 l p h
def ub(v:Int):Int:=v % 18446744073709551616
def Gn{q:Int}(z:-9223372036854775808<=q)(y:q<=v)(x:v<=9223372036854775807):wrap64 ((ub q+(v - q)) % 18446744073709551616)=v:=by
 unfold ub wrap64;omega
def wP(z:∃j,a=l.drop j)(y:∃j,b=a.drop j):∃j,b=l.drop j:=by
 obtain⟨i,rfl⟩:=z;obtain⟨j,rfl⟩:=y;exact⟨i+j,by rw[dU]⟩
end
section
section
variable{t:TypeId}{base g:Nat}{w w':World}{v:Value}{bs l:List Int}
def Oj(x:Int)(z:0<=x)(y:x<=255):bits .or .u8 x 128=x % 128+128:=by
 have h:∀n:Fin 256,bits .or .u8 ((n.val:Nat):Int) 128=((n.val:Nat):Int) % 128+128:=aj
 obtain⟨n,rfl⟩:=bL z;exact h ⟨n,aa⟩
def OU(x:Int)(z:0<=x)(y:x<=255):bits .and .u8 x 127=x % 128:=by
 have h:∀n:Fin 256,bits .and .u8 ((n.val:Nat):Int) 127=((n.val:Nat):Int) % 128:=aj
 obtain⟨n,rfl⟩:=bL z;exact h ⟨n,aa⟩
def QS:(prog.info? 5).map (λi=>(i.zero,i.size,i.bytes))=some (some (.int .u8 0),1,1):=by kernel_rfl
def gT.lift{k:IntKind}{base':Nat}(h:gT t k base w v l)(s:∀g,v.ownBlock=some g->base'<=g):gT t k base' w v l:=by
 obtain⟨u,z⟩:=h;refine⟨u,?_⟩
 rcases z with z|⟨g,y,x,rfl,q,r⟩
 ·exact .inl z
 ·exact .inr ⟨g,y,x,rfl,s g rfl,r⟩
def OwnB(base:Nat)(w:World)(v:Value)(l:List Int):Prop:=gT 5 .u8 base w v l
def jO{ops:Array Oper}{rest:List Oper}{o:Oper}{a:Act}{Q:Exit->Act->World->Prop}(b:o.guard=none)(s x:Operand)
 (X:o.op=.call {callee:=.builtin .append,args:=#[s,x],argTypes:=#[37,37]})
 (r:Nat) (v:Value) (xs:List Int) (U:a.eval s=v) (V:OwnB r w v xs)
 (u:Value) (y:List Int) (T:a.eval x=u) (q:jf .u8 w u y)
 (N:ao xs+ao y<=1099511627776) (d:r<=w.heap.size)
 (h:∀z t,OwnB r t z (xs++y)->w.grownBy t v.ownBlock->(z.ownBlock=v.ownBlock\/z.ownBlock=some w.heap.size)->wpList prog ops Q rest (a.put o.dst z) t):wpList prog ops Q (o::rest) a w:=by
 obtain⟨O,Y,S,R,P⟩:=cx QS;obtain⟨A,c,rfl,_,_,_⟩:=q.form;refine jv w b s x 37 X r 5 O _ 1 1 underlying37 Y S R P rfl aa v (ao xs) (xs.map (Value.int .u8)) U V A (ao y) c (y.map (Value.int .u8)) T q (EB _ _)
  (by unfold maxLen;omega) aa d λz t p g f=>h z t ?_ g f
 unfold OwnB gT;rw[aE,eh];exact p
def Wr(t:TypeId)(base:Nat)(w:World)(g:Nat)(bs:List Int):Prop:=base<=g/\∃v,gN w g t #[v]/\OwnB base w v bs
def gN.t_{t b:Nat}{cs:Array Value}(h:gN w g t cs)(x:OwnB b w v l)(u:t≠5):v.ownBlock≠some g:=by
 intro e
 rcases x.2 with y|⟨f,s,q,rfl,p,z,r⟩
 ·rw[y.1] at e;cases e
 ·cases e
  unfold gN at h;rw[h] at z
  cases z
  exact u rfl
def OwnB.far(h:OwnB base w v l){p:Addr}(y:v.ownBlock≠some p.block)(u:Value):OwnB base (w.setCell p u) v l:=
 gT.stay h λg z=>bl w p u g (λe=>y (by rw[z,e]))
def Wr.put{v':Value}(x:t≠5)(u:base<=g)(h:gN w g t #[v])(r:OwnB base w v bs){bs':List Int}(y:OwnB base w' v' bs')(s:w.grownBy w' v.ownBlock) :
 Wr t base (w'.setCell ⟨g,0,none⟩ v') g bs':=by
 have z:gN w' g t #[v]:=(s.block g h.lt (λe=>h.t_ r x e.symm)).trans h
 exact⟨u,v',z.gR 0 v',y.far (λe=>z.t_ y x e) _⟩
def Wr.lt{t:TypeId}{base:Nat}{w:World}{g:Nat}{bs:List Int}(h:Wr t base w g bs):base<=g/\g<w.heap.size:=by
 obtain⟨z,v,y,_⟩:=h;exact⟨z,y.lt⟩
def Wr.keep(h:Wr t base w g bs)(z:aq w w'):Wr t base w' g bs:=by
 obtain⟨y,v,x,u⟩:=h;exact⟨y,v,x.keep z,gT.keep u z⟩
def pN(k:Nat)(n:Int)(h:127<n):lj (k+1) n=(n % 128+128)::lj k (n / 128):=by rw[lj,aH h]
def pO(k:Nat)(n:Int)(h:¬127<n):lj k n=[n]:=by
 cases k with
 | zero=>rfl
 | succ k=>rw[lj,aG h]
def lL(g y:Nat)(n s:Int)(bs:List Int)(w:World)(h:Wr 373 y w g bs)(F:0<=n)(o:n<18446744073709551616)(C:ao bs<=1000000000000) :
 ar Oe 405 #[.pointer (some ⟨g,0,none⟩),.int .u64 n,.int .i64 s] w λe O=>e=.returned (.tuple #[])/\Wr 373 y O g (bs++hZ n)/\Below y w O:=by
 have H:=ay h;have A:=h.lt;clear h
 go_in
 go_wp2
 go_loopg [1] 9 (λk v wr=>∃(m:Int) (z:List Int),k<=9/\v=.int .u64 m/\0<=m/\m<2 * 128 ^ k/\ao z<=9 - k/\Hid (z++lj k m=hZ n)/\Hid (Wr 373 y wr g (bs++z))/\Below y w wr)
 exact⟨n,[],aa,rfl,F,aa,ad,ay rfl,by rw[bT];exact H,aC _ _⟩
 case round=>
  obtain⟨m,z,c,rfl,l,P,D,S,I,U⟩:=hrel;obtain⟨T,v,x,r⟩:=I.o;have u:=ay x;have t:=ay r;have L:=x.k0;have B:=x.lt;have R:ao (bs++z)+1<=1099511627776:=by rw[aE];omega
  clear x r
  by_cases Q:127<m
  ·obtain⟨q,rfl⟩:∃q,gk=q+1:=by
    rcases bh gk with x|x
    ·subst x;simp at P;omega
    ·exact⟨gk - 1,aa⟩
   have j:m<18446744073709551616:=by
    have r:(2:Int) * 128 ^ (q+1)<=2 * 128 ^ 9:=by
     have:(128:Int) ^ (q+1)<=128 ^ 9:=by
      have x:(128:Nat) ^ (q+1)<=128 ^ 9:=bJ aa  aa
      exact_mod_cast x
     omega
    omega
   have X:=ay (pN q m Q);have J:m / 128<2 * 128 ^ q:=ck aa (by rw[bG,<-ch];exact P)
   have W:=Oj (m % 256) aa  aa
   go_wp2_with (first
    | (at_builtin
       go_must (refine jO rfl (.tmp 12) (.tmp 16) rfl y v (bs++z) rfl (gT.alloc t.o _) _ [m % 128+128] rfl (jf.hJ _ _ _ _ _ rfl) R (by simp only[aI];omega) ?_)
       intro E d p x a;obtain⟨M,G,f,_,_,_⟩:=(gT.rd p).form;generalize ao (bs++z++[m % 128+128])=N at f;subst f;have V:Below y w d:=(U.alloc aa _).grown x (by simp only[aI];omega) (λk c=>(gT.lt t.o k c).1)
       have b:=ay (Wr.put ab T (u.o.alloc _) (gT.alloc t.o _) p x)
       have r:gN d g 373 #[v]:=(x.block g (u.o.alloc _).lt (λe=>u.o.t_ t.o ab e.symm)).trans (u.o.alloc _)
       have Y:=r.k0;have K:=r.frozen 0;clear p x a r))
   go_roundg q
   exact⟨m / 128,z++[m % 128+128],aa,rfl,aa,J,af,by show _=_;rw[aO,<-S.o,X.o];rfl,by rw[<-aO];exact b,V.setCell aa _⟩
   omega
  ·have X:=ay (pO gk m Q)
   go_wp2_with (first
    | (at_builtin
       go_must (refine jO rfl (.tmp 26) (.tmp 29) rfl y v (bs++z) rfl (gT.alloc t.o _) _ [m] rfl (jf.hJ _ _ _ _ _ rfl) R (by simp only[aI];omega) ?_)
       intro E d p x a;obtain⟨M,G,f,_,_,_⟩:=(gT.rd p).form;generalize ao (bs++z++[m])=N at f;subst f;have V:Below y w d:=(U.alloc aa _).grown x (by simp only[aI];omega) (λk c=>(gT.lt t.o k c).1)
       have b:=ay (Wr.put ab T (u.o.alloc _) (gT.alloc t.o _) p x)
       have r:gN d g 373 #[v]:=(x.block g (u.o.alloc _).lt (λe=>u.o.t_ t.o ab e.symm)).trans (u.o.alloc _)
       have Y:=r.k0;have K:=r.frozen 0;clear p x a r))
   refine cp (v:=.tuple #[]) (by simp[results,Tryz.results405,go_sem, *];try rfl) rfl ?_
   exact⟨rfl,by rw[<-S.o,X.o,<-aO];exact b.o,V.setCell aa _⟩
end
section
def nC:Nat->Int
 | 0=>98|1=>104|2=>72|3=>119|4=>87|5=>113|6=>81|7=>118|8=>122|_=>110
def Cp:Nat->Int
 | 0=>1|1=>2|2=>2|3=>4|4=>4|5=>8|6=>8|_=>0
def mY:Nat->Nat
 | 0=>401|1=>401|2=>403|3=>401|4=>403|5=>401|6=>403|7=>405|8=>407|_=>409
def se:Nat->Nat
 | 0=>402|1=>402|2=>404|3=>402|4=>404|5=>402|6=>404|7=>406|8=>408|_=>410
def OV(k:Nat):Value:=.func (.func k) #[] #[]
def QT(j:Nat):List Value:=[.int .u8 (nC j),.int .i64 (Cp j),OV (mY j),OV (se j)]
def jF:Array Value:=([0,1,2,3,4,5,6,7,8,9].flatMap QT).toArray
def sf(j:Nat)(h:j<10):jF[j * 4]?=some (.int .u8 (nC j))/\jF[j * 4+1]?=some (.int .i64 (Cp j))/\jF[j * 4+2]?=some (OV (mY j))/\jF[j * 4+3]?=some (OV (se j)):=by
 have:j=0\/j=1\/j=2\/j=3\/j=4\/j=5\/j=6\/j=7\/j=8\/j=9:=aa
 rcases this with rfl|rfl|rfl|rfl|rfl|rfl|rfl|rfl|rfl|rfl<;>exact⟨rfl,rfl,rfl,rfl⟩
def wQ(w:World):ar Oe 352 #[] w (aw w (.agg jF)):=by
 have y:(#[.int .u8 98,.int .i64 1,.func (.func 401) #[] #[],.func (.func 402) #[] #[],.int .u8 104,.int .i64 2,.func (.func 401) #[] #[],.func (.func 402) #[] #[],.int .u8 72,.int .i64 2,.func (.func 403) #[] #[],.func (.func 404) #[] #[],.int .u8 119,.int .i64 4,.func (.func 401) #[] #[],.func (.func 402) #[] #[],.int .u8 87,.int .i64 4,.func (.func 403) #[] #[],.func (.func 404) #[] #[],.int .u8 113,.int .i64 8,.func (.func 401) #[] #[],.func (.func 402) #[] #[],.int .u8 81,.int .i64 8,.func (.func 403) #[] #[],.func (.func 404) #[] #[],.int .u8 118,.int .i64 0,.func (.func 405) #[] #[],.func (.func 406) #[] #[],.int .u8 122,.int .i64 0,.func (.func 407) #[] #[],.func (.func 408) #[] #[],.int .u8 110,.int .i64 0,.func (.func 409) #[] #[],.func (.func 410) #[] #[]]:Array Value)=jF:=by kernel_rfl
 go_in
 go_wp2_with (refine wpList_store_row rfl 447 (.tmp 0) (.tmp 11) rfl w.heap.size _ rfl rfl 447 _ (cm _ _) (by as_aux_lemma=>kernel_rfl) (by as_aux_lemma=>kernel_rfl) (by as_aux_lemma=>kernel_rfl) ?_)
 refine bodyPost_ret (v:=.agg jF) (results_cell_row (p:=0) (ty:=447) (by kernel_rfl) _ _ w.heap.size 447 jF (0,0) _ rfl (setRow_heap _ _ _ _ _ _ (cm _ _)) underlying447 rfl (by kernel_rfl)) rfl ?_
 exact⟨rfl,below_setRow ((aC _ _).alloc (aD _) _) (aD _) _⟩
end
section
def zE(a b c:Int)(f g:Nat)(r:Bool)(h:Nat)(w:World)(x:w.cell? ⟨h,0,none⟩=some (.int .u8 c))(z:(a == c)=r) :
 ar Oe 354 #[.agg #[.int .u8 a,.int .i64 b,.func (.func f) #[] #[],.func (.func g) #[] #[]],.pointer (some ⟨h,0,none⟩)] w (aw w (.bool r)):=by
 have u:h<w.heap.size:=bV _ _ x;have y:=ay z;clear z
 go_in
 go_wp2
 go_ret;exact⟨nw y.o,bw⟩
def ua(k:Nat)(c:Int)(G h:Nat)(w:World)(H:k<10)(z:gN w G 447 jF)(y:w.cell? ⟨h,0,none⟩=some (.int .u8 c))(t:∀j,j<k->(nC j == c)=false)(u:(nC k == c)=true) :
 ar Oe 353 #[.slice (some ⟨G,0,none⟩) 10 10,.func (.func 354) #[] #[.pointer (some ⟨h,0,none⟩)]] w (aw w (.int .i64 k)):=by
 have K:∀x w,(callFunc 354 x).run prog w=.ok (.enter 354 x) w:=λ_ _=>rfl
 have O:h<w.heap.size:=bV _ _ y;have V:=ay z;have Y:=ay y;have U:=ay t;have X:=ay u;have P:=z.lt;clear z y t u
 go_in
 go_wp2
 go_loopg [8] (10) (λq i wr=>∃j:Nat,q=10 - j/\j<=k/\i=.int .i64 j/\aq w wr)
 exact⟨0,rfl,bB _,rfl,aC _ _⟩
 case round=>
  obtain⟨j,y,J,rfl,z⟩:=hrel;have T:=ay y;have q:=z.size;clear y;obtain⟨u,g,f,d⟩:=sf j aa
  have B:=V.o.below z P;have M:=(B.cell (j * 4)).trans u;have L:=(B.cell (j * 4+1)).trans g;have S:=(B.cell (j * 4+2)).trans f;have R:=(B.cell (j * 4+3)).trans d;have y:=(z.cell (p:=⟨h,0,none⟩) O).trans Y.o;have t:=ay y;unfold OV at S R;have I:(j:Int)<10:=aa
  have N:∀r,(nC j == c)=r->Hid ((nC j == c)=r):=λr h=>ay h
  have s:=λv b r (x:v.cell? ⟨h,0,none⟩=some (.int .u8 c)) (Q:(nC j == c)=r)=>ay (zE (nC j) b c (mY j) (se j) r h v x Q)
  clear u g f d B y
  rcases bg j k with x|x
  ·have u:=ay (U.o j x)
   generalize nC j=a at *;generalize Cp j=b at *;generalize mY j=p at *;generalize se j=g at *
   go_wp2_with (go_at_fn 354;refine((s _ _ _ t.o u.o).o).mono ?_;rintro e d ⟨rfl,y⟩;have f:=y.size)
   go_roundg (10 - (j+1))
   exact⟨j+1,rfl,aa,ag,z.trans (y.mono q)⟩
   have:=T.o;omega
  ·obtain rfl:k=j:=aa
   have u:=X;generalize nC k=a at *;generalize Cp k=b at *;generalize mY k=p at *;generalize se k=g at *
   go_wp2_with (go_at_fn 354;refine((s _ _ _ t.o u.o).o).mono ?_;rintro e d ⟨rfl,y⟩;have f:=y.size)
   go_ret;exact⟨rfl,z.trans (y.mono q)⟩
end
section
structure VZ(k:Nat)(c:Int):Prop where
 e:c=nC k
 lt:k<10
 no:∀j,j<k->(nC j == c)=false
 yes:(nC k == c)=true
 Sn:Cp k=0
def Jm(j:Nat)(h:j<7):(nC j == 118)=false:=by
 have:j=0\/j=1\/j=2\/j=3\/j=4\/j=5\/j=6:=aa
 rcases this with rfl|rfl|rfl|rfl|rfl|rfl|rfl<;>decide
def Jn(j:Nat)(h:j<8):(nC j == 122)=false:=by
 have:j=0\/j=1\/j=2\/j=3\/j=4\/j=5\/j=6\/j=7:=aa
 rcases this with rfl|rfl|rfl|rfl|rfl|rfl|rfl|rfl<;>decide
def Gp:VZ 7 118:=⟨rfl,aa,Jm,ab,rfl⟩
def QU:VZ 8 122:=⟨rfl,aa,Jn,ab,rfl⟩
def jZ(k:Nat)(c:Int)(w:World)(h:VZ k c) :
 ar Oe 276 #[.int .u8 c] w (aw w (.tuple #[.agg #[.int .u8 c,.int .i64 0,.func (.func (mY k)) #[] #[],.func (.func (se k)) #[] #[]],.bool true])):=by
 have H:=ay h;have X:=h.lt;have N:(k:Int)<10:=aa
 clear h
 go_in
 go_wp2_with fail;refine(wQ _).mono ?_
 rintro e z ⟨rfl,v⟩;have P:=v.size;simp only[aI] at P;have f:Hid (z.cell? ⟨w.heap.size,0,none⟩=some (.int .u8 c)):=by
  refine(v.cell (p:=⟨w.heap.size,0,none⟩) (by show w.heap.size<_;simp only[aI];omega)).trans ?_
  refine(((aC (w.alloc (.cells #[.int .u8 c] 5)).heap.size (w.alloc (.cells #[.int .u8 c] 5))).alloc (aD _) _).cell (p:=⟨w.heap.size,0,none⟩) (by show w.heap.size<_;simp only[aI];omega)).trans ?_
  simp[bU]
 have Q:w.heap.size<z.heap.size:=aa
 have d:Hid (gN z (w.heap.size+1) 377 #[.int .u8 0,.int .i64 0,Value.nilFunc,Value.nilFunc]):=by
  have h:=(gN.new (w.alloc (.cells #[.int .u8 c] 5)) 377 #[.int .u8 0,.int .i64 0,Value.nilFunc,Value.nilFunc]).keep v
  rwa [aI] at h
 go_wp2_with (refine wpList_store_row rfl 447 (.tmp 4) (.tmp 6) rfl z.heap.size jF rfl rfl 447 _ (cm _ _) (by as_aux_lemma=>kernel_rfl) (by as_aux_lemma=>kernel_rfl) (by as_aux_lemma=>kernel_rfl) ?_)
 have g:=setRow_heap _ _ _ jF _ _ (cm z (Obj.cells
  #[Value.int IntKind.u8 0,Value.int IntKind.i64 0,Value.nilFunc,Value.nilFunc,Value.int IntKind.u8 0,
   Value.int IntKind.i64 0,Value.nilFunc,Value.nilFunc,Value.int IntKind.u8 0,Value.int IntKind.i64 0,
   Value.nilFunc,Value.nilFunc,Value.int IntKind.u8 0,Value.int IntKind.i64 0,Value.nilFunc,
   Value.nilFunc,Value.int IntKind.u8 0,Value.int IntKind.i64 0,Value.nilFunc,Value.nilFunc,
   Value.int IntKind.u8 0,Value.int IntKind.i64 0,Value.nilFunc,Value.nilFunc,Value.int IntKind.u8 0,
   Value.int IntKind.i64 0,Value.nilFunc,Value.nilFunc,Value.int IntKind.u8 0,Value.int IntKind.i64 0,
   Value.nilFunc,Value.nilFunc,Value.int IntKind.u8 0,Value.int IntKind.i64 0,Value.nilFunc,
   Value.nilFunc,Value.int IntKind.u8 0,Value.int IntKind.i64 0,Value.nilFunc,Value.nilFunc]
  447))
 have r:=below_setRow ((aC z.heap.size z).alloc (aD _) (Obj.cells
  #[Value.int IntKind.u8 0,Value.int IntKind.i64 0,Value.nilFunc,Value.nilFunc,Value.int IntKind.u8 0,
   Value.int IntKind.i64 0,Value.nilFunc,Value.nilFunc,Value.int IntKind.u8 0,Value.int IntKind.i64 0,
   Value.nilFunc,Value.nilFunc,Value.int IntKind.u8 0,Value.int IntKind.i64 0,Value.nilFunc,
   Value.nilFunc,Value.int IntKind.u8 0,Value.int IntKind.i64 0,Value.nilFunc,Value.nilFunc,
   Value.int IntKind.u8 0,Value.int IntKind.i64 0,Value.nilFunc,Value.nilFunc,Value.int IntKind.u8 0,
   Value.int IntKind.i64 0,Value.nilFunc,Value.nilFunc,Value.int IntKind.u8 0,Value.int IntKind.i64 0,
   Value.nilFunc,Value.nilFunc,Value.int IntKind.u8 0,Value.int IntKind.i64 0,Value.nilFunc,
   Value.nilFunc,Value.int IntKind.u8 0,Value.int IntKind.i64 0,Value.nilFunc,Value.nilFunc]
  447)) (aD z.heap.size) jF
 generalize (z.alloc (Obj.cells
  #[Value.int IntKind.u8 0,Value.int IntKind.i64 0,Value.nilFunc,Value.nilFunc,Value.int IntKind.u8 0,
   Value.int IntKind.i64 0,Value.nilFunc,Value.nilFunc,Value.int IntKind.u8 0,Value.int IntKind.i64 0,
   Value.nilFunc,Value.nilFunc,Value.int IntKind.u8 0,Value.int IntKind.i64 0,Value.nilFunc,
   Value.nilFunc,Value.int IntKind.u8 0,Value.int IntKind.i64 0,Value.nilFunc,Value.nilFunc,
   Value.int IntKind.u8 0,Value.int IntKind.i64 0,Value.nilFunc,Value.nilFunc,Value.int IntKind.u8 0,
   Value.int IntKind.i64 0,Value.nilFunc,Value.nilFunc,Value.int IntKind.u8 0,Value.int IntKind.i64 0,
   Value.nilFunc,Value.nilFunc,Value.int IntKind.u8 0,Value.int IntKind.i64 0,Value.nilFunc,
   Value.nilFunc,Value.int IntKind.u8 0,Value.int IntKind.i64 0,Value.nilFunc,Value.nilFunc]
  447)).setRow z.heap.size jF=V at *
 have x:Hid (gN V z.heap.size 447 jF):=ay g;have L:=x.o.lt;refine(ua k c z.heap.size w.heap.size V X x.o ((r.cell (p:=⟨w.heap.size,0,none⟩) Q).trans f.o) H.o.no H.o.yes).mono ?_
 rintro e u ⟨rfl,q⟩;have y:=x.o.keep q;obtain⟨U,T,S,R⟩:=sf k X;have a:=(y.cell (k * 4)).trans U;have Y:=(y.cell (k * 4+1)).trans T;have t:=(y.cell (k * 4+2)).trans S;have s:=(y.cell (k * 4+3)).trans R;unfold OV at t s;rw[<-H.o.e] at a;rw[H.o.Sn] at Y;have b:Hid (gN u (w.heap.size+1) 377 #[.int .u8 0,.int .i64 0,Value.nilFunc,Value.nilFunc]):=(d.o.below r aa).below q aa
 have M:decide ((k:Int)<0)=false:=cj aa
 clear g y U T S R f d x;have T:(prog.info? 377).map (·.size)=some 4:=by kernel_rfl
 obtain⟨x,f⟩:=au (mY k);obtain⟨y,g⟩:=au (se k);rw[f] at t;rw[g] at s;have U:=ay f;have d:=ay g;clear f g
 go_wp2_with ((refine wpList_store_row rfl 377 (.tmp 2) (.tmp 15) rfl (w.heap.size+1) #[.int .u8 c,.int .i64 0,.func (.func x) #[] #[],.func (.func y) #[] #[]] rfl rfl 377 _ b.o T rfl (by simp[Value.oneCell']) ?_))
 have g:gN (u.setRow (w.heap.size+1) #[.int .u8 c,.int .i64 0,.func (.func x) #[] #[],.func (.func y) #[] #[]]) (w.heap.size+1) 377 #[.int .u8 c,.int .i64 0,.func (.func x) #[] #[],.func (.func y) #[] #[]]:=setRow_heap _ _ _ _ _ _ b.o;have f:aq w (u.setRow (w.heap.size+1) #[.int .u8 c,.int .i64 0,.func (.func x) #[] #[],.func (.func y) #[] #[]]):=by
  refine below_setRow ?_ aa _
  exact((((((aC _ _).alloc (aD _) _).alloc ad _).trans (v.mono (by simp only[aI];omega))).trans (r.mono aa)).trans (q.mono aa))
 generalize u.setRow (w.heap.size+1) #[.int .u8 c,.int .i64 0,.func (.func x) #[] #[],.func (.func y) #[] #[]]=I at *;obtain⟨S,R,K,J⟩:=g.c4;clear a Y t s g
 go_wp2;refine an ?_
 exact⟨by rw[U.o,d.o],f⟩
def ud(k:Nat)(c:UInt8)(w:World)(h:VZ k (c.toNat:Int)) :
 ar Oe 275 #[.string ⟨#[c]⟩] w (aw w (.bool true)):=by
 have H:=ay h;clear h
 go_in
 go_wp2
 go_loopg [11] 1 (λq i wr=>∃j:Nat,q=1 - j/\j<=1/\i=.int .i64 j/\aq w wr)
 exact⟨0,rfl,aa,rfl,aC _ _⟩
 case round=>
  obtain⟨j,y,u,rfl,z⟩:=hrel;have x:=ay y;have s:=z.size;clear y
  by_cases t:j<1
  ·obtain rfl:j=0:=aa
   go_wp2_with (go_at_call 276;refine(jZ k (c.toNat:Int) _ H.o).mono ?_;rintro e q ⟨rfl,y⟩;have r:=y.size)
   go_roundg 0
   exact⟨1,rfl,aa,ag,bw⟩
   have:=x.o;omega
  ·go_wp2
   go_ret;exact⟨rfl,z⟩
end
end
end Go.Proofs.YtdicblkhpcphfaaGreat
