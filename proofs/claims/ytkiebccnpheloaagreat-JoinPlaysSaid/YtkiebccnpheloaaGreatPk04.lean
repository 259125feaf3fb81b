/- Parts of a proof: what its theorem reaches, words cut short. No condition of its own. -/
import Derived.Test.YtkiebccnpheloaaGreatPk02
set_option maxRecDepth 100000
set_option maxHeartbeats 16000000
set_option linter.unusedVariables false
set_option linter.unusedSimpArgs false
namespace Go.Proofs.YtkiebccnpheloaaGreat
open Go.RowKit
def mJ(n:Int)(j:Nat):Int:=n / 65536 ^ j % 65536
def sH:List Int->Int
 | []=>0
 | d::l=>d+65536 * sH l
def nz:Nat->Int->List Int
 | 0,_=>[]
 | k+1,n=>n % 65536::nz k (n / 65536)
def okD(l:List Int):Prop:=∀d∈l,0<=d/\d<65536
theorem nY(j:Nat):(0:Int)<65536 ^ j:=Int.pow_pos ae
theorem jT(n:Int)(j:Nat):0<=mJ n j/\mJ n j<65536:=⟨Int.emod_nonneg _ ae,Int.emod_lt_of_pos _ ae⟩
theorem Wh(n:Int):mJ n 0=n % 65536:=by simp[mJ]
theorem Wi(n:Int)(j:Nat):mJ n (j+1)=mJ (n / 65536) j:=by
 unfold mJ;rw[Int.pow_succ,Int.mul_comm,<-Int.ediv_ediv_of_nonneg ae]
theorem jd(k:Nat):∀n,(nz k n).length=k:=by
 induction k with
 | zero=>intro n;rfl
 | succ k ih=>intro n;simp[nz,ih]
theorem Wj(k:Nat):∀(n:Int) (j:Nat),j<k->(nz k n)[j]?=some (mJ n j):=by
 induction k with
 | zero=>intro n j h;omega
 | succ k ih=>
  intro n j h
  cases j with
  | zero=>simp[nz,Wh]
  | succ j=>simp only[nz,aG];rw[ih _ _ ae,Wi]
theorem nO(k:Nat)(n:Int)(j:Nat)(h:j<k):(nz k n)[j]?.getD 0=mJ n j:=by
 rw[Wj k n j h];rfl
theorem ZV(k:Nat):∀n,okD (nz k n):=by
 induction k with
 | zero=>intro n d h;cases h
 | succ k ih=>
  intro n d h
  rcases a_.1 h with rfl|h
  ·exact⟨Int.emod_nonneg _ ae,Int.emod_lt_of_pos _ ae⟩
  ·exact ih _ d h
theorem Wl(k:Nat):∀n,0<=n->n<65536 ^ k->sH (nz k n)=n:=by
 induction k with
 | zero=>intro n h0 h1;simp at h1;simp[nz,sH];omega
 | succ k ih=>
  intro n h0 h1;have h2:n / 65536<65536 ^ k:=Int.ediv_lt_of_lt_mul ae (by rw[<-Int.pow_succ];exact h1)
  simp only[nz,sH];rw[ih _ ae h2]
  omega
theorem sJ:∀l,okD l->l=nz l.length (sH l)
 | [],_=>rfl
 | d::l,h=>by
  have h1:=sJ l (fun x hx=>h x (aV _ hx))
  have h2:=h d (aQ ..);simp only[aP,nz,sH];rw[show(d+65536 * sH l) % 65536=d by omega,show(d+65536 * sH l) / 65536=sH l by omega,<-h1]
theorem xm:∀(l:List Int) (j:Nat) (v:Int),j<l.length->sH (l.set j v)=sH l+(v - l[j]?.getD 0) * 65536 ^ j
 | [],j,v,h=>by simp at h
 | d::l,0,v,_=>by simp[sH];omega
 | d::l,j+1,v,h=>by
  have:=xm l j v (by simpa using h)
  simp only[List.set_cons_succ,sH,this,aG,Int.pow_succ];rw[Int.mul_comm (65536 ^ j) 65536,<-bV,Int.mul_comm _ 65536,bV];omega
theorem Hz{l:List Int}(h:okD l)(j:Nat){v:Int}(h0:0<=v)(h1:v<65536):okD (l.set j v):=by
 intro d hd
 rcases List.mem_or_eq_of_mem_set hd with hd|rfl
 ·exact h d hd
 ·exact⟨h0,h1⟩
theorem Bz{l:List Int}(h:okD l)(j:Nat):0<=l[j]?.getD 0/\l[j]?.getD 0<65536:=by
 cases hj:l[j]? with
 | none=>simp
 | some d=>simpa using h d (List.mem_of_getElem? hj)
structure BC(a b:Int)(i k:Nat)(carry:Int)(l:List Int):Prop where
 len:l.length=8
 ok:okD l
 c0:0<=carry
 c1:carry<65536
 e:sH l+carry * 65536 ^ (i+k)=(a % 65536 ^ i) * b+mJ a i * 65536 ^ i * (b % 65536 ^ k)
 z:∀j,i+4<=j->l[j]?.getD 0=0
structure qP(a b:Int)(i:Nat)(l:List Int):Prop where
 len:l.length=8
 ok:okD l
 e:sH l=(a % 65536 ^ i) * b
 z:∀j,i+4<=j->l[j]?.getD 0=0
theorem FK(a:Int)(i:Nat):a % 65536 ^ (i+1)=a % 65536 ^ i+mJ a i * 65536 ^ i:=by
 have p:=nY i;have h1:=Int.mul_ediv_add_emod a (65536 ^ i);have h2:=Int.mul_ediv_add_emod a (65536 ^ (i+1));have h3:a / 65536 ^ (i+1)=a / 65536 ^ i / 65536:=by rw[Int.pow_succ,Int.ediv_ediv_of_nonneg ae]
 have h4:=Int.mul_ediv_add_emod (a / 65536 ^ i) 65536;unfold mJ;rw[h3,Int.pow_succ] at h2;generalize a / 65536 ^ i % 65536=m at *;generalize a / 65536 ^ i / 65536=k at *;have h5:(65536:Int) ^ i * 65536 * k=65536 ^ i * (65536 * k):=by rw[bV]
 have h6:(65536:Int) ^ i * (65536 * k+m)=65536 ^ i * (65536 * k)+m * 65536 ^ i:=by rw[Int.mul_add,Int.mul_comm m]
 rw[<-h4,h6] at h1;rw[Int.pow_succ];omega
theorem qP.start(a b:Int):qP a b 0 (List.replicate 8 0):=by
 refine⟨rfl,fun d h=>?_,?_,fun j _=>?_⟩
 ·have:=List.eq_of_mem_replicate h;omega
 ·simp[sH,List.replicate,Int.emod_one]
 ·rw[List.getElem?_replicate];split<;>rfl
theorem qP.into{a b:Int}{i:Nat}{l:List Int}(h:qP a b i l):BC a b i 0 0 l:=
 ⟨h.len,h.ok,ae,ae,by rw[h.e];simp[Int.emod_one],h.z⟩
theorem FM{x y:Int}(x0:0<=x)(x1:x<65536)(y0:0<=y)(y1:y<65536):0<=x * y/\x * y<=4294836225:=by
 have h1:x * y<=65535 * y:=Int.mul_le_mul_of_nonneg_right ae y0
 exact⟨Int.mul_nonneg x0 y0,ae⟩
theorem BC.next{a b:Int}{i k:Nat}{carry:Int}{l:List Int}(h:BC a b i k carry l)(hk:k<4)(hi:i<4) :
 BC a b i (k+1) ((l[i+k]?.getD 0+mJ a i * mJ b k+carry) / 65536) (l.set (i+k) ((l[i+k]?.getD 0+mJ a i * mJ b k+carry) % 65536)):=by
 obtain⟨len,ok,c0,c1,e,z⟩:=h;have hd:=Bz ok (i+k);have hm:=FM (jT a i).1 (jT a i).2 (jT b k).1 (jT b k).2;have hs:=xm l (i+k) ((l[i+k]?.getD 0+mJ a i * mJ b k+carry) % 65536) ae
 refine⟨by simp[len],Hz ok _ ae  ae,ae,ae,?_,fun j hj=>?_⟩
 ·rw[hs,FK b k]
  have e1:(65536:Int) ^ (i+(k+1))=65536 ^ (i+k) * 65536:=by rw[<-Nat.add_assoc,Int.pow_succ]
  have e2:(65536:Int) ^ (i+k)=65536 ^ i * 65536 ^ k:=Int.pow_add ..;have e3:mJ a i * 65536 ^ i * (b % 65536 ^ k+mJ b k * 65536 ^ k)=mJ a i * 65536 ^ i * (b % 65536 ^ k)+mJ a i * mJ b k * 65536 ^ (i+k):=by
   rw[Int.mul_add,e2]
   congr 1
   rw[bV,Int.mul_left_comm (65536 ^ i),bV]
  rw[e1,e3];generalize l[i+k]?.getD 0=u at *;generalize mJ a i * mJ b k=m at *;generalize (65536:Int) ^ (i+k)=P at *;generalize hn:u+m+carry=n at *;have h4:n / 65536 * (P * 65536)=n / 65536 * 65536 * P:=by rw[Int.mul_comm P,bV]
  have h5:(n % 65536 - u) * P+n / 65536 * 65536 * P=(m+carry) * P:=by
   rw[<-Int.add_mul];congr 1;omega
  have h6:(m+carry) * P=m * P+carry * P:=Int.add_mul ..;omega
 ·rw[List.getElem?_set_ne ae]
  exact z j hj
theorem BC.out{a b:Int}{i:Nat}{carry:Int}{l:List Int}(h:BC a b i 4 carry l)(hi:i<4)(b0:0<=b)(b1:b<18446744073709551616) :
 qP a b (i+1) (l.set (i+4) (l[i+4]?.getD 0+carry)):=by
 obtain⟨len,ok,c0,c1,e,z⟩:=h;have hz:=z (i+4) ae
 have hs:=xm l (i+4) (l[i+4]?.getD 0+carry) ae
 rw[hz] at hs |-;refine⟨by simp[len],Hz ok _ ae  ae,?_,fun j hj=>?_⟩
 ·rw[show b % 65536 ^ 4=b by omega] at e
  rw[hs,FK a i,Int.add_mul];generalize (65536:Int) ^ (i+4)=P at *;have:(0+carry - 0) * P=carry * P:=by congr 1;omega
  omega
 ·rw[List.getElem?_set_ne ae]
  exact z j ae
theorem qP.fin{a b:Int}{l:List Int}(h:qP a b 4 l)(a0:0<=a)(a1:a<18446744073709551616):l=nz 8 (a * b):=by
 have h1:=sJ l h.ok;rw[h.len,h.e,show a % 65536 ^ 4=a by omega] at h1
 exact h1
theorem sK(X:Int)(i:Nat):X / 65536 ^ i=X / 65536 ^ (i+1) * 65536+mJ X i:=by
 unfold mJ;rw[Int.pow_succ,<-Int.ediv_ediv_of_nonneg (by have:=nY i;omega)]
 omega
theorem Wn{X Y:Int}{i:Nat}(h:X / 65536 ^ (i+1)=Y / 65536 ^ (i+1))(hd:mJ X i=mJ Y i):X / 65536 ^ i=Y / 65536 ^ i:=by
 rw[sK X,sK Y,h,hd]
theorem Jw{X Y:Int}{i:Nat}(h:X / 65536 ^ (i+1)=Y / 65536 ^ (i+1))(hd:mJ X i<mJ Y i):X<Y:=by
 have h1:X / 65536 ^ i<Y / 65536 ^ i:=by rw[sK X,sK Y,h];omega
 rcases Int.lt_or_le X Y with h2|h2
 ·exact h2
 ·have:=Int.ediv_le_ediv (nY i) h2
  omega
theorem NJ{X:Int}(h0:0<=X)(h1:X<340282366920938463463374607431768211456):sH (nz 8 X)=X:=Wl 8 X h0 ae
theorem kD(i:Nat):(0:Int)<2 ^ i:=Int.pow_pos ae
theorem H6(X:Int)(i:Nat):mJ X (i / 16) / 2 ^ (i % 16) % 2=X / 2 ^ i % 2:=by
 unfold mJ;have e1:(65536:Int) ^ (i / 16) * 2 ^ (i % 16)=2 ^ i:=by
  rw[show(65536:Int)=2 ^ 16 by decide,<-Int.pow_mul,<-Int.pow_add,show 16 * (i / 16)+i % 16=i by omega]
 rw[<-e1,<-Int.ediv_ediv_of_nonneg (by have:=nY (i / 16);omega)]
 generalize X / 65536 ^ (i / 16)=y;have e2:(65536:Int)=2 ^ (i % 16) * (2 * 2 ^ (15 - i % 16)):=by
  rw[<-bV,Int.mul_comm _ 2,bV,<-Int.pow_add,show i % 16+(15 - i % 16)=15 by omega];decide
 have p:=kD (i % 16);have q:=kD (15 - i % 16);have h1:=Int.mul_ediv_add_emod y 65536;generalize y % 65536=m at *;generalize hk:y / 65536=k at *;clear hk;rw[<-h1];have h2:65536 * k+m=m+2 ^ (i % 16) * (2 * (2 ^ (15 - i % 16) * k)):=by
  have:(2:Int) ^ (i % 16) * (2 * (2 ^ (15 - i % 16) * k))=2 ^ (i % 16) * (2 * 2 ^ (15 - i % 16)) * k:=by
   rw[bV,bV]
  rw[this,<-e2];omega
 rw[h2,Int.add_mul_ediv_left _ _ ae]
 omega
theorem Wp(q:Int)(i:Nat)(hi:i<128)(q0:0<=q)(q1:q * 2 ^ (i+1)+2 ^ i<340282366920938463463374607431768211456) :
 (nz 8 (q * 2 ^ (i+1))).set (i / 16) (mJ (q * 2 ^ (i+1)) (i / 16)+2 ^ (i % 16))=nz 8 (q * 2 ^ (i+1)+2 ^ i)/\mJ (q * 2 ^ (i+1)) (i / 16)+2 ^ (i % 16)<65536:=by
 have pi:=kD i;have pi1:=kD (i+1);have Q0:0<=q * 2 ^ (i+1):=Int.mul_nonneg q0 ae
 have hl:=jd 8 (q * 2 ^ (i+1));have hg:=nO 8 (q * 2 ^ (i+1)) (i / 16) ae
 have hbd:=jT (q * 2 ^ (i+1)) (i / 16);have p:=kD (i % 16);have pq:=kD (15 - i % 16);have e1:(2:Int) ^ (i % 16) * 65536 ^ (i / 16)=2 ^ i:=by
  rw[show(65536:Int)=2 ^ 16 by decide,<-Int.pow_mul,<-Int.pow_add,show i % 16+16 * (i / 16)=i by omega]
 -- the digit is a multiple of twice the bit
 have hm:mJ (q * 2 ^ (i+1)) (i / 16)=(q % 2 ^ (15 - i % 16)) * (2 * 2 ^ (i % 16)):=by
  unfold mJ;have e3:q * 2 ^ (i+1)=(q * (2 * 2 ^ (i % 16))) * 65536 ^ (i / 16):=by
   rw[Int.pow_succ,<-e1,bV,bV,Int.mul_comm 2,bV,Int.mul_comm 2]
  have e4:(65536:Int)=2 ^ (15 - i % 16) * (2 * 2 ^ (i % 16)):=by
   rw[Int.mul_comm 2,<-bV,<-Int.pow_add,show 15 - i % 16+i % 16=15 by omega];decide
  rw[e3,Int.mul_ediv_cancel _ (by have:=nY (i / 16);omega)]
  generalize (2:Int) ^ (15 - i % 16)=A at *;generalize (2:Int) ^ (i % 16)=B at *;rw[e4,Int.mul_comm q,Int.mul_comm A,Int.mul_emod_mul_of_pos _ _ ae,Int.mul_comm]
 have hlt:mJ (q * 2 ^ (i+1)) (i / 16)+2 ^ (i % 16)<65536:=by
  have e4:(65536:Int)=2 ^ (15 - i % 16) * (2 * 2 ^ (i % 16)):=by
   rw[Int.mul_comm 2,<-bV,<-Int.pow_add,show 15 - i % 16+i % 16=15 by omega];decide
  have h1:=Int.emod_lt_of_pos q pq;rw[hm];generalize (2:Int) ^ (15 - i % 16)=A at *;generalize (2:Int) ^ (i % 16)=B at *;generalize q % A=r at *;have h2:(r+1) * (2 * B)<=A * (2 * B):=Int.mul_le_mul_of_nonneg_right ae  ae
  rw[Int.add_mul] at h2;omega
 refine⟨?_,hlt⟩
 have hok:=Hz (ZV 8 (q * 2 ^ (i+1))) (i / 16) (v:=mJ (q * 2 ^ (i+1)) (i / 16)+2 ^ (i % 16)) ae hlt
 have hv:=xm (nz 8 (q * 2 ^ (i+1))) (i / 16) (mJ (q * 2 ^ (i+1)) (i / 16)+2 ^ (i % 16)) ae
 rw[hg,NJ Q0 ae,show mJ (q * 2 ^ (i+1)) (i / 16)+2 ^ (i % 16) - mJ (q * 2 ^ (i+1)) (i / 16)=2 ^ (i % 16) by omega,e1] at hv
 have hu:=sJ _ hok;rw[hv,bU,hl] at hu;exact hu
structure mW(X d:Int)(i:Nat)(q left:Int):Prop where
 e:X / 2 ^ i=q * d+left
 q0:0<=q
 l0:0<=left
 l1:left<d
theorem mW.bit{X d:Int}{i:Nat}{q left:Int}(h:mW X d (i+1) q left):X / 2 ^ i=2 * q * d+(2 * left+X / 2 ^ i % 2):=by
 have h1:X / 2 ^ (i+1)=X / 2 ^ i / 2:=by rw[Int.pow_succ,Int.ediv_ediv_of_nonneg (by have:=kD i;omega)]
 have h2:=h.e;rw[h1] at h2;have h3:2 * q * d=2 * (q * d):=bV ..;omega
theorem mW.yes{X d:Int}{i:Nat}{q left:Int}(h:mW X d (i+1) q left)(hd:d<=2 * left+X / 2 ^ i % 2):mW X d i (2 * q+1) (2 * left+X / 2 ^ i % 2 - d):=by
 have h1:=h.bit;have:=h.q0;have:=h.l0;have:=h.l1;have h2:(2 * q+1) * d=2 * q * d+d:=by rw[Int.add_mul,Int.one_mul]
 exact⟨by omega,ae,ae,ae⟩
theorem mW.no{X d:Int}{i:Nat}{q left:Int}(h:mW X d (i+1) q left)(hd:2 * left+X / 2 ^ i % 2<d):mW X d i (2 * q) (2 * left+X / 2 ^ i % 2):=by
 have h1:=h.bit;have:=h.q0;have:=h.l0;exact⟨by omega,ae,ae,ae⟩
theorem mW.start(X d:Int)(x0:0<=X)(x1:X<340282366920938463463374607431768211456)(d0:0<d):mW X d 128 0 0:=by
 refine⟨?_,ae,ae,d0⟩
 rw[Int.ediv_eq_zero_of_lt x0 ae]
 omega
theorem mW.fin{X d:Int}{q left:Int}(h:mW X d 0 q left):q=X / d/\left=X % d:=by
 have h1:=h.e;simp at h1
 have h2:=Int.ediv_emod_unique (a:=X) (b:=d) (r:=left) (q:=q) (by have:=h.l0;have:=h.l1;omega)
 have h3:=h2.2 ⟨by rw[h1,Int.mul_comm];omega,h.l0,h.l1⟩
 exact⟨h3.1.symm,h3.2.symm⟩
theorem mW.small{X d:Int}{i:Nat}{q left:Int}(h:mW X d i q left)(x0:0<=X)(x1:X<340282366920938463463374607431768211456)(d0:0<d):q * 2 ^ i+2 ^ i<=340282366920938463463374607431768211456+2 ^ i/\q * 2 ^ i<340282366920938463463374607431768211456:=by
 have p:=kD i;have h1:q * 1<=q * d:=Int.mul_le_mul_of_nonneg_left ae h.q0
 have h2:q<=X / 2 ^ i:=by have:=h.e;have:=h.l0;omega
 have h3:q * 2 ^ i<=X / 2 ^ i * 2 ^ i:=Int.mul_le_mul_of_nonneg_right h2 ae
 have h4:=Int.ediv_mul_le X (show(2:Int) ^ i≠0 by omega)
 omega
theorem Wq(X:Int)(j m:Nat):X / 65536 ^ j % 65536 ^ (m+1)=65536 * (X / 65536 ^ (j+1) % 65536 ^ m)+mJ X j:=by
 have h1:=sK X j;have h2:=jT X j;have p:=nY m;rw[h1];generalize X / 65536 ^ (j+1)=y;generalize mJ X j=d at *;have h3:=Int.mul_ediv_add_emod y (65536 ^ m);have h4:=Int.emod_nonneg y (show(65536:Int) ^ m≠0 by omega)
 have h5:=Int.emod_lt_of_pos y p;generalize y % 65536 ^ m=r at *;generalize y / 65536 ^ m=k at *;have e1:y * 65536+d=(65536 * r+d)+65536 ^ (m+1) * k:=by
  have:(65536:Int) ^ (m+1) * k=65536 ^ m * k * 65536:=by rw[Int.pow_succ,bV,Int.mul_comm 65536,<-bV]
  omega
 rw[e1,Int.add_mul_emod_self_left,Int.emod_eq_of_lt ae (by rw[Int.pow_succ];omega)]
open Go.RowKit Go.Lib
def Zz(w:World)(v:Value)(k:Nat)(X:Int):Prop:=∃g,v=.slice (some ⟨g,0,none⟩) k k/\m_ w g 53 .u64 (nz k X)
theorem Zz.keep{w w':World}{v:Value}{k:Nat}{X:Int}(h:Zz w v k X)(hb:Below w.heap.size w w'):Zz w' v k X:=let ⟨g,hv,hg⟩:=h;⟨g,hv,hg.keep hb⟩
theorem BD(n:Int)(w:World)(n0:0<=n)(n1:n<18446744073709551616) :
 Calls Tryz.prog 381 #[.int .u64 n] w fun e w'=>∃v,e=.returned v/\Zz w' v 4 n/\Below w.heap.size w w':=by
 go_enter Tryz.func381,Tryz.ntmps381
 go_wp2
 go_ret;refine⟨_,rfl,⟨w.heap.size,rfl,?_⟩,bw⟩
 have:nz 4 n=[n % 65536,n / 65536 % 65536,n / 4294967296 % 65536,n / 281474976710656]:=by simp only[nz,List.cons.injEq,and_true,true_and];omega
 rw[m_,this];exact dH.new w _ _
theorem Ws(u v:Value)(X Y:Int)(w:World)(hx:Zz w u 8 X)(hy:Zz w v 8 Y)(x0:0<=X)(x1:X<340282366920938463463374607431768211456)(y0:0<=Y)(y1:Y<340282366920938463463374607431768211456) :
 Calls Tryz.prog 382 #[u,v] w fun e w'=>e=.returned (.int .i64 (Hw X Y))/\Below w.heap.size w w':=by
 obtain⟨gx,rfl,hx⟩:=hx;obtain⟨gy,rfl,hy⟩:=hy;have HE:=aB (show X / 65536 ^ 8=Y / 65536 ^ 8 by rw[Int.ediv_eq_zero_of_lt x0 ae,Int.ediv_eq_zero_of_lt y0 ae])
 have HX:=aB hx;have HY:=aB hy;clear hx hy
 go_enter Tryz.func382,Tryz.ntmps382
 go_wp2
 go_loopg [5] 8 (fun k i wr=>(k<=8/\i=.int .i64 ((k:Int) - 1)/\Hid (X / 65536 ^ k=Y / 65536 ^ k)/\Below w.heap.size w wr))
 case atStart=>exact⟨by omega,rfl,HE,aH _ _⟩
 case round=>
  obtain⟨hk,rfl,HE,hb⟩:=hrel
  rcases bT gk with h0|h0
  ·subst h0
   go_wp2
   go_ret;have:=HE.out;simp at this
   exact⟨ik (by unfold Hw;rw[if_pos this]),hb⟩
  ·obtain⟨j,rfl⟩:∃j,gk=j+1:=⟨gk - 1,ae⟩
   have ej:(((j+1:Nat):Int) - 1)=(j:Int):=ae
   rw[ej];have cx:=(HX.out.keep hb).cell (j:=j) (by rw[jd];omega)
   have cy:=(HY.out.keep hb).cell (j:=j) (by rw[jd];omega)
   rw[nO _ _ _ ae] at cx cy
   have bx:=jT X j;have by_:=jT Y j
   by_cases h1:mJ X j<mJ Y j
   ·go_wp2
    go_quiet (fail)
    go_wp2
    go_ret;have hl:=Jw HE.out h1;exact⟨ik (by unfold Hw;rw[if_neg ae,if_pos hl]),bw⟩
   ·by_cases h2:mJ Y j<mJ X j
    ·go_wp2
     go_quiet (fail)
     go_wp2
     go_quiet (fail)
     go_wp2
     go_ret;have hl:=Jw HE.out.symm h2;exact⟨ik (by unfold Hw;rw[if_neg ae,if_neg ae]),bw⟩
    ·have HE':=aB (Wn HE.out (show mJ X j=mJ Y j by omega))
     go_wp2
     go_quiet (fail)
     go_wp2
     go_quiet (fail)
     go_wp2
     go_roundg j
     case measure=>omega
     case rel=>exact⟨by omega,rfl,HE',bw⟩
theorem BF(a b:Int)(w:World)(a0:0<=a)(a1:a<18446744073709551616)(b0:0<=b)(b1:b<18446744073709551616) :
 Calls Tryz.prog 293 #[.int .u64 a,.int .u64 b] w fun e w'=>∃v,e=.returned v/\Zz w' v 8 (a * b)/\Below w.heap.size w w':=by
 have hmk:∀W:World,(Instr.makeSlice 218 (.int .i64 8) (.int .i64 8)).run Tryz.prog W=.ok (.slice (some ⟨W.heap.size,0,none⟩) 8 8) (W.alloc (.cells ((List.replicate 8 (0:Int)).map (Value.int .u64)).toArray 53)):=fun _=>by kernel_rfl
 obtain⟨L0,hL0⟩:∃L,List.replicate 8 (0:Int)=L:=⟨_,rfl⟩;have st:=qP.start a b;rw[hL0] at st hmk;have ST:=aB st;clear st hL0
 go_enter Tryz.func293,Tryz.ntmps293
 go_upto_region 2 with(first|(go_at_call_of 381 (Value.int .u64 a);refine(BD a _ a0 a1).mono ?_;rintro e w1 ⟨v1,rfl,d1,hb1⟩;have D1:=aB d1;clear d1)|(refine(BD b _ b0 b1).mono ?_;rintro e w2 ⟨v2,rfl,d2,hb2⟩;have D2:=aB d2;clear d2))
 obtain⟨gx,rfl,dx⟩:=D1.out.keep hb2;obtain⟨gy,rfl,dy⟩:=D2.out;have lx:=dx.lt;have ly:=dy.lt;have DX:=aB dx;have DY:=aB dy;have hb0:=wV hb2 (by have:=hb1.size;omega) hb1
 have hz0:=hb0.size;clear dx dy D1 D2 hb1 hb2
 go_wp2_with fail
 go_loopg [8] 4 (fun k i wr=>∃(m:Nat) (l:List Int),k=4 - m/\m<=4/\i=.int .i64 m/\qP a b m l/\m_ wr w2.heap.size 53 .u64 l/\Below w2.heap.size w2 wr)
 case atStart=>exact⟨0,L0,rfl,ae,rfl,ST.out,dH.new _ _ _,bw⟩
 case round=>
  obtain⟨m,l,hgk,hm,rfl,ho,hi,hb⟩:=hrel;obtain⟨wo,rfl⟩:∃wo:World,wo=wr:=⟨_,rfl⟩;have HG:=aB hgk;have HI:=aB hi;have hzo:=hb.size;clear hi hgk
  by_cases h4:m<4
  ·have HO:=aB ho.into
   clear ho
   go_wp2_with fail
   go_loopg [9,10] 4 (fun k c i wr=>∃(q:Nat) (cc:Int) (l:List Int),k=4 - q/\q<=4/\c=.int .u64 cc/\i=.int .i64 q/\BC a b m q cc l/\m_ wr w2.heap.size 53 .u64 l/\Below w2.heap.size w2 wr)
   case atStart=>exact⟨0,0,l,rfl,ae,rfl,rfl,HO.out,HI.out,hb⟩
   case round=>
    obtain⟨q,cc,l,hgk,hq,rfl,rfl,hin,hi,hb⟩:=hrel;have HG2:=aB hgk;clear hgk;have hl:=hin.len
    by_cases hq4:q<4
    ·have cl:=hi.cell (j:=m+q) (by omega)
     have fl:=hi.frozen (m+q);have cx:=(DX.out.below hb lx).cell (j:=m) (by rw[jd];omega)
     have cy:=(DY.out.below hb ly).cell (j:=q) (by rw[jd];omega)
     rw[nO _ _ _ ae] at cx cy
     have bl:=Bz hin.ok (m+q);have bm:=FM (jT a m).1 (jT a m).2 (jT b q).1 (jT b q).2;have bc0:=hin.c0;have bc1:=hin.c1;have HN:=aB (hin.next hq4 h4);have HI2:=aB hi;have n0:=HN.out.c0;clear hin hi hl;have hml:((m:Int)+(q:Int))<8:=ae
     go_wp2_with fail
     go_quiet (fail)
     go_wp2_with fail
     go_roundg (4 - (q+1))
     case measure=>have:=HG2.out;omega
     case rel=>exact⟨q+1,_,_,rfl,ae,rfl,ai,HN.out,(HI2.out.drewN _).dP _ _,bw⟩
    ·have hq':q=4:=ae
     subst hq';have HN:=aB (hin.out h4 b0 b1);have cl:=hi.cell (j:=m+4) (by omega)
     have fl:=hi.frozen (m+4);have bl:=Bz hin.ok (m+4);have bc0:=hin.c0;have bc1:=hin.c1;have HI2:=aB hi;clear hin hi hl;have hml:((m:Int)+4)<8:=ae
     go_wp2_with fail
     go_roundg (4 - (m+1))
     case measure=>have:=HG.out;omega
     case rel=>exact⟨m+1,_,rfl,ae,ai,HN.out,HI2.out.dP _ _,bw⟩
  ·have hm':m=4:=ae
   subst hm';have HF:=aB (ho.fin a0 a1);clear ho
   go_wp2_with fail
   go_ret;exact⟨_,rfl,⟨w2.heap.size,rfl,by rw[<-HF.out];exact HI.out⟩,bw⟩
theorem Wu(v:Value)(X d:Int)(w:World)(hx:Zz w v 8 X)(x0:0<=X)(x1:X<340282366920938463463374607431768211456)(d0:0<d)(d1:d<18446744073709551616) :
 Calls Tryz.prog 292 #[v,.int .u64 d] w fun e w'=>∃v,e=.returned (.tuple #[v,.int .u64 (X % d)])/\Zz w' v 8 (X / d)/\Below w.heap.size w w':=by
 have hmk:∀W:World,(Instr.makeSlice 218 (.int .i64 8) (.int .i64 8)).run Tryz.prog W=.ok (.slice (some ⟨W.heap.size,0,none⟩) 8 8) (W.alloc (.cells ((nz 8 0).map (Value.int .u64)).toArray 53)):=fun _=>by kernel_rfl
 obtain⟨L0,hL0⟩:∃L,nz 8 0=L:=⟨_,rfl⟩;rw[hL0] at hmk;have HL:=aB hL0;clear hL0;obtain⟨gx,rfl,dx⟩:=hx;have lx:=dx.lt;have DX:=aB dx;clear dx
 go_enter Tryz.func292,Tryz.ntmps292
 go_wp2_with fail
 go_loopg [7,8] 128 (fun k lv i wr=>∃(q left:Int),k<=128/\lv=.int .u64 left/\i=.int .i64 ((k:Int) - 1)/\mW X d k q left/\m_ wr w.heap.size 53 .u64 (nz 8 (q * 2 ^ k))/\Below w.heap.size w wr)
 case atStart=>exact⟨0,0,ae,rfl,rfl,mW.start X d x0 x1 d0,by rw[Int.zero_mul,HL.out];exact dH.new _ _ _,bw⟩
 case round=>
  obtain⟨q,left,hk,rfl,rfl,hd,hi,hb⟩:=hrel;have hl0:=hd.l0;have hl1:=hd.l1
  rcases bT gk with h0|h0
  ·subst h0
   have HI:=aB hi;have HF:=aB hd.fin;clear hi hd
   go_wp2_with fail
   go_ret2
   refine⟨_,by rw[<-HF.out.2];rfl,⟨w.heap.size,rfl,?_⟩,hb⟩
   rw[<-HF.out.1]
   simpa using HI.out
  ·obtain⟨j,rfl⟩:∃j,gk=j+1:=⟨gk - 1,ae⟩
   have ej:(((j+1:Nat):Int) - 1)=(j:Int):=ae
   rw[ej];have cx:=(DX.out.below hb lx).cell (j:=j / 16) (by rw[jd];omega)
   rw[nO _ _ _ ae] at cx
   have bx:=jT X (j / 16);have p:=kD (j % 16);have bit:=H6 X j;have bl3:0<=X / 2 ^ j % 2/\X / 2 ^ j % 2<=1:=ae
   have sh0:0<=mJ X (j / 16) / 2 ^ (j % 16):=Int.ediv_nonneg bx.1 ae
   have hj:(j:Int)<128:=ae
   obtain⟨sm1,sm2⟩:=hd.small x0 x1 d0;have q0:=hd.q0;have cl:=hi.cell (j:=j / 16) (by rw[jd];omega)
   rw[nO _ _ _ ae] at cl
   have fl:=hi.frozen (j / 16);have bl:=jT (q * 2 ^ (j+1)) (j / 16);have HI:=aB hi;have HD:=aB hd;have HQ:Hid (2 * q * 2 ^ j=q * 2 ^ (j+1)):=by show _=_;rw[Int.pow_succ,Int.mul_comm 2 q,bV,Int.mul_comm 2]
   have HQ1:Hid ((2 * q+1) * 2 ^ j=q * 2 ^ (j+1)+2 ^ j):=by show _=_;rw[Int.add_mul,Int.one_mul,HQ.out]
   clear hi hd
   by_cases hge:d<=2 * left+X / 2 ^ j % 2
   ·have hy:=HD.out.yes hge
    have hs:=hy.small x0 x1 d0;obtain⟨hp1,hp2⟩:=Wp q j ae q0 (by rw[HQ1.out] at hs;exact hs.2)
    have HY:=aB hy;have HP:=aB hp1;have eL:IntKind.u64.wrap (IntKind.u64.wrap (IntKind.u64.wrap (2 * left)+X / 2 ^ j % 2) - d)=2 * left+X / 2 ^ j % 2 - d:=by simp only[eH];omega
    have HE:=aB eL;clear eL hy hs hp1 bit
    by_cases hh:9223372036854775808<=left
    ·have bit:=H6 X j
     go_wp2_with fail
     go_roundg j
     case measure=>omega
     case rel=>exact⟨2 * q+1,_,ae,congrArg (Value.int IntKind.u64) HE.out,rfl,HY.out,by rw[HQ1.out,<-HP.out];exact HI.out.dP _ _,bw⟩
    ·have bit:=H6 X j
     go_wp2_with fail
     go_roundg j
     case measure=>omega
     case rel=>exact⟨2 * q+1,_,ae,rfl,rfl,HY.out,by rw[HQ1.out,<-HP.out];exact HI.out.dP _ _,bw⟩
   ·have hn:=HD.out.no ae
    have HN:=aB hn;clear hn
    go_wp2_with fail
    go_roundg j
    case measure=>omega
    case rel=>exact⟨2 * q,_,ae,rfl,rfl,HN.out,by rw[HQ.out];exact HI.out,bw⟩
theorem BH(v:Value)(X:Int)(fr:Nat)(f:Int)(w:World)(hx:Zz w v 8 X)(hf:f=(fr:Int))(hfr:fr<=4) :
 Calls Tryz.prog 294 #[v,.int .i64 f] w fun e w'=>e=.returned (.int .u64 (X / 65536 ^ fr % 18446744073709551616))/\Below w.heap.size w w':=by
 subst hf;obtain⟨gx,rfl,dx⟩:=hx;have lx:=dx.lt;have DX:=aB dx;clear dx
 go_enter Tryz.func294,Tryz.ntmps294
 go_wp2_with fail
 go_loopg [5,6] 4 (fun k n i wr=>k<=4/\n=.int .u64 (X / 65536 ^ (fr+k) % 65536 ^ (4 - k))/\i=.int .i64 ((fr:Int)+(k:Int) - 1)/\Below w.heap.size w wr)
 case atStart=>exact⟨by omega,by simp[Int.emod_one],by congr 1;omega,aH _ _⟩
 case round=>
  obtain⟨hk,rfl,rfl,hb⟩:=hrel
  rcases bT gk with h0|h0
  ·subst h0
   go_wp2_with fail
   go_ret;exact⟨rfl,bw⟩
  ·obtain⟨j,rfl⟩:∃j,gk=j+1:=⟨gk - 1,ae⟩
   have ej:((fr:Int)+((j+1:Nat):Int) - 1)=((fr+j:Nat):Int):=ae
   rw[ej];have cx:=(DX.out.below hb lx).cell (j:=fr+j) (by rw[jd];omega)
   rw[nO _ _ _ ae] at cx
   have bx:=jT X (fr+j);have HN:=aB (Wq X (fr+j) (3 - j));have p:=nY (4 - (j+1));have n0:0<=X / 65536 ^ (fr+(j+1)) % 65536 ^ (4 - (j+1)):=Int.emod_nonneg _ ae
   have n1:X / 65536 ^ (fr+(j+1)) % 65536 ^ (4 - (j+1))<281474976710656:=by
    have h1:=Int.emod_lt_of_pos (X / 65536 ^ (fr+(j+1))) p;have h2:(65536:Int) ^ (4 - (j+1))<=281474976710656:=by
     have:j=0\/j=1\/j=2\/j=3:=ae
     rcases this with rfl|rfl|rfl|rfl<;>decide
    omega
   obtain⟨z,hz⟩:∃z,X / 65536 ^ (fr+(j+1)) % 65536 ^ (4 - (j+1))=z:=⟨_,rfl⟩;rw[hz] at n0 n1 |-;have HZ:=aB hz;have hj8:(((fr+j:Nat):Int))<8:=ae
   have hj9:(((fr+j:Nat):Int))=(fr:Int)+(j:Int):=ae
   clear hz p
   go_wp2_with fail
   go_roundg j
   case measure=>omega
   case rel=>exact⟨by omega,congrArg (Value.int IntKind.u64) (by rw[show 4 - j=3 - j+1 by omega,HN.out,<-HZ.out,show 4 - (j+1)=3 - j by omega,Nat.add_assoc]),by congr 1;try omega,bw⟩
theorem sN(a b d:Int)(w:World)(a0:0<=a)(a1:a<18446744073709551616)(b0:0<=b)(b1:b<18446744073709551616)(d0:0<d)(d1:d<18446744073709551616)(hq:a * b / d<18446744073709551616) :
 Calls Tryz.prog 199 #[.int .u64 a,.int .u64 b,.int .u64 d] w fun e w'=>e=.returned (.tuple #[.int .u64 (a * b / d),.int .u64 (a * b % d),.bool true])/\Below w.heap.size w w':=by
 obtain⟨m0,m1⟩:=uk a0 a1 b0 b1;have hd:(d == 0)=false:=ah
 have q0:0<=a * b / d:=Int.ediv_nonneg m0 ae
 go_enter Tryz.func199,Tryz.ntmps199
 go_wp2_with fail;refine(BF a b _ a0 a1 b0 b1).mono ?_
 rintro e w1 ⟨v1,rfl,d1_,hb1⟩;have D1:=aB d1_;have hz1:=hb1.size;clear d1_
 go_wp2_with fail;refine(Wu v1 (a * b) d _ D1.out m0 m1 d0 d1).mono ?_
 rintro e w2 ⟨v2,rfl,d2_,hb2⟩;have D2:=aB d2_;have hz2:=hb2.size;clear d2_
 go_wp2_with fail;refine(BH v2 (a * b / d) 4 4 _ D2.out rfl ae).mono ?_
 rw[show a * b / d / 65536 ^ 4 % 18446744073709551616=0 by omega]
 rintro e w3 ⟨rfl,hb3⟩;have hz3:=hb3.size
 go_wp2_with fail;refine(BH v2 (a * b / d) 0 0 _ (D2.out.keep hb3) rfl ae).mono ?_
 rw[show a * b / d / 65536 ^ 0 % 18446744073709551616=a * b / d by rw[Int.pow_zero,Int.ediv_one];omega]
 rintro e w4 ⟨rfl,hb4⟩;have mG:=hb4.size
 go_wp2_with fail
 go_ret3
 exact⟨rfl,bw⟩
theorem NL(a b d:Int)(w:World)(a0:0<=a)(a1:a<18446744073709551616)(b0:0<=b)(b1:b<=d)(d0:0<d)(d1:d<18446744073709551616) :
 Calls Tryz.prog 199 #[.int .u64 a,.int .u64 b,.int .u64 d] w fun e w'=>e=.returned (.tuple #[.int .u64 (a * b / d),.int .u64 (a * b % d),.bool true])/\Below w.heap.size w w':=
 sN a b d w a0 a1 b0 ae d0 d1 (Int.ediv_lt_of_lt_mul d0 (by have:a * b<=a * d:=Int.mul_le_mul_of_nonneg_left b1 a0;have:a * d<=18446744073709551615 * d:=Int.mul_le_mul_of_nonneg_right ae  ae ;omega))
end Go.Proofs.YtkiebccnpheloaaGreat
