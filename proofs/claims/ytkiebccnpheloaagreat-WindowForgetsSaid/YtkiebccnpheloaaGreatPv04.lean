/- Parts of a proof: what its theorem reaches, words cut short. No condition of its own. -/
import Derived.Test.YtkiebccnpheloaaGreatPv02
set_option maxRecDepth 100000
set_option maxHeartbeats 16000000
set_option linter.unusedVariables false
set_option linter.unusedSimpArgs false
namespace Go.Proofs.YtkiebccnpheloaaGreat
open Go.RowKit
def dig(n:Int)(j:Nat):Int:=n / 65536 ^ j % 65536
def valD:List Int->Int
 | []=>0
 | d::l=>d+65536 * valD l
def digs:Nat->Int->List Int
 | 0,_=>[]
 | k+1,n=>n % 65536::digs k (n / 65536)
def okD(l:List Int):Prop:=∀d∈l,0<=d/\d<65536
theorem pow_pos'(j:Nat):(0:Int)<65536 ^ j:=Int.pow_pos (by omega)
theorem dig_bd(n:Int)(j:Nat):0<=dig n j/\dig n j<65536:=⟨Int.emod_nonneg _ (by omega),Int.emod_lt_of_pos _ (by omega)⟩
theorem dig_zero(n:Int):dig n 0=n % 65536:=by simp[dig]
theorem dig_succ(n:Int)(j:Nat):dig n (j+1)=dig (n / 65536) j:=by
 unfold dig
 rw[Int.pow_succ,Int.mul_comm,<-Int.ediv_ediv_of_nonneg (by omega)]
theorem digs_length(k:Nat):∀n,(digs k n).length=k:=by
 induction k with
 | zero=>intro n;rfl
 | succ k ih=>intro n;simp[digs,ih]
theorem digs_get(k:Nat):∀(n:Int) (j:Nat),j<k->(digs k n)[j]?=some (dig n j):=by
 induction k with
 | zero=>intro n j h;omega
 | succ k ih=>
  intro n j h
  cases j with
  | zero=>simp[digs,dig_zero]
  | succ j=>simp only[digs,List.getElem?_cons_succ];rw[ih _ _ (by omega),dig_succ]
theorem digs_getD(k:Nat)(n:Int)(j:Nat)(h:j<k):(digs k n)[j]?.getD 0=dig n j:=by
 rw[digs_get k n j h];rfl
theorem digs_ok(k:Nat):∀n,okD (digs k n):=by
 induction k with
 | zero=>intro n d h;cases h
 | succ k ih=>
  intro n d h
  rcases List.mem_cons.1 h with rfl|h
  ·exact⟨Int.emod_nonneg _ (by omega),Int.emod_lt_of_pos _ (by omega)⟩
  ·exact ih _ d h
theorem digs_val(k:Nat):∀n,0<=n->n<65536 ^ k->valD (digs k n)=n:=by
 induction k with
 | zero=>intro n h0 h1;simp at h1;simp[digs,valD];omega
 | succ k ih=>
  intro n h0 h1
  have h2:n / 65536<65536 ^ k:=Int.ediv_lt_of_lt_mul (by omega) (by rw[<-Int.pow_succ];exact h1)
  simp only[digs,valD]
  rw[ih _ (by omega) h2]
  omega
theorem digs_unique:∀l,okD l->l=digs l.length (valD l)
 | [],_=>rfl
 | d::l,h=>by
  have h1:=digs_unique l (fun x hx=>h x (List.mem_cons_of_mem _ hx))
  have h2:=h d (List.mem_cons_self ..)
  simp only[List.length_cons,digs,valD]
  rw[show(d+65536 * valD l) % 65536=d by omega,show(d+65536 * valD l) / 65536=valD l by omega,<-h1]
theorem valD_set:∀(l:List Int) (j:Nat) (v:Int),j<l.length->valD (l.set j v)=valD l+(v - l[j]?.getD 0) * 65536 ^ j
 | [],j,v,h=>by simp at h
 | d::l,0,v,_=>by simp[valD];omega
 | d::l,j+1,v,h=>by
  have:=valD_set l j v (by simpa using h)
  simp only[List.set_cons_succ,valD,this,List.getElem?_cons_succ,Int.pow_succ]
  rw[Int.mul_comm (65536 ^ j) 65536,<-Int.mul_assoc,Int.mul_comm _ 65536,Int.mul_assoc]
  omega
theorem okD_set{l:List Int}(h:okD l)(j:Nat){v:Int}(h0:0<=v)(h1:v<65536):okD (l.set j v):=by
 intro d hd
 rcases List.mem_or_eq_of_mem_set hd with hd|rfl
 ·exact h d hd
 ·exact⟨h0,h1⟩
theorem okD_getD{l:List Int}(h:okD l)(j:Nat):0<=l[j]?.getD 0/\l[j]?.getD 0<65536:=by
 cases hj:l[j]? with
 | none=>simp
 | some d=>simpa using h d (List.mem_of_getElem? hj)
structure MulIn(a b:Int)(i k:Nat)(carry:Int)(l:List Int):Prop where
 len:l.length=8
 ok:okD l
 c0:0<=carry
 c1:carry<65536
 e:valD l+carry * 65536 ^ (i+k)=(a % 65536 ^ i) * b+dig a i * 65536 ^ i * (b % 65536 ^ k)
 z:∀j,i+4<=j->l[j]?.getD 0=0
structure MulOut(a b:Int)(i:Nat)(l:List Int):Prop where
 len:l.length=8
 ok:okD l
 e:valD l=(a % 65536 ^ i) * b
 z:∀j,i+4<=j->l[j]?.getD 0=0
theorem emod_step(a:Int)(i:Nat):a % 65536 ^ (i+1)=a % 65536 ^ i+dig a i * 65536 ^ i:=by
 have p:=pow_pos' i
 have h1:=Int.mul_ediv_add_emod a (65536 ^ i)
 have h2:=Int.mul_ediv_add_emod a (65536 ^ (i+1))
 have h3:a / 65536 ^ (i+1)=a / 65536 ^ i / 65536:=by rw[Int.pow_succ,Int.ediv_ediv_of_nonneg (by omega)]
 have h4:=Int.mul_ediv_add_emod (a / 65536 ^ i) 65536
 unfold dig
 rw[h3,Int.pow_succ] at h2
 generalize a / 65536 ^ i % 65536=m at *
 generalize a / 65536 ^ i / 65536=k at *
 have h5:(65536:Int) ^ i * 65536 * k=65536 ^ i * (65536 * k):=by rw[Int.mul_assoc]
 have h6:(65536:Int) ^ i * (65536 * k+m)=65536 ^ i * (65536 * k)+m * 65536 ^ i:=by rw[Int.mul_add,Int.mul_comm m]
 rw[<-h4,h6] at h1
 rw[Int.pow_succ]
 omega
theorem MulOut.start(a b:Int):MulOut a b 0 (List.replicate 8 0):=by
 refine⟨rfl,fun d h=>?_,?_,fun j _=>?_⟩
 ·have:=List.eq_of_mem_replicate h;omega
 ·simp[valD,List.replicate,Int.emod_one]
 ·rw[List.getElem?_replicate];split<;>rfl
theorem MulOut.into{a b:Int}{i:Nat}{l:List Int}(h:MulOut a b i l):MulIn a b i 0 0 l:=
 ⟨h.len,h.ok,by omega,by omega,by rw[h.e];simp[Int.emod_one],h.z⟩
theorem mul_small{x y:Int}(x0:0<=x)(x1:x<65536)(y0:0<=y)(y1:y<65536):0<=x * y/\x * y<=4294836225:=by
 have h1:x * y<=65535 * y:=Int.mul_le_mul_of_nonneg_right (by omega) y0
 exact⟨Int.mul_nonneg x0 y0,by omega⟩
theorem MulIn.next{a b:Int}{i k:Nat}{carry:Int}{l:List Int}(h:MulIn a b i k carry l)(hk:k<4)(hi:i<4) :
 MulIn a b i (k+1) ((l[i+k]?.getD 0+dig a i * dig b k+carry) / 65536) (l.set (i+k) ((l[i+k]?.getD 0+dig a i * dig b k+carry) % 65536)):=by
 obtain⟨len,ok,c0,c1,e,z⟩:=h
 have hd:=okD_getD ok (i+k)
 have hm:=mul_small (dig_bd a i).1 (dig_bd a i).2 (dig_bd b k).1 (dig_bd b k).2
 have hs:=valD_set l (i+k) ((l[i+k]?.getD 0+dig a i * dig b k+carry) % 65536) (by omega)
 refine⟨by simp[len],okD_set ok _ (by omega) (by omega),by omega,by omega,?_,fun j hj=>?_⟩
 ·rw[hs,emod_step b k]
  have e1:(65536:Int) ^ (i+(k+1))=65536 ^ (i+k) * 65536:=by rw[<-Nat.add_assoc,Int.pow_succ]
  have e2:(65536:Int) ^ (i+k)=65536 ^ i * 65536 ^ k:=Int.pow_add ..
  have e3:dig a i * 65536 ^ i * (b % 65536 ^ k+dig b k * 65536 ^ k)=dig a i * 65536 ^ i * (b % 65536 ^ k)+dig a i * dig b k * 65536 ^ (i+k):=by
   rw[Int.mul_add,e2]
   congr 1
   rw[Int.mul_assoc,Int.mul_left_comm (65536 ^ i),Int.mul_assoc]
  rw[e1,e3]
  generalize l[i+k]?.getD 0=u at *
  generalize dig a i * dig b k=m at *
  generalize (65536:Int) ^ (i+k)=P at *
  generalize hn:u+m+carry=n at *
  have h4:n / 65536 * (P * 65536)=n / 65536 * 65536 * P:=by rw[Int.mul_comm P,Int.mul_assoc]
  have h5:(n % 65536 - u) * P+n / 65536 * 65536 * P=(m+carry) * P:=by
   rw[<-Int.add_mul];congr 1;omega
  have h6:(m+carry) * P=m * P+carry * P:=Int.add_mul ..
  omega
 ·rw[List.getElem?_set_ne (by omega)]
  exact z j hj
theorem MulIn.out{a b:Int}{i:Nat}{carry:Int}{l:List Int}(h:MulIn a b i 4 carry l)(hi:i<4)(b0:0<=b)(b1:b<18446744073709551616) :
 MulOut a b (i+1) (l.set (i+4) (l[i+4]?.getD 0+carry)):=by
 obtain⟨len,ok,c0,c1,e,z⟩:=h
 have hz:=z (i+4) (by omega)
 have hs:=valD_set l (i+4) (l[i+4]?.getD 0+carry) (by omega)
 rw[hz] at hs |-
 refine⟨by simp[len],okD_set ok _ (by omega) (by omega),?_,fun j hj=>?_⟩
 ·rw[show b % 65536 ^ 4=b by omega] at e
  rw[hs,emod_step a i,Int.add_mul]
  generalize (65536:Int) ^ (i+4)=P at *
  have:(0+carry - 0) * P=carry * P:=by congr 1;omega
  omega
 ·rw[List.getElem?_set_ne (by omega)]
  exact z j (by omega)
theorem MulOut.fin{a b:Int}{l:List Int}(h:MulOut a b 4 l)(a0:0<=a)(a1:a<18446744073709551616):l=digs 8 (a * b):=by
 have h1:=digs_unique l h.ok
 rw[h.len,h.e,show a % 65536 ^ 4=a by omega] at h1
 exact h1
theorem div_step(X:Int)(i:Nat):X / 65536 ^ i=X / 65536 ^ (i+1) * 65536+dig X i:=by
 unfold dig
 rw[Int.pow_succ,<-Int.ediv_ediv_of_nonneg (by have:=pow_pos' i;omega)]
 omega
theorem cmp_next{X Y:Int}{i:Nat}(h:X / 65536 ^ (i+1)=Y / 65536 ^ (i+1))(hd:dig X i=dig Y i):X / 65536 ^ i=Y / 65536 ^ i:=by
 rw[div_step X,div_step Y,h,hd]
theorem cmp_less{X Y:Int}{i:Nat}(h:X / 65536 ^ (i+1)=Y / 65536 ^ (i+1))(hd:dig X i<dig Y i):X<Y:=by
 have h1:X / 65536 ^ i<Y / 65536 ^ i:=by rw[div_step X,div_step Y,h];omega
 rcases Int.lt_or_le X Y with h2|h2
 ·exact h2
 ·have:=Int.ediv_le_ediv (pow_pos' i) h2
  omega
theorem valD_digs8{X:Int}(h0:0<=X)(h1:X<340282366920938463463374607431768211456):valD (digs 8 X)=X:=digs_val 8 X h0 (by omega)
theorem pow2_pos(i:Nat):(0:Int)<2 ^ i:=Int.pow_pos (by omega)
theorem dig_bit(X:Int)(i:Nat):dig X (i / 16) / 2 ^ (i % 16) % 2=X / 2 ^ i % 2:=by
 unfold dig
 have e1:(65536:Int) ^ (i / 16) * 2 ^ (i % 16)=2 ^ i:=by
  rw[show(65536:Int)=2 ^ 16 by decide,<-Int.pow_mul,<-Int.pow_add,show 16 * (i / 16)+i % 16=i by omega]
 rw[<-e1,<-Int.ediv_ediv_of_nonneg (by have:=pow_pos' (i / 16);omega)]
 generalize X / 65536 ^ (i / 16)=y
 have e2:(65536:Int)=2 ^ (i % 16) * (2 * 2 ^ (15 - i % 16)):=by
  rw[<-Int.mul_assoc,Int.mul_comm _ 2,Int.mul_assoc,<-Int.pow_add,show i % 16+(15 - i % 16)=15 by omega];decide
 have p:=pow2_pos (i % 16)
 have q:=pow2_pos (15 - i % 16)
 have h1:=Int.mul_ediv_add_emod y 65536
 generalize y % 65536=m at *
 generalize hk:y / 65536=k at *
 clear hk
 rw[<-h1]
 have h2:65536 * k+m=m+2 ^ (i % 16) * (2 * (2 ^ (15 - i % 16) * k)):=by
  have:(2:Int) ^ (i % 16) * (2 * (2 ^ (15 - i % 16) * k))=2 ^ (i % 16) * (2 * 2 ^ (15 - i % 16)) * k:=by
   rw[Int.mul_assoc,Int.mul_assoc]
  rw[this,<-e2];omega
 rw[h2,Int.add_mul_ediv_left _ _ (by omega)]
 omega
theorem digs_put(q:Int)(i:Nat)(hi:i<128)(q0:0<=q)(q1:q * 2 ^ (i+1)+2 ^ i<340282366920938463463374607431768211456) :
 (digs 8 (q * 2 ^ (i+1))).set (i / 16) (dig (q * 2 ^ (i+1)) (i / 16)+2 ^ (i % 16))=digs 8 (q * 2 ^ (i+1)+2 ^ i)/\dig (q * 2 ^ (i+1)) (i / 16)+2 ^ (i % 16)<65536:=by
 have pi:=pow2_pos i
 have pi1:=pow2_pos (i+1)
 have Q0:0<=q * 2 ^ (i+1):=Int.mul_nonneg q0 (by omega)
 have hl:=digs_length 8 (q * 2 ^ (i+1))
 have hg:=digs_getD 8 (q * 2 ^ (i+1)) (i / 16) (by omega)
 have hbd:=dig_bd (q * 2 ^ (i+1)) (i / 16)
 have p:=pow2_pos (i % 16)
 have pq:=pow2_pos (15 - i % 16)
 have e1:(2:Int) ^ (i % 16) * 65536 ^ (i / 16)=2 ^ i:=by
  rw[show(65536:Int)=2 ^ 16 by decide,<-Int.pow_mul,<-Int.pow_add,show i % 16+16 * (i / 16)=i by omega]
 -- the digit is a multiple of twice the bit
 have hm:dig (q * 2 ^ (i+1)) (i / 16)=(q % 2 ^ (15 - i % 16)) * (2 * 2 ^ (i % 16)):=by
  unfold dig
  have e3:q * 2 ^ (i+1)=(q * (2 * 2 ^ (i % 16))) * 65536 ^ (i / 16):=by
   rw[Int.pow_succ,<-e1,Int.mul_assoc,Int.mul_assoc,Int.mul_comm 2,Int.mul_assoc,Int.mul_comm 2]
  have e4:(65536:Int)=2 ^ (15 - i % 16) * (2 * 2 ^ (i % 16)):=by
   rw[Int.mul_comm 2,<-Int.mul_assoc,<-Int.pow_add,show 15 - i % 16+i % 16=15 by omega];decide
  rw[e3,Int.mul_ediv_cancel _ (by have:=pow_pos' (i / 16);omega)]
  generalize (2:Int) ^ (15 - i % 16)=A at *
  generalize (2:Int) ^ (i % 16)=B at *
  rw[e4,Int.mul_comm q,Int.mul_comm A,Int.mul_emod_mul_of_pos _ _ (by omega),Int.mul_comm]
 have hlt:dig (q * 2 ^ (i+1)) (i / 16)+2 ^ (i % 16)<65536:=by
  have e4:(65536:Int)=2 ^ (15 - i % 16) * (2 * 2 ^ (i % 16)):=by
   rw[Int.mul_comm 2,<-Int.mul_assoc,<-Int.pow_add,show 15 - i % 16+i % 16=15 by omega];decide
  have h1:=Int.emod_lt_of_pos q pq
  rw[hm]
  generalize (2:Int) ^ (15 - i % 16)=A at *
  generalize (2:Int) ^ (i % 16)=B at *
  generalize q % A=r at *
  have h2:(r+1) * (2 * B)<=A * (2 * B):=Int.mul_le_mul_of_nonneg_right (by omega) (by omega)
  rw[Int.add_mul] at h2
  omega
 refine⟨?_,hlt⟩
 have hok:=okD_set (digs_ok 8 (q * 2 ^ (i+1))) (i / 16) (v:=dig (q * 2 ^ (i+1)) (i / 16)+2 ^ (i % 16)) (by omega) hlt
 have hv:=valD_set (digs 8 (q * 2 ^ (i+1))) (i / 16) (dig (q * 2 ^ (i+1)) (i / 16)+2 ^ (i % 16)) (by omega)
 rw[hg,valD_digs8 Q0 (by omega),show dig (q * 2 ^ (i+1)) (i / 16)+2 ^ (i % 16) - dig (q * 2 ^ (i+1)) (i / 16)=2 ^ (i % 16) by omega,e1] at hv
 have hu:=digs_unique _ hok
 rw[hv,List.length_set,hl] at hu
 exact hu
structure DivAt(X d:Int)(i:Nat)(q left:Int):Prop where
 e:X / 2 ^ i=q * d+left
 q0:0<=q
 l0:0<=left
 l1:left<d
theorem DivAt.bit{X d:Int}{i:Nat}{q left:Int}(h:DivAt X d (i+1) q left):X / 2 ^ i=2 * q * d+(2 * left+X / 2 ^ i % 2):=by
 have h1:X / 2 ^ (i+1)=X / 2 ^ i / 2:=by rw[Int.pow_succ,Int.ediv_ediv_of_nonneg (by have:=pow2_pos i;omega)]
 have h2:=h.e
 rw[h1] at h2
 have h3:2 * q * d=2 * (q * d):=Int.mul_assoc ..
 omega
theorem DivAt.yes{X d:Int}{i:Nat}{q left:Int}(h:DivAt X d (i+1) q left)(hd:d<=2 * left+X / 2 ^ i % 2):DivAt X d i (2 * q+1) (2 * left+X / 2 ^ i % 2 - d):=by
 have h1:=h.bit
 have:=h.q0;have:=h.l0;have:=h.l1
 have h2:(2 * q+1) * d=2 * q * d+d:=by rw[Int.add_mul,Int.one_mul]
 exact⟨by omega,by omega,by omega,by omega⟩
theorem DivAt.no{X d:Int}{i:Nat}{q left:Int}(h:DivAt X d (i+1) q left)(hd:2 * left+X / 2 ^ i % 2<d):DivAt X d i (2 * q) (2 * left+X / 2 ^ i % 2):=by
 have h1:=h.bit
 have:=h.q0;have:=h.l0
 exact⟨by omega,by omega,by omega,by omega⟩
theorem DivAt.start(X d:Int)(x0:0<=X)(x1:X<340282366920938463463374607431768211456)(d0:0<d):DivAt X d 128 0 0:=by
 refine⟨?_,by omega,by omega,d0⟩
 rw[Int.ediv_eq_zero_of_lt x0 (by omega)]
 omega
theorem DivAt.fin{X d:Int}{q left:Int}(h:DivAt X d 0 q left):q=X / d/\left=X % d:=by
 have h1:=h.e
 simp at h1
 have h2:=Int.ediv_emod_unique (a:=X) (b:=d) (r:=left) (q:=q) (by have:=h.l0;have:=h.l1;omega)
 have h3:=h2.2 ⟨by rw[h1,Int.mul_comm];omega,h.l0,h.l1⟩
 exact⟨h3.1.symm,h3.2.symm⟩
theorem DivAt.small{X d:Int}{i:Nat}{q left:Int}(h:DivAt X d i q left)(x0:0<=X)(x1:X<340282366920938463463374607431768211456)(d0:0<d):q * 2 ^ i+2 ^ i<=340282366920938463463374607431768211456+2 ^ i/\q * 2 ^ i<340282366920938463463374607431768211456:=by
 have p:=pow2_pos i
 have h1:q * 1<=q * d:=Int.mul_le_mul_of_nonneg_left (by omega) h.q0
 have h2:q<=X / 2 ^ i:=by have:=h.e;have:=h.l0;omega
 have h3:q * 2 ^ i<=X / 2 ^ i * 2 ^ i:=Int.mul_le_mul_of_nonneg_right h2 (by omega)
 have h4:=Int.ediv_mul_le X (show(2:Int) ^ i≠0 by omega)
 omega
theorem num_next(X:Int)(j m:Nat):X / 65536 ^ j % 65536 ^ (m+1)=65536 * (X / 65536 ^ (j+1) % 65536 ^ m)+dig X j:=by
 have h1:=div_step X j
 have h2:=dig_bd X j
 have p:=pow_pos' m
 rw[h1]
 generalize X / 65536 ^ (j+1)=y
 generalize dig X j=d at *
 have h3:=Int.mul_ediv_add_emod y (65536 ^ m)
 have h4:=Int.emod_nonneg y (show(65536:Int) ^ m≠0 by omega)
 have h5:=Int.emod_lt_of_pos y p
 generalize y % 65536 ^ m=r at *
 generalize y / 65536 ^ m=k at *
 have e1:y * 65536+d=(65536 * r+d)+65536 ^ (m+1) * k:=by
  have:(65536:Int) ^ (m+1) * k=65536 ^ m * k * 65536:=by rw[Int.pow_succ,Int.mul_assoc,Int.mul_comm 65536,<-Int.mul_assoc]
  omega
 rw[e1,Int.add_mul_emod_self_left,Int.emod_eq_of_lt (by omega) (by rw[Int.pow_succ];omega)]
open Go.RowKit Go.Lib
def IsD(w:World)(v:Value)(k:Nat)(X:Int):Prop:=∃g,v=.slice (some ⟨g,0,none⟩) k k/\IBlk w g 53 .u64 (digs k X)
theorem IsD.keep{w w':World}{v:Value}{k:Nat}{X:Int}(h:IsD w v k X)(hb:Below w.heap.size w w'):IsD w' v k X:=let ⟨g,hv,hg⟩:=h;⟨g,hv,hg.keep hb⟩
theorem digits_any(n:Int)(w:World)(n0:0<=n)(n1:n<18446744073709551616) :
 Calls Tryz.prog 381 #[.int .u64 n] w fun e w'=>∃v,e=.returned v/\IsD w' v 4 n/\Below w.heap.size w w':=by
 go_enter Tryz.func381,Tryz.ntmps381
 go_wp2
 go_ret
 refine⟨_,rfl,⟨w.heap.size,rfl,?_⟩,by(repeat' (first|(with_reducible exact Below.refl _ _)|(with_reducible refine Below.alloc ?_ ?_ _)|(with_reducible refine Below.drew ?_)|(with_reducible refine below_drewN ?_ _)|(with_reducible refine Below.setCell ?_ ?_ _)|(with_reducible refine below_of (by assumption) ?_ ?_)|go_size))⟩
 have:digs 4 n=[n % 65536,n / 65536 % 65536,n / 4294967296 % 65536,n / 281474976710656]:=by simp only[digs,List.cons.injEq,and_true,true_and];omega
 rw[IBlk,this]
 exact Blk.new w _ _
theorem rcmp_any(u v:Value)(X Y:Int)(w:World)(hx:IsD w u 8 X)(hy:IsD w v 8 Y)(x0:0<=X)(x1:X<340282366920938463463374607431768211456)(y0:0<=Y)(y1:Y<340282366920938463463374607431768211456) :
 Calls Tryz.prog 382 #[u,v] w fun e w'=>e=.returned (.int .i64 (cmpI X Y))/\Below w.heap.size w w':=by
 obtain⟨gx,rfl,hx⟩:=hx
 obtain⟨gy,rfl,hy⟩:=hy
 have HE:=Lib.hid (show X / 65536 ^ 8=Y / 65536 ^ 8 by rw[Int.ediv_eq_zero_of_lt x0 (by omega),Int.ediv_eq_zero_of_lt y0 (by omega)])
 have HX:=Lib.hid hx
 have HY:=Lib.hid hy
 clear hx hy
 go_enter Tryz.func382,Tryz.ntmps382
 go_wp2
 go_loopg [5] 8 (fun k i wr=>(k<=8/\i=.int .i64 ((k:Int) - 1)/\Hid (X / 65536 ^ k=Y / 65536 ^ k)/\Below w.heap.size w wr))
 case atStart=>exact⟨by omega,rfl,HE,Below.refl _ _⟩
 case round=>
  obtain⟨hk,rfl,HE,hb⟩:=hrel
  rcases Nat.eq_zero_or_pos gk with h0|h0
  ·subst h0
   go_wp2
   go_ret
   have:=HE.out
   simp at this
   exact⟨ret_int (by unfold cmpI;rw[if_pos this]),hb⟩
  ·obtain⟨j,rfl⟩:∃j,gk=j+1:=⟨gk - 1,by omega⟩
   have ej:(((j+1:Nat):Int) - 1)=(j:Int):=by omega
   rw[ej]
   have cx:=(HX.out.keep hb).cell (j:=j) (by rw[digs_length];omega)
   have cy:=(HY.out.keep hb).cell (j:=j) (by rw[digs_length];omega)
   rw[digs_getD _ _ _ (by omega)] at cx cy
   have bx:=dig_bd X j
   have by_:=dig_bd Y j
   by_cases h1:dig X j<dig Y j
   ·go_wp2
    go_quiet (fail)
    go_wp2
    go_ret
    have hl:=cmp_less HE.out h1
    exact⟨ret_int (by unfold cmpI;rw[if_neg (by omega),if_pos hl]),by(repeat' (first|(with_reducible exact Below.refl _ _)|(with_reducible refine Below.alloc ?_ ?_ _)|(with_reducible refine Below.drew ?_)|(with_reducible refine below_drewN ?_ _)|(with_reducible refine Below.setCell ?_ ?_ _)|(with_reducible refine below_of (by assumption) ?_ ?_)|go_size))⟩
   ·by_cases h2:dig Y j<dig X j
    ·go_wp2
     go_quiet (fail)
     go_wp2
     go_quiet (fail)
     go_wp2
     go_ret
     have hl:=cmp_less HE.out.symm h2
     exact⟨ret_int (by unfold cmpI;rw[if_neg (by omega),if_neg (by omega)]),by(repeat' (first|(with_reducible exact Below.refl _ _)|(with_reducible refine Below.alloc ?_ ?_ _)|(with_reducible refine Below.drew ?_)|(with_reducible refine below_drewN ?_ _)|(with_reducible refine Below.setCell ?_ ?_ _)|(with_reducible refine below_of (by assumption) ?_ ?_)|go_size))⟩
    ·have HE':=Lib.hid (cmp_next HE.out (show dig X j=dig Y j by omega))
     go_wp2
     go_quiet (fail)
     go_wp2
     go_quiet (fail)
     go_wp2
     go_roundg j
     case measure=>omega
     case rel=>exact⟨by omega,rfl,HE',by(repeat' (first|(with_reducible exact Below.refl _ _)|(with_reducible refine Below.alloc ?_ ?_ _)|(with_reducible refine Below.drew ?_)|(with_reducible refine below_drewN ?_ _)|(with_reducible refine Below.setCell ?_ ?_ _)|(with_reducible refine below_of (by assumption) ?_ ?_)|go_size))⟩
theorem rmul_any(a b:Int)(w:World)(a0:0<=a)(a1:a<18446744073709551616)(b0:0<=b)(b1:b<18446744073709551616) :
 Calls Tryz.prog 293 #[.int .u64 a,.int .u64 b] w fun e w'=>∃v,e=.returned v/\IsD w' v 8 (a * b)/\Below w.heap.size w w':=by
 have hmk:∀W:World,(Instr.makeSlice 218 (.int .i64 8) (.int .i64 8)).run Tryz.prog W=.ok (.slice (some ⟨W.heap.size,0,none⟩) 8 8) (W.alloc (.cells ((List.replicate 8 (0:Int)).map (Value.int .u64)).toArray 53)):=fun _=>by kernel_rfl
 obtain⟨L0,hL0⟩:∃L,List.replicate 8 (0:Int)=L:=⟨_,rfl⟩
 have st:=MulOut.start a b
 rw[hL0] at st hmk
 have ST:=Lib.hid st
 clear st hL0
 go_enter Tryz.func293,Tryz.ntmps293
 go_upto_region 2 with(first|(go_at_call_of 381 (Value.int .u64 a);refine(digits_any a _ a0 a1).mono ?_;rintro e w1 ⟨v1,rfl,d1,hb1⟩;have D1:=Lib.hid d1;clear d1)|(refine(digits_any b _ b0 b1).mono ?_;rintro e w2 ⟨v2,rfl,d2,hb2⟩;have D2:=Lib.hid d2;clear d2))
 obtain⟨gx,rfl,dx⟩:=D1.out.keep hb2
 obtain⟨gy,rfl,dy⟩:=D2.out
 have lx:=dx.lt
 have ly:=dy.lt
 have DX:=Lib.hid dx
 have DY:=Lib.hid dy
 have hb0:=below_of hb2 (by have:=hb1.size;omega) hb1
 have hz0:=hb0.size
 clear dx dy D1 D2 hb1 hb2
 go_wp2_with fail
 go_loopg [8] 4 (fun k i wr=>∃(m:Nat) (l:List Int),k=4 - m/\m<=4/\i=.int .i64 m/\MulOut a b m l/\IBlk wr w2.heap.size 53 .u64 l/\Below w2.heap.size w2 wr)
 case atStart=>exact⟨0,L0,rfl,by omega,rfl,ST.out,Blk.new _ _ _,by(repeat' (first|(with_reducible exact Below.refl _ _)|(with_reducible refine Below.alloc ?_ ?_ _)|(with_reducible refine Below.drew ?_)|(with_reducible refine below_drewN ?_ _)|(with_reducible refine Below.setCell ?_ ?_ _)|(with_reducible refine below_of (by assumption) ?_ ?_)|go_size))⟩
 case round=>
  obtain⟨m,l,hgk,hm,rfl,ho,hi,hb⟩:=hrel
  obtain⟨wo,rfl⟩:∃wo:World,wo=wr:=⟨_,rfl⟩
  have HG:=Lib.hid hgk
  have HI:=Lib.hid hi
  have hzo:=hb.size
  clear hi hgk
  by_cases h4:m<4
  ·have HO:=Lib.hid ho.into
   clear ho
   go_wp2_with fail
   go_loopg [9,10] 4 (fun k c i wr=>∃(q:Nat) (cc:Int) (l:List Int),k=4 - q/\q<=4/\c=.int .u64 cc/\i=.int .i64 q/\MulIn a b m q cc l/\IBlk wr w2.heap.size 53 .u64 l/\Below w2.heap.size w2 wr)
   case atStart=>exact⟨0,0,l,rfl,by omega,rfl,rfl,HO.out,HI.out,hb⟩
   case round=>
    obtain⟨q,cc,l,hgk,hq,rfl,rfl,hin,hi,hb⟩:=hrel
    have HG2:=Lib.hid hgk
    clear hgk
    have hl:=hin.len
    by_cases hq4:q<4
    ·have cl:=hi.cell (j:=m+q) (by omega)
     have fl:=hi.frozen (m+q)
     have cx:=(DX.out.below hb lx).cell (j:=m) (by rw[digs_length];omega)
     have cy:=(DY.out.below hb ly).cell (j:=q) (by rw[digs_length];omega)
     rw[digs_getD _ _ _ (by omega)] at cx cy
     have bl:=okD_getD hin.ok (m+q)
     have bm:=mul_small (dig_bd a m).1 (dig_bd a m).2 (dig_bd b q).1 (dig_bd b q).2
     have bc0:=hin.c0
     have bc1:=hin.c1
     have HN:=Lib.hid (hin.next hq4 h4)
     have HI2:=Lib.hid hi
     have n0:=HN.out.c0
     clear hin hi hl
     have hml:((m:Int)+(q:Int))<8:=by omega
     go_wp2_with fail
     go_quiet (fail)
     go_wp2_with fail
     go_roundg (4 - (q+1))
     case measure=>have:=HG2.out;omega
     case rel=>exact⟨q+1,_,_,rfl,by omega,rfl,by go_num,HN.out,(HI2.out.drewN _).set_ _ _,by(repeat' (first|(with_reducible exact Below.refl _ _)|(with_reducible refine Below.alloc ?_ ?_ _)|(with_reducible refine Below.drew ?_)|(with_reducible refine below_drewN ?_ _)|(with_reducible refine Below.setCell ?_ ?_ _)|(with_reducible refine below_of (by assumption) ?_ ?_)|go_size))⟩
    ·have hq':q=4:=by omega
     subst hq'
     have HN:=Lib.hid (hin.out h4 b0 b1)
     have cl:=hi.cell (j:=m+4) (by omega)
     have fl:=hi.frozen (m+4)
     have bl:=okD_getD hin.ok (m+4)
     have bc0:=hin.c0
     have bc1:=hin.c1
     have HI2:=Lib.hid hi
     clear hin hi hl
     have hml:((m:Int)+4)<8:=by omega
     go_wp2_with fail
     go_roundg (4 - (m+1))
     case measure=>have:=HG.out;omega
     case rel=>exact⟨m+1,_,rfl,by omega,by go_num,HN.out,HI2.out.set_ _ _,by(repeat' (first|(with_reducible exact Below.refl _ _)|(with_reducible refine Below.alloc ?_ ?_ _)|(with_reducible refine Below.drew ?_)|(with_reducible refine below_drewN ?_ _)|(with_reducible refine Below.setCell ?_ ?_ _)|(with_reducible refine below_of (by assumption) ?_ ?_)|go_size))⟩
  ·have hm':m=4:=by omega
   subst hm'
   have HF:=Lib.hid (ho.fin a0 a1)
   clear ho
   go_wp2_with fail
   go_ret
   exact⟨_,rfl,⟨w2.heap.size,rfl,by rw[<-HF.out];exact HI.out⟩,by(repeat' (first|(with_reducible exact Below.refl _ _)|(with_reducible refine Below.alloc ?_ ?_ _)|(with_reducible refine Below.drew ?_)|(with_reducible refine below_drewN ?_ _)|(with_reducible refine Below.setCell ?_ ?_ _)|(with_reducible refine below_of (by assumption) ?_ ?_)|go_size))⟩
theorem rdiv_any(v:Value)(X d:Int)(w:World)(hx:IsD w v 8 X)(x0:0<=X)(x1:X<340282366920938463463374607431768211456)(d0:0<d)(d1:d<18446744073709551616) :
 Calls Tryz.prog 292 #[v,.int .u64 d] w fun e w'=>∃v,e=.returned (.tuple #[v,.int .u64 (X % d)])/\IsD w' v 8 (X / d)/\Below w.heap.size w w':=by
 have hmk:∀W:World,(Instr.makeSlice 218 (.int .i64 8) (.int .i64 8)).run Tryz.prog W=.ok (.slice (some ⟨W.heap.size,0,none⟩) 8 8) (W.alloc (.cells ((digs 8 0).map (Value.int .u64)).toArray 53)):=fun _=>by kernel_rfl
 obtain⟨L0,hL0⟩:∃L,digs 8 0=L:=⟨_,rfl⟩
 rw[hL0] at hmk
 have HL:=Lib.hid hL0
 clear hL0
 obtain⟨gx,rfl,dx⟩:=hx
 have lx:=dx.lt
 have DX:=Lib.hid dx
 clear dx
 go_enter Tryz.func292,Tryz.ntmps292
 go_wp2_with fail
 go_loopg [7,8] 128 (fun k lv i wr=>∃(q left:Int),k<=128/\lv=.int .u64 left/\i=.int .i64 ((k:Int) - 1)/\DivAt X d k q left/\IBlk wr w.heap.size 53 .u64 (digs 8 (q * 2 ^ k))/\Below w.heap.size w wr)
 case atStart=>exact⟨0,0,by omega,rfl,rfl,DivAt.start X d x0 x1 d0,by rw[Int.zero_mul,HL.out];exact Blk.new _ _ _,by(repeat' (first|(with_reducible exact Below.refl _ _)|(with_reducible refine Below.alloc ?_ ?_ _)|(with_reducible refine Below.drew ?_)|(with_reducible refine below_drewN ?_ _)|(with_reducible refine Below.setCell ?_ ?_ _)|(with_reducible refine below_of (by assumption) ?_ ?_)|go_size))⟩
 case round=>
  obtain⟨q,left,hk,rfl,rfl,hd,hi,hb⟩:=hrel
  have hl0:=hd.l0
  have hl1:=hd.l1
  rcases Nat.eq_zero_or_pos gk with h0|h0
  ·subst h0
   have HI:=Lib.hid hi
   have HF:=Lib.hid hd.fin
   clear hi hd
   go_wp2_with fail
   go_ret2
   refine⟨_,by rw[<-HF.out.2];rfl,⟨w.heap.size,rfl,?_⟩,hb⟩
   rw[<-HF.out.1]
   simpa using HI.out
  ·obtain⟨j,rfl⟩:∃j,gk=j+1:=⟨gk - 1,by omega⟩
   have ej:(((j+1:Nat):Int) - 1)=(j:Int):=by omega
   rw[ej]
   have cx:=(DX.out.below hb lx).cell (j:=j / 16) (by rw[digs_length];omega)
   rw[digs_getD _ _ _ (by omega)] at cx
   have bx:=dig_bd X (j / 16)
   have p:=pow2_pos (j % 16)
   have bit:=dig_bit X j
   have bit0:0<=X / 2 ^ j % 2/\X / 2 ^ j % 2<=1:=by omega
   have sh0:0<=dig X (j / 16) / 2 ^ (j % 16):=Int.ediv_nonneg bx.1 (by omega)
   have hj:(j:Int)<128:=by omega
   obtain⟨sm1,sm2⟩:=hd.small x0 x1 d0
   have q0:=hd.q0
   have cl:=hi.cell (j:=j / 16) (by rw[digs_length];omega)
   rw[digs_getD _ _ _ (by omega)] at cl
   have fl:=hi.frozen (j / 16)
   have bl:=dig_bd (q * 2 ^ (j+1)) (j / 16)
   have HI:=Lib.hid hi
   have HD:=Lib.hid hd
   have HQ:Hid (2 * q * 2 ^ j=q * 2 ^ (j+1)):=by show _=_;rw[Int.pow_succ,Int.mul_comm 2 q,Int.mul_assoc,Int.mul_comm 2]
   have HQ1:Hid ((2 * q+1) * 2 ^ j=q * 2 ^ (j+1)+2 ^ j):=by show _=_;rw[Int.add_mul,Int.one_mul,HQ.out]
   clear hi hd
   by_cases hge:d<=2 * left+X / 2 ^ j % 2
   ·have hy:=HD.out.yes hge
    have hs:=hy.small x0 x1 d0
    obtain⟨hp1,hp2⟩:=digs_put q j (by omega) q0 (by rw[HQ1.out] at hs;exact hs.2)
    have HY:=Lib.hid hy
    have HP:=Lib.hid hp1
    have eL:IntKind.u64.wrap (IntKind.u64.wrap (IntKind.u64.wrap (2 * left)+X / 2 ^ j % 2) - d)=2 * left+X / 2 ^ j % 2 - d:=by simp only[u64w];omega
    have HE:=Lib.hid eL
    clear eL hy hs hp1 bit
    by_cases hh:9223372036854775808<=left
    ·have bit:=dig_bit X j
     go_wp2_with fail
     go_roundg j
     case measure=>omega
     case rel=>exact⟨2 * q+1,_,by omega,congrArg (Value.int IntKind.u64) HE.out,rfl,HY.out,by rw[HQ1.out,<-HP.out];exact HI.out.set_ _ _,by(repeat' (first|(with_reducible exact Below.refl _ _)|(with_reducible refine Below.alloc ?_ ?_ _)|(with_reducible refine Below.drew ?_)|(with_reducible refine below_drewN ?_ _)|(with_reducible refine Below.setCell ?_ ?_ _)|(with_reducible refine below_of (by assumption) ?_ ?_)|go_size))⟩
    ·have bit:=dig_bit X j
     go_wp2_with fail
     go_roundg j
     case measure=>omega
     case rel=>exact⟨2 * q+1,_,by omega,rfl,rfl,HY.out,by rw[HQ1.out,<-HP.out];exact HI.out.set_ _ _,by(repeat' (first|(with_reducible exact Below.refl _ _)|(with_reducible refine Below.alloc ?_ ?_ _)|(with_reducible refine Below.drew ?_)|(with_reducible refine below_drewN ?_ _)|(with_reducible refine Below.setCell ?_ ?_ _)|(with_reducible refine below_of (by assumption) ?_ ?_)|go_size))⟩
   ·have hn:=HD.out.no (by omega)
    have HN:=Lib.hid hn
    clear hn
    go_wp2_with fail
    go_roundg j
    case measure=>omega
    case rel=>exact⟨2 * q,_,by omega,rfl,rfl,HN.out,by rw[HQ.out];exact HI.out,by(repeat' (first|(with_reducible exact Below.refl _ _)|(with_reducible refine Below.alloc ?_ ?_ _)|(with_reducible refine Below.drew ?_)|(with_reducible refine below_drewN ?_ _)|(with_reducible refine Below.setCell ?_ ?_ _)|(with_reducible refine below_of (by assumption) ?_ ?_)|go_size))⟩
theorem number_any(v:Value)(X:Int)(fr:Nat)(f:Int)(w:World)(hx:IsD w v 8 X)(hf:f=(fr:Int))(hfr:fr<=4) :
 Calls Tryz.prog 294 #[v,.int .i64 f] w fun e w'=>e=.returned (.int .u64 (X / 65536 ^ fr % 18446744073709551616))/\Below w.heap.size w w':=by
 subst hf
 obtain⟨gx,rfl,dx⟩:=hx
 have lx:=dx.lt
 have DX:=Lib.hid dx
 clear dx
 go_enter Tryz.func294,Tryz.ntmps294
 go_wp2_with fail
 go_loopg [5,6] 4 (fun k n i wr=>k<=4/\n=.int .u64 (X / 65536 ^ (fr+k) % 65536 ^ (4 - k))/\i=.int .i64 ((fr:Int)+(k:Int) - 1)/\Below w.heap.size w wr)
 case atStart=>exact⟨by omega,by simp[Int.emod_one],by congr 1;omega,Below.refl _ _⟩
 case round=>
  obtain⟨hk,rfl,rfl,hb⟩:=hrel
  rcases Nat.eq_zero_or_pos gk with h0|h0
  ·subst h0
   go_wp2_with fail
   go_ret
   exact⟨rfl,by(repeat' (first|(with_reducible exact Below.refl _ _)|(with_reducible refine Below.alloc ?_ ?_ _)|(with_reducible refine Below.drew ?_)|(with_reducible refine below_drewN ?_ _)|(with_reducible refine Below.setCell ?_ ?_ _)|(with_reducible refine below_of (by assumption) ?_ ?_)|go_size))⟩
  ·obtain⟨j,rfl⟩:∃j,gk=j+1:=⟨gk - 1,by omega⟩
   have ej:((fr:Int)+((j+1:Nat):Int) - 1)=((fr+j:Nat):Int):=by omega
   rw[ej]
   have cx:=(DX.out.below hb lx).cell (j:=fr+j) (by rw[digs_length];omega)
   rw[digs_getD _ _ _ (by omega)] at cx
   have bx:=dig_bd X (fr+j)
   have HN:=Lib.hid (num_next X (fr+j) (3 - j))
   have p:=pow_pos' (4 - (j+1))
   have n0:0<=X / 65536 ^ (fr+(j+1)) % 65536 ^ (4 - (j+1)):=Int.emod_nonneg _ (by omega)
   have n1:X / 65536 ^ (fr+(j+1)) % 65536 ^ (4 - (j+1))<281474976710656:=by
    have h1:=Int.emod_lt_of_pos (X / 65536 ^ (fr+(j+1))) p
    have h2:(65536:Int) ^ (4 - (j+1))<=281474976710656:=by
     have:j=0\/j=1\/j=2\/j=3:=by omega
     rcases this with rfl|rfl|rfl|rfl<;>decide
    omega
   obtain⟨z,hz⟩:∃z,X / 65536 ^ (fr+(j+1)) % 65536 ^ (4 - (j+1))=z:=⟨_,rfl⟩
   rw[hz] at n0 n1 |-
   have HZ:=Lib.hid hz
   have hj8:(((fr+j:Nat):Int))<8:=by omega
   have hj9:(((fr+j:Nat):Int))=(fr:Int)+(j:Int):=by omega
   clear hz p
   go_wp2_with fail
   go_roundg j
   case measure=>omega
   case rel=>exact⟨by omega,congrArg (Value.int IntKind.u64) (by rw[show 4 - j=3 - j+1 by omega,HN.out,<-HZ.out,show 4 - (j+1)=3 - j by omega,Nat.add_assoc]),by congr 1;try omega,by(repeat' (first|(with_reducible exact Below.refl _ _)|(with_reducible refine Below.alloc ?_ ?_ _)|(with_reducible refine Below.drew ?_)|(with_reducible refine below_drewN ?_ _)|(with_reducible refine Below.setCell ?_ ?_ _)|(with_reducible refine below_of (by assumption) ?_ ?_)|go_size))⟩
theorem rmuldiv_any(a b d:Int)(w:World)(a0:0<=a)(a1:a<18446744073709551616)(b0:0<=b)(b1:b<18446744073709551616)(d0:0<d)(d1:d<18446744073709551616)(hq:a * b / d<18446744073709551616) :
 Calls Tryz.prog 199 #[.int .u64 a,.int .u64 b,.int .u64 d] w fun e w'=>e=.returned (.tuple #[.int .u64 (a * b / d),.int .u64 (a * b % d),.bool true])/\Below w.heap.size w w':=by
 obtain⟨m0,m1⟩:=mul_lt128 a0 a1 b0 b1
 have hd:(d == 0)=false:=by simp;omega
 have q0:0<=a * b / d:=Int.ediv_nonneg m0 (by omega)
 go_enter Tryz.func199,Tryz.ntmps199
 go_wp2_with fail
 refine(rmul_any a b _ a0 a1 b0 b1).mono ?_
 rintro e w1 ⟨v1,rfl,d1_,hb1⟩
 have D1:=Lib.hid d1_
 have hz1:=hb1.size
 clear d1_
 go_wp2_with fail
 refine(rdiv_any v1 (a * b) d _ D1.out m0 m1 d0 d1).mono ?_
 rintro e w2 ⟨v2,rfl,d2_,hb2⟩
 have D2:=Lib.hid d2_
 have hz2:=hb2.size
 clear d2_
 go_wp2_with fail
 refine(number_any v2 (a * b / d) 4 4 _ D2.out rfl (by omega)).mono ?_
 rw[show a * b / d / 65536 ^ 4 % 18446744073709551616=0 by omega]
 rintro e w3 ⟨rfl,hb3⟩
 have hz3:=hb3.size
 go_wp2_with fail
 refine(number_any v2 (a * b / d) 0 0 _ (D2.out.keep hb3) rfl (by omega)).mono ?_
 rw[show a * b / d / 65536 ^ 0 % 18446744073709551616=a * b / d by rw[Int.pow_zero,Int.ediv_one];omega]
 rintro e w4 ⟨rfl,hb4⟩
 have hz4:=hb4.size
 go_wp2_with fail
 go_ret3
 exact⟨rfl,by(repeat' (first|(with_reducible exact Below.refl _ _)|(with_reducible refine Below.alloc ?_ ?_ _)|(with_reducible refine Below.drew ?_)|(with_reducible refine below_drewN ?_ _)|(with_reducible refine Below.setCell ?_ ?_ _)|(with_reducible refine below_of (by assumption) ?_ ?_)|go_size))⟩
theorem rmuldiv_le(a b d:Int)(w:World)(a0:0<=a)(a1:a<18446744073709551616)(b0:0<=b)(b1:b<=d)(d0:0<d)(d1:d<18446744073709551616) :
 Calls Tryz.prog 199 #[.int .u64 a,.int .u64 b,.int .u64 d] w fun e w'=>e=.returned (.tuple #[.int .u64 (a * b / d),.int .u64 (a * b % d),.bool true])/\Below w.heap.size w w':=
 rmuldiv_any a b d w a0 a1 b0 (by omega) d0 d1 (Int.ediv_lt_of_lt_mul d0 (by have:a * b<=a * d:=Int.mul_le_mul_of_nonneg_left b1 a0;have:a * d<=18446744073709551615 * d:=Int.mul_le_mul_of_nonneg_right (by omega) (by omega);omega))
end Go.Proofs.YtkiebccnpheloaaGreat
