/- Parts of a proof. No condition. -/
import Derived.Test.YtilcnjbpmoijmaaGreatPw03
set_option maxRecDepth 100000
set_option maxHeartbeats 16000000
set_option linter.unusedVariables false
set_option linter.unusedSimpArgs false
namespace Go.Proofs.YtilcnjbpmoijmaaGreat
open Tryz
open Go.RowKit Go.Lib
def dP(t:TypeId)(k:IntKind)(base:Nat)(w:World)(v:Value)(l:List Int):Prop:=w.ownsRow base t 1 v l.length (l.map (Value.int k))
section
variable {t : TypeId} {k : IntKind} {base : Nat} {w w' : World} {v : Value} {l : List Int}
theorem dP.rd(h:dP t k base w v l):iY k w v l:=Rd.uK h
theorem dP.alloc(h:dP t k base w v l)(o:Obj):dP t k base (w.alloc o) v l:=World.ownsRow.alloc h o
theorem dP.drew(h:dP t k base w v l):dP t k base w.drew v l:=h
theorem dP.lt(h:dP t k base w v l):∀g,v.ownBlock=some g->base<=g/\g<w.heap.size:=World.ownsRow.lt h
theorem dP.stay(h:dP t k base w v l)(hk:∀g,v.ownBlock=some g->w'.heap[g]?=w.heap[g]?):dP t k base w' v l:=by
 obtain⟨h1,h2⟩:=h;refine⟨h1,?_⟩
 rcases h2 with h2|⟨g,cap,cur,rfl,e2,e3,r⟩
 ·exact .inl h2
 ·exact .inr ⟨g,cap,cur,rfl,e2,(hk g rfl).trans e3,r⟩
theorem dP.keep(h:dP t k base w v l)(hb:Below w.heap.size w w'):dP t k base w' v l:=h.stay fun g hg=>hb.block g (h.lt g hg).2
theorem dP.nil_(t:TypeId)(k:IntKind)(base:Nat)(w:World):dP t k base w (.slice none 0 0) []:=⟨rfl,.inl ⟨rfl,rfl⟩⟩
theorem dP.one(t:TypeId)(k:IntKind)(w:World)(x:Int):dP t k w.heap.size (w.alloc (.cells #[.int k x] t)) (.slice (some ⟨w.heap.size,0,none⟩) 1 1) [x]:=
 ⟨rfl,.inr ⟨w.heap.size,1,_,rfl,aS _,heap_alloc_new _ _,ag,by unfold maxLen;omega,rfl,ag⟩⟩
theorem iY.fK(t:TypeId)(k:IntKind)(w:World)(x:Int)(H:Nat)(h:w.heap.size=H):iY k (w.alloc (.cells #[.int k x] t)) (.slice (some ⟨H,0,none⟩) 1 1) [x]:=by
 subst h;exact(dP.one t k w x).rd
end
variable{X a b carry d left q:Int}{l:List Int}{i:Nat}
theorem aw2:(prog.info? 2).map (fun i=>(i.zero,i.size,i.bytes))=some (some (.int .i64 0),1,8):=by kernel_rfl
theorem UG(k:IntKind)(l:List Int):∀u∈l.map (Value.int k),u.oneCell'=true:=fun u hu=>by
 obtain⟨x,_,rfl⟩:=List.mem_map.1 hu;rfl
theorem Nj{ts t:TypeId}{k:IntKind}(ht:prog.underlying ts=some (.slice t))(hinfo:(prog.info? t).map (fun i=>(i.zero,i.size,i.bytes))=some (some (.int k 0),1,8))
 {w:World} {ops:Array Oper} {rest:List Oper} {o:Oper} {a:Act} {Q:Exit->Act->World->Prop} (hgd:o.guard=none) (s x:Operand)
 (ho:o.op=.call {callee:=.builtin .append,args:=#[s,x],argTypes:=#[ts,ts]})
 (base:Nat) (v:Value) (xs:List Int) (hs:a.eval s=v) (hown:dP t k base w v xs)
 (u:Value) (news:List Int) (hx:a.eval x=u) (hr:iY k w u news)
 (hlen:xs.length+news.length<=1099511627776) (hbase:base<=w.heap.size)
 (h:∀v' w',dP t k base w' v' (xs++news)->w.grownBy w' v.ownBlock->(v'.ownBlock=v.ownBlock\/v'.ownBlock=some w.heap.size)->wpList prog ops Q rest (a.put o.dst v') w'):wpList prog ops Q (o::rest) a w:=by
 obtain⟨i0,hi,hz0,hz1,hz2⟩:=info_parts hinfo;obtain⟨A,c,rfl,_,_,_⟩:=hr.form;refine jX w hgd s x ts ho base t i0 _ 1 8 ht hi hz0 hz1 hz2 rfl ae v xs.length (xs.map (Value.int k)) hs hown A news.length c (news.map (Value.int k)) hx hr (UG k _)
  (by unfold maxLen;omega) ae hbase fun v' w' h1 h2 h3=>h v' w' ?_ h2 h3
 unfold dP;rw[aQ,List.map_append];exact h1
open Tryz
open Go.RowKit
def qU(n:Int)(j:Nat):Int:=n / 65536 ^ j % 65536
def uQ:List Int->Int
 | []=>0
 | d::l=>d+65536 * uQ l
def oz:Nat->Int->List Int
 | 0,_=>[]
 | k+1,n=>n % 65536::oz k (n / 65536)
def okD(l:List Int):Prop:=∀d∈l,0<=d/\d<65536
theorem qV(j:Nat):(0:Int)<65536 ^ j:=Int.pow_pos ae
theorem mP(n:Int)(j:Nat):0<=qU n j/\qU n j<65536:=⟨Int.emod_nonneg _ ae,Int.emod_lt_of_pos _ ae⟩
theorem Za(n:Int):qU n 0=n % 65536:=by simp[qU]
theorem Zb(n:Int)(j:Nat):qU n (j+1)=qU (n / 65536) j:=by
 unfold qU;rw[Int.pow_succ,Int.mul_comm,<-Int.ediv_ediv_of_nonneg ae]
theorem lu(k:Nat):∀n,(oz k n).length=k:=by
 induction k with
 | zero=>intro n;rfl
 | succ k ih=>intro n;simp[oz,ih]
theorem Zc(k:Nat):∀(n:Int) (j:Nat),j<k->(oz k n)[j]?=some (qU n j):=by
 induction k with
 | zero=>intro n j h;omega
 | succ k ih=>
  intro n j h
  cases j with
  | zero=>simp[oz,Za]
  | succ j=>simp only[oz,aN];rw[ih _ _ ae,Zb]
theorem qW(k:Nat)(n:Int)(j:Nat)(h:j<k):(oz k n)[j]?.getD 0=qU n j:=by
 rw[Zc k n j h];rfl
theorem am1(k:Nat):∀n,okD (oz k n):=by
 induction k with
 | zero=>intro n d h;cases h
 | succ k ih=>
  intro n d h
  rcases bn.1 h with rfl|h
  ·exact⟨Int.emod_nonneg _ ae,Int.emod_lt_of_pos _ ae⟩
  ·exact ih _ d h
theorem Zd(k:Nat):∀n,0<=n->n<65536 ^ k->uQ (oz k n)=n:=by
 induction k with
 | zero=>intro n h0 h1;simp at h1;simp[oz,uQ];omega
 | succ k ih=>
  intro n h0 h1;have h2:n / 65536<65536 ^ k:=Int.ediv_lt_of_lt_mul ae (by rw[<-Int.pow_succ];exact h1)
  simp only[oz,uQ];rw[ih _ ae h2]
  omega
theorem uS:∀l,okD l->l=oz l.length (uQ l)
 | [],_=>rfl
 | d::l,h=>by
  have h1:=uS l (fun x hx=>h x (aY _ hx))
  have h2:=h d (aT ..);simp only[aU,oz,uQ];rw[show(d+65536 * uQ l) % 65536=d by omega,show(d+65536 * uQ l) / 65536=uQ l by omega,<-h1]
theorem yP:∀(l:List Int) (j:Nat) (v:Int),j<l.length->uQ (l.set j v)=uQ l+(v - l[j]?.getD 0) * 65536 ^ j
 | [],j,v,h=>by simp at h
 | d::l,0,v,_=>by simp[uQ];omega
 | d::l,j+1,v,h=>by
  have:=yP l j v (by simpa using h)
  simp only[List.set_cons_succ,uQ,this,aN,Int.pow_succ];rw[Int.mul_comm (65536 ^ j) 65536,<-bU,Int.mul_comm _ 65536,bU];omega
theorem J7(h:okD l)(j:Nat){v:Int}(h0:0<=v)(h1:v<65536):okD (l.set j v):=by
 intro d hd
 rcases List.mem_or_eq_of_mem_set hd with hd|rfl
 ·exact h d hd
 ·exact⟨h0,h1⟩
theorem EP(h:okD l)(j:Nat):0<=l[j]?.getD 0/\l[j]?.getD 0<65536:=by
 cases hj:l[j]? with
 | none=>simp
 | some d=>simpa using h d (List.mem_of_getElem? hj)
structure ER(a b:Int)(i k:Nat)(carry:Int)(l:List Int):Prop where
 len:l.length=8
 ok:okD l
 c0:0<=carry
 c1:carry<65536
 e:uQ l+carry * 65536 ^ (i+k)=(a % 65536 ^ i) * b+qU a i * 65536 ^ i * (b % 65536 ^ k)
 z:∀j,i+4<=j->l[j]?.getD 0=0
structure sD(a b:Int)(i:Nat)(l:List Int):Prop where
 len:l.length=8
 ok:okD l
 e:uQ l=(a % 65536 ^ i) * b
 z:∀j,i+4<=j->l[j]?.getD 0=0
theorem IU(a:Int)(i:Nat):a % 65536 ^ (i+1)=a % 65536 ^ i+qU a i * 65536 ^ i:=by
 have p:=qV i;have h1:=Int.mul_ediv_add_emod a (65536 ^ i);have h2:=Int.mul_ediv_add_emod a (65536 ^ (i+1));have h3:a / 65536 ^ (i+1)=a / 65536 ^ i / 65536:=by rw[Int.pow_succ,Int.ediv_ediv_of_nonneg ae]
 have h4:=Int.mul_ediv_add_emod (a / 65536 ^ i) 65536;unfold qU;rw[h3,Int.pow_succ] at h2;generalize a / 65536 ^ i % 65536=m at *;generalize a / 65536 ^ i / 65536=k at *;have h5:(65536:Int) ^ i * 65536 * k=65536 ^ i * (65536 * k):=by rw[bU]
 have h6:(65536:Int) ^ i * (65536 * k+m)=65536 ^ i * (65536 * k)+m * 65536 ^ i:=by rw[Int.mul_add,Int.mul_comm m]
 rw[<-h4,h6] at h1;rw[Int.pow_succ];omega
theorem sD.start(a b:Int):sD a b 0 (List.replicate 8 0):=by
 refine⟨rfl,fun d h=>?_,?_,fun j _=>?_⟩
 ·have:=List.eq_of_mem_replicate h;omega
 ·simp[uQ,List.replicate,Int.emod_one]
 ·rw[List.getElem?_replicate];split<;>rfl
theorem sD.into(h:sD a b i l):ER a b i 0 0 l:=
 ⟨h.len,h.ok,ae,ae,by rw[h.e];simp[Int.emod_one],h.z⟩
theorem IV{x y:Int}(x0:0<=x)(x1:x<65536)(y0:0<=y)(y1:y<65536):0<=x * y/\x * y<=4294836225:=by
 have h1:x * y<=65535 * y:=Int.mul_le_mul_of_nonneg_right ae y0
 exact⟨Int.mul_nonneg x0 y0,ae⟩
theorem ER.next{k:Nat}(h:ER a b i k carry l)(hk:k<4)(hi:i<4) :
 ER a b i (k+1) ((l[i+k]?.getD 0+qU a i * qU b k+carry) / 65536) (l.set (i+k) ((l[i+k]?.getD 0+qU a i * qU b k+carry) % 65536)):=by
 obtain⟨len,ok,c0,c1,e,z⟩:=h;have hd:=EP ok (i+k);have hm:=IV (mP a i).1 (mP a i).2 (mP b k).1 (mP b k).2;have hs:=yP l (i+k) ((l[i+k]?.getD 0+qU a i * qU b k+carry) % 65536) ae
 refine⟨by simp[len],J7 ok _ ae  ae,ae,ae,?_,fun j hj=>?_⟩
 ·rw[hs,IU b k]
  have e1:(65536:Int) ^ (i+(k+1))=65536 ^ (i+k) * 65536:=by rw[<-Nat.add_assoc,Int.pow_succ]
  have e2:(65536:Int) ^ (i+k)=65536 ^ i * 65536 ^ k:=Int.pow_add ..;have e3:qU a i * 65536 ^ i * (b % 65536 ^ k+qU b k * 65536 ^ k)=qU a i * 65536 ^ i * (b % 65536 ^ k)+qU a i * qU b k * 65536 ^ (i+k):=by
   rw[Int.mul_add,e2]
   congr 1
   rw[bU,Int.mul_left_comm (65536 ^ i),bU]
  rw[e1,e3];generalize l[i+k]?.getD 0=u at *;generalize qU a i * qU b k=m at *;generalize (65536:Int) ^ (i+k)=P at *;generalize hn:u+m+carry=n at *;have h4:n / 65536 * (P * 65536)=n / 65536 * 65536 * P:=by rw[Int.mul_comm P,bU]
  have h5:(n % 65536 - u) * P+n / 65536 * 65536 * P=(m+carry) * P:=by
   rw[<-Int.add_mul];congr 1;omega
  have h6:(m+carry) * P=m * P+carry * P:=Int.add_mul ..;omega
 ·rw[List.getElem?_set_ne ae]
  exact z j hj
theorem ER.o(h:ER a b i 4 carry l)(hi:i<4)(b0:0<=b)(b1:b<18446744073709551616) :
 sD a b (i+1) (l.set (i+4) (l[i+4]?.getD 0+carry)):=by
 obtain⟨len,ok,c0,c1,e,z⟩:=h;have hz:=z (i+4) ae
 have hs:=yP l (i+4) (l[i+4]?.getD 0+carry) ae
 rw[hz] at hs |-;refine⟨by simp[len],J7 ok _ ae  ae,?_,fun j hj=>?_⟩
 ·rw[show b % 65536 ^ 4=b by omega] at e
  rw[hs,IU a i,Int.add_mul];generalize (65536:Int) ^ (i+4)=P at *;have:(0+carry - 0) * P=carry * P:=by congr 1;omega
  omega
 ·rw[List.getElem?_set_ne ae]
  exact z j ae
theorem sD.fin(h:sD a b 4 l)(a0:0<=a)(a1:a<18446744073709551616):l=oz 8 (a * b):=by
 have h1:=uS l h.ok;rw[h.len,h.e,show a % 65536 ^ 4=a by omega] at h1
 exact h1
theorem Ze(X:Int)(i:Nat):X / 65536 ^ i=X / 65536 ^ (i+1) * 65536+qU X i:=by
 unfold qU;rw[Int.pow_succ,<-Int.ediv_ediv_of_nonneg (by have:=qV i;omega)]
 omega
theorem QM(h0:0<=X)(h1:X<340282366920938463463374607431768211456):uQ (oz 8 X)=X:=Zd 8 X h0 ae
theorem lN(i:Nat):(0:Int)<2 ^ i:=Int.pow_pos ae
theorem J8(X:Int)(i:Nat):qU X (i / 16) / 2 ^ (i % 16) % 2=X / 2 ^ i % 2:=by
 unfold qU;have e1:(65536:Int) ^ (i / 16) * 2 ^ (i % 16)=2 ^ i:=by
  rw[show(65536:Int)=2 ^ 16 by decide,<-Int.pow_mul,<-Int.pow_add,show 16 * (i / 16)+i % 16=i by omega]
 rw[<-e1,<-Int.ediv_ediv_of_nonneg (by have:=qV (i / 16);omega)]
 generalize X / 65536 ^ (i / 16)=y;have e2:(65536:Int)=2 ^ (i % 16) * (2 * 2 ^ (15 - i % 16)):=by
  rw[<-bU,Int.mul_comm _ 2,bU,<-Int.pow_add,show i % 16+(15 - i % 16)=15 by omega];decide
 have p:=lN (i % 16);have q:=lN (15 - i % 16);have h1:=Int.mul_ediv_add_emod y 65536;generalize y % 65536=m at *;generalize hk:y / 65536=k at *;clear hk;rw[<-h1];have h2:65536 * k+m=m+2 ^ (i % 16) * (2 * (2 ^ (15 - i % 16) * k)):=by
  have:(2:Int) ^ (i % 16) * (2 * (2 ^ (15 - i % 16) * k))=2 ^ (i % 16) * (2 * 2 ^ (15 - i % 16)) * k:=by
   rw[bU,bU]
  rw[this,<-e2];omega
 rw[h2,Int.add_mul_ediv_left _ _ ae]
 omega
theorem Zf(q:Int)(i:Nat)(hi:i<128)(q0:0<=q)(q1:q * 2 ^ (i+1)+2 ^ i<340282366920938463463374607431768211456) :
 (oz 8 (q * 2 ^ (i+1))).set (i / 16) (qU (q * 2 ^ (i+1)) (i / 16)+2 ^ (i % 16))=oz 8 (q * 2 ^ (i+1)+2 ^ i)/\qU (q * 2 ^ (i+1)) (i / 16)+2 ^ (i % 16)<65536:=by
 have pi:=lN i;have pi1:=lN (i+1);have Q0:0<=q * 2 ^ (i+1):=Int.mul_nonneg q0 ae
 have hl:=lu 8 (q * 2 ^ (i+1));have hg:=qW 8 (q * 2 ^ (i+1)) (i / 16) ae
 have hbd:=mP (q * 2 ^ (i+1)) (i / 16);have p:=lN (i % 16);have pq:=lN (15 - i % 16);have e1:(2:Int) ^ (i % 16) * 65536 ^ (i / 16)=2 ^ i:=by
  rw[show(65536:Int)=2 ^ 16 by decide,<-Int.pow_mul,<-Int.pow_add,show i % 16+16 * (i / 16)=i by omega]
 -- the digit is a multiple of twice the bit
 have hm:qU (q * 2 ^ (i+1)) (i / 16)=(q % 2 ^ (15 - i % 16)) * (2 * 2 ^ (i % 16)):=by
  unfold qU;have e3:q * 2 ^ (i+1)=(q * (2 * 2 ^ (i % 16))) * 65536 ^ (i / 16):=by
   rw[Int.pow_succ,<-e1,bU,bU,Int.mul_comm 2,bU,Int.mul_comm 2]
  have e4:(65536:Int)=2 ^ (15 - i % 16) * (2 * 2 ^ (i % 16)):=by
   rw[Int.mul_comm 2,<-bU,<-Int.pow_add,show 15 - i % 16+i % 16=15 by omega];decide
  rw[e3,Int.mul_ediv_cancel _ (by have:=qV (i / 16);omega)]
  generalize (2:Int) ^ (15 - i % 16)=A at *;generalize (2:Int) ^ (i % 16)=B at *;rw[e4,Int.mul_comm q,Int.mul_comm A,Int.mul_emod_mul_of_pos _ _ ae,Int.mul_comm]
 have hlt:qU (q * 2 ^ (i+1)) (i / 16)+2 ^ (i % 16)<65536:=by
  have e4:(65536:Int)=2 ^ (15 - i % 16) * (2 * 2 ^ (i % 16)):=by
   rw[Int.mul_comm 2,<-bU,<-Int.pow_add,show 15 - i % 16+i % 16=15 by omega];decide
  have h1:=Int.emod_lt_of_pos q pq;rw[hm];generalize (2:Int) ^ (15 - i % 16)=A at *;generalize (2:Int) ^ (i % 16)=B at *;generalize q % A=r at *;have h2:(r+1) * (2 * B)<=A * (2 * B):=Int.mul_le_mul_of_nonneg_right ae  ae
  rw[Int.add_mul] at h2;omega
 refine⟨?_,hlt⟩
 have hok:=J7 (am1 8 (q * 2 ^ (i+1))) (i / 16) (v:=qU (q * 2 ^ (i+1)) (i / 16)+2 ^ (i % 16)) ae hlt
 have hv:=yP (oz 8 (q * 2 ^ (i+1))) (i / 16) (qU (q * 2 ^ (i+1)) (i / 16)+2 ^ (i % 16)) ae
 rw[hg,QM Q0 ae,show qU (q * 2 ^ (i+1)) (i / 16)+2 ^ (i % 16) - qU (q * 2 ^ (i+1)) (i / 16)=2 ^ (i % 16) by omega,e1] at hv
 have hu:=uS _ hok;rw[hv,bK,hl] at hu;exact hu
structure n_(X d:Int)(i:Nat)(q left:Int):Prop where
 e:X / 2 ^ i=q * d+left
 q0:0<=q
 l0:0<=left
 l1:left<d
theorem n_.bit(h:n_ X d (i+1) q left):X / 2 ^ i=2 * q * d+(2 * left+X / 2 ^ i % 2):=by
 have h1:X / 2 ^ (i+1)=X / 2 ^ i / 2:=by rw[Int.pow_succ,Int.ediv_ediv_of_nonneg (by have:=lN i;omega)]
 have h2:=h.e;rw[h1] at h2;have h3:2 * q * d=2 * (q * d):=bU ..;omega
theorem n_.yes(h:n_ X d (i+1) q left)(hd:d<=2 * left+X / 2 ^ i % 2):n_ X d i (2 * q+1) (2 * left+X / 2 ^ i % 2 - d):=by
 have h1:=h.bit;have:=h.q0;have:=h.l0;have:=h.l1;have h2:(2 * q+1) * d=2 * q * d+d:=by rw[Int.add_mul,Int.one_mul]
 exact⟨by omega,ae,ae,ae⟩
theorem n_.no(h:n_ X d (i+1) q left)(hd:2 * left+X / 2 ^ i % 2<d):n_ X d i (2 * q) (2 * left+X / 2 ^ i % 2):=by
 have h1:=h.bit;have:=h.q0;have:=h.l0;exact⟨by omega,ae,ae,ae⟩
theorem n_.start(X d:Int)(x0:0<=X)(x1:X<340282366920938463463374607431768211456)(d0:0<d):n_ X d 128 0 0:=by
 refine⟨?_,ae,ae,d0⟩
 rw[Int.ediv_eq_zero_of_lt x0 ae]
 omega
theorem n_.fin(h:n_ X d 0 q left):q=X / d/\left=X % d:=by
 have h1:=h.e;simp at h1
 have h2:=Int.ediv_emod_unique (a:=X) (b:=d) (r:=left) (q:=q) (by have:=h.l0;have:=h.l1;omega)
 have h3:=h2.2 ⟨by rw[h1,Int.mul_comm];omega,h.l0,h.l1⟩
 exact⟨h3.1.symm,h3.2.symm⟩
theorem n_.small(h:n_ X d i q left)(x0:0<=X)(x1:X<340282366920938463463374607431768211456)(d0:0<d):q * 2 ^ i+2 ^ i<=340282366920938463463374607431768211456+2 ^ i/\q * 2 ^ i<340282366920938463463374607431768211456:=by
 have p:=lN i;have h1:q * 1<=q * d:=Int.mul_le_mul_of_nonneg_left ae h.q0
 have h2:q<=X / 2 ^ i:=by have:=h.e;have:=h.l0;omega
 have h3:q * 2 ^ i<=X / 2 ^ i * 2 ^ i:=Int.mul_le_mul_of_nonneg_right h2 ae
 have h4:=Int.ediv_mul_le X (show(2:Int) ^ i≠0 by omega)
 omega
theorem Zg(X:Int)(j m:Nat):X / 65536 ^ j % 65536 ^ (m+1)=65536 * (X / 65536 ^ (j+1) % 65536 ^ m)+qU X j:=by
 have h1:=Ze X j;have h2:=mP X j;have p:=qV m;rw[h1];generalize X / 65536 ^ (j+1)=y;generalize qU X j=d at *;have h3:=Int.mul_ediv_add_emod y (65536 ^ m);have h4:=Int.emod_nonneg y (show(65536:Int) ^ m≠0 by omega)
 have h5:=Int.emod_lt_of_pos y p;generalize y % 65536 ^ m=r at *;generalize y / 65536 ^ m=k at *;have e1:y * 65536+d=(65536 * r+d)+65536 ^ (m+1) * k:=by
  have:(65536:Int) ^ (m+1) * k=65536 ^ m * k * 65536:=by rw[Int.pow_succ,bU,Int.mul_comm 65536,<-bU]
  omega
 rw[e1,Int.add_mul_emod_self_left,Int.emod_eq_of_lt ae (by rw[Int.pow_succ];omega)]
open Tryz
open Go.RowKit Go.Lib
def IsD(w:World)(v:Value)(k:Nat)(X:Int):Prop:=∃g,v=.slice (some ⟨g,0,none⟩) k k/\oh w g 46 .u64 (oz k X)
theorem IsD.keep{w w':World}{v:Value}{k:Nat}{X:Int}(h:IsD w v k X)(hb:Below w.heap.size w w'):IsD w' v k X:=let ⟨g,hv,hg⟩:=h;⟨g,hv,hg.keep hb⟩
theorem EY(n:Int)(w:World)(n0:0<=n)(n1:n<18446744073709551616) :
 aH 366 #[.int .u64 n] w fun e w'=>∃v,e=.returned v/\IsD w' v 4 n/\Below w.heap.size w w':=by
 go_enter func366,ntmps366
 go_wp2
 go_ret;refine⟨_,rfl,⟨w.heap.size,rfl,?_⟩,bw⟩
 have:oz 4 n=[n % 65536,n / 65536 % 65536,n / 4294967296 % 65536,n / 281474976710656]:=by simp only[oz,List.cons.injEq,and_true,true_and];omega
 rw[oh,this];exact dK.new w _ _
theorem Zh(a b:Int)(w:World)(a0:0<=a)(a1:a<18446744073709551616)(b0:0<=b)(b1:b<18446744073709551616) :
 aH 301 #[.int .u64 a,.int .u64 b] w fun e w'=>∃v,e=.returned v/\IsD w' v 8 (a * b)/\Below w.heap.size w w':=by
 have hmk:∀W:World,(Instr.makeSlice 239 (.int .i64 8) (.int .i64 8)).run prog W=.ok (.slice (some ⟨W.heap.size,0,none⟩) 8 8) (W.alloc (.cells ((List.replicate 8 (0:Int)).map (Value.int .u64)).toArray 46)):=fun _=>by kernel_rfl
 obtain⟨L0,hL0⟩:∃L,List.replicate 8 (0:Int)=L:=⟨_,rfl⟩;have st:=sD.start a b;rw[hL0] at st hmk;have ST:=aI st;clear st hL0
 go_enter func301,ntmps301
 go_upto_region 2 with(first|(go_at_call_of 366 (Value.int .u64 a);refine(EY a _ a0 a1).mono ?_;rintro e w1 ⟨v1,rfl,d1,hb1⟩;have D1:=aI d1;clear d1)|(refine(EY b _ b0 b1).mono ?_;rintro e w2 ⟨v2,rfl,d2,hb2⟩;have D2:=aI d2;clear d2))
 obtain⟨gx,rfl,dx⟩:=D1.o.keep hb2;obtain⟨gy,rfl,dy⟩:=D2.o;have lx:=dx.lt;have ly:=dy.lt;have DX:=aI dx;have DY:=aI dy;have hb0:=Ey hb2 (by have:=hb1.size;omega) hb1
 have hz0:=hb0.size;clear dx dy D1 D2 hb1 hb2
 go_wp2_with fail
 go_loopg [8] 4 (fun k i wr=>∃(m:Nat) (l:List Int),k=4 - m/\m<=4/\i=.int .i64 m/\sD a b m l/\oh wr w2.heap.size 46 .u64 l/\Below w2.heap.size w2 wr)
 case atStart=>exact⟨0,L0,rfl,ae,rfl,ST.o,dK.new _ _ _,bw⟩
 case round=>
  obtain⟨m,l,hgk,hm,rfl,ho,hi,hb⟩:=hrel;obtain⟨wo,rfl⟩:∃wo:World,wo=wr:=⟨_,rfl⟩;have HG:=aI hgk;have HI:=aI hi;have hzo:=hb.size;clear hi hgk
  by_cases h4:m<4
  ·have HO:=aI ho.into
   clear ho
   go_wp2_with fail
   go_loopg [9,10] 4 (fun k c i wr=>∃(q:Nat) (cc:Int) (l:List Int),k=4 - q/\q<=4/\c=.int .u64 cc/\i=.int .i64 q/\ER a b m q cc l/\oh wr w2.heap.size 46 .u64 l/\Below w2.heap.size w2 wr)
   case atStart=>exact⟨0,0,l,rfl,ae,rfl,rfl,HO.o,HI.o,hb⟩
   case round=>
    obtain⟨q,cc,l,hgk,hq,rfl,rfl,hin,hi,hb⟩:=hrel;have HG2:=aI hgk;clear hgk;have hl:=hin.len
    by_cases hq4:q<4
    ·have cl:=hi.cell (j:=m+q) (by omega)
     have fl:=hi.frozen (m+q);have cx:=(DX.o.below hb lx).cell (j:=m) (by rw[lu];omega)
     have cy:=(DY.o.below hb ly).cell (j:=q) (by rw[lu];omega)
     rw[qW _ _ _ ae] at cx cy
     have bl:=EP hin.ok (m+q);have bm:=IV (mP a m).1 (mP a m).2 (mP b q).1 (mP b q).2;have bc0:=hin.c0;have bc1:=hin.c1;have HN:=aI (hin.next hq4 h4);have HI2:=aI hi;have n0:=HN.o.c0;clear hin hi hl;have hml:((m:Int)+(q:Int))<8:=ae
     go_wp2_with fail
     go_quiet (fail)
     go_wp2_with fail
     go_roundg (4 - (q+1))
     case measure=>have:=HG2.o;omega
     case rel=>exact⟨q+1,_,_,rfl,ae,rfl,ai,HN.o,(HI2.o.drewN _).dQ _ _,bw⟩
    ·have hq':q=4:=ae
     subst hq';have HN:=aI (hin.o h4 b0 b1);have cl:=hi.cell (j:=m+4) (by omega)
     have fl:=hi.frozen (m+4);have bl:=EP hin.ok (m+4);have bc0:=hin.c0;have bc1:=hin.c1;have HI2:=aI hi;clear hin hi hl;have hml:((m:Int)+4)<8:=ae
     go_wp2_with fail
     go_roundg (4 - (m+1))
     case measure=>have:=HG.o;omega
     case rel=>exact⟨m+1,_,rfl,ae,ai,HN.o,HI2.o.dQ _ _,bw⟩
  ·have hm':m=4:=ae
   subst hm';have HF:=aI (ho.fin a0 a1);clear ho
   go_wp2_with fail
   go_ret;exact⟨_,rfl,⟨w2.heap.size,rfl,by rw[<-HF.o];exact HI.o⟩,bw⟩
theorem Zi(v:Value)(X d:Int)(w:World)(hx:IsD w v 8 X)(x0:0<=X)(x1:X<340282366920938463463374607431768211456)(d0:0<d)(d1:d<18446744073709551616) :
 aH 300 #[v,.int .u64 d] w fun e w'=>∃v,e=.returned (.tuple #[v,.int .u64 (X % d)])/\IsD w' v 8 (X / d)/\Below w.heap.size w w':=by
 have hmk:∀W:World,(Instr.makeSlice 239 (.int .i64 8) (.int .i64 8)).run prog W=.ok (.slice (some ⟨W.heap.size,0,none⟩) 8 8) (W.alloc (.cells ((oz 8 0).map (Value.int .u64)).toArray 46)):=fun _=>by kernel_rfl
 obtain⟨L0,hL0⟩:∃L,oz 8 0=L:=⟨_,rfl⟩;rw[hL0] at hmk;have HL:=aI hL0;clear hL0;obtain⟨gx,rfl,dx⟩:=hx;have lx:=dx.lt;have DX:=aI dx;clear dx
 go_enter func300,ntmps300
 go_wp2_with fail
 go_loopg [7,8] 128 (fun k lv i wr=>∃(q left:Int),k<=128/\lv=.int .u64 left/\i=.int .i64 ((k:Int) - 1)/\n_ X d k q left/\oh wr w.heap.size 46 .u64 (oz 8 (q * 2 ^ k))/\Below w.heap.size w wr)
 case atStart=>exact⟨0,0,ae,rfl,rfl,n_.start X d x0 x1 d0,by rw[Int.zero_mul,HL.o];exact dK.new _ _ _,bw⟩
 case round=>
  obtain⟨q,left,hk,rfl,rfl,hd,hi,hb⟩:=hrel;have hl0:=hd.l0;have hl1:=hd.l1
  rcases bQ gk with h0|h0
  ·subst h0
   have HI:=aI hi;have HF:=aI hd.fin;clear hi hd
   go_wp2_with fail
   go_ret2
   refine⟨_,by rw[<-HF.o.2];rfl,⟨w.heap.size,rfl,?_⟩,hb⟩
   rw[<-HF.o.1]
   simpa using HI.o
  ·obtain⟨j,rfl⟩:∃j,gk=j+1:=⟨gk - 1,ae⟩
   have ej:(((j+1:Nat):Int) - 1)=(j:Int):=ae
   rw[ej];have cx:=(DX.o.below hb lx).cell (j:=j / 16) (by rw[lu];omega)
   rw[qW _ _ _ ae] at cx
   have bx:=mP X (j / 16);have p:=lN (j % 16);have bit:=J8 X j;have ce4:0<=X / 2 ^ j % 2/\X / 2 ^ j % 2<=1:=ae
   have sh0:0<=qU X (j / 16) / 2 ^ (j % 16):=Int.ediv_nonneg bx.1 ae
   have hj:(j:Int)<128:=ae
   obtain⟨sm1,sm2⟩:=hd.small x0 x1 d0;have q0:=hd.q0;have cl:=hi.cell (j:=j / 16) (by rw[lu];omega)
   rw[qW _ _ _ ae] at cl
   have fl:=hi.frozen (j / 16);have bl:=mP (q * 2 ^ (j+1)) (j / 16);have HI:=aI hi;have HD:=aI hd;have HQ:Hid (2 * q * 2 ^ j=q * 2 ^ (j+1)):=by show _=_;rw[Int.pow_succ,Int.mul_comm 2 q,bU,Int.mul_comm 2]
   have HQ1:Hid ((2 * q+1) * 2 ^ j=q * 2 ^ (j+1)+2 ^ j):=by show _=_;rw[Int.add_mul,Int.one_mul,HQ.o]
   clear hi hd
   by_cases hge:d<=2 * left+X / 2 ^ j % 2
   ·have hy:=HD.o.yes hge
    have hs:=hy.small x0 x1 d0;obtain⟨hp1,hp2⟩:=Zf q j ae q0 (by rw[HQ1.o] at hs;exact hs.2)
    have HY:=aI hy;have HP:=aI hp1;have eL:IntKind.u64.wrap (IntKind.u64.wrap (IntKind.u64.wrap (2 * left)+X / 2 ^ j % 2) - d)=2 * left+X / 2 ^ j % 2 - d:=by simp only[fF];omega
    have HE:=aI eL;clear eL hy hs hp1 bit
    by_cases hh:9223372036854775808<=left
    ·have bit:=J8 X j
     go_wp2_with fail
     go_roundg j
     case measure=>omega
     case rel=>exact⟨2 * q+1,_,ae,congrArg (Value.int IntKind.u64) HE.o,rfl,HY.o,by rw[HQ1.o,<-HP.o];exact HI.o.dQ _ _,bw⟩
    ·have bit:=J8 X j
     go_wp2_with fail
     go_roundg j
     case measure=>omega
     case rel=>exact⟨2 * q+1,_,ae,rfl,rfl,HY.o,by rw[HQ1.o,<-HP.o];exact HI.o.dQ _ _,bw⟩
   ·have hn:=HD.o.no ae
    have HN:=aI hn;clear hn
    go_wp2_with fail
    go_roundg j
    case measure=>omega
    case rel=>exact⟨2 * q,_,ae,rfl,rfl,HN.o,by rw[HQ.o];exact HI.o,bw⟩
theorem EZ(v:Value)(X:Int)(fr:Nat)(f:Int)(w:World)(hx:IsD w v 8 X)(hf:f=(fr:Int))(hfr:fr<=4) :
 aH 302 #[v,.int .i64 f] w (aG w (.int .u64 (X / 65536 ^ fr % 18446744073709551616))):=by
 subst hf;obtain⟨gx,rfl,dx⟩:=hx;have lx:=dx.lt;have DX:=aI dx;clear dx
 go_enter func302,ntmps302
 go_wp2_with fail
 go_loopg [5,6] 4 (fun k n i wr=>k<=4/\n=.int .u64 (X / 65536 ^ (fr+k) % 65536 ^ (4 - k))/\i=.int .i64 ((fr:Int)+(k:Int) - 1)/\Below w.heap.size w wr)
 case atStart=>exact⟨by omega,by simp[Int.emod_one],by congr 1;omega,aO _ _⟩
 case round=>
  obtain⟨hk,rfl,rfl,hb⟩:=hrel
  rcases bQ gk with h0|h0
  ·subst h0
   go_wp2_with fail
   go_ret;exact⟨rfl,bw⟩
  ·obtain⟨j,rfl⟩:∃j,gk=j+1:=⟨gk - 1,ae⟩
   have ej:((fr:Int)+((j+1:Nat):Int) - 1)=((fr+j:Nat):Int):=ae
   rw[ej];have cx:=(DX.o.below hb lx).cell (j:=fr+j) (by rw[lu];omega)
   rw[qW _ _ _ ae] at cx
   have bx:=mP X (fr+j);have HN:=aI (Zg X (fr+j) (3 - j));have p:=qV (4 - (j+1));have n0:0<=X / 65536 ^ (fr+(j+1)) % 65536 ^ (4 - (j+1)):=Int.emod_nonneg _ ae
   have n1:X / 65536 ^ (fr+(j+1)) % 65536 ^ (4 - (j+1))<281474976710656:=by
    have h1:=Int.emod_lt_of_pos (X / 65536 ^ (fr+(j+1))) p;have h2:(65536:Int) ^ (4 - (j+1))<=281474976710656:=by
     have:j=0\/j=1\/j=2\/j=3:=ae
     rcases this with rfl|rfl|rfl|rfl<;>decide
    omega
   obtain⟨z,hz⟩:=aF (X / 65536 ^ (fr+(j+1)) % 65536 ^ (4 - (j+1)));rw[hz] at n0 n1 |-;have HZ:=aI hz;have hj8:(((fr+j:Nat):Int))<8:=ae
   have hj9:(((fr+j:Nat):Int))=(fr:Int)+(j:Int):=ae
   clear hz p
   go_wp2_with fail
   go_roundg j
   case measure=>omega
   case rel=>exact⟨by omega,congrArg (Value.int IntKind.u64) (by rw[show 4 - j=3 - j+1 by omega,HN.o,<-HZ.o,show 4 - (j+1)=3 - j by omega,Nat.add_assoc]),by congr 1;try omega,bw⟩
theorem BX(a b d:Int)(w:World)(a0:0<=a)(a1:a<18446744073709551616)(b0:0<=b)(b1:b<18446744073709551616)(d0:0<d)(d1:d<18446744073709551616)(hq:a * b / d<18446744073709551616) :
 aH 230 #[.int .u64 a,.int .u64 b,.int .u64 d] w (aG w (.tuple #[.int .u64 (a * b / d),.int .u64 (a * b % d),.bool true])):=by
 obtain⟨m0,m1⟩:=IL a0 a1 b0 b1;have hd:(d == 0)=false:=ah
 have q0:0<=a * b / d:=Int.ediv_nonneg m0 ae
 go_enter func230,ntmps230
 go_wp2_with fail;refine(Zh a b _ a0 a1 b0 b1).mono ?_
 rintro e w1 ⟨v1,rfl,d1_,hb1⟩;have D1:=aI d1_;have hz1:=hb1.size;clear d1_
 go_wp2_with fail;refine(Zi v1 (a * b) d _ D1.o m0 m1 d0 d1).mono ?_
 rintro e w2 ⟨v2,rfl,d2_,hb2⟩;have D2:=aI d2_;have hz2:=hb2.size;clear d2_
 go_wp2_with fail;refine(EZ v2 (a * b / d) 4 4 _ D2.o rfl ae).mono ?_
 rw[show a * b / d / 65536 ^ 4 % 18446744073709551616=0 by omega]
 rintro e w3 ⟨rfl,hb3⟩;have hz3:=hb3.size
 go_wp2_with fail;refine(EZ v2 (a * b / d) 0 0 _ (D2.o.keep hb3) rfl ae).mono ?_
 rw[show a * b / d / 65536 ^ 0 % 18446744073709551616=a * b / d by rw[Int.pow_zero,Int.ediv_one];omega]
 rintro e w4 ⟨rfl,hb4⟩;have oC:=hb4.size
 go_wp2_with fail
 go_ret3
 exact⟨rfl,bw⟩
end Go.Proofs.YtilcnjbpmoijmaaGreat
