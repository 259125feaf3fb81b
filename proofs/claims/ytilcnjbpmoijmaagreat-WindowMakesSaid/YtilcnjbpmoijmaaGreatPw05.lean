/- Parts of a proof. No condition. -/
import Derived.Test.YtilcnjbpmoijmaaGreatPw04
import Derived.Laws.EntriesVeiled
import Derived.Laws.Tables
set_option maxRecDepth 100000
set_option maxHeartbeats 16000000
set_option linter.unusedVariables false
set_option linter.unusedSimpArgs false
namespace Go.Proofs.YtilcnjbpmoijmaaGreat
open Tryz
section
open Go.RowKit Go.Lib
variable{n v:Int}{a b l:List Int}{p:Int × List Int}
def jA:Nat->Int->List Int
 | 0,n=>[n]
 | k+1,n=>if 127<n then(n % 128+128)::jA k (n / 128) else [n]
def eG(n:Int):List Int:=jA 9 n
def qA(v:Int):Int:=if 0<=v then 2 * v else -2 * v - 1
def lC(n:Int):Int:=if n % 2=0 then n / 2 else -(n / 2) - 1
def zg(v:Int):List Int:=eG (qA v)
theorem jl(h0:-9223372036854775808<=v)(h1:v<=9223372036854775807):0<=qA v/\qA v<18446744073709551616:=by
 unfold qA;split<;>omega
theorem Ec(v:Int):lC (qA v)=v:=by
 unfold lC qA;(repeat' split)<;>omega
theorem xK(h0:0<=n)(h1:n<18446744073709551616):-9223372036854775808<=lC n/\lC n<=9223372036854775807:=by
 unfold lC;split<;>omega
theorem yQ:∀(k:Nat) (n:Int),1<=(jA k n).length/\(jA k n).length<=k+1
 | 0,n=>by simp[jA]
 | k+1,n=>by
  unfold jA
  split
  ·have:=yQ k (n / 128);simp only[aU];omega
  ·simp
theorem dM(n:Int):1<=(eG n).length/\(eG n).length<=10:=yQ 9 n
def iD(l:List Int):Prop:=∀b∈l,0<=b/\b<=255
theorem iD.append(h:iD a)(k:iD b):iD (a++b):=fun x hx=>(dB.1 hx).elim (h x) (k x)
theorem iD.drop{a:List Int}(h:iD a)(k:Nat):iD (a.drop k):=fun x hx=>h x (List.mem_of_mem_drop hx)
theorem UH:∀(k:Nat) (n:Int),0<=n->n<2 * 128 ^ k->iD (jA k n)
 | 0,n,h0,h1=>fun b hb=>by simp only[jA,List.mem_singleton] at hb;subst hb;simp at h1;omega
 | k+1,n,h0,h1=>by
  unfold jA
  split
  ·intro b hb
   rcases bn.1 hb with rfl|hb
   ·omega
   ·refine UH k (n / 128) ae ?_ b hb
    exact Int.ediv_lt_of_lt_mul ae (by rw[bU,<-Int.pow_succ];exact h1)
  ·intro b hb;simp only[List.mem_singleton] at hb;subst hb;omega
theorem gX(h0:0<=n)(h1:n<18446744073709551616):iD (eG n):=UH 9 n h0 ae
def Ed:Nat->List Int->Option (Int × List Int)
 | 0,_=>none
 | _+1,[]=>none
 | k+1,x::r=>
  if k=0/\1<x then none
  else if 127<x then(Ed k r).map (fun p=>(x - 128+128 * p.1,p.2))
  else if x=0/\k<9 then none else some (x,r)
def dW(l:List Int):Option (Int × List Int):=Ed 10 l
theorem UI(r:List Int):∀(k:Nat) (n:Int),0<=n->n<2 * 128 ^ k->(n=0->9<=k)->Ed (k+1) (jA k n++r)=some (n,r)
 | 0,n,h0,h1,h2=>by
  have hn:n=1:=by simp at h1;omega
  subst hn;simp[jA,Ed]
 | k+1,n,h0,h1,h2=>by
  unfold jA
  split
  ·rename_i h
   have e1:n / 128<2 * 128 ^ k:=Int.ediv_lt_of_lt_mul ae (by rw[bU,<-Int.pow_succ];exact h1)
   have ih:=UI r k (n / 128) ae e1 ae
   rw[List.cons_append,Ed,if_neg ae,if_pos ae,ih]
   simp only[Option.map_some,bH,Prod.mk.injEq,and_true];omega
  ·rename_i h
   rw[List.cons_append,Ed,if_neg ae,if_neg ae,if_neg ae]
   rfl
theorem gZ(h0:0<=n)(h1:n<18446744073709551616)(r:List Int):dW (eG n++r)=some (n,r):=UI r 9 n h0 ae (fun _=>aS _)
theorem UJ:∀(k:Nat) (l:List Int) (p:Int × List Int),Ed k l=some p->p.2.length<l.length/\∃j,p.2=l.drop j
 | 0,_,_,h=>by simp[Ed] at h
 | k+1,[],_,h=>by simp[Ed] at h
 | k+1,x::r,p,h=>by
  unfold Ed at h
  split at h
  ·cases h
  ·split at h
   ·cases hu:Ed k r with
    | none=>rw[hu] at h;simp at h
    | some q=>
     rw[hu] at h;simp only[Option.map_some,bH] at h;obtain⟨h1,j,h2⟩:=UJ k r q hu;subst h;exact⟨by simp only[aU];omega,j+1,by simpa using h2⟩
   ·split at h
    ·cases h
    ·simp only[bH] at h
     subst h;exact⟨by simp,1,ag⟩
theorem Zj:∀(k:Nat) (l:List Int) (p:Int × List Int),iD l->Ed (k+1) l=some p->0<=p.1/\p.1<2 * 128 ^ k
 | _,[],_,_,h=>by simp[Ed] at h
 | 0,x::r,p,hb,h=>by
  have hx:=hb x (aT ..);rw[Ed] at h
  split at h
  ·cases h
  ·split at h
   ·simp[Ed] at h
   ·split at h
    ·cases h
    ·simp only[bH] at h
     subst h;simp;omega
 | k+1,x::r,p,hb,h=>by
  have hx:=hb x (aT ..);have hp:(0:Int)<128 ^ k:=Int.pow_pos ae
  rw[Ed] at h
  split at h
  ·cases h
  ·split at h
   ·cases hu:Ed (k+1) r with
    | none=>rw[hu] at h;simp at h
    | some q=>
     rw[hu] at h;simp only[Option.map_some,bH] at h;have:=Zj k r q (fun y hy=>hb y (aY _ hy)) hu
     subst h;rw[Int.pow_succ];simp only;omega
   ·split at h
    ·cases h
    ·simp only[bH] at h
     subst h;rw[Int.pow_succ];simp only;omega
theorem gY(hb:iD l)(h:dW l=some p):0<=p.1/\p.1<18446744073709551616:=by
 have:=Zj 9 l p hb h;omega
theorem lD(h:dW l=some p):p.2.length<l.length/\∃j,p.2=l.drop j:=UJ 10 l p h
def ub(v:Int):Int:=v % 18446744073709551616
theorem IW{q:Int}(q0:-9223372036854775808<=q)(qv:q<=v)(v1:v<=9223372036854775807):wrap64 ((ub q+(v - q)) % 18446744073709551616)=v:=by
 unfold ub wrap64;omega
theorem E5(hb:iD l)(h:dW l=some p):iD p.2:=by
 obtain⟨_,j,hj⟩:=lD h;rw[hj];exact hb.drop j
theorem mQ(h1:∃j,a=l.drop j)(h2:∃j,b=a.drop j):∃j,b=l.drop j:=by
 obtain⟨i,rfl⟩:=h1;obtain⟨j,rfl⟩:=h2;exact⟨i+j,by rw[List.drop_drop]⟩
end
section
section
open Go.RowKit Go.Lib
variable{t:TypeId}{base g:Nat}{w:World}{v:Value}{l:List Int}
theorem aw3(x:Int)(h0:0<=x)(h1:x<=255):bits .or .u8 x 128=x % 128+128:=by
 have h:∀n:Fin 256,bits .or .u8 ((n.val:Nat):Int) 128=((n.val:Nat):Int) % 128+128:=au
 obtain⟨n,rfl⟩:=Int.eq_ofNat_of_zero_le h0;exact h ⟨n,ae⟩
theorem Zk(x:Int)(h0:0<=x)(h1:x<=255):bits .and .u8 x 127=x % 128:=by
 have h:∀n:Fin 256,bits .and .u8 ((n.val:Nat):Int) 127=((n.val:Nat):Int) % 128:=au
 obtain⟨n,rfl⟩:=Int.eq_ofNat_of_zero_le h0;exact h ⟨n,ae⟩
theorem bk3:(prog.info? 5).map (fun i=>(i.zero,i.size,i.bytes))=some (some (.int .u8 0),1,1):=by kernel_rfl
theorem dP.lift{k:IntKind}{base':Nat}(h:dP t k base w v l)(hb:∀g,v.ownBlock=some g->base'<=g):dP t k base' w v l:=by
 obtain⟨h1,h2⟩:=h;refine⟨h1,?_⟩
 rcases h2 with h2|⟨g,cap,cur,rfl,e2,r⟩
 ·exact .inl h2
 ·exact .inr ⟨g,cap,cur,rfl,hb g rfl,r⟩
def OwnB(base:Nat)(w:World)(v:Value)(l:List Int):Prop:=dP 5 .u8 base w v l
theorem jH{ops:Array Oper}{rest:List Oper}{o:Oper}{a:Act}{Q:Exit->Act->World->Prop}(hgd:o.guard=none)(s x:Operand)
 (ho:o.op=.call {callee:=.builtin .append,args:=#[s,x],argTypes:=#[47,47]})
 (base:Nat) (v:Value) (xs:List Int) (hs:a.eval s=v) (hown:OwnB base w v xs)
 (u:Value) (news:List Int) (hx:a.eval x=u) (hr:iY .u8 w u news)
 (hlen:xs.length+news.length<=1099511627776) (hbase:base<=w.heap.size)
 (h:∀v' w',OwnB base w' v' (xs++news)->w.grownBy w' v.ownBlock->(v'.ownBlock=v.ownBlock\/v'.ownBlock=some w.heap.size)->wpList prog ops Q rest (a.put o.dst v') w'):wpList prog ops Q (o::rest) a w:=by
 obtain⟨i0,hi,hz0,hz1,hz2⟩:=info_parts bk3;obtain⟨A,c,rfl,_,_,_⟩:=hr.form;refine jX w hgd s x 47 ho base 5 i0 _ 1 1 underlying47 hi hz0 hz1 hz2 rfl ae v xs.length (xs.map (Value.int .u8)) hs hown A news.length c (news.map (Value.int .u8)) hx hr (UG _ _)
  (by unfold maxLen;omega) ae hbase fun v' w' h1 h2 h3=>h v' w' ?_ h2 h3
 unfold OwnB dP;rw[aQ,List.map_append];exact h1
def Wr(t:TypeId)(base:Nat)(w:World)(g:Nat)(bs:List Int):Prop:=base<=g/\∃v,dK w g t #[v]/\OwnB base w v bs
theorem dK.J9{t b:Nat}{cs:Array Value}(h:dK w g t cs)(ho:OwnB b w v l)(ht:t≠5):v.ownBlock≠some g:=by
 intro e
 rcases ho.2 with h2|⟨g',cap,cur,rfl,e2,e3,r⟩
 ·rw[h2.1] at e;cases e
 ·cases e
  unfold dK at h;rw[h] at e3
  cases e3
  exact ht rfl
theorem OwnB.far(h:OwnB base w v l){p:Addr}(hp:v.ownBlock≠some p.block)(u:Value):OwnB base (w.setCell p u) v l:=
 dP.stay h fun g hg=>bM w p u g (fun e=>hp (by rw[hg,e]))
theorem Wr.put{w':World}{v':Value}{bs:List Int}(ht:t≠5)(hb:base<=g)(h:dK w g t #[v])(ho:OwnB base w v bs){bs':List Int}(ho':OwnB base w' v' bs')(hg:w.grownBy w' v.ownBlock) :
 Wr t base (w'.setCell ⟨g,0,none⟩ v') g bs':=by
 have h1:dK w' g t #[v]:=(hg.block g h.lt (fun e=>h.J9 ho ht e.symm)).trans h
 exact⟨hb,v',h1.dQ 0 v',ho'.far (fun e=>h1.J9 ho' ht e) _⟩
theorem Wr.lt{t:TypeId}{base:Nat}{w:World}{g:Nat}{bs:List Int}(h:Wr t base w g bs):base<=g/\g<w.heap.size:=by
 obtain⟨h1,v,h2,_⟩:=h;exact⟨h1,h2.lt⟩
theorem Wr.keep{t:TypeId}{base:Nat}{w w':World}{g:Nat}{bs:List Int}(h:Wr t base w g bs)(hb:Below w.heap.size w w'):Wr t base w' g bs:=by
 obtain⟨h1,v,h2,h3⟩:=h;exact⟨h1,v,h2.keep hb,dP.keep h3 hb⟩
theorem oU(k:Nat)(n:Int)(h:127<n):jA (k+1) n=(n % 128+128)::jA k (n / 128):=by rw[jA,if_pos h]
theorem oV(k:Nat)(n:Int)(h:¬127<n):jA k n=[n]:=by
 cases k with
 | zero=>rfl
 | succ k=>rw[jA,if_neg h]
theorem pz(g base:Nat)(n s:Int)(bs:List Int)(w:World)(h:Wr 325 base w g bs)(n0:0<=n)(n1:n<18446744073709551616)(hl:bs.length<=1000000000000) :
 aH 371 #[.pointer (some ⟨g,0,none⟩),.int .u64 n,.int .i64 s] w fun e w'=>e=.returned (.tuple #[])/\Wr 325 base w' g (bs++eG n)/\Below base w w':=by
 have H:=aI h;have hlt:=h.lt;clear h
 go_enter func371,ntmps371
 go_wp2_with fail
 go_loopg [1] 9 (fun k v wr=>∃(m:Int) (acc:List Int),k<=9/\v=.int .u64 m/\0<=m/\m<2 * 128 ^ k/\acc.length<=9 - k/\Hid (acc++jA k m=eG n)/\Hid (Wr 325 base wr g (bs++acc))/\Below base w wr)
 case atStart=>exact⟨n,[],ae,rfl,n0,ae,ag,aI rfl,by rw[List.append_nil];exact H,aO _ _⟩
 case round=>
  obtain⟨m,acc,hk,rfl,m0,m1,ha,he,hw,hb⟩:=hrel;obtain⟨hbg,v,hB,hO⟩:=hw.o;have HB:=aI hB;have HO:=aI hO;have c0:=hB.cell 0;have f0:=hB.frozen 0;have hlg:=hB.lt;have hz:=hb.size;simp only[aK,aJ] at c0;have hlen:(bs++acc).length+1<=1099511627776:=by rw[aQ];omega
  clear hB hO
  by_cases hm:127<m
  ·obtain⟨q,rfl⟩:∃q,gk=q+1:=by
    rcases bQ gk with h0|h0
    ·subst h0;simp at m1;omega
    ·exact⟨gk - 1,ae⟩
   have bu7:m<18446744073709551616:=by
    have h1:(2:Int) * 128 ^ (q+1)<=2 * 128 ^ 9:=by
     have:(128:Int) ^ (q+1)<=128 ^ 9:=by
      have h2:(128:Nat) ^ (q+1)<=128 ^ 9:=Nat.pow_le_pow_right ae  ae
      exact_mod_cast h2
     omega
    omega
   have hE:=aI (oU q m hm);have hd:m / 128<2 * 128 ^ q:=Int.ediv_lt_of_lt_mul ae (by rw[bU,<-Int.pow_succ];exact m1)
   have o8:=aw3 (m % 256) ae  ae
   go_wp2_with (first
    | (at_builtin
       go_must (refine jH rfl (.tmp 12) (.tmp 16) rfl base v (bs++acc) rfl (dP.alloc HO.o _) _ [m % 128+128] rfl (iY.fK _ _ _ _ _ rfl) hlen (by simp only[aV];omega) ?_)
       intro v1 w1 o1 g1 a1;obtain⟨A1,k1,hv1,_,_,_⟩:=(dP.rd o1).form;generalize (bs++acc++[m % 128+128]).length=N at hv1;subst hv1;have hb1:Below base w w1:=(hb.alloc ae _).grown g1 (by simp only[aV];omega) (fun k hk=>(dP.lt HO.o k hk).1)
       have W1:=aI (Wr.put af hbg (HB.o.alloc _) (dP.alloc HO.o _) o1 g1)
       have B1:dK w1 g 325 #[v]:=(g1.block g (HB.o.alloc _).lt (fun e=>HB.o.J9 HO.o af e.symm)).trans (HB.o.alloc _)
       have c1:=B1.cell 0;have f1:=B1.frozen 0;simp only[aK,aJ] at c1;clear o1 g1 a1 B1))
   go_roundg q
   case measure=>omega
   case rel=>exact⟨m / 128,acc++[m % 128+128],ae,rfl,ae,hd,ah,by show _=_;rw[aX,<-he.o,hE.o];rfl,by rw[<-aX];exact W1,hb1.setCell ae _⟩
  ·have hE:=aI (oV gk m hm)
   have hm8:m % 256=m:=ae
   go_wp2_with (first
    | (at_builtin
       go_must (refine jH rfl (.tmp 26) (.tmp 29) rfl base v (bs++acc) rfl (dP.alloc HO.o _) _ [m] rfl (iY.fK _ _ _ _ _ rfl) hlen (by simp only[aV];omega) ?_)
       intro v1 w1 o1 g1 a1;obtain⟨A1,k1,hv1,_,_,_⟩:=(dP.rd o1).form;generalize (bs++acc++[m]).length=N at hv1;subst hv1;have hb1:Below base w w1:=(hb.alloc ae _).grown g1 (by simp only[aV];omega) (fun k hk=>(dP.lt HO.o k hk).1)
       have W1:=aI (Wr.put af hbg (HB.o.alloc _) (dP.alloc HO.o _) o1 g1)
       have B1:dK w1 g 325 #[v]:=(g1.block g (HB.o.alloc _).lt (fun e=>HB.o.J9 HO.o af e.symm)).trans (HB.o.alloc _)
       have c1:=B1.cell 0;have f1:=B1.frozen 0;simp only[aK,aJ] at c1;clear o1 g1 a1 B1))
   refine bodyPost_end (v:=.tuple #[]) (by simp[results,Tryz.results371,go_sem, *];try rfl) rfl ?_
   exact⟨rfl,by rw[<-he.o,hE.o,<-aX];exact W1.o,hb1.setCell ae _⟩
end
section
open Go.RowKit Go.Lib
def qX:Nat->Int
 | 0=>98|1=>104|2=>72|3=>119|4=>87|5=>113|6=>81|7=>118|8=>122|_=>110
def QN:Nat->Int
 | 0=>1|1=>2|2=>2|3=>4|4=>4|5=>8|6=>8|_=>0
def sF:Nat->Nat
 | 0=>367|1=>367|2=>369|3=>367|4=>369|5=>367|6=>369|7=>371|8=>373|_=>375
def Aq:Nat->Nat
 | 0=>368|1=>368|2=>370|3=>368|4=>370|5=>368|6=>370|7=>372|8=>374|_=>376
def fnV(k:Nat):Value:=.func (.func k) #[] #[]
def bk4(j:Nat):List Value:=[.int .u8 (qX j),.int .i64 (QN j),fnV (sF j),fnV (Aq j)]
def jB:Array Value:=([0,1,2,3,4,5,6,7,8,9].flatMap bk4).toArray
theorem Ar(j:Nat)(h:j<10):jB[j * 4]?=some (.int .u8 (qX j))/\jB[j * 4+1]?=some (.int .i64 (QN j))/\jB[j * 4+2]?=some (fnV (sF j))/\jB[j * 4+3]?=some (fnV (Aq j)):=by
 have:j=0\/j=1\/j=2\/j=3\/j=4\/j=5\/j=6\/j=7\/j=8\/j=9:=ae
 rcases this with rfl|rfl|rfl|rfl|rfl|rfl|rfl|rfl|rfl|rfl<;>exact⟨rfl,rfl,rfl,rfl⟩
theorem IX(w:World):aH 304 #[] w (aG w (.agg jB)):=by
 have hF:(#[.int .u8 98,.int .i64 1,.func (.func 367) #[] #[],.func (.func 368) #[] #[],.int .u8 104,.int .i64 2,.func (.func 367) #[] #[],.func (.func 368) #[] #[],.int .u8 72,.int .i64 2,.func (.func 369) #[] #[],.func (.func 370) #[] #[],.int .u8 119,.int .i64 4,.func (.func 367) #[] #[],.func (.func 368) #[] #[],.int .u8 87,.int .i64 4,.func (.func 369) #[] #[],.func (.func 370) #[] #[],.int .u8 113,.int .i64 8,.func (.func 367) #[] #[],.func (.func 368) #[] #[],.int .u8 81,.int .i64 8,.func (.func 369) #[] #[],.func (.func 370) #[] #[],.int .u8 118,.int .i64 0,.func (.func 371) #[] #[],.func (.func 372) #[] #[],.int .u8 122,.int .i64 0,.func (.func 373) #[] #[],.func (.func 374) #[] #[],.int .u8 110,.int .i64 0,.func (.func 375) #[] #[],.func (.func 376) #[] #[]]:Array Value)=jB:=by kernel_rfl
 go_enter func304,ntmps304
 go_wp2_with (refine wpList_store_row rfl 402 (.tmp 0) (.tmp 11) rfl w.heap.size _ rfl rfl 402 _ (heap_alloc_new _ _) (by as_aux_lemma=>kernel_rfl) (by as_aux_lemma=>kernel_rfl) (by as_aux_lemma=>kernel_rfl) ?_)
 refine bodyPost_ret (v:=.agg jB) (results_cell_row (p:=0) (ty:=402) (by kernel_rfl) _ _ w.heap.size 402 jB (0,0) _ rfl (setRow_heap _ _ _ _ _ _ (heap_alloc_new _ _)) underlying402 rfl (by kernel_rfl)) rfl ?_
 exact⟨rfl,below_setRow ((aO _ _).alloc (aS _) _) (aS _) _⟩
end
section
open Go.RowKit Go.Lib
theorem Nk(a b c:Int)(f g:Nat)(r:Bool)(h:Nat)(w:World)(hc:w.cell? ⟨h,0,none⟩=some (.int .u8 c))(hr:(a == c)=r) :
 aH 306 #[.agg #[.int .u8 a,.int .i64 b,.func (.func f) #[] #[],.func (.func g) #[] #[]],.pointer (some ⟨h,0,none⟩)] w (aG w (.bool r)):=by
 have hlt:h<w.heap.size:=bZ _ _ hc;have HR:=aI hr;clear hr
 go_enter func306,ntmps306
 go_wp2
 go_ret;exact⟨uJ HR.o,bw⟩
theorem E8(k:Nat)(c:Int)(G h:Nat)(w:World)(hk:k<10)(hG:dK w G 402 jB)(hc:w.cell? ⟨h,0,none⟩=some (.int .u8 c))(hl:∀j,j<k->(qX j == c)=false)(he:(qX k == c)=true) :
 aH 305 #[.slice (some ⟨G,0,none⟩) 10 10,.func (.func 306) #[] #[.pointer (some ⟨h,0,none⟩)]] w (aG w (.int .i64 k)):=by
 have eg:∀args w,(callFunc 306 args).run prog w=.ok (.enter 306 args) w:=fun _ _=>rfl
 have hlt:h<w.heap.size:=bZ _ _ hc;have HG:=aI hG;have HC:=aI hc;have HL:=aI hl;have HE:=aI he;have hgl:=hG.lt;clear hG hc hl he
 go_enter func305,ntmps305
 go_wp2_with fail
 go_loopg [8] (10) (fun q i wr=>∃j:Nat,q=10 - j/\j<=k/\i=.int .i64 j/\Below w.heap.size w wr)
 case atStart=>exact⟨0,rfl,df _,rfl,aO _ _⟩
 case round=>
  obtain⟨j,hq,hj,rfl,hb⟩:=hrel;have HQ:=aI hq;have hz:=hb.size;clear hq;obtain⟨x0,x1,x2,x3⟩:=Ar j ae
  have B:=HG.o.below hb hgl;have e0:=(B.cell (j * 4)).trans x0;have e1:=(B.cell (j * 4+1)).trans x1;have e2:=(B.cell (j * 4+2)).trans x2;have e3:=(B.cell (j * 4+3)).trans x3;have cc:=(hb.cell (p:=⟨h,0,none⟩) hlt).trans HC.o;have CC:=aI cc;unfold fnV at e2 e3;have hji:(j:Int)<10:=ae
  have HR:∀r,(qX j == c)=r->Hid ((qX j == c)=r):=fun r h=>aI h
  have HCL:=fun w' b r (h1:w'.cell? ⟨h,0,none⟩=some (.int .u8 c)) (h2:(qX j == c)=r)=>aI (Nk (qX j) b c (sF j) (Aq j) r h w' h1 h2)
  clear x0 x1 x2 x3 B cc
  rcases bV j k with h1|h1
  ·have HF:=aI (HL.o j h1)
   generalize qX j=a at *;generalize QN j=b at *;generalize sF j=p at *;generalize Aq j=g at *
   go_wp2_with (go_at_fn 306;refine((HCL _ _ _ CC.o HF.o).o).mono ?_;rintro e w1 ⟨rfl,hb1⟩;have hz1:=hb1.size)
   go_roundg (10 - (j+1))
   case measure=>have:=HQ.o;omega
   case rel=>exact⟨j+1,rfl,ae,ai,hb.trans (hb1.mono hz)⟩
  ·obtain rfl:k=j:=ae
   have HF:=HE;generalize qX k=a at *;generalize QN k=b at *;generalize sF k=p at *;generalize Aq k=g at *
   go_wp2_with (go_at_fn 306;refine((HCL _ _ _ CC.o HF.o).o).mono ?_;rintro e w1 ⟨rfl,hb1⟩;have hz1:=hb1.size)
   go_ret;exact⟨rfl,hb.trans (hb1.mono hz)⟩
end
section
open Go.RowKit Go.Lib
structure VZ(k:Nat)(c:Int):Prop where
 e:c=qX k
 lt:k<10
 no:∀j,j<k->(qX j == c)=false
 yes:(qX k == c)=true
 siz:QN k=0
theorem Zl(j:Nat)(h:j<7):(qX j == 118)=false:=by
 have:j=0\/j=1\/j=2\/j=3\/j=4\/j=5\/j=6:=ae
 rcases this with rfl|rfl|rfl|rfl|rfl|rfl|rfl<;>decide
theorem Zm(j:Nat)(h:j<8):(qX j == 122)=false:=by
 have:j=0\/j=1\/j=2\/j=3\/j=4\/j=5\/j=6\/j=7:=ae
 rcases this with rfl|rfl|rfl|rfl|rfl|rfl|rfl|rfl<;>decide
theorem Wq:VZ 7 118:=⟨rfl,ae,Zl,af,rfl⟩
theorem bk5:VZ 8 122:=⟨rfl,ae,Zm,af,rfl⟩
theorem jS(k:Nat)(c:Int)(w:World)(h:VZ k c) :
 aH 236 #[.int .u8 c] w (aG w (.tuple #[.agg #[.int .u8 c,.int .i64 0,.func (.func (sF k)) #[] #[],.func (.func (Aq k)) #[] #[]],.bool true])):=by
 have H:=aI h;have hk:=h.lt;have hk1:(k:Int)<10:=ae
 clear h
 go_enter func236,ntmps236
 go_wp2_with fail;refine(IX _).mono ?_
 rintro e w1 ⟨rfl,hb1⟩;have hz1:=hb1.size;simp only[aV] at hz1;have CB:Hid (w1.cell? ⟨w.heap.size,0,none⟩=some (.int .u8 c)):=by
  refine(hb1.cell (p:=⟨w.heap.size,0,none⟩) (by show w.heap.size<_;simp only[aV];omega)).trans ?_
  refine(((aO (w.alloc (.cells #[.int .u8 c] 5)).heap.size (w.alloc (.cells #[.int .u8 c] 5))).alloc (aS _) _).cell (p:=⟨w.heap.size,0,none⟩) (by show w.heap.size<_;simp only[aV];omega)).trans ?_
  simp[World.cell?_alloc_new]
 have hlt0:w.heap.size<w1.heap.size:=ae
 have HT:Hid (dK w1 (w.heap.size+1) 329 #[.int .u8 0,.int .i64 0,Value.nilFunc,Value.nilFunc]):=by
  have h:=(dK.new (w.alloc (.cells #[.int .u8 c] 5)) 329 #[.int .u8 0,.int .i64 0,Value.nilFunc,Value.nilFunc]).keep hb1
  rwa [aV] at h
 go_wp2_with (refine wpList_store_row rfl 402 (.tmp 4) (.tmp 6) rfl w1.heap.size jB rfl rfl 402 _ (heap_alloc_new _ _) (by as_aux_lemma=>kernel_rfl) (by as_aux_lemma=>kernel_rfl) (by as_aux_lemma=>kernel_rfl) ?_)
 have BG:=setRow_heap _ _ _ jB _ _ (heap_alloc_new w1 (Obj.cells
  #[Value.int IntKind.u8 0,Value.int IntKind.i64 0,Value.nilFunc,Value.nilFunc,Value.int IntKind.u8 0,
   Value.int IntKind.i64 0,Value.nilFunc,Value.nilFunc,Value.int IntKind.u8 0,Value.int IntKind.i64 0,
   Value.nilFunc,Value.nilFunc,Value.int IntKind.u8 0,Value.int IntKind.i64 0,Value.nilFunc,
   Value.nilFunc,Value.int IntKind.u8 0,Value.int IntKind.i64 0,Value.nilFunc,Value.nilFunc,
   Value.int IntKind.u8 0,Value.int IntKind.i64 0,Value.nilFunc,Value.nilFunc,Value.int IntKind.u8 0,
   Value.int IntKind.i64 0,Value.nilFunc,Value.nilFunc,Value.int IntKind.u8 0,Value.int IntKind.i64 0,
   Value.nilFunc,Value.nilFunc,Value.int IntKind.u8 0,Value.int IntKind.i64 0,Value.nilFunc,
   Value.nilFunc,Value.int IntKind.u8 0,Value.int IntKind.i64 0,Value.nilFunc,Value.nilFunc]
  402))
 have hb2:=below_setRow ((aO w1.heap.size w1).alloc (aS _) (Obj.cells
  #[Value.int IntKind.u8 0,Value.int IntKind.i64 0,Value.nilFunc,Value.nilFunc,Value.int IntKind.u8 0,
   Value.int IntKind.i64 0,Value.nilFunc,Value.nilFunc,Value.int IntKind.u8 0,Value.int IntKind.i64 0,
   Value.nilFunc,Value.nilFunc,Value.int IntKind.u8 0,Value.int IntKind.i64 0,Value.nilFunc,
   Value.nilFunc,Value.int IntKind.u8 0,Value.int IntKind.i64 0,Value.nilFunc,Value.nilFunc,
   Value.int IntKind.u8 0,Value.int IntKind.i64 0,Value.nilFunc,Value.nilFunc,Value.int IntKind.u8 0,
   Value.int IntKind.i64 0,Value.nilFunc,Value.nilFunc,Value.int IntKind.u8 0,Value.int IntKind.i64 0,
   Value.nilFunc,Value.nilFunc,Value.int IntKind.u8 0,Value.int IntKind.i64 0,Value.nilFunc,
   Value.nilFunc,Value.int IntKind.u8 0,Value.int IntKind.i64 0,Value.nilFunc,Value.nilFunc]
  402)) (aS w1.heap.size) jB
 generalize (w1.alloc (Obj.cells
  #[Value.int IntKind.u8 0,Value.int IntKind.i64 0,Value.nilFunc,Value.nilFunc,Value.int IntKind.u8 0,
   Value.int IntKind.i64 0,Value.nilFunc,Value.nilFunc,Value.int IntKind.u8 0,Value.int IntKind.i64 0,
   Value.nilFunc,Value.nilFunc,Value.int IntKind.u8 0,Value.int IntKind.i64 0,Value.nilFunc,
   Value.nilFunc,Value.int IntKind.u8 0,Value.int IntKind.i64 0,Value.nilFunc,Value.nilFunc,
   Value.int IntKind.u8 0,Value.int IntKind.i64 0,Value.nilFunc,Value.nilFunc,Value.int IntKind.u8 0,
   Value.int IntKind.i64 0,Value.nilFunc,Value.nilFunc,Value.int IntKind.u8 0,Value.int IntKind.i64 0,
   Value.nilFunc,Value.nilFunc,Value.int IntKind.u8 0,Value.int IntKind.i64 0,Value.nilFunc,
   Value.nilFunc,Value.int IntKind.u8 0,Value.int IntKind.i64 0,Value.nilFunc,Value.nilFunc]
  402)).setRow w1.heap.size jB=w2 at *
 have HG:Hid (dK w2 w1.heap.size 402 jB):=aI BG;have hlt2:=HG.o.lt;have hz2:=hb2.size;refine(E8 k c w1.heap.size w.heap.size w2 hk HG.o ((hb2.cell (p:=⟨w.heap.size,0,none⟩) hlt0).trans CB.o) H.o.no H.o.yes).mono ?_
 rintro e w3 ⟨rfl,hb3⟩;have hz3:=hb3.size;have G3:=HG.o.keep hb3;obtain⟨x0,x1,x2,x3⟩:=Ar k hk;have e0:=(G3.cell (k * 4)).trans x0;have e1:=(G3.cell (k * 4+1)).trans x1;have e2:=(G3.cell (k * 4+2)).trans x2;have e3:=(G3.cell (k * 4+3)).trans x3;unfold fnV at e2 e3;rw[<-H.o.e] at e0;rw[H.o.siz] at e1;have T3:Hid (dK w3 (w.heap.size+1) 329 #[.int .u8 0,.int .i64 0,Value.nilFunc,Value.nilFunc]):=(HT.o.below hb2 ae).below hb3 ae
 have hkn:decide ((k:Int)<0)=false:=decide_eq_false ae
 clear BG G3 x0 x1 x2 x3 CB HT HG;have hi4:(prog.info? 329).map (·.size)=some 4:=by kernel_rfl
 obtain⟨pp,hpp⟩:=aF (sF k);obtain⟨gg,hgg⟩:=aF (Aq k);rw[hpp] at e2;rw[hgg] at e3;have HPP:=aI hpp;have QO:=aI hgg;clear hpp hgg
 go_wp2_with ((refine wpList_store_row rfl 329 (.tmp 2) (.tmp 15) rfl (w.heap.size+1) #[.int .u8 c,.int .i64 0,.func (.func pp) #[] #[],.func (.func gg) #[] #[]] rfl rfl 329 _ T3.o hi4 rfl (by simp[Value.oneCell']) ?_))
 have B4:dK (w3.setRow (w.heap.size+1) #[.int .u8 c,.int .i64 0,.func (.func pp) #[] #[],.func (.func gg) #[] #[]]) (w.heap.size+1) 329 #[.int .u8 c,.int .i64 0,.func (.func pp) #[] #[],.func (.func gg) #[] #[]]:=setRow_heap _ _ _ _ _ _ T3.o;have hb4:Below w.heap.size w (w3.setRow (w.heap.size+1) #[.int .u8 c,.int .i64 0,.func (.func pp) #[] #[],.func (.func gg) #[] #[]]):=by
  refine below_setRow ?_ ae _
  exact((((((aO _ _).alloc (aS _) _).alloc ag _).trans (hb1.mono (by simp only[aV];omega))).trans (hb2.mono ae)).trans (hb3.mono ae))
 generalize w3.setRow (w.heap.size+1) #[.int .u8 c,.int .i64 0,.func (.func pp) #[] #[],.func (.func gg) #[] #[]]=w4 at *;obtain⟨k0,k1,k2,k3⟩:=B4.c4;clear e0 e1 e2 e3 B4
 go_wp2_with fail;refine bodyPost_ret (by simp[results,Tryz.results236,go_sem, *];try rfl) rfl ?_
 exact⟨by rw[HPP.o,QO.o],hb4⟩
theorem E_(k:Nat)(c:UInt8)(w:World)(h:VZ k (c.toNat:Int)) :
 aH 235 #[.string ⟨#[c]⟩] w (aG w (.bool true)):=by
 have H:=aI h;clear h
 go_enter func235,ntmps235
 go_wp2_with fail
 go_loopg [11] 1 (fun q i wr=>∃j:Nat,q=1 - j/\j<=1/\i=.int .i64 j/\Below w.heap.size w wr)
 case atStart=>exact⟨0,rfl,ae,rfl,aO _ _⟩
 case round=>
  obtain⟨j,hq,hj,rfl,hb⟩:=hrel;have HQ:=aI hq;have hz:=hb.size;clear hq
  by_cases hlt:j<1
  ·obtain rfl:j=0:=ae
   go_wp2_with (go_at_call 236;refine(jS k (c.toNat:Int) _ H.o).mono ?_;rintro e w1 ⟨rfl,hb1⟩;have hz1:=hb1.size)
   go_roundg 0
   case measure=>have:=HQ.o;omega
   case rel=>exact⟨1,rfl,ae,ai,bw⟩
  ·go_wp2_with fail
   go_ret;exact⟨rfl,hb⟩
end
end
end Go.Proofs.YtilcnjbpmoijmaaGreat
