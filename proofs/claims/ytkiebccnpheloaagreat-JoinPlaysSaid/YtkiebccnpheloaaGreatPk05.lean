/- Parts of a proof: what its theorem reaches, words cut short. No condition of its own. -/
import Derived.Test.YtkiebccnpheloaaGreatPk03
import Derived.Test.YtkiebccnpheloaaGreatPk04
import Derived.Laws.EntriesVeiled
import Derived.Laws.Tables
set_option maxRecDepth 100000
set_option maxHeartbeats 16000000
set_option linter.unusedVariables false
set_option linter.unusedSimpArgs false
namespace Go.Proofs.YtkiebccnpheloaaGreat
section
open Go.RowKit Go.Lib
def lC:Nat->Int->List Int
 | 0,n=>[n]
 | k+1,n=>if 127<n then(n % 128+128)::lC k (n / 128) else [n]
def fC(n:Int):List Int:=lC 9 n
def vg(v:Int):Int:=if 0<=v then 2 * v else -2 * v - 1
def Fa(n:Int):Int:=if n % 2=0 then n / 2 else -(n / 2) - 1
def zg(v:Int):List Int:=fC (vg v)
theorem vM{v:Int}(h0:-9223372036854775808<=v)(h1:v<=9223372036854775807):0<=vg v/\vg v<18446744073709551616:=by
 unfold vg;split<;>omega
theorem ZW(v:Int):Fa (vg v)=v:=by
 unfold Fa vg;(repeat' split)<;>omega
theorem Wv{n:Int}(h0:0<=n)(h1:n<18446744073709551616):-9223372036854775808<=Fa n/\Fa n<=9223372036854775807:=by
 unfold Fa;split<;>omega
theorem BI:∀(k:Nat) (n:Int),1<=(lC k n).length/\(lC k n).length<=k+1
 | 0,n=>by simp[lC]
 | k+1,n=>by
  unfold lC
  split
  ·have:=BI k (n / 128);simp only[aP];omega
  ·simp
theorem dM(n:Int):1<=(fC n).length/\(fC n).length<=10:=BI 9 n
def qQ(l:List Int):Prop:=∀b∈l,0<=b/\b<=255
theorem qQ.append{a b:List Int}(h:qQ a)(k:qQ b):qQ (a++b):=fun x hx=>(cO.1 hx).elim (h x) (k x)
theorem qQ.drop{a:List Int}(h:qQ a)(k:Nat):qQ (a.drop k):=fun x hx=>h x (List.mem_of_mem_drop hx)
theorem Qz:∀(k:Nat) (n:Int),0<=n->n<2 * 128 ^ k->qQ (lC k n)
 | 0,n,h0,h1=>fun b hb=>by simp only[lC,List.mem_singleton] at hb;subst hb;simp at h1;omega
 | k+1,n,h0,h1=>by
  unfold lC
  split
  ·intro b hb
   rcases a_.1 hb with rfl|hb
   ·omega
   ·refine Qz k (n / 128) ae ?_ b hb
    exact Int.ediv_lt_of_lt_mul ae (by rw[bV,<-Int.pow_succ];exact h1)
  ·intro b hb;simp only[List.mem_singleton] at hb;subst hb;omega
theorem yF{n:Int}(h0:0<=n)(h1:n<18446744073709551616):qQ (fC n):=Qz 9 n h0 ae
def Ar:Nat->List Int->Option (Int × List Int)
 | 0,_=>none
 | _+1,[]=>none
 | k+1,x::r=>
  if k=0/\1<x then none
  else if 127<x then(Ar k r).map (fun p=>(x - 128+128 * p.1,p.2))
  else if x=0/\k<9 then none else some (x,r)
def f_(l:List Int):Option (Int × List Int):=Ar 10 l
theorem QB(r:List Int):∀(k:Nat) (n:Int),0<=n->n<2 * 128 ^ k->(n=0->9<=k)->Ar (k+1) (lC k n++r)=some (n,r)
 | 0,n,h0,h1,h2=>by
  have hn:n=1:=by simp at h1;omega
  subst hn;simp[lC,Ar]
 | k+1,n,h0,h1,h2=>by
  unfold lC
  split
  ·rename_i h
   have e1:n / 128<2 * 128 ^ k:=Int.ediv_lt_of_lt_mul ae (by rw[bV,<-Int.pow_succ];exact h1)
   have ih:=QB r k (n / 128) ae e1 ae
   rw[List.cons_append,Ar,if_neg ae,if_pos ae,ih]
   simp only[Option.map_some,bC,Prod.mk.injEq,and_true];omega
  ·rename_i h
   rw[List.cons_append,Ar,if_neg ae,if_neg ae,if_neg ae]
   rfl
theorem qh{n:Int}(h0:0<=n)(h1:n<18446744073709551616)(r:List Int):f_ (fC n++r)=some (n,r):=QB r 9 n h0 ae (fun _=>aK _)
theorem QC:∀(k:Nat) (l:List Int) (p:Int × List Int),Ar k l=some p->p.2.length<l.length/\∃j,p.2=l.drop j
 | 0,_,_,h=>by simp[Ar] at h
 | k+1,[],_,h=>by simp[Ar] at h
 | k+1,x::r,p,h=>by
  unfold Ar at h
  split at h
  ·cases h
  ·split at h
   ·cases hu:Ar k r with
    | none=>rw[hu] at h;simp at h
    | some q=>
     rw[hu] at h;simp only[Option.map_some,bC] at h;obtain⟨h1,j,h2⟩:=QC k r q hu;subst h;exact⟨by simp only[aP];omega,j+1,by simpa using h2⟩
   ·split at h
    ·cases h
    ·simp only[bC] at h
     subst h;exact⟨by simp,1,ag⟩
theorem Wx:∀(k:Nat) (l:List Int) (p:Int × List Int),qQ l->Ar (k+1) l=some p->0<=p.1/\p.1<2 * 128 ^ k
 | _,[],_,_,h=>by simp[Ar] at h
 | 0,x::r,p,hb,h=>by
  have hx:=hb x (aQ ..);rw[Ar] at h
  split at h
  ·cases h
  ·split at h
   ·simp[Ar] at h
   ·split at h
    ·cases h
    ·simp only[bC] at h
     subst h;simp;omega
 | k+1,x::r,p,hb,h=>by
  have hx:=hb x (aQ ..);have hp:(0:Int)<128 ^ k:=Int.pow_pos ae
  rw[Ar] at h
  split at h
  ·cases h
  ·split at h
   ·cases hu:Ar (k+1) r with
    | none=>rw[hu] at h;simp at h
    | some q=>
     rw[hu] at h;simp only[Option.map_some,bC] at h;have:=Wx k r q (fun y hy=>hb y (aV _ hy)) hu
     subst h;rw[Int.pow_succ];simp only;omega
   ·split at h
    ·cases h
    ·simp only[bC] at h
     subst h;rw[Int.pow_succ];simp only;omega
theorem lW{l:List Int}{p:Int × List Int}(hb:qQ l)(h:f_ l=some p):0<=p.1/\p.1<18446744073709551616:=by
 have:=Wx 9 l p hb h;omega
theorem yG{l:List Int}{p:Int × List Int}(h:f_ l=some p):p.2.length<l.length/\∃j,p.2=l.drop j:=QC 10 l p h
def ub(v:Int):Int:=v % 18446744073709551616
theorem SQ{q v:Int}(q0:-9223372036854775808<=q)(qv:q<=v)(v1:v<=9223372036854775807):wrap64 ((ub q+(v - q)) % 18446744073709551616)=v:=by
 unfold ub wrap64;omega
theorem FN{l a b:List Int}(h1:∃j,a=l.drop j)(h2:∃j,b=a.drop j):∃j,b=l.drop j:=by
 obtain⟨i,rfl⟩:=h1;obtain⟨j,rfl⟩:=h2;exact⟨i+j,by rw[List.drop_drop]⟩
end
section
section
open Go.RowKit Go.Lib
theorem ah9(x:Int)(h0:0<=x)(h1:x<=255):bits .or .u8 x 128=x % 128+128:=by
 have h:∀n:Fin 256,bits .or .u8 ((n.val:Nat):Int) 128=((n.val:Nat):Int) % 128+128:=au
 obtain⟨n,rfl⟩:=Int.eq_ofNat_of_zero_le h0;exact h ⟨n,ae⟩
theorem ak8(x:Int)(h0:0<=x)(h1:x<=255):bits .and .u8 x 127=x % 128:=by
 have h:∀n:Fin 256,bits .and .u8 ((n.val:Nat):Int) 127=((n.val:Nat):Int) % 128:=au
 obtain⟨n,rfl⟩:=Int.eq_ofNat_of_zero_le h0;exact h ⟨n,ae⟩
theorem au1:(Tryz.prog.info? 5).map (fun i=>(i.zero,i.size,i.bytes))=some (some (.int .u8 0),1,1):=by kernel_rfl
theorem dN.lift{t:TypeId}{k:IntKind}{base base':Nat}{w:World}{v:Value}{l:List Int}(h:dN t k base w v l)(hb:∀g,v.ownBlock=some g->base'<=g):dN t k base' w v l:=by
 obtain⟨h1,h2⟩:=h;refine⟨h1,?_⟩
 rcases h2 with h2|⟨g,cap,cur,rfl,e2,r⟩
 ·exact .inl h2
 ·exact .inr ⟨g,cap,cur,rfl,hb g rfl,r⟩
def OwnB(base:Nat)(w:World)(v:Value)(l:List Int):Prop:=dN 5 .u8 base w v l
theorem ji{w:World}{ops:Array Oper}{rest:List Oper}{o:Oper}{a:Act}{Q:Exit->Act->World->Prop}(hgd:o.guard=none)(s x:Operand)
 (ho:o.op=.call {callee:=.builtin .append,args:=#[s,x],argTypes:=#[22,22]})
 (base:Nat) (v:Value) (xs:List Int) (hs:a.eval s=v) (hown:OwnB base w v xs)
 (u:Value) (news:List Int) (hx:a.eval x=u) (hr:iH .u8 w u news)
 (hlen:xs.length+news.length<=1099511627776) (hbase:base<=w.heap.size)
 (h:∀v' w',OwnB base w' v' (xs++news)->w.grownBy w' v.ownBlock->(v'.ownBlock=v.ownBlock\/v'.ownBlock=some w.heap.size)->wpList Tryz.prog ops Q rest (a.put o.dst v') w'):wpList Tryz.prog ops Q (o::rest) a w:=by
 obtain⟨i0,hi,hz0,hz1,hz2⟩:=info_parts au1;obtain⟨A,c,rfl,_,_,_⟩:=hr.form;refine jG w hgd s x 22 ho base 5 i0 _ 1 1 Tryz.underlying22 hi hz0 hz1 hz2 rfl ae v xs.length (xs.map (Value.int .u8)) hs hown A news.length c (news.map (Value.int .u8)) hx hr (Qy _ _)
  (by unfold maxLen;omega) ae hbase fun v' w' h1 h2 h3=>h v' w' ?_ h2 h3
 unfold OwnB dN;rw[aI,List.map_append];exact h1
def Wr(t:TypeId)(base:Nat)(w:World)(g:Nat)(bs:List Int):Prop:=base<=g/\∃v,dH w g t #[v]/\OwnB base w v bs
theorem dH.BJ{w:World}{g t b:Nat}{cs:Array Value}{v:Value}{l:List Int}(h:dH w g t cs)(ho:OwnB b w v l)(ht:t≠5):v.ownBlock≠some g:=by
 intro e
 rcases ho.2 with h2|⟨g',cap,cur,rfl,e2,e3,r⟩
 ·rw[h2.1] at e;cases e
 ·cases e
  unfold dH at h;rw[h] at e3
  cases e3
  exact ht rfl
theorem OwnB.far{base:Nat}{w:World}{v:Value}{l:List Int}(h:OwnB base w v l){p:Addr}(hp:v.ownBlock≠some p.block)(u:Value):OwnB base (w.setCell p u) v l:=
 dN.stay h fun g hg=>bF w p u g (fun e=>hp (by rw[hg,e]))
theorem Wr.put{t:TypeId}{base:Nat}{w w':World}{g:Nat}{v v':Value}{bs:List Int}(ht:t≠5)(hb:base<=g)(h:dH w g t #[v])(ho:OwnB base w v bs){bs':List Int}(ho':OwnB base w' v' bs')(hg:w.grownBy w' v.ownBlock) :
 Wr t base (w'.setCell ⟨g,0,none⟩ v') g bs':=by
 have h1:dH w' g t #[v]:=(hg.block g h.lt (fun e=>h.BJ ho ht e.symm)).trans h
 exact⟨hb,v',h1.dP 0 v',ho'.far (fun e=>h1.BJ ho' ht e) _⟩
theorem Wr.lt{t:TypeId}{base:Nat}{w:World}{g:Nat}{bs:List Int}(h:Wr t base w g bs):base<=g/\g<w.heap.size:=by
 obtain⟨h1,v,h2,_⟩:=h;exact⟨h1,h2.lt⟩
theorem Wr.keep{t:TypeId}{base:Nat}{w w':World}{g:Nat}{bs:List Int}(h:Wr t base w g bs)(hb:Below w.heap.size w w'):Wr t base w' g bs:=by
 obtain⟨h1,v,h2,h3⟩:=h;exact⟨h1,v,h2.keep hb,dN.keep h3 hb⟩
theorem uo(k:Nat)(n:Int)(h:127<n):lC (k+1) n=(n % 128+128)::lC k (n / 128):=by rw[lC,if_pos h]
theorem uq(k:Nat)(n:Int)(h:¬127<n):lC k n=[n]:=by
 cases k with
 | zero=>rfl
 | succ k=>rw[lC,if_neg h]
theorem lY(g base:Nat)(n s:Int)(bs:List Int)(w:World)(h:Wr 332 base w g bs)(n0:0<=n)(n1:n<18446744073709551616)(hl:bs.length<=1000000000000) :
 Calls Tryz.prog 416 #[.pointer (some ⟨g,0,none⟩),.int .u64 n,.int .i64 s] w fun e w'=>e=.returned (.tuple #[])/\Wr 332 base w' g (bs++fC n)/\Below base w w':=by
 have H:=aB h;have hlt:=h.lt;clear h
 go_enter Tryz.func416,Tryz.ntmps416
 go_wp2_with fail
 go_loopg [1] 9 (fun k v wr=>∃(m:Int) (acc:List Int),k<=9/\v=.int .u64 m/\0<=m/\m<2 * 128 ^ k/\acc.length<=9 - k/\Hid (acc++lC k m=fC n)/\Hid (Wr 332 base wr g (bs++acc))/\Below base w wr)
 case atStart=>exact⟨n,[],ae,rfl,n0,ae,ag,aB rfl,by rw[List.append_nil];exact H,aH _ _⟩
 case round=>
  obtain⟨m,acc,hk,rfl,m0,m1,ha,he,hw,hb⟩:=hrel;obtain⟨hbg,v,hB,hO⟩:=hw.out;have HB:=aB hB;have HO:=aB hO;have c0:=hB.cell 0;have f0:=hB.frozen 0;have hlg:=hB.lt;have hz:=hb.size;simp only[aF,aC] at c0;have hlen:(bs++acc).length+1<=1099511627776:=by rw[aI];omega
  clear hB hO
  by_cases hm:127<m
  ·obtain⟨q,rfl⟩:∃q,gk=q+1:=by
    rcases bT gk with h0|h0
    ·subst h0;simp at m1;omega
    ·exact⟨gk - 1,ae⟩
   have bd0:m<18446744073709551616:=by
    have h1:(2:Int) * 128 ^ (q+1)<=2 * 128 ^ 9:=by
     have:(128:Int) ^ (q+1)<=128 ^ 9:=by
      have h2:(128:Nat) ^ (q+1)<=128 ^ 9:=Nat.pow_le_pow_right ae  ae
      exact_mod_cast h2
     omega
    omega
   have hE:=aB (uo q m hm);have hd:m / 128<2 * 128 ^ q:=Int.ediv_lt_of_lt_mul ae (by rw[bV,<-Int.pow_succ];exact m1)
   have o8:=ah9 (m % 256) ae  ae
   go_wp2_with (first
    | (at_builtin
       go_must (refine ji rfl (.tmp 12) (.tmp 16) rfl base v (bs++acc) rfl (dN.alloc HO.out _) _ [m % 128+128] rfl (iH.dY _ _ _ _ _ rfl) hlen (by simp only[aO];omega) ?_)
       intro v1 w1 o1 g1 a1;obtain⟨A1,k1,hv1,_,_,_⟩:=(dN.rd o1).form;generalize (bs++acc++[m % 128+128]).length=N at hv1;subst hv1;have hb1:Below base w w1:=(hb.alloc ae _).grown g1 (by simp only[aO];omega) (fun k hk=>(dN.lt HO.out k hk).1)
       have W1:=aB (Wr.put af hbg (HB.out.alloc _) (dN.alloc HO.out _) o1 g1)
       have B1:dH w1 g 332 #[v]:=(g1.block g (HB.out.alloc _).lt (fun e=>HB.out.BJ HO.out af e.symm)).trans (HB.out.alloc _)
       have c1:=B1.cell 0;have f1:=B1.frozen 0;simp only[aF,aC] at c1;clear o1 g1 a1 B1))
   go_roundg q
   case measure=>omega
   case rel=>exact⟨m / 128,acc++[m % 128+128],ae,rfl,ae,hd,ah,by show _=_;rw[aS,<-he.out,hE.out];rfl,by rw[<-aS];exact W1,hb1.setCell ae _⟩
  ·have hE:=aB (uq gk m hm)
   have hm8:m % 256=m:=ae
   go_wp2_with (first
    | (at_builtin
       go_must (refine ji rfl (.tmp 26) (.tmp 29) rfl base v (bs++acc) rfl (dN.alloc HO.out _) _ [m] rfl (iH.dY _ _ _ _ _ rfl) hlen (by simp only[aO];omega) ?_)
       intro v1 w1 o1 g1 a1;obtain⟨A1,k1,hv1,_,_,_⟩:=(dN.rd o1).form;generalize (bs++acc++[m]).length=N at hv1;subst hv1;have hb1:Below base w w1:=(hb.alloc ae _).grown g1 (by simp only[aO];omega) (fun k hk=>(dN.lt HO.out k hk).1)
       have W1:=aB (Wr.put af hbg (HB.out.alloc _) (dN.alloc HO.out _) o1 g1)
       have B1:dH w1 g 332 #[v]:=(g1.block g (HB.out.alloc _).lt (fun e=>HB.out.BJ HO.out af e.symm)).trans (HB.out.alloc _)
       have c1:=B1.cell 0;have f1:=B1.frozen 0;simp only[aF,aC] at c1;clear o1 g1 a1 B1))
   refine bodyPost_end (v:=.tuple #[]) (by simp[results,Tryz.results416,go_sem, *];try rfl) rfl ?_
   exact⟨rfl,by rw[<-he.out,hE.out,<-aS];exact W1.out,hb1.setCell ae _⟩
end
section
open Go.RowKit Go.Lib
def qi:Nat->Int
 | 0=>98|1=>104|2=>72|3=>119|4=>87|5=>113|6=>81|7=>118|8=>122|_=>110
def NM:Nat->Int
 | 0=>1|1=>2|2=>2|3=>4|4=>4|5=>8|6=>8|_=>0
def oO:Nat->Nat
 | 0=>412|1=>412|2=>414|3=>412|4=>414|5=>412|6=>414|7=>416|8=>418|_=>420
def yH:Nat->Nat
 | 0=>413|1=>413|2=>415|3=>413|4=>415|5=>413|6=>415|7=>417|8=>419|_=>421
def fnV(k:Nat):Value:=.func (.func k) #[] #[]
def au2(j:Nat):List Value:=[.int .u8 (qi j),.int .i64 (NM j),fnV (oO j),fnV (yH j)]
def je:Array Value:=([0,1,2,3,4,5,6,7,8,9].flatMap au2).toArray
theorem yI(j:Nat)(h:j<10):je[j * 4]?=some (.int .u8 (qi j))/\je[j * 4+1]?=some (.int .i64 (NM j))/\je[j * 4+2]?=some (fnV (oO j))/\je[j * 4+3]?=some (fnV (yH j)):=by
 have:j=0\/j=1\/j=2\/j=3\/j=4\/j=5\/j=6\/j=7\/j=8\/j=9:=ae
 rcases this with rfl|rfl|rfl|rfl|rfl|rfl|rfl|rfl|rfl|rfl<;>exact⟨rfl,rfl,rfl,rfl⟩
theorem FP(w:World):Calls Tryz.prog 350 #[] w fun e w'=>e=.returned (.agg je)/\Below w.heap.size w w':=by
 have hF:(#[.int .u8 98,.int .i64 1,.func (.func 412) #[] #[],.func (.func 413) #[] #[],.int .u8 104,.int .i64 2,.func (.func 412) #[] #[],.func (.func 413) #[] #[],.int .u8 72,.int .i64 2,.func (.func 414) #[] #[],.func (.func 415) #[] #[],.int .u8 119,.int .i64 4,.func (.func 412) #[] #[],.func (.func 413) #[] #[],.int .u8 87,.int .i64 4,.func (.func 414) #[] #[],.func (.func 415) #[] #[],.int .u8 113,.int .i64 8,.func (.func 412) #[] #[],.func (.func 413) #[] #[],.int .u8 81,.int .i64 8,.func (.func 414) #[] #[],.func (.func 415) #[] #[],.int .u8 118,.int .i64 0,.func (.func 416) #[] #[],.func (.func 417) #[] #[],.int .u8 122,.int .i64 0,.func (.func 418) #[] #[],.func (.func 419) #[] #[],.int .u8 110,.int .i64 0,.func (.func 420) #[] #[],.func (.func 421) #[] #[]]:Array Value)=je:=by kernel_rfl
 go_enter Tryz.func350,Tryz.ntmps350
 go_wp2_with (refine wpList_store_row rfl 443 (.tmp 0) (.tmp 11) rfl w.heap.size _ rfl rfl 443 _ (heap_alloc_new _ _) (by as_aux_lemma=>kernel_rfl) (by as_aux_lemma=>kernel_rfl) (by as_aux_lemma=>kernel_rfl) ?_)
 refine bodyPost_ret (v:=.agg je) (results_cell_row (p:=0) (ty:=443) (by kernel_rfl) _ _ w.heap.size 443 je (0,0) _ rfl (setRow_heap _ _ _ _ _ _ (heap_alloc_new _ _)) Tryz.underlying443 rfl (by kernel_rfl)) rfl ?_
 exact⟨rfl,below_setRow ((aH _ _).alloc (aK _) _) (aK _) _⟩
end
section
open Go.RowKit Go.Lib
theorem Jy(a b c:Int)(f g:Nat)(r:Bool)(h:Nat)(w:World)(hc:w.cell? ⟨h,0,none⟩=some (.int .u8 c))(hr:(a == c)=r) :
 Calls Tryz.prog 352 #[.agg #[.int .u8 a,.int .i64 b,.func (.func f) #[] #[],.func (.func g) #[] #[]],.pointer (some ⟨h,0,none⟩)] w fun e w'=>e=.returned (.bool r)/\Below w.heap.size w w':=by
 have hlt:h<w.heap.size:=b_ _ _ hc;have HR:=aB hr;clear hr
 go_enter Tryz.func352,Tryz.ntmps352
 go_wp2
 go_ret;exact⟨qc HR.out,bw⟩
theorem BK(k:Nat)(c:Int)(G h:Nat)(w:World)(hk:k<10)(hG:dH w G 443 je)(hc:w.cell? ⟨h,0,none⟩=some (.int .u8 c))(hl:∀j,j<k->(qi j == c)=false)(he:(qi k == c)=true) :
 Calls Tryz.prog 351 #[.slice (some ⟨G,0,none⟩) 10 10,.func (.func 352) #[] #[.pointer (some ⟨h,0,none⟩)]] w fun e w'=>e=.returned (.int .i64 k)/\Below w.heap.size w w':=by
 have eg:∀args w,(callFunc 352 args).run Tryz.prog w=.ok (.enter 352 args) w:=fun _ _=>rfl
 have hlt:h<w.heap.size:=b_ _ _ hc;have HG:=aB hG;have HC:=aB hc;have HL:=aB hl;have HE:=aB he;have hgl:=hG.lt;clear hG hc hl he
 go_enter Tryz.func351,Tryz.ntmps351
 go_wp2_with fail
 go_loopg [8] (10) (fun q i wr=>∃j:Nat,q=10 - j/\j<=k/\i=.int .i64 j/\Below w.heap.size w wr)
 case atStart=>exact⟨0,rfl,bW _,rfl,aH _ _⟩
 case round=>
  obtain⟨j,hq,hj,rfl,hb⟩:=hrel;have HQ:=aB hq;have hz:=hb.size;clear hq;obtain⟨x0,x1,x2,x3⟩:=yI j ae
  have B:=HG.out.below hb hgl;have e0:=(B.cell (j * 4)).trans x0;have e1:=(B.cell (j * 4+1)).trans x1;have e2:=(B.cell (j * 4+2)).trans x2;have e3:=(B.cell (j * 4+3)).trans x3;have cc:=(hb.cell (p:=⟨h,0,none⟩) hlt).trans HC.out;have CC:=aB cc;unfold fnV at e2 e3;have hji:(j:Int)<10:=ae
  have HR:∀r,(qi j == c)=r->Hid ((qi j == c)=r):=fun r h=>aB h
  have HCL:=fun w' b r (h1:w'.cell? ⟨h,0,none⟩=some (.int .u8 c)) (h2:(qi j == c)=r)=>aB (Jy (qi j) b c (oO j) (yH j) r h w' h1 h2)
  clear x0 x1 x2 x3 B cc
  rcases bJ j k with h1|h1
  ·have HF:=aB (HL.out j h1)
   generalize qi j=a at *;generalize NM j=b at *;generalize oO j=p at *;generalize yH j=g at *
   go_wp2_with (go_at_fn 352;refine((HCL _ _ _ CC.out HF.out).out).mono ?_;rintro e w1 ⟨rfl,hb1⟩;have hz1:=hb1.size)
   go_roundg (10 - (j+1))
   case measure=>have:=HQ.out;omega
   case rel=>exact⟨j+1,rfl,ae,ai,hb.trans (hb1.mono hz)⟩
  ·obtain rfl:k=j:=ae
   have HF:=HE;generalize qi k=a at *;generalize NM k=b at *;generalize oO k=p at *;generalize yH k=g at *
   go_wp2_with (go_at_fn 352;refine((HCL _ _ _ CC.out HF.out).out).mono ?_;rintro e w1 ⟨rfl,hb1⟩;have hz1:=hb1.size)
   go_ret;exact⟨rfl,hb.trans (hb1.mono hz)⟩
end
section
open Go.RowKit Go.Lib
structure VZ(k:Nat)(c:Int):Prop where
 e:c=qi k
 lt:k<10
 no:∀j,j<k->(qi j == c)=false
 yes:(qi k == c)=true
 siz:NM k=0
theorem Wy(j:Nat)(h:j<7):(qi j == 118)=false:=by
 have:j=0\/j=1\/j=2\/j=3\/j=4\/j=5\/j=6:=ae
 rcases this with rfl|rfl|rfl|rfl|rfl|rfl|rfl<;>decide
theorem WB(j:Nat)(h:j<8):(qi j == 122)=false:=by
 have:j=0\/j=1\/j=2\/j=3\/j=4\/j=5\/j=6\/j=7:=ae
 rcases this with rfl|rfl|rfl|rfl|rfl|rfl|rfl|rfl<;>decide
theorem SS:VZ 7 118:=⟨rfl,ae,Wy,af,rfl⟩
theorem au3:VZ 8 122:=⟨rfl,ae,WB,af,rfl⟩
theorem jB(k:Nat)(c:Int)(w:World)(h:VZ k c) :
 Calls Tryz.prog 248 #[.int .u8 c] w fun e w'=>e=.returned (.tuple #[.agg #[.int .u8 c,.int .i64 0,.func (.func (oO k)) #[] #[],.func (.func (yH k)) #[] #[]],.bool true])/\Below w.heap.size w w':=by
 have H:=aB h;have hk:=h.lt;have hk1:(k:Int)<10:=ae
 clear h
 go_enter Tryz.func248,Tryz.ntmps248
 go_wp2_with fail;refine(FP _).mono ?_
 rintro e w1 ⟨rfl,hb1⟩;have hz1:=hb1.size;simp only[aO] at hz1;have CB:Hid (w1.cell? ⟨w.heap.size,0,none⟩=some (.int .u8 c)):=by
  refine(hb1.cell (p:=⟨w.heap.size,0,none⟩) (by show w.heap.size<_;simp only[aO];omega)).trans ?_
  refine(((aH (w.alloc (.cells #[.int .u8 c] 5)).heap.size (w.alloc (.cells #[.int .u8 c] 5))).alloc (aK _) _).cell (p:=⟨w.heap.size,0,none⟩) (by show w.heap.size<_;simp only[aO];omega)).trans ?_
  simp[World.cell?_alloc_new]
 have hlt0:w.heap.size<w1.heap.size:=ae
 have HT:Hid (dH w1 (w.heap.size+1) 336 #[.int .u8 0,.int .i64 0,Value.nilFunc,Value.nilFunc]):=by
  have h:=(dH.new (w.alloc (.cells #[.int .u8 c] 5)) 336 #[.int .u8 0,.int .i64 0,Value.nilFunc,Value.nilFunc]).keep hb1
  rwa [aO] at h
 go_wp2_with (refine wpList_store_row rfl 443 (.tmp 4) (.tmp 6) rfl w1.heap.size je rfl rfl 443 _ (heap_alloc_new _ _) (by as_aux_lemma=>kernel_rfl) (by as_aux_lemma=>kernel_rfl) (by as_aux_lemma=>kernel_rfl) ?_)
 have BG:=setRow_heap _ _ _ je _ _ (heap_alloc_new w1 (Obj.cells
  #[Value.int IntKind.u8 0,Value.int IntKind.i64 0,Value.nilFunc,Value.nilFunc,Value.int IntKind.u8 0,
   Value.int IntKind.i64 0,Value.nilFunc,Value.nilFunc,Value.int IntKind.u8 0,Value.int IntKind.i64 0,
   Value.nilFunc,Value.nilFunc,Value.int IntKind.u8 0,Value.int IntKind.i64 0,Value.nilFunc,
   Value.nilFunc,Value.int IntKind.u8 0,Value.int IntKind.i64 0,Value.nilFunc,Value.nilFunc,
   Value.int IntKind.u8 0,Value.int IntKind.i64 0,Value.nilFunc,Value.nilFunc,Value.int IntKind.u8 0,
   Value.int IntKind.i64 0,Value.nilFunc,Value.nilFunc,Value.int IntKind.u8 0,Value.int IntKind.i64 0,
   Value.nilFunc,Value.nilFunc,Value.int IntKind.u8 0,Value.int IntKind.i64 0,Value.nilFunc,
   Value.nilFunc,Value.int IntKind.u8 0,Value.int IntKind.i64 0,Value.nilFunc,Value.nilFunc]
  443))
 have hb2:=below_setRow ((aH w1.heap.size w1).alloc (aK _) (Obj.cells
  #[Value.int IntKind.u8 0,Value.int IntKind.i64 0,Value.nilFunc,Value.nilFunc,Value.int IntKind.u8 0,
   Value.int IntKind.i64 0,Value.nilFunc,Value.nilFunc,Value.int IntKind.u8 0,Value.int IntKind.i64 0,
   Value.nilFunc,Value.nilFunc,Value.int IntKind.u8 0,Value.int IntKind.i64 0,Value.nilFunc,
   Value.nilFunc,Value.int IntKind.u8 0,Value.int IntKind.i64 0,Value.nilFunc,Value.nilFunc,
   Value.int IntKind.u8 0,Value.int IntKind.i64 0,Value.nilFunc,Value.nilFunc,Value.int IntKind.u8 0,
   Value.int IntKind.i64 0,Value.nilFunc,Value.nilFunc,Value.int IntKind.u8 0,Value.int IntKind.i64 0,
   Value.nilFunc,Value.nilFunc,Value.int IntKind.u8 0,Value.int IntKind.i64 0,Value.nilFunc,
   Value.nilFunc,Value.int IntKind.u8 0,Value.int IntKind.i64 0,Value.nilFunc,Value.nilFunc]
  443)) (aK w1.heap.size) je
 generalize (w1.alloc (Obj.cells
  #[Value.int IntKind.u8 0,Value.int IntKind.i64 0,Value.nilFunc,Value.nilFunc,Value.int IntKind.u8 0,
   Value.int IntKind.i64 0,Value.nilFunc,Value.nilFunc,Value.int IntKind.u8 0,Value.int IntKind.i64 0,
   Value.nilFunc,Value.nilFunc,Value.int IntKind.u8 0,Value.int IntKind.i64 0,Value.nilFunc,
   Value.nilFunc,Value.int IntKind.u8 0,Value.int IntKind.i64 0,Value.nilFunc,Value.nilFunc,
   Value.int IntKind.u8 0,Value.int IntKind.i64 0,Value.nilFunc,Value.nilFunc,Value.int IntKind.u8 0,
   Value.int IntKind.i64 0,Value.nilFunc,Value.nilFunc,Value.int IntKind.u8 0,Value.int IntKind.i64 0,
   Value.nilFunc,Value.nilFunc,Value.int IntKind.u8 0,Value.int IntKind.i64 0,Value.nilFunc,
   Value.nilFunc,Value.int IntKind.u8 0,Value.int IntKind.i64 0,Value.nilFunc,Value.nilFunc]
  443)).setRow w1.heap.size je=w2 at *
 have HG:Hid (dH w2 w1.heap.size 443 je):=aB BG;have hlt2:=HG.out.lt;have hz2:=hb2.size;refine(BK k c w1.heap.size w.heap.size w2 hk HG.out ((hb2.cell (p:=⟨w.heap.size,0,none⟩) hlt0).trans CB.out) H.out.no H.out.yes).mono ?_
 rintro e w3 ⟨rfl,hb3⟩;have hz3:=hb3.size;have G3:=HG.out.keep hb3;obtain⟨x0,x1,x2,x3⟩:=yI k hk;have e0:=(G3.cell (k * 4)).trans x0;have e1:=(G3.cell (k * 4+1)).trans x1;have e2:=(G3.cell (k * 4+2)).trans x2;have e3:=(G3.cell (k * 4+3)).trans x3;unfold fnV at e2 e3;rw[<-H.out.e] at e0;rw[H.out.siz] at e1;have T3:Hid (dH w3 (w.heap.size+1) 336 #[.int .u8 0,.int .i64 0,Value.nilFunc,Value.nilFunc]):=(HT.out.below hb2 ae).below hb3 ae
 have hkn:decide ((k:Int)<0)=false:=decide_eq_false ae
 clear BG G3 x0 x1 x2 x3 CB HT HG;have hi4:(Tryz.prog.info? 336).map (·.size)=some 4:=by kernel_rfl
 obtain⟨pp,hpp⟩:∃pp,oO k=pp:=⟨_,rfl⟩;obtain⟨gg,hgg⟩:∃gg,yH k=gg:=⟨_,rfl⟩;rw[hpp] at e2;rw[hgg] at e3;have HPP:=aB hpp;have HGG:=aB hgg;clear hpp hgg
 go_wp2_with ((refine wpList_store_row rfl 336 (.tmp 2) (.tmp 15) rfl (w.heap.size+1) #[.int .u8 c,.int .i64 0,.func (.func pp) #[] #[],.func (.func gg) #[] #[]] rfl rfl 336 _ T3.out hi4 rfl (by simp[Value.oneCell']) ?_))
 have B4:dH (w3.setRow (w.heap.size+1) #[.int .u8 c,.int .i64 0,.func (.func pp) #[] #[],.func (.func gg) #[] #[]]) (w.heap.size+1) 336 #[.int .u8 c,.int .i64 0,.func (.func pp) #[] #[],.func (.func gg) #[] #[]]:=setRow_heap _ _ _ _ _ _ T3.out;have hb4:Below w.heap.size w (w3.setRow (w.heap.size+1) #[.int .u8 c,.int .i64 0,.func (.func pp) #[] #[],.func (.func gg) #[] #[]]):=by
  refine below_setRow ?_ ae _
  exact((((((aH _ _).alloc (aK _) _).alloc ag _).trans (hb1.mono (by simp only[aO];omega))).trans (hb2.mono ae)).trans (hb3.mono ae))
 generalize w3.setRow (w.heap.size+1) #[.int .u8 c,.int .i64 0,.func (.func pp) #[] #[],.func (.func gg) #[] #[]]=w4 at *;have k0:=B4.cell 0;have k1:=B4.cell 1;have k2:=B4.cell 2;have k3:=B4.cell 3;simp only[aF,aG,aC] at k0 k1 k2 k3;clear e0 e1 e2 e3 B4
 go_wp2_with fail;refine bodyPost_ret (by simp[results,Tryz.results248,go_sem, *];try rfl) rfl ?_
 exact⟨by rw[HPP.out,HGG.out],hb4⟩
theorem BL(k:Nat)(c:UInt8)(w:World)(h:VZ k (c.toNat:Int)) :
 Calls Tryz.prog 247 #[.string ⟨#[c]⟩] w fun e w'=>e=.returned (.bool true)/\Below w.heap.size w w':=by
 have H:=aB h;clear h
 go_enter Tryz.func247,Tryz.ntmps247
 go_wp2_with fail
 go_loopg [11] 1 (fun q i wr=>∃j:Nat,q=1 - j/\j<=1/\i=.int .i64 j/\Below w.heap.size w wr)
 case atStart=>exact⟨0,rfl,ae,rfl,aH _ _⟩
 case round=>
  obtain⟨j,hq,hj,rfl,hb⟩:=hrel;have HQ:=aB hq;have hz:=hb.size;clear hq
  by_cases hlt:j<1
  ·obtain rfl:j=0:=ae
   go_wp2_with (go_at_call 248;refine(jB k (c.toNat:Int) _ H.out).mono ?_;rintro e w1 ⟨rfl,hb1⟩;have hz1:=hb1.size)
   go_roundg 0
   case measure=>have:=HQ.out;omega
   case rel=>exact⟨1,rfl,ae,ai,bw⟩
  ·go_wp2_with fail
   go_ret;exact⟨rfl,hb⟩
end
end
section
open Go.RowKit
def SX(p:Option Int)(v:Int):List Int:=match p with
 | none=>zg v
 | some q=>fC (v - q)
def wS:Option Int->List Mn->List Int
 | _,[]=>[]
 | p,m::l=>SX p m.1++(fC m.2++wS (some m.1) l)
def FQ:List Mn->List Int
 | []=>[]
 | m::l=>zg m.1++(fC m.2++FQ l)
def wrD(d:Int)(L W:List Mn)(lo hi:Int):List Int:=fC d++(zg lo++(zg hi++(fC L.length++(wS none L++(fC W.length++FQ W)))))
def FU:Option Int->List Mn->Option Int
 | p,[]=>p
 | _,m::l=>FU (some m.1) l
theorem BM(m:Mn):∀(p:Option Int) (l:List Mn),FU p (l++[m])=some m.1
 | _,[]=>rfl
 | _,x::l=>BM m (some x.1) l
theorem BN(m:Mn):∀(p:Option Int) (l:List Mn),wS p (l++[m])=wS p l++(SX (FU p l) m.1++fC m.2)
 | p,[]=>by simp[wS,FU]
 | p,x::l=>by simp only[List.cons_append,wS,BN m (some x.1) l,FU,aS]
theorem Jz(m:Mn):∀(l:List Mn),FQ (l++[m])=FQ l++(zg m.1++fC m.2)
 | []=>by simp[FQ]
 | x::l=>by simp only[List.cons_append,FQ,Jz m l,aS]
theorem FV(l:List Mn)(h:0<l.length):wS none (l.take 1)=wS none (l.take 0)++(zg l[0].1++fC l[0].2):=by
 have:=BN l[0] none (l.take 0);rw[<-aT h] at this;rw[this];simp[FU,SX]
theorem JA(l:List Mn)(j:Nat)(h:j+1<l.length):wS none (l.take (j+1+1))=wS none (l.take (j+1))++(fC (l[j+1].1 - l[j].1)++fC l[j+1].2):=by
 have:=BN l[j+1] none (l.take (j+1));rw[<-aT h] at this;rw[this,aT (show j<l.length by omega),BM]
 rfl
theorem JB(l:List Mn)(j:Nat)(h:j<l.length):FQ (l.take (j+1))=FQ (l.take j)++(zg l[j].1++fC l[j].2):=by
 rw[aT h,Jz]
theorem WC(p:Option Int)(v:Int):1<=(SX p v).length/\(SX p v).length<=10:=by
 unfold SX
 split
 ·exact dM _
 ·exact dM _
theorem Aw:∀(p:Option Int) (l:List Mn),2 * l.length<=(wS p l).length/\(wS p l).length<=20 * l.length
 | _,[]=>by simp[wS]
 | p,m::l=>by
  have h1:=Aw (some m.1) l;have h2:=WC p m.1;have h3:=dM m.2;simp only[wS,aI,aP];omega
theorem QD:∀(l:List Mn),2 * l.length<=(FQ l).length/\(FQ l).length<=20 * l.length
 | []=>by simp[FQ]
 | m::l=>by
  have h1:=QD l;have h2:=dM (vg m.1);have h3:=dM m.2;simp only[FQ,zg,aI,aP];omega
theorem xn(l:List Mn)(j:Nat):(wS none (l.take j)).length<=20 * l.length:=by
 have h1:=(Aw none (l.take j)).2;have h2:(l.take j).length<=l.length:=by rw[bg];omega
 omega
theorem xq(l:List Mn)(j:Nat):(FQ (l.take j)).length<=20 * l.length:=by
 have h1:=(QD (l.take j)).2;have h2:(l.take j).length<=l.length:=by rw[bg];omega
 omega
end
end Go.Proofs.YtkiebccnpheloaaGreat
