/- Parts of a proof: what its theorem reaches, words cut short. No condition of its own. -/
import Derived.Test.YtingnldfpokckaaGreatPm05
import Derived.Laws.EntriesVeiled
import Derived.Laws.Tables
set_option maxRecDepth 100000
set_option maxHeartbeats 16000000
set_option linter.unusedVariables false
set_option linter.unusedSimpArgs false
namespace Go.Proofs.YtingnldfpokckaaGreat
section
open Go.RowKit Go.Lib
def lebF:Nat->Int->List Int
 | 0,n=>[n]
 | k+1,n=>if 127<n then(n % 128+128)::lebF k (n / 128) else [n]
def leb(n:Int):List Int:=lebF 9 n
def sgn(v:Int):Int:=if 0<=v then 2 * v else -2 * v - 1
def uns(n:Int):Int:=if n % 2=0 then n / 2 else -(n / 2) - 1
def zg(v:Int):List Int:=leb (sgn v)
theorem sgn_bd{v:Int}(h0:-9223372036854775808<=v)(h1:v<=9223372036854775807):0<=sgn v/\sgn v<18446744073709551616:=by
 unfold sgn;split<;>omega
theorem uns_sgn(v:Int):uns (sgn v)=v:=by
 unfold uns sgn;(repeat' split)<;>omega
theorem uns_bd{n:Int}(h0:0<=n)(h1:n<18446744073709551616):-9223372036854775808<=uns n/\uns n<=9223372036854775807:=by
 unfold uns;split<;>omega
theorem lebF_len:∀(k:Nat) (n:Int),1<=(lebF k n).length/\(lebF k n).length<=k+1
 | 0,n=>by simp[lebF]
 | k+1,n=>by
  unfold lebF
  split
  ·have:=lebF_len k (n / 128);simp only[List.length_cons];omega
  ·simp
theorem leb_len(n:Int):1<=(leb n).length/\(leb n).length<=10:=lebF_len 9 n
def byL(l:List Int):Prop:=∀b∈l,0<=b/\b<=255
theorem byL.append{a b:List Int}(h:byL a)(k:byL b):byL (a++b):=fun x hx=>(List.mem_append.1 hx).elim (h x) (k x)
theorem byL.drop{a:List Int}(h:byL a)(k:Nat):byL (a.drop k):=fun x hx=>h x (List.mem_of_mem_drop hx)
theorem lebF_by:∀(k:Nat) (n:Int),0<=n->n<2 * 128 ^ k->byL (lebF k n)
 | 0,n,h0,h1=>fun b hb=>by simp only[lebF,List.mem_singleton] at hb;subst hb;simp at h1;omega
 | k+1,n,h0,h1=>by
  unfold lebF
  split
  ·intro b hb
   rcases List.mem_cons.1 hb with rfl|hb
   ·omega
   ·refine lebF_by k (n / 128) (by omega) ?_ b hb
    exact Int.ediv_lt_of_lt_mul (by omega) (by rw[Int.mul_assoc,<-Int.pow_succ];exact h1)
  ·intro b hb;simp only[List.mem_singleton] at hb;subst hb;omega
theorem leb_by{n:Int}(h0:0<=n)(h1:n<18446744073709551616):byL (leb n):=lebF_by 9 n h0 (by omega)
def unF:Nat->List Int->Option (Int × List Int)
 | 0,_=>none
 | _+1,[]=>none
 | k+1,x::r=>
  if k=0/\1<x then none
  else if 127<x then(unF k r).map (fun p=>(x - 128+128 * p.1,p.2))
  else if x=0/\k<9 then none else some (x,r)
def unleb(l:List Int):Option (Int × List Int):=unF 10 l
theorem unF_leb(r:List Int):∀(k:Nat) (n:Int),0<=n->n<2 * 128 ^ k->(n=0->9<=k)->unF (k+1) (lebF k n++r)=some (n,r)
 | 0,n,h0,h1,h2=>by
  have hn:n=1:=by simp at h1;omega
  subst hn
  simp[lebF,unF]
 | k+1,n,h0,h1,h2=>by
  unfold lebF
  split
  ·rename_i h
   have e1:n / 128<2 * 128 ^ k:=Int.ediv_lt_of_lt_mul (by omega) (by rw[Int.mul_assoc,<-Int.pow_succ];exact h1)
   have ih:=unF_leb r k (n / 128) (by omega) e1 (by omega)
   rw[List.cons_append,unF,if_neg (by omega),if_pos (by omega),ih]
   simp only[Option.map_some,Option.some.injEq,Prod.mk.injEq,and_true]
   omega
  ·rename_i h
   rw[List.cons_append,unF,if_neg (by omega),if_neg (by omega),if_neg (by omega)]
   rfl
theorem unleb_leb{n:Int}(h0:0<=n)(h1:n<18446744073709551616)(r:List Int):unleb (leb n++r)=some (n,r):=unF_leb r 9 n h0 (by omega) (fun _=>Nat.le_refl _)
theorem unF_len:∀(k:Nat) (l:List Int) (p:Int × List Int),unF k l=some p->p.2.length<l.length/\∃j,p.2=l.drop j
 | 0,_,_,h=>by simp[unF] at h
 | k+1,[],_,h=>by simp[unF] at h
 | k+1,x::r,p,h=>by
  unfold unF at h
  split at h
  ·cases h
  ·split at h
   ·cases hu:unF k r with
    | none=>rw[hu] at h;simp at h
    | some q=>
     rw[hu] at h
     simp only[Option.map_some,Option.some.injEq] at h
     obtain⟨h1,j,h2⟩:=unF_len k r q hu
     subst h
     exact⟨by simp only[List.length_cons];omega,j+1,by simpa using h2⟩
   ·split at h
    ·cases h
    ·simp only[Option.some.injEq] at h
     subst h
     exact⟨by simp,1,by simp⟩
theorem unF_bd:∀(k:Nat) (l:List Int) (p:Int × List Int),byL l->unF (k+1) l=some p->0<=p.1/\p.1<2 * 128 ^ k
 | _,[],_,_,h=>by simp[unF] at h
 | 0,x::r,p,hb,h=>by
  have hx:=hb x (List.mem_cons_self ..)
  rw[unF] at h
  split at h
  ·cases h
  ·split at h
   ·simp[unF] at h
   ·split at h
    ·cases h
    ·simp only[Option.some.injEq] at h
     subst h
     simp;omega
 | k+1,x::r,p,hb,h=>by
  have hx:=hb x (List.mem_cons_self ..)
  have hp:(0:Int)<128 ^ k:=Int.pow_pos (by omega)
  rw[unF] at h
  split at h
  ·cases h
  ·split at h
   ·cases hu:unF (k+1) r with
    | none=>rw[hu] at h;simp at h
    | some q=>
     rw[hu] at h
     simp only[Option.map_some,Option.some.injEq] at h
     have:=unF_bd k r q (fun y hy=>hb y (List.mem_cons_of_mem _ hy)) hu
     subst h
     rw[Int.pow_succ]
     simp only
     omega
   ·split at h
    ·cases h
    ·simp only[Option.some.injEq] at h
     subst h
     rw[Int.pow_succ]
     simp only
     omega
theorem unleb_bd{l:List Int}{p:Int × List Int}(hb:byL l)(h:unleb l=some p):0<=p.1/\p.1<18446744073709551616:=by
 have:=unF_bd 9 l p hb h
 omega
theorem unleb_len{l:List Int}{p:Int × List Int}(h:unleb l=some p):p.2.length<l.length/\∃j,p.2=l.drop j:=unF_len 10 l p h
def ub(v:Int):Int:=v % 18446744073709551616
theorem wrap_step{q v:Int}(q0:-9223372036854775808<=q)(qv:q<=v)(v1:v<=9223372036854775807):wrap64 ((ub q+(v - q)) % 18446744073709551616)=v:=by
 unfold ub wrap64;omega
theorem suf_trans{l a b:List Int}(h1:∃j,a=l.drop j)(h2:∃j,b=a.drop j):∃j,b=l.drop j:=by
 obtain⟨i,rfl⟩:=h1
 obtain⟨j,rfl⟩:=h2
 exact⟨i+j,by rw[List.drop_drop]⟩
end
section
section
open Go.RowKit Go.Lib
theorem or128(x:Int)(h0:0<=x)(h1:x<=255):bits .or .u8 x 128=x % 128+128:=by
 have h:∀n:Fin 256,bits .or .u8 ((n.val:Nat):Int) 128=((n.val:Nat):Int) % 128+128:=by decide +kernel
 obtain⟨n,rfl⟩:=Int.eq_ofNat_of_zero_le h0
 exact h ⟨n,by omega⟩
theorem and127(x:Int)(h0:0<=x)(h1:x<=255):bits .and .u8 x 127=x % 128:=by
 have h:∀n:Fin 256,bits .and .u8 ((n.val:Nat):Int) 127=((n.val:Nat):Int) % 128:=by decide +kernel
 obtain⟨n,rfl⟩:=Int.eq_ofNat_of_zero_le h0
 exact h ⟨n,by omega⟩
theorem infoB:(Tryz.prog.info? 5).map (fun i=>(i.zero,i.size,i.bytes))=some (some (.int .u8 0),1,1):=by kernel_rfl
theorem OwnI.lift{t:TypeId}{k:IntKind}{base base':Nat}{w:World}{v:Value}{l:List Int}(h:OwnI t k base w v l)(hb:∀g,v.ownBlock=some g->base'<=g):OwnI t k base' w v l:=by
 obtain⟨h1,h2⟩:=h
 refine⟨h1,?_⟩
 rcases h2 with h2|⟨g,cap,cur,rfl,e2,r⟩
 ·exact .inl h2
 ·exact .inr ⟨g,cap,cur,rfl,hb g rfl,r⟩
def OwnB(base:Nat)(w:World)(v:Value)(l:List Int):Prop:=OwnI 5 .u8 base w v l
theorem append_B{w:World}{ops:Array Oper}{rest:List Oper}{o:Oper}{a:Act}{Q:Exit->Act->World->Prop}(hgd:o.guard=none)(s x:Operand)
 (ho:o.op=.call {callee:=.builtin .append,args:=#[s,x],argTypes:=#[44,44]})
 (base:Nat) (v:Value) (xs:List Int) (hs:a.eval s=v) (hown:OwnB base w v xs)
 (u:Value) (news:List Int) (hx:a.eval x=u) (hr:RdI .u8 w u news)
 (hlen:xs.length+news.length<=1099511627776) (hbase:base<=w.heap.size)
 (h:∀v' w',OwnB base w' v' (xs++news)->w.grownBy w' v.ownBlock->(v'.ownBlock=v.ownBlock\/v'.ownBlock=some w.heap.size)->wpList Tryz.prog ops Q rest (a.put o.dst v') w'):wpList Tryz.prog ops Q (o::rest) a w:=by
 obtain⟨i0,hi,hz0,hz1,hz2⟩:=info_parts infoB
 obtain⟨A,c,rfl,_,_,_⟩:=hr.form
 refine wpList_append_rd w hgd s x 44 ho base 5 i0 _ 1 1 Tryz.underlying44 hi hz0 hz1 hz2 rfl (by omega) v xs.length (xs.map (Value.int .u8)) hs hown A news.length c (news.map (Value.int .u8)) hx hr (int_one _ _)
  (by unfold maxLen;omega) (by omega) hbase fun v' w' h1 h2 h3=>h v' w' ?_ h2 h3
 unfold OwnB OwnI
 rw[List.length_append,List.map_append]
 exact h1
def Wr(t:TypeId)(base:Nat)(w:World)(g:Nat)(bs:List Int):Prop:=base<=g/\∃v,Blk w g t #[v]/\OwnB base w v bs
theorem Blk.notB{w:World}{g t b:Nat}{cs:Array Value}{v:Value}{l:List Int}(h:Blk w g t cs)(ho:OwnB b w v l)(ht:t≠5):v.ownBlock≠some g:=by
 intro e
 rcases ho.2 with h2|⟨g',cap,cur,rfl,e2,e3,r⟩
 ·rw[h2.1] at e;cases e
 ·cases e
  unfold Blk at h
  rw[h] at e3
  cases e3
  exact ht rfl
theorem OwnB.far{base:Nat}{w:World}{v:Value}{l:List Int}(h:OwnB base w v l){p:Addr}(hp:v.ownBlock≠some p.block)(u:Value):OwnB base (w.setCell p u) v l:=
 OwnI.stay h fun g hg=>Below.heap_setCell w p u g (fun e=>hp (by rw[hg,e]))
theorem Wr.put{t:TypeId}{base:Nat}{w w':World}{g:Nat}{v v':Value}{bs:List Int}(ht:t≠5)(hb:base<=g)(h:Blk w g t #[v])(ho:OwnB base w v bs){bs':List Int}(ho':OwnB base w' v' bs')(hg:w.grownBy w' v.ownBlock) :
 Wr t base (w'.setCell ⟨g,0,none⟩ v') g bs':=by
 have h1:Blk w' g t #[v]:=(hg.block g h.lt (fun e=>h.notB ho ht e.symm)).trans h
 exact⟨hb,v',h1.set_ 0 v',ho'.far (fun e=>h1.notB ho' ht e) _⟩
theorem Wr.lt{t:TypeId}{base:Nat}{w:World}{g:Nat}{bs:List Int}(h:Wr t base w g bs):base<=g/\g<w.heap.size:=by
 obtain⟨h1,v,h2,_⟩:=h
 exact⟨h1,h2.lt⟩
theorem Wr.keep{t:TypeId}{base:Nat}{w w':World}{g:Nat}{bs:List Int}(h:Wr t base w g bs)(hb:Below w.heap.size w w'):Wr t base w' g bs:=by
 obtain⟨h1,v,h2,h3⟩:=h
 exact⟨h1,v,h2.keep hb,OwnI.keep h3 hb⟩
theorem lebF_more(k:Nat)(n:Int)(h:127<n):lebF (k+1) n=(n % 128+128)::lebF k (n / 128):=by rw[lebF,if_pos h]
theorem lebF_last(k:Nat)(n:Int)(h:¬127<n):lebF k n=[n]:=by
 cases k with
 | zero=>rfl
 | succ k=>rw[lebF,if_neg h]
theorem wleb_any(g base:Nat)(n s:Int)(bs:List Int)(w:World)(h:Wr 291 base w g bs)(n0:0<=n)(n1:n<18446744073709551616)(hl:bs.length<=1000000000000) :
 Calls Tryz.prog 356 #[.pointer (some ⟨g,0,none⟩),.int .u64 n,.int .i64 s] w fun e w'=>e=.returned (.tuple #[])/\Wr 291 base w' g (bs++leb n)/\Below base w w':=by
 have H:=Lib.hid h
 have hlt:=h.lt
 clear h
 go_enter Tryz.func356,Tryz.ntmps356
 go_wp2_with fail
 go_loopg [1] 9 (fun k v wr=>∃(m:Int) (acc:List Int),k<=9/\v=.int .u64 m/\0<=m/\m<2 * 128 ^ k/\acc.length<=9 - k/\Hid (acc++lebF k m=leb n)/\Hid (Wr 291 base wr g (bs++acc))/\Below base w wr)
 case atStart=>exact⟨n,[],by omega,rfl,n0,by omega,by simp,Lib.hid rfl,by rw[List.append_nil];exact H,Below.refl _ _⟩
 case round=>
  obtain⟨m,acc,hk,rfl,m0,m1,ha,he,hw,hb⟩:=hrel
  obtain⟨hbg,v,hB,hO⟩:=hw.out
  have HB:=Lib.hid hB
  have HO:=Lib.hid hO
  have c0:=hB.cell 0
  have f0:=hB.frozen 0
  have hlg:=hB.lt
  have hz:=hb.size
  simp only[List.getElem?_toArray,List.getElem?_cons_zero] at c0
  have hlen:(bs++acc).length+1<=1099511627776:=by rw[List.length_append];omega
  clear hB hO
  by_cases hm:127<m
  ·obtain⟨q,rfl⟩:∃q,gk=q+1:=by
    rcases Nat.eq_zero_or_pos gk with h0|h0
    ·subst h0;simp at m1;omega
    ·exact⟨gk - 1,by omega⟩
   have hm64:m<18446744073709551616:=by
    have h1:(2:Int) * 128 ^ (q+1)<=2 * 128 ^ 9:=by
     have:(128:Int) ^ (q+1)<=128 ^ 9:=by
      have h2:(128:Nat) ^ (q+1)<=128 ^ 9:=Nat.pow_le_pow_right (by omega) (by omega)
      exact_mod_cast h2
     omega
    omega
   have hE:=Lib.hid (lebF_more q m hm)
   have hd:m / 128<2 * 128 ^ q:=Int.ediv_lt_of_lt_mul (by omega) (by rw[Int.mul_assoc,<-Int.pow_succ];exact m1)
   have o8:=or128 (m % 256) (by omega) (by omega)
   go_wp2_with (first
    | (at_builtin
       go_must (refine append_B rfl (.tmp 12) (.tmp 16) rfl base v (bs++acc) rfl (OwnI.alloc HO.out _) _ [m % 128+128] rfl (RdI.one_at _ _ _ _ _ rfl) hlen (by simp only[World.size_alloc];omega) ?_)
       intro v1 w1 o1 g1 a1
       obtain⟨A1,k1,hv1,_,_,_⟩:=(OwnI.rd o1).form
       generalize (bs++acc++[m % 128+128]).length=N at hv1
       subst hv1
       have hb1:Below base w w1:=(hb.alloc (by omega) _).grown g1 (by simp only[World.size_alloc];omega) (fun k hk=>(OwnI.lt HO.out k hk).1)
       have W1:=Lib.hid (Wr.put (by decide) hbg (HB.out.alloc _) (OwnI.alloc HO.out _) o1 g1)
       have B1:Blk w1 g 291 #[v]:=(g1.block g (HB.out.alloc _).lt (fun e=>HB.out.notB HO.out (by decide) e.symm)).trans (HB.out.alloc _)
       have c1:=B1.cell 0
       have f1:=B1.frozen 0
       simp only[List.getElem?_toArray,List.getElem?_cons_zero] at c1
       clear o1 g1 a1 B1))
   go_roundg q
   case measure=>omega
   case rel=>exact⟨m / 128,acc++[m % 128+128],by omega,rfl,by omega,hd,by simp;omega,by show _=_;rw[List.append_assoc,<-he.out,hE.out];rfl,by rw[<-List.append_assoc];exact W1,hb1.setCell (by omega) _⟩
  ·have hE:=Lib.hid (lebF_last gk m hm)
   have hm8:m % 256=m:=by omega
   go_wp2_with (first
    | (at_builtin
       go_must (refine append_B rfl (.tmp 26) (.tmp 29) rfl base v (bs++acc) rfl (OwnI.alloc HO.out _) _ [m] rfl (RdI.one_at _ _ _ _ _ rfl) hlen (by simp only[World.size_alloc];omega) ?_)
       intro v1 w1 o1 g1 a1
       obtain⟨A1,k1,hv1,_,_,_⟩:=(OwnI.rd o1).form
       generalize (bs++acc++[m]).length=N at hv1
       subst hv1
       have hb1:Below base w w1:=(hb.alloc (by omega) _).grown g1 (by simp only[World.size_alloc];omega) (fun k hk=>(OwnI.lt HO.out k hk).1)
       have W1:=Lib.hid (Wr.put (by decide) hbg (HB.out.alloc _) (OwnI.alloc HO.out _) o1 g1)
       have B1:Blk w1 g 291 #[v]:=(g1.block g (HB.out.alloc _).lt (fun e=>HB.out.notB HO.out (by decide) e.symm)).trans (HB.out.alloc _)
       have c1:=B1.cell 0
       have f1:=B1.frozen 0
       simp only[List.getElem?_toArray,List.getElem?_cons_zero] at c1
       clear o1 g1 a1 B1))
   refine bodyPost_end (v:=.tuple #[]) (by simp[results,Tryz.results356,go_sem, *];try rfl) rfl ?_
   exact⟨rfl,by rw[<-he.out,hE.out,<-List.append_assoc];exact W1.out,hb1.setCell (by omega) _⟩
end
section
open Go.RowKit Go.Lib
def fLet:Nat->Int
 | 0=>98|1=>104|2=>72|3=>119|4=>87|5=>113|6=>81|7=>118|8=>122|_=>110
def fSiz:Nat->Int
 | 0=>1|1=>2|2=>2|3=>4|4=>4|5=>8|6=>8|_=>0
def fPut:Nat->Nat
 | 0=>352|1=>352|2=>354|3=>352|4=>354|5=>352|6=>354|7=>356|8=>358|_=>360
def fGet:Nat->Nat
 | 0=>353|1=>353|2=>355|3=>353|4=>355|5=>353|6=>355|7=>357|8=>359|_=>361
def fnV(k:Nat):Value:=.func (.func k) #[] #[]
def formC(j:Nat):List Value:=[.int .u8 (fLet j),.int .i64 (fSiz j),fnV (fPut j),fnV (fGet j)]
def formsA:Array Value:=([0,1,2,3,4,5,6,7,8,9].flatMap formC).toArray
theorem formsA_at(j:Nat)(h:j<10):formsA[j * 4]?=some (.int .u8 (fLet j))/\formsA[j * 4+1]?=some (.int .i64 (fSiz j))/\formsA[j * 4+2]?=some (fnV (fPut j))/\formsA[j * 4+3]?=some (fnV (fGet j)):=by
 have:j=0\/j=1\/j=2\/j=3\/j=4\/j=5\/j=6\/j=7\/j=8\/j=9:=by omega
 rcases this with rfl|rfl|rfl|rfl|rfl|rfl|rfl|rfl|rfl|rfl<;>exact⟨rfl,rfl,rfl,rfl⟩
theorem forms_any(w:World):Calls Tryz.prog 275 #[] w fun e w'=>e=.returned (.agg formsA)/\Below w.heap.size w w':=by
 have hF:(#[.int .u8 98,.int .i64 1,.func (.func 352) #[] #[],.func (.func 353) #[] #[],.int .u8 104,.int .i64 2,.func (.func 352) #[] #[],.func (.func 353) #[] #[],.int .u8 72,.int .i64 2,.func (.func 354) #[] #[],.func (.func 355) #[] #[],.int .u8 119,.int .i64 4,.func (.func 352) #[] #[],.func (.func 353) #[] #[],.int .u8 87,.int .i64 4,.func (.func 354) #[] #[],.func (.func 355) #[] #[],.int .u8 113,.int .i64 8,.func (.func 352) #[] #[],.func (.func 353) #[] #[],.int .u8 81,.int .i64 8,.func (.func 354) #[] #[],.func (.func 355) #[] #[],.int .u8 118,.int .i64 0,.func (.func 356) #[] #[],.func (.func 357) #[] #[],.int .u8 122,.int .i64 0,.func (.func 358) #[] #[],.func (.func 359) #[] #[],.int .u8 110,.int .i64 0,.func (.func 360) #[] #[],.func (.func 361) #[] #[]]:Array Value)=formsA:=by kernel_rfl
 go_enter Tryz.func275,Tryz.ntmps275
 go_wp2_with (refine wpList_store_row rfl 374 (.tmp 0) (.tmp 11) rfl w.heap.size _ rfl rfl 374 _ (heap_alloc_new _ _) (by as_aux_lemma=>kernel_rfl) (by as_aux_lemma=>kernel_rfl) (by as_aux_lemma=>kernel_rfl) ?_)
 refine bodyPost_ret (v:=.agg formsA) (results_cell_row (p:=0) (ty:=374) (by kernel_rfl) _ _ w.heap.size 374 formsA (0,0) _ rfl (setRow_heap _ _ _ _ _ _ (heap_alloc_new _ _)) Tryz.underlying374 rfl (by kernel_rfl)) rfl ?_
 exact⟨rfl,below_setRow ((Below.refl _ _).alloc (Nat.le_refl _) _) (Nat.le_refl _) _⟩
end
section
open Go.RowKit Go.Lib
theorem formOf1_any(a b c:Int)(f g:Nat)(r:Bool)(h:Nat)(w:World)(hc:w.cell? ⟨h,0,none⟩=some (.int .u8 c))(hr:(a == c)=r) :
 Calls Tryz.prog 277 #[.agg #[.int .u8 a,.int .i64 b,.func (.func f) #[] #[],.func (.func g) #[] #[]],.pointer (some ⟨h,0,none⟩)] w fun e w'=>e=.returned (.bool r)/\Below w.heap.size w w':=by
 have hlt:h<w.heap.size:=World.block_lt_of_cell? _ _ hc
 have HR:=Lib.hid hr
 clear hr
 go_enter Tryz.func277,Tryz.ntmps277
 go_wp2
 go_ret
 exact⟨ret_bool HR.out,by(repeat' (first|(with_reducible exact Below.refl _ _)|(with_reducible refine Below.alloc ?_ ?_ _)|(with_reducible refine Below.drew ?_)|(with_reducible refine below_drewN ?_ _)|(with_reducible refine Below.setCell ?_ ?_ _)|(with_reducible refine below_of (by assumption) ?_ ?_)|go_size))⟩
theorem indexF_any(k:Nat)(c:Int)(G h:Nat)(w:World)(hk:k<10)(hG:Blk w G 374 formsA)(hc:w.cell? ⟨h,0,none⟩=some (.int .u8 c))(hl:∀j,j<k->(fLet j == c)=false)(he:(fLet k == c)=true) :
 Calls Tryz.prog 276 #[.slice (some ⟨G,0,none⟩) 10 10,.func (.func 277) #[] #[.pointer (some ⟨h,0,none⟩)]] w fun e w'=>e=.returned (.int .i64 k)/\Below w.heap.size w w':=by
 have eg:∀args w,(callFunc 277 args).run Tryz.prog w=.ok (.enter 277 args) w:=fun _ _=>rfl
 have hlt:h<w.heap.size:=World.block_lt_of_cell? _ _ hc
 have HG:=Lib.hid hG
 have HC:=Lib.hid hc
 have HL:=Lib.hid hl
 have HE:=Lib.hid he
 have hgl:=hG.lt
 clear hG hc hl he
 go_enter Tryz.func276,Tryz.ntmps276
 go_wp2_with fail
 go_loopg [8] (10) (fun q i wr=>∃j:Nat,q=10 - j/\j<=k/\i=.int .i64 j/\Below w.heap.size w wr)
 case atStart=>exact⟨0,rfl,Nat.zero_le _,rfl,Below.refl _ _⟩
 case round=>
  obtain⟨j,hq,hj,rfl,hb⟩:=hrel
  have HQ:=Lib.hid hq
  have hz:=hb.size
  clear hq
  obtain⟨x0,x1,x2,x3⟩:=formsA_at j (by omega)
  have B:=HG.out.below hb hgl
  have e0:=(B.cell (j * 4)).trans x0
  have e1:=(B.cell (j * 4+1)).trans x1
  have e2:=(B.cell (j * 4+2)).trans x2
  have e3:=(B.cell (j * 4+3)).trans x3
  have cc:=(hb.cell (p:=⟨h,0,none⟩) hlt).trans HC.out
  have CC:=Lib.hid cc
  unfold fnV at e2 e3
  have hji:(j:Int)<10:=by omega
  have HR:∀r,(fLet j == c)=r->Hid ((fLet j == c)=r):=fun r h=>Lib.hid h
  have HCL:=fun w' b r (h1:w'.cell? ⟨h,0,none⟩=some (.int .u8 c)) (h2:(fLet j == c)=r)=>Lib.hid (formOf1_any (fLet j) b c (fPut j) (fGet j) r h w' h1 h2)
  clear x0 x1 x2 x3 B cc
  rcases Nat.lt_or_ge j k with h1|h1
  ·have HF:=Lib.hid (HL.out j h1)
   generalize fLet j=a at *
   generalize fSiz j=b at *
   generalize fPut j=p at *
   generalize fGet j=g at *
   go_wp2_with (go_at_fn 277;refine((HCL _ _ _ CC.out HF.out).out).mono ?_;rintro e w1 ⟨rfl,hb1⟩;have hz1:=hb1.size)
   go_roundg (10 - (j+1))
   case measure=>have:=HQ.out;omega
   case rel=>exact⟨j+1,rfl,by omega,by go_num,hb.trans (hb1.mono hz)⟩
  ·obtain rfl:k=j:=by omega
   have HF:=HE
   generalize fLet k=a at *
   generalize fSiz k=b at *
   generalize fPut k=p at *
   generalize fGet k=g at *
   go_wp2_with (go_at_fn 277;refine((HCL _ _ _ CC.out HF.out).out).mono ?_;rintro e w1 ⟨rfl,hb1⟩;have hz1:=hb1.size)
   go_ret
   exact⟨rfl,hb.trans (hb1.mono hz)⟩
end
section
open Go.RowKit Go.Lib
structure VZ(k:Nat)(c:Int):Prop where
 e:c=fLet k
 lt:k<10
 no:∀j,j<k->(fLet j == c)=false
 yes:(fLet k == c)=true
 siz:fSiz k=0
theorem fLet_no7(j:Nat)(h:j<7):(fLet j == 118)=false:=by
 have:j=0\/j=1\/j=2\/j=3\/j=4\/j=5\/j=6:=by omega
 rcases this with rfl|rfl|rfl|rfl|rfl|rfl|rfl<;>decide
theorem fLet_no8(j:Nat)(h:j<8):(fLet j == 122)=false:=by
 have:j=0\/j=1\/j=2\/j=3\/j=4\/j=5\/j=6\/j=7:=by omega
 rcases this with rfl|rfl|rfl|rfl|rfl|rfl|rfl|rfl<;>decide
theorem vz_v:VZ 7 118:=⟨rfl,by omega,fLet_no7,by decide,rfl⟩
theorem vz_z:VZ 8 122:=⟨rfl,by omega,fLet_no8,by decide,rfl⟩
theorem formOf_any(k:Nat)(c:Int)(w:World)(h:VZ k c) :
 Calls Tryz.prog 200 #[.int .u8 c] w fun e w'=>e=.returned (.tuple #[.agg #[.int .u8 c,.int .i64 0,.func (.func (fPut k)) #[] #[],.func (.func (fGet k)) #[] #[]],.bool true])/\Below w.heap.size w w':=by
 have H:=Lib.hid h
 have hk:=h.lt
 have hk1:(k:Int)<10:=by omega
 clear h
 go_enter Tryz.func200,Tryz.ntmps200
 go_wp2_with fail
 refine(forms_any _).mono ?_
 rintro e w1 ⟨rfl,hb1⟩
 have hz1:=hb1.size
 simp only[World.size_alloc] at hz1
 have CB:Hid (w1.cell? ⟨w.heap.size,0,none⟩=some (.int .u8 c)):=by
  refine(hb1.cell (p:=⟨w.heap.size,0,none⟩) (by show w.heap.size<_;simp only[World.size_alloc];omega)).trans ?_
  refine(((Below.refl (w.alloc (.cells #[.int .u8 c] 5)).heap.size (w.alloc (.cells #[.int .u8 c] 5))).alloc (Nat.le_refl _) _).cell (p:=⟨w.heap.size,0,none⟩) (by show w.heap.size<_;simp only[World.size_alloc];omega)).trans ?_
  simp[World.cell?_alloc_new]
 have hlt0:w.heap.size<w1.heap.size:=by omega
 have HT:Hid (Blk w1 (w.heap.size+1) 295 #[.int .u8 0,.int .i64 0,Value.nilFunc,Value.nilFunc]):=by
  have h:=(Blk.new (w.alloc (.cells #[.int .u8 c] 5)) 295 #[.int .u8 0,.int .i64 0,Value.nilFunc,Value.nilFunc]).keep hb1
  rwa [World.size_alloc] at h
 go_wp2_with (refine wpList_store_row rfl 374 (.tmp 4) (.tmp 6) rfl w1.heap.size formsA rfl rfl 374 _ (heap_alloc_new _ _) (by as_aux_lemma=>kernel_rfl) (by as_aux_lemma=>kernel_rfl) (by as_aux_lemma=>kernel_rfl) ?_)
 have BG:=setRow_heap _ _ _ formsA _ _ (heap_alloc_new w1 (Obj.cells
  #[Value.int IntKind.u8 0,Value.int IntKind.i64 0,Value.nilFunc,Value.nilFunc,Value.int IntKind.u8 0,
   Value.int IntKind.i64 0,Value.nilFunc,Value.nilFunc,Value.int IntKind.u8 0,Value.int IntKind.i64 0,
   Value.nilFunc,Value.nilFunc,Value.int IntKind.u8 0,Value.int IntKind.i64 0,Value.nilFunc,
   Value.nilFunc,Value.int IntKind.u8 0,Value.int IntKind.i64 0,Value.nilFunc,Value.nilFunc,
   Value.int IntKind.u8 0,Value.int IntKind.i64 0,Value.nilFunc,Value.nilFunc,Value.int IntKind.u8 0,
   Value.int IntKind.i64 0,Value.nilFunc,Value.nilFunc,Value.int IntKind.u8 0,Value.int IntKind.i64 0,
   Value.nilFunc,Value.nilFunc,Value.int IntKind.u8 0,Value.int IntKind.i64 0,Value.nilFunc,
   Value.nilFunc,Value.int IntKind.u8 0,Value.int IntKind.i64 0,Value.nilFunc,Value.nilFunc]
  374))
 have hb2:=below_setRow ((Below.refl w1.heap.size w1).alloc (Nat.le_refl _) (Obj.cells
  #[Value.int IntKind.u8 0,Value.int IntKind.i64 0,Value.nilFunc,Value.nilFunc,Value.int IntKind.u8 0,
   Value.int IntKind.i64 0,Value.nilFunc,Value.nilFunc,Value.int IntKind.u8 0,Value.int IntKind.i64 0,
   Value.nilFunc,Value.nilFunc,Value.int IntKind.u8 0,Value.int IntKind.i64 0,Value.nilFunc,
   Value.nilFunc,Value.int IntKind.u8 0,Value.int IntKind.i64 0,Value.nilFunc,Value.nilFunc,
   Value.int IntKind.u8 0,Value.int IntKind.i64 0,Value.nilFunc,Value.nilFunc,Value.int IntKind.u8 0,
   Value.int IntKind.i64 0,Value.nilFunc,Value.nilFunc,Value.int IntKind.u8 0,Value.int IntKind.i64 0,
   Value.nilFunc,Value.nilFunc,Value.int IntKind.u8 0,Value.int IntKind.i64 0,Value.nilFunc,
   Value.nilFunc,Value.int IntKind.u8 0,Value.int IntKind.i64 0,Value.nilFunc,Value.nilFunc]
  374)) (Nat.le_refl w1.heap.size) formsA
 generalize (w1.alloc (Obj.cells
  #[Value.int IntKind.u8 0,Value.int IntKind.i64 0,Value.nilFunc,Value.nilFunc,Value.int IntKind.u8 0,
   Value.int IntKind.i64 0,Value.nilFunc,Value.nilFunc,Value.int IntKind.u8 0,Value.int IntKind.i64 0,
   Value.nilFunc,Value.nilFunc,Value.int IntKind.u8 0,Value.int IntKind.i64 0,Value.nilFunc,
   Value.nilFunc,Value.int IntKind.u8 0,Value.int IntKind.i64 0,Value.nilFunc,Value.nilFunc,
   Value.int IntKind.u8 0,Value.int IntKind.i64 0,Value.nilFunc,Value.nilFunc,Value.int IntKind.u8 0,
   Value.int IntKind.i64 0,Value.nilFunc,Value.nilFunc,Value.int IntKind.u8 0,Value.int IntKind.i64 0,
   Value.nilFunc,Value.nilFunc,Value.int IntKind.u8 0,Value.int IntKind.i64 0,Value.nilFunc,
   Value.nilFunc,Value.int IntKind.u8 0,Value.int IntKind.i64 0,Value.nilFunc,Value.nilFunc]
  374)).setRow w1.heap.size formsA=w2 at *
 have HG:Hid (Blk w2 w1.heap.size 374 formsA):=Lib.hid BG
 have hlt2:=HG.out.lt
 have hz2:=hb2.size
 refine(indexF_any k c w1.heap.size w.heap.size w2 hk HG.out ((hb2.cell (p:=⟨w.heap.size,0,none⟩) hlt0).trans CB.out) H.out.no H.out.yes).mono ?_
 rintro e w3 ⟨rfl,hb3⟩
 have hz3:=hb3.size
 have G3:=HG.out.keep hb3
 obtain⟨x0,x1,x2,x3⟩:=formsA_at k hk
 have e0:=(G3.cell (k * 4)).trans x0
 have e1:=(G3.cell (k * 4+1)).trans x1
 have e2:=(G3.cell (k * 4+2)).trans x2
 have e3:=(G3.cell (k * 4+3)).trans x3
 unfold fnV at e2 e3
 rw[<-H.out.e] at e0
 rw[H.out.siz] at e1
 have T3:Hid (Blk w3 (w.heap.size+1) 295 #[.int .u8 0,.int .i64 0,Value.nilFunc,Value.nilFunc]):=(HT.out.below hb2 (by omega)).below hb3 (by omega)
 have hkn:decide ((k:Int)<0)=false:=decide_eq_false (by omega)
 clear BG G3 x0 x1 x2 x3 CB HT HG
 have hi4:(Tryz.prog.info? 295).map (·.size)=some 4:=by kernel_rfl
 obtain⟨pp,hpp⟩:∃pp,fPut k=pp:=⟨_,rfl⟩
 obtain⟨gg,hgg⟩:∃gg,fGet k=gg:=⟨_,rfl⟩
 rw[hpp] at e2
 rw[hgg] at e3
 have HPP:=Lib.hid hpp
 have HGG:=Lib.hid hgg
 clear hpp hgg
 go_wp2_with ((refine wpList_store_row rfl 295 (.tmp 2) (.tmp 15) rfl (w.heap.size+1) #[.int .u8 c,.int .i64 0,.func (.func pp) #[] #[],.func (.func gg) #[] #[]] rfl rfl 295 _ T3.out hi4 rfl (by simp[Value.oneCell']) ?_))
 have B4:Blk (w3.setRow (w.heap.size+1) #[.int .u8 c,.int .i64 0,.func (.func pp) #[] #[],.func (.func gg) #[] #[]]) (w.heap.size+1) 295 #[.int .u8 c,.int .i64 0,.func (.func pp) #[] #[],.func (.func gg) #[] #[]]:=setRow_heap _ _ _ _ _ _ T3.out
 have hb4:Below w.heap.size w (w3.setRow (w.heap.size+1) #[.int .u8 c,.int .i64 0,.func (.func pp) #[] #[],.func (.func gg) #[] #[]]):=by
  refine below_setRow ?_ (by omega) _
  exact((((((Below.refl _ _).alloc (Nat.le_refl _) _).alloc (by simp) _).trans (hb1.mono (by simp only[World.size_alloc];omega))).trans (hb2.mono (by omega))).trans (hb3.mono (by omega)))
 generalize w3.setRow (w.heap.size+1) #[.int .u8 c,.int .i64 0,.func (.func pp) #[] #[],.func (.func gg) #[] #[]]=w4 at *
 have k0:=B4.cell 0
 have k1:=B4.cell 1
 have k2:=B4.cell 2
 have k3:=B4.cell 3
 simp only[List.getElem?_toArray,List.getElem?_cons_succ,List.getElem?_cons_zero] at k0 k1 k2 k3
 clear e0 e1 e2 e3 B4
 go_wp2_with fail
 refine bodyPost_ret (by simp[results,Tryz.results200,go_sem, *];try rfl) rfl ?_
 exact⟨by rw[HPP.out,HGG.out],hb4⟩
theorem wright_any(k:Nat)(c:UInt8)(w:World)(h:VZ k (c.toNat:Int)) :
 Calls Tryz.prog 199 #[.string ⟨#[c]⟩] w fun e w'=>e=.returned (.bool true)/\Below w.heap.size w w':=by
 have H:=Lib.hid h
 clear h
 go_enter Tryz.func199,Tryz.ntmps199
 go_wp2_with fail
 go_loopg [11] 1 (fun q i wr=>∃j:Nat,q=1 - j/\j<=1/\i=.int .i64 j/\Below w.heap.size w wr)
 case atStart=>exact⟨0,rfl,by omega,rfl,Below.refl _ _⟩
 case round=>
  obtain⟨j,hq,hj,rfl,hb⟩:=hrel
  have HQ:=Lib.hid hq
  have hz:=hb.size
  clear hq
  by_cases hlt:j<1
  ·obtain rfl:j=0:=by omega
   go_wp2_with (go_at_call 200;refine(formOf_any k (c.toNat:Int) _ H.out).mono ?_;rintro e w1 ⟨rfl,hb1⟩;have hz1:=hb1.size)
   go_roundg 0
   case measure=>have:=HQ.out;omega
   case rel=>exact⟨1,rfl,by omega,by go_num,by(repeat' (first|(with_reducible exact Below.refl _ _)|(with_reducible refine Below.alloc ?_ ?_ _)|(with_reducible refine Below.drew ?_)|(with_reducible refine below_drewN ?_ _)|(with_reducible refine Below.setCell ?_ ?_ _)|(with_reducible refine below_of (by assumption) ?_ ?_)|go_size))⟩
  ·go_wp2_with fail
   go_ret
   exact⟨rfl,hb⟩
end
end
section
open Go.RowKit
def encP(p:Option Int)(v:Int):List Int:=match p with
 | none=>zg v
 | some q=>leb (v - q)
def wrl:Option Int->List Mn->List Int
 | _,[]=>[]
 | p,m::l=>encP p m.1++(leb m.2++wrl (some m.1) l)
def wrw:List Mn->List Int
 | []=>[]
 | m::l=>zg m.1++(leb m.2++wrw l)
def wrD(d:Int)(L W:List Mn)(lo hi:Int):List Int:=leb d++(zg lo++(zg hi++(leb L.length++(wrl none L++(leb W.length++wrw W)))))
def lastN:Option Int->List Mn->Option Int
 | p,[]=>p
 | _,m::l=>lastN (some m.1) l
theorem lastN_snoc(m:Mn):∀(p:Option Int) (l:List Mn),lastN p (l++[m])=some m.1
 | _,[]=>rfl
 | _,x::l=>lastN_snoc m (some x.1) l
theorem wrl_snoc(m:Mn):∀(p:Option Int) (l:List Mn),wrl p (l++[m])=wrl p l++(encP (lastN p l) m.1++leb m.2)
 | p,[]=>by simp[wrl,lastN]
 | p,x::l=>by simp only[List.cons_append,wrl,wrl_snoc m (some x.1) l,lastN,List.append_assoc]
theorem wrw_snoc(m:Mn):∀(l:List Mn),wrw (l++[m])=wrw l++(zg m.1++leb m.2)
 | []=>by simp[wrw]
 | x::l=>by simp only[List.cons_append,wrw,wrw_snoc m l,List.append_assoc]
theorem wrl_take0(l:List Mn)(h:0<l.length):wrl none (l.take 1)=wrl none (l.take 0)++(zg l[0].1++leb l[0].2):=by
 have:=wrl_snoc l[0] none (l.take 0)
 rw[<-List.take_succ_eq_append_getElem h] at this
 rw[this]
 simp[lastN,encP]
theorem wrl_take(l:List Mn)(j:Nat)(h:j+1<l.length):wrl none (l.take (j+1+1))=wrl none (l.take (j+1))++(leb (l[j+1].1 - l[j].1)++leb l[j+1].2):=by
 have:=wrl_snoc l[j+1] none (l.take (j+1))
 rw[<-List.take_succ_eq_append_getElem h] at this
 rw[this,List.take_succ_eq_append_getElem (show j<l.length by omega),lastN_snoc]
 rfl
theorem wrw_take(l:List Mn)(j:Nat)(h:j<l.length):wrw (l.take (j+1))=wrw (l.take j)++(zg l[j].1++leb l[j].2):=by
 rw[List.take_succ_eq_append_getElem h,wrw_snoc]
theorem encP_len(p:Option Int)(v:Int):1<=(encP p v).length/\(encP p v).length<=10:=by
 unfold encP
 split
 ·exact leb_len _
 ·exact leb_len _
theorem wrl_len:∀(p:Option Int) (l:List Mn),2 * l.length<=(wrl p l).length/\(wrl p l).length<=20 * l.length
 | _,[]=>by simp[wrl]
 | p,m::l=>by
  have h1:=wrl_len (some m.1) l
  have h2:=encP_len p m.1
  have h3:=leb_len m.2
  simp only[wrl,List.length_append,List.length_cons]
  omega
theorem wrw_len:∀(l:List Mn),2 * l.length<=(wrw l).length/\(wrw l).length<=20 * l.length
 | []=>by simp[wrw]
 | m::l=>by
  have h1:=wrw_len l
  have h2:=leb_len (sgn m.1)
  have h3:=leb_len m.2
  simp only[wrw,zg,List.length_append,List.length_cons]
  omega
theorem wrl_take_len(l:List Mn)(j:Nat):(wrl none (l.take j)).length<=20 * l.length:=by
 have h1:=(wrl_len none (l.take j)).2
 have h2:(l.take j).length<=l.length:=by rw[List.length_take];omega
 omega
theorem wrw_take_len(l:List Mn)(j:Nat):(wrw (l.take j)).length<=20 * l.length:=by
 have h1:=(wrw_len (l.take j)).2
 have h2:(l.take j).length<=l.length:=by rw[List.length_take];omega
 omega
end
end Go.Proofs.YtingnldfpokckaaGreat
