/- Parts of a proof: what its theorem reaches, words cut short. No condition of its own. -/
import Derived.Laws.OwnMore
import Derived.Test.YtkiebccnpheloaaGreatPv39
import Derived.Laws.BytesArg
import Derived.Deep.SlicePairs
set_option maxRecDepth 100000
set_option maxHeartbeats 16000000
set_option linter.unusedVariables false
set_option linter.unusedSimpArgs false
namespace Go.Proofs.YtkiebccnpheloaaGreat.K
open Go.RowKit
open Go.RowKit
end Go.Proofs.YtkiebccnpheloaaGreat.K
namespace Go.Proofs.YtkiebccnpheloaaGreat.D
open Go.RowKit Go.Lib Go.Shelf
theorem CnAt.stay{q:Value}{B:List Int}{a:Nat}{H:Ft}{w w':World}(h:CnAt q B a H w)(hk:∀k,H k->w'.heap[k]?=w.heap[k]?)(hz:w.heap.size<=w'.heap.size):CnAt q B a H w':=by
 rcases h with h|⟨cg,r,cv,e,h1,h2,h3,h4,h5⟩
 ·exact .inl h
 ·exact .inr ⟨cg,r,cv,e,h1.stay (hk _ h2) (hk _ h3) (fun k e=>hk k (h4 k e)) hz,h2,h3,h4,fun k h=>Nat.lt_of_lt_of_le (h5 k h) hz⟩
theorem CnAt.low{q:Value}{B:List Int}{a:Nat}{H:Ft}{w:World}(h:CnAt q B a H w):∀k,H k->k<w.heap.size:=by
 rcases h with⟨_,_,_,h⟩|⟨cg,r,cv,e,h1,h2,h3,h4,h5⟩
 ·exact fun k hk=>absurd hk (h k)
 ·exact h5
theorem CnAt.keep{q:Value}{B:List Int}{a:Nat}{H:Ft}{w w':World}(h:CnAt q B a H w)(hb:Below w.heap.size w w'):CnAt q B a H w':=h.stay (fun k hk=>hb.block k (h.low k hk)) hb.size
theorem CnAt.far{q:Value}{B:List Int}{a:Nat}{F H:Ft}{w w':World}(h:CnAt q B a H w)(ht:Touch F w w')(hd:∀k,H k->¬F k):CnAt q B a H w':=h.stay (fun k hk=>ht.block k (h.low k hk) (hd k hk)) ht.size
theorem CnAt.nil_(w:World):CnAt (.pointer none) [] 0 (fun _=>False) w:=.inl ⟨rfl,rfl,rfl,fun _ h=>h⟩
theorem RCnAt.stay{o:Nat}{q:Value}{B:List Int}{a:Nat}{H:Ft}{w w':World}(h:RCnAt o q B a H w)(hk:∀k,H k->w'.heap[k]?=w.heap[k]?)(ho:∀k,k<o->w'.heap[k]?=w.heap[k]?)(hz:w.heap.size<=w'.heap.size):RCnAt o q B a H w':=by
 obtain⟨dg,dv,e,h1,h2,h3,h4⟩:=h
 exact⟨dg,dv,e,h1.stay (hk _ h2) (fun k e=>(h3 k e).elim (ho k) (hk k)) hz,h2,h3,fun k h=>Nat.lt_of_lt_of_le (h4 k h) hz⟩
theorem RCnAt.low{o:Nat}{q:Value}{B:List Int}{a:Nat}{H:Ft}{w:World}(h:RCnAt o q B a H w):∀k,H k->k<w.heap.size:=by
 obtain⟨dg,dv,e,h1,h2,h3,h4⟩:=h
 exact h4
theorem RCnAt.keep{o:Nat}{q:Value}{B:List Int}{a:Nat}{H:Ft}{w w':World}(h:RCnAt o q B a H w)(ho:o<=w.heap.size)(hb:Below w.heap.size w w'):RCnAt o q B a H w':=h.stay (fun k hk=>hb.block k (h.low k hk)) (fun k hk=>hb.block k (by omega)) hb.size
theorem RCnAt.far{o:Nat}{q:Value}{B:List Int}{a:Nat}{F H:Ft}{w w':World}(h:RCnAt o q B a H w)(ho:o<=w.heap.size)(ht:Touch F w w')(hd:∀k,H k->¬F k)(hF:∀k,F k->o<=k):RCnAt o q B a H w':=
 h.stay (fun k hk=>ht.block k (h.low k hk) (hd k hk)) (fun k hk=>ht.block k (by omega) (fun hf=>by have:=hF k hf;omega)) ht.size
theorem mutc_same{P C:Ft->World->Prop}(S:Stay P){F H:Ft}{er:Int}{w w':World}{e:Ending}(h:P F w)(he:e=.returned (.int .i64 er))(hb:Below w.heap.size w w')(hc:C H w'):MutC P C F H er w e w':=
 ⟨he,S.more (S.keep h hb) (fun _ h=>.inl h) (gr_lt (S.low h) hb.size),hc,Touch.of_below hb (Nat.le_refl _)⟩
theorem mutc_of{P C:Ft->World->Prop}{F H:Ft}{er:Int}{w w':World}{e:Ending}(h:MutP P F er w e w')(hc:C H w'):MutC P C F H er w e w':=⟨h.1,h.2.1,hc,h.2.2.mono fun _ h=>.inl h⟩
section
variable {G H F' : Ft} {w w' : World} {p q n cg r led a o p2 led2 : Nat} {cv lv cq : Value} {B : List Int} {s0 : K.KS} {vs : List K.Sv} {L M : K.LL} {G2 : Ft}
theorem kpack_c(hp:K.PkAt G w p q n cg r cv B s0 F' w' lv vs (K.packA q B s0))(hn:n=K.wt s0.1)(hG:∀k,G k->k<w.heap.size)(h1:H cg)(h2:H r)(h3:∀k,cv.ownBlock=some k->H k)(h4:∀k,H k->k<w.heap.size) :
 MutC (fun G w=>K.KAt G w p q (K.packA q B s0).1 (K.packA q B s0).2.1) (CnAt (ptrV cg) B (K.packA q B s0).2.2) G H 0 w (.returned (.int .i64 0)) w':=by
 have ht:Touch (fun k=>G k\/H k) w w':=hp.touch.mono fun x hx=>hx.imp id fun e=>by rw[show x=r from e];exact h2
 refine⟨rfl,(k_stay p q _ _).gr (w:=w) ⟨lv,vs,?_⟩ hp.sub hG hp.touch.size,.inr ⟨cg,r,cv,rfl,hp.co,h1,h2,h3,fun k h=>Nat.lt_of_lt_of_le (h4 k h) hp.touch.size⟩,ht⟩
 rw[K.packA_wt,<-hn];exact hp.st
theorem rkpack_c{dg:Nat}{dv:Value}(hp:K.RkAt G w p q dg dv B s0 F' w' lv vs (K.packA q B s0))(hG:∀k,G k->k<w.heap.size)(h1:H dg)(h3:∀k,dv.ownBlock=some k->k<o\/H k)(h4:∀k,H k->k<w.heap.size) :
 MutC (fun G w=>K.RAt G w p q (K.packA q B s0).1 (K.packA q B s0).2.1) (RCnAt o (ptrV dg) B (K.packA q B s0).2.2) G H 0 w (.returned (.int .i64 0)) w':=by
 have ht:Touch (fun k=>G k\/H k) w w':=hp.touch.mono fun x hx=>hx.imp id fun e=>by rw[show x=dg from e];exact h1
 exact⟨rfl,(rk_stay p q _ _).gr (w:=w) ⟨lv,vs,hp.st⟩ hp.sub hG hp.touch.size,⟨dg,dv,rfl,hp.co,h1,h3,fun k h=>Nat.lt_of_lt_of_le (h4 k h) hp.touch.size⟩,ht⟩
theorem k_add(v:Int)(n:Nat)(h:K.KAt G w p q L led)(hf:K.Fit q L led)(hc:CnAt cq B a H w)(hq:cq≠.pointer none)(hd:∀k,H k->¬G k)(h8:8<=q)(hk:q<=4096)(hn:n<18446744073709551616) :
 Calls Tryz.prog 134 #[.pointer (some ⟨p,0,none⟩),.int .i64 v,.int .u64 n,cq] w (MutC (fun G w=>K.KAt G w p q (K.addS q B v n (L,led,a)).1 (K.addS q B v n (L,led,a)).2.1) (CnAt cq B (K.addS q B v n (L,led,a)).2.2) G H (K.addE L n) w):=by
 have hG:=(k_stay p q L led).low h
 have h':=h
 obtain⟨lv,vs,hs⟩:=h
 have hcnt:=hf.cnt (by omega) hk
 have hw:=hf.ok.wtL
 unfold K.addS
 by_cases h0:n=0
 ·subst h0
  have e:K.addE L 0=4:=rfl
  rw[e,if_neg (by decide)]
  refine(K.add_zero p v _ w).mono ?_
  rintro _ w' ⟨rfl,rfl⟩
  exact mutc_same (k_stay p q _ _) h' rfl (Below.refl _ _) hc
 ·by_cases h6:281474976710656<K.wt L+n
  ·have e:K.addE L n=6:=by unfold K.addE;rw[if_neg h0,if_pos h6]
   rw[e,if_neg (by decide)]
   refine(K.add_over v n _ w hs hw h6 hn).mono ?_
   rintro _ w' ⟨rfl,rfl⟩
   exact mutc_same (k_stay p q _ _) h' rfl (Below.refl _ _) hc
  ·have e:K.addE L n=0:=by unfold K.addE;rw[if_neg h0,if_neg h6]
   rw[e,if_pos rfl]
   rcases hc with⟨e1,_⟩|⟨cg,r,cv,rfl,h1,h2,h3,h4,h5⟩
   ·exact absurd e1 hq
   ·refine(K.add_yes v w hs h1 ⟨hd _ h2,hd _ h3,fun k e=>⟨hd _ (h4 k e),h5 _ (h4 k e)⟩,h5 _ h2,h5 _ h3⟩ hf.pk rfl (by omega) (by omega) (by omega) (by omega) (by omega)).mono ?_
    rintro _ w' ⟨rfl,F',lv',vs',hp,_⟩
    exact kpack_c hp (K.addL_wt _ _ (by omega)).symm hG h2 h3 h4 h5
theorem rk_add(v:Int)(n:Nat)(h:K.RAt G w p q L led)(hf:K.Fit q L led)(hc:RCnAt o cq B a H w)(hd:∀k,H k->¬G k)(ho:o<=w.heap.size)(hoG:∀k,G k->o<=k)(h8:8<=q)(hk:q<=4096)(hn:n<18446744073709551616) :
 Calls Tryz.prog 177 #[.pointer (some ⟨p,0,none⟩),.int .i64 v,.int .u64 n,cq] w (MutC (fun G w=>K.RAt G w p q (K.addS q B v n (L,led,a)).1 (K.addS q B v n (L,led,a)).2.1) (RCnAt o cq B (K.addS q B v n (L,led,a)).2.2) G H (K.addE L n) w):=by
 have hG:=(rk_stay p q L led).low h
 have h':=h
 obtain⟨lv,vs,hs⟩:=h
 have hcnt:=hf.cnt (by omega) hk
 have hw:=hf.ok.wtL
 unfold K.addS
 by_cases h0:n=0
 ·subst h0
  have e:K.addE L 0=4:=rfl
  rw[e,if_neg (by decide)]
  refine(K.radd_zero p v _ w).mono ?_
  rintro _ w' ⟨rfl,rfl⟩
  exact mutc_same (rk_stay p q _ _) h' rfl (Below.refl _ _) hc
 ·by_cases h6:281474976710656<K.wt L+n
  ·have e:K.addE L n=6:=by unfold K.addE;rw[if_neg h0,if_pos h6]
   rw[e,if_neg (by decide)]
   refine(K.radd_over v n _ w hs hw hf.ok.lenL h6 hn).mono ?_
   rintro _ w' ⟨rfl,rfl⟩
   exact mutc_same (rk_stay p q _ _) h' rfl (Below.refl _ _) hc
  ·have e:K.addE L n=0:=by unfold K.addE;rw[if_neg h0,if_neg h6]
   rw[e,if_pos rfl]
   obtain⟨dg,dv,rfl,h1,h2,h3,h4⟩:=hc
   refine(K.radd_yes v w hs h1 ⟨hd _ h2,fun k e=>⟨fun hg=>(h3 k e).elim (fun h=>by have:=hoG k hg;omega) (fun h=>hd k h hg),(h3 k e).elim (fun h=>by omega) (h4 k)⟩,h4 _ h2⟩ hf.pk (by omega) (by omega) (by omega) (by omega) (by omega)).mono ?_
   rintro _ w' ⟨rfl,F',lv',vs',hp⟩
   exact rkpack_c hp hG h2 h3 h4
end
end Go.Proofs.YtkiebccnpheloaaGreat.D
namespace Go.Proofs.YtkiebccnpheloaaGreat
def Gap(d n:Int):Int->List Mn->Prop
 | _,[]=>True
 | _,[_]=>True
 | done,a::b::r=>(∃m,0<m/\m<=b.2/\mayI d n done (a.2+m)=false)/\Gap d n (done+a.2) (b::r)
theorem pressL_head(d n:Int):∀(l:List Mn) (done:Int) (now:Mn),okL l->∃b r,pressL d n l done now=b::r/\now.2<=b.2
 | [],_,now,_=>⟨now,[],rfl,Int.le_refl _⟩
 | m::l,done,now,ho=>by
  have hm:=(ho m (List.mem_cons_self ..)).2.2
  unfold pressL
  split
  ·obtain⟨b,r,h1,h2⟩:=pressL_head d n l done (lerpI now.1 m.1 m.2 (now.2+m.2),now.2+m.2) ho.tail
   exact⟨b,r,h1,by simp only at h2;omega⟩
  ·exact⟨now,_,rfl,Int.le_refl _⟩
theorem pressL_gap(d n:Int):∀(l:List Mn) (done:Int) (now:Mn),okL l->Gap d n done (pressL d n l done now)
 | [],_,_,_=>trivial
 | m::l,done,now,ho=>by
  have hm:=(ho m (List.mem_cons_self ..)).2.2
  unfold pressL
  split
  ·exact pressL_gap d n l done _ ho.tail
  ·rename_i hc
   obtain⟨b,r,h1,h2⟩:=pressL_head d n l (done+now.2) m ho.tail
   have ih:=pressL_gap d n l (done+now.2) m ho.tail
   rw[h1] at ih |-
   exact⟨⟨m.2,hm,h2,by simpa using hc⟩,ih⟩
theorem prs_gap(d:Int){l:List Mn}(h:okL l):Gap d (tot l) 0 (prs d l):=by
 unfold prs
 have:=h.srt
 cases hs:srt l with
 | nil=>trivial
 | cons m s=>rw[hs] at this;exact pressL_gap d (tot l) s 0 m this.tail
theorem may_left{d n done w:Int}(h:mayI d n done w=false)(n0:0<n)(d0:0<=done)(w0:0<w)(hl:2 * done+w<=n):2 * done<=w * (d - 1):=by
 unfold mayI at h
 have h1:(2 * done+w) * (2 * n - 2 * done - w)<w * d * n:=by simpa using h
 have h2:(2 * done+w) * n<=(2 * done+w) * (2 * n - 2 * done - w):=Int.mul_le_mul_of_nonneg_left (by omega) (by omega)
 have h3:(2 * done+w) * n<w * d * n:=by omega
 have h4:2 * done+w<w * d:=Int.lt_of_mul_lt_mul_right h3 (by omega)
 have h5:w * (d - 1)=w * d - w:=by rw[Int.mul_sub,Int.mul_one]
 omega
theorem may_right{d n done w:Int}(h:mayI d n done w=false)(n0:0<n)(_d0:0<=done)(_w0:0<w)(hl:n<=2 * done+w)(hw:2 * done+w<=2 * n):2 * (n - done)<=w * (d+1):=by
 unfold mayI at h
 have h1:(2 * done+w) * (2 * n - 2 * done - w)<w * d * n:=by simpa using h
 have h2:n * (2 * n - 2 * done - w)<=(2 * done+w) * (2 * n - 2 * done - w):=Int.mul_le_mul_of_nonneg_right hl (by omega)
 have h3:(2 * n - 2 * done - w) * n<w * d * n:=by rw[Int.mul_comm] at h2;omega
 have h4:2 * n - 2 * done - w<w * d:=Int.lt_of_mul_lt_mul_right h3 (by omega)
 have h5:w * (d+1)=w * d+w:=by rw[Int.mul_add,Int.mul_one]
 omega
theorem Gap.tail2{d n done:Int}{a b:Mn}{r:List Mn}(h:Gap d n done (a::b::r)):Gap d n (done+a.2+b.2) r:=by
 obtain⟨_,h2⟩:=h
 cases r with
 | nil=>trivial
 | cons c r=>exact h2.2
theorem gap_left{d n:Int}(n0:0<n)(d1:1<=d):∀(K:Nat) (P:List Mn) (done:Int),Gap d n done P->okL P->0<=done->2 * K<=P.length->2 * (done+tot (P.take (2 * K)))<=n->2 * K * done<=tot (P.take (2 * K)) * (d - 1)
 | 0,P,done,_,_,_,_,_=>by simp[tot]
 | K+1,[],_,_,_,_,h,_=>by simp only[List.length_nil] at h;omega
 | K+1,[_],_,_,_,_,h,_=>by simp only[List.length_singleton] at h;omega
 | K+1,a::b::r,done,hg,ho,h0,hl,ht=>by
  have ha:=(ho a (List.mem_cons_self ..)).2.2
  have hb:=(ho b (by simp)).2.2
  have e:2 * (K+1)=2 * K+1+1:=by omega
  rw[e,List.take_succ_cons,List.take_succ_cons] at ht |-
  simp only[tot] at ht |-
  have hrt:=(ho.tail.tail.take (2 * K)).tot_nonneg
  have ih:=gap_left n0 d1 K r (done+a.2+b.2) hg.tail2 ho.tail.tail (by omega) (by simp only[List.length_cons] at hl;omega) (by omega)
  obtain⟨⟨m,m0,m1,hm⟩,_⟩:=hg
  have hp:=may_left hm n0 h0 (by omega) (by omega)
  have hp2:(a.2+m) * (d - 1)<=(a.2+b.2) * (d - 1):=Int.mul_le_mul_of_nonneg_right (by omega) (by omega)
  have hk:2 * (K:Int) * done<=2 * (K:Int) * (done+a.2+b.2):=Int.mul_le_mul_of_nonneg_left (by omega) (by omega)
  have e1:(a.2+(b.2+tot (r.take (2 * K)))) * (d - 1)=(a.2+b.2) * (d - 1)+tot (r.take (2 * K)) * (d - 1):=by rw[<-Int.add_assoc,Int.add_mul]
  have e2:2 * ((K+1:Nat):Int) * done=2 * (K:Int) * done+2 * done:=by
   have:2 * ((K+1:Nat):Int)=2 * (K:Int)+2:=by omega
   rw[this,Int.add_mul]
  rw[e1,e2]
  omega
theorem gap_right{d n:Int}(n0:0<n)(d1:1<=d):∀(K:Nat) (P:List Mn) (done:Int),Gap d n done P->okL P->n<=2 * done->done+tot P=n->2 * K<=P.length->2 * K * tot (P.drop (2 * K))<=tot (P.take (2 * K)) * (d+1)
 | 0,P,done,_,_,_,_,_=>by simp[tot]
 | K+1,[],_,_,_,_,_,h=>by simp only[List.length_nil] at h;omega
 | K+1,[_],_,_,_,_,_,h=>by simp only[List.length_singleton] at h;omega
 | K+1,a::b::r,done,hg,ho,h0,hn,hl=>by
  have ha:=(ho a (List.mem_cons_self ..)).2.2
  have hb:=(ho b (by simp)).2.2
  have e:2 * (K+1)=2 * K+1+1:=by omega
  rw[e,List.take_succ_cons,List.take_succ_cons,List.drop_succ_cons,List.drop_succ_cons]
  simp only[tot] at hn |-
  have hrt:=(ho.tail.tail.take (2 * K)).tot_nonneg
  have hrd:=(ho.tail.tail.drop (2 * K)).tot_nonneg
  have hsum:=tot_append (r.take (2 * K)) (r.drop (2 * K))
  rw[List.take_append_drop] at hsum
  have ih:=gap_right n0 d1 K r (done+a.2+b.2) hg.tail2 ho.tail.tail (by omega) (by omega) (by simp only[List.length_cons] at hl;omega)
  obtain⟨⟨m,m0,m1,hm⟩,_⟩:=hg
  have hp:=may_right hm n0 (by omega) (by omega) (by omega) (by omega)
  have hp2:(a.2+m) * (d+1)<=(a.2+b.2) * (d+1):=Int.mul_le_mul_of_nonneg_right (by omega) (by omega)
  have e1:(a.2+(b.2+tot (r.take (2 * K)))) * (d+1)=(a.2+b.2) * (d+1)+tot (r.take (2 * K)) * (d+1):=by rw[<-Int.add_assoc,Int.add_mul]
  have e2:2 * ((K+1:Nat):Int) * tot (r.drop (2 * K))=2 * (K:Int) * tot (r.drop (2 * K))+2 * tot (r.drop (2 * K)):=by
   have:2 * ((K+1:Nat):Int)=2 * (K:Int)+2:=by omega
   rw[this,Int.add_mul]
  rw[e1,e2]
  omega
theorem Gap.drop{d n:Int}:∀(i:Nat) (P:List Mn) (done:Int),Gap d n done P->Gap d n (done+tot (P.take i)) (P.drop i)
 | 0,P,done,h=>by simpa[tot] using h
 | i+1,[],done,_=>trivial
 | i+1,[a],done,_=>by simp[Gap]
 | i+1,a::b::r,done,h=>by
  have:=Gap.drop i (b::r) (done+a.2) h.2
  rw[List.take_succ_cons,List.drop_succ_cons]
  simp only[tot]
  rw[<-Int.add_assoc]
  exact this
theorem left_double{d n:Int}{D:Nat}(hD:(D:Int)=d)(n0:0<n)(d1:1<=d):∀(j:Nat) (P:List Mn) (done:Int),Gap d n done P->okL P->0<=done->2 * D * j<=P.length->2 * (done+tot (P.take (2 * D * j)))<=n->2 ^ j * done<=done+tot (P.take (2 * D * j))
 | 0,P,done,_,_,_,_,_=>by simp[tot]
 | j+1,P,done,hg,ho,h0,hl,ht=>by
  have e:2 * D * (j+1)=2 * D+2 * D * j:=by rw[Nat.mul_add,Nat.mul_one];omega
  rw[e] at hl ht |-
  have hsp:P.take (2 * D+2 * D * j)=P.take (2 * D)++(P.drop (2 * D)).take (2 * D * j):=by rw[List.take_add]
  rw[hsp,tot_append] at ht |-
  have t1:=(ho.take (2 * D)).tot_nonneg
  have t2:=((ho.drop (2 * D)).take (2 * D * j)).tot_nonneg
  have h1:=gap_left n0 d1 D P done hg ho h0 (by omega) (by omega)
  have h2:=left_double hD n0 d1 j (P.drop (2 * D)) (done+tot (P.take (2 * D))) (hg.drop (2 * D)) (ho.drop _) (by omega) (by rw[List.length_drop];omega) (by omega)
  have h3:done<=tot (P.take (2 * D)):=by
   rw[hD] at h1
   have h4:2 * d * done<=tot (P.take (2 * D)) * (d - 1):=h1
   have h5:tot (P.take (2 * D)) * (d - 1)<=tot (P.take (2 * D)) * (2 * d):=Int.mul_le_mul_of_nonneg_left (by omega) t1
   have h6:done * (2 * d)<=tot (P.take (2 * D)) * (2 * d):=by rw[Int.mul_comm done];omega
   exact Int.le_of_mul_le_mul_right h6 (by omega)
  have h7:(2:Int) ^ j * (2 * done)<=2 ^ j * (done+tot (P.take (2 * D))):=Int.mul_le_mul_of_nonneg_left (by omega) (Int.le_of_lt (Int.pow_pos (by omega)))
  have h8:(2:Int) ^ (j+1) * done=2 ^ j * (2 * done):=by rw[Int.pow_succ,Int.mul_assoc]
  rw[h8]
  omega
theorem right_double{d n:Int}{D:Nat}(hD:(D:Int)=d+1)(n0:0<n)(d1:1<=d):∀(j:Nat) (P:List Mn) (done:Int),Gap d n done P->okL P->n<=2 * done->done+tot P=n->2 * D * j<=P.length->2 ^ j * tot (P.drop (2 * D * j))<=tot P
 | 0,P,done,_,_,_,_,_=>by simp
 | j+1,P,done,hg,ho,h0,hn,hl=>by
  have e:2 * D * (j+1)=2 * D+2 * D * j:=by rw[Nat.mul_add,Nat.mul_one];omega
  rw[e] at hl |-
  have hsum:=tot_append (P.take (2 * D)) (P.drop (2 * D))
  rw[List.take_append_drop] at hsum
  have t1:=(ho.take (2 * D)).tot_nonneg
  have t2:=(ho.drop (2 * D)).tot_nonneg
  have h1:=gap_right n0 d1 D P done hg ho h0 hn (by omega)
  have h2:=right_double hD n0 d1 j (P.drop (2 * D)) (done+tot (P.take (2 * D))) (hg.drop (2 * D)) (ho.drop _) (by omega) (by omega) (by rw[List.length_drop];omega)
  rw[List.drop_drop] at h2
  have h3:tot (P.drop (2 * D))<=tot (P.take (2 * D)):=by
   rw[hD] at h1
   have h6:tot (P.drop (2 * D)) * (2 * (d+1))<=tot (P.take (2 * D)) * (2 * (d+1)):=by
    have h5:tot (P.take (2 * D)) * (d+1)<=tot (P.take (2 * D)) * (2 * (d+1)):=Int.mul_le_mul_of_nonneg_left (by omega) t1
    rw[Int.mul_comm (tot (P.drop (2 * D)))];omega
   exact Int.le_of_mul_le_mul_right h6 (by omega)
  have h8:(2:Int) ^ (j+1) * tot (P.drop (2 * D+2 * D * j))=2 * (2 ^ j * tot (P.drop (2 * D+2 * D * j))):=by rw[Int.pow_succ,Int.mul_comm (2 ^ j) 2,Int.mul_assoc]
  rw[h8]
  omega
theorem okL_tot_len:∀{l:List Mn},okL l->(l.length:Int)<=tot l
 | [],_=>by simp[tot]
 | m::l,h=>by
  have:=okL_tot_len h.tail
  have:=(h m (List.mem_cons_self ..)).2.2
  simp only[tot,List.length_cons];omega
theorem prs_len{d lo hi:Int}{l:List Mn}(h:okL l)(hb:∀m∈l,lo<=m.1/\m.1<=hi)(d1:1<=d)(ht:tot l<=281474976710656):((prs d l).length:Int)<=194 * d+99:=by
 have hg:=prs_gap d h
 have ho:=(prs_ok d lo hi h hb).1
 have hn:=prs_tot d l
 cases hP:prs d l with
 | nil=>simp only[List.length_nil];omega
 | cons a r=>
  rw[hP] at hg ho hn
  have ha:=(ho a (List.mem_cons_self ..)).2.2
  have hr:=ho.tail.tot_nonneg
  simp only[tot] at hn
  have hg1:=hg.drop 1
  simp only[List.take_succ_cons,List.take_zero,List.drop_succ_cons,List.drop_zero,tot] at hg1
  generalize tot l=n at *
  obtain⟨D,hD⟩:∃D:Nat,(D:Int)=d:=⟨d.toNat,by omega⟩
  have n0:0<n:=by omega
  rw[show(0:Int)+(a.2+0)=a.2 by omega] at hg1
  simp only[List.length_cons]
  by_cases hX:r.length<2 * D * 48
  ·have:((2 * D * 48:Nat):Int)=96 * d:=by rw[<-hD];omega
   omega
  ·have hl:=left_double hD n0 d1 48 r a.2 hg1 ho.tail (by omega) (by omega)
   have hnot:¬2 * (a.2+tot (r.take (2 * D * 48)))<=n:=fun h1=>by
    have:=hl h1
    have e:(2:Int) ^ 48=281474976710656:=by decide
    rw[e] at this
    omega
   have hs:=tot_append (r.take (2 * D * 48)) (r.drop (2 * D * 48))
   rw[List.take_append_drop] at hs
   have hg2:=hg1.drop (2 * D * 48)
   have hor:=ho.tail.drop (2 * D * 48)
   have hlen:(r.drop (2 * D * 48)).length=r.length - 2 * D * 48:=List.length_drop ..
   have hx:((2 * D * 48:Nat):Int)=96 * d:=by rw[<-hD];omega
   generalize r.drop (2 * D * 48)=Q at *
   generalize tot (r.take (2 * D * 48))=tk at *
   by_cases hY:Q.length<=2 * (D+1) * 49
   ·have hy:((2 * (D+1) * 49:Nat):Int)=98 * d+98:=by rw[<-hD];omega
    omega
   ·have hq:=right_double (D:=D+1) (by omega) n0 d1 49 Q (a.2+tk) hg2 hor (by omega) (by omega) (by omega)
    have hne:=okL_tot_len (hor.drop (2 * (D+1) * 49))
    rw[List.length_drop] at hne
    have e:(2:Int) ^ 49=562949953421312:=by decide
    rw[e] at hq
    omega
open Go.RowKit Go.Lib
open Go.RowKit Go.Lib
open Go.RowKit Go.Lib
open Go.RowKit Go.Lib
open Go.RowKit Go.Lib
open Go.RowKit
end Go.Proofs.YtkiebccnpheloaaGreat
namespace Go.Proofs.YtkiebccnpheloaaGreat.K
open Go.RowKit
open Go.RowKit
open Go.RowKit
open Go.RowKit
open Go.RowKit
open Go.RowKit
open Go.RowKit
theorem wt_nil{L:LL}(h:L.length=0):wt L=0:=by rw[List.eq_nil_of_length_eq_zero h];rfl
theorem mem_allV{L:LL}{x:Int}:x∈allV L<->∃h,x∈lvl L h:=by
 unfold allV
 rw[List.mem_flatten]
 constructor
 ·rintro ⟨l,hl,hx⟩
  obtain⟨h,hh,rfl⟩:=List.getElem_of_mem hl
  exact⟨h,by rw[lvl_at hh];exact hx⟩
 ·rintro ⟨h,hx⟩
  rcases Nat.lt_or_ge h L.length with hh|hh
  ·exact⟨L[h],List.getElem_mem hh,by rw[<-lvl_at hh];exact hx⟩
  ·rw[lvl_of_ge hh] at hx;cases hx
theorem mem_put{L:LL}{h:Nat}{vs:List Int}{x:Int}(hx:x∈allV (putL L h vs)):x∈allV L\/x∈vs:=by
 obtain⟨j,hj⟩:=mem_allV.1 hx
 rw[lvl_put] at hj
 split at hj
 ·rcases insL_mem.1 hj with h1|h1
  ·exact .inl (mem_allV.2 ⟨_,h1⟩)
  ·exact .inr h1
 ·exact .inl (mem_allV.2 ⟨_,hj⟩)
theorem mem_pack{L:LL}{h y:Nat}{x:Int}(hh:h<L.length)(hy:y<=1)(hx:x∈allV (packS L h y)):x∈allV L:=by
 unfold packS at hx
 rcases mem_put hx with h1|h1
 ·obtain⟨j,hj⟩:=mem_allV.1 h1
  rw[lvl_set _ _ _ _ hh] at hj
  split at hj
  ·exact mem_allV.2 ⟨h,List.mem_of_mem_drop hj⟩
  ·exact mem_allV.2 ⟨j,hj⟩
 ·unfold upV at h1
  obtain⟨i,hi,rfl⟩:=List.mem_map.1 h1
  have hi':=List.mem_range.1 hi
  have hlt:2 * i+y<(lvl L h).length:=by omega
  rw[List.getD,List.getElem?_eq_getElem hlt,Option.getD_some]
  exact mem_allV.2 ⟨h,List.getElem_mem hlt⟩
theorem mem_packA{k:Nat}{B:List Int}{s:KS}{x:Int}(hx:x∈allV (packA k B s).1):x∈allV s.1:=by
 have:=packA_keep (k:=k) (B:=B) (P:=fun t=>∀x∈allV t.1,x∈allV s.1) (fun t h hs e=>fun x hx=>hs x (mem_pack (fullN_some e).1 (coinAt_le B t.2.2) hx)) (s:=s) (fun x hx=>hx)
 exact this x hx
theorem mem_putB:∀(f h m:Nat) (L:LL) (v:Int) {x:Int},x∈allV (putB f h m L v)->x∈allV L\/x=v
 | 0,_,_,_,_,x,hx=>.inl hx
 | f+1,h,m,L,v,x,hx=>by
  rw[putB] at hx
  split at hx
  ·exact .inl hx
  ·rcases mem_putB f _ _ _ v hx with h1|h1
   ·split at h1
    ·rcases mem_put h1 with h2|h2
     ·exact .inl h2
     ·exact .inr (by simpa using h2)
    ·exact .inl h1
   ·exact .inr h1
end Go.Proofs.YtkiebccnpheloaaGreat.K
namespace Go.Proofs.YtkiebccnpheloaaGreat.D
open Go.RowKit Go.Lib Go.Shelf
structure TOk(d:Nat)(s:St):Prop where
 fit:Fit d s (195 * d+99)
 len:(s.L.length:Int)<=194 * d+99
 big:d<=300\/s=St.zero
structure KOk(q:Nat)(L:K.LL)(led:Nat):Prop where
 fit:K.Fit q L led
 q0:8<=q
 q1:q<=4096
 emp:L.length=0->led=0
 bd:∀j,K.I64L (K.lvl L j)
def SpOk:Spk->Prop
 | .h lo hi dg u m _=>HdOk lo hi dg u m
 | .d a m=>100<=a/\a<=5000/\2<=m/\m<=4096
 | .t d=>10<=d/\d<=1000
 | .k q=>8<=q/\q<=4096
def Spk.small:Spk->Prop
 | .t e=>e<=300
 | _=>True
def JsOk(sp:Spk)(c:Js):Prop:=match sp with
 | .h lo hi dg u m gr=>HsOk lo hi dg u m gr c.bk c.l
 | .d a m=>DdOk a m c.l
 | .t d=>TOk d c.s
 | .k q=>KOk q c.L c.led
def Spk.new:Spk->Js
 | .h _ hi _ u m _=>⟨1+bkN u m hi,[],St.zero,[],0⟩
 | _=>⟨0,[],St.zero,[],0⟩
def jadE(sp:Spk)(c:Js)(v n:Int):Int:=match sp with
 | .h _ _ _ u m gr=>hsE u m gr c.bk c.l v n
 | .d a _=>ddE a c.l v n
 | .t _=>if n=0 then 4 else if 281474976710656 - Go.Proofs.YtkiebccnpheloaaGreat.tot (c.s.L++c.s.W)<n then 6 else 0
 | .k _=>K.addE c.L n.toNat
def jadS(sp:Spk)(B:List Int)(v n:Int)(c:Js)(a:Nat):Js × Nat:=match sp with
 | .h _ _ _ u m gr=>({c with bk:=hsB u m gr c.bk c.l v n,l:=hsL u m gr c.bk c.l v n},a)
 | .d ac _=>({c with l:=ddS ac c.l v n},a)
 | .t d=>(if jadE (.t d) c v n=0 then {c with s:=c.s.add d v n} else c,a)
 | .k q=>({c with L:=(K.addS q B v n.toNat (c.L,c.led,a)).1,led:=(K.addS q B v n.toNat (c.L,c.led,a)).2.1},(K.addS q B v n.toNat (c.L,c.led,a)).2.2)
def jtot(sp:Spk)(c:Js):Int:=match sp with
 | .h ..=>tot c.l
 | .d ..=>tot c.l
 | .t _=>Go.Proofs.YtkiebccnpheloaaGreat.tot (c.s.L++c.s.W)
 | .k _=>(K.wt c.L:Nat)
def jtxt(sp:Spk)(c:Js):List Int:=match sp with
 | .h lo hi dg u m gr=>hjB lo hi dg (reachN u m hi c.bk) gr c.l
 | .d a m=>wrDd a m (cutP m c.l).1 (cutP m c.l).2
 | .t d=>wrD d c.s.L c.s.W c.s.lo c.s.hi
 | .k q=>K.wrK q c.L c.led
theorem dd_nil{a m:Nat}(h0:100<=a)(h1:a<=5000)(h2:2<=m)(h3:m<=4096):DdOk a m []:=
 ⟨h0,h1,h2,h3,List.Pairwise.nil,fun p hp=>by simp at hp,fun p hp=>by simp at hp,by simp[tot]⟩
theorem t_nil{d:Nat}(h0:10<=d)(h1:d<=1000):TOk d St.zero:=
 ⟨⟨(St.zero_ok d (by omega)).more (by omega),by omega,by simp[St.zero,Go.Proofs.YtkiebccnpheloaaGreat.tot],by omega,by omega⟩,by simp[St.zero];omega,.inr rfl⟩
theorem k_nil{q:Nat}(h0:8<=q)(h1:q<=4096):KOk q [] 0:=⟨K.Fit.nil_ q,h0,h1,fun _=>rfl,fun j x hx=>by simp[K.lvl] at hx⟩
theorem new_ok{sp:Spk}(h:SpOk sp):JsOk sp sp.new:=by
 cases sp with
 | h lo hi dg u m gr=>exact hs_new h
 | d a m=>exact dd_nil h.1 h.2.1 h.2.2.1 h.2.2.2
 | t d=>exact t_nil h.1 h.2
 | k q=>exact k_nil h.1 h.2
theorem tok_add{d:Nat}{s:St}{v n:Int}(h:TOk d s)(hd:d<=300)(v0:-9223372036854775808<=v)(v1:v<=9223372036854775807)(n0:0<n)(n1:n<=281474976710656 - Go.Proofs.YtkiebccnpheloaaGreat.tot (s.L++s.W)):TOk d (s.add d v n):=by
 have hd0:=h.fit.d0
 have hA:=h.fit.ok.add (d:=(d:Int)) (by omega) v0 v1 n0
 have hT:=St.add_n d s v n
 have hL:((s.add d v n).L.length:Int)<=194 * d+99:=by
  show((addL d s.L s.W (v,n)).length:Int)<=_
  unfold addL
  split
  ·rw[<-List.append_assoc]
   refine prs_len (lo:=min s.lo v) (hi:=max s.hi v) ?_ ?_ (by omega) ?_
   ·intro m hm
    rcases List.mem_append.1 hm with hm|hm
    ·exact h.fit.ok.ok m hm
    ·simp only[List.mem_singleton] at hm;subst hm;exact⟨v0,v1,n0⟩
   ·intro m hm
    rcases List.mem_append.1 hm with hm|hm
    ·have:=h.fit.ok.bd m hm;omega
    ·simp only[List.mem_singleton] at hm;subst hm;show min s.lo v<=v/\v<=max s.hi v;omega
   ·rw[Go.Proofs.YtkiebccnpheloaaGreat.tot_append];show _+(n+0)<=_;omega
  ·exact h.len
 have hW:=hA.wl
 exact⟨⟨⟨hA.ok,hA.bd,hA.lo0,hA.lo1,hA.hi0,hA.hi1,hA.emp,by omega,hA.wl,hA.rise⟩,by omega,by omega,h.fit.d0,h.fit.d1⟩,hL,.inl hd⟩
theorem lvl_bd{L:K.LL}(h:∀j,K.I64L (K.lvl L j)):∀x∈K.allV L,-9223372036854775808<=x/\x<=9223372036854775807:=fun x hx=>by
 obtain⟨j,hj⟩:=K.mem_allV.1 hx;exact h j x hj
theorem kok_add{q n a led:Nat}{B:List Int}{v:Int}{L:K.LL}(h:KOk q L led)(v0:-9223372036854775808<=v)(v1:v<=9223372036854775807)(hn:n<18446744073709551616):KOk q (K.addS q B v n (L,led,a)).1 (K.addS q B v n (L,led,a)).2.1:=by
 have hb:=lvl_bd h.bd
 have q0:=h.q0
 have q1:=h.q1
 refine⟨K.addS_fit (s:=(L,led,a)) h.fit (by omega) q1,q0,q1,fun he=>?_,K.I64L.lvl fun x hx=>?_⟩
 ·have hw:=K.addS_wt (k:=q) (n:=n) (B:=B) (v:=v) (s:=(L,led,a))
  rw[K.wt_nil he] at hw
  by_cases h0:K.addE L n=0
  ·have:=K.addE_zero h0
   rw[if_pos h0] at hw;simp only at hw;omega
  ·unfold K.addS at he |-
   rw[if_neg h0] at he |-
   exact h.emp he
 ·unfold K.addS at hx
  split at hx
  ·rcases K.mem_putB _ _ _ _ _ (K.mem_packA hx) with h1|h1
   ·exact hb x h1
   ·omega
  ·exact hb x hx
theorem jadS_ok{sp:Spk}{c:Js}{B:List Int}{a:Nat}{v n:Int}(h:JsOk sp c)(hs:sp.small)(v0:-9223372036854775808<=v)(v1:v<=9223372036854775807)(n0:0<=n)(n1:n<18446744073709551616):JsOk sp (jadS sp B v n c a).1:=by
 cases sp with
 | h lo hi dg u m gr=>exact hs_rec h v1 n0
 | d a m=>exact ddS_ok h v0 v1 n0
 | t d=>
  show TOk d (if jadE (.t d) c v n=0 then {c with s:=c.s.add d v n} else c:Js).s
  by_cases he:jadE (.t d) c v n=0
  ·rw[if_pos he]
   simp only[jadE] at he
   split at he
   ·cases he
   ·split at he
    ·cases he
    ·exact tok_add h hs v0 v1 (by omega) (by omega)
  ·rw[if_neg he];exact h
 | k q=>exact kok_add h v0 v1 (by omega)
theorem jtot_bd{sp:Spk}{c:Js}(h:JsOk sp c):0<=jtot sp c/\jtot sp c<=4611686018427387904:=by
 cases sp with
 | h lo hi dg u m gr=>exact⟨tot_nonneg (HsOk.pos h),HsOk.sum h⟩
 | d a m=>exact⟨tot_nonneg (DdOk.pos h),DdOk.sum h⟩
 | t d=>have:=(TOk.fit h).t;have:=(TOk.fit h).ok.n_nonneg;show 0<=Go.Proofs.YtkiebccnpheloaaGreat.tot _/\_;simp only[jtot];omega
 | k q=>have:=(KOk.fit h).ok.wtL;simp only[jtot];omega
open Go.RowKit Go.Lib Go.Shelf
structure Wn where
 L:List Js
 now:Nat
structure WnOk(sp:Spk)(n:Nat)(s:Wn):Prop where
 len:s.L.length=n
 each:∀c∈s.L,JsOk sp c
 now:s.now<=9223372036854775807
def wnew(sp:Spk)(n:Nat):Wn:=⟨List.replicate n sp.new,0⟩
def tick1(sp:Spk)(L:List Js):List Js:=sp.new::L.dropLast
def tickN(sp:Spk)(L:List Js):Nat->List Js
 | 0=>L
 | k+1=>tick1 sp (tickN sp L k)
def tkA(k:Nat)(s:Wn):Nat:=min k (9223372036854775807 - s.now)
def wtick(sp:Spk)(k:Nat)(s:Wn):Wn:=⟨tickN sp s.L (min (tkA k s) s.L.length),s.now+tkA k s⟩
def sumU(sp:Spk)(L:List Js):Nat->Int
 | 0=>0
 | k+1=>IntKind.u64.wrap (sumU sp L k+jtot sp (L.getD k sp.new))
def wtot(sp:Spk)(s:Wn)(last:Int):Int:=if (s.L.length:Int)<last then 0 else sumU sp s.L last.toNat
def waddE(sp:Spk)(s:Wn)(v n:Int):Int:=jadE sp (s.L.getD 0 sp.new) v n
def waddS(sp:Spk)(B:List Int)(v n:Int)(s:Wn)(a:Nat):Wn:={s with L:=s.L.set 0 (jadS sp B v n (s.L.getD 0 sp.new) a).1}
theorem tick1_length{sp:Spk}{L:List Js}(h:0<L.length):(tick1 sp L).length=L.length:=by
 unfold tick1;rw[List.length_cons,List.length_dropLast];omega
theorem tickN_length{sp:Spk}{L:List Js}(h:0<L.length):∀k,(tickN sp L k).length=L.length
 | 0=>rfl
 | k+1=>by
  have:=tickN_length h k (sp:=sp)
  rw[tickN,tick1_length (by omega),this]
theorem tick1_ok{sp:Spk}{L:List Js}(hs:SpOk sp)(h:∀c∈L,JsOk sp c):∀c∈tick1 sp L,JsOk sp c:=fun c hc=>by
 unfold tick1 at hc
 rcases List.mem_cons.1 hc with rfl|hc
 ·exact new_ok hs
 ·exact h c ((List.dropLast_sublist L).subset hc)
theorem tickN_ok{sp:Spk}{L:List Js}(hs:SpOk sp)(h:∀c∈L,JsOk sp c):∀k,∀c∈tickN sp L k,JsOk sp c
 | 0=>h
 | k+1=>tick1_ok hs (tickN_ok hs h k)
theorem wtick_ok{sp:Spk}{n k:Nat}{s:Wn}(hs:SpOk sp)(h:WnOk sp n s)(h0:0<n):WnOk sp n (wtick sp k s):=by
 have h1:=h.len
 have h2:=h.now
 refine⟨(tickN_length (by omega) _).trans h1,tickN_ok hs h.each _,?_⟩
 show s.now+tkA k s<=_
 unfold tkA;omega
theorem wnew_ok{sp:Spk}{n:Nat}(hs:SpOk sp):WnOk sp n (wnew sp n):=
 ⟨List.length_replicate,fun c hc=>by rw[List.eq_of_mem_replicate hc];exact new_ok hs,by show 0<=_;omega⟩
theorem WnOk.at_{sp:Spk}{n:Nat}{s:Wn}(h:WnOk sp n s){i:Nat}(hi:i<s.L.length):JsOk sp (s.L.getD i sp.new):=by
 rw[List.getD_eq_getElem?_getD,List.getElem?_eq_getElem hi,Option.getD_some]
 exact h.each _ (List.getElem_mem hi)
theorem set_ok{sp:Spk}{L:List Js}{i:Nat}{c:Js}(h:∀c∈L,JsOk sp c)(hc:JsOk sp c):∀x∈L.set i c,JsOk sp x:=fun x hx=>by
 rcases List.mem_or_eq_of_mem_set hx with hx|rfl
 ·exact h x hx
 ·exact hc
theorem waddS_ok{sp:Spk}{n a:Nat}{B:List Int}{s:Wn}{v m:Int}(h:WnOk sp n s)(h0:0<n)(hs:sp.small)(v0:-9223372036854775808<=v)(v1:v<=9223372036854775807)(n0:0<=m)(n1:m<18446744073709551616):WnOk sp n (waddS sp B v m s a):=
 ⟨by show(s.L.set _ _).length=n;rw[List.length_set];exact h.len,set_ok h.each (jadS_ok (h.at_ (by have:=h.len;omega)) hs v0 v1 n0 n1),h.now⟩
open Go.RowKit Go.Lib Go.Shelf
structure Op5 where
 kd:Int
 who:Bool
 v:Int
 n:Int
 B:List Int
instance:Inhabited Op5:=⟨⟨0,false,0,0,[]⟩⟩
def Op5.fits(o:Op5):Prop:=0<=o.kd/\o.kd<=255/\-9223372036854775808<=o.v/\o.v<=9223372036854775807/\0<=o.n/\o.n<18446744073709551616/\∀x∈o.B,0<=x/\x<=255
def updN{α:Type}(S:Nat->α)(i:Nat)(s:α):Nat->α:=fun j=>if j=i then s else S j
theorem updN_at{α:Type}{S:Nat->α}{i:Nat}{s:α}:updN S i s i=s:=if_pos rfl
theorem updN_ne{α:Type}{S:Nat->α}{i j:Nat}{s:α}(h:j≠i):updN S i s j=S j:=if_neg h
def whoN(o:Op5):Nat:=if o.who then 1 else 0
end Go.Proofs.YtkiebccnpheloaaGreat.D
