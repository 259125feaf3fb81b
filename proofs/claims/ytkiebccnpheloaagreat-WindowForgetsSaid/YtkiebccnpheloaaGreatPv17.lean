/- Parts of a proof: what its theorem reaches, words cut short. No condition of its own. -/
import Derived.Test.YtkiebccnpheloaaGreatPv16
set_option maxRecDepth 100000
set_option maxHeartbeats 16000000
set_option linter.unusedVariables false
set_option linter.unusedSimpArgs false
namespace Go.Proofs.YtkiebccnpheloaaGreat.D
open Go.RowKit
structure OkP(l:List Pr):Prop where
 srt:SrtP l
 pos:PosP l
 key:∀p∈l,-1048576<=p.1/\p.1<=1048576
 tot:tot l<=4611686018427387904
 len:l.length<=100000
def fdP(k:Int)(l:List Pr):Bool:=match l[plP k l]? with
 | some p=>p.1 == k
 | none=>false
def SpAt(g:Nat)(l:List Pr)(F:Ft)(w:World):Prop:=∃v,Blk w g 456 #[v,.int .u64 (tot l)]/\OwnE prE 0 w v l/\F g/\(∀k,v.ownBlock=some k->F k)/\∀k,F k->k<w.heap.size
theorem sp_stay(g:Nat)(l:List Pr):Stay (SpAt g l) where
 stay:=fun⟨v,h1,h2,h3,h4,h5⟩ hk hz=>⟨v,(hk g h3).trans h1,h2.stay fun k e=>hk k (h4 k e),h3,h4,fun k h=>Nat.lt_of_lt_of_le (h5 k h) hz⟩
 more:=fun⟨v,h1,h2,h3,h4,_⟩ h hl=>⟨v,h1,h2,h g h3,fun k e=>h k (h4 k e),hl⟩
 low:=fun⟨_,_,_,_,_,h5⟩=>h5
theorem place1_any(x n k:Int)(w:World)(h0:-1048577<=x)(h1:x<=1048577)(h2:-1048577<=k)(h3:k<=1048577) :
 Calls Tryz.prog 459 #[.agg #[.int .i64 x,.int .u64 n],.int .i64 k] w fun e w'=>e=.returned (.int .i64 (x - k))/\Below w.heap.size w w':=by
 go_enter Tryz.func459,Tryz.ntmps459
 go_wp2_with fail
 go_ret
 exact⟨rfl,by(repeat' (first|(with_reducible exact Below.refl _ _)|(with_reducible refine Below.alloc ?_ ?_ _)|(with_reducible refine Below.drew ?_)|(with_reducible refine below_drewN ?_ _)|(with_reducible refine Below.setCell ?_ ?_ _)|(with_reducible refine below_of (by assumption) ?_ ?_)|go_size))⟩
theorem pr_at{w:World}{A:Option Addr}{l:List Pr}(h:EForm prE w A l){j:Nat}(hj:j<l.length):∃g off,A=some ⟨g,off,none⟩/\g<w.heap.size/\w.cell? ⟨g,off+j * 2,none⟩=some (.int .i64 l[j].1)/\w.cell? ⟨g,off+j * 2+1,none⟩=some (.int .u64 l[j].2):=by
 obtain⟨g,off,e,hg,hc⟩:=h (by omega)
 exact⟨g,off,e,hg,hc j hj 0 (by decide),hc j hj 1 (by decide)⟩
theorem bsearch_any(v:Value)(k:Int)(l:List Pr)(w:World)(h:RdE prE w v l)(ok:OkP l)(h2:-1048577<=k)(h3:k<=1048577) :
 Calls Tryz.prog 458 #[v,.int .i64 k,.func (.func 459) #[] #[]] w fun e w'=>e=.returned (.tuple #[.int .i64 (plP k l:Nat),.bool (fdP k l)])/\Below w.heap.size w w':=by
 obtain⟨A,c,rfl,_,_,hf⟩:=h.form
 have HF:=Lib.hid hf
 have HOK:=Lib.hid ok
 have hlen:=ok.len
 clear h hf ok
 go_enter Tryz.func458,Tryz.ntmps458
 go_wp2_with fail
 go_loopg [9,10] l.length (fun q x y wr=>∃i j:Nat,x=.int .i64 i/\y=.int .i64 j/\i<=j/\j<=l.length/\j - i<=q/\Hid (∀(t:Nat) (h:t<l.length),t<i->l[t].1<k)/\Hid (∀(t:Nat) (h:t<l.length),j<=t->k<=l[t].1)/\Below w.heap.size w wr)
 case atStart=>exact⟨0,l.length,rfl,rfl,by omega,by omega,by omega,Lib.hid (fun t h ht=>absurd ht (by omega)),Lib.hid (fun t h ht=>absurd h (by omega)),Below.refl _ _⟩
 case round=>
  obtain⟨i,j,rfl,rfl,hij,hjl,hq,H1,H2,hb⟩:=hrel
  have hz:=hb.size
  by_cases hlt:i<j
  ·have hm:(i+j) / 2<l.length:=by omega
   obtain⟨g,off,rfl,hg,c0,c1⟩:=pr_at (HF.out.keep hb) hm
   obtain⟨k0,k1⟩:=HOK.out.key _ (List.getElem_mem hm)
   have hsrt:=List.pairwise_iff_getElem.1 HOK.out.srt
   have HS:Hid (∀t (h:t<l.length),t<(i+j) / 2->l[t].1<l[(i+j) / 2].1):=Lib.hid (fun t h ht=>hsrt t _ h hm ht)
   have HS2:Hid (∀t (h:t<l.length),(i+j) / 2<=t->l[(i+j) / 2].1<=l[t].1):=Lib.hid (fun t h ht=>by
    rcases Nat.lt_or_eq_of_le ht with h'|rfl
    ·exact Int.le_of_lt (hsrt _ t hm h h')
    ·exact Int.le_refl _)
   clear hsrt
   have hmi:((i:Int)+(j:Int)) / 2=(((i+j) / 2:Nat):Int):=by omega
   have HMI:=Lib.hid hmi
   have hml:((((i+j) / 2:Nat)):Int)<(l.length:Int):=by omega
   have hmd:i<=(i+j) / 2/\(i+j) / 2<j:=by omega
   clear hmi
   obtain⟨x,hxe⟩:∃x,l[(i+j) / 2].1=x:=⟨_,rfl⟩
   rw[hxe] at HS HS2 c0 k0 k1
   have HX:=Lib.hid hxe
   clear hxe
   generalize l[(i+j) / 2].2=n at *
   by_cases hx:x<k
   ·go_wp2_with fail
    refine(place1_any x n k _ (by omega) (by omega) h2 h3).mono ?_
    rintro e w1 ⟨rfl,hb1⟩
    go_wp2_with fail
    go_roundg (j - ((i+j) / 2+1))
    case measure=>omega
    case rel=>exact⟨(i+j) / 2+1,j,by rw[HMI.out];go_num,rfl,by omega,hjl,by omega,Lib.hid (fun t h ht=>by
     rcases Nat.lt_or_ge t ((i+j) / 2) with h'|h'
     ·have:=HS.out t h h';omega
     ·obtain rfl:t=(i+j) / 2:=by omega
      have:=HX.out
      omega),H2,hb.trans (hb1.mono hz)⟩
   ·go_wp2_with fail
    refine(place1_any x n k _ (by omega) (by omega) h2 h3).mono ?_
    rintro e w1 ⟨rfl,hb1⟩
    go_wp2_with fail
    go_roundg ((i+j) / 2 - i)
    case measure=>omega
    case rel=>exact⟨i,(i+j) / 2,rfl,by rw[HMI.out],by omega,by omega,by omega,H1,Lib.hid (fun t h ht=>by have:=HS2.out t h ht;omega),hb.trans (hb1.mono hz)⟩
  ·obtain rfl:j=i:=by omega
   have hpl:j=plP k l:=pl_unique k HOK.out.srt j hjl H1.out H2.out
   by_cases hj:j<l.length
   ·obtain⟨g,off,rfl,hg,c0,c1⟩:=pr_at (HF.out.keep hb) hj
    obtain⟨k0,k1⟩:=HOK.out.key _ (List.getElem_mem hj)
    have HFD:Hid (fdP k l=(l[j].1 - k == 0)):=Lib.hid (by
     unfold fdP
     rw[<-hpl,List.getElem?_eq_getElem hj]
     show(l[j].1 == k)=_
     rw[Bool.eq_iff_iff];simp;omega)
    have HP:=Lib.hid hpl
    clear hpl
    have hji:(j:Int)<(l.length:Int):=by omega
    generalize l[j].1=x at *
    generalize l[j].2=n at *
    go_wp2_with fail
    refine(place1_any x n k _ (by omega) (by omega) h2 h3).mono ?_
    rintro e w1 ⟨rfl,hb1⟩
    go_wp2_with fail
    go_ret2
    exact⟨by rw[HFD.out,<-HP.out];rfl,hb.trans (hb1.mono hz)⟩
   ·have HFD:Hid (fdP k l=false):=Lib.hid (by
     unfold fdP
     rw[<-hpl,List.getElem?_eq_none (by omega)])
    have HP:=Lib.hid hpl
    clear hpl
    have hji:¬(j:Int)<(l.length:Int):=by omega
    go_wp2_with fail
    go_ret2
    exact⟨by rw[HFD.out,<-HP.out];rfl,hb⟩
theorem place_any{g:Nat}{l:List Pr}{F:Ft}(k:Int)(w:World)(h:SpAt g l F w)(ok:OkP l)(h2:-1048577<=k)(h3:k<=1048577) :
 Calls Tryz.prog 385 #[.pointer (some ⟨g,0,none⟩),.int .i64 k] w fun e w'=>e=.returned (.tuple #[.int .i64 (plP k l:Nat),.bool (fdP k l)])/\Below w.heap.size w w':=by
 obtain⟨v,hB,hO,_⟩:=h
 have C:=Lib.hid (bsearch_any v k l w hO.rd ok h2 h3)
 have k0:=hB.cell 0
 simp only[List.getElem?_toArray,List.getElem?_cons_zero] at k0
 clear hB hO ok
 generalize plP k l=p at *
 generalize fdP k l=f at *
 go_enter Tryz.func385,Tryz.ntmps385
 go_wp2_with fail
 refine(C.out).mono ?_
 rintro e w1 ⟨rfl,hb1⟩
 go_wp2_with fail
 go_ret2
 exact⟨rfl,hb1⟩
theorem insert_any(v:Value)(l:List Pr)(i:Nat)(x:Pr)(ub:Nat)(w:World)(h:OwnE prE 0 w v l)(hi:i<=l.length)(hl:l.length<=100000)(hu:Blk w ub 222 #[.int .i64 x.1,.int .u64 x.2])(hne:v.ownBlock≠some ub) :
 Calls Tryz.prog 390 #[v,.int .i64 i,.slice (some ⟨ub,0,none⟩) 1 1] w fun e w'=>∃v',e=.returned v'/\OwnE prE 0 w' v' (insP l i x)/\Touch (fun k=>v.ownBlock=some k) w w'/\∀k,v'.ownBlock=some k->v.ownBlock=some k\/w.heap.size<=k:=by
 by_cases he:i=l.length
 ·subst he
  have hr:RdE prE w (.slice (some ⟨ub,0,none⟩) 1 1) [x]:=RdE.of_form (l:=[x]) (by simp) (by simp) (fun _=>⟨ub,0,rfl,hu.lt,fun j hj q hq=>by
   obtain rfl:j=0:=by simp at hj;exact hj
   simp only[Nat.zero_mul,Nat.zero_add];rw[hu.cell q];simp[prE]⟩)
  refine(insert_end v 0 l x _ w h hr hl (Nat.zero_le _)).mono ?_
  rintro e w' ⟨v',rfl,o1,g1,a1⟩
  exact⟨v',rfl,o1,(Touch.refl _ _).grown g1 (fun k e=>.inl e),a1⟩
 ·obtain⟨g,c,rfl,_,hg,h1,h2⟩:=h.pos (by omega)
  have hne':ub≠g:=fun e=>hne (by rw[e];rfl)
  by_cases hc:l.length+1<=c
  ·refine(insert_room g c 0 l i x ub _ w h (by omega) hl hc hu hne').mono ?_
   rintro e w' ⟨v',rfl,o1,e1,t1⟩
   exact⟨v',rfl,o1,t1.mono (fun k e=>by rw[e];rfl),fun k e=>.inl (by rw[e1] at e;exact e)⟩
  ·refine(insert_grow g c 0 l i x ub _ w h (by omega) hl (by omega) hu).mono ?_
   rintro e w' ⟨v',rfl,o1,hb⟩
   exact⟨v',rfl,o1.more (Nat.zero_le _),Touch.of_below hb (Nat.le_refl _),fun k e=>.inr (o1.lt k e).1⟩
theorem own_at{base g n c j:Nat}{l:List Pr}{w:World}(h:OwnE prE base w (.slice (some ⟨g,0,none⟩) n c) l)(hj:j<l.length) :
 w.cell? ⟨g,j * 2,none⟩=some (.int .i64 l[j].1)/\w.cell? ⟨g,j * 2+1,none⟩=some (.int .u64 l[j].2):=⟨h.cellAt hj 0 (by decide),h.cellAt hj 1 (by decide)⟩
theorem own_setN{base g n c j:Nat}{l:List Pr}{w:World}(h:OwnE prE base w (.slice (some ⟨g,0,none⟩) n c) l)(hj:j<l.length)(m:Int) :
 OwnE prE base (w.setCell ⟨g,j * 2+1,none⟩ (.int .u64 m)) (.slice (some ⟨g,0,none⟩) n c) (l.set j (l[j].1,m)):=by
 have hn:n=l.length:=by obtain⟨A,c',hv,_⟩:=h.form;injection hv
 subst hn
 have h1:=(World.ownsRow.stored h (j * 2+1) (.int .u64 m)).1
 have e:(cellsE prE l).set (j * 2+1) (.int .u64 m)=cellsE prE (l.set j (l[j].1,m)):=by
  have:=cellsE_set prE l j hj (l[j].1,m)
  rw[<-this]
  show _=((cellsE prE l).set (j * 2) (.int .i64 l[j].1)).set (j * 2+1) (.int .u64 m)
  congr 1
  refine(List.ext_getElem? fun i=>?_).symm
  rw[List.getElem?_set]
  split
  ·rename_i hi;subst hi
   have:=cellsE_get prE l j hj 0 (by decide)
   rw[show j * prE.k+0=j * 2 from rfl] at this
   rw[this]
   split
   ·rfl
   ·rename_i hx
    have h2:=cellsE_length prE l
    rw[h2] at hx
    exact absurd (show j * 2<l.length * 2 by omega) hx
  ·rfl
 rw[e] at h1
 unfold OwnE
 rw[List.length_set]
 exact h1
theorem ins_self(l:List Pr)(i:Nat)(x:Pr)(h:i<=l.length):(insP l i x)[i]?=some x:=by
 unfold insP
 rw[List.getElem?_append_right (by rw[List.length_take];omega),List.length_take,Nat.min_eq_left h];simp
theorem fd_false{k:Int}{l:List Pr}(h:fdP k l=false)(n:Int):(insP l (plP k l) (k,0)).set (plP k l) (k,0+n)=putP k n l:=by
 rw[put_ins_set,put_new k n l]
 intro p hp e
 unfold fdP at h
 rw[hp] at h
 simp[e] at h
theorem fd_true{k:Int}{l:List Pr}(h:fdP k l=true):∃m,l[plP k l]?=some (k,m)/\∀n,l.set (plP k l) (k,m+n)=putP k n l:=by
 unfold fdP at h
 cases hp:l[plP k l]? with
 | none=>rw[hp] at h;cases h
 | some p=>
  rw[hp] at h
  obtain⟨a,m⟩:=p
  have:a=k:=by simpa using h
  subst this
  exact⟨m,rfl,fun n=>(put_found _ _ _ _ hp).symm⟩
def saddE(l:List Pr)(k n:Int):Int:=if n=0 then 4 else if k < -1048576\/1048576<k then 5 else if 4611686018427387904<tot l+n then 6 else 0
theorem put_ok{l:List Pr}{k n:Int}(ok:OkP l)(h:saddE l k n=0)(hn:0<=n)(hl:l.length<100000):OkP (putP k n l):=by
 unfold saddE at h
 split at h
 ·omega
 ·split at h
  ·omega
  ·split at h
   ·omega
   ·exact⟨put_srt ok.srt,put_pos (by omega) ok.pos,key_bound ok.key (by omega),by rw[tot_put];omega,by have:=(put_length k n l).2;omega⟩
theorem sadd_no{g:Nat}{l:List Pr}{F:Ft}(k n:Int)(w:World)(h:SpAt g l F w)(ok:OkP l)(n0:0<=n)(n1:n<18446744073709551616)(he:saddE l k n≠0) :
 Calls Tryz.prog 316 #[.pointer (some ⟨g,0,none⟩),.int .i64 k,.int .u64 n] w fun e w'=>e=.returned (.int .i64 (saddE l k n))/\w=w':=by
 obtain⟨v,hB,hO,_⟩:=h
 have k1:=hB.cell 1
 simp only[List.getElem?_toArray,List.getElem?_cons_zero,List.getElem?_cons_succ] at k1
 have t0:=tot_nonneg ok.pos
 have t1:=ok.tot
 have HE:Hid (saddE l k n=if n=0 then 4 else if k < -1048576\/1048576<k then 5 else if 4611686018427387904<tot l+n then 6 else 0):=Lib.hid rfl
 have HN:=Lib.hid he
 clear hB hO ok he
 generalize saddE l k n=er at *
 generalize tot l=t at *
 by_cases h1:n=0
 ·go_enter Tryz.func316,Tryz.ntmps316
  go_wp2_with fail
  go_ret
  exact⟨ret_int (by rw[HE.out,if_pos h1]),rfl⟩
 ·by_cases h2:k < -1048576
  ·go_enter Tryz.func316,Tryz.ntmps316
   go_wp2_with fail
   go_ret
   exact⟨ret_int (by rw[HE.out,if_neg h1,if_pos (.inl h2)]),rfl⟩
  ·by_cases h3:1048576<k
   ·go_enter Tryz.func316,Tryz.ntmps316
    go_wp2_with fail
    go_ret
    exact⟨ret_int (by rw[HE.out,if_neg h1,if_pos (.inr h3)]),rfl⟩
   ·have h4:4611686018427387904<t+n:=by
     have:=HN.out
     rw[HE.out,if_neg h1,if_neg (by omega)] at this
     split at this
     ·assumption
     ·omega
    have h5:4611686018427387904 - t<n:=by omega
    go_enter Tryz.func316,Tryz.ntmps316
    go_wp2_with fail
    go_ret
    exact⟨ret_int (by rw[HE.out,if_neg h1,if_neg (by omega),if_pos h4]),rfl⟩
theorem sadd_yes{g:Nat}{l:List Pr}{F:Ft}(k n:Int)(w:World)(h:SpAt g l F w)(ok:OkP l)(n0:0<=n)(he:saddE l k n=0)(hl:l.length<100000) :
 Calls Tryz.prog 316 #[.pointer (some ⟨g,0,none⟩),.int .i64 k,.int .u64 n] w fun e w'=>e=.returned (.int .i64 0)/\SpAt g (putP k n l) (Gr F w w') w'/\Touch F w w':=by
 have hn:¬n=0/\-1048576<=k/\k<=1048576/\tot l+n<=4611686018427387904:=by
  unfold saddE at he
  split at he
  ·omega
  ·split at he
   ·omega
   ·split at he
    ·omega
    ·omega
 obtain⟨hn0,hk0,hk1,ht⟩:=hn
 have hpl:=pl_le k l
 have CP:=Lib.hid (place_any k w h ok (by omega) (by omega))
 have t0:=tot_nonneg ok.pos
 have h':=h
 obtain⟨v,hB,hO,hFg,hFv,hFl⟩:=h'
 have k1:=hB.cell 1
 simp only[List.getElem?_toArray,List.getElem?_cons_zero,List.getElem?_cons_succ] at k1
 have htt:=tot_put k n l
 obtain⟨l2,hl2⟩:∃x,putP k n l=x:=⟨_,rfl⟩
 rw[hl2] at htt |-
 have HL2:=Lib.hid hl2
 clear hl2
 obtain⟨t,hT⟩:∃t,tot l=t:=⟨_,rfl⟩
 rw[hT] at htt ht t0 k1
 have HTT:=Lib.hid htt
 have HT:=Lib.hid hT
 have HH:=Lib.hid h
 have HP:=Lib.hid ok.pos
 have hgl:=hB.lt
 have h5:¬4611686018427387904 - t<n:=by omega
 clear hB hO ok h he hT htt
 go_enter Tryz.func316,Tryz.ntmps316
 go_wp2_with fail
 refine(CP.out).mono ?_
 rintro e w1 ⟨rfl,hb1⟩
 have H1:=Lib.hid ((sp_stay g l).keep HH.out hb1)
 have hz1:=hb1.size
 obtain⟨v1,B1,O1,_,FV1,_⟩:=H1.out
 rw[HT.out] at B1
 have k0:=B1.cell 0
 have k1':=B1.cell 1
 have f0:=B1.frozen 0
 have f1:=B1.frozen 1
 have hgl1:=B1.lt
 simp only[List.getElem?_toArray,List.getElem?_cons_zero,List.getElem?_cons_succ] at k0 k1'
 have BB1:=Lib.hid B1
 have OO1:=Lib.hid O1
 have HFV:=Lib.hid FV1
 have HFL:=Lib.hid hFl
 clear B1 O1 FV1 hFv H1 k1 hFl
 -- the list that holds the key,at p,whose count goes up
 rcases hf:fdP k l with _|_
 case' false=>
  have HS:=Lib.hid (fd_false hf n)
  have HI:=Lib.hid (ins_self l (plP k l) (k,0) hpl)
  have HIL:=Lib.hid (insP_length l (plP k l) (k,0) hpl)
  have hob:=own_new (g:=w1.heap.size) OO1.out (Nat.le_refl _)
  have CI:=Lib.hid (insert_any v1 l (plP k l) (k,0) w1.heap.size (w1.alloc (.cells #[.int .i64 k,.int .u64 0] 222)) (OO1.out.alloc _) hpl (by omega) (Blk.new w1 _ _) hob)
  clear hf hob
  rw[HL2.out] at HS
  generalize plP k l=p at *
  go_wp2_with fail
  refine(CI.out).mono ?_
  rintro e w2 ⟨v2,rfl,o2,t2,a2⟩
  obtain⟨g2,c2,hv2,_,_,_,_⟩:=o2.pos (by rw[HIL.out];omega)
  rw[HIL.out] at hv2
  subst hv2
  have hba:Below w1.heap.size w1 (w1.alloc (.cells #[.int .i64 k,.int .u64 0] 222)):=by(repeat' (first|(with_reducible exact Below.refl _ _)|(with_reducible refine Below.alloc ?_ ?_ _)|(with_reducible refine Below.drew ?_)|(with_reducible refine below_drewN ?_ _)|(with_reducible refine Below.setCell ?_ ?_ _)|(with_reducible refine below_of (by assumption) ?_ ?_)|go_size))
  have hz2:=t2.size
  simp only[World.size_alloc] at hz2
  have B2:Blk w2 g 456 #[v1,.int .u64 t]:=(t2.block g (by simp;omega) (fun e=>own_ne BB1.out OO1.out (by decide) e)).trans (BB1.out.alloc _)
  have k0:=B2.cell 0
  have f0:=B2.frozen 0
  simp only[List.getElem?_toArray,List.getElem?_cons_zero,List.getElem?_cons_succ] at k0
  have hne:=own_ne B2 o2 (by decide)
  have B3:=B2.set_ 0 (.slice (some ⟨g2,0,none⟩) (l.length+1) c2)
  have O3:=o2.far (p:=⟨g,0,none⟩) hne (.slice (some ⟨g2,0,none⟩) (l.length+1) c2)
  have T3:Hid (Touch F w (w2.setCell ⟨g,0,none⟩ (.slice (some ⟨g2,0,none⟩) (l.length+1) c2))):=Lib.hid (((btl hb1 (btl hba (t2.mono (fun k e=>HFV.out k e)))).setCell (p:=⟨g,0,none⟩) (.inl hFg) _))
  have A3:Hid (∀k,(Value.slice (some ⟨g2,0,none⟩) (l.length+1) c2).ownBlock=some k->F k\/w.heap.size<=k):=Lib.hid (fun k e=>(a2 k e).imp (HFV.out k) (fun h=>by simp at h;omega))
  have hpi:p<(insP l p (k,0)).length:=by rw[HIL.out];omega
  have hln:(insP l p (k,0)).length<=100000:=by rw[HIL.out];omega
  clear t2 a2 B2 hne o2 hba CI
  obtain⟨w3,hw3⟩:∃x,w2.setCell ⟨g,0,none⟩ (.slice (some ⟨g2,0,none⟩) (l.length+1) c2)=x:=⟨_,rfl⟩
  rw[hw3] at B3 O3 T3
  have HW3:=Lib.hid hw3
  clear hw3
  have BB3:=Lib.hid B3
  have OO3:=Lib.hid O3
  clear B3 O3
  go_upto_region 10 with fail
  rw[HW3.out]
  clear k0 f0
  have B3:=BB3.out
  have O3:=OO3.out
  generalize insP l p (k,0)=l1 at *
  generalize Value.slice (some ⟨g2,0,none⟩) (l.length+1) c2=v2 at *
  obtain⟨m,hm⟩:∃m:Int,0=m:=⟨_,rfl⟩
  rw[hm] at HI HS
  have hmt:0<=m/\m+n<=4611686018427387904:=by omega
 case' true=>
  obtain⟨m,hm,hs⟩:=fd_true hf
  have HS:=Lib.hid (hs n)
  have HI:=Lib.hid hm
  have hpi:=(List.getElem?_eq_some_iff.1 hm).1
  have hmt:0<=m/\m+n<=4611686018427387904:=by
   have h1:=pos_le HP.out _ (List.mem_of_getElem? hm)
   have h2:=HP.out _ (List.mem_of_getElem? hm)
   rw[HT.out] at h1
   simp only at h1 h2
   omega
  clear hf hs hm
  rw[HL2.out] at HS
  generalize plP k l=p at *
  go_upto_region 10 with fail
  have T3:Hid (Touch F w w1):=Lib.hid (Touch.of_below hb1 (Nat.le_refl _))
  have A3:Hid (∀k,v1.ownBlock=some k->F k\/w.heap.size<=k):=Lib.hid (fun k e=>.inl (HFV.out k e))
  have B3:Blk w1 g 456 (#[v1,.int .u64 t].setIfInBounds 0 v1):=BB1.out
  have O3:=OO1.out
  have hln:l.length<=100000:=by omega
 all_goals
  obtain⟨g3,c3,hv3,_,hg3,hc3,_⟩:=O3.pos (by omega)
  subst hv3
  have hgg:g3≠g:=fun e=>own_ne B3 O3 (by decide) (by rw[e];rfl)
  have k0:=B3.cell 0
  have k1:=B3.cell 1
  have f1:=B3.frozen 1
  simp only[List.setIfInBounds_toArray,List.set_cons_zero,List.getElem?_toArray,List.getElem?_cons_zero,List.getElem?_cons_succ] at k0 k1
  have hce:=O3.cellAt hpi 1 (by decide)
  rw[(List.getElem?_eq_some_iff.1 HI.out).2] at hce
  have cm:=hce
  simp only[prE,List.getElem?_cons_zero,List.getElem?_cons_succ] at cm
  have fm:=O3.frozenAt (p * 2+1)
  have hpz:(p:Int)<((_:List Pr).length:Int):=Int.ofNat_lt.2 hpi
  have BB:=Lib.hid B3
  have OO:=Lib.hid O3
  have OS:=Lib.hid (own_setN O3 hpi (m+n))
  clear B3 O3 hce
  go_wp2_with fail
  go_ret
  have b9:=(BB.out.far (p:=⟨g3,p * 2+1,none⟩) (fun e=>hgg e.symm) (.int .u64 (m+n))).set_ 1 (.int .u64 (t+n))
  have o9:=OS.out.far (p:=⟨g,1,none⟩) (fun e=>hgg (Option.some.inj e)) (.int .u64 (t+n))
  rw[(List.getElem?_eq_some_iff.1 HI.out).2] at o9
  rw[HS.out] at o9
  have t9:=(T3.out.setCell (p:=⟨g3,p * 2+1,none⟩) (A3.out g3 rfl) (.int .u64 (m+n))).setCell (p:=⟨g,1,none⟩) (.inl hFg) (.int .u64 (t+n))
  refine⟨rfl,⟨_,?_,o9,.inl hFg,fun q e=>?_,gr_lt HFL.out t9.size⟩,t9⟩
  ·rw[HTT.out];exact b9
  ·obtain rfl:g3=q:=Option.some.inj e
   exact(A3.out _ rfl).imp id (fun h=>⟨h,by simp;exact hg3⟩)
open Go.RowKit
theorem clone_P(v:Value)(l:List Pr)(w:World)(h:RdE prE w v l)(hlen:l.length<=1000000000) :
 Calls Tryz.prog 422 #[v] w fun e w'=>∃v',e=.returned v'/\OwnE prE w.heap.size w' v' l/\Below w.heap.size w w':=by
 obtain⟨A,c,rfl,hn,hc,hp⟩:=h.form
 have HR:=Lib.hid h
 clear h
 by_cases hnil:A=none
 ·subst hnil
  have h0:l=[]:=by
   rcases Nat.eq_zero_or_pos l.length with h0|h0
   ·exact List.eq_nil_of_length_eq_zero h0
   ·obtain⟨g,off,e,_⟩:=hp h0;cases e
  subst h0
  clear hp
  have he:(binOp .eql 161 (.slice none 0 c) (.slice none 0 0)).run Tryz.prog w=.ok (.bool true) w:=Lib.run_eql_slice_nil w _ _ _ _ _ _ _ Tryz.underlying161
  go_enter Tryz.func422,Tryz.ntmps422
  go_wp2_with fail
  go_ret
  exact⟨_,rfl,OwnE.nil_ _ _,by(repeat' (first|(with_reducible exact Below.refl _ _)|(with_reducible refine Below.alloc ?_ ?_ _)|(with_reducible refine Below.drew ?_)|(with_reducible refine below_drewN ?_ _)|(with_reducible refine Below.setCell ?_ ?_ _)|(with_reducible refine below_of (by assumption) ?_ ?_)|go_size))⟩
 ·obtain⟨a,rfl⟩:∃a,A=some a:=by
   cases A with
   | none=>exact absurd rfl hnil
   | some a=>exact⟨a,rfl⟩
  clear hnil hp
  have he:(binOp .eql 161 (.slice (some a) l.length c) (.slice none 0 0)).run Tryz.prog w=.ok (.bool false) w:=Lib.run_eql_slice_nil w _ _ _ _ _ _ _ Tryz.underlying161
  go_enter Tryz.func422,Tryz.ntmps422
  go_wp2_with (at_builtin;refine apL tyPr rfl (.tmp 5) (.tmp 6) rfl (OwnE.lit (E:=prE) w [] _ rfl _ rfl (by decide)) rfl _ l rfl (HR.out.keep (by(repeat' (first|(with_reducible exact Below.refl _ _)|(with_reducible refine Below.alloc ?_ ?_ _)|(with_reducible refine Below.drew ?_)|(with_reducible refine below_drewN ?_ _)|(with_reducible refine Below.setCell ?_ ?_ _)|(with_reducible refine below_of (by assumption) ?_ ?_)|go_size)))) (by simp;omega) (by simp) ?_;intro v1 w7 o1 g1 a1)
  have HB7:Below w.heap.size w w7:=(Below.alloc (Below.refl _ _) (Nat.le_refl _) _).grown g1 (by simp) (fun k hk=>by have:=Option.some.inj (show some w.heap.size=some k from hk);omega)
  simp only[List.nil_append] at o1
  go_ret
  exact⟨_,rfl,o1,HB7⟩
theorem cutRd{w:World}{v:Value}{l:List Pr}{base:Nat}(h:OwnE prE base w v l){m:Nat}(hm:m<l.length):∃g c,v=.slice (some ⟨g,0,none⟩) l.length c/\l.length<=c/\c<=9223372036854775807/\RdE prE w (.slice (some ⟨g,m * 2,none⟩) (l.length - m) (c - m)) (l.drop m):=by
 obtain⟨g,c,rfl,_,_,h1,h2⟩:=h.pos (by omega)
 refine⟨g,c,rfl,h1,h2,?_⟩
 obtain⟨A,c',e,h3,h4,hf⟩:=h.form
 injection e with e1 e2 e3
 subst e1;subst e3
 rw[<-List.length_drop]
 refine RdE.of_form (by rw[List.length_drop];omega) (by omega) ?_
 have:=hf.drop rfl m
 rwa [Nat.zero_add] at this
theorem sum_any{g:Nat}{l:List Pr}{F:Ft}(i:Nat)(w:World)(h:SpAt g l F w)(ok:OkP l)(hi:i<=l.length)(hp:0<i) :
 Calls Tryz.prog 386 #[.pointer (some ⟨g,0,none⟩),.int .i64 i] w fun e w'=>e=.returned (.int .u64 (tot (l.take i)))/\Below w.heap.size w w':=by
 obtain⟨v,hB,hO,_⟩:=h
 obtain⟨sg,c,rfl,_,_,hc,hc2⟩:=hO.pos (by omega)
 have k0:=hB.cell 0
 simp only[List.getElem?_toArray,List.getElem?_cons_zero] at k0
 have HO:=Lib.hid hO
 have hlen:=ok.len
 have HT:Hid (∀j (hj:j<l.length),tot (l.take (j+1))=tot (l.take j)+l[j].2):=Lib.hid (fun j hj=>by rw[List.take_succ_eq_append_getElem hj,tot_append];simp)
 have HB:Hid (∀j,0<=tot (l.take j)/\tot (l.take j)<=4611686018427387904):=Lib.hid (fun j=>by
  have e:tot l=tot (l.take j)+tot (l.drop j):=by rw[<-tot_append,List.take_append_drop]
  have h1:=tot_nonneg (l:=l.take j) (fun p hp=>ok.pos p (List.mem_of_mem_take hp))
  have h2:=tot_nonneg (l:=l.drop j) (fun p hp=>ok.pos p (List.mem_of_mem_drop hp))
  have:=ok.tot
  omega)
 have hil:(i:Int)<=(l.length:Int):=by omega
 have hic:(i:Int)<=(c:Int):=by omega
 clear hB hO ok
 go_enter Tryz.func386,Tryz.ntmps386
 go_wp2_with fail
 go_loopg [5,15] i (fun q s x wr=>∃j:Nat,q=i - j/\j<=i/\x=.int .i64 j/\s=.int .u64 (tot (l.take j))/\Below w.heap.size w wr)
 case atStart=>exact⟨0,rfl,by omega,rfl,rfl,Below.refl _ _⟩
 case round=>
  obtain⟨j,hq,hj,rfl,rfl,hb⟩:=hrel
  have HQ:=Lib.hid hq
  have hz:=hb.size
  clear hq
  by_cases hlt:j<i
  ·have hjl:j<l.length:=by omega
   obtain⟨c0,c1⟩:=own_at (HO.out.keep hb) hjl
   have HS:=Lib.hid (HT.out j hjl)
   have b1:=HB.out j
   have b2:=HB.out (j+1)
   rw[HS.out] at b2
   have hji:(j:Int)<(i:Int):=by omega
   obtain⟨s,hs⟩:∃s,tot (l.take j)=s:=⟨_,rfl⟩
   rw[hs] at HS b1 b2 |-
   clear hs
   generalize l[j].1=x at *
   generalize l[j].2=n at *
   go_wp2_with fail
   go_roundg (i - (j+1))
   case measure=>have:=HQ.out;omega
   case rel=>exact⟨j+1,rfl,by omega,by go_num,by rw[HS.out],by(repeat' (first|(with_reducible exact Below.refl _ _)|(with_reducible refine Below.alloc ?_ ?_ _)|(with_reducible refine Below.drew ?_)|(with_reducible refine below_drewN ?_ _)|(with_reducible refine Below.setCell ?_ ?_ _)|(with_reducible refine below_of (by assumption) ?_ ?_)|go_size))⟩
  ·obtain rfl:j=i:=by omega
   go_wp2_with fail
   go_ret
   exact⟨rfl,hb⟩
theorem pairs_any{g:Nat}{l:List Pr}{F:Ft}(w:World)(h:SpAt g l F w)(hlen:l.length<=100000) :
 Calls Tryz.prog 355 #[.pointer (some ⟨g,0,none⟩)] w fun e w'=>∃v',e=.returned v'/\OwnE prE w.heap.size w' v' l/\Below w.heap.size w w':=by
 obtain⟨v,hB,hO,_⟩:=h
 have C:=Lib.hid (clone_P v l w hO.rd (by omega))
 have k0:=hB.cell 0
 simp only[List.getElem?_toArray,List.getElem?_cons_zero] at k0
 clear hB hO
 go_enter Tryz.func355,Tryz.ntmps355
 go_wp2_with fail
 refine(C.out).mono ?_
 rintro e w1 ⟨v1,rfl,o1,hb1⟩
 go_wp2_with fail
 go_ret
 exact⟨_,rfl,o1,hb1⟩
theorem stotal_any{g:Nat}{l:List Pr}{F:Ft}(w:World)(h:SpAt g l F w) :
 Calls Tryz.prog 312 #[.pointer (some ⟨g,0,none⟩)] w fun e w'=>e=.returned (.int .u64 (tot l))/\w=w':=by
 obtain⟨v,hB,hO,_⟩:=h
 have k1:=hB.cell 1
 simp only[List.getElem?_toArray,List.getElem?_cons_zero,List.getElem?_cons_succ] at k1
 clear hB hO
 go_enter Tryz.func312,Tryz.ntmps312
 go_wp2_with fail
 go_ret
 exact⟨rfl,rfl⟩
theorem cut_any{g:Nat}{l:List Pr}{F:Ft}(m:Nat)(w:World)(h:SpAt g l F w)(ok:OkP l)(hm:0<m)(hm1:m<=100000) :
 Calls Tryz.prog 359 #[.pointer (some ⟨g,0,none⟩),.int .i64 m] w fun e w'=>e=.returned (.int .u64 (cutP m l).2)/\SpAt g (cutP m l).1 (Gr F w w') w'/\Touch F w w':=by
 have h':=h
 obtain⟨v,hB,hO,hFg,hFv,hFl⟩:=h'
 obtain⟨A,c,hv,_,_,_⟩:=hO.form
 have hlen:=ok.len
 by_cases hle:l.length<=m
 ·have hcut:=cut_few hle
  rw[hcut]
  subst hv
  have k0:=hB.cell 0
  simp only[List.getElem?_toArray,List.getElem?_cons_zero] at k0
  have HH:=Lib.hid h
  have HF:=Lib.hid hFl
  have hmx:max (m:Int) 1=m:=by omega
  clear hB hO h ok hFl hcut
  go_enter Tryz.func359,Tryz.ntmps359
  go_wp2_with fail
  go_ret
  have ht:Touch F w w:=Touch.refl _ _
  exact⟨rfl,(sp_stay g l).more HH.out (fun _ h=>.inl h) (gr_lt HF.out (Nat.le_refl _)),ht⟩
 ·obtain⟨i,hi⟩:∃i,l.length=i+m:=⟨l.length - m,by omega⟩
  obtain⟨sg,c,hv',hc1,hc2,hrd⟩:=cutRd hO (m:=i) (by omega)
  subst hv'
  have hpos:0<i:=by omega
  have CS:=Lib.hid (sum_any i w h ok (by omega) hpos)
  have hcu:cutP m l=(bump (tot (l.take i)) (l.drop i),tot (l.take i)):=by unfold cutP;rw[show l.length - m=i by omega]
  have hdl:(l.drop i).length=m:=by rw[List.length_drop];omega
  obtain⟨q,r,hqr⟩:∃q r,l.drop i=q::r:=by
   cases hx:l.drop i with
   | nil=>rw[hx] at hdl;simp at hdl;omega
   | cons q r=>exact⟨q,r,rfl⟩
  obtain⟨x,n⟩:=q
  have ett:tot l=tot (l.take i)+tot (l.drop i):=by rw[<-tot_append,List.take_append_drop]
  have b0:=tot_nonneg (l:=l.take i) (fun p hp=>ok.pos p (List.mem_of_mem_take hp))
  have b1:=tot_nonneg (l:=r) (fun p hp=>ok.pos p (List.mem_of_mem_drop (i:=i) (by rw[hqr];exact List.mem_cons_of_mem _ hp)))
  have b2:=ok.pos (x,n) (List.mem_of_mem_drop (i:=i) (by rw[hqr];exact List.mem_cons_self ..))
  have b3:=ok.tot
  simp only at b2
  rw[hcu,hqr]
  rw[hqr] at hrd ett hdl
  rw[hqr] at hcu
  obtain⟨s,hs⟩:∃s,tot (l.take i)=s:=⟨_,rfl⟩
  rw[hs] at CS ett b0 |-
  have hbump:bump s ((x,n)::r)=(x,n+s)::r:=rfl
  have htb:tot ((x,n+s)::r)=tot l:=by rw[tot_cons,ett,tot_cons];omega
  rw[hbump]
  obtain⟨t,ht⟩:∃t,tot l=t:=⟨_,rfl⟩
  rw[ht] at htb hB b3 ett
  rw[tot_cons] at ett
  simp only at ett
  have HTB:=Lib.hid htb
  have k0:=hB.cell 0
  simp only[List.getElem?_toArray,List.getElem?_cons_zero] at k0
  have HB:=Lib.hid hB
  have HO:=Lib.hid hO
  have HFL:=Lib.hid hFl
  have HRD:=Lib.hid hrd
  have HDL:=Lib.hid hdl
  rw[show l.length - i=m by omega] at HRD
  clear hB hO h ok hFl hcu hs hqr hbump htb ht hdl hrd
  have hlz:(l.length:Int)=(i:Int)+(m:Int):=by omega
  have hmx:max (m:Int) 1=m:=by omega
  have hgl:=HB.out.lt
  rw[show l.length=i+m by omega] at k0
  have hz9:(i:Int)<=(c:Int):=by omega
  have hci:¬(c=i):=by omega
  go_enter Tryz.func359,Tryz.ntmps359
  go_wp2_with fail
  refine(CS.out).mono ?_
  rintro e w1 ⟨rfl,hb1⟩
  have k0':=(hb1.cell (p:=⟨g,0,none⟩) hgl).trans k0
  have hz1:=hb1.size
  have f0:=(HB.out.keep hb1).frozen 0
  go_wp2_with fail
  refine(clone_P _ ((x,n)::r) _ (HRD.out.keep hb1) (by have:=HDL.out;omega)).mono ?_
  rintro e w2 ⟨v2,rfl,o2,hb2⟩
  obtain⟨g2,c2,rfl,hg2b,hg2,hc3,hc4⟩:=o2.pos (by simp)
  have hb12:Below w.heap.size w w2:=hb1.trans (hb2.mono hz1)
  have k0'':=(hb12.cell (p:=⟨g,0,none⟩) hgl).trans k0
  have f0':=(HB.out.keep hb12).frozen 0
  have hne:g2≠g:=by omega
  have c1:w2.cell? ⟨g2,1,none⟩=some (.int .u64 n):=(own_at o2 (j:=0) (by simp)).2
  have f2:=o2.frozenAt 1
  have B2:=Lib.hid (HB.out.keep hb12)
  have O2:=Lib.hid o2
  rw[HDL.out]
  have hm0:(0:Int)<(m:Int):=by omega
  have hq2:n+s<=4611686018427387904:=by omega
  clear k0' f0 k0 o2
  go_wp2_with fail
  go_ret
  have b9:=(B2.out.set_ 0 (.slice (some ⟨g2,0,none⟩) m c2)).far (p:=⟨g2,1,none⟩) (fun e=>hne e.symm) (.int .u64 (n+s))
  have o9:=own_setN (O2.out.far (p:=⟨g,0,none⟩) (fun e=>hne (Option.some.inj e)) (.slice (some ⟨g2,0,none⟩) m c2)) (j:=0) (by simp) (n+s)
  have t9:=((Touch.of_below (F:=F) hb12 (Nat.le_refl _)).setCell (p:=⟨g,0,none⟩) (.inl hFg) (.slice (some ⟨g2,0,none⟩) m c2)).setCell (p:=⟨g2,1,none⟩) (.inr (by show w.heap.size<=g2;omega)) (.int .u64 (n+s))
  refine⟨rfl,⟨.slice (some ⟨g2,0,none⟩) m c2,?_,?_,.inl hFg,fun q e=>?_,gr_lt HFL.out t9.size⟩,t9⟩
  ·rw[HTB.out];exact b9
  ·rw[HDL.out] at o9;exact o9.more (Nat.zero_le _)
  ·obtain rfl:g2=q:=Option.some.inj e
   exact .inr ⟨by omega,by simp;exact hg2⟩
open Go.RowKit
end Go.Proofs.YtkiebccnpheloaaGreat.D
