/- Parts of a proof: what its theorem reaches, words cut short. No condition of its own. -/
import Derived.Test.YtingnldfpokckaaGreatPm16
set_option maxRecDepth 100000
set_option maxHeartbeats 16000000
set_option linter.unusedVariables false
set_option linter.unusedSimpArgs false
namespace Go.Proofs.YtingnldfpokckaaGreat.D
open Go.RowKit
theorem clone_P(v:Value)(l:List Pr)(w:World)(h:RdE prE w v l)(hlen:l.length<=1000000000) :
 Calls Tryz.prog 299 #[v] w fun e w'=>∃v',e=.returned v'/\OwnE prE w.heap.size w' v' l/\Below w.heap.size w w':=by
 obtain⟨A,c,rfl,hn,hc,hp⟩:=h.form
 have HR:=Lib.hid h
 clear h
 by_cases hnil:A=none
 ·subst hnil
  have h0:l=[]:=by
   rcases Nat.eq_zero_or_pos l.length with h0|h0
   ·exact List.eq_nil_of_length_eq_zero h0
   ·obtain⟨g,off,e,_⟩:=hp h0;cases e
  subst h0
  clear hp
  have he:(binOp .eql 133 (.slice none 0 c) (.slice none 0 0)).run Tryz.prog w=.ok (.bool true) w:=Lib.run_eql_slice_nil w _ _ _ _ _ _ _ Tryz.underlying133
  go_enter Tryz.func299,Tryz.ntmps299
  go_wp2_with fail
  go_ret
  exact⟨_,rfl,OwnE.nil_ _ _,by(repeat' (first|(with_reducible exact Below.refl _ _)|(with_reducible refine Below.alloc ?_ ?_ _)|(with_reducible refine Below.drew ?_)|(with_reducible refine below_drewN ?_ _)|(with_reducible refine Below.setCell ?_ ?_ _)|(with_reducible refine below_of (by assumption) ?_ ?_)|go_size))⟩
 ·obtain⟨a,rfl⟩:∃a,A=some a:=by
   cases A with
   | none=>exact absurd rfl hnil
   | some a=>exact⟨a,rfl⟩
  clear hnil hp
  have he:(binOp .eql 133 (.slice (some a) l.length c) (.slice none 0 0)).run Tryz.prog w=.ok (.bool false) w:=Lib.run_eql_slice_nil w _ _ _ _ _ _ _ Tryz.underlying133
  go_enter Tryz.func299,Tryz.ntmps299
  go_wp2_with (at_builtin;refine apL tyPr rfl (.tmp 5) (.tmp 6) rfl (OwnE.lit (E:=prE) w [] _ rfl _ rfl (by decide)) rfl _ l rfl (HR.out.keep (by(repeat' (first|(with_reducible exact Below.refl _ _)|(with_reducible refine Below.alloc ?_ ?_ _)|(with_reducible refine Below.drew ?_)|(with_reducible refine below_drewN ?_ _)|(with_reducible refine Below.setCell ?_ ?_ _)|(with_reducible refine below_of (by assumption) ?_ ?_)|go_size)))) (by simp;omega) (by simp) ?_;intro v1 w7 o1 g1 a1)
  have HB7:Below w.heap.size w w7:=(Below.alloc (Below.refl _ _) (Nat.le_refl _) _).grown g1 (by simp) (fun k hk=>by have:=Option.some.inj (show some w.heap.size=some k from hk);omega)
  simp only[List.nil_append] at o1
  go_ret
  exact⟨_,rfl,o1,HB7⟩
theorem cutRd{w:World}{v:Value}{l:List Pr}{base:Nat}(h:OwnE prE base w v l){m:Nat}(hm:m<l.length):∃g c,v=.slice (some ⟨g,0,none⟩) l.length c/\l.length<=c/\c<=9223372036854775807/\RdE prE w (.slice (some ⟨g,m * 2,none⟩) (l.length - m) (c - m)) (l.drop m):=by
 obtain⟨g,c,rfl,_,_,h1,h2⟩:=h.pos (by omega)
 refine⟨g,c,rfl,h1,h2,?_⟩
 obtain⟨A,c',e,h3,h4,hf⟩:=h.form
 injection e with e1 e2 e3
 subst e1;subst e3
 rw[<-List.length_drop]
 refine RdE.of_form (by rw[List.length_drop];omega) (by omega) ?_
 have:=hf.drop rfl m
 rwa [Nat.zero_add] at this
theorem sum_any{g:Nat}{l:List Pr}{F:Ft}(i:Nat)(w:World)(h:SpAt g l F w)(ok:OkP l)(hi:i<=l.length)(hp:0<i) :
 Calls Tryz.prog 298 #[.pointer (some ⟨g,0,none⟩),.int .i64 i] w fun e w'=>e=.returned (.int .u64 (tot (l.take i)))/\Below w.heap.size w w':=by
 obtain⟨v,hB,hO,_⟩:=h
 obtain⟨sg,c,rfl,_,_,hc,hc2⟩:=hO.pos (by omega)
 have k0:=hB.cell 0
 simp only[List.getElem?_toArray,List.getElem?_cons_zero] at k0
 have HO:=Lib.hid hO
 have hlen:=ok.len
 have HT:Hid (∀j (hj:j<l.length),tot (l.take (j+1))=tot (l.take j)+l[j].2):=Lib.hid (fun j hj=>by rw[List.take_succ_eq_append_getElem hj,tot_append];simp)
 have HB:Hid (∀j,0<=tot (l.take j)/\tot (l.take j)<=4611686018427387904):=Lib.hid (fun j=>by
  have e:tot l=tot (l.take j)+tot (l.drop j):=by rw[<-tot_append,List.take_append_drop]
  have h1:=tot_nonneg (l:=l.take j) (fun p hp=>ok.pos p (List.mem_of_mem_take hp))
  have h2:=tot_nonneg (l:=l.drop j) (fun p hp=>ok.pos p (List.mem_of_mem_drop hp))
  have:=ok.tot
  omega)
 have hil:(i:Int)<=(l.length:Int):=by omega
 have hic:(i:Int)<=(c:Int):=by omega
 clear hB hO ok
 go_enter Tryz.func298,Tryz.ntmps298
 go_wp2_with fail
 go_loopg [5,15] i (fun q s x wr=>∃j:Nat,q=i - j/\j<=i/\x=.int .i64 j/\s=.int .u64 (tot (l.take j))/\Below w.heap.size w wr)
 case atStart=>exact⟨0,rfl,by omega,rfl,rfl,Below.refl _ _⟩
 case round=>
  obtain⟨j,hq,hj,rfl,rfl,hb⟩:=hrel
  have HQ:=Lib.hid hq
  have hz:=hb.size
  clear hq
  by_cases hlt:j<i
  ·have hjl:j<l.length:=by omega
   obtain⟨c0,c1⟩:=own_at (HO.out.keep hb) hjl
   have HS:=Lib.hid (HT.out j hjl)
   have b1:=HB.out j
   have b2:=HB.out (j+1)
   rw[HS.out] at b2
   have hji:(j:Int)<(i:Int):=by omega
   obtain⟨s,hs⟩:∃s,tot (l.take j)=s:=⟨_,rfl⟩
   rw[hs] at HS b1 b2 |-
   clear hs
   generalize l[j].1=x at *
   generalize l[j].2=n at *
   go_wp2_with fail
   go_roundg (i - (j+1))
   case measure=>have:=HQ.out;omega
   case rel=>exact⟨j+1,rfl,by omega,by go_num,by rw[HS.out],by(repeat' (first|(with_reducible exact Below.refl _ _)|(with_reducible refine Below.alloc ?_ ?_ _)|(with_reducible refine Below.drew ?_)|(with_reducible refine below_drewN ?_ _)|(with_reducible refine Below.setCell ?_ ?_ _)|(with_reducible refine below_of (by assumption) ?_ ?_)|go_size))⟩
  ·obtain rfl:j=i:=by omega
   go_wp2_with fail
   go_ret
   exact⟨rfl,hb⟩
theorem pairs_any{g:Nat}{l:List Pr}{F:Ft}(w:World)(h:SpAt g l F w)(hlen:l.length<=100000) :
 Calls Tryz.prog 280 #[.pointer (some ⟨g,0,none⟩)] w fun e w'=>∃v',e=.returned v'/\OwnE prE w.heap.size w' v' l/\Below w.heap.size w w':=by
 obtain⟨v,hB,hO,_⟩:=h
 have C:=Lib.hid (clone_P v l w hO.rd (by omega))
 have k0:=hB.cell 0
 simp only[List.getElem?_toArray,List.getElem?_cons_zero] at k0
 clear hB hO
 go_enter Tryz.func280,Tryz.ntmps280
 go_wp2_with fail
 refine(C.out).mono ?_
 rintro e w1 ⟨v1,rfl,o1,hb1⟩
 go_wp2_with fail
 go_ret
 exact⟨_,rfl,o1,hb1⟩
theorem stotal_any{g:Nat}{l:List Pr}{F:Ft}(w:World)(h:SpAt g l F w) :
 Calls Tryz.prog 206 #[.pointer (some ⟨g,0,none⟩)] w fun e w'=>e=.returned (.int .u64 (tot l))/\w=w':=by
 obtain⟨v,hB,hO,_⟩:=h
 have k1:=hB.cell 1
 simp only[List.getElem?_toArray,List.getElem?_cons_zero,List.getElem?_cons_succ] at k1
 clear hB hO
 go_enter Tryz.func206,Tryz.ntmps206
 go_wp2_with fail
 go_ret
 exact⟨rfl,rfl⟩
theorem cut_any{g:Nat}{l:List Pr}{F:Ft}(m:Nat)(w:World)(h:SpAt g l F w)(ok:OkP l)(hm:0<m)(hm1:m<=100000) :
 Calls Tryz.prog 235 #[.pointer (some ⟨g,0,none⟩),.int .i64 m] w fun e w'=>e=.returned (.int .u64 (cutP m l).2)/\SpAt g (cutP m l).1 (Gr F w w') w'/\Touch F w w':=by
 have h':=h
 obtain⟨v,hB,hO,hFg,hFv,hFl⟩:=h'
 obtain⟨A,c,hv,_,_,_⟩:=hO.form
 have hlen:=ok.len
 by_cases hle:l.length<=m
 ·have hcut:=cut_few hle
  rw[hcut]
  subst hv
  have k0:=hB.cell 0
  simp only[List.getElem?_toArray,List.getElem?_cons_zero] at k0
  have HH:=Lib.hid h
  have HF:=Lib.hid hFl
  have hmx:max (m:Int) 1=m:=by omega
  clear hB hO h ok hFl hcut
  go_enter Tryz.func235,Tryz.ntmps235
  go_wp2_with fail
  go_ret
  have ht:Touch F w w:=Touch.refl _ _
  exact⟨rfl,(sp_stay g l).more HH.out (fun _ h=>.inl h) (gr_lt HF.out (Nat.le_refl _)),ht⟩
 ·obtain⟨i,hi⟩:∃i,l.length=i+m:=⟨l.length - m,by omega⟩
  obtain⟨sg,c,hv',hc1,hc2,hrd⟩:=cutRd hO (m:=i) (by omega)
  subst hv'
  have hpos:0<i:=by omega
  have CS:=Lib.hid (sum_any i w h ok (by omega) hpos)
  have hcu:cutP m l=(bump (tot (l.take i)) (l.drop i),tot (l.take i)):=by unfold cutP;rw[show l.length - m=i by omega]
  have hdl:(l.drop i).length=m:=by rw[List.length_drop];omega
  obtain⟨q,r,hqr⟩:∃q r,l.drop i=q::r:=by
   cases hx:l.drop i with
   | nil=>rw[hx] at hdl;simp at hdl;omega
   | cons q r=>exact⟨q,r,rfl⟩
  obtain⟨x,n⟩:=q
  have ett:tot l=tot (l.take i)+tot (l.drop i):=by rw[<-tot_append,List.take_append_drop]
  have b0:=tot_nonneg (l:=l.take i) (fun p hp=>ok.pos p (List.mem_of_mem_take hp))
  have b1:=tot_nonneg (l:=r) (fun p hp=>ok.pos p (List.mem_of_mem_drop (i:=i) (by rw[hqr];exact List.mem_cons_of_mem _ hp)))
  have b2:=ok.pos (x,n) (List.mem_of_mem_drop (i:=i) (by rw[hqr];exact List.mem_cons_self ..))
  have b3:=ok.tot
  simp only at b2
  rw[hcu,hqr]
  rw[hqr] at hrd ett hdl
  rw[hqr] at hcu
  obtain⟨s,hs⟩:∃s,tot (l.take i)=s:=⟨_,rfl⟩
  rw[hs] at CS ett b0 |-
  have hbump:bump s ((x,n)::r)=(x,n+s)::r:=rfl
  have htb:tot ((x,n+s)::r)=tot l:=by rw[tot_cons,ett,tot_cons];omega
  rw[hbump]
  obtain⟨t,ht⟩:∃t,tot l=t:=⟨_,rfl⟩
  rw[ht] at htb hB b3 ett
  rw[tot_cons] at ett
  simp only at ett
  have HTB:=Lib.hid htb
  have k0:=hB.cell 0
  simp only[List.getElem?_toArray,List.getElem?_cons_zero] at k0
  have HB:=Lib.hid hB
  have HO:=Lib.hid hO
  have HFL:=Lib.hid hFl
  have HRD:=Lib.hid hrd
  have HDL:=Lib.hid hdl
  rw[show l.length - i=m by omega] at HRD
  clear hB hO h ok hFl hcu hs hqr hbump htb ht hdl hrd
  have hlz:(l.length:Int)=(i:Int)+(m:Int):=by omega
  have hmx:max (m:Int) 1=m:=by omega
  have hgl:=HB.out.lt
  rw[show l.length=i+m by omega] at k0
  have hz9:(i:Int)<=(c:Int):=by omega
  have hci:¬(c=i):=by omega
  go_enter Tryz.func235,Tryz.ntmps235
  go_wp2_with fail
  refine(CS.out).mono ?_
  rintro e w1 ⟨rfl,hb1⟩
  have k0':=(hb1.cell (p:=⟨g,0,none⟩) hgl).trans k0
  have hz1:=hb1.size
  have f0:=(HB.out.keep hb1).frozen 0
  go_wp2_with fail
  refine(clone_P _ ((x,n)::r) _ (HRD.out.keep hb1) (by have:=HDL.out;omega)).mono ?_
  rintro e w2 ⟨v2,rfl,o2,hb2⟩
  obtain⟨g2,c2,rfl,hg2b,hg2,hc3,hc4⟩:=o2.pos (by simp)
  have hb12:Below w.heap.size w w2:=hb1.trans (hb2.mono hz1)
  have k0'':=(hb12.cell (p:=⟨g,0,none⟩) hgl).trans k0
  have f0':=(HB.out.keep hb12).frozen 0
  have hne:g2≠g:=by omega
  have c1:w2.cell? ⟨g2,1,none⟩=some (.int .u64 n):=(own_at o2 (j:=0) (by simp)).2
  have f2:=o2.frozenAt 1
  have B2:=Lib.hid (HB.out.keep hb12)
  have O2:=Lib.hid o2
  rw[HDL.out]
  have hm0:(0:Int)<(m:Int):=by omega
  have hq2:n+s<=4611686018427387904:=by omega
  clear k0' f0 k0 o2
  go_wp2_with fail
  go_ret
  have b9:=(B2.out.set_ 0 (.slice (some ⟨g2,0,none⟩) m c2)).far (p:=⟨g2,1,none⟩) (fun e=>hne e.symm) (.int .u64 (n+s))
  have o9:=own_setN (O2.out.far (p:=⟨g,0,none⟩) (fun e=>hne (Option.some.inj e)) (.slice (some ⟨g2,0,none⟩) m c2)) (j:=0) (by simp) (n+s)
  have t9:=((Touch.of_below (F:=F) hb12 (Nat.le_refl _)).setCell (p:=⟨g,0,none⟩) (.inl hFg) (.slice (some ⟨g2,0,none⟩) m c2)).setCell (p:=⟨g2,1,none⟩) (.inr (by show w.heap.size<=g2;omega)) (.int .u64 (n+s))
  refine⟨rfl,⟨.slice (some ⟨g2,0,none⟩) m c2,?_,?_,.inl hFg,fun q e=>?_,gr_lt HFL.out t9.size⟩,t9⟩
  ·rw[HTB.out];exact b9
  ·rw[HDL.out] at o9;exact o9.more (Nat.zero_le _)
  ·obtain rfl:g2=q:=Option.some.inj e
   exact .inr ⟨by omega,by simp;exact hg2⟩
end Go.Proofs.YtingnldfpokckaaGreat.D
