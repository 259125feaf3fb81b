/- Parts of a proof: what its theorem reaches, words cut short. No condition of its own. -/
import Derived.Test.YtkiebccnpheloaaGreatPv09
set_option maxRecDepth 100000
set_option maxHeartbeats 16000000
set_option linter.unusedVariables false
set_option linter.unusedSimpArgs false
namespace Go.Proofs.YtkiebccnpheloaaGreat
open Go.RowKit Go.Lib
def Found(n:Nat)(p:Nat->Bool)(w:World)(e:Ending)(w':World):Prop:=∃i q:Nat,e=.returned (.int .i64 i)/\i<=n/\(∀t,t<i->p t=false)/\(∀t,i<=t->t<n->p t=true)/\w'=w.drewN q
theorem search_any(K:Nat)(cb:Array Value)(n:Nat)(p:Nat->Bool)(w:World)(eg:∀args w,(callFunc K args).run Tryz.prog w=.ok (.enter K args) w)(hsz:n<4611686018427387904)
 (hf:∀(m i:Nat),i<n->Calls Tryz.prog K (#[.int .i64 i]++cb) (w.drewN m) fun e w'=>e=.returned (.bool (p i))/\∃q,w'=(w.drewN m).drewN q)
 (hmono:∀a b,a<=b->b<n->p a=true->p b=true) :
 Calls Tryz.prog 211 #[.int .i64 n,.func (.func K) #[] cb] w (Found n p w):=by
 have HF:=Lib.hid hf
 have M:=Lib.hid hmono
 clear hf hmono
 go_enter Tryz.func211,Tryz.ntmps211
 go_wp2_with fail
 go_loopg [5,6] n (fun kx s5 s6 wr=>∃lo hi q:Nat,s5=.int .i64 lo/\s6=.int .i64 hi/\lo<=hi/\hi<=n/\hi - lo<=kx/\wr=w.drewN q /\
  Hid ((∀t,t<lo->p t=false)/\(∀t,hi<=t->t<n->p t=true)))
 case atStart=>exact⟨0,n,0,rfl,rfl,Nat.zero_le _,Nat.le_refl _,by omega,rfl,(⟨fun t ht=>absurd ht (Nat.not_lt_zero _),fun t h1 h2=>by omega⟩:(∀t,t<0->p t=false)/\(∀t,n<=t->t<n->p t=true))⟩
 case round=>
  obtain⟨lo,hi,q,rfl,rfl,hlh,hin,hg,rfl,I⟩:=hrel
  by_cases hlt:lo<hi
  ·have hc:=HF.out q ((lo+hi) / 2) (by omega)
   rw[show(((lo+hi) / 2:Nat):Int)=((lo:Int)+(hi:Int)) / 2 by omega] at hc
   cases hp:p ((lo+hi) / 2)<;>rw[hp] at hc
   ·have HP:=Lib.hid hp
    have HC:=Lib.hid hc
    clear hp hc
    go_wp2_with (go_at_fn K;refine HC.out.mono ?_;rintro e w' ⟨rfl,nq,rfl⟩)
    go_roundg (hi - ((lo+hi) / 2+1))
    case measure=>omega
    case rel=>
     have I2:Hid ((∀t,t<(lo+hi) / 2+1->p t=false)/\(∀t,hi<=t->t<n->p t=true)):=⟨fun t ht=>(by
      cases h:p t with
      | false=>rfl
      | true=>have:=M.out t ((lo+hi) / 2) (by omega) (by omega) h;rw[HP.out] at this;cases this),I.out.2⟩
     exact⟨(lo+hi) / 2+1,hi,q+nq,by rw[show((lo:Int)+(hi:Int)) / 2+1=(((lo+hi) / 2+1:Nat):Int) by omega],rfl,by omega,hin,Nat.le_refl _,rfl,I2⟩
   ·have HP:=Lib.hid hp
    have HC:=Lib.hid hc
    clear hp hc
    go_wp2_with (go_at_fn K;refine HC.out.mono ?_;rintro e w' ⟨rfl,nq,rfl⟩)
    go_roundg ((lo+hi) / 2 - lo)
    case measure=>omega
    case rel=>
     have I2:Hid ((∀t,t<lo->p t=false)/\(∀t,(lo+hi) / 2<=t->t<n->p t=true)):=⟨I.out.1,fun t ht htn=>M.out ((lo+hi) / 2) t ht htn HP.out⟩
     exact⟨lo,(lo+hi) / 2,q+nq,rfl,by rw[show((lo:Int)+(hi:Int)) / 2=(((lo+hi) / 2:Nat):Int) by omega],by omega,by omega,Nat.le_refl _,rfl,I2⟩
  ·obtain rfl:hi=lo:=by omega
   go_wp2_with fail
   go_ret
   exact⟨hi,q,rfl,hin,I.out.1,I.out.2,rfl⟩
open Go.RowKit Go.Lib
def DgS(w:World)(g:Nat)(F:Nat->Prop)(d:Int)(s:St):Prop:=Dg w g F d s.L s.W s.lo s.hi (tot (s.L++s.W))
structure Fit(d:Int)(s:St)(k:Nat):Prop where
 ok:s.Ok d k
 k1:k<=100000000
 t:tot (s.L++s.W)<=281474976710656
 d0:10<=d
 d1:d<=1000
open Go.RowKit Go.Lib
open Go.RowKit Go.Lib
structure RpS(g:Nat)(d:Int)(w w':World):Prop where
 touch:Touch (fun k=>k=g) w w'
 c0:w'.cell? ⟨g,0,none⟩=some (.int .i64 d)
theorem RpS.set_{g:Nat}{d:Int}{w w':World}(h:RpS g d w w')(v:Value):RpS g d w (w'.setCell ⟨g,1,none⟩ v):=
 ⟨h.touch.setCell (.inl rfl) v,(World.cell?_setCell_other _ _ _ _ (by simp)).trans h.c0⟩
theorem RDg.low{w:World}{g:Nat}{F:Nat->Prop}{d lo hi:Int}{L W:List Mn}(h:RDg w g F d L W lo hi):∀k,F k->k<w.heap.size:=by
 obtain⟨lv,wv,_,_,_,_,_,_,_,h4⟩:=h
 exact h4
theorem rpress_any(g:Nat)(F:Nat->Prop)(d lo hi:Int)(L W:List Mn)(w:World)(h:RDg w g F d L W lo hi)(ho:okL (L++W))(hlen:L.length+W.length<=100000000)(ht:tot (L++W)<=281474976710656)(d0:0<=d)(d1:d<=1000) :
 Calls Tryz.prog 191 #[.pointer (some ⟨g,0,none⟩)] w fun e w'=>e=.returned (.tuple #[])/\∃F':Nat->Prop,(∀k,F' k->F k\/w.heap.size<=k)/\RDg w' g F' d (prs d (L++W)) [] lo hi/\Touch F w w':=by
 have HD:=Lib.hid h
 obtain⟨lv,wv,hb,hl,hw,hg,h1,h2,h3,h4⟩:=h
 have c0:=hb.cell 0
 have c1:=hb.cell 1
 have c2:=hb.cell 2
 have f1:=hb.frozen 1
 have f2:=hb.frozen 2
 simp only[List.getElem?_toArray,List.getElem?_cons_succ,List.getElem?_cons_zero] at c0 c1 c2
 have hlt:=hb.lt
 have HB:=Lib.hid hb
 obtain⟨A,ca,rfl,na,ma,fa⟩:=hl.form
 obtain⟨B,cb,rfl,nb,mb,fb⟩:=hw.form
 have HG:=Lib.hid hg
 have HC0:=Lib.hid c0
 have HC1:=Lib.hid c1
 have HC2:=Lib.hid c2
 have HO:=Lib.hid ho
 have HAL:(L++W).length<=1000000000:=by rw[List.length_append];omega
 clear hb hl hw fa fb ho hg h1 h2 h3 h4 c0 c1 c2
 go_enter Tryz.func191,Tryz.ntmps191
 go_wp2_with fail
 have HSB:∀w',Below w.heap.size w w'->RpS g d w w':=fun w' hb=>⟨Touch.of_below hb (Nat.le_refl _),(hb.cell (p:=⟨g,0,none⟩) hlt).trans HC0.out⟩
 refine wp_region_plan (RpS g d w) [(0,true),(1,true),(2,true),(3,true),(4,true),(5,true),(6,false),(7,false),(8,true),(9,true),(10,false)] (by kernel_rfl) (by kernel_rfl) (HSB _ (Below.refl _ _).drew) ?_
 iterate 6
  refine wpPlan_read (by rfl) (by rfl) (fun R hR=>?_)
  apply Exists.intro
  refine⟨fun w' hS'=>?_,?_⟩
  ·have k0:=hS'.c0
   go_simp
   exact⟨rfl,rfl⟩
  go_simp
  refine hR _ ?_
  clear hR R
 refine wpPlan_do (by rfl) (by rfl) (fun K hK=>?_)
 go_simp
 refine(rall_any g F d lo hi L W _ (HD.out.keep (Below.refl _ _).drew) (by omega)).mono ?_
 rintro e w1 ⟨v1,rfl,o1,hb1⟩
 have hbw1:Below w.heap.size w w1:=((Below.refl _ _).drew).trans (hb1.mono (by go_size))
 have hz1:=hbw1.size
 have O1:=Lib.hid o1
 clear o1
 refine hK _ _ (HSB _ hbw1) ?_
 clear hK K
 refine wpPlan_do (by rfl) (by rfl) (fun K hK=>?_)
 go_simp
 refine(rpressed_any d v1 (L++W) _ O1.out.rd HO.out HAL ht d0 d1).mono ?_
 rintro e w3 ⟨v3,rfl,o3,hb3⟩
 have hbw3:Below w.heap.size w w3:=hbw1.trans (hb3.mono hz1)
 have hz3:=hbw3.size
 have O3:=Lib.hid o3
 clear o3
 refine hK _ _ (HSB _ hbw3) ?_
 clear hK K
 iterate 2
  refine wpPlan_read (by rfl) (by rfl) (fun R hR=>?_)
  apply Exists.intro
  refine⟨fun w' hS'=>?_,?_⟩
  ·have k0:=hS'.c0
   go_simp
   exact⟨rfl,rfl⟩
  go_simp
  refine hR _ ?_
  clear hR R
 refine wpPlan_do (by rfl) (by rfl) (fun K hK=>?_)
 obtain⟨A3,c3,rfl,n3,m3,f3⟩:=O3.out.form
 clear f3
 have k1:=(hbw3.frozen (p:=⟨g,1,none⟩) hlt).trans f1
 have k3:=(hbw3.cell (p:=⟨g,1,none⟩) hlt).trans HC1.out
 go_simp
 refine hK _ _ ((HSB _ hbw3).set_ _) ?_
 clear hK K
 refine wpPlan_nil ?_
 have k2:=(hbw3.frozen (p:=⟨g,2,none⟩) hlt).trans f2
 have k4:=(hbw3.cell (p:=⟨g,2,none⟩) hlt).trans HC2.out
 go_wp2_with fail
 refine bodyPost_end (v:=.tuple #[]) (by simp[results,Tryz.results191,go_sem, *];try rfl) rfl ?_
 refine⟨rfl,fun k=>k=g\/(Value.slice A3 (prs d (L++W)).length c3).ownBlock=some k,?_,?_,?_⟩
 ·rintro k (rfl|hk)
  ·exact .inl HG.out
  ·exact .inr (by have:=(O3.out.lt k hk).1;omega)
 ·have hgo:∀k,(Value.slice A3 (prs d (L++W)).length c3).ownBlock=some k->w.heap.size<=k/\k<w3.heap.size:=fun k hk=>by have:=O3.out.lt k hk;omega
  have hgn:∀i,(Value.slice A3 (prs d (L++W)).length c3).ownBlock≠some (⟨g,i,none⟩:Addr).block:=fun i hk=>by have:=hgo g hk;omega
  refine⟨_,_,((HB.out.keep hbw3).set_ 1 _).set_ 2 _,((O3.out.more (Nat.zero_le _)).far (hgn 1) _).far (hgn 2) _,OwnM.nil_ _ _,.inl rfl,fun k hk=>.inr hk,fun k hk=>(by cases hk),fun k hk=>(by cases hk),fun k hk=>?_⟩
  simp only[World.size_setCell]
  rcases hk with rfl|hk
  ·omega
  ·have:=hgo k hk;omega
 ·exact((Touch.of_below hbw3 (Nat.le_refl _)).setCell (.inl HG.out) _).setCell (.inl HG.out) _
theorem RDg.cells{w w':World}{g:Nat}{F:Nat->Prop}{d d' lo hi lo' hi':Int}{L W:List Mn}{lv wv:Value}(hb:Blk w g 151 #[.int .i64 d,lv,wv,.int .i64 lo,.int .i64 hi])(hl:OwnM 0 w lv L)(hw:OwnM 0 w wv W)
 (hF:F g/\(∀k,lv.ownBlock=some k->F k)/\(∀k,wv.ownBlock=some k->F k)/\(∀k,wv.ownBlock=some k->lv.ownBlock≠some k)/\(∀k,F k->k<w.heap.size))
 (ht:Touch (fun k=>k=g) w w') (hb':Blk w' g 151 #[.int .i64 d',lv,wv,.int .i64 lo',.int .i64 hi']):RDg w' g F d' L W lo' hi':=by
 obtain⟨hg,h1,h2,h3,h4⟩:=hF
 have nl:=hb.notOwn hl (by decide)
 have nw:=hb.notOwn hw (by decide)
 exact⟨lv,wv,hb',hl.stay fun k e=>ht.block k (h4 k (h1 k e)) (fun h=>nl (by rw[e,h])),hw.stay fun k e=>ht.block k (h4 k (h2 k e)) (fun h=>nw (by rw[e,h])),hg,h1,h2,h3,fun k hf=>Nat.lt_of_lt_of_le (h4 k hf) ht.size⟩
theorem rends_any{g:Nat}{F:Nat->Prop}{d lo hi:Int}{L W:List Mn}(a b:Int)(w:World)(h:RDg w g F d L W lo hi)(hlen:L.length+W.length<=100000000) :
 Calls Tryz.prog 190 #[.pointer (some ⟨g,0,none⟩),.int .i64 a,.int .i64 b] w fun e w'=>e=.returned (.tuple #[])/\RDg w' g F d L W (if L.length+W.length=0 then a else min lo a) (if L.length+W.length=0 then b else max hi b)/\Touch (fun k=>k=g) w w':=by
 obtain⟨lv,wv,hb,hl,hw,hg,h1,h2,h3,h4⟩:=h
 have hlt:=hb.lt
 obtain⟨A,ca,rfl,na,ma,fa⟩:=hl.form
 obtain⟨B,cb,rfl,nb,mb,fb⟩:=hw.form
 have HB:=Lib.hid hb
 have HL:=Lib.hid hl
 have HW:=Lib.hid hw
 have HG:=Lib.hid (And.intro hg (And.intro h1 (And.intro h2 (And.intro h3 h4))))
 have c1:=hb.cell 1
 have c2:=hb.cell 2
 have c3:=hb.cell 3
 have c4:=hb.cell 4
 have f3:=hb.frozen 3
 have f4:=hb.frozen 4
 simp only[List.getElem?_toArray,List.getElem?_cons_succ,List.getElem?_cons_zero] at c1 c2 c3 c4
 clear hb hl hw hg h1 h2 h3 h4 fa fb
 by_cases hn:L.length+W.length=0
 ·simp only[if_pos hn]
  have hE:(((L.length:Int)+(W.length:Int)) == 0)=true:=by simp;omega
  clear hn
  have ew:IntKind.i64.wrap ((L.length:Int)+(W.length:Int))=(L.length:Int)+(W.length:Int):=IntWalk.i64_in _ (by omega)
  go_enter Tryz.func190,Tryz.ntmps190
  go_wp2_with fail
  go_quiet (fail)
  clear ew
  go_wp2_with fail
  refine bodyPost_end (v:=.tuple #[]) (by simp[results,Tryz.results190,go_sem, *];try rfl) rfl ?_
  have T3:=((((((Touch.refl (fun k=>k=g) w).drewN nq).setCell (p:=⟨g,3,none⟩) (.inl rfl) (.int .i64 a)).setCell (p:=⟨g,4,none⟩) (.inl rfl) (.int .i64 b)).setCell (p:=⟨g,3,none⟩) (.inl rfl) (.int .i64 a)).setCell (p:=⟨g,4,none⟩) (.inl rfl) (.int .i64 b))
  exact⟨rfl,RDg.cells HB.out HL.out HW.out HG.out T3 (((((HB.out.drewN nq).set_ 3 _).set_ 4 _).set_ 3 _).set_ 4 _),T3⟩
 ·simp only[if_neg hn]
  have hE:(((L.length:Int)+(W.length:Int)) == 0)=false:=by simp;omega
  clear hn
  have ew:IntKind.i64.wrap ((L.length:Int)+(W.length:Int))=(L.length:Int)+(W.length:Int):=IntWalk.i64_in _ (by omega)
  go_enter Tryz.func190,Tryz.ntmps190
  go_wp2_with fail
  go_quiet (fail)
  clear ew
  go_wp2_with fail
  refine bodyPost_end (v:=.tuple #[]) (by simp[results,Tryz.results190,go_sem, *];try rfl) rfl ?_
  have T3:=(((Touch.refl (fun k=>k=g) w).drewN nq).setCell (p:=⟨g,3,none⟩) (.inl rfl) (.int .i64 (min lo a))).setCell (p:=⟨g,4,none⟩) (.inl rfl) (.int .i64 (max hi b))
  exact⟨rfl,RDg.cells HB.out HL.out HW.out HG.out T3 (((HB.out.drewN nq).set_ 3 _).set_ 4 _),T3⟩
open Go.RowKit Go.Lib
def RDgS(w:World)(g:Nat)(F:Nat->Prop)(d:Int)(s:St):Prop:=RDg w g F d s.L s.W s.lo s.hi
theorem addS_any{g:Nat}{F:Nat->Prop}{d:Int}{s:St}{k:Nat}(a n:Int)(w:World)(h:DgS w g F d s)(ft:Fit d s k)(hk:k<100000000)(a0:-9223372036854775808<=a)(a1:a<=9223372036854775807)(n0:0<n)(n1:n<=281474976710656 - tot (s.L++s.W)) :
 Calls Tryz.prog 133 #[.pointer (some ⟨g,0,none⟩),.int .i64 a,.int .u64 n] w fun e w'=>e=.returned (.int .i64 0)/\∃F':Nat->Prop,(∀k,F' k->F k\/w.heap.size<=k)/\DgS w' g F' d (s.add d a n)/\Touch F w w':=by
 have:=add_any a n w h ft.ok.ok ⟨ft.ok.lo0,ft.ok.lo1⟩ ⟨ft.ok.hi0,ft.ok.hi1⟩ ⟨a0,a1⟩ ⟨by omega,by have:=ft.ok.n_nonneg;omega⟩ (by have:=ft.ok.len;omega) ft.t (by have:=ft.d0;omega) ft.d1
 refine this.mono ?_
 intro e w' h1
 simp only[if_neg (show ¬n=0 by omega),if_neg (show ¬281474976710656 - tot (s.L++s.W)<n by omega)] at h1
 obtain⟨h1,F',h2,h3,h4⟩:=h1
 refine⟨h1,F',h2,?_,h4⟩
 unfold DgS
 rw[St.add_n]
 exact h3
theorem addS_no{g:Nat}{F:Nat->Prop}{d:Int}{s:St}{k:Nat}(a n:Int)(w:World)(h:DgS w g F d s)(ft:Fit d s k)(hk:k<100000000)(a0:-9223372036854775808<=a)(a1:a<=9223372036854775807)(n0:0<=n)(n1:n<=18446744073709551615)(hn:n=0\/281474976710656 - tot (s.L++s.W)<n) :
 Calls Tryz.prog 133 #[.pointer (some ⟨g,0,none⟩),.int .i64 a,.int .u64 n] w fun e w'=>e=.returned (.int .i64 (if n=0 then 4 else 6))/\Below w.heap.size w w':=by
 have:=add_any a n w h ft.ok.ok ⟨ft.ok.lo0,ft.ok.lo1⟩ ⟨ft.ok.hi0,ft.ok.hi1⟩ ⟨a0,a1⟩ ⟨n0,n1⟩ (by have:=ft.ok.len;omega) ft.t (by have:=ft.d0;omega) ft.d1
 refine this.mono ?_
 intro e w' h1
 by_cases h0:n=0
 ·simp only[if_pos h0] at h1 |-;exact h1
 ·simp only[if_neg h0,if_pos (show 281474976710656 - tot (s.L++s.W)<n by omega)] at h1 |-;exact h1
theorem radd_no{g:Nat}{F:Nat->Prop}{d:Int}{s:St}{k:Nat}(a n:Int)(w:World)(h:RDgS w g F d s)(ft:Fit d s k)(hn:n=0\/281474976710656 - tot (s.L++s.W)<n) :
 Calls Tryz.prog 176 #[.pointer (some ⟨g,0,none⟩),.int .i64 a,.int .u64 n] w fun e w'=>e=.returned (.int .i64 (if n=0 then 4 else 6))/\Below w.heap.size w w':=by
 have HD:=Lib.hid h
 have t0:=ft.ok.n_nonneg
 have t1:=ft.t
 have HL:s.L.length+s.W.length<=1099511627776:=by have:=ft.ok.len;have:=ft.k1;omega
 have HO:=Lib.hid ft.ok.ok
 clear h
 by_cases hk0:n=0
 ·subst hk0
  go_enter Tryz.func176,Tryz.ntmps176
  go_wp2_with fail
  refine bodyPost_ret (by simp[results,Tryz.results176,go_sem, *];try rfl) rfl ?_
  exact⟨rfl,by(repeat' (first|(with_reducible exact Below.refl _ _)|(with_reducible refine Below.alloc ?_ ?_ _)|(with_reducible refine Below.drew ?_)|(with_reducible refine below_drewN ?_ _)|(with_reducible refine Below.setCell ?_ ?_ _)|(with_reducible refine below_of (by assumption) ?_ ?_)|go_size))⟩
 ·simp only[if_neg hk0]
  have hn':281474976710656 - tot (s.L++s.W)<n:=by omega
  have hb0:(n == 0)=false:=by simpa using hk0
  clear hn hk0
  go_enter Tryz.func176,Tryz.ntmps176
  go_wp2_with fail
  refine(rall_any g F d s.lo s.hi s.L s.W _ HD.out HL).mono ?_
  rintro e w1 ⟨v,rfl,o,hb1⟩
  have O1:=Lib.hid o
  have hz1:=hb1.size
  clear o
  go_wp2_with fail
  refine(rtotal_any v _ _ O1.out.rd HO.out (by omega)).mono ?_
  rintro e w2 ⟨rfl,hb2⟩
  have hz2:=hb2.size
  go_wp2_with fail
  refine bodyPost_ret (by simp[results,Tryz.results176,go_sem, *];try rfl) rfl ?_
  exact⟨rfl,by(repeat' (first|(with_reducible exact Below.refl _ _)|(with_reducible refine Below.alloc ?_ ?_ _)|(with_reducible refine Below.drew ?_)|(with_reducible refine below_drewN ?_ _)|(with_reducible refine Below.setCell ?_ ?_ _)|(with_reducible refine below_of (by assumption) ?_ ?_)|go_size))⟩
theorem radd_yes{g:Nat}{F:Nat->Prop}{d:Int}{s:St}{k:Nat}(a n:Int)(w:World)(h:RDgS w g F d s)(ft:Fit d s k)(hk:k<100000000)(a0:-9223372036854775808<=a)(a1:a<=9223372036854775807)(n0:0<n)(n1:n<=281474976710656 - tot (s.L++s.W)) :
 Calls Tryz.prog 176 #[.pointer (some ⟨g,0,none⟩),.int .i64 a,.int .u64 n] w fun e w'=>e=.returned (.int .i64 0)/\∃F':Nat->Prop,(∀k,F' k->F k\/w.heap.size<=k)/\RDgS w' g F' d (s.add d a n)/\Touch F w w':=by
 obtain⟨L,W,lo,hi⟩:=s
 have HD:Hid (RDg w g F d L W lo hi):=Lib.hid h
 have t0:0<=tot (L++W):=ft.ok.n_nonneg
 have t1:tot (L++W)<=281474976710656:=ft.t
 have hkl:L.length+W.length<=k:=ft.ok.len
 replace n1:n<=281474976710656 - tot (L++W):=n1
 have HL:L.length+W.length<=1099511627776:=by omega
 have hl:L.length+W.length<100000000:=by omega
 have HO:Hid (okL (L++W)):=Lib.hid ft.ok.ok
 have d0:=ft.d0
 have d1:=ft.d1
 have hb0:(n == 0)=false:=by simp;omega
 have EN:Hid (∀w1,Below w.heap.size w w1->Calls Tryz.prog 190 #[.pointer (some ⟨g,0,none⟩),.int .i64 a,.int .i64 a] w1 fun e w'=>e=.returned (.tuple #[])/\RDg w' g F d L W (if tot (L++W)=0 then a else min lo a) (if tot (L++W)=0 then a else max hi a)/\Touch (fun k=>k=g) w1 w'):=by
  intro w1 hb
  have:=rends_any a a w1 (RDg.keep HD.out hb) (by omega)
  have e:(L.length+W.length=0)<->tot (L++W)=0:=by
   have hz:=ft.ok.n_zero
   simp only at hz
   rw[hz]
   constructor
   ·intro h;exact List.eq_nil_of_length_eq_zero (by rw[List.length_append];exact h)
   ·intro h;rw[<-List.length_append,h];rfl
  simp only[e] at this
  exact this
 have hS:Hid (St.add d ⟨L,W,lo,hi⟩ a n=⟨addL d L W (a,n),addW d W (a,n),if tot (L++W)=0 then a else min lo a,if tot (L++W)=0 then a else max hi a⟩):=rfl
 generalize (if tot (L++W)=0 then a else min lo a)=lo1 at EN hS
 generalize (if tot (L++W)=0 then a else max hi a)=hi1 at EN hS
 clear h ft
 go_enter Tryz.func176,Tryz.ntmps176
 go_wp2_with fail
 refine(rall_any g F d lo hi L W _ HD.out HL).mono ?_
 rintro e w1 ⟨v,rfl,o,hb1⟩
 have O1:=Lib.hid o
 have hz1:=hb1.size
 clear o
 go_wp2_with fail
 refine(rtotal_any v _ _ O1.out.rd HO.out (by omega)).mono ?_
 rintro e w2 ⟨rfl,hb2⟩
 have hz2:=hb2.size
 have hb12:Below w.heap.size w w2:=hb1.trans (hb2.mono hz1)
 go_wp2_with fail
 refine(EN.out _ hb12).mono ?_
 rintro e w3 ⟨rfl,⟨lv1,wv1,b1,l1,x1,hF⟩,T1⟩
 obtain⟨B,cb,rfl,nb,mb,fb⟩:=x1.form
 have q2:=b1.cell 2
 have r2:=b1.frozen 2
 simp only[List.getElem?_toArray,List.getElem?_cons_succ,List.getElem?_cons_zero] at q2
 have hlt3:=b1.lt
 have hz3:=T1.size
 have NL1:=b1.notOwn l1 (by decide)
 have NW1:=b1.notOwn x1 (by decide)
 have B1:=Lib.hid b1
 have L1:=Lib.hid l1
 have X1:=Lib.hid x1
 have HF1:=Lib.hid hF
 clear b1 l1 x1 hF fb
 go_upto_region 7 with(first|(at_builtin;go_must (refine append_M rfl (.tmp 23) (.tmp 27) rfl 0 (.slice B W.length cb) W rfl (X1.out.alloc _) _ [(a,n)] rfl (RdM.one _ (a,n)) (by simp only[List.length_singleton];omega) (Nat.zero_le _) ?_);intro v1 w4 o4 g4 a4;have b4:=(g4.block g (by rw[World.size_alloc];omega) (fun e=>NW1 e.symm)).trans (B1.out.alloc (.cells #[.int .i64 a,.int .u64 n] 231));obtain⟨A4,c4,rfl,n4,m4,f4⟩:=o4.form;have s2:=Blk.cell b4 2;have s0:=Blk.cell b4 0;have u2:=Blk.frozen b4 2;simp only[List.getElem?_toArray,List.getElem?_cons_succ,List.getElem?_cons_zero] at s0 s2;have B4:Hid (Blk w4 g _ _):=Lib.hid b4;have O4:=Lib.hid o4;clear b4 o4 f4;go_simp))
 have KF:Hid (∃F':Nat->Prop,(∀k,F' k->F k\/w.heap.size<=k)/\RDg (w4.setCell ⟨g,2,none⟩ (.slice A4 (W.length+1) c4)) g F' d L (W++[(a,n)]) lo1 hi1/\Touch F w (w4.setCell ⟨g,2,none⟩ (.slice A4 (W.length+1) c4))):=by
  obtain⟨p1,p2,p3,p4,p5⟩:=HF1.out
  have hlen3:(W++[(a,n)]).length=W.length+1:=by simp
  have O4':=O4.out
  rw[hlen3] at O4' a4
  have T3:Touch F w w3:=(Touch.of_below (F:=F) hb12 (Nat.le_refl _)).trans T1 (fun i hi=>by subst hi;exact .inl p1)
  have T4:Touch F w w4:=(T3.alloc (.cells #[.int .i64 a,.int .u64 n] 231)).grown g4 (fun k1 hk1=>.inl (p3 k1 hk1))
  have T5:=T4.setCell (p:=⟨g,2,none⟩) (.inl p1) (.slice A4 (W.length+1) c4)
  have own3:∀k1,(Value.slice A4 (W.length+1) c4).ownBlock=some k1->F k1\/k1=w3.heap.size+1:=fun k1 e=>by
   rcases a4 with e3|e3
   ·exact .inl (p3 k1 (by rw[<-e3];exact e))
   ·rw[e3] at e;simp only[World.size_alloc,Option.some.injEq] at e;exact .inr e.symm
  have sz3:w3.heap.size+1<=w4.heap.size:=by have:=g4.size;rw[World.size_alloc] at this;exact this
  have ng3:(Value.slice A4 (W.length+1) c4).ownBlock≠some g:=fun e=>by
   rcases a4 with e3|e3
   ·exact NW1 (by rw[<-e3];exact e)
   ·rw[e3] at e;simp only[World.size_alloc,Option.some.injEq] at e;omega
  have L4:OwnM 0 w4 lv1 L:=(L1.out.alloc (.cells #[.int .i64 a,.int .u64 n] 231)).stay fun k1 e=>g4.block k1 (by rw[World.size_alloc];have:=p5 k1 (p2 k1 e);omega) (fun e2=>p4 k1 e2.symm e)
  refine⟨fun k1=>F k1\/(Value.slice A4 (W.length+1) c4).ownBlock=some k1,?_,⟨lv1,_,B4.out.set_ 2 _,L4.far (p:=⟨g,2,none⟩) (fun e=>B4.out.notOwn L4 (by decide) e) _,?_,.inl p1,fun k1 e=>.inl (p2 k1 e),fun k1 e=>.inr e,?_,?_⟩,T5⟩
  ·rintro k1 (hf|e)
   ·exact .inl hf
   ·rcases own3 k1 e with hf|hf
    ·exact .inl hf
    ·exact .inr (by omega)
  ·have:=O4'.far (p:=⟨g,2,none⟩) ng3 (.slice A4 (W.length+1) c4)
   exact this
  ·intro k1 e e2
   rcases a4 with e3|e3
   ·exact p4 k1 (by rw[<-e3];exact e) e2
   ·rw[e3] at e;simp only[World.size_alloc,Option.some.injEq] at e
    have:=p5 k1 (p2 k1 e2);omega
  ·intro k1 hk1
   rw[World.size_setCell]
   rcases hk1 with hf|e
   ·have:=p5 k1 hf;omega
   ·exact(O4'.lt k1 e).2
 have B5:=B4.out.set_ 2 (.slice A4 (W.length+1) c4)
 have v0:=B5.cell 0
 have v2:=B5.cell 2
 simp only[List.getElem?_toArray,List.getElem?_cons_succ,List.getElem?_cons_zero,List.setIfInBounds_toArray,List.set_cons_succ,List.set_cons_zero] at v0 v2
 clear B5 s0 s2 u2 NL1 NW1 q2 r2 g4 a4
 generalize w4.setCell ⟨g,2,none⟩ (.slice A4 (W.length+1) c4)=w5 at *
 clear B4 O4 L1 B1 X1 HF1 T1 HD EN O1
 have hok:okL (L++(W++[(a,n)])):=by
  rw[<-List.append_assoc]
  exact HO.out.append (fun m hm=>by simp only[List.mem_singleton] at hm;subst hm;exact⟨a0,a1,n0⟩)
 have HOK:=Lib.hid hok
 have HT:Hid (tot (L++(W++[(a,n)]))=tot (L++W)+n):=by show _=_;simp only[tot_append,tot];omega
 clear hok
 by_cases hd:d<=(W.length:Int)+1
 ·have EL:Hid (addL d L W (a,n)=prs d (L++(W++[(a,n)]))/\addW d W (a,n)=[]):=by unfold addL addW;rw[if_pos hd,if_pos hd];exact⟨rfl,rfl⟩
  obtain⟨F1,f1,f2,f3⟩:=KF.out
  have hlen4:L.length+(W++[(a,n)]).length<=100000000:=by simp only[List.length_append,List.length_singleton];omega
  have ht4:tot (L++(W++[(a,n)]))<=281474976710656:=by rw[HT.out];omega
  have PC:=Lib.hid (fun nq=>rpress_any g F1 d lo1 hi1 L (W++[(a,n)]) (w5.drewN nq) (f2.keep (below_drewN (Below.refl _ _) nq)) HOK.out hlen4 ht4 (by omega) d1)
  have T5:=Lib.hid f3
  have F5:=Lib.hid f1
  clear f1 f2 f3 hlen4 ht4 KF
  go_quiet (fail)
  go_wp2_with fail
  refine(PC.out _).mono ?_
  rintro e w6 ⟨rfl,F2,g1,g2,g3⟩
  have G1:=Lib.hid g1
  have G2:=Lib.hid g2
  have G3:=Lib.hid g3
  have hs5:=T5.out.size
  clear g1 g2 g3
  go_wp2_with fail
  refine bodyPost_ret (by simp[results,Tryz.results176,go_sem, *];try rfl) rfl ?_
  refine⟨rfl,F2,?_,?_,?_⟩
  ·intro k1 h1
   rcases G1.out k1 h1 with h2|h2
   ·exact F5.out k1 h2
   ·exact .inr (by rw[size_drewN] at h2;omega)
  ·rw[hS.out]
   unfold RDgS
   simp only
   rw[EL.out.1,EL.out.2]
   exact G2.out
  ·exact(T5.out.drewN _).trans G3.out (fun i hi=>F5.out i hi)
 ·have EL:Hid (addL d L W (a,n)=L/\addW d W (a,n)=W++[(a,n)]):=by unfold addL addW;rw[if_neg hd,if_neg hd];exact⟨rfl,rfl⟩
  obtain⟨F1,f1,f2,f3⟩:=KF.out
  have D5:=Lib.hid f2
  have T5:=Lib.hid f3
  have F5:=Lib.hid f1
  clear f1 f2 f3 KF
  go_quiet (fail)
  go_wp2_with fail
  refine bodyPost_ret (by simp[results,Tryz.results176,go_sem, *];try rfl) rfl ?_
  refine⟨rfl,F1,F5.out,?_,T5.out.drewN _⟩
  rw[hS.out]
  unfold RDgS
  simp only
  rw[EL.out.1,EL.out.2]
  exact D5.out.keep (below_drewN (Below.refl _ _) _)
open Go.RowKit Go.Lib
end Go.Proofs.YtkiebccnpheloaaGreat
