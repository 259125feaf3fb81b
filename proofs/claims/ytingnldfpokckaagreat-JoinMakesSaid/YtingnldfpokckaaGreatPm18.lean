/- Parts of a proof: what its theorem reaches, words cut short. No condition of its own. -/
import Derived.Test.YtingnldfpokckaaGreatPm17
set_option maxRecDepth 100000
set_option maxHeartbeats 16000000
set_option linter.unusedVariables false
set_option linter.unusedSimpArgs false
namespace Go.Proofs.YtingnldfpokckaaGreat.D
open Go.RowKit
def Asd{α:Type}(E:Lie α)(F:Ft)(w:World)(v:Value)(l:List α):Prop:=∀W:World,(∀k,k<w.heap.size->¬F k->W.heap[k]?=w.heap[k]?)->w.heap.size<=W.heap.size->RdE E W v l
section
variable {α : Type} {E : Lie α} {F : Ft} {w w' : World} {v : Value} {l : List α}
theorem asd_now(h:Asd E F w v l):RdE E w v l:=h w (fun _ _ _=>rfl) (Nat.le_refl _)
theorem asd_next(h:Asd E F w v l)(hb:Below w.heap.size w w'):Asd E F w' v l:=fun W h1 h2=>h W (fun k hk hF=>(h1 k (Nat.lt_of_lt_of_le hk hb.size) hF).trans (hb.block k hk)) (Nat.le_trans hb.size h2)
theorem asd_at(h:Asd E F w v l)(ht:Touch F w w'):RdE E w' v l:=h w' ht.block ht.size
theorem asd_own{base:Nat}(h:OwnE E base w v l)(hF:∀k,v.ownBlock=some k->¬F k):Asd E F w v l:=fun W h1 _=>(h.stay fun k e=>h1 k (h.lt k e).2 (hF k e)).rd
theorem rd_cut1{g off n c:Nat}{x:α}(h:RdE E w (.slice (some ⟨g,off,none⟩) n c) (x::l)):RdE E w (.slice (if c=1 then some ⟨g,off,none⟩ else some ⟨g,off+E.k,none⟩) l.length (c - 1)) l:=by
 obtain⟨A,c',e,h1,h2,hf⟩:=h.form
 injection e with e1 e2 e3
 subst e1;subst e3
 simp only[List.length_cons] at h1
 by_cases hc:c=1
 ·rw[if_pos hc]
  have:l=[]:=List.eq_nil_of_length_eq_zero (by omega)
  subst this
  exact RdE.of_form (by simp) (by omega) EForm.nil
 ·rw[if_neg hc]
  have:=hf.drop rfl 1
  rw[Nat.one_mul] at this
  exact RdE.of_form (by omega) (by omega) this
end
theorem asd_step{α:Type}{E:Lie α}{F:Ft}{w w':World}{v:Value}{l:List α}(h:Asd E F w v l)(ht:Touch F w w'):Asd E F w' v l:=fun W h1 h2=>h W (fun k hk hF=>(h1 k (Nat.lt_of_lt_of_le hk ht.size) hF).trans (ht.block k hk hF)) (Nat.le_trans ht.size h2)
theorem rd_head{w:World}{g off n c:Nat}{x m:Int}{l:List Pr}(h:RdE prE w (.slice (some ⟨g,off,none⟩) n c) ((x,m)::l)):w.cell? ⟨g,off,none⟩=some (.int .i64 x)/\w.cell? ⟨g,off+1,none⟩=some (.int .u64 m):=by
 obtain⟨A,c',e,h1,h2,hf⟩:=h.form
 injection e with e1 e2 e3
 subst e1
 obtain⟨ga,oa,e,hga,x0,x1⟩:=pr_at hf (j:=0) (by simp)
 injection e with e;injection e with e1 e2
 subst e1;subst e2
 simp only[Nat.zero_mul,Nat.add_zero,List.getElem_cons_zero] at x0 x1
 exact⟨x0,x1⟩
theorem asd_cut1{F:Ft}{w:World}{g off n c:Nat}{x:Pr}{l:List Pr}(h:Asd prE F w (.slice (some ⟨g,off,none⟩) n c) (x::l)):Asd prE F w (.slice (if c=1 then some ⟨g,off,none⟩ else some ⟨g,off+2,none⟩) l.length (c - 1)) l:=fun W h1 h2=>rd_cut1 (h W h1 h2)
theorem zip_key{B:Int}:∀(n:Nat) (a b:List Pr),a.length+b.length<=n->(∀p∈a,-B<=p.1/\p.1<=B)->(∀p∈b,-B<=p.1/\p.1<=B)->(zipP a b).length<=a.length+b.length/\∀p∈zipP a b,-B<=p.1/\p.1<=B
 | _,[],b,_,_,hb=>by rw[zip_nil_left];exact⟨by simp,hb⟩
 | _,p::a,[],_,ha,_=>by rw[zip_nil_right];exact⟨by simp,ha⟩
 | 0,p::a,q::b,hn,_,_=>by simp at hn
 | n+1,p::a,q::b,hn,ha,hb=>by
  simp only[List.length_cons] at hn
  have ha':=fun x hx=>ha x (List.mem_cons_of_mem p hx)
  have hb':=fun x hx=>hb x (List.mem_cons_of_mem q hx)
  have hp:=ha p (List.mem_cons_self ..)
  have hq:=hb q (List.mem_cons_self ..)
  rcases Int.lt_trichotomy p.1 q.1 with h|h|h
  ·rw[zip_lt a b h]
   obtain⟨h1,h2⟩:=zip_key n a (q::b) (by simp;omega) ha' hb
   refine⟨by simp only[List.length_cons] at *;omega,fun x hx=>?_⟩
   rcases List.mem_cons.1 hx with rfl|hx
   ·exact hp
   ·exact h2 x hx
  ·rw[zip_eq a b h]
   obtain⟨h1,h2⟩:=zip_key n a b (by omega) ha' hb'
   refine⟨by simp only[List.length_cons] at *;omega,fun x hx=>?_⟩
   rcases List.mem_cons.1 hx with rfl|hx
   ·exact hp
   ·exact h2 x hx
  ·rw[zip_gt a b h]
   obtain⟨h1,h2⟩:=zip_key n (p::a) b (by simp;omega) ha hb'
   refine⟨by simp only[List.length_cons] at *;omega,fun x hx=>?_⟩
   rcases List.mem_cons.1 hx with rfl|hx
   ·exact hq
   ·exact h2 x hx
theorem mrg_okP{a b:List Pr}(ha:OkP a)(hb:OkP b)(ht:tot a+tot b<=4611686018427387904)(hl:a.length+b.length<=100000):OkP (mrgP a b):=by
 have e:=zip_mrg ha.srt hb.srt ha.pos hb.pos
 have k:=zip_key (B:=1048576) _ a b (Nat.le_refl _) ha.key hb.key
 rw[e] at k
 exact⟨mrg_srt ha.srt,mrg_pos ha.pos hb.pos,k.2,by rw[tot_mrg];exact ht,by omega⟩
theorem stake_over{g h:Nat}{l m:List Pr}{F G:Ft}(w:World)(hs:SpAt g l F w)(ht:SpAt h m G w)(ok:OkP l)(om:OkP m)(ho:4611686018427387904<tot l+tot m) :
 Calls Tryz.prog 142 #[.pointer (some ⟨g,0,none⟩),.pointer (some ⟨h,0,none⟩)] w fun e w'=>e=.returned (.int .i64 6)/\∃n,w'=w.drewN n:=by
 obtain⟨v,hB,_⟩:=hs
 obtain⟨u,hC,_⟩:=ht
 have k1:=hB.cell 1
 have k2:=hC.cell 1
 simp only[List.getElem?_toArray,List.getElem?_cons_zero,List.getElem?_cons_succ] at k1 k2
 have t0:=tot_nonneg ok.pos
 have t1:=ok.tot
 have t2:=tot_nonneg om.pos
 have t3:=om.tot
 clear hB hC ok om
 generalize tot l=t at *
 generalize tot m=s at *
 have h6:4611686018427387904 - t<s:=by omega
 have hw6:IntKind.u64.wrap (4611686018427387904 - t)=4611686018427387904 - t:=by rw[u64w];omega
 go_enter Tryz.func142,Tryz.ntmps142
 go_wp2_with fail
 go_quiet (fail)
 go_wp2_with fail
 go_ret
 exact⟨rfl,_,rfl⟩
theorem stake_yes{g h:Nat}{l m:List Pr}{F G:Ft}(w:World)(hs:SpAt g l F w)(ht:SpAt h m G w)(ok:OkP l)(om:OkP m)(ho:tot l+tot m<=4611686018427387904)(hl:l.length+m.length<=100000) :
 Calls Tryz.prog 142 #[.pointer (some ⟨g,0,none⟩),.pointer (some ⟨h,0,none⟩)] w fun e w'=>e=.returned (.int .i64 0)/\SpAt g (mrgP l m) (Gr F w w') w'/\Touch F w w':=by
 have hs':=hs
 obtain⟨v,hB,hO,hFg,hFv,hFl⟩:=hs'
 obtain⟨u,hC,hP,_⟩:=ht
 have k1:=hB.cell 1
 have k2:=hC.cell 1
 have k0:=hB.cell 0
 have k3:=hC.cell 0
 simp only[List.getElem?_toArray,List.getElem?_cons_zero,List.getElem?_cons_succ] at k0 k1 k2 k3
 have t0:=tot_nonneg ok.pos
 have t2:=tot_nonneg om.pos
 have HZ:Hid (zipP l m=mrgP l m):=Lib.hid (zip_mrg ok.srt om.srt ok.pos om.pos)
 have HT:Hid (tot (mrgP l m)=tot l+tot m):=Lib.hid (tot_mrg m l)
 obtain⟨N,hN⟩:∃N:Ft,N=fun k=>k=g\/w.heap.size<=k:=⟨_,rfl⟩
 have AA:Hid (Asd prE N w v l):=Lib.hid (asd_own hO (fun k e h=>by
  rw[hN] at h
  rcases h with h|h
  ·exact own_ne hB hO (by decide) (by rw[e,h])
  ·have:=(hO.lt k e).2;omega))
 have AB:Hid (Asd prE N w u m):=Lib.hid (asd_own hP (fun k e h=>by
  rw[hN] at h
  rcases h with h|h
  ·exact own_ne hB hP (by decide) (by rw[e,h])
  ·have:=(hP.lt k e).2;omega))
 have HN:Hid (∀k,N k<->k=g\/w.heap.size<=k):=Lib.hid (fun k=>by rw[hN])
 have HPB:Hid (∀p,p∈l\/p∈m->0<=p.2/\p.2<=4611686018427387904):=Lib.hid (fun p hp=>by
  rcases hp with hp|hp
  ·have h1:=pos_le ok.pos p hp;have h2:=ok.pos p hp;have h3:=ok.tot;omega
  ·have h1:=pos_le om.pos p hp;have h2:=om.pos p hp;have h3:=om.tot;omega)
 have HB:=Lib.hid hB
 have HC:=Lib.hid hC
 have HFL:=Lib.hid hFl
 have hgl:=hB.lt
 have hhl:=hC.lt
 have hvf:∃A c,v=.slice A l.length c:=by obtain⟨A,c,e,_⟩:=hO.form;exact⟨A,c,e⟩
 have huf:∃A c,u=.slice A m.length c:=by obtain⟨A,c,e,_⟩:=hP.form;exact⟨A,c,e⟩
 obtain⟨A0,c0,rfl⟩:=hvf
 obtain⟨B0,d0,rfl⟩:=huf
 clear hB hC ok om hs hO hP hFl hFv hN
 generalize mrgP l m=r at *
 obtain⟨t,hte⟩:∃t,tot l=t:=⟨_,rfl⟩
 obtain⟨s,hse⟩:∃s,tot m=s:=⟨_,rfl⟩
 rw[hte] at k1 t0 ho HT HB
 rw[hse] at k2 t2 ho HT HC
 clear hte hse
 have h6:¬4611686018427387904 - t<s:=by omega
 have hw6:IntKind.u64.wrap (4611686018427387904 - t)=4611686018427387904 - t:=by rw[u64w];omega
 go_enter Tryz.func142,Tryz.ntmps142
 go_wp2_with fail
 go_quiet (fail)
 go_wp2_with fail
 go_quiet (fail)
 go_wp2_with fail
 clear hw6 h6
 go_loopg [5,6,7] (l.length+m.length) (fun q x y z wr=>∃(acc a b:List Pr),q=a.length+b.length/\acc.length+q<=100000/\Hid (OwnE prE w.heap.size wr x acc)/\Hid (Asd prE N wr y a)/\Hid (Asd prE N wr z b)/\Hid (acc++zipP a b=r)/\Hid (∀p,p∈a\/p∈b->0<=p.2/\p.2<=4611686018427387904)/\Below w.heap.size w wr)
 case atStart=>exact⟨[],l,m,rfl,by simp;omega,Lib.hid (OwnE.nil_ _ _),Lib.hid (asd_next AA.out (below_drewN (below_drewN (Below.refl _ _) _) _)),Lib.hid (asd_next AB.out (below_drewN (below_drewN (Below.refl _ _) _) _)),HZ,HPB,below_drewN (below_drewN (Below.refl _ _) _) _⟩
 case round=>
  obtain⟨acc,a,b,hq,hal,HU,HA,HBB,HS,HPS,hb⟩:=hrel
  have HQ:=Lib.hid hq
  rw[hq] at hal
  have hz:=hb.size
  clear hq
  obtain⟨A1,c1,rfl,ha1,ha2,fa⟩:=(asd_now HA.out).form
  obtain⟨B1,d1,rfl,hb1,hb2,fb⟩:=(asd_now HBB.out).form
  obtain⟨U1,e1,rfl,_,_,_⟩:=HU.out.form
  by_cases hab:0<a.length/\0<b.length
  ·obtain⟨ha0,hb0⟩:=hab
   obtain⟨p,a,rfl⟩:∃p a',a=p::a':=by cases a with|nil=>simp at ha0|cons p a=>exact⟨p,a,rfl⟩
   obtain⟨q,b,rfl⟩:∃p a',b=p::a':=by cases b with|nil=>simp at hb0|cons p a=>exact⟨p,a,rfl⟩
   obtain⟨ga,oa,rfl,hga,x0,x1⟩:=pr_at fa (j:=0) (by simp)
   obtain⟨gb,ob,rfl,hgb,y0,y1⟩:=pr_at fb (j:=0) (by simp)
   simp only[Nat.zero_mul,Nat.add_zero,List.getElem_cons_zero] at x0 x1 y0 y1
   simp only[List.length_cons] at *
   have hza:(0:Int)<((a.length+1:Nat):Int):=by omega
   have hzb:(0:Int)<((b.length+1:Nat):Int):=by omega
   clear fa fb
   obtain⟨px,pn⟩:=p
   obtain⟨qx,qn⟩:=q
   simp only at x0 x1 y0 y1
   have hz1a:(1:Int)<=(a.length:Int)+1:=by omega
   have hz1b:(1:Int)<=(b.length:Int)+1:=by omega
   rcases Int.lt_trichotomy px qx with hc|hc|hc
   ·have HZ2:=Lib.hid (zip_lt (p:=(px,pn)) (q:=(qx,qn)) a b hc)
    have hcd:¬qx<px:=by omega
    go_wp2_with fail
    go_quiet (fail)
    clear x0 x1 y0 y1
    go_upto_region 11 with fail
    obtain⟨w2,hw2⟩:∃x,wr.drewN nq=x:=⟨_,rfl⟩
    have B2:Below wr.heap.size wr w2:=by rw[<-hw2];exact below_drewN (Below.refl _ _) _
    have HA2:=Lib.hid (asd_next HA.out B2)
    have HB2:=Lib.hid (asd_next HBB.out B2)
    have OU:=Lib.hid (HU.out.keep B2)
    have hb2:=hb.trans (B2.mono hz)
    have hzw:=hb2.size
    rw[hw2]
    clear hw2 B2
    refine wp_region_plan (Touch (fun k=>w.heap.size<=k) w2) [(0,true),(1,true),(2,true),(3,true),(6,true),(7,true),(4,false),(5,false),(8,true),(9,true)] (by kernel_rfl) (by kernel_rfl) ((Touch.refl _ _).drew) ?_
    iterate 6
     refine wpPlan_read (by rfl) (by rfl) (fun R hR=>?_)
     apply Exists.intro
     refine⟨fun w' hS'=>?_,?_⟩
     ·obtain⟨k0,k1⟩:=rd_head (asd_at HA2.out (hS'.mono (fun k h=>(HN.out k).2 (.inr h))))
      obtain⟨k2,k3⟩:=rd_head (asd_at HB2.out (hS'.mono (fun k h=>(HN.out k).2 (.inr h))))
      go_simp
      exact⟨rfl,rfl⟩
     go_simp
     refine hR _ ?_
     clear hR R
    refine wpPlan_do (by rfl) (by rfl) (fun K hK=>?_)
    go_simp
    refine hK _ _ (((Touch.refl _ _).drew).alloc _) ?_
    clear hK K
    refine wpPlan_do (by rfl) (by rfl) (fun K hK=>?_)
    refine apW tyPr (.tmp 67) (.tmp 71) rfl ((OU.out.drew).alloc _) rfl _ [(px,pn)] rfl (RdE.one_at (E:=prE) _ (px,pn) _ rfl _ rfl _ (by simp)) (by simp;omega) (by go_size) ?_
    intro v7 w7 o7 g7 _
    have T7:Touch (fun k=>w.heap.size<=k) w2 w7:=(((Touch.refl _ _).drew).alloc _).grown g7 (fun k e=>.inl (OU.out.lt k e).1)
    have O7:=Lib.hid o7
    obtain⟨U7,e7,rfl,_,_,_⟩:=o7.form
    clear o7 g7
    go_simp
    refine hK _ _ (T7) ?_
    clear hK K
    iterate 2
     refine wpPlan_read (by rfl) (by rfl) (fun R hR=>?_)
     apply Exists.intro
     refine⟨fun w' hS'=>?_,?_⟩
     ·obtain⟨k0,k1⟩:=rd_head (asd_at HA2.out (hS'.mono (fun k h=>(HN.out k).2 (.inr h))))
      obtain⟨k2,k3⟩:=rd_head (asd_at HB2.out (hS'.mono (fun k h=>(HN.out k).2 (.inr h))))
      go_simp
      exact⟨rfl,rfl⟩
     go_simp
     refine hR _ ?_
     clear hR R
    refine wpPlan_nil ?_
    have hb7:Below w.heap.size w w7:=tnew hb2 T7 (fun _ h=>h)
    have T7':=T7.mono (G:=N) (fun k h=>(HN.out k).2 (.inr h))
    have el:(acc++[(px,pn)]).length=acc.length+1:=by simp
    rw[el] at O7
    have CA:=asd_cut1 (asd_step HA2.out T7')
    have CB:=asd_step HB2.out T7'
    generalize (if c1=1 then some (⟨ga,oa,none⟩:Addr) else some ⟨ga,oa+2,none⟩)=ba at CA |-
    have CA':=Lib.hid CA
    have CB':=Lib.hid CB
    clear CA CB el
    go_wp2_with fail
    go_roundg (a.length+(b.length+1))
    case measure=>have:=HQ.out;omega
    case rel=>exact⟨acc++[(px,pn)],a,(qx,qn)::b,rfl,by simp only[List.length_append,List.length_cons,List.length_nil];omega,O7,CA',CB',Lib.hid (by rw[<-HS.out,HZ2.out];simp),Lib.hid (fun p hp=>HPS.out p (hp.imp (fun h=>by exact List.mem_cons_of_mem _ h) (fun h=>by exact h))),hb7⟩
   ·subst hc
    have HZ2:=Lib.hid (zip_eq (p:=(px,pn)) (q:=(px,qn)) a b rfl)
    have hp1:=HPS.out (px,pn) (.inl (List.mem_cons_self ..))
    have hp2:=HPS.out (px,qn) (.inr (List.mem_cons_self ..))
    simp only at hp1 hp2
    have HWS:Hid (IntKind.u64.wrap (pn+qn)=pn+qn):=Lib.hid (by rw[u64w];omega)
    go_wp2_with fail
    go_quiet (fail)
    generalize nq=n1 at *
    go_wp2_with fail
    go_quiet (fail)
    clear x0 x1 y0 y1
    go_upto_region 8 with fail
    obtain⟨w2,hw2⟩:∃x,(wr.drewN n1).drewN nq=x:=⟨_,rfl⟩
    have B2:Below wr.heap.size wr w2:=by rw[<-hw2];exact below_drewN (below_drewN (Below.refl _ _) _) _
    have HA2:=Lib.hid (asd_next HA.out B2)
    have HB2:=Lib.hid (asd_next HBB.out B2)
    have OU:=Lib.hid (HU.out.keep B2)
    have hb2:=hb.trans (B2.mono hz)
    have hzw:=hb2.size
    rw[hw2]
    clear hw2 B2
    refine wp_region_plan (Touch (fun k=>w.heap.size<=k) w2) [(0,true),(1,true),(2,true),(3,true),(4,true),(5,true),(6,true),(7,true),(8,true),(9,true),(10,true),(11,true),(12,true),(13,true),(14,true),(15,false),(16,false),(17,true)] (by kernel_rfl) (by kernel_rfl) ((Touch.refl _ _).drew) ?_
    iterate 15
     refine wpPlan_read (by rfl) (by rfl) (fun R hR=>?_)
     apply Exists.intro
     refine⟨fun w' hS'=>?_,?_⟩
     ·obtain⟨k0,k1⟩:=rd_head (asd_at HA2.out (hS'.mono (fun k h=>(HN.out k).2 (.inr h))))
      obtain⟨k2,k3⟩:=rd_head (asd_at HB2.out (hS'.mono (fun k h=>(HN.out k).2 (.inr h))))
      have hws:=HWS.out
      go_simp
      exact⟨rfl,rfl⟩
     go_simp
     refine hR _ ?_
     clear hR R
    refine wpPlan_do (by rfl) (by rfl) (fun K hK=>?_)
    go_simp
    refine hK _ _ (((Touch.refl _ _).drew).alloc _) ?_
    clear hK K
    refine wpPlan_do (by rfl) (by rfl) (fun K hK=>?_)
    refine apW tyPr (.tmp 36) (.tmp 51) rfl ((OU.out.drew).alloc _) rfl _ [(px,pn+qn)] rfl (RdE.one_at (E:=prE) _ (px,pn+qn) _ rfl _ rfl _ (by simp)) (by simp;omega) (by go_size) ?_
    intro v7 w7 o7 g7 _
    have T7:Touch (fun k=>w.heap.size<=k) w2 w7:=(((Touch.refl _ _).drew).alloc _).grown g7 (fun k e=>.inl (OU.out.lt k e).1)
    have O7:=Lib.hid o7
    obtain⟨U7,e7,rfl,_,_,_⟩:=o7.form
    clear o7 g7
    go_simp
    refine hK _ _ (T7) ?_
    clear hK K
    iterate 1
     refine wpPlan_read (by rfl) (by rfl) (fun R hR=>?_)
     apply Exists.intro
     refine⟨fun w' hS'=>?_,?_⟩
     ·obtain⟨k0,k1⟩:=rd_head (asd_at HA2.out (hS'.mono (fun k h=>(HN.out k).2 (.inr h))))
      obtain⟨k2,k3⟩:=rd_head (asd_at HB2.out (hS'.mono (fun k h=>(HN.out k).2 (.inr h))))
      have hws:=HWS.out
      go_simp
      exact⟨rfl,rfl⟩
     go_simp
     refine hR _ ?_
     clear hR R
    refine wpPlan_nil ?_
    have hb7:Below w.heap.size w w7:=tnew hb2 T7 (fun _ h=>h)
    have T7':=T7.mono (G:=N) (fun k h=>(HN.out k).2 (.inr h))
    have el:(acc++[(px,pn+qn)]).length=acc.length+1:=by simp
    rw[el] at O7
    have CA:=asd_cut1 (asd_step HA2.out T7')
    have CB:=asd_cut1 (asd_step HB2.out T7')
    clear el
    rcases Decidable.em (c1=1) with e1|e1<;>rcases Decidable.em (d1=1) with e2|e2
    all_goals
     first|(subst e1;rw[if_pos rfl] at CA)|rw[if_neg e1] at CA
     first|(subst e2;rw[if_pos rfl] at CB)|rw[if_neg e2] at CB
     have CA':=Lib.hid CA
     have CB':=Lib.hid CB
     clear CA CB
     go_wp2_with fail
     go_quiet (fail)
     go_wp2_with fail
     go_roundg (a.length+b.length)
     case measure=>have:=HQ.out;omega
     case rel=>exact⟨acc++[(px,pn+qn)],a,b,rfl,by simp only[List.length_append,List.length_cons,List.length_nil];omega,O7.out.drewN _,by first|exact asd_next CA'.out (below_drewN (Below.refl _ _) _)|(have h:=CA'.out;rw[show a.length=0 by omega] at h;exact asd_next h (below_drewN (Below.refl _ _) _)),by first|exact asd_next CB'.out (below_drewN (Below.refl _ _) _)|(have h:=CB'.out;rw[show b.length=0 by omega] at h;exact asd_next h (below_drewN (Below.refl _ _) _)),Lib.hid (by rw[<-HS.out,HZ2.out];simp),Lib.hid (fun p hp=>HPS.out p (hp.imp (fun h=>by exact List.mem_cons_of_mem _ h) (fun h=>by exact List.mem_cons_of_mem _ h))),below_drewN hb7 _⟩
   ·have HZ2:=Lib.hid (zip_gt (p:=(px,pn)) (q:=(qx,qn)) a b hc)
    have hcd:¬px<qx:=by omega
    go_wp2_with fail
    go_quiet (fail)
    generalize nq=n1 at *
    go_wp2_with fail
    go_quiet (fail)
    clear x0 x1 y0 y1
    go_upto_region 13 with fail
    obtain⟨w2,hw2⟩:∃x,(wr.drewN n1).drewN nq=x:=⟨_,rfl⟩
    have B2:Below wr.heap.size wr w2:=by rw[<-hw2];exact below_drewN (below_drewN (Below.refl _ _) _) _
    have HA2:=Lib.hid (asd_next HA.out B2)
    have HB2:=Lib.hid (asd_next HBB.out B2)
    have OU:=Lib.hid (HU.out.keep B2)
    have hb2:=hb.trans (B2.mono hz)
    have hzw:=hb2.size
    rw[hw2]
    clear hw2 B2
    refine wp_region_plan (Touch (fun k=>w.heap.size<=k) w2) [(0,true),(1,true),(2,true),(3,true),(6,true),(7,true),(4,false),(5,false),(8,true),(9,true)] (by kernel_rfl) (by kernel_rfl) ((Touch.refl _ _).drew) ?_
    iterate 6
     refine wpPlan_read (by rfl) (by rfl) (fun R hR=>?_)
     apply Exists.intro
     refine⟨fun w' hS'=>?_,?_⟩
     ·obtain⟨k0,k1⟩:=rd_head (asd_at HA2.out (hS'.mono (fun k h=>(HN.out k).2 (.inr h))))
      obtain⟨k2,k3⟩:=rd_head (asd_at HB2.out (hS'.mono (fun k h=>(HN.out k).2 (.inr h))))
      go_simp
      exact⟨rfl,rfl⟩
     go_simp
     refine hR _ ?_
     clear hR R
    refine wpPlan_do (by rfl) (by rfl) (fun K hK=>?_)
    go_simp
    refine hK _ _ (((Touch.refl _ _).drew).alloc _) ?_
    clear hK K
    refine wpPlan_do (by rfl) (by rfl) (fun K hK=>?_)
    refine apW tyPr (.tmp 85) (.tmp 89) rfl ((OU.out.drew).alloc _) rfl _ [(qx,qn)] rfl (RdE.one_at (E:=prE) _ (qx,qn) _ rfl _ rfl _ (by simp)) (by simp;omega) (by go_size) ?_
    intro v7 w7 o7 g7 _
    have T7:Touch (fun k=>w.heap.size<=k) w2 w7:=(((Touch.refl _ _).drew).alloc _).grown g7 (fun k e=>.inl (OU.out.lt k e).1)
    have O7:=Lib.hid o7
    obtain⟨U7,e7,rfl,_,_,_⟩:=o7.form
    clear o7 g7
    go_simp
    refine hK _ _ (T7) ?_
    clear hK K
    iterate 2
     refine wpPlan_read (by rfl) (by rfl) (fun R hR=>?_)
     apply Exists.intro
     refine⟨fun w' hS'=>?_,?_⟩
     ·obtain⟨k0,k1⟩:=rd_head (asd_at HA2.out (hS'.mono (fun k h=>(HN.out k).2 (.inr h))))
      obtain⟨k2,k3⟩:=rd_head (asd_at HB2.out (hS'.mono (fun k h=>(HN.out k).2 (.inr h))))
      go_simp
      exact⟨rfl,rfl⟩
     go_simp
     refine hR _ ?_
     clear hR R
    refine wpPlan_nil ?_
    have hb7:Below w.heap.size w w7:=tnew hb2 T7 (fun _ h=>h)
    have T7':=T7.mono (G:=N) (fun k h=>(HN.out k).2 (.inr h))
    have el:(acc++[(qx,qn)]).length=acc.length+1:=by simp
    rw[el] at O7
    have CA:=asd_step HA2.out T7'
    have CB:=asd_cut1 (asd_step HB2.out T7')
    generalize (if d1=1 then some (⟨gb,ob,none⟩:Addr) else some ⟨gb,ob+2,none⟩)=bb at CB |-
    have CA':=Lib.hid CA
    have CB':=Lib.hid CB
    clear CA CB el
    go_wp2_with fail
    go_roundg ((a.length+1)+b.length)
    case measure=>have:=HQ.out;omega
    case rel=>exact⟨acc++[(qx,qn)],(px,pn)::a,b,rfl,by simp only[List.length_append,List.length_cons,List.length_nil];omega,O7,CA',CB',Lib.hid (by rw[<-HS.out,HZ2.out];simp),Lib.hid (fun p hp=>HPS.out p (hp.imp (fun h=>by exact h) (fun h=>by exact List.mem_cons_of_mem _ h))),hb7⟩
  ·have HE:Hid (acc++a++b=r/\(¬0<a.length\/¬0<b.length)):=Lib.hid (by
    refine⟨?_,by omega⟩
    rw[<-HS.out]
    by_cases ha:a=[]
    ·subst ha;rw[zip_nil_left];simp
    ·have hb':b=[]:=by
      cases b with
      | nil=>rfl
      | cons q b=>exact absurd ⟨List.length_pos_iff.2 ha,by simp⟩ hab
     subst hb';rw[zip_nil_right];simp)
   have k1r:=(hb.cell (p:=⟨g,1,none⟩) hgl).trans k1
   have k2r:=(hb.cell (p:=⟨h,1,none⟩) hhl).trans k2
   have K1:=Lib.hid k1r
   have K2:=Lib.hid k2r
   have K0:=Lib.hid ((hb.cell (p:=⟨g,0,none⟩) hgl).trans k0)
   have B1r:=Lib.hid (HB.out.keep hb)
   have hgr:g<wr.heap.size:=by omega
   have hhr:h<wr.heap.size:=by omega
   have f1:=B1r.out.frozen 1
   clear k0 k1 k2 k3 k1r k2r fa fb
   have hcs:¬0<a.length\/(0<a.length/\¬0<b.length):=by have:=HE.out.2;omega
   rcases hcs with hcs|⟨hcs,hcs'⟩
   all_goals
    go_upto_region 14 with fail
    refine wp_region_planS (Below wr.heap.size wr) 11 [(0,1),(1,1),(2,1),(3,1),(4,1),(5,1),(6,1),(7,1),(8,1),(9,2),(10,1),(11,0)] (by kernel_rfl) (by kernel_rfl) ((Below.refl _ _).drew) ?_
    iterate 9
     refine wpPlanS_read (by rfl) (by rfl) (fun R hR=>?_)
     apply Exists.intro
     refine⟨fun w' hS'=>?_,?_⟩
     ·have k1:=(hS'.cell (p:=⟨g,1,none⟩) hgr).trans K1.out
      have k2:=(hS'.cell (p:=⟨h,1,none⟩) hhr).trans K2.out
      go_simp
      exact⟨rfl,rfl⟩
     go_simp
     refine hR _ ?_
     clear hR R
    iterate 1
     refine wpPlanS_pure (by rfl) (by rfl) (fun R hR=>?_)
     apply Exists.intro
     refine⟨fun w'=>?_,?_⟩
     ·go_simp
      exact⟨rfl,rfl⟩
     go_simp
     refine hR _ ?_
     clear hR R
    iterate 1
     refine wpPlanS_read (by rfl) (by rfl) (fun R hR=>?_)
     apply Exists.intro
     refine⟨fun w' hS'=>?_,?_⟩
     ·have k1:=(hS'.cell (p:=⟨g,1,none⟩) hgr).trans K1.out
      have k2:=(hS'.cell (p:=⟨h,1,none⟩) hhr).trans K2.out
      go_simp
      exact⟨rfl,rfl⟩
     go_simp
     refine hR _ ?_
     clear hR R
    refine wpPlanS_end (by rfl) (by rfl) (by rfl) (fun K hK=>?_)
    have k1:wr.drew.cell? ⟨g,1,none⟩=_:=K1.out
    have k9:wr.drew.frozen? ⟨g,1,none⟩=_:=f1
    go_simp
    refine hK _ _ ?_
    clear hK K
    refine wpPlanS_nil ?_
    rw[show IntKind.u64.wrap (t+s)=t+s by rw[u64w];omega]
    have T5:Touch N wr ((wr.setCell ⟨g,1,none⟩ (.int .u64 (t+s))).drew):=((Touch.refl _ _).setCell (p:=⟨g,1,none⟩) (.inl ((HN.out g).2 (.inl rfl))) _).drew
    have b5:=(B1r.out.set_ 1 (.int .u64 (t+s))).drew
    have o5:=(HU.out.far (p:=⟨g,1,none⟩) (fun e=>by have:=(HU.out.lt g e).1;omega) (.int .u64 (t+s))).drew
    have hz5:w.heap.size<=((wr.setCell ⟨g,1,none⟩ (.int .u64 (t+s))).drew).heap.size:=Nat.le_trans hz T5.size
    have T5w:=Lib.hid ((Touch.of_below (F:=fun k=>k=g\/w.heap.size<=k) hb (Nat.le_refl _)).trans T5 (fun k h=>.inl ((HN.out k).1 h)))
    generalize (wr.setCell ⟨g,1,none⟩ (.int .u64 (t+s))).drew=w5 at *
    have R5:=Lib.hid (asd_at HA.out T5)
    have B5:=Lib.hid b5
    have O5:=Lib.hid o5
    have TT5:=Lib.hid T5
    clear b5 o5 T5
    have hl2:(acc++a).length+b.length<=1099511627776:=by rw[List.length_append];omega
    go_wp2_with (first
     | (at_builtin
        refine apL tyPr rfl (.tmp 105) (.tmp 106) rfl O5.out rfl _ a rfl R5.out (by omega) hz5 ?_
        intro v6 w6 o6 g6 _
        have T6:=Lib.hid (TT5.out.trans ((Touch.refl N w5).grown g6 (fun k e=>.inl ((HN.out k).2 (.inr (O5.out.lt k e).1)))) (fun _ h=>.inl h))
        have B6:=Lib.hid (blk_grown B5.out O5.out (by decide) g6)
        have T6w:=Lib.hid (T5w.out.grown g6 (fun k e=>.inl (.inr (O5.out.lt k e).1)))
        have O6:=Lib.hid o6
        have R6:=Lib.hid (asd_at HBB.out T6.out)
        have hz6:w.heap.size<=w6.heap.size:=T6w.out.size
        clear o6 g6)
     | (at_builtin
        refine apL tyPr rfl (.tmp 107) (.tmp 108) rfl O6.out rfl _ b rfl R6.out hl2 hz6 ?_
        intro v7 w7 o7 g7 _
        have B7:=Lib.hid (blk_grown B6.out O6.out (by decide) g7)
        have T7:=Lib.hid (T6w.out.grown g7 (fun k e=>.inl (.inr (O6.out.lt k e).1)))
        rw[HE.out.1] at o7
        have O7:=Lib.hid o7
        have k7:=B7.out.cell 0
        have f7:=B7.out.frozen 0
        simp only[List.setIfInBounds_toArray,List.set_cons_succ,List.set_cons_zero,List.getElem?_toArray,List.getElem?_cons_zero] at k7
        obtain⟨A7,e7,hv7,_,_,_⟩:=o7.form
        generalize r.length=n7 at hv7
        subst hv7
        clear o7 g7))
    go_ret
    have b8:=B7.out.set_ 0 (.slice A7 n7 e7)
    have o8:=O7.out.far (p:=⟨g,0,none⟩) (own_ne B7.out O7.out (by decide)) (.slice A7 n7 e7)
    have t8:Touch F w (w7.setCell ⟨g,0,none⟩ (.slice A7 n7 e7)):=have t:=T7.out.setCell (p:=⟨g,0,none⟩) (.inl (.inl rfl)) (.slice A7 n7 e7);⟨t.os,t.tape,t.output,t.size,fun k hk hF=>t.block k hk (fun h=>h.elim (fun e=>hF (e▸hFg)) (fun h=>by omega))⟩
    refine⟨rfl,⟨.slice A7 n7 e7,?_,o8.more (Nat.zero_le _),.inl hFg,fun q e=>.inr ⟨(O7.out.lt q e).1,?_⟩,gr_lt HFL.out t8.size⟩,t8⟩
    ·rw[HT.out];exact b8
    ·have:=(O7.out.lt q e).2;simpa using this
open Go.RowKit
def CoAt(c m:Nat)(l:List Pr)(f:Int)(F:Ft)(w:World):Prop:=∃g G,Blk w c 217 #[.int .i64 m,.pointer (some ⟨g,0,none⟩),.int .u64 f]/\SpAt g l G w/\F c/\¬G c/\(∀k,G k->F k)/\∀k,F k->k<w.heap.size
theorem co_stay(c m:Nat)(l:List Pr)(f:Int):Stay (CoAt c m l f) where
 stay:=fun⟨g,G,h1,h2,h3,h4,h5,h6⟩ hk hz=>⟨g,G,(hk c h3).trans h1,(sp_stay g l).stay h2 (fun k e=>hk k (h5 k e)) hz,h3,h4,h5,fun k h=>Nat.lt_of_lt_of_le (h6 k h) hz⟩
 more:=fun⟨g,G,h1,h2,h3,h4,h5,_⟩ h hl=>⟨g,G,h1,h2,h c h3,h4,fun k e=>h k (h5 k e),hl⟩
 low:=fun⟨_,_,_,_,_,_,_,h6⟩=>h6
def CoR(w:World)(c m:Nat)(l:List Pr)(f:Int):Prop:=∃g G,Blk w c 217 #[.int .i64 m,.pointer (some ⟨g,0,none⟩),.int .u64 f]/\SpAt g l G w
theorem CoAt.r{c m:Nat}{l:List Pr}{f:Int}{F:Ft}{w:World}(h:CoAt c m l f F w):CoR w c m l f:=by
 obtain⟨g,G,h1,h2,_⟩:=h;exact⟨g,G,h1,h2⟩
theorem CoR.keep{c m:Nat}{l:List Pr}{f:Int}{w w':World}(h:CoR w c m l f)(hb:Below w.heap.size w w'):CoR w' c m l f:=by
 obtain⟨g,G,h1,h2⟩:=h;exact⟨g,G,h1.keep hb,(sp_stay g l).keep h2 hb⟩
theorem co_new(m:Nat)(w:World)(h0:2<=m)(h1:m<=4096) :
 Calls Tryz.prog 219 #[.int .i64 m] w fun e w'=>∃c,e=.returned (.tuple #[.pointer (some ⟨c,0,none⟩),.int .i64 0])/\CoAt c m [] 0 (Gr (fun _=>False) w w') w'/\Below w.heap.size w w':=by
 go_enter Tryz.func219,Tryz.ntmps219
 go_wp2_with fail
 go_ret2
 have b1:=Blk.new w 338 #[.slice none 0 0,.int .u64 0]
 have b2:=Blk.new (w.alloc (.cells #[.slice none 0 0,.int .u64 0] 338)) 217 #[.int .i64 m,.pointer (some ⟨w.heap.size,0,none⟩),.int .u64 0]
 rw[World.size_alloc] at b2
 exact⟨_,rfl,⟨w.heap.size,fun k=>k=w.heap.size,b2,⟨.slice none 0 0,b1.alloc _,OwnE.nil_ _ _,rfl,(fun k e=>by cases e),(fun k e=>by subst e;simp;omega)⟩,.inr ⟨by omega,by simp⟩,by omega,(fun k e=>.inr ⟨by omega,by subst e;simp;omega⟩),fun k h=>h.elim False.elim And.right⟩,by(repeat' (first|(with_reducible exact Below.refl _ _)|(with_reducible refine Below.alloc ?_ ?_ _)|(with_reducible refine Below.drew ?_)|(with_reducible refine below_drewN ?_ _)|(with_reducible refine Below.setCell ?_ ?_ _)|(with_reducible refine below_of (by assumption) ?_ ?_)|go_size))⟩
theorem co_no(m:Int)(w:World)(h:m<2\/4096<m) :
 Calls Tryz.prog 219 #[.int .i64 m] w fun e w'=>e=.returned (.tuple #[.pointer none,.int .i64 1])/\w=w':=by
 by_cases h1:m<2
 all_goals
  try (have h2:4096<m:=by omega)
  go_enter Tryz.func219,Tryz.ntmps219
  go_wp2_with fail
  go_ret2
  exact⟨rfl,rfl⟩
theorem first_any{c m:Nat}{l:List Pr}{f:Int}(w:World)(h:CoR w c m l f)(hl:l.length<=100000) :
 Calls Tryz.prog 234 #[.pointer (some ⟨c,0,none⟩)] w fun e w'=>e=.returned (.tuple #[.int .i64 (key0 l),.bool (decide (0<l.length))])/\Below w.heap.size w w':=by
 obtain⟨g,G,hB,hS⟩:=h
 have C:=Lib.hid (pairs_any w hS hl)
 have k1:=hB.cell 1
 simp only[List.getElem?_toArray,List.getElem?_cons_zero,List.getElem?_cons_succ] at k1
 clear hB hS
 cases l with
 | nil=>
  have e0:key0 []=0:=rfl
  have d0:decide (0<([]:List Pr).length)=false:=rfl
  rw[e0,d0]
  go_enter Tryz.func234,Tryz.ntmps234
  go_wp2_with fail
  refine(C.out).mono ?_
  rintro e w1 ⟨v,rfl,o1,hb1⟩
  obtain⟨A,c1,rfl,_,_,_⟩:=o1.form
  clear o1
  go_wp2_with fail
  go_ret2
  exact⟨rfl,hb1⟩
 | cons p l=>
  have e0:key0 (p::l)=p.1:=rfl
  have d0:decide (0<(p::l).length)=true:=by simp
  rw[e0,d0]
  clear e0 d0
  go_enter Tryz.func234,Tryz.ntmps234
  go_wp2_with fail
  refine(C.out).mono ?_
  rintro e w1 ⟨v,rfl,o1,hb1⟩
  obtain⟨g1,c1,rfl,_,_,_,_⟩:=o1.pos (by simp)
  have c0:w1.cell? ⟨g1,0,none⟩=some (.int .i64 p.1):=(own_at o1 (j:=0) (by simp)).1
  clear o1
  have hz:(0:Int)<((l.length:Nat):Int)+1:=by omega
  have hz2:((((l.length:Nat):Int)+1) == 0)=false:=by simp;omega
  simp only[List.length_cons]
  go_wp2_with fail
  go_ret2
  exact⟨rfl,hb1⟩
end Go.Proofs.YtingnldfpokckaaGreat.D
