/- Parts of a proof: what its theorem reaches, words cut short. No condition of its own. -/
import Derived.Test.YtkiebccnpheloaaGreatPv48
set_option maxRecDepth 100000
set_option maxHeartbeats 16000000
set_option linter.unusedVariables false
set_option linter.unusedSimpArgs false
namespace Go.Proofs.YtkiebccnpheloaaGreat.D
open Go.RowKit Go.Lib Go.Shelf
structure RCyAt(sp:Spk)(now:Nat)(C:List Js)(w:World)(z i:Nat)(v:Value)(ps:List Nat)(Ow:Nat->Ft)(G:Ft)(wr:World):Prop where
 blk:Blk wr z 102 (sp.cs++[v,.int .u64 now]).toArray
 ring:RingAt 41 (RjP sp) (C.take i) v ps Ow G wr
 new:∀k,G k->w.heap.size<=k/\k≠z
 below:Below w.heap.size w wr
theorem RCyAt.start{sp:Spk}{now z:Nat}{C:List Js}{w wr:World}(hb:Blk wr z 102 (sp.cs++[Value.slice none 0 0,Value.int .u64 now]).toArray)(h:Below w.heap.size w wr):RCyAt sp now C w z 0 (.slice none 0 0) [] (fun _ _=>False) (fun _=>False) wr:=
 ⟨hb,⟨OwnE.nil_ _ _,rfl,fun i hi=>absurd hi (by simp),fun _ _ _ h=>h.elim,fun k e=>by simp[Value.ownBlock] at e,fun _ _ h=>h.elim,fun _ h=>h.elim⟩,fun _ h=>h.elim,h⟩
theorem RCyAt.next{sp:Spk}{now z i y:Nat}{C:List Js}{w wr w1 w2 w3:World}{v v':Value}{ps:List Nat}{Ow:Nat->Ft}{G:Ft}(h:RCyAt sp now C w z i v ps Ow G wr)(hi:i<C.length)(hz:w.heap.size<=z)(hy:RJsAt sp C[i] y (Gr (fun _=>False) wr w1) w1)(hb:Below wr.heap.size wr w1)(hb2:Below w1.heap.size w1 w2)
 (ho:OwnE (ptE 41) 0 w3 v' (ps++[y])) (hg:w2.grownBy w3 v.ownBlock) (hn:v'.ownBlock=v.ownBlock\/v'.ownBlock=some w2.heap.size) :
 RCyAt sp now C w z (i+1) v' (ps++[y]) (updF Ow (C.take i).length (Gr (fun _=>False) wr w1)) (fun k=>G k\/Gr (fun _=>False) wr w1 k\/v'.ownBlock=some k) (w3.setCell ⟨z,7,none⟩ v'):=by
 have hb12:Below wr.heap.size wr w2:=hb.trans (hb2.mono hb.size)
 have hzl:=h.blk.lt
 have hs12:=hb12.size
 have hs:=h.below.size
 have r2:=h.ring.keep (rjP_stay sp) hb12
 have y2:=(rjs_stay sp _ y).keep hy hb2
 have new:∀k,Gr (fun _=>False) wr w1 k->wr.heap.size<=k/\k<w1.heap.size:=fun k hk=>hk.elim False.elim id
 have hf:∀k,Gr (fun _=>False) wr w1 k->¬G k:=fun k hk hG=>by have:=new k hk;have:=h.ring.low k hG;omega
 have hz2:v.ownBlock≠some z:=fun e=>(h.new z (h.ring.rowF z e).1).2 rfl
 have hvz:v'.ownBlock≠some z:=fun e=>by
  rcases own_in hn z e with e|e
  ·exact hz2 e
  ·omega
 have hpush:=r2.push (rjP_stay sp) y2 hf ho hg hn
 have hfar:∀k,(G k\/Gr (fun _=>False) wr w1 k\/v'.ownBlock=some k)->k≠z:=fun k hk=>by
  rcases hk with hk|hk|hk
  ·exact(h.new k hk).2
  ·have:=new k hk;omega
  ·intro e;rw[e] at hk;exact hvz hk
 have ht:Touch (fun k=>k=z) w3 (w3.setCell ⟨z,7,none⟩ v'):=Touch.setCell (F:=fun k=>k=z) (Touch.refl _ w3) (p:=⟨z,7,none⟩) (.inl rfl) _
 refine⟨?_,?_,fun k hk=>⟨?_,hfar k hk⟩,?_⟩
 ·have hb3:Blk w3 z 102 (sp.cs++[v,.int .u64 now]).toArray:=(hg.block z (by omega) (fun e=>hz2 e.symm)).trans (h.blk.keep hb12)
  have:=hb3.set_ 7 v'
  revert this
  cases sp<;>exact id
 ·have:=hpush.far (rjP_stay sp) ht (fun k hk e=>hfar k hk e)
  rw[List.take_succ_eq_append_getElem hi]
  exact this
 ·rcases hk with hk|hk|hk
  ·exact(h.new k hk).1
  ·have:=new k hk;omega
  ·rcases own_in hn k hk with e|e
   ·exact(h.new k (h.ring.rowF k e).1).1
   ·omega
 ·refine Below.setCell (p:=⟨z,7,none⟩) ?_ hz _
  refine Below.grown (h.below.trans (hb12.mono hs)) hg (by omega) (fun k e=>(h.new k (h.ring.rowF k e).1).1)
theorem RCyAt.done{sp:Spk}{z:Nat}{w wr:World}{v:Value}{ps:List Nat}{Ow:Nat->Ft}{G:Ft}{s:Wn}(h:RCyAt sp s.now s.L w z s.L.length v ps Ow G wr)(hz:w.heap.size<=z)(h0:0<s.L.length)(h60:s.L.length<=60):RWinAt sp s z (Gr (fun _=>False) w wr) wr:=by
 have hr:=h.ring
 rw[List.take_of_length_le (Nat.le_refl _)] at hr
 exact⟨v,ps,Ow,G,⟨h.blk,hr,h0,h60,fun e=>(h.new z e).2 rfl⟩,.inr ⟨hz,h.blk.lt⟩,fun k hk=>.inr ⟨(h.new k hk).1,hr.low k hk⟩,fun k hk=>hk.elim False.elim And.right⟩
theorem rwin_new_c{sp:Spk}{kd lo hi dg ac sz:Int}{gr:Bool}(hv:sp.v=specV kd lo hi dg gr ac sz)(hcs:sp.cs=[.int .u8 kd,.int .i64 lo,.int .i64 hi,.int .i64 dg,.bool gr,.int .i64 ac,.int .i64 sz])(ok:SpOk sp)(n:Nat)(w:World)(h0:1<=n)(h60:n<=60) :
 Calls Tryz.prog 42 #[specV kd lo hi dg gr ac sz,.int .i64 n] w fun e w'=>∃x,e=.returned (.pointer (some ⟨x,0,none⟩))/\RWinAt sp (wnew sp n) x (Gr (fun _=>False) w w') w'/\Below w.heap.size w w':=by
 have CM:Hid (∀w1:World,Calls Tryz.prog 24 #[.agg #[.int .u8 kd,.int .i64 lo,.int .i64 hi,.int .i64 dg,.bool gr,.int .i64 ac,.int .i64 sz]] w1 _):=Lib.hid (fun w1=>by rw[show Value.agg #[.int .u8 kd,.int .i64 lo,.int .i64 hi,.int .i64 dg,.bool gr,.int .i64 ac,.int .i64 sz]=sp.v from hv.symm];exact rjs_make w1 ok)
 have CR:Hid (∀w1:World,Calls Tryz.prog 20 #[.agg #[.int .u8 kd,.int .i64 lo,.int .i64 hi,.int .i64 dg,.bool gr,.int .i64 ac,.int .i64 sz]] w1 _):=Lib.hid (fun w1=>by rw[show Value.agg #[.int .u8 kd,.int .i64 lo,.int .i64 hi,.int .i64 dg,.bool gr,.int .i64 ac,.int .i64 sz]=sp.v from hv.symm];exact rright_yes w1 ok)
 have HCS:=Lib.hid hcs
 clear hv hcs ok
 unfold specV
 obtain⟨b,hbb⟩:∃b,w.heap.size=b:=⟨_,rfl⟩
 obtain⟨wa,hwa⟩:∃z,w.alloc (.cells #[.int .u8 kd,.int .i64 lo,.int .i64 hi,.int .i64 dg,.bool gr,.int .i64 ac,.int .i64 sz] 34)=z:=⟨_,rfl⟩
 have ha:Below w.heap.size w wa:=by rw[<-hwa];(repeat' (first|(with_reducible exact Below.refl _ _)|(with_reducible refine Below.alloc ?_ ?_ _)|(with_reducible refine Below.drew ?_)|(with_reducible refine below_drewN ?_ _)|(with_reducible refine Below.setCell ?_ ?_ _)|(with_reducible refine below_of (by assumption) ?_ ?_)|go_size))
 have B0:Hid (Blk wa b 34 #[.int .u8 kd,.int .i64 lo,.int .i64 hi,.int .i64 dg,.bool gr,.int .i64 ac,.int .i64 sz]):=by rw[<-hwa,<-hbb];exact Lib.hid (Blk.new _ _ _)
 have hn1:¬(n:Int)<1:=by omega
 have hn2:¬(n:Int) > 60:=by omega
 go_enter Tryz.func42,Tryz.ntmps42
 go_upto_region 1 with fail
 try rw[hwa]
 clear hwa hbb
 have s0:=B0.out.cell 0
 have s1:=B0.out.cell 1
 have s2:=B0.out.cell 2
 have s3:=B0.out.cell 3
 have s4:=B0.out.cell 4
 have s5:=B0.out.cell 5
 have s6:=B0.out.cell 6
 simp only[List.getElem?_toArray,List.getElem?_cons_zero,List.getElem?_cons_succ] at s0 s1 s2 s3 s4 s5 s6
 go_wp2_with fail
 refine(CR.out wa).mono ?_
 rintro e w1 ⟨rfl,hb1⟩
 have H1:=Lib.hid (ha.trans (hb1.mono ha.size))
 have B1:=Lib.hid (B0.out.keep hb1)
 clear s0 s1 s2 s3 s4 s5 s6 hb1
 have lb:b<w1.heap.size:=B1.out.lt
 have s0:=B1.out.cell 0
 have s1:=B1.out.cell 1
 have s2:=B1.out.cell 2
 have s3:=B1.out.cell 3
 have s4:=B1.out.cell 4
 have s5:=B1.out.cell 5
 have s6:=B1.out.cell 6
 simp only[List.getElem?_toArray,List.getElem?_cons_zero,List.getElem?_cons_succ] at s0 s1 s2 s3 s4 s5 s6
 have SS:=Lib.hid (And.intro s0 (And.intro s1 (And.intro s2 (And.intro s3 (And.intro s4 (And.intro s5 s6))))))
 obtain⟨x,hxx⟩:∃x,w1.heap.size=x:=⟨_,rfl⟩
 obtain⟨wc,hwc⟩:∃z,w1.alloc (.cells #[.int .u8 kd,.int .i64 lo,.int .i64 hi,.int .i64 dg,.bool gr,.int .i64 ac,.int .i64 sz,.slice none 0 0,.int .u64 0] 102)=z:=⟨_,rfl⟩
 have HY0:Hid (RCyAt sp 0 (List.replicate n sp.new) w1 x 0 (.slice none 0 0) [] (fun _ _=>False) (fun _=>False) wc):=by
  refine Lib.hid (RCyAt.start ?_ (by rw[<-hwc];(repeat' (first|(with_reducible exact Below.refl _ _)|(with_reducible refine Below.alloc ?_ ?_ _)|(with_reducible refine Below.drew ?_)|(with_reducible refine below_drewN ?_ _)|(with_reducible refine Below.setCell ?_ ?_ _)|(with_reducible refine below_of (by assumption) ?_ ?_)|go_size))))
  rw[HCS.out,<-hwc,<-hxx]
  exact Blk.new _ _ _
 have HXX:=Lib.hid hxx
 go_upto_region 4 with fail
 try rw[hwc]
 try rw[hxx]
 clear hwc hxx s0 s1 s2 s3 s4 s5 s6
 go_wp2_with fail
 go_loopg [6] n (fun q t6 wr=>∃(i:Nat) (v1:Value) (ps1:List Nat) (Ow1:Nat->Ft) (G1:Ft),q=n - i/\i<=n/\t6=.int .i64 i/\Hid (RCyAt sp 0 (List.replicate n sp.new) w1 x i v1 ps1 Ow1 G1 wr))
 case atStart=>exact⟨0,_,_,_,_,rfl,by omega,rfl,HY0⟩
 case round=>
  obtain⟨i,v1,ps1,Ow1,G1,hq,hile,rfl,HY⟩:=hrel
  have HQ:=Lib.hid hq
  clear hq
  have hxz:w1.heap.size<=x:=by rw[HXX.out];exact Nat.le_refl _
  by_cases hlt:i<n
  ·have hji:(i:Int)<(n:Int):=by omega
   have hiC:i<(List.replicate n sp.new).length:=by rw[List.length_replicate];exact hlt
   have lbr:b<wr.heap.size:=by have:=HY.out.below.size;omega
   have z7:Hid (wr.cell? ⟨x,7,none⟩=some v1):=Lib.hid (by have:=HY.out.blk.cell 7;rw[HCS.out] at this;exact this)
   have y7:Hid (wr.frozen? ⟨x,7,none⟩=false):=Lib.hid (HY.out.blk.frozen 7)
   have lz:x<wr.heap.size:=HY.out.blk.lt
   have nz:¬(v1.ownBlock=some x):=fun e=>(HY.out.new x (HY.out.ring.rowF x e).1).2 rfl
   have nb:¬(v1.ownBlock=some b):=fun e=>by have:=(HY.out.new b (HY.out.ring.rowF b e).1).1;omega
   have hrl:ps1.length=i:=by rw[HY.out.ring.len,List.length_take,List.length_replicate];omega
   have hvl:∀k,v1.ownBlock=some k->k<wr.heap.size:=fun k e=>HY.out.ring.low k (HY.out.ring.rowF k e).1
   have hbel:=HY.out.below
   have q0:=(hbel.cell (p:=⟨b,0,none⟩) lb).trans SS.out.1
   have q1:=(hbel.cell (p:=⟨b,1,none⟩) lb).trans SS.out.2.1
   have q2:=(hbel.cell (p:=⟨b,2,none⟩) lb).trans SS.out.2.2.1
   have q3:=(hbel.cell (p:=⟨b,3,none⟩) lb).trans SS.out.2.2.2.1
   have q4:=(hbel.cell (p:=⟨b,4,none⟩) lb).trans SS.out.2.2.2.2.1
   have q5:=(hbel.cell (p:=⟨b,5,none⟩) lb).trans SS.out.2.2.2.2.2.1
   have q6:=(hbel.cell (p:=⟨b,6,none⟩) lb).trans SS.out.2.2.2.2.2.2
   have SR:=Lib.hid (And.intro q0 (And.intro q1 (And.intro q2 (And.intro q3 (And.intro q4 (And.intro q5 q6))))))
   clear hbel q0 q1 q2 q3 q4 q5 q6
   go_upto_region 7 with fail
   refine wp_region_planS (Touch (fun k=>v1.ownBlock=some k) wr) 11 [(0,1),(1,1),(2,1),(3,1),(4,1),(5,1),(6,0),(7,0),(8,0),(9,2),(10,1),(11,0)] (by kernel_rfl) (by kernel_rfl) ((Touch.refl _ _).drew) ?_
   iterate 6
    refine wpPlanS_read (by rfl) (by rfl) (fun R hR=>?_)
    apply Exists.intro
    refine⟨fun w' hS'=>?_,?_⟩
    ·have z7':=(tcell hS' 7 lz nz).trans z7.out
     have q0:=(tcell hS' 0 lbr nb).trans SR.out.1
     have q1:=(tcell hS' 1 lbr nb).trans SR.out.2.1
     have q2:=(tcell hS' 2 lbr nb).trans SR.out.2.2.1
     have q3:=(tcell hS' 3 lbr nb).trans SR.out.2.2.2.1
     have q4:=(tcell hS' 4 lbr nb).trans SR.out.2.2.2.2.1
     have q5:=(tcell hS' 5 lbr nb).trans SR.out.2.2.2.2.2.1
     have q6:=(tcell hS' 6 lbr nb).trans SR.out.2.2.2.2.2.2
     go_simp
     exact⟨rfl,rfl⟩
    go_simp
    refine hR _ ?_
    clear hR R
   refine wpPlanS_do (by rfl) (by rfl) (by rfl) (fun K hK=>?_)
   go_simp
   refine(CM.out wr.drew).mono ?_
   rintro e w2 ⟨y1,rfl,hj1,hb2⟩
   have B1:Below wr.heap.size wr w2:=(Below.refl _ _).drew.trans hb2
   have T1:Touch (fun k=>v1.ownBlock=some k) wr w2:=Touch.of_below B1 (Nat.le_refl _)
   refine hK _ _ (T1) ?_
   clear hK K
   refine wpPlanS_do (by rfl) (by rfl) (by rfl) (fun K hK=>?_)
   have T2:=T1.alloc (.cells #[.pointer (some ⟨y1,0,none⟩)] 41)
   have B2:Below wr.heap.size wr _:=B1.alloc B1.size (.cells #[.pointer (some ⟨y1,0,none⟩)] 41)
   go_simp
   refine hK _ _ (T2) ?_
   clear hK K
   refine wpPlanS_do (by rfl) (by rfl) (by rfl) (fun K hK=>?_)
   refine apW tyPr27 (.tmp 30) (.tmp 33) rfl (OwnE.keep HY.out.ring.row B2) rfl _ [y1] rfl (RdE.one_at (E:=ptE 41) w2 y1 _ rfl _ rfl _ rfl) (by simp;omega) (Nat.zero_le _) ?_
   intro v8 w8 o8 g8 a8
   have T8:Touch (fun k=>v1.ownBlock=some k) wr w8:=T2.grown g8 (fun k e=>.inl e)
   have NX:=Lib.hid (HY.out.next hiC hxz (by rw[List.getElem_replicate];exact hj1) B1 ((Below.refl _ w2).alloc (Nat.le_refl _) _) o8 g8 a8)
   obtain⟨A8,c8,rfl,_,_,_⟩:=o8.form
   clear o8 g8 a8
   go_simp
   refine hK _ _ (T8) ?_
   clear hK K
   iterate 1
    refine wpPlanS_pure (by rfl) (by rfl) (fun R hR=>?_)
    apply Exists.intro
    refine⟨fun w'=>?_,?_⟩
    ·go_simp
     exact⟨rfl,rfl⟩
    go_simp
    refine hR _ ?_
    clear hR R
   iterate 1
    refine wpPlanS_read (by rfl) (by rfl) (fun R hR=>?_)
    apply Exists.intro
    refine⟨fun w' hS'=>?_,?_⟩
    ·have z7':=(tcell hS' 7 lz nz).trans z7.out
     have q0:=(tcell hS' 0 lbr nb).trans SR.out.1
     have q1:=(tcell hS' 1 lbr nb).trans SR.out.2.1
     have q2:=(tcell hS' 2 lbr nb).trans SR.out.2.2.1
     have q3:=(tcell hS' 3 lbr nb).trans SR.out.2.2.2.1
     have q4:=(tcell hS' 4 lbr nb).trans SR.out.2.2.2.2.1
     have q5:=(tcell hS' 5 lbr nb).trans SR.out.2.2.2.2.2.1
     have q6:=(tcell hS' 6 lbr nb).trans SR.out.2.2.2.2.2.2
     go_simp
     exact⟨rfl,rfl⟩
    go_simp
    refine hR _ ?_
    clear hR R
   refine wpPlanS_end (by rfl) (by rfl) (by rfl) (fun K hK=>?_)
   have z7':=(tcell T8 7 lz nz).trans z7.out
   have y7':=(tfroz T8 7 lz nz).trans y7.out
   go_simp
   refine hK _ _ ?_
   clear hK K
   refine wpPlanS_nil ?_
   have hN1:=NX.out
   simp only[List.length_append,List.length_singleton,hrl] at hN1
   have HN1:=Lib.hid hN1
   clear hN1 NX T1 T2 T8 B1 B2 hj1 hb2 z7 y7
   try refine calm_normal ?_
   go_wp2_with fail
   go_roundg (n - (i+1))
   case measure=>have:=HQ.out;omega
   case rel=>exact⟨i+1,_,_,_,_,rfl,by omega,by go_num,HN1⟩
  ·have hji:¬((i:Int)<(n:Int)):=by omega
   obtain rfl:n=i:=by omega
   go_wp2_with fail
   go_ret
   have hrl:(List.replicate n sp.new).length=n:=List.length_replicate
   have hy:RCyAt sp (wnew sp n).now (wnew sp n).L w1 x (wnew sp n).L.length v1 ps1 Ow1 G1 wr:=by
    show RCyAt sp 0 (List.replicate n sp.new) w1 x (List.replicate n sp.new).length v1 ps1 Ow1 G1 wr
    rw[hrl];exact HY.out
   have hd:=hy.done hxz (by show 0<(List.replicate n sp.new).length;omega) (by show(List.replicate n sp.new).length<=60;omega)
   have hz:=H1.out.size
   exact⟨x,rfl,(rwin_stay sp _ _).more hd (fun k hk=>hk.elim False.elim (fun h=>.inr ⟨by omega,h.2⟩)) (fun k hk=>hk.elim False.elim And.right),H1.out.trans (HY.out.below.mono hz)⟩
theorem rwin_new{sp:Spk}(n:Nat)(w:World)(ok:SpOk sp)(h0:1<=n)(h60:n<=60) :
 Calls Tryz.prog 42 #[sp.v,.int .i64 n] w fun e w'=>∃x,e=.returned (.pointer (some ⟨x,0,none⟩))/\RWinAt sp (wnew sp n) x (Gr (fun _=>False) w w') w'/\Below w.heap.size w w':=by
 cases sp with
 | h lo hi dg u m gr=>exact rwin_new_c rfl rfl ok n w h0 h60
 | d a m=>exact rwin_new_c rfl rfl ok n w h0 h60
 | t d=>exact rwin_new_c rfl rfl ok n w h0 h60
 | k q=>exact rwin_new_c rfl rfl ok n w h0 h60
open Go.RowKit Go.Lib Go.Shelf
open Go.RowKit Go.Lib Go.Shelf
structure Duo(sp:Spk)(n base:Nat)(S R:Nat->Wn)(X Y:Nat->Nat)(Ow:Nat->Ft)(wb vb:Nat)(w:World):Prop where
 win:∀i,i<2->WinAt sp (S i) (X i) (Ow i) w
 ref:∀i,i<2->RWinAt sp (R i) (Y i) (Ow (2+i)) w
 ok:∀i,i<2->WnOk sp n (S i)
 rok:∀i,i<2->WnOk sp n (R i)
 uniq:∀a b k,Ow a k->Ow b k->a=b
 low:∀a k,Ow a k->base<=k/\k<w.heap.size
 rw:Ow 4 wb
 rv:Ow 4 vb
 cw:∀i,i<2->w.cell? ⟨wb,i,none⟩=some (ptrV (X i))
 cv:∀i,i<2->w.cell? ⟨vb,i,none⟩=some (ptrV (Y i))
theorem Duo.stay{sp:Spk}{n base:Nat}{S R:Nat->Wn}{X Y:Nat->Nat}{Ow:Nat->Ft}{wb vb:Nat}{w w':World}(h:Duo sp n base S R X Y Ow wb vb w)(hk:∀a k,Ow a k->w'.heap[k]?=w.heap[k]?)(hz:w.heap.size<=w'.heap.size):Duo sp n base S R X Y Ow wb vb w':=
 ⟨fun i hi=>(win_stay sp _ _).stay (h.win i hi) (hk i) hz,fun i hi=>(rwin_stay sp _ _).stay (h.ref i hi) (hk _) hz,h.ok,h.rok,h.uniq,fun a k e=>⟨(h.low a k e).1,Nat.lt_of_lt_of_le (h.low a k e).2 hz⟩,h.rw,h.rv,
  fun i hi=>(World.cell?_of_block (a:=⟨wb,i,none⟩) (hk 4 wb h.rw)).trans (h.cw i hi),fun i hi=>(World.cell?_of_block (a:=⟨vb,i,none⟩) (hk 4 vb h.rv)).trans (h.cv i hi)⟩
theorem Duo.keep{sp:Spk}{n base:Nat}{S R:Nat->Wn}{X Y:Nat->Nat}{Ow:Nat->Ft}{wb vb:Nat}{w w':World}(h:Duo sp n base S R X Y Ow wb vb w)(hb:Below w.heap.size w w'):Duo sp n base S R X Y Ow wb vb w':=
 h.stay (fun a k e=>hb.block k (h.low a k e).2) hb.size
theorem Duo.turnS{sp:Spk}{n base i:Nat}{S R:Nat->Wn}{X Y:Nat->Nat}{Ow:Nat->Ft}{wb vb:Nat}{H:Ft}{w w':World}{s':Wn}(h:Duo sp n base S R X Y Ow wb vb w)(hi:i<2)(hbz:base<=w.heap.size)(hs:WinAt sp s' (X i) (Gr (Ow i) w w') w')(ok:WnOk sp n s')(ht:Touch (fun k=>Ow i k\/H k) w w')(hH:∀k,H k->∀a,¬Ow a k) :
 Duo sp n base (updN S i s') R X Y (updF Ow i (Gr (Ow i) w w')) wb vb w':=by
 have hk:∀a k,a≠i->Ow a k->w'.heap[k]?=w.heap[k]?:=fun a k ha e=>ht.block k (h.low a k e).2 (fun e2=>e2.elim (fun e3=>ha (h.uniq a i k e e3)) (fun e3=>hH k e3 a e))
 have hz:=ht.size
 refine⟨fun j hj=>?_,fun j hj=>?_,fun j hj=>?_,h.rok,fun a b k ha hb=>?_,fun a k e=>?_,?_,?_,fun j hj=>?_,fun j hj=>?_⟩
 ·by_cases e:j=i
  ·subst e;rw[updN_at,updF_at];exact hs
  ·rw[updN_ne e,updF_ne e];exact(win_stay sp _ _).stay (h.win j hj) (fun k=>hk j k e) hz
 ·rw[updF_ne (by omega)];exact(rwin_stay sp _ _).stay (h.ref j hj) (fun k=>hk _ k (by omega)) hz
 ·by_cases e:j=i
  ·subst e;rw[updN_at];exact ok
  ·rw[updN_ne e];exact h.ok j hj
 ·by_cases ea:a=i<;>by_cases eb:b=i
  ·rw[ea,eb]
  ·rw[ea,updF_at] at ha;rw[updF_ne eb] at hb
   rcases ha with ha|ha
   ·exact ea.trans (h.uniq i b k ha hb)
   ·have:=(h.low b k hb).2;omega
  ·rw[eb,updF_at] at hb;rw[updF_ne ea] at ha
   rcases hb with hb|hb
   ·exact(h.uniq a i k ha hb).trans eb.symm
   ·have:=(h.low a k ha).2;omega
  ·rw[updF_ne ea] at ha;rw[updF_ne eb] at hb;exact h.uniq a b k ha hb
 ·by_cases ea:a=i
  ·rw[ea,updF_at] at e
   rcases e with e|e
   ·exact⟨(h.low i k e).1,Nat.lt_of_lt_of_le (h.low i k e).2 hz⟩
   ·omega
  ·rw[updF_ne ea] at e;exact⟨(h.low a k e).1,Nat.lt_of_lt_of_le (h.low a k e).2 hz⟩
 ·rw[updF_ne (by omega)];exact h.rw
 ·rw[updF_ne (by omega)];exact h.rv
 ·exact(World.cell?_of_block (a:=⟨wb,j,none⟩) (hk 4 wb (by omega) h.rw)).trans (h.cw j hj)
 ·exact(World.cell?_of_block (a:=⟨vb,j,none⟩) (hk 4 vb (by omega) h.rv)).trans (h.cv j hj)
theorem Duo.turnR{sp:Spk}{n base i:Nat}{S R:Nat->Wn}{X Y:Nat->Nat}{Ow:Nat->Ft}{wb vb:Nat}{H:Ft}{w w':World}{s':Wn}(h:Duo sp n base S R X Y Ow wb vb w)(hi:i<2)(hbz:base<=w.heap.size)(hs:RWinAt sp s' (Y i) (Gr (Ow (2+i)) w w') w')(ok:WnOk sp n s')(ht:Touch (fun k=>Ow (2+i) k\/H k) w w')(hH:∀k,H k->∀a,¬Ow a k) :
 Duo sp n base S (updN R i s') X Y (updF Ow (2+i) (Gr (Ow (2+i)) w w')) wb vb w':=by
 have hk:∀a k,a≠2+i->Ow a k->w'.heap[k]?=w.heap[k]?:=fun a k ha e=>ht.block k (h.low a k e).2 (fun e2=>e2.elim (fun e3=>ha (h.uniq a _ k e e3)) (fun e3=>hH k e3 a e))
 have hz:=ht.size
 refine⟨fun j hj=>?_,fun j hj=>?_,h.ok,fun j hj=>?_,fun a b k ha hb=>?_,fun a k e=>?_,?_,?_,fun j hj=>?_,fun j hj=>?_⟩
 ·rw[updF_ne (by omega)];exact(win_stay sp _ _).stay (h.win j hj) (fun k=>hk _ k (by omega)) hz
 ·by_cases e:j=i
  ·subst e;rw[updN_at,updF_at];exact hs
  ·rw[updN_ne e,updF_ne (by omega)];exact(rwin_stay sp _ _).stay (h.ref j hj) (fun k=>hk _ k (by omega)) hz
 ·by_cases e:j=i
  ·subst e;rw[updN_at];exact ok
  ·rw[updN_ne e];exact h.rok j hj
 ·by_cases ea:a=2+i<;>by_cases eb:b=2+i
  ·rw[ea,eb]
  ·rw[ea,updF_at] at ha;rw[updF_ne eb] at hb
   rcases ha with ha|ha
   ·exact ea.trans (h.uniq _ b k ha hb)
   ·have:=(h.low b k hb).2;omega
  ·rw[eb,updF_at] at hb;rw[updF_ne ea] at ha
   rcases hb with hb|hb
   ·exact(h.uniq a _ k ha hb).trans eb.symm
   ·have:=(h.low a k ha).2;omega
  ·rw[updF_ne ea] at ha;rw[updF_ne eb] at hb;exact h.uniq a b k ha hb
 ·by_cases ea:a=2+i
  ·rw[ea,updF_at] at e
   rcases e with e|e
   ·exact⟨(h.low _ k e).1,Nat.lt_of_lt_of_le (h.low _ k e).2 hz⟩
   ·omega
  ·rw[updF_ne ea] at e;exact⟨(h.low a k e).1,Nat.lt_of_lt_of_le (h.low a k e).2 hz⟩
 ·rw[updF_ne (by omega)];exact h.rw
 ·rw[updF_ne (by omega)];exact h.rv
 ·exact(World.cell?_of_block (a:=⟨wb,j,none⟩) (hk 4 wb (by omega) h.rw)).trans (h.cw j hj)
 ·exact(World.cell?_of_block (a:=⟨vb,j,none⟩) (hk 4 vb (by omega) h.rv)).trans (h.cv j hj)
def Got(Ow Ow':Nat->Ft)(w w':World):Prop:=(∀a k,Ow' a k->Ow a k\/(w.heap.size<=k/\k<w'.heap.size))/\Touch (fun k=>∃a,Ow a k) w w'
theorem Got.keep{Ow O1:Nat->Ft}{w0 w w':World}(h:Got Ow O1 w0 w)(hb:Below w.heap.size w w'):Got Ow O1 w0 w':=
 ⟨fun a k e=>(h.1 a k e).imp id (fun e2=>⟨e2.1,Nat.lt_of_lt_of_le e2.2 hb.size⟩),h.2.trans (Touch.of_below (F:=fun k=>∃a,Ow a k) hb (Nat.le_refl _)) (fun _ hk=>.inl hk)⟩
theorem Got.step{Ow O1:Nat->Ft}{c:Nat}{H:Ft}{w0 w w':World}(h:Got Ow O1 w0 w)(ht:Touch (fun k=>O1 c k\/H k) w w')(hH:∀k,H k->w0.heap.size<=k):Got Ow (updF O1 c (Gr (O1 c) w w')) w0 w':=by
 have hz:=h.2.size
 have hz2:=ht.size
 refine⟨fun a k e=>?_,h.2.trans ht (fun k hk=>hk.elim (fun e=>(h.1 c k e).elim (fun e2=>.inl ⟨c,e2⟩) (fun e2=>.inr e2.1)) (fun e=>.inr (hH k e)))⟩
 by_cases ea:a=c
 ·rw[ea,updF_at] at e
  rcases e with e|e
  ·rw[ea];exact(h.1 c k e).imp id (fun e2=>⟨e2.1,by omega⟩)
  ·exact .inr ⟨by omega,e.2⟩
 ·rw[updF_ne ea] at e;exact(h.1 a k e).imp id (fun e2=>⟨e2.1,by omega⟩)
theorem Got.refl{Ow:Nat->Ft}{w w':World}(hb:Below w.heap.size w w'):Got Ow Ow w w':=⟨fun _ _ e=>.inl e,Touch.of_below hb (Nat.le_refl _)⟩
theorem Duo.far{sp:Spk}{n base:Nat}{S R:Nat->Wn}{X Y:Nat->Nat}{Ow O O':Nat->Ft}{wb vb:Nat}{w w':World}(h:Duo sp n base S R X Y Ow wb vb w)(hg:Got O O' w w')(hd:∀a b k,Ow a k->¬O b k):Duo sp n base S R X Y Ow wb vb w'/\∀a b k,Ow a k->¬O' b k:=
 ⟨h.stay (fun a k e=>hg.2.block k (h.low a k e).2 (fun⟨b,e2⟩=>hd a b k e e2)) hg.2.size,fun a b k e e2=>(hg.1 b k e2).elim (hd a b k e) (fun e3=>by have:=(h.low a k e).2;omega)⟩
open Go.RowKit Go.Lib Go.Shelf
def OForm5(o0:Nat)(w:World)(A:Option Addr)(l:List Op5):Prop:=0<l.length->∃g off,A=some ⟨g,off,none⟩/\g<o0/\∀j (h:j<l.length),∃cv,
 w.cell? ⟨g,off+j * 5,none⟩=some (.int .u8 l[j].kd)/\w.cell? ⟨g,off+j * 5+1,none⟩=some (.bool l[j].who)/\w.cell? ⟨g,off+j * 5+2,none⟩=some (.int .i64 l[j].v)/\w.cell? ⟨g,off+j * 5+3,none⟩=some (.int .u64 l[j].n)/\w.cell? ⟨g,off+j * 5+4,none⟩=some cv/\CIn o0 w cv l[j].B
def RdO5(o0:Nat)(w:World)(v:Value)(l:List Op5):Prop:=o0<=w.heap.size/\∃A c,v=.slice A l.length c/\l.length<=c/\c<=9223372036854775807/\OForm5 o0 w A l
theorem OForm5.keep{o0:Nat}{w w':World}{A:Option Addr}{l:List Op5}(h:OForm5 o0 w A l)(hz:o0<=w.heap.size)(hb:Below o0 w w'):OForm5 o0 w' A l:=fun h0=>by
 obtain⟨g,off,hA,hg,hj⟩:=h h0
 refine⟨g,off,hA,hg,fun j hj'=>?_⟩
 obtain⟨cv,h1,h2,h3,h4,h5,h6⟩:=hj j hj'
 exact⟨cv,(hb.cell (p:=⟨g,off+j * 5,none⟩) hg).trans h1,(hb.cell (p:=⟨g,off+j * 5+1,none⟩) hg).trans h2,(hb.cell (p:=⟨g,off+j * 5+2,none⟩) hg).trans h3,(hb.cell (p:=⟨g,off+j * 5+3,none⟩) hg).trans h4,(hb.cell (p:=⟨g,off+j * 5+4,none⟩) hg).trans h5,h6.keep hz hb⟩
theorem RdO5.keep{o0:Nat}{w w':World}{v:Value}{l:List Op5}(h:RdO5 o0 w v l)(hb:Below o0 w w'):RdO5 o0 w' v l:=by
 obtain⟨hz,A,c,h1,h2,h3,h4⟩:=h
 exact⟨Nat.le_trans hz hb.size,A,c,h1,h2,h3,h4.keep hz hb⟩
section
open Go.ChangeShapes Go.WideShapes Go.Deep
variable {H : Type} {enc : TypeId × Value -> H} {w : World} {base : Nat} {held : Bool}
theorem open_RdO5{v:Value}{d:DataW H}{ps:List MemPlace}{r:Reach}{b0:Nat}
 (hval:Value.okWide Tryz.prog w r b0 90 v) (h:DataW.Trod enc Tryz.prog w base (fun _=>true) held 90 v d ps):∃l:List Op5,RdO5 w.heap.size w v l/\∀o∈l,o.fits:=by
 obtain⟨a0,l0,c0,rfl⟩:=okWide_slice Tryz.underlying90 hval
 obtain⟨n,h⟩:=h
 rcases open_slice Tryz.underlying90 h with⟨hcs,_⟩|⟨a,len,cap,m,q,D,Pl,hcs,_,hl,hm,hmm,_,hx⟩
 ·simp[Value.cells] at hcs
  obtain⟨rfl,rfl,rfl⟩:=hcs
  exact⟨[],⟨Nat.le_refl _,none,0,rfl,Nat.le_refl _,by omega,fun h=>absurd h (by simp)⟩,fun o ho=>by cases ho⟩
 ·simp[Value.cells] at hcs
  obtain⟨rfl,rfl,rfl⟩:=hcs
  simp only[if_true] at hmm
  have ce:Tryz.prog.cellsOf 97=5:=by kernel_rfl
  have each:∀i,i<m->∃q:Op5 × Value,(w.cell? (a.add (i * 5))=some (.int .u8 q.1.kd)/\w.cell? (a.add (i * 5+1))=some (.bool q.1.who)/\w.cell? (a.add (i * 5+2))=some (.int .i64 q.1.v)/\w.cell? (a.add (i * 5+3))=some (.int .u64 q.1.n)/\w.cell? (a.add (i * 5+4))=some q.2)/\CIn w.heap.size w q.2 q.1.B/\q.1.fits:=by
   intro i hi
   obtain⟨cs',h1,h2⟩:=hx i hi
   rw[ce] at h1
   obtain⟨_,hlen,hcell⟩:=World.cells?_some h1
   obtain⟨xs,k,hk,hxy,_,hxl,hf⟩:=DataW.trod_struct Tryz.underlying97 h2
   match xs,hxl,cs',hlen with
   | [y0,y1,y2,y3,y4],_,[v0,v1,v2,v3,v4],_=>
    have g0:=hf 0 _ rfl
    have g1:=hf 1 _ rfl
    have g2:=hf 2 _ rfl
    have g3:=hf 3 _ rfl
    have g4:=hf 4 _ rfl
    simp[show Tryz.prog.cellsOf 5=1 by kernel_rfl,show Tryz.prog.cellsOf 4=1 by kernel_rfl,show Tryz.prog.cellsOf 2=1 by kernel_rfl,show Tryz.prog.cellsOf 53=1 by kernel_rfl,show Tryz.prog.cellsOf 22=1 by kernel_rfl] at g0 g1 g2 g3 g4
    have e0:=hcell 0 (by omega)
    have e1:=hcell 1 (by omega)
    have e2:=hcell 2 (by omega)
    have e3:=hcell 3 (by omega)
    have e4:=hcell 4 (by omega)
    rw[add_add] at e0 e1 e2 e3 e4
    obtain⟨x0,p0,_,b0⟩:=DataW.trod_int (k:=.u8) Tryz.underlying5 g0
    obtain⟨x1,p1,_⟩:=DataW.trod_bool Tryz.underlying4 g1
    obtain⟨x2,p2,_,b2⟩:=DataW.trod_int (k:=.i64) Tryz.underlying2 g2
    obtain⟨x3,p3,_,b3⟩:=DataW.trod_int (k:=.u64) Tryz.underlying53 g3
    obtain⟨x4,B4,p4,c4,b4⟩:=open_cin g4
    simp only[List.cons.injEq,and_true] at p0 p1 p2 p3 p4
    subst p0;subst p1;subst p2;subst p3;subst p4
    refine⟨(⟨x0,x1,x2,x3,B4⟩,v4),⟨by simpa[ce] using e0,by simpa[ce] using e1,by simpa[ce] using e2,by simpa[ce] using e3,by simpa[ce] using e4⟩,c4,?_⟩
    have h9:=bounds_i64 b2
    have h8:=bounds_u64 b3
    have h7:=bounds_u8 b0
    refine⟨h7.1,h7.2,h9.1,h9.2,h8.1,by show x3<18446744073709551616;have:=h8.2;omega,b4⟩
  obtain⟨f,hf⟩:=choose_lt each
  have hlen:((List.range l0).map fun i=>(f i).1).length=l0:=by simp
  refine⟨(List.range l0).map fun i=>(f i).1,⟨Nat.le_refl _,some a,c0,by rw[hlen],by rw[hlen];exact hl,by unfold maxLen at hm;omega,fun hp=>?_⟩,fun x hx=>?_⟩
  ·rw[hlen] at hp
   obtain⟨b,off,spot⟩:=a
   have hspot:spot=none:=by simpa[Addr.add] using World.cell?_spot (hf 0 (by omega)).1.1
   subst hspot
   refine⟨b,off,rfl,World.block_lt_of_cell? _ _ (hf 0 (by omega)).1.1,fun j hj=>?_⟩
   rw[hlen] at hj
   obtain⟨⟨h1,h2,h3,h4,h5⟩,h6,_⟩:=hf j (by omega)
   rw[add_plain] at h1 h2 h3 h4 h5
   simp only[List.getElem_map,List.getElem_range]
   exact⟨_,h1,h2,h3,h4,h5,h6⟩
  ·obtain⟨i,hi,rfl⟩:=List.mem_map.1 hx
   have hi':=List.mem_range.1 hi
   exact(hf i (by omega)).2.2
end
open Go.RowKit Go.Lib Go.Shelf
structure DoAt(sp:Spk)(n o0:Nat)(S R:Nat->Wn)(X Y:Nat->Nat)(Ow0 Ow:Nat->Ft)(wb vb bx:Nat)(B:List Int)(dq:Value)(H HR:Ft)(w0 w:World):Prop where
 du:Duo sp n o0 S R X Y Ow wb vb w
 got:Got Ow0 Ow w0 w
 hH:∀k,H k->bx<k/\k<w.heap.size/\∀a,¬Ow a k
 hR:∀k,HR k->bx<k/\k<w.heap.size/\∀a,¬Ow a k
 ap:∀k,H k->¬HR k
 rc:RCnAt o0 dq B 0 HR w
 hb:w0.heap.size<=bx/\bx<w.heap.size/\∀a,¬Ow a bx
 bz:o0<=w0.heap.size
section
variable {sp : Spk} {n o0 : Nat} {S R : Nat -> Wn} {X Y : Nat -> Nat} {Ow0 Ow : Nat -> Ft} {wb vb bx i : Nat} {B : List Int} {dq : Value} {H HR : Ft} {w0 w w' : World} {s' : Wn}
theorem DoAt.keep(d:DoAt sp n o0 S R X Y Ow0 Ow wb vb bx B dq H HR w0 w)(hb:Below w.heap.size w w'):DoAt sp n o0 S R X Y Ow0 Ow wb vb bx B dq H HR w0 w':=by
 have hz:=hb.size
 have h1:=d.got.2.size
 have h2:=d.bz
 exact⟨d.du.keep hb,d.got.keep hb,fun k e=>⟨(d.hH k e).1,Nat.lt_of_lt_of_le (d.hH k e).2.1 hz,(d.hH k e).2.2⟩,fun k e=>⟨(d.hR k e).1,Nat.lt_of_lt_of_le (d.hR k e).2.1 hz,(d.hR k e).2.2⟩,d.ap,d.rc.keep (by omega) hb,⟨d.hb.1,Nat.lt_of_lt_of_le d.hb.2.1 hz,d.hb.2.2⟩,d.bz⟩
theorem upd_no{c k:Nat}(h:∀a,¬Ow a k)(hk:k<w.heap.size):∀a,¬updF Ow c (Gr (Ow c) w w') a k:=fun a e=>by
 by_cases ea:a=c
 ·rw[ea,updF_at] at e
  exact e.elim (h c) (fun e2=>by omega)
 ·rw[updF_ne ea] at e;exact h a e
theorem DoAt.turnS(d:DoAt sp n o0 S R X Y Ow0 Ow wb vb bx B dq H HR w0 w)(hi:i<2)(hs:WinAt sp s' (X i) (Gr (Ow i) w w') w')(ok:WnOk sp n s')(ht:Touch (fun k=>Ow i k\/H k) w w') :
 DoAt sp n o0 (updN S i s') R X Y Ow0 (updF Ow i (Gr (Ow i) w w')) wb vb bx B dq H HR w0 w':=by
 have hz:=ht.size
 have h1:=d.got.2.size
 have h2:=d.bz
 exact⟨d.du.turnS hi (by omega) hs ok ht (fun k e=>(d.hH k e).2.2),d.got.step ht (fun k e=>by have:=(d.hH k e).1;have:=d.hb.1;omega),
  fun k e=>⟨(d.hH k e).1,Nat.lt_of_lt_of_le (d.hH k e).2.1 hz,upd_no (d.hH k e).2.2 (d.hH k e).2.1⟩,fun k e=>⟨(d.hR k e).1,Nat.lt_of_lt_of_le (d.hR k e).2.1 hz,upd_no (d.hR k e).2.2 (d.hR k e).2.1⟩,d.ap,
  d.rc.far (by omega) ht (fun k e e2=>e2.elim ((d.hR k e).2.2 i) (fun e3=>d.ap k e3 e)) (fun k e=>e.elim (fun e2=>(d.du.low i k e2).1) (fun e2=>by have:=(d.hH k e2).1;have:=d.hb.1;omega)),
  ⟨d.hb.1,Nat.lt_of_lt_of_le d.hb.2.1 hz,upd_no d.hb.2.2 d.hb.2.1⟩,d.bz⟩
theorem DoAt.turnR(d:DoAt sp n o0 S R X Y Ow0 Ow wb vb bx B dq H HR w0 w)(hi:i<2)(hs:RWinAt sp s' (Y i) (Gr (Ow (2+i)) w w') w')(ok:WnOk sp n s')(ht:Touch (fun k=>Ow (2+i) k\/HR k) w w') :
 Duo sp n o0 S (updN R i s') X Y (updF Ow (2+i) (Gr (Ow (2+i)) w w')) wb vb w'/\Got Ow0 (updF Ow (2+i) (Gr (Ow (2+i)) w w')) w0 w':=by
 have hz:=ht.size
 have h1:=d.got.2.size
 have h2:=d.bz
 exact⟨d.du.turnR hi (by omega) hs ok ht (fun k e=>(d.hR k e).2.2),d.got.step ht (fun k e=>by have:=(d.hR k e).1;have:=d.hb.1;omega)⟩
def Same3(l:List Nat)(w w':World):Prop:=∀k∈l,w'.heap[k]?=w.heap[k]?
theorem Same3.at_{l:List Nat}(h:Same3 l w w'){p:Addr}(hp:p.block∈l):w'.cell? p=w.cell? p:=World.cell?_of_block (h _ hp)
theorem DoAt.sameS(d:DoAt sp n o0 S R X Y Ow0 Ow wb vb bx B dq H HR w0 w)(hi:i<2)(ht:Touch (fun k=>Ow i k\/H k) w w'):Same3 [wb,vb,bx] w w':=fun k hk=>by
 have h4:∀k,Ow 4 k->w'.heap[k]?=w.heap[k]?:=fun k e=>ht.block k (d.du.low 4 k e).2 (fun e2=>e2.elim (fun e3=>by have:=d.du.uniq 4 i k e e3;omega) (fun e3=>(d.hH k e3).2.2 4 e))
 simp only[List.mem_cons,List.not_mem_nil,or_false] at hk
 rcases hk with rfl|rfl|rfl
 ·exact h4 _ d.du.rw
 ·exact h4 _ d.du.rv
 ·exact ht.block _ d.hb.2.1 (fun e2=>e2.elim (d.hb.2.2 i) (fun e3=>by have:=(d.hH _ e3).1;omega))
theorem DoAt.sameR(d:DoAt sp n o0 S R X Y Ow0 Ow wb vb bx B dq H HR w0 w)(hi:i<2)(ht:Touch (fun k=>Ow (2+i) k\/HR k) w w'):Same3 [wb,vb,bx] w w':=fun k hk=>by
 have h4:∀k,Ow 4 k->w'.heap[k]?=w.heap[k]?:=fun k e=>ht.block k (d.du.low 4 k e).2 (fun e2=>e2.elim (fun e3=>by have:=d.du.uniq 4 (2+i) k e e3;omega) (fun e3=>(d.hR k e3).2.2 4 e))
 simp only[List.mem_cons,List.not_mem_nil,or_false] at hk
 rcases hk with rfl|rfl|rfl
 ·exact h4 _ d.du.rw
 ·exact h4 _ d.du.rv
 ·exact ht.block _ d.hb.2.1 (fun e2=>e2.elim (d.hb.2.2 (2+i)) (fun e3=>by have:=(d.hR _ e3).1;omega))
end
structure Fours(wb vb bx i j x0 x1 y0 y1 kd n:Nat)(who:Bool)(v:Int)(cv:Value)(w:World):Prop where
 p0:w.cell? ⟨wb,i,none⟩=some (.pointer (some ⟨x0,0,none⟩))
 p1:w.cell? ⟨wb,j,none⟩=some (.pointer (some ⟨x1,0,none⟩))
 q0:w.cell? ⟨vb,i,none⟩=some (.pointer (some ⟨y0,0,none⟩))
 q1:w.cell? ⟨vb,j,none⟩=some (.pointer (some ⟨y1,0,none⟩))
 o0:w.cell? ⟨bx,0,none⟩=some (.int .u8 kd)
 o1:w.cell? ⟨bx,1,none⟩=some (.bool who)
 o2:w.cell? ⟨bx,2,none⟩=some (.int .i64 v)
 o3:w.cell? ⟨bx,3,none⟩=some (.int .u64 n)
 o4:w.cell? ⟨bx,4,none⟩=some cv
theorem Fours.same{wb vb bx i j x0 x1 y0 y1 kd n:Nat}{who:Bool}{v:Int}{cv:Value}{w w':World}(h:Fours wb vb bx i j x0 x1 y0 y1 kd n who v cv w)(hs:Same3 [wb,vb,bx] w w'):Fours wb vb bx i j x0 x1 y0 y1 kd n who v cv w':=by
 have hw:∀k,w'.cell? ⟨wb,k,none⟩=w.cell? ⟨wb,k,none⟩:=fun k=>hs.at_ (by simp)
 have hv:∀k,w'.cell? ⟨vb,k,none⟩=w.cell? ⟨vb,k,none⟩:=fun k=>hs.at_ (by simp)
 have hb:∀k,w'.cell? ⟨bx,k,none⟩=w.cell? ⟨bx,k,none⟩:=fun k=>hs.at_ (by simp)
 exact⟨(hw _).trans h.p0,(hw _).trans h.p1,(hv _).trans h.q0,(hv _).trans h.q1,(hb _).trans h.o0,(hb _).trans h.o1,(hb _).trans h.o2,(hb _).trans h.o3,(hb _).trans h.o4⟩
end Go.Proofs.YtkiebccnpheloaaGreat.D
