/- Parts of a proof: what its theorem reaches, words cut short. No condition of its own. -/
import Derived.Test.YtkiebccnpheloaaGreatPv41
set_option maxRecDepth 100000
set_option maxHeartbeats 16000000
set_option linter.unusedVariables false
set_option linter.unusedSimpArgs false
namespace Go.Proofs.YtkiebccnpheloaaGreat.D
open Go.RowKit Go.Lib Go.Shelf
def mkV:Value:=.agg #[.func (.func 135) #[] #[],.func (.func 136) #[] #[],.func (.func 137) #[] #[],.func (.func 138) #[] #[],
 .func (.func 139) #[] #[],.func (.func 140) #[] #[],.func (.func 141) #[] #[],.func (.func 142) #[] #[]]
theorem makers_any(w:World):Calls Tryz.prog 58 #[] w fun e w'=>e=.returned mkV/\Below w.heap.size w w':=by
 unfold mkV
 go_enter Tryz.func58,Tryz.ntmps58
 go_wp2_with fail
 refine bodyPost_ret (by simp[results,Tryz.results58,go_sem, *];try rfl) rfl ?_
 exact⟨rfl,by(repeat' (first|(with_reducible exact Below.refl _ _)|(with_reducible refine Below.alloc ?_ ?_ _)|(with_reducible refine Below.drew ?_)|(with_reducible refine below_drewN ?_ _)|(with_reducible refine Below.setCell ?_ ?_ _)|(with_reducible refine below_of (by assumption) ?_ ?_)|go_size))⟩
section
variable {R : Nat -> World -> Prop} {lo hi dg ac sz : Int} {gr : Bool}
theorem jmake_any{kd:Int}{mf:Nat}(hkm:(kd=1/\mf=135)\/(kd=2/\mf=137)\/(kd=3/\mf=139)\/(kd=4/\mf=141))(w:World)(hm:∀y w1,Below w.heap.size w w1->w.heap.size<=y->Blk w1 y 117 #[.int .u8 kd,.pointer none,.pointer none,.pointer none,.pointer none]->Calls Tryz.prog mf #[.pointer (some ⟨y,0,none⟩),specV kd lo hi dg gr ac sz] w1 fun e w'=>e=.returned (.int .i64 0)/\R y w'/\Touch (fun j=>j=y) w1 w')
 (hs:∀y w1,R y w1->Calls Tryz.prog 19 #[.pointer (some ⟨y,0,none⟩)] w1 fun e w'=>e=.returned (specV kd lo hi dg gr ac sz)/\Below w1.heap.size w1 w')
 (hk:∀y w1 w',R y w1->Below w1.heap.size w1 w'->R y w') :
 Calls Tryz.prog 21 #[specV kd lo hi dg gr ac sz] w fun e w'=>∃y,e=.returned (.tuple #[.pointer (some ⟨y,0,none⟩),.int .i64 0])/\R y w'/\Below w.heap.size w w':=by
 obtain⟨cs,hcs⟩:∃q:Array Value,q=#[.int .u8 kd,.int .i64 lo,.int .i64 hi,.int .i64 dg,.bool gr,.int .i64 ac,.int .i64 sz]:=⟨_,rfl⟩
 obtain⟨fv,hfv⟩:∃q:Array Value,q=#[.int .u8 kd,.pointer none,.pointer none,.pointer none,.pointer none]:=⟨_,rfl⟩
 have CK0:=fun W=>isKind_any kd W (by omega) (by omega)
 rcases hkm with⟨rfl,rfl⟩|⟨rfl,rfl⟩|⟨rfl,rfl⟩|⟨rfl,rfl⟩
 all_goals
  have HM:=Lib.hid hm
  have HS:=Lib.hid hs
  have HK:=Lib.hid hk
  clear hm hs hk
  unfold specV at *
  obtain⟨b,hbb⟩:∃b,w.heap.size=b:=⟨_,rfl⟩
  obtain⟨wa,hwa⟩:∃z,w.alloc (.cells cs 34)=z:=⟨_,rfl⟩
  have ha:Below w.heap.size w wa:=by rw[<-hwa];(repeat' (first|(with_reducible exact Below.refl _ _)|(with_reducible refine Below.alloc ?_ ?_ _)|(with_reducible refine Below.drew ?_)|(with_reducible refine below_drewN ?_ _)|(with_reducible refine Below.setCell ?_ ?_ _)|(with_reducible refine below_of (by assumption) ?_ ?_)|go_size))
  have B0:Hid (Blk wa b 34 cs):=by rw[<-hwa,<-hbb];exact Lib.hid (Blk.new _ _ _)
  subst hcs
  have hz:wa.heap.size=b+1:=by rw[<-hwa,<-hbb,World.size_alloc]
  have s0:=B0.out.cell 0
  simp only[List.getElem?_toArray,List.getElem?_cons_zero,List.getElem?_cons_succ] at s0
  have CK:=Lib.hid (CK0 wa)
  have HBB:=Lib.hid hbb
  go_enter Tryz.func21,Tryz.ntmps21
  go_upto_region 1 with fail
  have HZ:=Lib.hid hz
  clear hwa hbb hz
  go_wp2_with fail
  refine(CK.out).mono ?_
  rintro e w' ⟨rfl,rfl⟩
  obtain⟨wb,hwb⟩:∃z,wa.alloc (.cells fv 117)=z:=⟨_,rfl⟩
  have hab:Below wa.heap.size wa wb:=by rw[<-hwb];(repeat' (first|(with_reducible exact Below.refl _ _)|(with_reducible refine Below.alloc ?_ ?_ _)|(with_reducible refine Below.drew ?_)|(with_reducible refine below_drewN ?_ _)|(with_reducible refine Below.setCell ?_ ?_ _)|(with_reducible refine below_of (by assumption) ?_ ?_)|go_size))
  have hb:Below w.heap.size w wb:=ha.trans (hab.mono ha.size)
  have Y0:Hid (Blk wb (b+1) 117 fv):=by rw[<-hwb,<-HZ.out];exact Lib.hid (Blk.new _ _ _)
  subst hfv
  have B1:=Lib.hid (B0.out.keep hab)
  go_upto_region 4 with fail
  try rw[hwb]
  try rw[HZ.out]
  clear hwb s0 hab B0
  have B0:=B1
  have s0:=B0.out.cell 0
  have s1:=B0.out.cell 1
  have s2:=B0.out.cell 2
  have s3:=B0.out.cell 3
  have s4:=B0.out.cell 4
  have s5:=B0.out.cell 5
  have s6:=B0.out.cell 6
  simp only[List.getElem?_toArray,List.getElem?_cons_zero,List.getElem?_cons_succ] at s0 s1 s2 s3 s4 s5 s6
  have FS0:=Lib.hid s0
  have FS1:=Lib.hid s1
  have FS2:=Lib.hid s2
  have FS3:=Lib.hid s3
  have FS4:=Lib.hid s4
  have FS5:=Lib.hid s5
  have FS6:=Lib.hid s6
  clear s0 s1 s2 s3 s4 s5 s6
  have lb:b<wb.heap.size:=B0.out.lt
  have nb:¬(b=b+1):=by omega
  have hby:w.heap.size<=b+1:=by have:=HBB.out;omega
  have T0:Touch (fun j=>j=b+1) wb wb.drew:=(Touch.refl _ wb).drew
  have Bd:Below wb.heap.size wb wb.drew:=(Below.refl _ _).drew
  have FBq:=Lib.hid (fun w' (hS':(Touch (fun j=>j=b+1) wb) w')=>(And.intro (((tcell hS' 0 lb nb).trans FS0.out)) (And.intro (((tcell hS' 1 lb nb).trans FS1.out)) (And.intro (((tcell hS' 2 lb nb).trans FS2.out)) (And.intro (((tcell hS' 3 lb nb).trans FS3.out)) (And.intro (((tcell hS' 4 lb nb).trans FS4.out)) (And.intro (((tcell hS' 5 lb nb).trans FS5.out)) (((tcell hS' 6 lb nb).trans FS6.out)))))))))
  refine wp_region_plan (Touch (fun j=>j=b+1) wb) [(1,true),(2,true),(3,true),(6,true),(7,true),(0,false),(4,true),(5,true),(8,false),(9,true)] (by kernel_rfl) (by kernel_rfl) (T0) ?_
  iterate 5
   refine wpPlan_read (by rfl) (by rfl) (fun R hR=>?_)
   apply Exists.intro
   refine⟨fun w' hS'=>?_,?_⟩
   ·obtain⟨s0,s1,s2,s3,s4,s5,s6⟩:=FBq.out w' hS'
    go_simp
    exact⟨rfl,rfl⟩
   go_simp
   refine hR _ ?_
   clear hR R
  refine wpPlan_do (by rfl) (by rfl) (fun K hK=>?_)
  go_simp
  refine(makers_any wb.drew).mono ?_
  rintro e ws ⟨rfl,hbs⟩
  have Bs:Below wb.heap.size wb ws:=Bd.trans hbs
  have Ts:Touch (fun j=>j=b+1) wb ws:=Touch.of_below Bs (Nat.le_refl _)
  have hb1:Below w.heap.size w ws:=hb.trans (Bs.mono hb.size)
  have C8:=Lib.hid (HM.out (b+1) ws hb1 hby (Y0.out.keep Bs))
  unfold mkV
  refine hK _ _ (Ts) ?_
  clear hK K
  iterate 2
   refine wpPlan_read (by rfl) (by rfl) (fun R hR=>?_)
   apply Exists.intro
   refine⟨fun w' hS'=>?_,?_⟩
   ·obtain⟨s0,s1,s2,s3,s4,s5,s6⟩:=FBq.out w' hS'
    go_simp
    exact⟨rfl,rfl⟩
   go_simp
   refine hR _ ?_
   clear hR R
  refine wpPlan_do (by rfl) (by rfl) (fun K hK=>?_)
  go_simp
  refine(C8.out).mono ?_
  rintro e wt ⟨rfl,hr,ht⟩
  have Tt:Touch (fun j=>j=b+1) wb wt:=Ts.trans ht (fun _ h=>.inl h)
  have HR:=Lib.hid hr
  have TT:=Lib.hid (hb.trans (Tt.below (fun j hj=>by rw[show j=b+1 from hj];exact hby) hb.size))
  refine hK _ _ (Tt) ?_
  clear hK K
  iterate 1
   refine wpPlan_read (by rfl) (by rfl) (fun R hR=>?_)
   apply Exists.intro
   refine⟨fun w' hS'=>?_,?_⟩
   ·obtain⟨s0,s1,s2,s3,s4,s5,s6⟩:=FBq.out w' hS'
    go_simp
    exact⟨rfl,rfl⟩
   go_simp
   refine hR _ ?_
   clear hR R
  refine wpPlan_nil ?_
  have Td:Touch (fun j=>j=b+1) wb wt.drew:=Tt.drew
  have bd:Below wt.heap.size wt wt.drew:=(Below.refl _ _).drew
  have CS:=Lib.hid (HS.out (b+1) wt.drew (HK.out _ _ _ HR.out bd))
  have zt:=TT.out.size
  clear C8
  go_upto_region 5 with fail
  have FBq:=Lib.hid (fun w' (hS':(Touch (fun j=>j=b+1) wb) w')=>(And.intro (((tcell hS' 0 lb nb).trans FS0.out)) (And.intro (((tcell hS' 1 lb nb).trans FS1.out)) (And.intro (((tcell hS' 2 lb nb).trans FS2.out)) (And.intro (((tcell hS' 3 lb nb).trans FS3.out)) (And.intro (((tcell hS' 4 lb nb).trans FS4.out)) (And.intro (((tcell hS' 5 lb nb).trans FS5.out)) (((tcell hS' 6 lb nb).trans FS6.out)))))))))
  refine wp_region_plan (Touch (fun j=>j=b+1) wb) [(0,true),(1,true),(2,true),(3,true),(5,true),(4,false),(6,true),(7,true)] (by kernel_rfl) (by kernel_rfl) (Td) ?_
  iterate 5
   refine wpPlan_read (by rfl) (by rfl) (fun R hR=>?_)
   apply Exists.intro
   refine⟨fun w' hS'=>?_,?_⟩
   ·obtain⟨s0,s1,s2,s3,s4,s5,s6⟩:=FBq.out w' hS'
    go_simp
    exact⟨rfl,rfl⟩
   go_simp
   refine hR _ ?_
   clear hR R
  refine wpPlan_do (by rfl) (by rfl) (fun K hK=>?_)
  go_simp
  refine(CS.out).mono ?_
  rintro e wu ⟨rfl,hbu⟩
  have Tu:Touch (fun j=>j=b+1) wb wu:=tbl Td hbu
  have BU:=Lib.hid (TT.out.trans ((bd.trans hbu).mono zt))
  have RU:=Lib.hid (HK.out _ _ _ HR.out (bd.trans hbu))
  refine hK _ _ (Tu) ?_
  clear hK K
  iterate 2
   refine wpPlan_read (by rfl) (by rfl) (fun R hR=>?_)
   apply Exists.intro
   refine⟨fun w' hS'=>?_,?_⟩
   ·obtain⟨s0,s1,s2,s3,s4,s5,s6⟩:=FBq.out w' hS'
    go_simp
    exact⟨rfl,rfl⟩
   go_simp
   refine hR _ ?_
   clear hR R
  refine wpPlan_nil ?_
  go_wp2_with fail
  refine bodyPost_ret (by simp[results,Tryz.results21,go_sem, *];try rfl) rfl ?_
  exact⟨_,rfl,RU.out,BU.out⟩
end
open Go.RowKit Go.Lib Go.Shelf
open Go.RowKit Go.Lib Go.Shelf
theorem placed_js{sp:Spk}{c:Js}{y i:Nat}{cs:Array Value}{w0 w1 w':World}{e:Ending}(h:Placed y i cs (fun p w'=>∃x G,p=ptrV x/\InAt sp c x G w'/\∀k,G k->w1.heap.size<=k) w1 e w')(hi:∀x,cs.setIfInBounds i (ptrV x)=sp.five x)(hyl:y<w1.heap.size)(hy0:w0.heap.size<=y) :
 e=.returned (.int .i64 0)/\(∃F,JsAt sp c y F w'/\∀k,F k->w0.heap.size<=k)/\Touch (fun j=>j=y) w1 w':=by
 obtain⟨rfl,p,wz,⟨x,G,rfl,hI,hG⟩,hb,hB,ht,ht2⟩:=h
 rw[hi] at hB
 have I:=(in_stay sp c x).far hI ht (fun k hk e=>by have:=hG k hk;rw[show k=y from e] at this;omega)
 refine⟨rfl,⟨fun k=>k=y\/G k,⟨x,G,hB,I,.inl rfl,fun hg=>by have:=hG y hg;omega,fun k hk=>.inr hk,fun k hk=>hk.elim (fun e=>by rw[e];exact hB.lt) ((in_stay sp c x).low I k)⟩,fun k hk=>hk.elim (fun e=>by rw[e];exact hy0) (fun h=>by have:=hG k h;omega)⟩,ht2⟩
theorem js_fresh{sp:Spk}{c:Js}{y:Nat}{w w':World}(h:∃F,JsAt sp c y F w'/\∀k,F k->w.heap.size<=k):JsAt sp c y (Gr (fun _=>False) w w') w':=by
 obtain⟨F,h1,h2⟩:=h
 exact(js_stay sp c y).more h1 (fun k hk=>.inr ⟨h2 k hk,(js_stay sp c y).low h1 k hk⟩) (fun k hk=>hk.elim False.elim And.right)
theorem js_make{sp:Spk}(w:World)(ok:SpOk sp):Calls Tryz.prog 21 #[sp.v] w fun e w'=>∃x,e=.returned (.tuple #[.pointer (some ⟨x,0,none⟩),.int .i64 0])/\JsAt sp sp.new x (Gr (fun _=>False) w w') w'/\Below w.heap.size w w':=by
 have hs:∀y w1,(∃F,JsAt sp sp.new y F w1/\∀k,F k->w.heap.size<=k)->Calls Tryz.prog 19 #[.pointer (some ⟨y,0,none⟩)] w1 fun e w'=>e=.returned sp.v/\Below w1.heap.size w1 w':=fun y w1 ⟨F,h,_⟩=>js_spec w1 h (new_ok ok)
 have hk:∀y w1 w',(∃F,JsAt sp sp.new y F w1/\∀k,F k->w.heap.size<=k)->Below w1.heap.size w1 w'->(∃F,JsAt sp sp.new y F w'/\∀k,F k->w.heap.size<=k):=fun y w1 w' ⟨F,h,h2⟩ hb=>⟨F,(js_stay sp _ y).keep h hb,h2⟩
 cases sp with
 | h lo hi dg u m gr=>
  refine(jmake_any (.inl ⟨rfl,rfl⟩) w (fun y w1 hb hy hB=>?_) hs hk).mono (fun e w' ⟨x,h1,h2,h3⟩=>⟨x,h1,js_fresh h2,h3⟩)
  refine(makeHdr_any hB (Q:=fun p w'=>∃x G,p=ptrV x/\InAt (.h lo hi dg u m gr) (Spk.h lo hi dg u m gr).new x G w'/\∀k,G k->w1.heap.size<=k) (fun wa hwa=>?_)).mono (fun e w' h=>placed_js h (fun x=>rfl) hB.lt hy)
  refine(hs_make gr wa ok).mono ?_
  rintro e w' ⟨x,rfl,h1,h2⟩
  exact⟨x,rfl,⟨x,_,rfl,h1,fun k hk=>hk.elim False.elim (fun h=>Nat.le_trans hwa.size h.1)⟩,h2⟩
 | d a m=>
  refine(jmake_any (.inr (.inl ⟨rfl,rfl⟩)) w (fun y w1 hb hy hB=>?_) hs hk).mono (fun e w' ⟨x,h1,h2,h3⟩=>⟨x,h1,js_fresh h2,h3⟩)
  refine(makeDd_any hB (Q:=fun p w'=>∃x G,p=ptrV x/\InAt (.d a m) (Spk.d a m).new x G w'/\∀k,G k->w1.heap.size<=k) (fun wa hwa=>?_)).mono (fun e w' h=>placed_js h (fun x=>rfl) hB.lt hy)
  refine(dd_new a m wa ok.1 ok.2.1 ok.2.2.1 ok.2.2.2).mono ?_
  rintro e w' ⟨x,rfl,h1,h2⟩
  exact⟨x,rfl,⟨x,_,rfl,h1,fun k hk=>hk.elim False.elim (fun h=>Nat.le_trans hwa.size h.1)⟩,h2⟩
 | t d=>
  refine(jmake_any (.inr (.inr (.inl ⟨rfl,rfl⟩))) w (fun y w1 hb hy hB=>?_) hs hk).mono (fun e w' ⟨x,h1,h2,h3⟩=>⟨x,h1,js_fresh h2,h3⟩)
  refine(makeDigest_any hB (Q:=fun p w'=>∃x G,p=ptrV x/\InAt (.t d) (Spk.t d).new x G w'/\∀k,G k->w1.heap.size<=k) (fun wa hwa=>?_)).mono (fun e w' h=>placed_js h (fun x=>rfl) hB.lt hy)
  refine(new_yes d wa (by have:=ok.1;omega) (by have:=ok.2;omega)).mono ?_
  rintro e w' ⟨x,rfl,h0,h1,h2⟩
  exact⟨x,rfl,⟨x,fun k=>k=x,rfl,h1,fun k hk=>by rw[show k=x from hk];exact Nat.le_trans hwa.size h0⟩,h2⟩
 | k q=>
  refine(jmake_any (.inr (.inr (.inr ⟨rfl,rfl⟩))) w (fun y w1 hb hy hB=>?_) hs hk).mono (fun e w' ⟨x,h1,h2,h3⟩=>⟨x,h1,js_fresh h2,h3⟩)
  refine(makeKll_any hB (Q:=fun p w'=>∃x G,p=ptrV x/\InAt (.k q) (Spk.k q).new x G w'/\∀k,G k->w1.heap.size<=k) (fun wa hwa=>?_)).mono (fun e w' h=>placed_js h (fun x=>rfl) hB.lt hy)
  refine(K.new_any q wa ok.1 ok.2).mono ?_
  rintro e w' ⟨rfl,rfl⟩
  exact⟨_,rfl,⟨_,_,rfl,K.kAt_new q wa,fun k hk=>by rw[show k=wa.heap.size from hk];exact hwa.size⟩,by(repeat' (first|(with_reducible exact Below.refl _ _)|(with_reducible refine Below.alloc ?_ ?_ _)|(with_reducible refine Below.drew ?_)|(with_reducible refine below_drewN ?_ _)|(with_reducible refine Below.setCell ?_ ?_ _)|(with_reducible refine below_of (by assumption) ?_ ?_)|go_size))⟩
open Go.RowKit Go.Lib Go.Shelf
abbrev JsP(sp:Spk):Js->Nat->Ft->World->Prop:=fun c p=>JsAt sp c p
theorem jsP_stay(sp:Spk):∀c p,Stay (JsP sp c p):=fun c p=>js_stay sp c p
structure WinB(sp:Spk)(now a0:Nat)(C:List Js)(v:Value)(ps:List Nat)(Ow:Nat->Ft)(G:Ft)(x:Nat)(w:World):Prop where
 blk:Blk w x 199 (sp.cs++[v,.int .i64 a0,.int .u64 now]).toArray
 ring:RingAt 24 (JsP sp) C v ps Ow G w
 at0:a0<C.length
 n60:C.length<=60
 out:¬G x
def WinAt(sp:Spk)(s:Wn)(x:Nat)(F:Ft)(w:World):Prop:=∃a0 C v ps Ow G,WinB sp s.now a0 C v ps Ow G x w/\s.L=rot sp.new a0 C/\F x/\(∀k,G k->F k)/\∀k,F k->k<w.heap.size
section
variable {sp : Spk} {now a0 x : Nat} {C : List Js} {v : Value} {ps : List Nat} {Ow : Nat -> Ft} {G F : Ft} {w w' : World} {s : Wn}
theorem WinB.stay(h:WinB sp now a0 C v ps Ow G x w)(hx:w'.heap[x]?=w.heap[x]?)(hk:∀k,G k->w'.heap[k]?=w.heap[k]?)(hz:w.heap.size<=w'.heap.size):WinB sp now a0 C v ps Ow G x w':=
 ⟨hx.trans h.blk,h.ring.stay (jsP_stay sp) hk hz,h.at0,h.n60,h.out⟩
theorem WinB.keep(h:WinB sp now a0 C v ps Ow G x w)(hb:Below w.heap.size w w'):WinB sp now a0 C v ps Ow G x w':=h.stay (hb.block x h.blk.lt) (fun k hk=>hb.block k (h.ring.low k hk)) hb.size
theorem win_stay(sp:Spk)(s:Wn)(x:Nat):Stay (WinAt sp s x) where
 stay:=fun⟨a0,C,v,ps,Ow,G,h1,h2,h3,h4,h5⟩ hk hz=>⟨a0,C,v,ps,Ow,G,h1.stay (hk x h3) (fun k e=>hk k (h4 k e)) hz,h2,h3,h4,fun k h=>Nat.lt_of_lt_of_le (h5 k h) hz⟩
 more:=fun⟨a0,C,v,ps,Ow,G,h1,h2,h3,h4,_⟩ h hl=>⟨a0,C,v,ps,Ow,G,h1,h2,h x h3,fun k e=>h k (h4 k e),hl⟩
 low:=fun⟨_,_,_,_,_,_,_,_,_,_,h5⟩=>h5
theorem WinB.pos(h:WinB sp now a0 C v ps Ow G x w):0<C.length:=by have:=h.at0;omega
theorem WinB.c7(h:WinB sp now a0 C v ps Ow G x w):w.cell? ⟨x,7,none⟩=some v:=by have:=h.blk.cell 7;revert this;cases sp<;>exact id
theorem WinB.c8(h:WinB sp now a0 C v ps Ow G x w):w.cell? ⟨x,8,none⟩=some (.int .i64 a0):=by have:=h.blk.cell 8;revert this;cases sp<;>exact id
theorem WinB.c9(h:WinB sp now a0 C v ps Ow G x w):w.cell? ⟨x,9,none⟩=some (.int .u64 now):=by have:=h.blk.cell 9;revert this;cases sp<;>exact id
theorem win_now(w:World)(h:WinB sp now a0 C v ps Ow G x w):Calls Tryz.prog 48 #[.pointer (some ⟨x,0,none⟩)] w fun e w'=>e=.returned (.int .u64 now)/\w=w':=by
 have c9:=h.c9
 clear h
 go_enter Tryz.func48,Tryz.ntmps48
 go_wp2_with fail
 go_ret
 exact⟨rfl,rfl⟩
theorem win_slots(w:World)(h:WinB sp now a0 C v ps Ow G x w):Calls Tryz.prog 119 #[.pointer (some ⟨x,0,none⟩)] w fun e w'=>e=.returned (.int .i64 C.length)/\w=w':=by
 have c7:=h.c7
 obtain⟨g,c,rfl,_⟩:=h.ring.pos h.pos
 clear h
 go_enter Tryz.func119,Tryz.ntmps119
 go_wp2_with fail
 go_ret
 exact⟨rfl,rfl⟩
theorem plc_int{a:Nat}(h0:a0<C.length)(ha:a<C.length):((a0:Int)+(C.length:Int) - (a:Int)) % (C.length:Int)=((plc a0 C.length a:Nat):Int):=by
 unfold plc
 rw[Int.natCast_emod]
 congr 1
 omega
theorem win_place(a:Nat)(w:World)(h:WinB sp now a0 C v ps Ow G x w)(ha:a<C.length):Calls Tryz.prog 217 #[.pointer (some ⟨x,0,none⟩),.int .i64 a] w fun e w'=>e=.returned (.int .i64 (plc a0 C.length a:Nat))/\Below w.heap.size w w':=by
 have HP:=Lib.hid (plc_int h.at0 ha)
 have h0:=h.at0
 have h6:=h.n60
 have c7:=h.c7
 have c8:=h.c8
 obtain⟨g,c,rfl,_⟩:=h.ring.pos h.pos
 have hn:¬(C.length:Int)=0:=by omega
 clear h
 go_enter Tryz.func217,Tryz.ntmps217
 go_wp2_with fail
 go_quiet (fail)
 go_wp2_with fail
 go_ret
 refine⟨?_,by(repeat' (first|(with_reducible exact Below.refl _ _)|(with_reducible refine Below.alloc ?_ ?_ _)|(with_reducible refine Below.drew ?_)|(with_reducible refine below_drewN ?_ _)|(with_reducible refine Below.setCell ?_ ?_ _)|(with_reducible refine below_of (by assumption) ?_ ?_)|go_size))⟩
 show Ending.returned (.int .i64 (((a0:Int)+(C.length:Int) - (a:Int)) % (C.length:Int)))=_
 rw[HP.out]
theorem win_slot(a:Nat)(w:World)(h:WinB sp now a0 C v ps Ow G x w)(ha:a<C.length):Calls Tryz.prog 117 #[.pointer (some ⟨x,0,none⟩),.int .i64 a] w fun e w'=>e=.returned (.pointer (some ⟨ps.getD (plc a0 C.length a) 0,0,none⟩))/\Below w.heap.size w w':=by
 have CP:=Lib.hid (win_place a w.drew (h.keep (Below.refl _ _).drew) ha)
 have c7:=h.c7
 obtain⟨g,c,rfl,hg,h1,h2,_,_,hc⟩:=h.ring.pos h.pos
 have hp:=plc_lt (a0:=a0) (a:=a) h.pos
 have cg:w.cell? ⟨g,plc a0 C.length a,none⟩=some (.pointer (some ⟨ps.getD (plc a0 C.length a) 0,0,none⟩)):=hc _ hp
 have lx:=h.blk.lt
 have CC:=Lib.hid (And.intro c7 cg)
 generalize plc a0 C.length a=i at *
 generalize ps.getD i 0=y at *
 have hi:(i:Int)<(C.length:Int):=by omega
 have hi0:0<=(i:Int):=by omega
 clear h c7 cg hc hp
 go_enter Tryz.func117,Tryz.ntmps117
 go_upto_region 1 with fail
 refine wp_region_plan (Below w.heap.size w) [(0,true),(1,true),(2,true),(3,true),(4,true),(5,true),(6,false),(7,true),(8,true),(9,true)] (by kernel_rfl) (by kernel_rfl) ((Below.refl _ _).drew) ?_
 iterate 6
  refine wpPlan_read (by rfl) (by rfl) (fun R hR=>?_)
  apply Exists.intro
  refine⟨fun w' hS'=>?_,?_⟩
  ·have c7:=(hS'.cell (p:=⟨x,7,none⟩) lx).trans CC.out.1
   have cg:=(hS'.cell (p:=⟨g,i,none⟩) hg).trans CC.out.2
   go_simp
   exact⟨rfl,rfl⟩
  go_simp
  refine hR _ ?_
  clear hR R
 refine wpPlan_do (by rfl) (by rfl) (fun K hK=>?_)
 go_simp
 refine(CP.out).mono ?_
 rintro e w2 ⟨rfl,hb2⟩
 have B2:Below w.heap.size w w2:=(Below.refl _ _).drew.trans hb2
 refine hK _ _ (B2) ?_
 clear hK K
 iterate 3
  refine wpPlan_read (by rfl) (by rfl) (fun R hR=>?_)
  apply Exists.intro
  refine⟨fun w' hS'=>?_,?_⟩
  ·have c7:=(hS'.cell (p:=⟨x,7,none⟩) lx).trans CC.out.1
   have cg:=(hS'.cell (p:=⟨g,i,none⟩) hg).trans CC.out.2
   go_simp
   exact⟨rfl,rfl⟩
  go_simp
  refine hR _ ?_
  clear hR R
 refine wpPlan_nil ?_
 go_wp2_with fail
 go_ret
 exact⟨rfl,B2⟩
end
open Go.RowKit Go.Lib Go.Shelf
theorem win_spec_c{x:Nat}{v u1 u2:Value}{kd lo hi dg ac sz:Int}{gr:Bool}(w:World)(h:Blk w x 199 #[.int .u8 kd,.int .i64 lo,.int .i64 hi,.int .i64 dg,.bool gr,.int .i64 ac,.int .i64 sz,v,u1,u2]) :
 Calls Tryz.prog 118 #[.pointer (some ⟨x,0,none⟩)] w fun e w'=>e=.returned (specV kd lo hi dg gr ac sz)/\Below w.heap.size w w':=by
 unfold specV
 have HX:=Lib.hid h
 clear h
 obtain⟨b,hbb⟩:∃b,w.heap.size=b:=⟨_,rfl⟩
 obtain⟨w0,hw0⟩:∃z,w.alloc (.cells #[.int .u8 0,.int .i64 0,.int .i64 0,.int .i64 0,.bool false,.int .i64 0,.int .i64 0] 34)=z:=⟨_,rfl⟩
 have hb0:Below w.heap.size w w0:=by rw[<-hw0];(repeat' (first|(with_reducible exact Below.refl _ _)|(with_reducible refine Below.alloc ?_ ?_ _)|(with_reducible refine Below.drew ?_)|(with_reducible refine below_drewN ?_ _)|(with_reducible refine Below.setCell ?_ ?_ _)|(with_reducible refine below_of (by assumption) ?_ ?_)|go_size))
 have D2:Hid (Blk w0 b 34 #[.int .u8 0,.int .i64 0,.int .i64 0,.int .i64 0,.bool false,.int .i64 0,.int .i64 0]):=by rw[<-hw0,<-hbb];exact Lib.hid (Blk.new _ _ _)
 have HBB:=Lib.hid hbb
 go_enter Tryz.func118,Tryz.ntmps118
 go_upto_region 1 with fail
 clear hw0 hbb
 have X0:=HX.out.keep hb0
 have f0:=X0.cell 0
 have f1:=X0.cell 1
 have f2:=X0.cell 2
 have f3:=X0.cell 3
 have f4:=X0.cell 4
 have f5:=X0.cell 5
 have f6:=X0.cell 6
 have y0:=D2.out.frozen 0
 have y1:=D2.out.frozen 1
 have y2:=D2.out.frozen 2
 have y3:=D2.out.frozen 3
 have y4:=D2.out.frozen 4
 have y5:=D2.out.frozen 5
 have y6:=D2.out.frozen 6
 have x0:=D2.out.cell 0
 have x1:=D2.out.cell 1
 have x2:=D2.out.cell 2
 have x3:=D2.out.cell 3
 have x4:=D2.out.cell 4
 have x5:=D2.out.cell 5
 have x6:=D2.out.cell 6
 simp only[List.getElem?_toArray,List.getElem?_cons_zero,List.getElem?_cons_succ] at f0 f1 f2 f3 f4 f5 f6 x0 x1 x2 x3 x4 x5 x6
 clear X0
 go_wp2_with fail
 have hlt:=D2.out.lt
 have E:=((((((D2.out.set_ 0 (.int .u8 kd)).set_ 1 (.int .i64 lo)).set_ 2 (.int .i64 hi)).set_ 3 (.int .i64 dg)).set_ 4 (.bool gr)).set_ 5 (.int .i64 ac)).set_ 6 (.int .i64 sz)
 have c0:=E.cell 0
 have c1:=E.cell 1
 have c2:=E.cell 2
 have c3:=E.cell 3
 have c4:=E.cell 4
 have c5:=E.cell 5
 have c6:=E.cell 6
 simp only[List.setIfInBounds_toArray,List.set_cons_zero,List.set_cons_succ,List.getElem?_toArray,List.getElem?_cons_zero,List.getElem?_cons_succ] at c0 c1 c2 c3 c4 c5 c6
 refine bodyPost_ret (by simp[results,Tryz.results118,go_sem, *];try rfl) rfl ?_
 have hbb:=HBB.out
 exact⟨rfl,((((((hb0.setCell (p:=⟨b,0,none⟩) (by show _<=b;omega) _).setCell (p:=⟨b,1,none⟩) (by show _<=b;omega) _).setCell (p:=⟨b,2,none⟩) (by show _<=b;omega) _).setCell (p:=⟨b,3,none⟩) (by show _<=b;omega) _).setCell (p:=⟨b,4,none⟩) (by show _<=b;omega) _).setCell (p:=⟨b,5,none⟩) (by show _<=b;omega) _).setCell (p:=⟨b,6,none⟩) (by show _<=b;omega) _⟩
section
variable {sp : Spk} {now a0 x n a : Nat} {C : List Js} {v : Value} {ps : List Nat} {Ow : Nat -> Ft} {G F H : Ft} {w w' : World} {s : Wn} {cq : Value} {B : List Int}
theorem win_spec(w:World)(h:WinB sp now a0 C v ps Ow G x w):Calls Tryz.prog 118 #[.pointer (some ⟨x,0,none⟩)] w fun e w'=>e=.returned sp.v/\Below w.heap.size w w':=by
 have hB:=h.blk
 cases sp with
 | h lo hi dg u m gr=>exact win_spec_c w hB
 | d a m=>exact win_spec_c w hB
 | t d=>exact win_spec_c w hB
 | k q=>exact win_spec_c w hB
theorem WinB.js(h:WinB sp now a0 C v ps Ow G x w)(hL:s.L=rot sp.new a0 C){i:Nat}(hi:i<C.length):JsAt sp (s.L.getD i sp.new) (ps.getD (plc a0 C.length i) 0) (Ow (plc a0 C.length i)) w:=by
 rw[hL,rot_getD hi]
 exact h.ring.each _ (plc_lt h.pos)
theorem win_turn{c':Js}{i:Nat}(h:WinB sp s.now a0 C v ps Ow G x w)(hL:s.L=rot sp.new a0 C)(hFx:F x)(hGF:∀k,G k->F k)(hF:∀k,F k->k<w.heap.size)(hi:i<C.length)
 (hn:JsAt sp c' (ps.getD (plc a0 C.length i) 0) (Gr (Ow (plc a0 C.length i)) w w') w') (ht:Touch (fun k=>Ow (plc a0 C.length i) k\/H k) w w') (hd:∀k,H k->¬F k) :
 WinAt sp {s with L:=s.L.set i c'} x (Gr F w w') w'/\Touch (fun k=>F k\/H k) w w':=by
 have hx:¬(Ow (plc a0 C.length i) x\/H x):=fun e=>e.elim (fun e=>h.out (h.ring.inn _ _ e)) (fun e=>hd x e hFx)
 refine⟨⟨a0,C.set (plc a0 C.length i) c',v,ps,updF Ow (plc a0 C.length i) (Gr (Ow (plc a0 C.length i)) w w'),Gr G w w',⟨(ht.block x h.blk.lt hx).trans h.blk,h.ring.turn (jsP_stay sp) (plc_lt h.pos) hn ht (fun k h1 h2=>hd k h1 (hGF k h2)),by rw[List.length_set];exact h.at0,by rw[List.length_set];exact h.n60,fun e=>e.elim h.out (fun e=>by have:=h.blk.lt;omega)⟩,?_,.inl hFx,fun k e=>e.imp (hGF k) id,gr_lt hF ht.size⟩,ht.mono fun k e=>e.imp (fun e=>hGF k (h.ring.inn _ _ e)) id⟩
 rw[rot_set h.at0 hi,<-hL]
theorem win_add(v n:Int)(w:World)(h:WinAt sp s x F w)(ok:∀c∈s.L,JsOk sp c)(hc:CnAt cq B a H w)(hq:(∃q,sp=.k q)->cq≠.pointer none)(hd:∀k,H k->¬F k)(v0:-9223372036854775808<=v)(v1:v<=9223372036854775807)(n0:0<=n)(n1:n<18446744073709551616) :
 Calls Tryz.prog 115 #[.pointer (some ⟨x,0,none⟩),.int .i64 v,.int .u64 n,cq] w (MutC (WinAt sp (waddS sp B v n s a) x) (CnAt cq B (jadS sp B v n (s.L.getD 0 sp.new) a).2) F H (waddE sp s v n) w):=by
 obtain⟨a0,C,vr,ps,Ow,G,h1,h2,h3,h4,h5⟩:=h
 have hmf:∀(fn:Fn) (first cap:Array Value) (w:World),(Instr.makeFunc fn first cap).run Tryz.prog w=.ok (.func fn first cap) w:=fun _ _ _ _=>rfl
 have hpos:=h1.pos
 have C1:=Lib.hid (win_slot 0 w h1 hpos)
 have hok:JsOk sp (s.L.getD 0 sp.new):=by rw[h2,rot_getD hpos];exact ok _ (by rw[h2];have:=List.getElem_mem (l:=rot sp.new a0 C) (n:=0) (by rw[rot_length];exact hpos);rwa [rot_get,List.getD_eq_getElem?_getD,List.getElem?_eq_getElem (plc_lt hpos),Option.getD_some] at this)
 have hdO:∀k,H k->¬Ow (plc a0 C.length 0) k:=fun k e1 e2=>hd k e1 (h4 k (h1.ring.inn _ _ e2))
 have C2:Hid (∀w2,Below w.heap.size w w2->Calls Tryz.prog 56 #[.pointer (some ⟨ps.getD (plc a0 C.length 0) 0,0,none⟩),.int .i64 v,.int .u64 n,cq] w2 fun e w'=>MutC (WinAt sp (waddS sp B v n s a) x) (CnAt cq B (jadS sp B v n (s.L.getD 0 sp.new) a).2) F H (waddE sp s v n) w e w'):=Lib.hid (fun w2 hb=>by
  have h1':=h1.keep hb
  refine(js_add v n w2 (h1'.js h2 hpos) hok (hc.keep hb) hq hdO v0 v1 n0 n1).mono ?_
  intro e w' hm
  have h5':∀k,F k->k<w2.heap.size:=fun k hk=>Nat.lt_of_lt_of_le (h5 k hk) hb.size
  obtain⟨t1,t2⟩:=win_turn h1' h2 h3 h4 h5' hpos hm.2.1 hm.2.2.2 hd
  exact mutc_after (win_stay sp _ x) hb h5 ⟨hm.1,t1,hm.2.2.1,t2⟩)
 clear h1 h2 h3 h4 h5 ok hc hq hd hok hdO hpos
 generalize ps.getD (plc a0 C.length 0) 0=y at *
 go_enter Tryz.func115,Tryz.ntmps115
 go_wp2_with fail
 refine(C1.out).mono ?_
 rintro e w2 ⟨rfl,hb⟩
 have D:=Lib.hid (C2.out w2 hb)
 clear hb
 go_wp2_with fail
 refine(D.out).mono ?_
 intro e w' hm
 obtain⟨rfl,m2⟩:=hm
 have M:=Lib.hid m2
 clear m2
 go_wp2_with fail
 go_ret
 exact⟨rfl,M.out⟩
theorem win_text_no(i:Int)(w:World)(h:WinB sp now a0 C v ps Ow G x w)(hi:i<0\/(C.length:Int)<=i):Calls Tryz.prog 120 #[.pointer (some ⟨x,0,none⟩),.int .i64 i] w fun e w'=>e=.returned (.tuple #[.slice none 0 0,.bool false])/\Below w.heap.size w w':=by
 have c7:=h.c7
 obtain⟨g,c,rfl,_⟩:=h.ring.pos h.pos
 clear h
 rcases hi with hi|hi
 ·go_enter Tryz.func120,Tryz.ntmps120
  go_wp2_with fail
  refine bodyPost_ret (by simp[results,Tryz.results120,go_sem, *];try rfl) rfl ?_
  exact⟨rfl,by(repeat' (first|(with_reducible exact Below.refl _ _)|(with_reducible refine Below.alloc ?_ ?_ _)|(with_reducible refine Below.drew ?_)|(with_reducible refine below_drewN ?_ _)|(with_reducible refine Below.setCell ?_ ?_ _)|(with_reducible refine below_of (by assumption) ?_ ?_)|go_size))⟩
 ·by_cases h0:i<0
  ·go_enter Tryz.func120,Tryz.ntmps120
   go_wp2_with fail
   refine bodyPost_ret (by simp[results,Tryz.results120,go_sem, *];try rfl) rfl ?_
   exact⟨rfl,by(repeat' (first|(with_reducible exact Below.refl _ _)|(with_reducible refine Below.alloc ?_ ?_ _)|(with_reducible refine Below.drew ?_)|(with_reducible refine below_drewN ?_ _)|(with_reducible refine Below.setCell ?_ ?_ _)|(with_reducible refine below_of (by assumption) ?_ ?_)|go_size))⟩
  ·have h1:i>=(C.length:Int):=hi
   go_enter Tryz.func120,Tryz.ntmps120
   go_wp2_with fail
   refine bodyPost_ret (by simp[results,Tryz.results120,go_sem, *];try rfl) rfl ?_
   exact⟨rfl,by(repeat' (first|(with_reducible exact Below.refl _ _)|(with_reducible refine Below.alloc ?_ ?_ _)|(with_reducible refine Below.drew ?_)|(with_reducible refine below_drewN ?_ _)|(with_reducible refine Below.setCell ?_ ?_ _)|(with_reducible refine below_of (by assumption) ?_ ?_)|go_size))⟩
theorem win_text(i:Nat)(w:World)(h:WinB sp now a0 C v ps Ow G x w)(hL:s.L=rot sp.new a0 C)(ok:∀c∈s.L,JsOk sp c)(hi:i<C.length):Calls Tryz.prog 120 #[.pointer (some ⟨x,0,none⟩),.int .i64 i] w fun e w'=>∃u,e=.returned (.tuple #[u,.bool true])/\OwnB w.heap.size w' u (jtxt sp (s.L.getD i sp.new))/\Below w.heap.size w w':=by
 have c7:=h.c7
 have C1:=Lib.hid (win_slot i w h hi)
 have hok:JsOk sp (s.L.getD i sp.new):=by rw[List.getD_eq_getElem?_getD,List.getElem?_eq_getElem (by rw[hL,rot_length];exact hi),Option.getD_some];exact ok _ (List.getElem_mem _)
 have C2:Hid (∀w2,Below w.heap.size w w2->_):=Lib.hid (fun w2 hb=>js_text w2 ((h.keep hb).js hL hi) hok)
 obtain⟨g,c,rfl,_⟩:=h.ring.pos h.pos
 have h0:¬((i:Int)<0):=by omega
 have h1:¬((i:Int)>=(C.length:Int)):=by omega
 clear h hL ok hok
 generalize ps.getD (plc a0 C.length i) 0=y at *
 generalize jtxt sp (s.L.getD i sp.new)=T at *
 go_enter Tryz.func120,Tryz.ntmps120
 go_wp2_with fail
 refine(C1.out).mono ?_
 rintro e w2 ⟨rfl,hb⟩
 have D:=Lib.hid (C2.out w2 hb)
 have HB:=Lib.hid hb
 clear hb
 go_wp2_with fail
 refine(D.out).mono ?_
 rintro e w3 ⟨u,rfl,o3,hb3⟩
 have O3:=Lib.hid (ownB_E.2 ((ownB_E.1 o3).more HB.out.size))
 have HB3:=Lib.hid (HB.out.trans (hb3.mono HB.out.size))
 clear o3 hb3
 go_wp2_with fail
 refine bodyPost_ret (by simp[results,Tryz.results120,go_sem, *];try rfl) rfl ?_
 exact⟨u,rfl,O3.out,HB3.out⟩
end
end Go.Proofs.YtkiebccnpheloaaGreat.D
