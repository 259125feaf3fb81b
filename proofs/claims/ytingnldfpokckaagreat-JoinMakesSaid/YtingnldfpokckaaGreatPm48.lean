/- Parts of a proof: what its theorem reaches, words cut short. No condition of its own. -/
import Derived.Test.YtingnldfpokckaaGreatPm47
set_option maxRecDepth 100000
set_option maxHeartbeats 16000000
set_option linter.unusedVariables false
set_option linter.unusedSimpArgs false
namespace Go.Proofs.YtingnldfpokckaaGreat.D
open Go.RowKit Go.Lib Go.Shelf
theorem js_take_nil(x q:Value)(w:World):Calls Tryz.prog 9 #[x,.pointer none,q] w fun e w'=>e=.returned (.int .i64 1)/\w=w':=by
 go_enter Tryz.func9,Tryz.ntmps9
 go_wp2_with fail
 go_ret
 exact⟨rfl,rfl⟩
theorem js_take_ne{sp tp:Spk}{c t:Js}{x y:Nat}{F Fy:Ft}{q:Value}(w:World)(h:JsAt sp c x F w)(h2:JsAt tp t y Fy w)(ok:JsOk sp c)(ok2:JsOk tp t)(hne:sp.v≠tp.v) :
 Calls Tryz.prog 9 #[.pointer (some ⟨x,0,none⟩),.pointer (some ⟨y,0,none⟩),q] w fun e w'=>e=.returned (.int .i64 3)/\Below w.heap.size w w':=by
 have C2:=Lib.hid (js_spec w h2 ok2)
 have C1:Hid (∀W,Below w.heap.size w W->_):=Lib.hid (fun W hb=>js_spec W ((js_stay sp c x).keep h hb) ok)
 obtain⟨k1,l1,h1,d1,a1,s1,g1,e1,_⟩:=sp.form
 obtain⟨k2,l2,h2',d2,a2,s2,g2,e2,_⟩:=tp.form
 rw[e1,e2] at hne
 rw[e1] at C1
 rw[e2] at C2
 unfold specV at C1 C2 hne
 have hn7:¬(k2=k1/\l2=l1/\h2'=h1/\d2=d1/\g2=g1/\a2=a1/\s2=s1):=fun⟨a,b,c,d,e,f,g⟩=>hne (by subst a b c d e f g;rfl)
 have HNE:Hid (∀W:World,((if k2=k1 then if l2=l1 then if h2'=h1 then if d2=d1 then if g2=g1 then if a2=a1 then if s2=s1 then Result.ok (Next.value (Value.bool false)) W else Result.ok (Next.value (Value.bool true)) W else Result.ok (Next.value (Value.bool true)) W else Result.ok (Next.value (Value.bool true)) W else Result.ok (Next.value (Value.bool true)) W else Result.ok (Next.value (Value.bool true)) W else Result.ok (Next.value (Value.bool true)) W else Result.ok (Next.value (Value.bool true)) W):Result Next)=Result.ok (Next.value (Value.bool true)) W):=Lib.hid (by
  intro W
  repeat' split
  all_goals first|rfl|exact absurd ⟨‹_›,‹_›,‹_›,‹_›,‹_›,‹_›,‹_›⟩ hn7)
 clear h h2 ok ok2 e1 e2 hne hn7
 go_enter Tryz.func9,Tryz.ntmps9
 go_wp2_with fail
 refine(C2.out).mono ?_
 rintro e w1 ⟨rfl,hb1⟩
 have C3:=Lib.hid (C1.out w1 hb1)
 have HB1:=Lib.hid hb1
 clear hb1 C1
 go_wp2_with fail
 refine(C3.out).mono ?_
 rintro e w2 ⟨rfl,hb2⟩
 have HB2:=Lib.hid (HB1.out.trans (hb2.mono HB1.out.size))
 clear hb2
 have hite:=HNE.out w2
 go_wp2_with fail
 go_ret
 exact⟨rfl,HB2.out⟩
open Go.RowKit Go.Lib Go.Shelf
theorem jtk_new{sp:Spk}(ok:SpOk sp):(jtkS sp [] sp.new sp.new 0).1=sp.new/\jtkE sp sp.new sp.new=0/\∀q,sp=.k q->K.fullN q (K.takeL sp.new.L sp.new.L)=none:=by
 refine⟨?_,jtkE_new (new_ok ok),fun q e=>?_⟩
 ·have e0:=jtkE_new (new_ok ok)
  cases sp with
  | h lo hi dg u m gr=>
   have e1:htE ([]:List Pr) []=0:=e0
   show({(Spk.h lo hi dg u m gr).new with bk:=htB [] [] _ _,l:=htL [] []}:Js)=_
   unfold htB htL
   rw[if_pos e1,if_pos e1,Nat.max_self]
   rfl
  | d a m=>rfl
  | t d=>
   have e1:takeE St.zero St.zero=0:=e0
   show(if takeE St.zero St.zero=0 then({(Spk.t d).new with s:=St.zero.take d St.zero}:Js) else(Spk.t d).new)=_
   rw[if_pos e1]
   have e2:St.zero.take d St.zero=St.zero:=by unfold St.take;rw[if_pos (show Go.Proofs.YtingnldfpokckaaGreat.tot (St.zero.L++St.zero.W)=0 from rfl)]
   rw[e2];rfl
  | k q=>
   have h:KOk q [] 0:=new_ok ok
   have e2:K.takeS q [] ([],0) ([],0,0)=([],0,0):=by
    unfold K.takeS
    rw[if_pos (by rfl)]
    exact K.packA_none (s:=(([]:K.LL),0,0)) h.fit.none
   show({(Spk.k q).new with L:=(K.takeS q [] ([],0) ([],0,0)).1,led:=(K.takeS q [] ([],0) ([],0,0)).2.1}:Js)=_
   rw[e2];rfl
 ·subst e
  have h:=new_ok ok
  have h2:KOk q [] 0:=h
  exact h2.fit.none
open Go.RowKit Go.Lib Go.Shelf
theorem same27_c{sp:Spk}{c:Js}{x y:Nat}{F G:Ft}{kd lo hi dg ac sz:Int}{gr:Bool}(hv:sp.v=specV kd lo hi dg gr ac sz)(hcs:sp.cs=[.int .u8 kd,.int .i64 lo,.int .i64 hi,.int .i64 dg,.bool gr,.int .i64 ac,.int .i64 sz])(w:World)(h:JsAt sp c x F w)(h2:RJsAt sp c y G w)(ok:JsOk sp c) :
 Calls Tryz.prog 10 #[.pointer (some ⟨x,0,none⟩),.pointer (some ⟨y,0,none⟩)] w fun e w'=>e=.returned (.bool true)/\Below w.heap.size w w':=by
 have XS:=Lib.hid (fun W (hb:Below w.heap.size w W)=>js_spec W ((js_stay sp c x).keep h hb) ok)
 have XT:=Lib.hid (fun W (hb:Below w.heap.size w W)=>js_total W ((js_stay sp c x).keep h hb) ok)
 have XR:=Lib.hid (fun W (hb:Below w.heap.size w W)=>rjs_total W ((rjs_stay sp c y).keep h2 hb) ok)
 have XX:=Lib.hid (fun W (hb:Below w.heap.size w W)=>js_text W ((js_stay sp c x).keep h hb) ok)
 have XY:=Lib.hid (fun W (hb:Below w.heap.size w W)=>rjs_text W ((rjs_stay sp c y).keep h2 hb) ok)
 obtain⟨p,G2,hB,_⟩:=h2
 have ly:=hB.lt
 rw[hcs] at hB
 have f0:=hB.cell 0
 have f1:=hB.cell 1
 have f2:=hB.cell 2
 have f3:=hB.cell 3
 have f4:=hB.cell 4
 have f5:=hB.cell 5
 have f6:=hB.cell 6
 simp only[List.cons_append,List.nil_append,List.getElem?_toArray,List.getElem?_cons_zero,List.getElem?_cons_succ] at f0 f1 f2 f3 f4 f5 f6
 have FF:=Lib.hid (And.intro f0 (And.intro f1 (And.intro f2 (And.intro f3 (And.intro f4 (And.intro f5 f6))))))
 rw[hv] at XS
 unfold specV at XS
 obtain⟨tt,htt⟩:∃q,jtot sp c=q:=⟨_,rfl⟩
 obtain⟨tx,htx⟩:∃q,jtxt sp c=q:=⟨_,rfl⟩
 rw[htt] at XT XR
 rw[htx] at XX XY
 obtain⟨st,hst⟩:∃q,strOfNums tx=q:=⟨_,rfl⟩
 have HST:=Lib.hid hst
 have htt2:(tt == tt)=true:=by simp
 clear h hB hv hcs ok htt htx hst f0 f1 f2 f3 f4 f5 f6
 go_enter Tryz.func10,Tryz.ntmps10
 go_upto_region 1 with fail
 have FBq:=Lib.hid (fun w' (hS':(fun w'=>Below w.heap.size w w') w')=>(And.intro ((hS'.cell (p:=⟨y,0,none⟩) ly).trans FF.out.1) (And.intro ((hS'.cell (p:=⟨y,1,none⟩) ly).trans FF.out.2.1) (And.intro ((hS'.cell (p:=⟨y,2,none⟩) ly).trans FF.out.2.2.1) (And.intro ((hS'.cell (p:=⟨y,3,none⟩) ly).trans FF.out.2.2.2.1) (And.intro ((hS'.cell (p:=⟨y,4,none⟩) ly).trans FF.out.2.2.2.2.1) (And.intro ((hS'.cell (p:=⟨y,5,none⟩) ly).trans FF.out.2.2.2.2.2.1) ((hS'.cell (p:=⟨y,6,none⟩) ly).trans FF.out.2.2.2.2.2.2))))))))
 refine wp_region_tree (fun w'=>Below w.heap.size w w') (.rd 0 (.rd 2 (.rd 3 (.rd 4 (.rd 5 (.ef 1 (.rd 6 (.rd 7 (.rd 8 (.rd 10 (.ef 9 (.ef 11 (.rd 12 (.rd 13 (.rd 14 (.rd 15 (.rd 18 (.ef 16 (.two 17 19 (.ef 19 (.ef 20 (.rd 21 (.rd 22 (.rd 23 .nil))))) (.two 17 20 (.ef 20 (.rd 21 (.rd 22 (.rd 23 .nil)))) (.ef 17 (.rd 21 (.rd 22 (.rd 23 .nil)))))))))))))))))))))))) (by kernel_rfl) (by kernel_rfl) ((Below.refl _ _).drew) ?_
 iterate 5
  refine wpTr_read (by rfl) (by rfl) (fun R hR=>?_)
  apply Exists.intro
  refine⟨fun w' hS'=>?_,?_⟩
  ·obtain⟨f0,f1,f2,f3,f4,f5,f6⟩:=FBq.out w' hS'
   go_simp
   exact⟨rfl,rfl⟩
  go_simp
  refine hR _ ?_
  clear hR R
 refine wpTr_do (by rfl) (by rfl) (fun K hK=>?_)
 go_simp
 refine(XS.out _ (Below.refl _ _).drew).mono ?_
 rintro e w1 ⟨rfl,hb1⟩
 have B1:Below w.heap.size w w1:=(Below.refl _ _).drew.trans hb1
 refine hK _ _ (B1) ?_
 clear hK K
 iterate 4
  refine wpTr_read (by rfl) (by rfl) (fun R hR=>?_)
  apply Exists.intro
  refine⟨fun w' hS'=>?_,?_⟩
  ·obtain⟨f0,f1,f2,f3,f4,f5,f6⟩:=FBq.out w' hS'
   go_simp
   exact⟨rfl,rfl⟩
  go_simp
  refine hR _ ?_
  clear hR R
 refine wpTr_do (by rfl) (by rfl) (fun K hK=>?_)
 go_simp
 refine(XT.out w1 B1).mono ?_
 rintro e w2 ⟨rfl,rfl⟩
 refine hK _ _ (B1) ?_
 clear hK K
 refine wpTr_do (by rfl) (by rfl) (fun K hK=>?_)
 go_simp
 refine(XR.out w1 B1).mono ?_
 rintro e w3 ⟨rfl,hb3⟩
 have B3:Below w.heap.size w w3:=B1.trans (hb3.mono B1.size)
 refine hK _ _ (B3) ?_
 clear hK K
 iterate 5
  refine wpTr_read (by rfl) (by rfl) (fun R hR=>?_)
  apply Exists.intro
  refine⟨fun w' hS'=>?_,?_⟩
  ·obtain⟨f0,f1,f2,f3,f4,f5,f6⟩:=FBq.out w' hS'
   go_simp
   exact⟨rfl,rfl⟩
  go_simp
  refine hR _ ?_
  clear hR R
 refine wpTr_do (by rfl) (by rfl) (fun K hK=>?_)
 go_simp
 refine(XX.out w3 B3).mono ?_
 rintro e w4 ⟨v4,rfl,o4,hb4⟩
 have B4:Below w.heap.size w w4:=B3.trans (hb4.mono B3.size)
 have ca:=conv_B (OwnI.rd o4)
 rw[HST.out] at ca
 refine hK _ _ (B4) ?_
 clear hK K
 refine wpTr_two (by rfl) (by rfl) (by rfl) (by rfl) (fun K hK=>?_) (fun K hK=>?_)
 go_simp
 refine hK _ _ (B4) ?_
 clear hK K
 refine wpTr_do (by rfl) (by rfl) (fun K hK=>?_)
 go_simp
 refine(XY.out w4 B4).mono ?_
 rintro e w5 ⟨v5,rfl,o5,hb5⟩
 have B5:Below w.heap.size w w5:=B4.trans (hb5.mono B4.size)
 have cb:=conv_B (OwnI.rd o5)
 rw[HST.out] at cb
 refine hK _ _ (B5) ?_
 clear hK K
 refine wpTr_do (by rfl) (by rfl) (fun K hK=>?_)
 go_simp
 refine hK _ _ (B5) ?_
 clear hK K
 iterate 3
  refine wpTr_read (by rfl) (by rfl) (fun R hR=>?_)
  apply Exists.intro
  refine⟨fun w' hS'=>?_,?_⟩
  ·obtain⟨f0,f1,f2,f3,f4,f5,f6⟩:=FBq.out w' hS'
   go_simp
   exact⟨rfl,rfl⟩
  go_simp
  refine hR _ ?_
  clear hR R
 refine wpTr_nil ?_
 rotate_left
 go_simp
 refine(XY.out w4 B4).mono ?_
 rintro e w5 ⟨v5,rfl,o5,hb5⟩
 have B5:Below w.heap.size w w5:=B4.trans (hb5.mono B4.size)
 have cb:=conv_B (OwnI.rd o5)
 rw[HST.out] at cb
 have cc:=conv_B (RdI.keep (OwnI.rd o4) hb5)
 rw[HST.out] at cc
 refine hK _ _ (B5) ?_
 clear hK K
 refine wpTr_two (by rfl) (by rfl) (by rfl) (by rfl) (fun K hK=>?_) (fun K hK=>?_)
 go_simp
 refine hK _ _ (B5) ?_
 clear hK K
 refine wpTr_do (by rfl) (by rfl) (fun K hK=>?_)
 go_simp
 refine hK _ _ (B5) ?_
 clear hK K
 iterate 3
  refine wpTr_read (by rfl) (by rfl) (fun R hR=>?_)
  apply Exists.intro
  refine⟨fun w' hS'=>?_,?_⟩
  ·obtain⟨f0,f1,f2,f3,f4,f5,f6⟩:=FBq.out w' hS'
   go_simp
   exact⟨rfl,rfl⟩
  go_simp
  refine hR _ ?_
  clear hR R
 refine wpTr_nil ?_
 rotate_left
 go_simp
 refine hK _ _ (B5) ?_
 clear hK K
 refine wpTr_do (by rfl) (by rfl) (fun K hK=>?_)
 go_simp
 refine hK _ _ (B5) ?_
 clear hK K
 iterate 3
  refine wpTr_read (by rfl) (by rfl) (fun R hR=>?_)
  apply Exists.intro
  refine⟨fun w' hS'=>?_,?_⟩
  ·obtain⟨f0,f1,f2,f3,f4,f5,f6⟩:=FBq.out w' hS'
   go_simp
   exact⟨rfl,rfl⟩
  go_simp
  refine hR _ ?_
  clear hR R
 refine wpTr_nil ?_
 all_goals
  try refine calm_normal ?_
  go_wp2_with fail
  refine bodyPost_ret (by simp[results,Tryz.results10,go_sem, *];try rfl) rfl ?_
  exact⟨by simp,B5⟩
theorem same27_any{sp:Spk}{c:Js}{x y:Nat}{F G:Ft}(w:World)(h:JsAt sp c x F w)(h2:RJsAt sp c y G w)(ok:JsOk sp c) :
 Calls Tryz.prog 10 #[.pointer (some ⟨x,0,none⟩),.pointer (some ⟨y,0,none⟩)] w fun e w'=>e=.returned (.bool true)/\Below w.heap.size w w':=by
 cases sp with
 | h lo hi dg u m gr=>exact same27_c rfl rfl w h h2 ok
 | d a m=>exact same27_c rfl rfl w h h2 ok
 | t d=>exact same27_c rfl rfl w h h2 ok
 | k q=>exact same27_c rfl rfl w h h2 ok
open Go.RowKit Go.Lib
def crS(c:Int):Int:=if bits .and .u32 c 1=1 then bits .xor .u32 (c / 2) 3988292384 else c / 2
def crN:Nat->Int->Int
 | 0,c=>c
 | k+1,c=>crS (crN k c)
def crT(i:Int):Int:=crN 8 i
def crF(c:Int):List Int->Int
 | []=>c
 | x::l=>crF (bits .xor .u32 (c / 256) (crT (bits .xor .u8 (c % 256) x))) l
def crC(l:List Int):Int:=bits .xor .u32 4294967295 (crF (bits .xor .u32 4294967295 0) l)
theorem bits_u32_bd(op:BinOp)(a b:Int):0<=bits op .u32 a b/\bits op .u32 a b<4294967296:=by
 unfold bits
 simp only[IntKind.wrap_u32]
 omega
theorem bits_u8_bd(op:BinOp)(a b:Int):0<=bits op .u8 a b/\bits op .u8 a b<256:=by
 unfold bits
 simp only[show ∀n:Int,IntKind.u8.wrap n=n % 256 from fun _=>rfl]
 omega
theorem crF_bd:∀(l:List Int) {c:Int},0<=c->c<4294967296->0<=crF c l/\crF c l<4294967296
 | [],_,h0,h1=>⟨h0,h1⟩
 | _::l,_,_,_=>crF_bd l (bits_u32_bd _ _ _).1 (bits_u32_bd _ _ _).2
theorem crF_snoc:∀(l:List Int) (c x:Int),crF c (l++[x])=bits .xor .u32 (crF c l / 256) (crT (bits .xor .u8 (crF c l % 256) x))
 | [],_,_=>rfl
 | y::l,c,x=>crF_snoc l _ x
def crTab(k:Nat):List Int:=(List.range k).map (fun i:Nat=>crT (i:Int))++List.replicate (256 - k) 0
theorem crTab_len{k:Nat}(h:k<=256):(crTab k).length=256:=by unfold crTab;simp;omega
theorem crTab_set{k:Nat}(h:k<256):(crTab k).set k (crT (k:Int))=crTab (k+1):=by
 unfold crTab
 have e:List.replicate (256 - k) (0:Int)=0::List.replicate (256 - (k+1)) 0:=by
  rw[show 256 - k=(256 - (k+1))+1 by omega,List.replicate_succ]
 rw[e,List.set_append,if_neg (by simp),List.range_succ,List.map_append,List.append_assoc]
 simp
theorem crTab_at{i:Nat}(h:i<256):(crTab 256)[i]?.getD 0=crT (i:Int):=by
 unfold crTab
 rw[List.getElem?_append_left (by simp;omega)]
 simp[h]
open Go.RowKit Go.Lib
theorem cstep_any(c:Int)(w:World):Calls Tryz.prog 349 #[.int .u32 c] w fun e w'=>e=.returned (.int .u32 (crS c))/\w=w':=by
 unfold crS
 by_cases h:bits .and .u32 c 1=1
 ·rw[if_pos h]
  go_enter Tryz.func349,Tryz.ntmps349
  go_wp2_with fail
  go_ret
  exact⟨rfl,rfl⟩
 ·rw[if_neg h]
  go_enter Tryz.func349,Tryz.ntmps349
  go_wp2_with fail
  go_ret
  exact⟨rfl,rfl⟩
def CrB(k:Nat)(w:World)(g:Nat):Prop:=Blk w g 368 ((crTab k).map (Value.int .u32)).toArray
theorem CrB.next{k g:Nat}{w:World}(h:CrB k w g)(hk:k<256):CrB (k+1) (w.setCell ⟨g,k,none⟩ (.int .u32 (crT k))) g:=by
 have h1:=Blk.set_ h k (.int .u32 (crT k))
 unfold CrB
 rw[<-crTab_set hk,List.map_set]
 rwa [List.setIfInBounds_toArray] at h1
theorem CrB.at_{k g i:Nat}{w:World}(h:CrB k w g)(hi:i<256)(hk:k<=256):∃v,w.cell? ⟨g,i,none⟩=some v:=by
 have h1:=Blk.cell h i
 rw[List.getElem?_toArray,List.getElem?_map,List.getElem?_eq_getElem (by rw[crTab_len hk];exact hi)] at h1
 exact⟨_,h1⟩
theorem CrB.tab{g i:Nat}{w:World}(h:CrB 256 w g)(hi:i<256):w.cell? ⟨g,i,none⟩=some (.int .u32 (crT i)):=by
 have h1:=Blk.cell h i
 have hl:i<(crTab 256).length:=by rw[crTab_len (by omega)];exact hi
 have h2:=crTab_at hi
 rw[List.getElem?_eq_getElem hl] at h2
 rw[List.getElem?_toArray,List.getElem?_map,List.getElem?_eq_getElem hl] at h1
 rw[h1]
 simp only[Option.getD_some] at h2
 rw[h2];rfl
theorem cfill_any(g:Nat)(w:World)(h:CrB 0 w g):Calls Tryz.prog 271 #[.pointer (some ⟨g,0,none⟩)] w fun e w'=>e=.returned (.tuple #[])/\CrB 256 w' g/\Touch (fun k=>k=g) w w':=by
 have H:=Lib.hid h
 clear h
 go_enter Tryz.func271,Tryz.ntmps271
 go_wp2_with fail
 go_loopg [2,3,4,9] 256 (fun q _ _ t4 _ wr=>∃i:Nat,q=256 - i/\i<=256/\t4=.int .i64 (i:Int)/\Hid (CrB i wr g)/\Hid (Touch (fun k=>k=g) w wr))
 case atStart=>exact⟨0,rfl,by omega,rfl,H,Lib.hid (Touch.refl _ _)⟩
 case round=>
  obtain⟨i,hq,hi,rfl,HB,HT⟩:=hrel
  have HQ:=Lib.hid hq
  clear hq
  by_cases hlt:i<256
  ·have hli:(i:Int)<256:=by omega
   have ei:IntKind.u32.wrap (i:Int)=i:=by show(i:Int) % 4294967296=i;omega
   go_wp2_with fail
   go_loopg [3,9] 8 (fun q c t9 wx=>(∃j:Nat,q=8 - j/\j<=8/\t9=.int .i64 (j:Int)/\c=.int .u32 (crN j i))/\wr=wx)
   case atStart=>exact⟨⟨0,rfl,by omega,rfl,rfl⟩,rfl⟩
   case round=>
    obtain⟨⟨j,hq,hj,rfl,rfl⟩,rfl⟩:=hrel
    have HQ2:=Lib.hid hq
    clear hq
    by_cases hjl:j<8
    ·have hji:(j:Int)<8:=by omega
     have C:=Lib.hid (cstep_any (crN j i) wr)
     go_wp2_with fail
     refine(C.out).mono ?_
     rintro e w' ⟨rfl,rfl⟩
     go_wp2_with fail
     go_roundg (8 - (j+1))
     case measure=>have:=HQ2.out;omega
     case rel=>exact⟨⟨j+1,rfl,by omega,by go_num,rfl⟩,rfl⟩
    ·obtain rfl:j=8:=by omega
     obtain⟨v,hv⟩:=HB.out.at_ hlt hi
     have hf:=Blk.frozen HB.out i
     obtain⟨y,hy⟩:∃y,crN 8 i=y:=⟨_,rfl⟩
     have HN:=Lib.hid (HB.out.next hlt)
     unfold crT at HN
     rw[hy] at HN |-
     clear hy
     go_wp2_with fail
     go_roundg (256 - (i+1))
     case measure=>have:=HQ.out;omega
     case rel=>exact⟨i+1,rfl,by omega,by go_num,HN,Lib.hid (HT.out.setCell (.inl rfl) _)⟩
  ·obtain rfl:i=256:=by omega
   go_wp2_with fail
   refine bodyPost_end (v:=.tuple #[]) (by simp[results,Tryz.results271,go_sem, *];try rfl) rfl ?_
   exact⟨rfl,HB.out,HT.out⟩
theorem crF_take{l:List Int}{j:Nat}(h:j<l.length)(c:Int):crF c (l.take (j+1))=bits .xor .u32 (crF c (l.take j) / 256) (crT (bits .xor .u8 (crF c (l.take j) % 256) l[j])):=by
 rw[List.take_succ_eq_append_getElem h,crF_snoc]
theorem cfeed_any(g:Nat)(c:Int)(v:Value)(bs:List Int)(w:World)(h:CrB 256 w g)(hr:RdI .u8 w v bs)(hl:bs.length<=1000000000000)(c0:0<=c)(c1:c<4294967296) :
 Calls Tryz.prog 393 #[.pointer (some ⟨g,0,none⟩),.int .u32 c,v] w fun e w'=>e=.returned (.int .u32 (crF c bs))/\w=w':=by
 have H:=Lib.hid h
 obtain⟨A,k,rfl,_,_,hf⟩:=hr.form
 have HF:=Lib.hid hf
 clear h hr hf
 go_enter Tryz.func393,Tryz.ntmps393
 go_wp2_with fail
 go_loopg [1,8,11] bs.length (fun q t1 _ t11 wr=>(∃j:Nat,q=bs.length - j/\j<=bs.length/\t11=.int .i64 (j:Int)/\t1=.int .u32 (crF c (bs.take j)))/\w=wr)
 case atStart=>exact⟨⟨0,rfl,by omega,rfl,rfl⟩,rfl⟩
 case round=>
  obtain⟨⟨j,hq,hj,rfl,rfl⟩,rfl⟩:=hrel
  have HQ:=Lib.hid hq
  clear hq
  by_cases hlt:j<bs.length
  ·have hli:(j:Int)<(bs.length:Int):=by omega
   obtain⟨gb,ob,rfl,hgb,e0⟩:=HF.out.at_ hlt
   have HC:=Lib.hid (crF_take hlt c)
   have hb:=crF_bd (bs.take j) c0 c1
   obtain⟨x,hx⟩:∃x,crF c (bs.take j)=x:=⟨_,rfl⟩
   obtain⟨y,hy⟩:∃y,bs[j]=y:=⟨_,rfl⟩
   rw[hx,hy] at HC
   rw[hx] at hb |-
   rw[hy] at e0
   clear hx hy
   have hi:=bits_u8_bd .xor (x % 256) y
   obtain⟨i,hi2⟩:∃i:Nat,bits .xor .u8 (x % 256) y=(i:Int):=⟨(bits .xor .u8 (x % 256) y).toNat,by omega⟩
   have hi3:i<256:=by omega
   have HI:=Lib.hid hi2
   rw[hi2] at HC
   have ht:=H.out.tab hi3
   have ew:IntKind.u8.wrap x=x % 256:=rfl
   clear hi
   have hii:(i:Int)<256:=by omega
   go_wp2_with fail
   go_roundg (bs.length - (j+1))
   case measure=>have:=HQ.out;omega
   case rel=>exact⟨⟨j+1,rfl,by omega,by go_num,by rw[HC.out]⟩,rfl⟩
  ·obtain rfl:j=bs.length:=by omega
   rw[List.take_length]
   go_wp2_with fail
   go_ret
   exact⟨rfl,rfl⟩
theorem cmore_any(g:Nat)(c:Int)(v:Value)(bs:List Int)(w:World)(h:CrB 256 w g)(hr:RdI .u8 w v bs)(hl:bs.length<=1000000000000) :
 Calls Tryz.prog 335 #[.pointer (some ⟨g,0,none⟩),.int .u32 c,v] w fun e w'=>e=.returned (.int .u32 (bits .xor .u32 4294967295 (crF (bits .xor .u32 4294967295 c) bs)))/\w=w':=by
 have hs:IntKind.u32.signed=false:=rfl
 have hm:IntKind.u32.max=4294967295:=rfl
 have F:=Lib.hid (cfeed_any g _ v bs w h hr hl (bits_u32_bd .xor 4294967295 c).1 (bits_u32_bd .xor 4294967295 c).2)
 clear h hr
 go_enter Tryz.func335,Tryz.ntmps335
 go_wp2_with fail
 refine(F.out).mono ?_
 rintro e w' ⟨rfl,rfl⟩
 go_wp2_with fail
 go_ret
 exact⟨rfl,rfl⟩
theorem csum_any(g:Nat)(v:Value)(bs:List Int)(w:World)(h:CrB 256 w g)(hr:RdI .u8 w v bs)(hl:bs.length<=1000000000000) :
 Calls Tryz.prog 266 #[.pointer (some ⟨g,0,none⟩),v] w fun e w'=>e=.returned (.int .u32 (crC bs))/\w=w':=by
 have F:=Lib.hid (cmore_any g 0 v bs w h hr hl)
 clear h hr
 go_enter Tryz.func266,Tryz.ntmps266
 go_upto_region 1 with fail
 go_wp2_with (go_at_call 335;refine(F.out).mono ?_;rintro e w' ⟨rfl,rfl⟩)
 go_ret
 exact⟨rfl,rfl⟩
theorem crb0:Tryz.zeroCells368=((crTab 0).map (Value.int .u32)).toArray:=by kernel_rfl
theorem cnew_any(w:World):Calls Tryz.prog 192 #[] w fun e w'=>∃g,e=.returned (.pointer (some ⟨g,0,none⟩))/\CrB 256 w' g/\w.heap.size<=g/\Below w.heap.size w w':=by
 go_enter Tryz.func192,Tryz.ntmps192
 go_upto_region 3 with fail
 rw[crb0]
 have hb1:Below w.heap.size w (w.alloc (.cells ((crTab 0).map (Value.int .u32)).toArray 368)):=by(repeat' (first|(with_reducible exact Below.refl _ _)|(with_reducible refine Below.alloc ?_ ?_ _)|(with_reducible refine Below.drew ?_)|(with_reducible refine below_drewN ?_ _)|(with_reducible refine Below.setCell ?_ ?_ _)|(with_reducible refine below_of (by assumption) ?_ ?_)|go_size))
 have C:=Lib.hid (cfill_any w.heap.size (w.alloc (.cells ((crTab 0).map (Value.int .u32)).toArray 368)) (Blk.new _ _ _))
 generalize w.alloc (.cells ((crTab 0).map (Value.int .u32)).toArray 368)=w1 at *
 go_wp2_with fail
 refine(C.out).mono ?_
 rintro e w2 ⟨rfl,h2,h3⟩
 have hb2:Below w.heap.size w w2:=hb1.trans (h3.below (fun k hk=>by rw[show k=_ from hk];exact Nat.le_refl _) hb1.size)
 have H2:=Lib.hid h2
 clear h2 h3
 go_wp2_with fail
 go_ret
 exact⟨_,rfl,H2.out,Nat.le_refl _,hb2⟩
end Go.Proofs.YtingnldfpokckaaGreat.D
